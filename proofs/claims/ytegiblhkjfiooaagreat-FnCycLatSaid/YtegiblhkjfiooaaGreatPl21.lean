/- Texts laid together by a program: rules, contracts and the walk that leads to the law. -/
import Derived.Test.YtegiblhkjfiooaaGreatPl20
import Derived.Test.YtegiblhkjfiooaaGreatPl18
import Derived.Test.YtegiblhkjfiooaaGreatPl12
import Derived.Test.YtegiblhkjfiooaaGreatPl10
set_option linter.unusedVariables false
set_option linter.unusedSimpArgs false
set_option linter.unusedSectionVars false
section
namespace Go.Proofs.YtegiblhkjfiooaaGreat.B7
open Go Go.AM Go.Proofs.YtegiblhkjfiooaaGreat
set_option maxRecDepth 100000
set_option maxHeartbeats 8000000
section
variable {H : aA} {nx : Nat} {K : D → aA → Nat → Prop}
theorem MM {q:Req} (h:dH q):dH ⟨q.id,3,q.addr,1,false,[],[]⟩:=by
 obtain⟨h1,h2,⟨h3,h4,h5⟩,h6⟩:=h
 refine⟨h1,by dsimp only;omega,⟨by dsimp only;omega,h4,.inr (by dsimp only;omega)⟩,by simp[n5],by simp[n5],fun x hx=>by simp at hx,fun x hx=>by simp at hx,.inr (.inr rfl)⟩
theorem L4 {q:Req} (h:dH q):q.data.length<2^40∧q.lanes.length<2^40:=by
 obtain⟨h1,h2,⟨h3,h4,h5⟩,h6,h7,h8⟩:=h
 unfold n5 at h6 h7
 constructor
 ·split at h6<;>omega
 ·split at h7<;>omega
theorem yB (l:List Int):aB Tryz.prog kN [dS (l.map eU8)] (hp []) 0 fun r H' n'=>n'=1∧H'=hp [(0,rdO (l.take 2000) 0)]∧r=dP 2 0:=by
 refine DY rfl fun Q hQ=> ?_
 unfold oT
 repeat' (first| (with_reducible first| (refine hK _ _ _ ?_;clear hK K)| (refine hA ?_;clear hA hB A B)| (refine hB ?_;clear hA hB A B)|refine Z1 ?_|refine Z2 ?_|refine Z6 (fun h=> ?_) fun h=> ?_)| (with_reducible first|refine Y2 fun K hK=> ?_|refine Y3 fun A B hA hB=> ?_)<;>(simp only[go_sem])| ((with_reducible refine Y8 ?_);try simp only[AQ.then,AQ.blk,reduceIte,Nat.reduceEqDiff])|refine⟨by omega,?_⟩|fail)
 ·have e:l.take 2000=(l.take 2000).take 2000:=by rw[List.take_take];simp
  (refine hQ _ _ _ _ _ 1 (dP 2 0) (hp [(0,rdO (l.take 2000) 0)]) _ _ (.inr rfl) rfl (fU [9] (by omega) (by repeat' (first| ((with_reducible refine C0 ?_);exact CE (by omega) rfl)| ((with_reducible refine D0 ?_);refine CJ ?_)|fail)) ⟨⟨by simp,by simp[sgL],_,rfl,bS (aV _ _)⟩,trivial⟩ (by simp[sgL])) ?_)
  exact⟨rfl,rfl,rfl⟩
 · (refine hQ _ _ _ _ _ 1 (dP 2 0) (hp [(0,rdO l 0)]) _ _ (.inr rfl) rfl (fU [6] (by omega) (by repeat' (first| ((with_reducible refine C0 ?_);exact CE (by omega) rfl)| ((with_reducible refine D0 ?_);refine CJ ?_)|fail)) ⟨⟨by simp,by simp[sgL],_,rfl,bS (aV _ _)⟩,trivial⟩ (by simp[sgL])) ?_)
   exact⟨rfl,by rw[List.take_of_length_le (by omega)],rfl⟩
theorem F2 {l:List Int} (h:K (dP 2 nx) (H.set nx (rdO (l.take 2000) 0)) (nx+1)):aB Tryz.prog kN [dS (l.map eU8)] H nx K:=by
 refine(yB l).AF (l0:=[]) [] rfl ⟨aE rfl,trivial⟩ trivial (by simp) (by simp) (by simp) fun r H' n' _ ⟨q1,q2,q3⟩=> ?_
 subst q1;subst q2;subst q3
 have e1:back (tau 0 nx (nth [])) (hp [(0,rdO (l.take 2000) 0)]) 1 H=H.set nx (rdO (l.take 2000) 0):=by
  simp only[back,hp,aA.set,tau,Nat.not_lt_zero,if_true,if_false,Nat.sub_zero,Nat.add_zero,Option.map_some,rF (aV _ _),aA.eL]
 rw[←e1] at h
 exact h
theorem zM (l:List Int) (p:Nat) (hl:kZ l) (hp50:p+1000<2^50):aB Tryz.prog lJ [dP 2 0,dI 7] (hp [(0,rdO l p)]) 1
 fun rr H' n'=>n'=1∧ ∃o',H'=hp [(0,o')]∧C7 o'∧ ∃(p':Nat) (c:Cfg),o'=rdO l p'∧p≤p'∧p'≤p+1000∧rr=dA (cU c)∧(aQ c∧jO c):=by
 refine FC rfl fun Q hQ=> ?_
 unfold qQ
 repeat' (first| (with_reducible first| (refine hK _ _ _ ?_;clear hK K)|refine Z1 ?_|refine Z3 fun KB hKB=> ?_)| (first| (with_reducible refine Y2 fun K hK=> ?_)| (refine IV hl (by omega) (by omega) rfl (fun pm m hm1 hm2 hmok=> ?_)))<;>(simp only[go_sem])|fail)
 (have hKX:=hKB;clear hKB)
 refine aM.EJ 1 ?_
 refine aM.sG 3 (β:=Nat×Nat×List Int×Nat)
  (fun b u=>en [(6,dI u.1),(5,dP 3 (b+1)),(4,dP 3 b),(1,dI 7),(0,dP 2 0)])
  (fun b u=>hp [(0,rdO l u.2.1),(b,⟨3,1,[[.osl 0 0 0 0 0,.osl 0 0 0 0 0,.osl 0 0 0 0 0]]⟩),(b+1,⟨3,1,[[.isl (m.map eN),.osl 1 (b+2) 0 u.1 u.2.2.2,.osl 0 0 0 0 0]]⟩),(b+2,⟨1,u.2.2.2,u.2.2.1.map aJ⟩)])
  (fun u=>u.1≤4∧p≤u.2.1∧u.2.1≤p+8+u.1∧u.2.2.1.length=u.1∧All u.2.2.1 0 3∧u.1≤u.2.2.2)
  (fun u=>4-u.1) (0,pm,[],0) ?_ ⟨by dsimp only;omega,by dsimp only;omega,by dsimp only;omega,rfl,by simp[All],by dsimp only;omega⟩ ?_
 · (refine cR [1,5,8,0] (by omega) (by repeat' (first| (with_reducible first|exact C1|refine C2 ?_ ?_)| ((with_reducible refine C0 ?_);exact CE (by omega) rfl)| ((with_reducible refine D0 ?_);first|exact CA rfl|refine CJ ?_)|fail)) ⟨⟨by simp,by simp[sgL],_,rfl,bS (aV _ _)⟩,⟨by simp,by simp[sgL],_,rfl,aP (by repeat' (first| (with_reducible first|exact C3|refine C4 ?_ ?_)| ((with_reducible refine C0 ?_);exact CC)|fail))⟩,⟨by simp,by simp[sgL],_,rfl,aP (by repeat' (first| (with_reducible first|exact C3|refine C4 ?_ ?_)| ((with_reducible refine C0 ?_);first|exact CB rfl|exact CC)|fail))⟩,⟨by simp,by simp[sgL],_,rfl,bP (aG bF _) rfl rfl⟩,trivial⟩ (by simp[sgL]))
 rintro⟨k,pl,la,cl⟩ ⟨f1,f2,f3,f4,f5,f6⟩ KL hKL
 dsimp only at f1 f2 f3 f4 f5 f6
 have hta:la.take k=la:=List.take_of_length_le (by omega)
 by_cases hlt:k<4
 ·repeat' (first| (with_reducible first| (refine hK _ _ _ ?_;clear hK K)| (refine hA ?_;clear hA hB A B)|refine Z1 ?_|refine Z2 ?_|refine Z3 fun KB hKB=> ?_|refine Z4 (by omega) ?_|refine fun(cap:Nat) (hcap:_≤cap)=> ?_|refine fun(hcp:_≤cap)=> ?_)| (first| (with_reducible first|refine Y2 fun K hK=> ?_|refine Y3 fun A B hA hB=> ?_)| (refine aX hl (by omega) (by omega) (by omega) rfl (fun x h1 h2=> ?_)))<;>(simp only[go_sem,hta];try simp (disch:=omega) only[Iw])| ((with_reducible refine Y0 ?_);simp only[AQ.then,AQ.blk])|refine⟨by omega,?_⟩| (with_reducible refine hKB _ _ _ ?_)|fail)
  exact hKL _ _ _ (k+1,pl+1,la++[x],cap) (by omega) (by(refine cR [9,10,19,0] (by omega) (by repeat' (first| (with_reducible first|exact C1|refine C2 ?_ ?_)| ((with_reducible refine C0 ?_);exact CE (by omega) rfl)| ((with_reducible refine D0 ?_);first|exact CA rfl|refine CJ ?_)|fail)) ⟨⟨by simp,by simp[sgL],_,rfl,bS (aV _ _)⟩,⟨by simp,by simp[sgL],_,rfl,aP (by repeat' (first| (with_reducible first|exact C3|refine C4 ?_ ?_)| ((with_reducible refine C0 ?_);exact CC)|fail))⟩,⟨by simp,by simp[sgL],_,rfl,aP (by repeat' (first| (with_reducible first|exact C3|refine C4 ?_ ?_)| ((with_reducible refine C0 ?_);first|exact CB rfl|exact CC|exact CQ (by omega) rfl rfl (by rfl) rfl)|fail))⟩,⟨by simp,by simp[sgL],_,rfl,bP (aG bF _) rfl rfl⟩,trivial⟩ (by simp[sgL]))) ⟨by dsimp only;omega,by dsimp only;omega,by dsimp only;omega,by simp;omega,KC f5 (by omega) (by omega),by dsimp only;omega⟩ (by dsimp only;omega)
 have hk4:k=4:=by omega
 subst hk4
 repeat' (first| (with_reducible first| (refine hK _ _ _ ?_;clear hK K)| (refine hB ?_;clear hA hB A B)|refine Z1 ?_|refine Z3 fun KB hKB=> ?_|refine Z5 (by omega) ?_|refine hKX _ _ _ ?_)| (with_reducible first|refine Y2 fun K hK=> ?_|refine Y3 fun A B hA hB=> ?_)<;>(simp only[go_sem])| ((with_reducible refine Y9 ?_);try simp only[AQ.then,AQ.blk,reduceIte,Nat.reduceEqDiff])|fail)
 (have hKY:=hKB;clear hKB)
 refine aM.EJ 1 ?_
 refine aM.sG 3 (β:=Nat×Nat×List Prog×Nat)
  (fun b u=>en [(7,dI u.1),(5,dP 3 (b+1)),(4,dP 3 b),(1,dI 7),(0,dP 2 0)])
  (fun b u=>hp [(0,rdO l u.2.1),(b,⟨3,1,[[.osl 0 0 0 0 0,.osl 0 0 0 0 0,.osl 0 0 0 0 0]]⟩),(b+1,⟨3,1,[[.isl (m.map eN),.isl (la.map aJ),.osl 1 (b+2) 0 u.1 u.2.2.2]]⟩),(b+2,⟨1,u.2.2.2,u.2.2.1.map jR⟩)])
  (fun u=>u.1≤3∧p≤u.2.1∧u.2.1≤p+12+300*u.1∧u.2.2.1.length=u.1∧(∀pr∈u.2.2.1,pr.length≤12∧ ∀q∈pr,dH q)∧u.1≤u.2.2.2)
  (fun u=>3-u.1) (0,pl,[],0) ?_ ⟨by dsimp only;omega,by dsimp only;omega,by dsimp only;omega,rfl,fun pr hpr=>by simp at hpr,by dsimp only;omega⟩ ?_
 · (refine cR [9,10,15,0] (by omega) (by repeat' (first| (with_reducible first|exact C1|refine C2 ?_ ?_)| ((with_reducible refine C0 ?_);exact CE (by omega) rfl)| ((with_reducible refine D0 ?_);first|exact CA rfl|refine CJ ?_)|fail)) ⟨⟨by simp,by simp[sgL],_,rfl,bS (aV _ _)⟩,⟨by simp,by simp[sgL],_,rfl,aP (by repeat' (first| (with_reducible first|exact C3|refine C4 ?_ ?_)| ((with_reducible refine C0 ?_);exact CC)|fail))⟩,⟨by simp,by simp[sgL],_,rfl,aP (aH (bB rfl) (aH (bW bF rfl (by omega) (by omega) (by simp)) (aH (.VS _ _ _ _ _ _) eP)))⟩,⟨by simp,by simp[sgL],_,rfl,bP (aG iR _) rfl rfl⟩,trivial⟩ (by simp[sgL]))
 rintro⟨k,pl,ps,cp⟩ ⟨g1,g2,g3,g4,g5,g6⟩ KM hKM
 dsimp only at g1 g2 g3 g4 g5 g6
 have htp:ps.take k=ps:=List.take_of_length_le (by omega)
 by_cases hlt:k<3
 ·repeat' (first| (with_reducible first| (refine hK _ _ _ ?_;clear hK K)| (refine hA ?_;clear hA hB A B)|refine Z1 ?_|refine Z2 ?_|refine Z3 fun KB hKB=> ?_|refine Z4 (by omega) ?_)| (first| (with_reducible first|refine Y2 fun K hK=> ?_|refine Y3 fun A B hA hB=> ?_)| (refine aX hl (by omega) (by omega) (by omega) rfl (fun x h1 h2=> ?_)))<;>(simp only[go_sem];try simp (disch:=omega) only[Iw])|fail)
  (have hKZ:=hKB;clear hKB)
  rename_i x hx1 hx2
  refine aM.sG 1 (β:=Nat×Nat×List Req×Nat)
   (fun b u=>en [(9,dI u.1),(8,dO 7 b u.2.2.1.length u.2.2.2),(7,dI k),(5,dP 3 17),(4,dP 3 16),(1,dI 7),(0,dP 2 0)])
   (fun b u=>hp [(0,rdO l u.2.1),(16,⟨3,1,[[.osl 0 0 0 0 0,.osl 0 0 0 0 0,.osl 0 0 0 0 0]]⟩),(17,⟨3,1,[[.isl (m.map eN),.isl (la.map aJ),.osl 1 18 0 k cp]]⟩),(18,⟨1,cp,ps.map jR⟩),(b,⟨7,u.2.2.2,u.2.2.1.map eB⟩)])
   (fun u=>u.1≤7∧p≤u.2.1∧u.2.1≤pl+1+41*(7-u.1)∧(∀q∈u.2.2.1,dH q)∧2*u.1+u.2.2.1.length≤14∧u.2.2.1.length≤u.2.2.2)
   (fun u=>u.1) (x.toNat,pl+1,[],0) ?_ ⟨by dsimp only;omega,by dsimp only;omega,by dsimp only;omega,fun q hq=>by simp at hq,by simp;omega,by simp⟩ ?_
  · (refine cR [21,0,16,17,18] (by omega) (by repeat' (first| (with_reducible first|exact C1|refine C2 ?_ ?_)| ((with_reducible refine C0 ?_);first|exact CC|exact CE (by omega) rfl| (exact CG (by(congr 2;omega)) rfl))| ((with_reducible refine D0 ?_);first|exact CA rfl|refine CJ ?_)|fail)) ⟨⟨by simp,by simp[sgL],_,rfl,bS (aV _ _)⟩,⟨by simp,by simp[sgL],_,rfl,aP (by repeat' (first| (with_reducible first|exact C3|refine C4 ?_ ?_)| ((with_reducible refine C0 ?_);exact CC)|fail))⟩,⟨by simp,by simp[sgL],_,rfl,aP (by repeat' (first| (with_reducible first|exact C3|refine C4 ?_ ?_)| ((with_reducible refine C0 ?_);first|exact CB rfl|exact CQ (by omega) rfl rfl (by rfl) rfl)|fail))⟩,⟨by simp,by simp[sgL],_,rfl,bP (aG iR _) rfl rfl⟩,⟨by simp,by simp[sgL],_,rfl,bP (aG rL _) rfl rfl⟩,trivial⟩ (by simp[sgL]))
  rintro⟨j,pj,rs,cr⟩ ⟨e1,e2,e3,e4,e5,e6⟩ KN hKN
  dsimp only at e1 e2 e3 e4 e5 e6
  have htr:rs.take rs.length=rs:=List.take_length
  by_cases hj:0<j
  ·refine aM.seq ?_
   repeat' (first| (with_reducible first| (refine hK _ _ _ ?_;clear hK K)| (refine hA ?_;clear hA hB A B)|refine Z2 ?_|refine Z4 (by omega) ?_)| (with_reducible first|refine Y1 fun K hK=> ?_|refine Y3 fun A B hA hB=> ?_)<;>(simp only[go_sem])|fail)
   refine aM.seq ?_
   repeat' (first| (with_reducible first| (refine hK _ _ _ ?_;clear hK K)|refine Z3 fun KB hKB=> ?_)| (first| (with_reducible refine Y1 fun K hK=> ?_)| (refine ID hl (by omega) (by omega) rfl (fun pq q hq1 hq2 hq3=> ?_)))<;>(simp only[go_sem])|fail)
   refine aM.apW 2 (β:=Nat×List Req×Nat)
    (fun b u=>en [(10,dP 7 (b+1)),(9,dI j),(8,dO 7 b u.2.1.length u.2.2),(7,dI k),(5,dP 3 17),(4,dP 3 16),(1,dI 7),(0,dP 2 0)])
    (fun b u=>hp [(0,rdO l u.1),(16,⟨3,1,[[.osl 0 0 0 0 0,.osl 0 0 0 0 0,.osl 0 0 0 0 0]]⟩),(17,⟨3,1,[[.isl (m.map eN),.isl (la.map aJ),.osl 1 18 0 k cp]]⟩),(18,⟨1,cp,ps.map jR⟩),(b,⟨7,u.2.2,u.2.1.map eB⟩),(b+1,⟨7,1,[eB q]⟩)])
    (fun u=>p≤u.1∧u.1≤pj+41∧(∀q∈u.2.1,dH q)∧u.2.1.length≤rs.length+1∧u.2.1.length≤u.2.2) (fun KJ hKJ=> ?_) ?_
   ·repeat' (first| (with_reducible first| (refine hK _ _ _ ?_;clear hK K)| (refine hA ?_;clear hA hB A B)| (refine hB ?_;clear hA hB A B)|refine Z1 ?_|refine Z2 ?_|refine Z6 (fun h=> ?_) fun h=> ?_|refine fun(cap:Nat) (hcap:_≤cap)=> ?_|refine fun(hcp:_≤cap)=> ?_)| (first| (with_reducible first|refine Y2 fun K hK=> ?_|refine Y3 fun A B hA hB=> ?_|refine Y6 (fun h=> ?_) fun h=> ?_)| (refine aX hl (by omega) (by omega) (by omega) rfl (fun x h1 h2=> ?_)))<;>(simp only[go_sem,htr])| ((with_reducible refine Y0 ?_);simp only[AQ.then,AQ.blk])|refine⟨by omega,?_⟩|fail)
    ·refine hKJ _ _ _ (pq+1,rs++[⟨q.id,3,q.addr,1,false,[],[]⟩],cap) (by(refine cR [55,33,0,16,17,18] (by omega) (by repeat' (first| (with_reducible first|exact C1|refine C2 ?_ ?_)| ((with_reducible refine C0 ?_);first| (exact CQ (by omega) rfl rfl (by first|rfl| (simp;done)) rfl)|exact CE (by omega) rfl)| ((with_reducible refine D0 ?_);first|exact CA rfl|refine CJ ?_)|fail)) ⟨⟨by simp,by simp[sgL],_,rfl,bS (aV _ _)⟩,⟨by simp,by simp[sgL],_,rfl,aP (by repeat' (first| (with_reducible first|exact C3|refine C4 ?_ ?_)| ((with_reducible refine C0 ?_);exact CC)|fail))⟩,⟨by simp,by simp[sgL],_,rfl,aP (by repeat' (first| (with_reducible first|exact C3|refine C4 ?_ ?_)| ((with_reducible refine C0 ?_);first|exact CB rfl|exact CQ (by omega) rfl rfl (by rfl) rfl)|fail))⟩,⟨by simp,by simp[sgL],_,rfl,bP (aG iR _) rfl rfl⟩,⟨by simp,by simp[sgL],_,rfl,uO (R:=rs.map eB) (r':=eB ⟨q.id,3,q.addr,1,false,[],[]⟩) (by simp) rfl (fun r hr=>(aG rL rs r hr).2) rfl (aH (bB rfl) (aH (bB rfl) (aH (bB rfl) (aH (bB rfl) (aH (bB rfl) (aH xG (aH xG eP)))))))⟩,⟨by simp,by simp[sgL],_,rfl,aP (by repeat' (first| (with_reducible first|exact C3|refine C4 ?_ ?_)| ((with_reducible refine C0 ?_);exact CB rfl)|refine C4 ?_ ?_|fail))⟩,trivial⟩ (by simp[sgL]))) ⟨by dsimp only;omega,by dsimp only;omega,fun q' hq'=> ?_,by simp,by simpa using hcap⟩
     rcases List.mem_append.1 hq' with hq'|hq'
     ·exact e4 q' hq'
     ·simp at hq';subst hq';exact MM hq3
    all_goals refine hKJ _ _ _ (_,rs,cr) (by(refine cR [28,33,0,16,17,18] (by omega) (by repeat' (first| (with_reducible first|exact C1|refine C2 ?_ ?_)| ((with_reducible refine C0 ?_);first|exact CQ (by omega) rfl rfl (by rfl) rfl|exact CE (by omega) rfl)| ((with_reducible refine D0 ?_);first|exact CA rfl|refine CJ ?_)|fail)) ⟨⟨by simp,by simp[sgL],_,rfl,bS (aV _ _)⟩,⟨by simp,by simp[sgL],_,rfl,aP (by repeat' (first| (with_reducible first|exact C3|refine C4 ?_ ?_)| ((with_reducible refine C0 ?_);exact CC)|fail))⟩,⟨by simp,by simp[sgL],_,rfl,aP (by repeat' (first| (with_reducible first|exact C3|refine C4 ?_ ?_)| ((with_reducible refine C0 ?_);first|exact CB rfl|exact CQ (by omega) rfl rfl (by rfl) rfl)|fail))⟩,⟨by simp,by simp[sgL],_,rfl,bP (aG iR _) rfl rfl⟩,⟨by simp,by simp[sgL],_,rfl,bP (aG rL _) rfl rfl⟩,⟨by simp,by simp[sgL],_,rfl,aP (by repeat' (first| (with_reducible first|exact C3|refine C4 ?_ ?_)| ((with_reducible refine C0 ?_);exact CB rfl)|refine C4 ?_ ?_|fail))⟩,trivial⟩ (by simp[sgL]))) ⟨by dsimp only;omega,by dsimp only;omega,e4,by dsimp only;omega,e6⟩
   rintro⟨pk,rk,ck⟩ ⟨d1,d2,d3,d4,d5⟩
   dsimp only at d1 d2 d3 d4 d5
   have htk:rk.take rk.length=rk:=List.take_length
   repeat' (first| (with_reducible first| (refine hK _ _ _ ?_;clear hK K)|refine fun(cap:Nat) (hcap:_≤cap)=> ?_|refine fun(hcp:_≤cap)=> ?_)| (with_reducible refine Y2 fun K hK=> ?_)<;>(simp only[go_sem,htk];try simp (disch:=omega) only[Iw])| ((with_reducible refine Y0 ?_);simp only[AQ.then,AQ.blk])|refine⟨by omega,?_⟩| (with_reducible refine hKB _ _ _ ?_)|fail)
   refine hKN _ _ _ (j-1,pk,rk++[q],cap) (by omega) (by(refine cR [40,0,16,17,18] (by omega) (by repeat' (first| (with_reducible first|exact C1|refine C2 ?_ ?_)| ((with_reducible refine C0 ?_);first| (exact CQ (by omega) rfl rfl (by first|rfl| (simp;done)) rfl)|exact CE (by omega) rfl| (exact CG (by(congr 2;omega)) rfl))| ((with_reducible refine D0 ?_);first|exact CA rfl|refine CJ ?_)|fail)) ⟨⟨by simp,by simp[sgL],_,rfl,bS (aV _ _)⟩,⟨by simp,by simp[sgL],_,rfl,aP (by repeat' (first| (with_reducible first|exact C3|refine C4 ?_ ?_)| ((with_reducible refine C0 ?_);exact CC)|fail))⟩,⟨by simp,by simp[sgL],_,rfl,aP (by repeat' (first| (with_reducible first|exact C3|refine C4 ?_ ?_)| ((with_reducible refine C0 ?_);first|exact CB rfl|exact CQ (by omega) rfl rfl (by rfl) rfl)|fail))⟩,⟨by simp,by simp[sgL],_,rfl,bP (aG iR _) rfl rfl⟩,⟨by simp,by simp[sgL],_,rfl,bP (aG rL _) rfl rfl⟩,trivial⟩ (by simp[sgL]))) ⟨by dsimp only;omega,by dsimp only;omega,by dsimp only;omega,fun q' hq'=> ?_,by simp;omega,by simpa using hcap⟩ (by dsimp only;omega)
   rcases List.mem_append.1 hq' with hq'|hq'
   ·exact d3 q' hq'
   ·simp at hq';subst hq';exact hq3
  ·by_cases hmin:(rs.length:Int)≤12
   ·repeat' (first| (with_reducible first| (refine hK _ _ _ ?_;clear hK K)| (refine hB ?_;clear hA hB A B)|refine Z1 ?_|refine Z5 (by omega) ?_|refine fun(cap:Nat) (hcap:_≤cap)=> ?_|refine fun(hcp:_≤cap)=> ?_|refine hKZ _ _ _ ?_)| (with_reducible first|refine Y2 fun K hK=> ?_|refine Y3 fun A B hA hB=> ?_)<;>(simp only[go_sem,htp];try simp (disch:=omega) only[Iw])| ((with_reducible refine Y9 ?_);try simp only[AQ.then,AQ.blk,reduceIte,Nat.reduceEqDiff])| ((with_reducible refine Y0 ?_);simp only[AQ.then,AQ.blk])|refine⟨by omega,?_⟩| (with_reducible refine hKB _ _ _ ?_)|fail)
    refine hKM _ _ _ (k+1,pj,ps++[rs],cap) (by omega) (by(refine cR [16,17,39,0] (by omega) (by repeat' (first| (with_reducible first|exact C1|refine C2 ?_ ?_)| ((with_reducible refine C0 ?_);exact CE (by omega) rfl)| ((with_reducible refine D0 ?_);first|exact CA rfl|refine CJ ?_)|fail)) ⟨⟨by simp,by simp[sgL],_,rfl,bS (aV _ _)⟩,⟨by simp,by simp[sgL],_,rfl,aP (by repeat' (first| (with_reducible first|exact C3|refine C4 ?_ ?_)| ((with_reducible refine C0 ?_);exact CC)|fail))⟩,⟨by simp,by simp[sgL],_,rfl,aP (by repeat' (first| (with_reducible first|exact C3|refine C4 ?_ ?_)| ((with_reducible refine C0 ?_);first|exact CB rfl|exact CQ (by omega) rfl rfl (by rfl) rfl)|fail))⟩,⟨by simp,by simp[sgL],_,rfl,uO (R:=ps.map jR) (r':=jR rs) (by simp) rfl (fun r hr=>(aG iR ps r hr).2) rfl (aH (bW rL rfl (by rw[if_neg (by omega)];omega) (by omega) (by simp)) eP)⟩,trivial⟩ (by simp[sgL]))) ⟨by dsimp only;omega,by dsimp only;omega,by dsimp only;omega,by simp;omega,fun pr hpr=> ?_,by dsimp only;omega⟩ (by dsimp only;omega)
    rcases List.mem_append.1 hpr with hpr|hpr
    ·exact g5 pr hpr
    ·simp at hpr;subst hpr;exact⟨by omega,e4⟩
   ·repeat' (first| (with_reducible first| (refine hK _ _ _ ?_;clear hK K)| (refine hB ?_;clear hA hB A B)|refine Z1 ?_|refine Z5 (by omega) ?_|refine fun(cap:Nat) (hcap:_≤cap)=> ?_|refine fun(hcp:_≤cap)=> ?_|refine hKZ _ _ _ ?_)| (with_reducible first|refine Y2 fun K hK=> ?_|refine Y3 fun A B hA hB=> ?_)<;>(simp only[go_sem,htp];try simp (disch:=omega) only[Iw])| ((with_reducible refine Y9 ?_);try simp only[AQ.then,AQ.blk,reduceIte,Nat.reduceEqDiff])| ((with_reducible refine Y0 ?_);simp only[AQ.then,AQ.blk])|refine⟨by omega,?_⟩| (with_reducible refine hKB _ _ _ ?_)|fail)
    refine hKM _ _ _ (k+1,pj,ps++[rs.take 12],cap) (by omega) (by(refine cR [16,17,39,0] (by omega) (by repeat' (first| (with_reducible first|exact C1|refine C2 ?_ ?_)| ((with_reducible refine C0 ?_);exact CE (by omega) rfl)| ((with_reducible refine D0 ?_);first|exact CA rfl|refine CJ ?_)|fail)) ⟨⟨by simp,by simp[sgL],_,rfl,bS (aV _ _)⟩,⟨by simp,by simp[sgL],_,rfl,aP (by repeat' (first| (with_reducible first|exact C3|refine C4 ?_ ?_)| ((with_reducible refine C0 ?_);exact CC)|fail))⟩,⟨by simp,by simp[sgL],_,rfl,aP (by repeat' (first| (with_reducible first|exact C3|refine C4 ?_ ?_)| ((with_reducible refine C0 ?_);first|exact CB rfl|exact CQ (by omega) rfl rfl (by rfl) rfl)|fail))⟩,⟨by simp,by simp[sgL],_,rfl,uO (R:=ps.map jR) (r':=jR (rs.take 12)) (by simp) rfl (fun r hr=>(aG iR ps r hr).2) rfl (aH (XN (aG rL (rs.take 12)) (by rw[if_pos (by omega),List.length_map,List.length_take];omega) (by simp) rfl rfl (by dsimp only;rw[List.length_map,List.length_take,List.map_take,show min 12 rs.length=12 by omega]) (by rw[List.length_map,List.length_take];omega)) eP)⟩,trivial⟩ (by simp[sgL]))) ⟨by dsimp only;omega,by dsimp only;omega,by dsimp only;omega,by simp;omega,fun pr hpr=> ?_,by dsimp only;omega⟩ (by dsimp only;omega)
    rcases List.mem_append.1 hpr with hpr|hpr
    ·exact g5 pr hpr
    ·simp at hpr;subst hpr;exact⟨by simp;omega,fun q hq=>e4 q (List.mem_of_mem_take hq)⟩
 ·repeat' (first| (with_reducible first| (refine hK _ _ _ ?_;clear hK K)| (refine hB ?_;clear hA hB A B)|refine Z1 ?_|refine Z5 (by omega) ?_|refine hKY _ _ _ ?_)| (with_reducible first|refine Y2 fun K hK=> ?_|refine Y3 fun A B hA hB=> ?_)<;>(simp only[go_sem])| ((with_reducible first|refine Y8 ?_|refine Y9 ?_);try simp only[AQ.then,AQ.blk,reduceIte,Nat.reduceEqDiff])|fail)
  have hk3:k=3:=by omega
  subst hk3
  refine lA hQ (dA (cU ⟨m,la,ps⟩)) _ _ rfl (aH (bB rfl) (aH (bB rfl) (aH (bW iR rfl (by dsimp only;omega) (by dsimp only;omega) (by decide)) eP))) rfl (aV _ _) ⟨pl,⟨m,la,ps⟩,rfl,by omega,by omega,rfl,?_⟩
  have hpo: ∀pr∈ps,mV pr:=fun pr hpr=>by
   obtain⟨q1,q2⟩:=g5 pr hpr
   refine⟨by omega,fun hc=> ?_⟩
   obtain⟨x,hx,hx2⟩:=cH.1 hc
   exact of_decide_eq_true hx2 (q2 x hx)
  refine⟨⟨hmok,by dsimp only;omega,f5,by dsimp only;omega,fun hc=> ?_⟩,⟨by have:=hmok.1;dsimp only;omega,by dsimp only;omega,by dsimp only;omega,fun pr hpr=>by have:=(g5 pr hpr).1;omega,fun pr hpr q hq=> ?_⟩⟩
  ·obtain⟨x,hx,hx2⟩:=cH.1 hc
   exact of_decide_eq_true hx2 (hpo x hx)
  ·exact L4 ((g5 pr hpr).2 q hq)
theorem IG {l:List Int} {p i:Nat} (hl:kZ l) (hp50:p+1000<2^50) (hi:i<nx) (ho:H i=some (rdO l p)) (h: ∀(p':Nat) (c:Cfg),p≤p'→p'≤p+1000→(aQ c∧jO c)→K (dA (cU c)) (H.set i (rdO l p')) nx):
 aB Tryz.prog lJ [dP 2 i,dI 7] H nx K:=
 (zM l p hl hp50).OU i rfl (gW ⟨DG (by omega) rfl,aE rfl,trivial⟩) hi ho (aV l p) fun r o' ⟨p',c,h1,h2,h3,h4,h5⟩=>by
  subst h1;subst h4;exact EW (A:=fun d=>K d (H.set i (rdO l p')) nx) rfl (h p' c h2 h3 h5)
end
end Go.Proofs.YtegiblhkjfiooaaGreat.B7
namespace Go.Proofs.YtegiblhkjfiooaaGreat
open Go Go.AM
set_option maxRecDepth 100000
set_option maxHeartbeats 8000000
theorem UA:cJ Tryz.prog CS Tryz.f178 zW IZ:=cJ.mk Tryz.func178 (by kernel_rfl) UW
theorem T4:cJ Tryz.prog B9 Tryz.f109 z9 I6:=cJ.mk Tryz.func109 (by kernel_rfl) U3
theorem RX:cJ Tryz.prog AE Tryz.f57 yD FE:=cJ.mk Tryz.func57 (by kernel_rfl) R1
section
variable {H : aA} {nx : Nat} {K : D → aA → Nat → Prop}
theorem YE (h: ∀H' nx',nx+4≤nx'→H' (nx+1)=some ⟨1,3,[true,true,true].map eH⟩→H' (nx+2)=some ⟨1,4,[false,false,false,false].map eH⟩→H' (nx+3)=some ⟨1,3,[true,true,true].map eH⟩→(∀id,id<nx→H' id=H id)→K (dA [.osl 1 (nx+1) 0 3 3,.osl 1 (nx+2) 0 4 4,.osl 1 (nx+3) 0 3 3]) H' nx'):aB Tryz.prog CS [] H nx K:=by
 refine UA rfl fun Q hQ=> ?_
 unfold zW
 repeat' (first| (with_reducible first| (refine hK _ _ _ ?_;clear hK K)|refine Z1 ?_)| (with_reducible refine Y2 fun K hK=> ?_)<;>(simp only[go_sem,Nat.add_assoc,Nat.left_eq_add,Nat.add_eq_left])| ((with_reducible refine Y8 ?_);try simp only[AQ.then,AQ.blk,reduceIte,Nat.reduceEqDiff])|fail)
 refine hQ _ _ _ _ _ (.inr rfl) (fZ (m:=1) rfl (by simp only[aA.set,Nat.left_eq_add,Nat.reduceEqDiff,if_false,if_true,Nat.one_ne_zero,reduceIte]) rfl) (h _ _ (by omega) ?_ ?_ ?_ fun id hid=> ?_)
 ·simp only[aA.set,Nat.add_left_cancel_iff,Nat.reduceEqDiff,if_false,if_true];rfl
 ·simp only[aA.set,Nat.add_left_cancel_iff,Nat.reduceEqDiff,if_false,if_true];rfl
 ·simp only[aA.set,Nat.add_left_cancel_iff,Nat.reduceEqDiff,if_false,if_true];rfl
 ·simp only[aA.set,show ¬id=nx by omega,show ¬id=nx+1 by omega,show ¬id=nx+2 by omega,show ¬id=nx+3 by omega,if_false]
theorem YJ {l:List Int} {p i:Nat} {slow:Int} (hl:kZ l) (hp50:p+20<2^50) (hsl:0<slow∧slow<1000) (hi:i<nx) (ho:H i=some (rdO l p))
 (h: ∀H' nx' p' x,nx≤nx'→p'≤p+10→vZ x→H' i=some (rdO l p')→(∀id,id<nx→id≠i→H' id=H id)→K (dA (eIn x)) H' nx'):aB Tryz.prog B9 [dP 2 i,dI slow] H nx K:=by
 refine aB.tW ?_
 refine T4 rfl fun Q hQ=> ?_
 unfold z9
 repeat' (first| (with_reducible first| (refine hK _ _ _ ?_;clear hK K)|refine Z1 ?_|refine Z3 fun KB hKB=> ?_)| (first| (with_reducible refine Y2 fun K hK=> ?_)| (refine YE (fun H' nx' hx f1 f2 f3 ffr=> ?_)))<;>(simp only[go_sem,Nat.add_assoc,Nat.left_eq_add,Nat.add_eq_left])|fail)
 (have hKX:=hKB;clear hKB)
 refine aM.TF fun G0 hG0=> ?_
 have c0:G0 nx=some ⟨3,1,[[.osl 0 0 0 0 0,.osl 0 0 0 0 0,.osl 0 0 0 0 0]]⟩:=by rw[hG0,aA.aC (by omega),ffr _ (by omega)];exact aA.bH
 have c2:G0 (nx+2)=some ⟨3,1,[[.osl 1 (nx+5) 0 3 3,.osl 1 (nx+6) 0 4 4,.osl 1 (nx+7) 0 3 3]]⟩:=by rw[hG0];exact aA.bH
 have c5:G0 (nx+5)=some ⟨1,3,[true,true,true].map eH⟩:=by rw[hG0,aA.aC (by omega)];exact f1
 have c6:G0 (nx+6)=some ⟨1,4,[false,false,false,false].map eH⟩:=by rw[hG0,aA.aC (by omega)];exact f2
 have c7:G0 (nx+7)=some ⟨1,3,[true,true,true].map eH⟩:=by rw[hG0,aA.aC (by omega)];exact f3
 have ci:G0 i=some (rdO l p):=by rw[hG0,aA.aC (by omega),ffr _ (by omega),aA.aC (by omega)];exact ho
 have cfr: ∀id,id<nx→G0 id=H id:=fun id hid=>by rw[hG0,aA.aC (by omega),ffr _ (by omega),aA.aC (by omega)]
 clear hG0 f1 f2 f3 ffr
 refine aM.gP (β:=Nat×Nat×List Bool×List Bool) (fun u=>en [(6,dI u.1),(5,.one (.c (.ptr 3 (nx+2) 0 0))),(4,.one (.c (.ptr 3 nx 0 0))),(1,dI slow),(0,dP 2 i)])
  (fun u H1 _=>u.1≤3∧u.2.1≤p+2*u.1∧u.2.2.1.length=3∧u.2.2.2.length=3∧H1 i=some (rdO l u.2.1)∧H1 (nx+5)=some ⟨1,3,u.2.2.1.map eH⟩∧H1 (nx+7)=some ⟨1,3,u.2.2.2.map eH⟩∧ ∀id,id<nx+8→id≠i→id≠nx+5→id≠nx+7→H1 id=G0 id)
  (fun u=>3-u.1) (0,p,[true,true,true],[true,true,true]) ⟨noF,_,by repeat' (first| (with_reducible first|exact C1|refine C2 ?_ ?_)| ((with_reducible refine C0 ?_);exact CE (by omega) rfl)| ((with_reducible refine D0 ?_);first|exact CA rfl|refine CJ ?_)|fail),aK,by dsimp only;omega,by dsimp only;omega,rfl,rfl,ci,c5,c7,fun _ _ _ _ _=>rfl⟩ ?_
 rintro⟨k,q,ra,rc⟩ H1 nx1 hnx ⟨hk,hq,hra,hrc,gi,g5,g7,hfr⟩ KL hKL
 dsimp only at hk hq hra hrc gi g5 g7
 have g2:=(hfr (nx+2) (by omega) (by omega) (by omega) (by omega)).trans c2
 have hA:bQ nx1 [i,nx,nx+2,nx+5,nx+6,nx+7]:=AM.apart (by simp;omega) (by simp;omega)
 simp only[bQ,eZ] at hA
 by_cases hlt:k<3
 ·repeat' (first| (with_reducible first| (refine hK _ _ _ ?_;clear hK K)| (refine hA ?_;clear hA hB A B)|refine Z1 ?_|refine Z2 ?_|refine Z3 fun KB hKB=> ?_|refine Z4 (by omega) ?_)| (first| (with_reducible first|refine Y2 fun K hK=> ?_|refine Y3 fun A B hA hB=> ?_)| (refine aX (p:=q) hl (by omega) (by omega) (by omega) gi (fun x h1 h2=> ?_))| (refine aX (p:=q+1) hl (by omega) (by omega) (by omega) (by simp only[aA.set,hA,if_false,if_true,gi]) (fun x h1 h2=> ?_)))<;>(simp only[go_sem,Nat.add_assoc,Nat.left_eq_add,Nat.add_eq_left,g2,g5,g7,gi,hA];try simp (disch:=omega) only[Iw])| ((with_reducible refine Y0 ?_);simp only[AQ.then,AQ.blk])|refine⟨by omega,?_⟩| (with_reducible refine hKB _ _ _ ?_)|fail)
  have er: ∀(r:List Bool) (y:Int),(r.map eH).set k [D1.v (.bool (decide (0<y)))]=(r.set k (decide (0<y))).map eH:=fun r y=>by rw[List.map_set];rfl
  rename_i y hy1 hy2
  rw[er,er]
  refine hKL _ _ _ (k+1,q+1+1,ra.set k (decide (0<y)),rc.set k (decide (0<x))) noF _ (by omega) (by dsimp only;omega) (by repeat' (first| (with_reducible first|exact C1|refine C2 ?_ ?_)| ((with_reducible refine C0 ?_);exact CE (by omega) rfl)| ((with_reducible refine D0 ?_);first|exact CA rfl|refine CJ ?_)|fail)) aK ⟨by dsimp only;omega,by dsimp only;omega,by simpa using hra,by simpa using hrc,?_,?_,?_,fun id d1 d2 d3 d4=> ?_⟩
  ·dsimp only;rw[aA.aC (by omega),aA.aC (by omega)];exact aA.bH
  ·dsimp only;rw[aA.aC (by omega)];exact aA.bH
  ·exact aA.bH
  ·rw[aA.aC d4,aA.aC d3,aA.aC d2];exact hfr id d1 d2 d3 d4
 ·repeat' (first| (with_reducible first| (refine hK _ _ _ ?_;clear hK K)| (refine hB ?_;clear hA hB A B)|refine Z1 ?_|refine Z3 fun KB hKB=> ?_|refine Z5 (by omega) ?_|refine hKX _ _ _ ?_)| (with_reducible first|refine Y2 fun K hK=> ?_|refine Y3 fun A B hA hB=> ?_)<;>(simp only[go_sem])| ((with_reducible refine Y9 ?_);try simp only[AQ.then,AQ.blk,reduceIte,Nat.reduceEqDiff])|fail)
  have hk3:k=3:=by omega
  subst hk3
  have g6:=(hfr (nx+6) (by omega) (by omega) (by omega) (by omega)).trans c6
  (have hKY:=hKB;clear hKB)
  refine aM.gP (β:=Nat×Nat×List Bool) (fun u=>en [(7,dI u.1),(5,.one (.c (.ptr 3 (nx+2) 0 0))),(4,.one (.c (.ptr 3 nx 0 0))),(1,dI slow),(0,dP 2 i)])
   (fun u H2 _=>u.1≤4∧u.2.1≤p+6+u.1∧u.2.2.length=4∧H2 i=some (rdO l u.2.1)∧H2 (nx+6)=some ⟨1,4,u.2.2.map eH⟩∧ ∀id,id<nx1→id≠i→id≠nx+6→H2 id=H1 id)
   (fun u=>4-u.1) (0,q,[false,false,false,false]) ⟨noF,_,by repeat' (first| (with_reducible first|exact C1|refine C2 ?_ ?_)| ((with_reducible refine C0 ?_);exact CE (by omega) rfl)| ((with_reducible refine D0 ?_);first|exact CA rfl|refine CJ ?_)|fail),aK,by dsimp only;omega,by dsimp only;omega,rfl,gi,g6,fun _ _ _ _=>rfl⟩ ?_
  rintro⟨k,q2,rb⟩ H2 nx2 hnx2 ⟨hk,hq2,hrb,hi2,h6,hfr2⟩ KM hKM
  dsimp only at hk hq2 hrb hi2 h6
  have b2:=(hfr2 (nx+2) (by omega) (by omega) (by omega)).trans g2
  have b0:=(hfr2 nx (by omega) (by omega) (by omega)).trans ((hfr nx (by omega) (by omega) (by omega) (by omega)).trans c0)
  have hA2:bQ nx2 [i,nx,nx+2,nx+5,nx+6,nx+7]:=AM.apart (by simp;omega) (by simp;omega)
  simp only[bQ,eZ] at hA2
  by_cases hlt:k<4
  ·repeat' (first| (with_reducible first| (refine hK _ _ _ ?_;clear hK K)| (refine hA ?_;clear hA hB A B)|refine Z1 ?_|refine Z2 ?_|refine Z3 fun KB hKB=> ?_|refine Z4 (by omega) ?_)| (first| (with_reducible first|refine Y2 fun K hK=> ?_|refine Y3 fun A B hA hB=> ?_)| (refine aX (p:=q2) hl (by omega) (by omega) (by omega) hi2 (fun x h1 h2=> ?_)))<;>(simp only[go_sem,Nat.add_assoc,Nat.left_eq_add,Nat.add_eq_left,b2,h6,hi2,hA2];try simp (disch:=omega) only[Iw])| ((with_reducible refine Y0 ?_);simp only[AQ.then,AQ.blk])|refine⟨by omega,?_⟩| (with_reducible refine hKB _ _ _ ?_)|fail)
   have er: ∀(r:List Bool) (y:Int),(r.map eH).set k [D1.v (.bool (decide (y=0)))]=(r.set k (decide (y=0))).map eH:=fun r y=>by rw[List.map_set];rfl
   rw[er]
   refine hKM _ _ _ (k+1,q2+1,rb.set k (decide (x=0))) noF _ (by omega) (by dsimp only;omega) (by repeat' (first| (with_reducible first|exact C1|refine C2 ?_ ?_)| ((with_reducible refine C0 ?_);exact CE (by omega) rfl)| ((with_reducible refine D0 ?_);first|exact CA rfl|refine CJ ?_)|fail)) aK ⟨by dsimp only;omega,by dsimp only;omega,by simpa using hrb,?_,?_,fun id d1 d2 d3=> ?_⟩
   ·dsimp only;rw[aA.aC (by omega)];exact aA.bH
   ·exact aA.bH
   ·rw[aA.aC d3,aA.aC d2];exact hfr2 id d1 d2 d3
  ·repeat' (first| (with_reducible first| (refine hK _ _ _ ?_;clear hK K)| (refine hB ?_;clear hA hB A B)|refine Z1 ?_|refine Z5 (by omega) ?_|refine hKY _ _ _ ?_)| (with_reducible first|refine Y2 fun K hK=> ?_|refine Y3 fun A B hA hB=> ?_)<;>(simp only[go_sem,Nat.add_assoc,Nat.left_eq_add,Nat.add_eq_left,b2,b0,hA2])| ((with_reducible first|refine Y8 ?_|refine Y9 ?_);try simp only[AQ.then,AQ.blk,reduceIte,Nat.reduceEqDiff])|fail)
   have b5:=(hfr2 (nx+5) (by omega) (by omega) (by omega)).trans g5
   have b7:=(hfr2 (nx+7) (by omega) (by omega) (by omega)).trans g7
   refine hQ _ _ _ _ _ (.inr rfl) (fZ rfl aA.bH rfl) ⟨dA (eIn ⟨ra,rb,rc⟩),_,fun j=>nx+5≤j∧j<nx+5+3,lY (aH (bW mK ((aA.aC (by omega)).trans b5) hra.symm (by dsimp only;omega) (by omega)) (aH (bW mK ((aA.aC (by omega)).trans h6) hrb.symm (by dsimp only;omega) (by omega)) (aH (bW mK ((aA.aC (by omega)).trans b7) hrc.symm (by dsimp only;omega) (by omega)) eP))),ZW,h _ _ q2 ⟨ra,rb,rc⟩ (by omega) (by omega) ⟨hra,hrb,hrc⟩ ?_ fun id d1 d2=> ?_⟩
   ·rw[acA (by omega),aA.aC (by omega)];exact hi2
   ·rw[acA (by omega),aA.aC (by omega),hfr2 id (by omega) d2 (by omega),hfr id (by omega) d2 (by omega) (by omega)];exact cfr id d1
theorem UD {l:List Int} {p i:Nat} (hl:kZ l) (hp50:p+2000<2^50) (hi:i<nx) (ho:H i=some (rdO l p))
 (h: ∀H' nx' p' (xs:List CIn),nx≤nx'→xs.length≤90→(∀x∈xs,vZ x)→H' i=some (rdO l p')→(∀id,id<nx→id≠i→H' id=H id)→K (dS (xs.map eIn)) H' nx'):aB Tryz.prog AE [dP 2 i,dI 90] H nx K:=by
 refine aB.tW ?_
 refine RX rfl fun Q hQ=> ?_
 unfold yD
 have hA:bQ nx [i]:=AM.apart (by simp) (by simp;omega)
 simp only[bQ,eZ] at hA
 repeat' (first| (with_reducible first| (refine hK _ _ _ ?_;clear hK K)|refine Z1 ?_)| (with_reducible refine Y2 fun K hK=> ?_)<;>(simp only[go_sem,Nat.add_assoc,Nat.left_eq_add,Nat.add_eq_left,hA])|fail)
 refine aX (p:=p) hl (by omega) (by omega) (by omega) (by simp only[aA.set,hA,if_false];exact ho) fun x h1 h2=> ?_
 obtain⟨slow,hs1,hs2⟩: ∃slow:Int,[[D1.v (Value.int IntKind.i64 2)],[D1.v (Value.int IntKind.i64 3)],[D1.v (Value.int IntKind.i64 5)],[D1.v (Value.int IntKind.i64 20)]][x.toNat]?=some [cI slow]∧0<slow∧slow<1000:=by
  have:x=0∨x=1∨x=2∨x=3:=by omega
  rcases this with rfl|rfl|rfl|rfl
  ·exact⟨2,rfl,by omega⟩
  ·exact⟨3,rfl,by omega⟩
  ·exact⟨5,rfl,by omega⟩
  ·exact⟨20,rfl,by omega⟩
 have hx0:(0≤x)=True:=eq_true h1
 have hx4:(x<4)=True:=eq_true (by omega)
 simp only[go_sem,Nat.add_assoc,Nat.left_eq_add,Nat.add_eq_left,Nat.reduceAdd,hA,hs1,hx0,hx4]
 refine⟨by omega,?_⟩
 refine hK _ _ _ ?_
 clear hK K
 repeat' (first| (with_reducible refine Z1 ?_)| (with_reducible refine Y2 fun K hK=> ?_)<;>(simp only[go_sem])|fail)
 refine aX (p:=p+1) hl (by omega) (by omega) (by omega) aA.bH fun y hy1 hy2=> ?_
 simp only[go_sem]
 repeat' (first| (with_reducible first| (refine hK _ _ _ ?_;clear hK K)|refine Z3 fun KB hKB=> ?_)|fail)
 (have hKX:=hKB;clear hKB)
 refine aM.TF fun G0 hG0=> ?_
 have ci:G0 i=some (rdO l (p+1+1)):=by rw[hG0];exact aA.bH
 have c1:G0 (nx+1)=some ⟨3,0,[]⟩:=by rw[hG0];simp only[aA.set,show ¬nx+1=i by omega,Nat.add_left_cancel_iff,Nat.reduceEqDiff,if_false,if_true]
 have cfr: ∀id,id<nx→id≠i→G0 id=H id:=fun id d1 d2=>by rw[hG0];simp only[aA.set,d2,show ¬id=nx+1 by omega,show ¬id=nx+3 by omega,if_false]
 clear hG0
 refine aM.gP (β:=Nat×Nat×List CIn×Nat×Nat) (fun u=>en [(7,dI u.1),(6,dI slow),(5,.one (.c (.osl 3 u.2.2.2.1 0 u.2.2.1.length u.2.2.2.2))),(0,dP 2 i)])
  (fun u H1 nx1=>u.1+u.2.2.1.length≤90∧u.2.1+10*u.1≤p+2+10*y.toNat∧(∀x∈u.2.2.1,vZ x)∧H1 i=some (rdO l u.2.1)∧(∃m,H1 u.2.2.2.1=some ⟨3,m,u.2.2.1.map eIn⟩∧u.2.2.1.length≤u.2.2.2.2∧u.2.2.2.2≤m)∧nx≤u.2.2.2.1∧u.2.2.2.1<nx1∧ ∀id,id<nx→id≠i→H1 id=H id)
  (fun u=>u.1) (y.toNat,p+1+1,[],nx+1,0) ⟨noF,_,by repeat' (first| (with_reducible first|exact C1|refine C2 ?_ ?_)| ((with_reducible refine C0 ?_);first|exact CC|exact CE (by omega) rfl| (exact CG (by(congr 2;omega)) rfl))| ((with_reducible refine D0 ?_);first|exact CA rfl|refine CJ ?_)|fail),aK,by dsimp only[List.length_nil];omega,by dsimp only;omega,fun x hx=>by simp at hx,ci,⟨0,c1,Nat.le_refl _,Nat.le_refl _⟩,by dsimp only;omega,by dsimp only;omega,cfr⟩ ?_
 rintro⟨j,q,xs,io,cap⟩ H1 nx1 hnx ⟨hj,hq,hxs,gi,⟨m,g1,g2,g3⟩,hio1,hio2,hfr⟩ KL hKL
 dsimp only at hj hq hxs gi g1 g2 g3 hio1 hio2
 have hA1:bQ nx1 [i,io]:=AM.apart (by simp;omega) (by simp;omega)
 simp only[bQ,eZ] at hA1
 by_cases hj0:0<j
 ·repeat' (first| (with_reducible first| (refine hK _ _ _ ?_;clear hK K)| (refine hA ?_;clear hA hB A B)|refine Z1 ?_|refine Z2 ?_|refine Z3 fun KB hKB=> ?_|refine Z4 (by omega) ?_)| (with_reducible first|refine Y2 fun K hK=> ?_|refine Y3 fun A B hA hB=> ?_)<;>(simp only[go_sem])|fail)
  refine YJ hl (by omega) hs2 (by omega) gi fun H2 nx2 q2 x hx2 hq2 hxo fi ffr=> ?_
  have f1:=(ffr io (by omega) (by omega)).trans g1
  have hA2:bQ nx2 [i,io]:=AM.apart (by simp;omega) (by simp;omega)
  simp only[bQ,eZ] at hA2
  simp only[go_sem,Nat.add_assoc,f1,hA1,hA2]
  refine⟨g3,by omega,fun cap1 hcap hcp=> ?_⟩
  refine hK _ _ _ ?_
  clear hK K
  repeat' (first| (with_reducible (refine hK _ _ _ ?_;clear hK K))| (with_reducible refine Y2 fun K hK=> ?_)<;>(simp only[go_sem];try simp (disch:=omega) only[Iw])| ((with_reducible refine Y0 ?_);simp only[AQ.then,AQ.blk])| (with_reducible refine hKB _ _ _ ?_)|fail)
  refine hKL _ _ _ (j-1,q2,xs++[x],nx1+7,cap1) noF _ (by omega) (by dsimp only;omega) (by dsimp only;rw[List.length_append,List.length_singleton];repeat' (first| (with_reducible first|exact C1|refine C2 ?_ ?_)| ((with_reducible refine C0 ?_);first|exact CQ (by omega) rfl rfl (by rfl) rfl|exact CE (by omega) rfl| (exact CG (by(congr 2;omega)) rfl))| ((with_reducible refine D0 ?_);first|exact CA rfl|refine CJ ?_)|fail)) aK ⟨by simp;omega,by dsimp only;omega,fun z hz=> ?_,?_,⟨cap1,aA.bH,by simpa using hcap,Nat.le_refl _⟩,by dsimp only;omega,by dsimp only;omega,fun id d1 d2=> ?_⟩
  ·rcases List.mem_append.1 hz with hz|hz
   ·exact hxs z hz
   ·simp at hz;subst hz;exact hxo
  ·rw[aA.aC (by omega),aA.aC (by omega),aA.jG (by omega)];exact fi
  ·rw[aA.aC (by omega),aA.aC (by omega),aA.jG (by omega),ffr id (by omega) d2];exact hfr id d1 d2
 ·repeat' (first| (with_reducible first| (refine hK _ _ _ ?_;clear hK K)| (refine hB ?_;clear hA hB A B)|refine Z1 ?_|refine Z5 (by omega) ?_|refine hKX _ _ _ ?_)| (with_reducible first|refine Y2 fun K hK=> ?_|refine Y3 fun A B hA hB=> ?_)<;>(simp only[go_sem])| ((with_reducible first|refine Y8 ?_|refine Y9 ?_);try simp only[AQ.then,AQ.blk,reduceIte,Nat.reduceEqDiff])|fail)
  refine hQ _ _ _ _ _ (.inr rfl) rfl ⟨dS (xs.map eIn),_,fun j=>j=io,yP QX g1 rfl g2 rfl,PU,h _ _ q xs (by omega) (by omega) hxs ?_ fun id d1 d2=> ?_⟩
  ·rw[aA.jG (by omega)];exact gi
  ·rw[aA.jG (by omega)];exact hfr id d1 d2
theorem PC (l:List Int) (hl:kZ l):aB Tryz.prog u7 [dS (l.map eU8)] .nil 0
 fun r _ n=>n=0∧r.imm=true∧ ∃(c:Cfg) (xs:List CIn),aQ c∧jO c∧xs.length≤90∧(∀x∈xs,vZ x)∧r= .tup [.agg (cU c),.c (.isl (xs.map eIn))]:=by
 have hl2:kZ (l.take 2000):=⟨by simp;omega,fun x hx=>hl.byte x (List.take_subset _ _ hx)⟩
 refine L7 rfl fun Q hQ=> ?_
 unfold s7
 repeat' (first| (with_reducible first| (refine hK _ _ _ ?_;clear hK K)|refine Z1 ?_)| (first| (with_reducible refine Y2 fun K hK=> ?_)| (refine B7.F2 ?_)| (refine B7.IG hl2 (by omega) (by omega) rfl (fun pb c hb1 hb2 ⟨hbok,hbfit⟩=> ?_))| (refine UD (p:=pb) hl2 (by omega) (by omega) rfl (fun H' nx' p' xs hx hxl hxo hi ffr=> ?_)))<;>(simp only[go_sem])|fail)
 have e0:=(ffr 0 (by omega) (by omega)).trans rfl
 simp only[go_sem,e0]
 repeat' (first| (with_reducible (refine hK _ _ _ ?_;clear hK K))| ((with_reducible refine Y8 ?_);try simp only[AQ.then,AQ.blk,reduceIte,Nat.reduceEqDiff])|fail)
 exact V4 hQ (.tup [.agg (cU c),.c (.isl (xs.map eIn))]) _ rfl (aE rfl) rfl ⟨c,xs,hbok,hbfit,hxl,hxo,rfl⟩
theorem ajF {l:List Int} (hl:kZ l) (h: ∀(c:Cfg) (xs:List CIn),aQ c→jO c→xs.length≤90→(∀x∈xs,vZ x)→K (.tup [.agg (cU c),.c (.isl (xs.map eIn))]) H nx):aB Tryz.prog u7 [dS (l.map eU8)] H nx K:=
 (PC l hl).fresh rfl fun r ⟨c,xs,q1,q2,q3,q4,q5⟩=>q5▸h c xs q1 q2 q3 q4
end
end Go.Proofs.YtegiblhkjfiooaaGreat
end
section
namespace Go.AM
def exe {α σ ρ:Type} (f:α→σ→σ×ρ):σ→List α→σ×List ρ
 |s,[]=>(s,[])
 |s,x::l=>((exe f (f x s).1 l).1,(f x s).2::(exe f (f x s).1 l).2)
theorem aH1 {α σ ρ:Type} {f:α→σ→σ×ρ}: ∀{a b:List α} {s:σ},exe f s (a++b)=((exe f (exe f s a).1 b).1,(exe f s a).2++(exe f (exe f s a).1 b).2)
 | [],b,s=>rfl
 |x::a,b,s=>by
  show exe f s (x::(a++b))=_
  simp only[exe,aH1 (a:=a),List.cons_append]
def Com {α σ ρ:Type} (f:α→σ→σ×ρ) (x y:α):Prop:=∀s,(f y (f x s).1).1=(f x (f y s).1).1∧(f y (f x s).1).2=(f y s).2∧(f x (f y s).1).2=(f x s).2
theorem aHW {α σ ρ:Type} {f:α→σ→σ×ρ} {x:α} {b:List α}: ∀{a:List α} {s:σ},(∀y∈a,Com f y x)→(exe f s (a++x::b)).1=(exe f s (x::(a++b))).1∧(exe f s (a++x::b)).2.Perm (exe f s (x::(a++b))).2
 | [],s,_=>⟨rfl,.refl _⟩
 |y::a,s,h=>by
  obtain⟨i1,i2⟩:=aHW (a:=a) (s:=(f y s).1) fun z hz=>h z (List.mem_cons_of_mem _ hz)
  obtain⟨c1,c2,c3⟩:=h y List.mem_cons_self s
  simp only[List.cons_append,exe] at i1 i2 ⊢
  rw[c1,c2] at i2
  rw[c1] at i1
  refine⟨i1,?_⟩
  refine(i2.cons _).trans ?_
  rw[c3]
  exact List.Perm.swap _ _ _
theorem aHX {α σ ρ:Type} {f:α→σ→σ×ρ} {dep lt:α→α→Prop} (hsym: ∀x y,dep x y→dep y x) (has: ∀x y,lt x y→¬lt y x): ∀{l2 l1:List α} {s:σ},l1.Perm l2→l1.Nodup→(∀x∈l1,∀y∈l1,x≠y→¬dep x y→Com f x y)→
 l1.Pairwise (fun a b=>dep a b→lt a b)→l2.Pairwise (fun a b=>dep a b→lt a b)→(exe f s l1).1=(exe f s l2).1∧(exe f s l1).2.Perm (exe f s l2).2
 | [],l1,s,hp,_,_,_,_=>by rw[List.perm_nil.1 hp];exact⟨rfl,.refl _⟩
 |x::l2,l1,s,hp,hn,hc,h1,h2=>by
  obtain⟨a,b,rfl⟩:=List.append_of_mem (hp.mem_iff.2 List.mem_cons_self)
  have hp2:(a++b).Perm l2:=(List.perm_middle.symm.trans hp).cons_inv
  have hsub:(a++b).Sublist (a++x::b):=(List.Sublist.refl a).append (List.sublist_cons_self x b)
  have hna: ∀y∈a,y≠x:=fun y hy e=>by
   rw[List.nodup_append] at hn
   exact hn.2.2 y hy x List.mem_cons_self e
  have hcom: ∀y∈a,Com f y x:=fun y hy=>by
   refine hc y (List.mem_append_left _ hy) x (List.mem_append_right _ List.mem_cons_self) (hna y hy) fun hd=> ?_
   rw[List.pairwise_append] at h1
   have l1:=h1.2.2 y hy x List.mem_cons_self hd
   have hy2:y∈l2:=hp2.mem_iff.1 (List.mem_append_left _ hy)
   have l2':=(List.pairwise_cons.1 h2).1 y hy2 (hsym _ _ hd)
   exact has _ _ l1 l2'
  obtain⟨f1,f2⟩:=aHW (f:=f) (b:=b) (s:=s) hcom
  obtain⟨g1,g2⟩:=aHX hsym has (l2:=l2) (l1:=a++b) (s:=(f x s).1) hp2 (hn.sublist hsub) (fun u hu v hv=>hc u (hsub.subset hu) v (hsub.subset hv)) (h1.sublist hsub) (List.pairwise_cons.1 h2).2
  exact⟨f1.trans g1,f2.trans (g2.cons _)⟩
theorem aHS {m:List Rng} {q:Req} (h:0≤bV m (kP q)): ∀a∈kP q,bK (inR · a) m=bV m (kP q):=by
 intro a ha
 unfold bV at h ⊢
 split at h
 ·omega
 ·rename_i h0
  rw[if_neg h0]
  split at h
  ·rename_i h1
   rw[if_pos h1]
   rw[List.all_eq_true] at h1
   exact of_decide_eq_true (h1 a ha)
  ·omega
theorem aHU {m:List Rng} {w h:List Int} {who:Int} {q:Req} (hw:bV m (kP q)<0):doM m w h who q=((w,h),⟨q.id,4,[]⟩):=alZ hw
theorem aH3 {m:List Rng} {w h:List Int} {who:Int} {a b:Req} (ha:dH a) (hb:dH b) (h0:0≤who) (hid:a.id≠b.id) (hsl:gZ m a≠gZ m b):
 (doM m (doM m w h who a).1.1 (doM m w h who a).1.2 who b).1=(doM m (doM m w h who b).1.1 (doM m w h who b).1.2 who a).1∧(doM m (doM m w h who a).1.1 (doM m w h who a).1.2 who b).2=(doM m w h who b).2∧(doM m (doM m w h who b).1.1 (doM m w h who b).1.2 who a).2=(doM m w h who a).2:=by
 by_cases hwa:bV m (kP a)<0
 ·simp only[aHU hwa,and_true]
 by_cases hwb:bV m (kP b)<0
 ·simp only[aHU hwb,and_true]
 have hap:u9 a b:=fun x hx hy=>by
  have e1:=aHS (m:=m) (q:=a) (by omega) x hx
  have e2:=aHS (m:=m) (q:=b) (by omega) x hy
  apply hsl
  unfold gZ
  rw[if_neg (show ¬bV m (bE a.addr a.many a.wrap)<0 from hwa),if_neg (show ¬bV m (bE b.addr b.many b.wrap)<0 from hwb)]
  have e3:bV m (bE a.addr a.many a.wrap)=bV m (bE b.addr b.many b.wrap):=e1.symm.trans e2
  rw[e3]
 have hs:(who*2+a.id).toNat≠(who*2+b.id).toNat:=by have:=ha.1;have:=hb.1;omega
 have e1: ∀{br:Nat},brM m (hB br who a h) who b=brM m h who b:=fun {br}=>ZF hap.symm (Ne.symm hs) fun hk=>EU hb (.inr hk)
 have e2: ∀{br:Nat},brM m (hB br who b h) who a=brM m h who a:=fun {br}=>ZF hap hs fun hk=>EU ha (.inr hk)
 simp only[X1,e1,e2]
 refine⟨?_,alQ hap.symm,alQ hap⟩
 rw[anQ hap.symm,aoX hap.symm (Ne.symm hs) (fun h3=>EU hb (.inl (PX h3))) (fun h3=>EU ha (.inl (PX h3)))]
def aIA (c:Cfg) (who:Nat) (n:Int) (s:List Int×List Int):(List Int×List Int)×Job:=((doM c.map s.1 s.2 who (bT c who n)).1,⟨who,n,(doM c.map s.1 s.2 who (bT c who n)).2⟩)
def doL (es:List Ev) (k:Nat):List Int:=(List.range k).flatMap fun i=>if (es.getD i default).kind=2 then [(es.getD i default).n] else []
theorem aHT {es:List Ev} {k:Nat}:doL es (k+1)=doL es k++if (es.getD k default).kind=2 then [(es.getD k default).n] else []:=by
 simp[doL,List.range_succ]
theorem aH8 {c:Cfg} {es:List Ev} {who:Nat} (hp:F9 c st0 es) (hw: ∀k,k<es.length→(es.getD k default).who=who): ∀k,k≤es.length→exe (aIA c who) (st0.words,st0.holds) (doL es k)=(((runM c st0 (es.take k)).words,(runM c st0 (es.take k)).holds),av5 c es k):=by
 intro k
 induction k with
 |zero=>intro _;rfl
 |succ k ih=>
  intro hk
  have h:=ih (by omega)
  obtain⟨s1,s2⟩:=azT (hp k (by omega))
  rw[aHT,aH1,h,av6 (by omega),s1,s2]
  by_cases h2:(es.getD k default).kind=2
  ·rw[if_pos h2,if_pos h2,if_pos h2,axY h2]
   have hwk:=hw k (by omega)
   unfold doJ
   rw[hwk]
   rfl
  ·rw[if_neg h2,if_neg h2,if_neg h2,axT h2]
   simp[exe]
def Str (c:Cfg) (s:TSt) (es:List Ev):Prop:=∀i,i<es.length→(es.getD i default).kind=2→∀x∈(runM c s (es.take i)).wait,x.who=(es.getD i default).who→x.n<(es.getD i default).n→gZ c.map (bT c x.who x.n)≠gZ c.map (bT c (es.getD i default).who (es.getD i default).n)
theorem aH2 {c:Cfg} {s:TSt} {a b:List Ev} (h1:Str c s a) (h2:Str c (runM c s a) b):Str c s (a++b):=by
 intro i hi
 by_cases hia:i<a.length
 ·have e1:(a++b).getD i default=a.getD i default:=by simp[List.getD,List.getElem?_append_left hia]
  rw[e1,List.take_append_of_le_length (by omega)]
  exact h1 i hia
 ·have e1:(a++b).getD i default=b.getD (i-a.length) default:=by simp[List.getD,List.getElem?_append_right (show a.length≤i by omega)]
  have e2:(a++b).take i=a++b.take (i-a.length):=by rw[List.take_append,List.take_of_length_le (by omega)]
  rw[e1,e2,ZL]
  exact h2 (i-a.length) (by rw[List.length_append] at hi;omega)
theorem aH7 {c:Cfg} {s:CSt} (h:COk c s) {m:Mic} (hg:EH c s m):Str c (cX s) (y0 s m):=by
 cases m with
 |tick st=>intro i hi;simp[y0] at hi
 |adm who st=>intro i hi;simp[y0] at hi
 |tell who st=>
  intro i hi h2
  have:i=0:=by simp[y0] at hi;omega
  subst this
  have h3:(3:Int)=2:=h2
  omega
 |ask who=>
  intro i hi h2
  have:i=0:=by simp[y0] at hi;omega
  subst this
  have h3:(1:Int)=2:=h2
  omega
 |work st=>
  intro i hi h2 x hx hxw hxn
  have:i=0:=by simp[y0] at hi;omega
  subst this
  obtain⟨g1,g2,_,_⟩:=hg
  have hx:x∈(cX s).wait:=hx
  have hxw:x.who=(bI s st).who:=hxw
  have hxn:x.n<(bI s st).n:=hxn
  show gZ c.map (bT c x.who x.n)≠gZ c.map (bT c (bI s st).who (bI s st).n)
  have hmem:((bI s st).who,(bI s st).n)∈cS (aL s st):=JB (cC g2)
  have hin:=h.vIn g1 hmem
  dsimp only at hin
  rcases wU.1 (BF.1 hx) with⟨k,hk,n,hn,rfl⟩|⟨st',hst',y,hy,rfl⟩
  ·dsimp only at hxw hxn
   have hp:=h.port k (by have:=h.pl;omega)
   have:=(hp.qIn hn).1
   rw[←hxw,Int.toNat_natCast] at hin
   omega
  ·dsimp only at hxw hxn ⊢
   intro he
   have hs4:st'<4:=by have:=h.sl;omega
   have hsl: ∀{st:Nat} {z:Int×Int},st<4→z∈cS (aL s st)→gZ c.map (bT c z.1 z.2)=st:=fun {st z} hst hz=>by
    obtain⟨q1,j,q2,q3,q4⟩:=(h.slv st hst).out z hz
    have hpo:=(h.port z.1.toNat (by omega)).out j q2
    have e:((z.1.toNat:Nat):Int)=z.1:=by omega
    rw[e] at hpo
    rw[←q3,←q4]
    exact hpo.2.2.symm
   have az9:=hsl g1 hmem
   have az2:=hsl hs4 (JB hy)
   dsimp only at az9 az2
   rw[az9,az2] at he
   have hst:st'=st:=by omega
   subst hst
   have hinc:=(h.slv st' hs4).inc
   unfold cS at hinc
   rw[List.pairwise_append] at hinc
   have hinc:=hinc.2.1
   rw[gT g2] at hy hinc
   rw[List.map_cons,List.pairwise_cons] at hinc
   have hph:(aL s st').pipe.getD 0 default=bI s st':=rfl
   rw[hph] at hy hinc
   rcases List.mem_cons.1 hy with rfl|hy
   ·omega
   ·have:=hinc.1 _ (List.mem_map_of_mem hy) hxw.symm
    dsimp only at this
    omega
theorem aHY {c:Cfg} (hb:aQ c): ∀{l:List Mic} {s:CSt},COk c s→wY c s l→Str c (cX s) (iP c s l)
 | [],s,_,_=>fun i hi=>by simp[iP] at hi
 |m::l,s,h,hg=>by
  obtain⟨h1,h2⟩:=hg
  refine aH2 (aH7 h h1) ?_
  rw[←af6 hb h h1]
  exact aHY hb (o9 hb h h1) h2
theorem aH0 {c:Cfg} (hb:aQ c): ∀{l:List CIn} {s:CSt},COk c s→Str c (cX s) (RJ c s l)
 | [],s,_=>fun i hi=>by simp[RJ] at hi
 |i::l,s,h=>by
  show Str c (cX s) (TK c i s++RJ c (vF c i s) l)
  refine aH2 (aHY hb h (KG hb h)) ?_
  have:=anV hb (i:=i) h
  rw[←this]
  exact aH0 hb (PN hb h)
theorem all_keys {c:Cfg} {es:List Ev} (hb:aQ c) (hp:F9 c st0 es): ∀k,k≤es.length→∀w:Nat,w<3→∀n:Int,0≤n→n<(runM c st0 (es.take k)).asked.getD w default→((w:Int),n)∈keys (runM c st0 (es.take k)):=by
 intro k
 induction k with
 |zero=>
  intro _ w hw n h0 h1
  have e:(runM c st0 (es.take 0)).asked.getD w default=0:=by
   have:w=0∨w=1∨w=2:=by omega
   rcases this with rfl|rfl|rfl<;>rfl
  omega
 |succ k ih=>
  intro hk w hw n h0 h1
  have ih:=ih (by omega) w hw n h0
  have hok:=ax6 hb (arF c) hp k (by omega)
  obtain⟨hask,hcase⟩:=M8 (hp k (by omega))
  rw[av6 (by omega)] at h1 ⊢
  rcases hcase with⟨hk1,hn⟩|⟨hk2,hi⟩|⟨hk3,hi⟩
  ·rw[(alI hk1).mem_iff]
   rw[ayA hk1] at h1
   dsimp only at h1
   rw[wV (by have:=hok.JI;have:=hask.1;omega)] at h1
   split at h1
   ·rename_i e
    by_cases hnn:n=(es.getD k default).n
    ·refine List.mem_cons.2 (.inl ?_)
     rw[hnn,Prod.mk.injEq]
     exact⟨by have:=hask.1;omega,rfl⟩
    ·refine List.mem_cons_of_mem _ (ih ?_)
     rw[e,←hn];omega
   ·exact List.mem_cons_of_mem _ (ih h1)
  ·rw[(anP hk2 hi).mem_iff]
   rw[ay0 hk2] at h1
   exact ih h1
  ·rw[(aiH hk3 hi).mem_iff]
   rw[axF hk3] at h1
   exact ih h1
theorem aHV {c:Cfg} {es:List Ev} {who:Nat} (hw: ∀k,k<es.length→(es.getD k default).who=who): ∀k,k≤es.length→(av5 c es k).map key=(doL es k).map fun n=>((who:Int),n):=by
 intro k
 induction k with
 |zero=>intro _;rfl
 |succ k ih=>
  intro hk
  have h:=ih (by omega)
  rw[aHT]
  by_cases h2:(es.getD k default).kind=2
  ·rw[axY h2,if_pos h2,List.map_append,List.map_append,h]
   show _++[((es.getD k default).who,(es.getD k default).n)]=_++[((who:Int),(es.getD k default).n)]
   rw[hw k (by omega)]
  ·rw[axT h2,if_neg h2,List.append_nil,h]
def aHZ (c:Cfg) (who:Nat) (a b:Int):Prop:=(bT c who a).id=(bT c who b).id∨gZ c.map (bT c who a)=gZ c.map (bT c who b)
theorem aH9 {c:Cfg} {es:List Ev} {who:Nat} (hb:aQ c) (hwh:who<3) (hp:F9 c st0 es) (hst:Str c st0 es) (hw: ∀k,k<es.length→(es.getD k default).who=who): ∀k,k≤es.length→
 (doL es k).Pairwise (fun a b=>aHZ c who a b→a<b)∧ ∀m∈doL es k,∀n:Int,0≤n→n<m→aHZ c who n m→((who:Int),n)∈(doL es k).map fun n=>((who:Int),n):=by
 intro k
 induction k with
 |zero=>intro _;exact⟨by simp[doL],fun m hm=>by simp[doL] at hm⟩
 |succ k ih=>
  intro hk
  obtain⟨i1,i2⟩:=ih (by omega)
  have hok:=ax6 hb (arF c) hp k (by omega)
  have hwy:=hp k (by omega)
  have hwk:=hw k (by omega)
  have hpm:=(azM hp k (by omega)).map key
  rw[aHV hw k (by omega),List.map_append] at hpm
  have hnd:=hok.nodup
  rw[aHT]
  by_cases h2:(es.getD k default).kind=2
  ·rw[if_pos h2]
   obtain⟨hask,hcase⟩:=M8 hwy
   have hi: ¬bK (iM (es.getD k default).who (es.getD k default).n) (runM c st0 (es.take k)).wait<0:=by
    rcases hcase with h|h|h
    ·omega
    ·exact h.2
    ·omega
   obtain⟨q1,q2⟩:=pW hi
   have hnw:((who:Int),(es.getD k default).n)∈(runM c st0 (es.take k)).wait.map key:=by
    rw[←hwk,←q2];exact List.mem_map_of_mem (cC q1)
   have hnot: ∀n,((who:Int),n)∈(doL es k).map (fun n=>((who:Int),n))→((who:Int),n)∉(runM c st0 (es.take k)).wait.map key:=fun n hn hc=>by
    have h3:=hpm.mem_iff.1 hn
    unfold keys at hnd
    rw[List.append_assoc,List.map_append,List.nodup_append] at hnd
    exact hnd.2.2 _ hc _ (by rw[List.map_append];exact h3) rfl
   have hahead: ∀x∈(runM c st0 (es.take k)).wait,¬((x.who=(es.getD k default).who∧x.n<(es.getD k default).n)∧(bT c x.who x.n).id=(bT c (es.getD k default).who (es.getD k default).n).id):=fun x hx hc=>by
    have h4:0≤bK (adI c (es.getD k default)) (runM c st0 (es.take k)).wait:=cH.2 ⟨x,hx,decide_eq_true hc⟩
    unfold X6 at hwy
    rw[if_neg (fun h=>h ⟨hask,by omega,by omega⟩),if_neg (by omega),if_pos h2,if_neg hi,if_pos h4] at hwy
    omega
   have hlow: ∀n:Int,0≤n→n<(es.getD k default).n→aHZ c who n (es.getD k default).n→((who:Int),n)∈(doL es k).map fun n=>((who:Int),n):=fun n h0 h1 hd=>by
    have hjob:=hok.ab8 ((who:Int),(es.getD k default).n) (by unfold keys;rw[List.append_assoc,List.map_append];exact List.mem_append_left _ hnw)
    dsimp only at hjob
    rw[Int.toNat_natCast] at hjob
    have hall:=all_keys hb hp k (by omega) who hwh n h0 (by omega)
    unfold keys at hall
    rw[List.append_assoc,List.map_append] at hall
    rcases List.mem_append.1 hall with hall|hall
    ·obtain⟨x,hx,hxk⟩:=List.mem_map.1 hall
     unfold key at hxk
     rw[Prod.mk.injEq] at hxk
     have az9:=hahead x hx
     have az2:=hst k (by omega) h2 x hx (by rw[hxk.1,hwk]) (by rw[hxk.2];exact h1)
     rw[hxk.1,hxk.2,hwk] at az9 az2
     rcases hd with hd|hd
     ·exact absurd ⟨⟨rfl,h1⟩,hd⟩ az9
     ·exact absurd hd az2
    ·rw[List.map_append] at hall
     exact hpm.mem_iff.2 hall
   refine⟨?_,fun m hm n h0 h1 hd=> ?_⟩
   ·rw[List.pairwise_append]
    refine⟨i1,List.pairwise_singleton _ _,fun m hm n hn hd=> ?_⟩
    rw[List.mem_singleton] at hn
    subst hn
    refine Classical.byContradiction fun hlt=> ?_
    by_cases he:m=(es.getD k default).n
    ·exact hnot _ (List.mem_map_of_mem (he▸hm)) hnw
    ·exact hnot _ (i2 m hm _ hask.2.1 (by omega) (hd.imp Eq.symm Eq.symm)) hnw
   ·rw[List.map_append]
    rcases List.mem_append.1 hm with hm|hm
    ·exact List.mem_append_left _ (i2 m hm n h0 h1 hd)
    ·rw[List.mem_singleton] at hm
     subst hm
     exact List.mem_append_left _ (hlow n h0 h1 hd)
  ·rw[if_neg h2,List.append_nil]
   exact⟨i1,i2⟩
theorem aH5 {c d:Cfg} {who N:Nat} (hb:aQ c) (hb':aQ d) (hm:d.map=c.map) (hpr:d.cP=c.cP) (hwh:who<3) (hal: ∀k,k<3→k≠who→c.cP.getD k default=[]) (hN:252≤N):
 (sQ c HY (List.replicate N pU)).words=(sQ d HY (List.replicate N pU)).words∧(sQ c HY (List.replicate N pU)).told.Perm (sQ d HY (List.replicate N pU)).told:=by
 have hwho: ∀{c:Cfg} {es:List Ev},(∀k,k<3→k≠who→c.cP.getD k default=[])→F9 c st0 es→∀k,k<es.length→(es.getD k default).who=who:=fun {c es} hal hp k hk=>by
  obtain⟨⟨h1,h2⟩,h3,h4⟩:=(M8 (hp k hk)).1
  refine Classical.byContradiction fun hne=> ?_
  have:=hal (es.getD k default).who.toNat (by omega) (by omega)
  rw[this] at h4
  simp only[List.length_nil] at h4
  omega
 have main: ∀{c:Cfg},aQ c→(∀k,k<3→k≠who→c.cP.getD k default=[])→∃L:List Int,L.Nodup∧(∀n:Int,n∈L↔0≤n∧n<(c.cP.getD who default).length)∧L.Pairwise (fun a b=>aHZ c who a b→a<b)∧(exe (aIA c who) (st0.words,st0.holds) L).1.1=(sQ c HY (List.replicate N pU)).words∧(exe (aIA c who) (st0.words,st0.holds) L).2.Perm (sQ c HY (List.replicate N pU)).told:=fun {c} hb hal=>by
  have h0:=anK c
  have hr:=afM hb (l:=List.replicate N pU) h0
  have hstr:=aH0 hb (l:=List.replicate N pU) h0
  have hfin:Fin c (sQ c HY (List.replicate N pU)):=aiL hb h0 (by have:=(afV hb h0).2;omega)
  generalize sQ c HY (List.replicate N pU)=S at*
  generalize RJ c HY (List.replicate N pU)=E at*
  obtain⟨hS,hrun,hp⟩:=hr
  rw[amS] at hrun hp hstr
  have hw:=hwho hal hp
  have hex:=aH8 hp hw E.length (Nat.le_refl _)
  have hpm:=azM hp E.length (Nat.le_refl _)
  have hok:=aHV (c:=c) hw E.length (Nat.le_refl _)
  have hord:=(aH9 hb hwh hp hstr hw E.length (Nat.le_refl _)).1
  have hall:=all_keys hb hp E.length (Nat.le_refl _) who hwh
  rw[List.take_length,←hrun] at hex hpm hall
  obtain⟨f1,f2⟩:=afO hS hfin
  rw[f2,List.nil_append] at hpm
  have hST:(cX S).told=S.told:=rfl
  rw[hST] at hpm
  have hask:(cX S).asked.getD who default=(c.cP.getD who default).length:=by rw[R6 (by have:=hS.pl;omega)];exact(hfin who hwh).1
  have hke:keys (cX S)=S.told.map key:=by unfold keys;rw[f1,f2];rfl
  have hnd:=hS.st.nodup
  rw[hke] at hnd hall
  have hkp:=hpm.map key
  rw[hok] at hkp
  have hinj: ∀n,n∈doL E E.length↔((who:Int),n)∈S.told.map key:=fun n=>by
   rw[←hkp.mem_iff,List.mem_map]
   exact⟨fun h=>⟨n,h,rfl⟩,fun⟨m,hm,he⟩=>by rw[Prod.mk.injEq] at he;rw[←he.2];exact hm⟩
  refine⟨doL E E.length,?_,fun n=> ?_,hord,by rw[hex];rfl,by rw[hex];exact hpm⟩
  ·have:=hkp.nodup_iff.2 hnd
   exact List.Pairwise.of_map (fun n=>((who:Int),n)) (fun a b h e=>h (by rw[e])) this
  ·rw[hinj]
   constructor
   ·intro h
    have hj:=hS.st.ab8 ((who:Int),n) (by rw[hke];exact h)
    dsimp only at hj
    rw[Int.toNat_natCast,hask] at hj
    exact hj.2
   ·rintro⟨h1,h2⟩
    exact hall n h1 (by rw[hask];exact h2)
 obtain⟨L,l1,l2,l3,aIB,aIC⟩:=main hb hal
 obtain⟨M,m1,m2,m3,m4,m5⟩:=main (c:=d) hb' (by rw[hpr];exact hal)
 have hreq: ∀n,bT d who n=bT c who n:=fun n=>by unfold bT;rw[hpr]
 have hfD:aIA d who=aIA c who:=by funext n s;unfold aIA;rw[hm,hreq]
 rw[hfD] at m4 m5
 have hperm:L.Perm M:=(List.perm_ext_iff_of_nodup l1 m1).2 fun n=>by rw[l2,m2,hpr]
 have m3':M.Pairwise (fun a b=>aHZ c who a b→a<b):=m3.imp fun {a b} h hd=>h (by unfold aHZ at hd ⊢;rw[hreq,hreq,hm];exact hd)
 obtain⟨x1,x2⟩:=aHX (f:=aIA c who) (dep:=aHZ c who) (lt:=fun a b=>a<b) (fun x y h=>h.imp Eq.symm Eq.symm) (fun x y h1 h2=>by omega) (s:=(st0.words,st0.holds)) hperm l1 (fun x hx y hy hne hd s=>by
  have ax:=(l2 x).1 hx
  have ay:=(l2 y).1 hy
  have ox:dH (bT c who x):=GK hb ⟨by omega,ax.1,by rw[Int.toNat_natCast];omega⟩
  have oy:dH (bT c who y):=GK hb ⟨by omega,ay.1,by rw[Int.toNat_natCast];omega⟩
  obtain⟨c1,c2,c3⟩:=aH3 (m:=c.map) (w:=s.1) (h:=s.2) (who:=(who:Int)) ox oy (by omega) (fun e=>hd (.inl e)) (fun e=>hd (.inr e))
  unfold aIA
  exact⟨c1,by dsimp only;rw[c2],by dsimp only;rw[c3]⟩) l3 m3'
 refine⟨?_,aIC.symm.trans (x2.trans m5)⟩
 rw[←aIB,←m4,x1]
end Go.AM
end
