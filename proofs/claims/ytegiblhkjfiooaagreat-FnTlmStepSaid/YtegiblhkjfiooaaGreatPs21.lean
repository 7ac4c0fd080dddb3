/- Texts laid together by a program: rules, contracts and the walk that leads to the law. -/
import Derived.Test.YtegiblhkjfiooaaGreatPs20
import Derived.Test.YtegiblhkjfiooaaGreatPs18
import Derived.Test.YtegiblhkjfiooaaGreatPs17
set_option linter.unusedVariables false
set_option linter.unusedSimpArgs false
set_option linter.unusedSectionVars false
section
namespace Go.Proofs.YtegiblhkjfiooaaGreat.B7
open Go Go.AM Go.Proofs.YtegiblhkjfiooaaGreat
set_option maxRecDepth 100000
set_option maxHeartbeats 8000000
section
variable {H : aA} {nx : Nat} {K : D → aA → Nat → Prop}
theorem MM {q:Req} (h:dH q):dH ⟨q.id,3,q.addr,1,false,[],[]⟩:=by
 obtain⟨h1,h2,⟨h3,h4,h5⟩,h6⟩:=h
 refine⟨h1,by dsimp only;omega,⟨by dsimp only;omega,h4,.inr (by dsimp only;omega)⟩,by simp[n5],by simp[n5],fun x hx=>by simp at hx,fun x hx=>by simp at hx,.inr (.inr rfl)⟩
theorem L4 {q:Req} (h:dH q):q.data.length<2^40∧q.lanes.length<2^40:=by
 obtain⟨h1,h2,⟨h3,h4,h5⟩,h6,h7,h8⟩:=h
 unfold n5 at h6 h7
 constructor
 ·split at h6<;>omega
 ·split at h7<;>omega
theorem yB (l:List Int):aB Tryz.prog kN [dS (l.map eU8)] (hp []) 0 fun r H' n'=>n'=1∧H'=hp [(0,rdO (l.take 2000) 0)]∧r=dP 2 0:=by
 refine DY rfl fun Q hQ=> ?_
 unfold oT
 repeat' (first| (with_reducible first| (refine hK _ _ _ ?_;clear hK K)| (refine hA ?_;clear hA hB A B)| (refine hB ?_;clear hA hB A B)|refine Z1 ?_|refine Z2 ?_|refine Z6 (fun h=> ?_) fun h=> ?_)| (with_reducible first|refine Y2 fun K hK=> ?_|refine Y3 fun A B hA hB=> ?_)<;>(simp only[go_sem])| ((with_reducible refine Y8 ?_);try simp only[AQ.then,AQ.blk,reduceIte,Nat.reduceEqDiff])|refine⟨by omega,?_⟩|fail)
 ·have e:l.take 2000=(l.take 2000).take 2000:=by rw[List.take_take];simp
  (refine hQ _ _ _ _ _ 1 (dP 2 0) (hp [(0,rdO (l.take 2000) 0)]) _ _ (.inr rfl) rfl (fU [9] (by omega) (by repeat' (first| ((with_reducible refine C0 ?_);exact CE (by omega) rfl)| ((with_reducible refine D0 ?_);refine CJ ?_)|fail)) ⟨⟨by simp,by simp[sgL],_,rfl,bS (aV _ _)⟩,trivial⟩ (by simp[sgL])) ?_)
  exact⟨rfl,rfl,rfl⟩
 · (refine hQ _ _ _ _ _ 1 (dP 2 0) (hp [(0,rdO l 0)]) _ _ (.inr rfl) rfl (fU [6] (by omega) (by repeat' (first| ((with_reducible refine C0 ?_);exact CE (by omega) rfl)| ((with_reducible refine D0 ?_);refine CJ ?_)|fail)) ⟨⟨by simp,by simp[sgL],_,rfl,bS (aV _ _)⟩,trivial⟩ (by simp[sgL])) ?_)
   exact⟨rfl,by rw[List.take_of_length_le (by omega)],rfl⟩
theorem F2 {l:List Int} (h:K (dP 2 nx) (H.set nx (rdO (l.take 2000) 0)) (nx+1)):aB Tryz.prog kN [dS (l.map eU8)] H nx K:=by
 refine(yB l).AF (l0:=[]) [] rfl ⟨aE rfl,trivial⟩ trivial (by simp) (by simp) (by simp) fun r H' n' _ ⟨q1,q2,q3⟩=> ?_
 subst q1;subst q2;subst q3
 have e1:back (tau 0 nx (nth [])) (hp [(0,rdO (l.take 2000) 0)]) 1 H=H.set nx (rdO (l.take 2000) 0):=by
  simp only[back,hp,aA.set,tau,Nat.not_lt_zero,if_true,if_false,Nat.sub_zero,Nat.add_zero,Option.map_some,rF (aV _ _),aA.eL]
 rw[←e1] at h
 exact h
theorem zM (l:List Int) (p:Nat) (hl:kZ l) (hp50:p+1000<2^50):aB Tryz.prog lJ [dP 2 0,dI 7] (hp [(0,rdO l p)]) 1
 fun rr H' n'=>n'=1∧ ∃o',H'=hp [(0,o')]∧C7 o'∧ ∃(p':Nat) (c:Cfg),o'=rdO l p'∧p≤p'∧p'≤p+1000∧rr=dA (cU c)∧(aQ c∧jO c):=by
 refine FC rfl fun Q hQ=> ?_
 unfold qQ
 repeat' (first| (with_reducible first| (refine hK _ _ _ ?_;clear hK K)|refine Z1 ?_|refine Z3 fun KB hKB=> ?_)| (first| (with_reducible refine Y2 fun K hK=> ?_)| (refine IV hl (by omega) (by omega) rfl (fun pm m hm1 hm2 hmok=> ?_)))<;>(simp only[go_sem])|fail)
 (have hKX:=hKB;clear hKB)
 refine aM.EJ 1 ?_
 refine aM.sG 3 (β:=Nat×Nat×List Int×Nat)
  (fun b u=>en [(6,dI u.1),(5,dP 3 (b+1)),(4,dP 3 b),(1,dI 7),(0,dP 2 0)])
  (fun b u=>hp [(0,rdO l u.2.1),(b,⟨3,1,[[.osl 0 0 0 0 0,.osl 0 0 0 0 0,.osl 0 0 0 0 0]]⟩),(b+1,⟨3,1,[[.isl (m.map eN),.osl 1 (b+2) 0 u.1 u.2.2.2,.osl 0 0 0 0 0]]⟩),(b+2,⟨1,u.2.2.2,u.2.2.1.map aJ⟩)])
  (fun u=>u.1≤4∧p≤u.2.1∧u.2.1≤p+8+u.1∧u.2.2.1.length=u.1∧All u.2.2.1 0 3∧u.1≤u.2.2.2)
  (fun u=>4-u.1) (0,pm,[],0) ?_ ⟨by dsimp only;omega,by dsimp only;omega,by dsimp only;omega,rfl,by simp[All],by dsimp only;omega⟩ ?_
 · (refine cR [1,5,8,0] (by omega) (by repeat' (first| (with_reducible first|exact C1|refine C2 ?_ ?_)| ((with_reducible refine C0 ?_);exact CE (by omega) rfl)| ((with_reducible refine D0 ?_);first|exact CA rfl|refine CJ ?_)|fail)) ⟨⟨by simp,by simp[sgL],_,rfl,bS (aV _ _)⟩,⟨by simp,by simp[sgL],_,rfl,aP (by repeat' (first| (with_reducible first|exact C3|refine C4 ?_ ?_)| ((with_reducible refine C0 ?_);exact CC)|fail))⟩,⟨by simp,by simp[sgL],_,rfl,aP (by repeat' (first| (with_reducible first|exact C3|refine C4 ?_ ?_)| ((with_reducible refine C0 ?_);first|exact CB rfl|exact CC)|fail))⟩,⟨by simp,by simp[sgL],_,rfl,bP (aG bF _) rfl rfl⟩,trivial⟩ (by simp[sgL]))
 rintro⟨k,pl,la,cl⟩ ⟨f1,f2,f3,f4,f5,f6⟩ KL hKL
 dsimp only at f1 f2 f3 f4 f5 f6
 have hta:la.take k=la:=List.take_of_length_le (by omega)
 by_cases hlt:k<4
 ·repeat' (first| (with_reducible first| (refine hK _ _ _ ?_;clear hK K)| (refine hA ?_;clear hA hB A B)|refine Z1 ?_|refine Z2 ?_|refine Z3 fun KB hKB=> ?_|refine Z4 (by omega) ?_|refine fun(cap:Nat) (hcap:_≤cap)=> ?_|refine fun(hcp:_≤cap)=> ?_)| (first| (with_reducible first|refine Y2 fun K hK=> ?_|refine Y3 fun A B hA hB=> ?_)| (refine aX hl (by omega) (by omega) (by omega) rfl (fun x h1 h2=> ?_)))<;>(simp only[go_sem,hta];try simp (disch:=omega) only[Iw])| ((with_reducible refine Y0 ?_);simp only[AQ.then,AQ.blk])|refine⟨by omega,?_⟩| (with_reducible refine hKB _ _ _ ?_)|fail)
  exact hKL _ _ _ (k+1,pl+1,la++[x],cap) (by omega) (by(refine cR [9,10,19,0] (by omega) (by repeat' (first| (with_reducible first|exact C1|refine C2 ?_ ?_)| ((with_reducible refine C0 ?_);exact CE (by omega) rfl)| ((with_reducible refine D0 ?_);first|exact CA rfl|refine CJ ?_)|fail)) ⟨⟨by simp,by simp[sgL],_,rfl,bS (aV _ _)⟩,⟨by simp,by simp[sgL],_,rfl,aP (by repeat' (first| (with_reducible first|exact C3|refine C4 ?_ ?_)| ((with_reducible refine C0 ?_);exact CC)|fail))⟩,⟨by simp,by simp[sgL],_,rfl,aP (by repeat' (first| (with_reducible first|exact C3|refine C4 ?_ ?_)| ((with_reducible refine C0 ?_);first|exact CB rfl|exact CC|exact CQ (by omega) rfl rfl (by rfl) rfl)|fail))⟩,⟨by simp,by simp[sgL],_,rfl,bP (aG bF _) rfl rfl⟩,trivial⟩ (by simp[sgL]))) ⟨by dsimp only;omega,by dsimp only;omega,by dsimp only;omega,by simp;omega,KC f5 (by omega) (by omega),by dsimp only;omega⟩ (by dsimp only;omega)
 have hk4:k=4:=by omega
 subst hk4
 repeat' (first| (with_reducible first| (refine hK _ _ _ ?_;clear hK K)| (refine hB ?_;clear hA hB A B)|refine Z1 ?_|refine Z3 fun KB hKB=> ?_|refine Z5 (by omega) ?_|refine hKX _ _ _ ?_)| (with_reducible first|refine Y2 fun K hK=> ?_|refine Y3 fun A B hA hB=> ?_)<;>(simp only[go_sem])| ((with_reducible refine Y9 ?_);try simp only[AQ.then,AQ.blk,reduceIte,Nat.reduceEqDiff])|fail)
 (have hKY:=hKB;clear hKB)
 refine aM.EJ 1 ?_
 refine aM.sG 3 (β:=Nat×Nat×List Prog×Nat)
  (fun b u=>en [(7,dI u.1),(5,dP 3 (b+1)),(4,dP 3 b),(1,dI 7),(0,dP 2 0)])
  (fun b u=>hp [(0,rdO l u.2.1),(b,⟨3,1,[[.osl 0 0 0 0 0,.osl 0 0 0 0 0,.osl 0 0 0 0 0]]⟩),(b+1,⟨3,1,[[.isl (m.map eN),.isl (la.map aJ),.osl 1 (b+2) 0 u.1 u.2.2.2]]⟩),(b+2,⟨1,u.2.2.2,u.2.2.1.map jR⟩)])
  (fun u=>u.1≤3∧p≤u.2.1∧u.2.1≤p+12+300*u.1∧u.2.2.1.length=u.1∧(∀pr∈u.2.2.1,pr.length≤12∧ ∀q∈pr,dH q)∧u.1≤u.2.2.2)
  (fun u=>3-u.1) (0,pl,[],0) ?_ ⟨by dsimp only;omega,by dsimp only;omega,by dsimp only;omega,rfl,fun pr hpr=>by simp at hpr,by dsimp only;omega⟩ ?_
 · (refine cR [9,10,15,0] (by omega) (by repeat' (first| (with_reducible first|exact C1|refine C2 ?_ ?_)| ((with_reducible refine C0 ?_);exact CE (by omega) rfl)| ((with_reducible refine D0 ?_);first|exact CA rfl|refine CJ ?_)|fail)) ⟨⟨by simp,by simp[sgL],_,rfl,bS (aV _ _)⟩,⟨by simp,by simp[sgL],_,rfl,aP (by repeat' (first| (with_reducible first|exact C3|refine C4 ?_ ?_)| ((with_reducible refine C0 ?_);exact CC)|fail))⟩,⟨by simp,by simp[sgL],_,rfl,aP (aH (bB rfl) (aH (bW bF rfl (by omega) (by omega) (by simp)) (aH (.VS _ _ _ _ _ _) eP)))⟩,⟨by simp,by simp[sgL],_,rfl,bP (aG iR _) rfl rfl⟩,trivial⟩ (by simp[sgL]))
 rintro⟨k,pl,ps,cp⟩ ⟨g1,g2,g3,g4,g5,g6⟩ KM hKM
 dsimp only at g1 g2 g3 g4 g5 g6
 have htp:ps.take k=ps:=List.take_of_length_le (by omega)
 by_cases hlt:k<3
 ·repeat' (first| (with_reducible first| (refine hK _ _ _ ?_;clear hK K)| (refine hA ?_;clear hA hB A B)|refine Z1 ?_|refine Z2 ?_|refine Z3 fun KB hKB=> ?_|refine Z4 (by omega) ?_)| (first| (with_reducible first|refine Y2 fun K hK=> ?_|refine Y3 fun A B hA hB=> ?_)| (refine aX hl (by omega) (by omega) (by omega) rfl (fun x h1 h2=> ?_)))<;>(simp only[go_sem];try simp (disch:=omega) only[Iw])|fail)
  (have hKZ:=hKB;clear hKB)
  rename_i x hx1 hx2
  refine aM.sG 1 (β:=Nat×Nat×List Req×Nat)
   (fun b u=>en [(9,dI u.1),(8,dO 7 b u.2.2.1.length u.2.2.2),(7,dI k),(5,dP 3 17),(4,dP 3 16),(1,dI 7),(0,dP 2 0)])
   (fun b u=>hp [(0,rdO l u.2.1),(16,⟨3,1,[[.osl 0 0 0 0 0,.osl 0 0 0 0 0,.osl 0 0 0 0 0]]⟩),(17,⟨3,1,[[.isl (m.map eN),.isl (la.map aJ),.osl 1 18 0 k cp]]⟩),(18,⟨1,cp,ps.map jR⟩),(b,⟨7,u.2.2.2,u.2.2.1.map eB⟩)])
   (fun u=>u.1≤7∧p≤u.2.1∧u.2.1≤pl+1+41*(7-u.1)∧(∀q∈u.2.2.1,dH q)∧2*u.1+u.2.2.1.length≤14∧u.2.2.1.length≤u.2.2.2)
   (fun u=>u.1) (x.toNat,pl+1,[],0) ?_ ⟨by dsimp only;omega,by dsimp only;omega,by dsimp only;omega,fun q hq=>by simp at hq,by simp;omega,by simp⟩ ?_
  · (refine cR [21,0,16,17,18] (by omega) (by repeat' (first| (with_reducible first|exact C1|refine C2 ?_ ?_)| ((with_reducible refine C0 ?_);first|exact CC|exact CE (by omega) rfl| (exact CG (by(congr 2;omega)) rfl))| ((with_reducible refine D0 ?_);first|exact CA rfl|refine CJ ?_)|fail)) ⟨⟨by simp,by simp[sgL],_,rfl,bS (aV _ _)⟩,⟨by simp,by simp[sgL],_,rfl,aP (by repeat' (first| (with_reducible first|exact C3|refine C4 ?_ ?_)| ((with_reducible refine C0 ?_);exact CC)|fail))⟩,⟨by simp,by simp[sgL],_,rfl,aP (by repeat' (first| (with_reducible first|exact C3|refine C4 ?_ ?_)| ((with_reducible refine C0 ?_);first|exact CB rfl|exact CQ (by omega) rfl rfl (by rfl) rfl)|fail))⟩,⟨by simp,by simp[sgL],_,rfl,bP (aG iR _) rfl rfl⟩,⟨by simp,by simp[sgL],_,rfl,bP (aG rL _) rfl rfl⟩,trivial⟩ (by simp[sgL]))
  rintro⟨j,pj,rs,cr⟩ ⟨e1,e2,e3,e4,e5,e6⟩ KN hKN
  dsimp only at e1 e2 e3 e4 e5 e6
  have htr:rs.take rs.length=rs:=List.take_length
  by_cases hj:0<j
  ·refine aM.seq ?_
   repeat' (first| (with_reducible first| (refine hK _ _ _ ?_;clear hK K)| (refine hA ?_;clear hA hB A B)|refine Z2 ?_|refine Z4 (by omega) ?_)| (with_reducible first|refine Y1 fun K hK=> ?_|refine Y3 fun A B hA hB=> ?_)<;>(simp only[go_sem])|fail)
   refine aM.seq ?_
   repeat' (first| (with_reducible first| (refine hK _ _ _ ?_;clear hK K)|refine Z3 fun KB hKB=> ?_)| (first| (with_reducible refine Y1 fun K hK=> ?_)| (refine ID hl (by omega) (by omega) rfl (fun pq q hq1 hq2 hq3=> ?_)))<;>(simp only[go_sem])|fail)
   refine aM.apW 2 (β:=Nat×List Req×Nat)
    (fun b u=>en [(10,dP 7 (b+1)),(9,dI j),(8,dO 7 b u.2.1.length u.2.2),(7,dI k),(5,dP 3 17),(4,dP 3 16),(1,dI 7),(0,dP 2 0)])
    (fun b u=>hp [(0,rdO l u.1),(16,⟨3,1,[[.osl 0 0 0 0 0,.osl 0 0 0 0 0,.osl 0 0 0 0 0]]⟩),(17,⟨3,1,[[.isl (m.map eN),.isl (la.map aJ),.osl 1 18 0 k cp]]⟩),(18,⟨1,cp,ps.map jR⟩),(b,⟨7,u.2.2,u.2.1.map eB⟩),(b+1,⟨7,1,[eB q]⟩)])
    (fun u=>p≤u.1∧u.1≤pj+41∧(∀q∈u.2.1,dH q)∧u.2.1.length≤rs.length+1∧u.2.1.length≤u.2.2) (fun KJ hKJ=> ?_) ?_
   ·repeat' (first| (with_reducible first| (refine hK _ _ _ ?_;clear hK K)| (refine hA ?_;clear hA hB A B)| (refine hB ?_;clear hA hB A B)|refine Z1 ?_|refine Z2 ?_|refine Z6 (fun h=> ?_) fun h=> ?_|refine fun(cap:Nat) (hcap:_≤cap)=> ?_|refine fun(hcp:_≤cap)=> ?_)| (first| (with_reducible first|refine Y2 fun K hK=> ?_|refine Y3 fun A B hA hB=> ?_|refine Y6 (fun h=> ?_) fun h=> ?_)| (refine aX hl (by omega) (by omega) (by omega) rfl (fun x h1 h2=> ?_)))<;>(simp only[go_sem,htr])| ((with_reducible refine Y0 ?_);simp only[AQ.then,AQ.blk])|refine⟨by omega,?_⟩|fail)
    ·refine hKJ _ _ _ (pq+1,rs++[⟨q.id,3,q.addr,1,false,[],[]⟩],cap) (by(refine cR [55,33,0,16,17,18] (by omega) (by repeat' (first| (with_reducible first|exact C1|refine C2 ?_ ?_)| ((with_reducible refine C0 ?_);first| (exact CQ (by omega) rfl rfl (by first|rfl| (simp;done)) rfl)|exact CE (by omega) rfl)| ((with_reducible refine D0 ?_);first|exact CA rfl|refine CJ ?_)|fail)) ⟨⟨by simp,by simp[sgL],_,rfl,bS (aV _ _)⟩,⟨by simp,by simp[sgL],_,rfl,aP (by repeat' (first| (with_reducible first|exact C3|refine C4 ?_ ?_)| ((with_reducible refine C0 ?_);exact CC)|fail))⟩,⟨by simp,by simp[sgL],_,rfl,aP (by repeat' (first| (with_reducible first|exact C3|refine C4 ?_ ?_)| ((with_reducible refine C0 ?_);first|exact CB rfl|exact CQ (by omega) rfl rfl (by rfl) rfl)|fail))⟩,⟨by simp,by simp[sgL],_,rfl,bP (aG iR _) rfl rfl⟩,⟨by simp,by simp[sgL],_,rfl,uO (R:=rs.map eB) (r':=eB ⟨q.id,3,q.addr,1,false,[],[]⟩) (by simp) rfl (fun r hr=>(aG rL rs r hr).2) rfl (aH (bB rfl) (aH (bB rfl) (aH (bB rfl) (aH (bB rfl) (aH (bB rfl) (aH xG (aH xG eP)))))))⟩,⟨by simp,by simp[sgL],_,rfl,aP (by repeat' (first| (with_reducible first|exact C3|refine C4 ?_ ?_)| ((with_reducible refine C0 ?_);exact CB rfl)|refine C4 ?_ ?_|fail))⟩,trivial⟩ (by simp[sgL]))) ⟨by dsimp only;omega,by dsimp only;omega,fun q' hq'=> ?_,by simp,by simpa using hcap⟩
     rcases List.mem_append.1 hq' with hq'|hq'
     ·exact e4 q' hq'
     ·simp at hq';subst hq';exact MM hq3
    all_goals refine hKJ _ _ _ (_,rs,cr) (by(refine cR [28,33,0,16,17,18] (by omega) (by repeat' (first| (with_reducible first|exact C1|refine C2 ?_ ?_)| ((with_reducible refine C0 ?_);first|exact CQ (by omega) rfl rfl (by rfl) rfl|exact CE (by omega) rfl)| ((with_reducible refine D0 ?_);first|exact CA rfl|refine CJ ?_)|fail)) ⟨⟨by simp,by simp[sgL],_,rfl,bS (aV _ _)⟩,⟨by simp,by simp[sgL],_,rfl,aP (by repeat' (first| (with_reducible first|exact C3|refine C4 ?_ ?_)| ((with_reducible refine C0 ?_);exact CC)|fail))⟩,⟨by simp,by simp[sgL],_,rfl,aP (by repeat' (first| (with_reducible first|exact C3|refine C4 ?_ ?_)| ((with_reducible refine C0 ?_);first|exact CB rfl|exact CQ (by omega) rfl rfl (by rfl) rfl)|fail))⟩,⟨by simp,by simp[sgL],_,rfl,bP (aG iR _) rfl rfl⟩,⟨by simp,by simp[sgL],_,rfl,bP (aG rL _) rfl rfl⟩,⟨by simp,by simp[sgL],_,rfl,aP (by repeat' (first| (with_reducible first|exact C3|refine C4 ?_ ?_)| ((with_reducible refine C0 ?_);exact CB rfl)|refine C4 ?_ ?_|fail))⟩,trivial⟩ (by simp[sgL]))) ⟨by dsimp only;omega,by dsimp only;omega,e4,by dsimp only;omega,e6⟩
   rintro⟨pk,rk,ck⟩ ⟨d1,d2,d3,d4,d5⟩
   dsimp only at d1 d2 d3 d4 d5
   have htk:rk.take rk.length=rk:=List.take_length
   repeat' (first| (with_reducible first| (refine hK _ _ _ ?_;clear hK K)|refine fun(cap:Nat) (hcap:_≤cap)=> ?_|refine fun(hcp:_≤cap)=> ?_)| (with_reducible refine Y2 fun K hK=> ?_)<;>(simp only[go_sem,htk];try simp (disch:=omega) only[Iw])| ((with_reducible refine Y0 ?_);simp only[AQ.then,AQ.blk])|refine⟨by omega,?_⟩| (with_reducible refine hKB _ _ _ ?_)|fail)
   refine hKN _ _ _ (j-1,pk,rk++[q],cap) (by omega) (by(refine cR [40,0,16,17,18] (by omega) (by repeat' (first| (with_reducible first|exact C1|refine C2 ?_ ?_)| ((with_reducible refine C0 ?_);first| (exact CQ (by omega) rfl rfl (by first|rfl| (simp;done)) rfl)|exact CE (by omega) rfl| (exact CG (by(congr 2;omega)) rfl))| ((with_reducible refine D0 ?_);first|exact CA rfl|refine CJ ?_)|fail)) ⟨⟨by simp,by simp[sgL],_,rfl,bS (aV _ _)⟩,⟨by simp,by simp[sgL],_,rfl,aP (by repeat' (first| (with_reducible first|exact C3|refine C4 ?_ ?_)| ((with_reducible refine C0 ?_);exact CC)|fail))⟩,⟨by simp,by simp[sgL],_,rfl,aP (by repeat' (first| (with_reducible first|exact C3|refine C4 ?_ ?_)| ((with_reducible refine C0 ?_);first|exact CB rfl|exact CQ (by omega) rfl rfl (by rfl) rfl)|fail))⟩,⟨by simp,by simp[sgL],_,rfl,bP (aG iR _) rfl rfl⟩,⟨by simp,by simp[sgL],_,rfl,bP (aG rL _) rfl rfl⟩,trivial⟩ (by simp[sgL]))) ⟨by dsimp only;omega,by dsimp only;omega,by dsimp only;omega,fun q' hq'=> ?_,by simp;omega,by simpa using hcap⟩ (by dsimp only;omega)
   rcases List.mem_append.1 hq' with hq'|hq'
   ·exact d3 q' hq'
   ·simp at hq';subst hq';exact hq3
  ·by_cases hmin:(rs.length:Int)≤12
   ·repeat' (first| (with_reducible first| (refine hK _ _ _ ?_;clear hK K)| (refine hB ?_;clear hA hB A B)|refine Z1 ?_|refine Z5 (by omega) ?_|refine fun(cap:Nat) (hcap:_≤cap)=> ?_|refine fun(hcp:_≤cap)=> ?_|refine hKZ _ _ _ ?_)| (with_reducible first|refine Y2 fun K hK=> ?_|refine Y3 fun A B hA hB=> ?_)<;>(simp only[go_sem,htp];try simp (disch:=omega) only[Iw])| ((with_reducible refine Y9 ?_);try simp only[AQ.then,AQ.blk,reduceIte,Nat.reduceEqDiff])| ((with_reducible refine Y0 ?_);simp only[AQ.then,AQ.blk])|refine⟨by omega,?_⟩| (with_reducible refine hKB _ _ _ ?_)|fail)
    refine hKM _ _ _ (k+1,pj,ps++[rs],cap) (by omega) (by(refine cR [16,17,39,0] (by omega) (by repeat' (first| (with_reducible first|exact C1|refine C2 ?_ ?_)| ((with_reducible refine C0 ?_);exact CE (by omega) rfl)| ((with_reducible refine D0 ?_);first|exact CA rfl|refine CJ ?_)|fail)) ⟨⟨by simp,by simp[sgL],_,rfl,bS (aV _ _)⟩,⟨by simp,by simp[sgL],_,rfl,aP (by repeat' (first| (with_reducible first|exact C3|refine C4 ?_ ?_)| ((with_reducible refine C0 ?_);exact CC)|fail))⟩,⟨by simp,by simp[sgL],_,rfl,aP (by repeat' (first| (with_reducible first|exact C3|refine C4 ?_ ?_)| ((with_reducible refine C0 ?_);first|exact CB rfl|exact CQ (by omega) rfl rfl (by rfl) rfl)|fail))⟩,⟨by simp,by simp[sgL],_,rfl,uO (R:=ps.map jR) (r':=jR rs) (by simp) rfl (fun r hr=>(aG iR ps r hr).2) rfl (aH (bW rL rfl (by rw[if_neg (by omega)];omega) (by omega) (by simp)) eP)⟩,trivial⟩ (by simp[sgL]))) ⟨by dsimp only;omega,by dsimp only;omega,by dsimp only;omega,by simp;omega,fun pr hpr=> ?_,by dsimp only;omega⟩ (by dsimp only;omega)
    rcases List.mem_append.1 hpr with hpr|hpr
    ·exact g5 pr hpr
    ·simp at hpr;subst hpr;exact⟨by omega,e4⟩
   ·repeat' (first| (with_reducible first| (refine hK _ _ _ ?_;clear hK K)| (refine hB ?_;clear hA hB A B)|refine Z1 ?_|refine Z5 (by omega) ?_|refine fun(cap:Nat) (hcap:_≤cap)=> ?_|refine fun(hcp:_≤cap)=> ?_|refine hKZ _ _ _ ?_)| (with_reducible first|refine Y2 fun K hK=> ?_|refine Y3 fun A B hA hB=> ?_)<;>(simp only[go_sem,htp];try simp (disch:=omega) only[Iw])| ((with_reducible refine Y9 ?_);try simp only[AQ.then,AQ.blk,reduceIte,Nat.reduceEqDiff])| ((with_reducible refine Y0 ?_);simp only[AQ.then,AQ.blk])|refine⟨by omega,?_⟩| (with_reducible refine hKB _ _ _ ?_)|fail)
    refine hKM _ _ _ (k+1,pj,ps++[rs.take 12],cap) (by omega) (by(refine cR [16,17,39,0] (by omega) (by repeat' (first| (with_reducible first|exact C1|refine C2 ?_ ?_)| ((with_reducible refine C0 ?_);exact CE (by omega) rfl)| ((with_reducible refine D0 ?_);first|exact CA rfl|refine CJ ?_)|fail)) ⟨⟨by simp,by simp[sgL],_,rfl,bS (aV _ _)⟩,⟨by simp,by simp[sgL],_,rfl,aP (by repeat' (first| (with_reducible first|exact C3|refine C4 ?_ ?_)| ((with_reducible refine C0 ?_);exact CC)|fail))⟩,⟨by simp,by simp[sgL],_,rfl,aP (by repeat' (first| (with_reducible first|exact C3|refine C4 ?_ ?_)| ((with_reducible refine C0 ?_);first|exact CB rfl|exact CQ (by omega) rfl rfl (by rfl) rfl)|fail))⟩,⟨by simp,by simp[sgL],_,rfl,uO (R:=ps.map jR) (r':=jR (rs.take 12)) (by simp) rfl (fun r hr=>(aG iR ps r hr).2) rfl (aH (XN (aG rL (rs.take 12)) (by rw[if_pos (by omega),List.length_map,List.length_take];omega) (by simp) rfl rfl (by dsimp only;rw[List.length_map,List.length_take,List.map_take,show min 12 rs.length=12 by omega]) (by rw[List.length_map,List.length_take];omega)) eP)⟩,trivial⟩ (by simp[sgL]))) ⟨by dsimp only;omega,by dsimp only;omega,by dsimp only;omega,by simp;omega,fun pr hpr=> ?_,by dsimp only;omega⟩ (by dsimp only;omega)
    rcases List.mem_append.1 hpr with hpr|hpr
    ·exact g5 pr hpr
    ·simp at hpr;subst hpr;exact⟨by simp;omega,fun q hq=>e4 q (List.mem_of_mem_take hq)⟩
 ·repeat' (first| (with_reducible first| (refine hK _ _ _ ?_;clear hK K)| (refine hB ?_;clear hA hB A B)|refine Z1 ?_|refine Z5 (by omega) ?_|refine hKY _ _ _ ?_)| (with_reducible first|refine Y2 fun K hK=> ?_|refine Y3 fun A B hA hB=> ?_)<;>(simp only[go_sem])| ((with_reducible first|refine Y8 ?_|refine Y9 ?_);try simp only[AQ.then,AQ.blk,reduceIte,Nat.reduceEqDiff])|fail)
  have hk3:k=3:=by omega
  subst hk3
  refine lA hQ (dA (cU ⟨m,la,ps⟩)) _ _ rfl (aH (bB rfl) (aH (bB rfl) (aH (bW iR rfl (by dsimp only;omega) (by dsimp only;omega) (by decide)) eP))) rfl (aV _ _) ⟨pl,⟨m,la,ps⟩,rfl,by omega,by omega,rfl,?_⟩
  have hpo: ∀pr∈ps,mV pr:=fun pr hpr=>by
   obtain⟨q1,q2⟩:=g5 pr hpr
   refine⟨by omega,fun hc=> ?_⟩
   obtain⟨x,hx,hx2⟩:=cH.1 hc
   exact of_decide_eq_true hx2 (q2 x hx)
  refine⟨⟨hmok,by dsimp only;omega,f5,by dsimp only;omega,fun hc=> ?_⟩,⟨by have:=hmok.1;dsimp only;omega,by dsimp only;omega,by dsimp only;omega,fun pr hpr=>by have:=(g5 pr hpr).1;omega,fun pr hpr q hq=> ?_⟩⟩
  ·obtain⟨x,hx,hx2⟩:=cH.1 hc
   exact of_decide_eq_true hx2 (hpo x hx)
  ·exact L4 ((g5 pr hpr).2 q hq)
theorem IG {l:List Int} {p i:Nat} (hl:kZ l) (hp50:p+1000<2^50) (hi:i<nx) (ho:H i=some (rdO l p)) (h: ∀(p':Nat) (c:Cfg),p≤p'→p'≤p+1000→(aQ c∧jO c)→K (dA (cU c)) (H.set i (rdO l p')) nx):
 aB Tryz.prog lJ [dP 2 i,dI 7] H nx K:=
 (zM l p hl hp50).OU i rfl (gW ⟨DG (by omega) rfl,aE rfl,trivial⟩) hi ho (aV l p) fun r o' ⟨p',c,h1,h2,h3,h4,h5⟩=>by
  subst h1;subst h4;exact EW (A:=fun d=>K d (H.set i (rdO l p')) nx) rfl (h p' c h2 h3 h5)
end
end Go.Proofs.YtegiblhkjfiooaaGreat.B7
namespace Go.Proofs.YtegiblhkjfiooaaGreat
open Go Go.AM
set_option maxRecDepth 100000
set_option maxHeartbeats 8000000
section
variable {H : aA} {nx : Nat} {K : D → aA → Nat → Prop}
end
end Go.Proofs.YtegiblhkjfiooaaGreat
end
section
namespace Go.AM
theorem aS2 {H:aA} {nx t:Nat} {o o':bA} (h3:H t=some o) (h5:CvO H noF id nx o' o):CvX noF nx H (H.set t o'):=
 apO (t:=t) (o':=o') (fun j hj=>hj.elim) aA.bH h3 (fun h=>h) h5 fun j hj _=>aA.aC hj
def aTA (H:aA) (F:Nat→Prop) (σ:Nat→Nat) (nh:Nat) (R' R:List (List D1)):Prop:=R'.length=R.length∧ ∀(i:Nat) (r' r:List D1),R'[i]?=some r'→R[i]?=some r→CvL H F σ nh r' r
section
variable {H : aA} {F : Nat → Prop} {σ : Nat → Nat} {nh : Nat} {R R' S S' : List (List D1)} {r r' : List D1}
theorem aT0:aTA H F σ nh [] []:=⟨rfl,fun i r' r h=>by simp at h⟩
theorem aSR (h:CvL H F σ nh r' r) (hR:aTA H F σ nh R' R):aTA H F σ nh (r'::R') (r::R):=by
 refine⟨by simp[hR.1],fun i a b ha hb=> ?_⟩
 match i with
 |0=>simp at ha hb;subst ha;subst hb;exact h
 |i+1=>simp at ha hb;exact hR.2 i a b ha hb
theorem aTZ (hR: ∀r∈R,∀x∈r,x.dQ=true):aTA H F σ nh R R:=⟨rfl,fun i a b ha hb=>by
 rw[ha] at hb;cases hb
 exact GW fun x hx=>hR a (List.mem_of_getElem? ha) x hx⟩
theorem aTS (h:aTA H F σ nh R' R) (h2:aTA H F σ nh S' S):aTA H F σ nh (R'++S') (R++S):=by
 refine⟨by simp[h.1,h2.1],fun i a b ha hb=> ?_⟩
 rw[List.getElem?_append] at ha hb
 rw[h.1] at ha
 by_cases hi:i<R.length
 ·rw[if_pos hi] at ha hb;exact h.2 i a b ha hb
 ·rw[if_neg hi] at ha hb;exact h2.2 _ a b ha hb
theorem aUI {n m:Nat} (h:aTA H F σ nh R' R):CvO H F σ nh ⟨n,m,R'⟩ ⟨n,m,R⟩:=by
 refine⟨rfl,rfl,Nat.le_of_eq h.1,fun _ h0=> ?_,fun i a ha=> ?_⟩
 ·dsimp only at h0 ⊢
  have:=h.1;rw[h0] at this;exact List.length_eq_zero_iff.1 this.symm
 ·have hi:i<R.length:=by rw[←h.1];exact(List.getElem?_eq_some_iff.1 ha).1
  exact⟨R[i],List.getElem?_eq_getElem hi,h.2 i a _ ha (List.getElem?_eq_getElem hi)⟩
end
theorem aM.aUF {P:Program} {T:Nat} {e:Env} {H:aA} {nx:Nat} {Q:AQ} {x y:AC} {zs:List AC} {β:Type} (E:β→Env) (Φ:β→aA→Nat→Prop)
 (h1: ∀K:Env→aA→Nat→Prop,(∀e' H' nx' b F H2,nx≤nx'→CvE H' F id nx' (E b) e'→CvX F nx' H' H2→Φ b H2 nx'→K e' H' nx')→aM P T [x] e H nx (AQ.then K Q))
 (h2: ∀b H1 nx1,nx≤nx1→Φ b H1 nx1→aM P T (y::zs) (E b) H1 nx1 Q):aM P T (.seq x y::zs) e H nx Q:=by
 refine aM.seq (aM.cut (fun e' H' nx'=>nx≤nx'∧ ∃b F H2,CvE H' F id nx' (E b) e'∧CvX F nx' H' H2∧Φ b H2 nx') (h1 _ fun e' H' nx' b F H2 q1 q2 q3 q4=>⟨q1,b,F,H2,q2,q3,q4⟩) fun e' H' nx' _ ⟨q1,b,F,H2,q2,q3,q4⟩=> ?_)
 exact aM.tW (E b) H2 F (fun t=>.inr (q2 t)) q3 (h2 b H2 nx' q1 q4)
end Go.AM
namespace Go.Proofs.YtegiblhkjfiooaaGreat
open Go Go.AM
set_option maxRecDepth 100000
set_option maxHeartbeats 8000000
section
variable {H : aA} {nx : Nat} {K : D → aA → Nat → Prop}
theorem aRR:cJ Tryz.prog lJ Tryz.f56 qQ FY:=cJ.mk Tryz.func56 (by kernel_rfl) QV
theorem aQN {l:List Int} {p i:Nat} (hl:kZ l) (hp50:p+1000<2^50) (hi:i<nx) (ho:H i=some (rdO l p))
 (h: ∀H' nx' p' (m:List Rng) (la:List Int) (aUU:Prog) (Ps:List Prog) bl cl bp cp mp b0 c0,p≤p'→p'≤p+1000→DH m→la.length=4→Ps.length=2→(∀pr∈aUU::Ps,pr.length≤12∧ ∀q∈pr,dH q)→H' i=some (rdO l p')→Own aJ 1 H' bl cl la→Own eB 7 H' b0 c0 aUU→H' bp=some ⟨1,mp,[.osl 7 b0 0 aUU.length c0]::Ps.map jR⟩→3≤cp→cp≤mp→nx≤bl→nx≤bp→nx≤b0→bl<nx'→bp<nx'→b0<nx'→[bl,bp,b0].Nodup→(∀id,id<nx→id≠i→H' id=H id)→
  K (dA [.isl (m.map eN),.osl 1 bl 0 4 cl,.osl 1 bp 0 3 cp]) H' nx'):aB Tryz.prog lJ [dP 2 i,dI 6] H nx K:=by
 refine aRR rfl fun Q hQ=> ?_
 unfold qQ
 have hA:bQ nx [i]:=AM.apart (by simp) (by simp;omega)
 simp only[bQ,eZ] at hA
 repeat' (first| (with_reducible first| (refine hK _ _ _ ?_;clear hK K)|refine Z1 ?_|refine Z3 fun KB hKB=> ?_)| (first| (with_reducible refine Y2 fun K hK=> ?_)| (refine IV (p:=p) hl (by omega) (by omega) (by rw[aA.aC (by omega)];exact ho) (fun pm m hm1 hm2 hmok=> ?_)))<;>(simp only[go_sem,Nat.add_assoc,Nat.left_eq_add,Nat.add_eq_left,hA])|fail)
 (have hKX:=hKB;clear hKB)
 refine aM.EJ 1 ?_
 refine aM.aTJ fun G0 hG0=> ?_
 have q0:G0 i=some (rdO l pm):=by rw[hG0];exact(by simp only[aA.set,aA.del,Nat.add_assoc,Nat.reduceAdd,Nat.add_left_cancel_iff,Nat.reduceEqDiff,Nat.left_eq_add,Nat.add_eq_left,if_true,if_false,hA];done)
 have q1:G0 nx=some ⟨3,1,[[.osl 0 0 0 0 0,.osl 0 0 0 0 0,.osl 0 0 0 0 0]]⟩:=by rw[hG0];exact(by simp only[aA.set,aA.del,Nat.add_assoc,Nat.reduceAdd,Nat.add_left_cancel_iff,Nat.reduceEqDiff,Nat.left_eq_add,Nat.add_eq_left,if_true,if_false,hA];done)
 have q2:G0 (nx+4)=some ⟨3,1,[[.isl (m.map eN),.osl 0 0 0 0 0,.osl 0 0 0 0 0]]⟩:=by rw[hG0];exact(by simp only[aA.set,aA.del,Nat.add_assoc,Nat.reduceAdd,Nat.add_left_cancel_iff,Nat.reduceEqDiff,Nat.left_eq_add,Nat.add_eq_left,if_true,if_false,hA];done)
 have q3:G0 (nx+7)=some ⟨1,0,[]⟩:=by rw[hG0];exact(by simp only[aA.set,aA.del,Nat.add_assoc,Nat.reduceAdd,Nat.add_left_cancel_iff,Nat.reduceEqDiff,Nat.left_eq_add,Nat.add_eq_left,if_true,if_false,hA];done)
 have qf: ∀id,id<nx→id≠i→G0 id=H id:=fun id h1 h2=>by rw[hG0,aA.aC (by omega),aA.aC (by omega),aA.aC h2,aA.aC (by omega)]
 clear hG0
 refine aM.gP (β:=Nat×Nat×List Int×Nat×Nat) (fun u=>en [(6,dI u.1),(5,dP 3 (nx+4)),(4,dP 3 nx),(1,dI 6),(0,dP 2 i)])
  (fun u H1 nx1=>(u.1≤4∧p≤u.2.1∧u.2.1≤p+8+u.1∧u.2.2.1.length=u.1∧nx+7≤u.2.2.2.1∧u.2.2.2.1<nx1)∧H1 i=some (rdO l u.2.1)∧H1 nx=some ⟨3,1,[[.osl 0 0 0 0 0,.osl 0 0 0 0 0,.osl 0 0 0 0 0]]⟩∧H1 (nx+4)=some ⟨3,1,[[.isl (m.map eN),.osl 1 u.2.2.2.1 0 u.1 u.2.2.2.2,.osl 0 0 0 0 0]]⟩∧Own aJ 1 H1 u.2.2.2.1 u.2.2.2.2 u.2.2.1∧ ∀id,id<nx→id≠i→H1 id=H id)
  (fun u=>4-u.1) (0,pm,[],nx+7,0) ⟨noF,G0.set (nx+4) ⟨3,1,[[.isl (m.map eN),.osl 1 (nx+7) 0 0 0,.osl 0 0 0 0 0]]⟩,by repeat' (first| (with_reducible first|exact C1|refine C2 ?_ ?_)| ((with_reducible refine C0 ?_);exact CE (by omega) rfl)| ((with_reducible refine D0 ?_);first|exact CA rfl|refine CJ ?_)|fail),aS2 q2 (aP (aH (bB rfl) (aH (.VS _ _ _ _ _ _) (aH (.VS _ _ _ _ _ _) eP)))),by dsimp only;simp;omega,(by simp only[aA.set,aA.del,Nat.add_assoc,Nat.reduceAdd,Nat.add_left_cancel_iff,Nat.reduceEqDiff,Nat.left_eq_add,Nat.add_eq_left,if_true,if_false,hA,q0];done),(by simp only[aA.set,aA.del,Nat.add_assoc,Nat.reduceAdd,Nat.add_left_cancel_iff,Nat.reduceEqDiff,Nat.left_eq_add,Nat.add_eq_left,if_true,if_false,hA,q1];done),(by simp only[aA.set,aA.del,Nat.add_assoc,Nat.reduceAdd,Nat.add_left_cancel_iff,Nat.reduceEqDiff,Nat.left_eq_add,Nat.add_eq_left,if_true,if_false,hA];done),⟨0,(by simp only[aA.set,aA.del,Nat.add_assoc,Nat.reduceAdd,Nat.add_left_cancel_iff,Nat.reduceEqDiff,Nat.left_eq_add,Nat.add_eq_left,if_true,if_false,hA,q3,List.map_nil];done),Nat.le_refl _,Nat.le_refl _⟩,fun id h1 h2=>by rw[aA.aC (by omega)];exact qf id h1 h2⟩ ?_
 clear q0 q1 q2 q3 qf
 rintro⟨k,pl,la,bl,cl⟩ H1 nx1 hnx1 ⟨⟨f1,f2,f3,f4,f5,f6⟩,q0,q1,q2,⟨ml,q3,e1,e2⟩,qf⟩ KL hKL
 dsimp only at f1 f2 f3 f4 f5 f6 q0 q1 q2 q3 e1 e2
 have hta:la.take k=la:=List.take_of_length_le (by omega)
 have hA1:bQ nx1 [i,nx,nx+4,bl]:=AM.apart (by simp;omega) (by simp;omega)
 simp only[bQ,eZ] at hA1
 by_cases hlt:k<4
 ·have hM: ∀G:aA,msk (nx1+2) [4] G (nx+4)=G (nx+4):=fun G=>mk1 (by omega)
  repeat' (first| (with_reducible first| (refine hK _ _ _ ?_;clear hK K)| (refine hA ?_;clear hA hB A B)|refine Z1 ?_|refine Z2 ?_|refine Z3 fun KB hKB=> ?_|refine Z4 (by omega) ?_|refine fun(cap:Nat) (hcap:_≤cap)=> ?_|refine fun(hcp:_≤cap)=> ?_)| (first| (with_reducible first|refine Y2 fun K hK=> ?_|refine Y3 fun A B hA hB=> ?_)| (refine aX (p:=pl) hl (by omega) (by omega) (by omega) q0 (fun x h1 h2=> ?_)))<;>(simp only[go_sem,Nat.add_assoc,Nat.left_eq_add,Nat.add_eq_left,q0,q1,q2,q3,hA1,hta,hM];try simp (disch:=omega) only[Iw])| ((with_reducible refine Y0 ?_);simp only[AQ.then,AQ.blk])|refine⟨by omega,?_⟩| (with_reducible refine hKB _ _ _ ?_)|fail)
  exact hKL _ _ _ (k+1,pl+1,la++[x],nx1+7,cap) noF _ (by omega) (by dsimp only;omega) (by dsimp only;repeat' (first| (with_reducible first|exact C1|refine C2 ?_ ?_)| ((with_reducible refine C0 ?_);exact CE (by omega) rfl)| ((with_reducible refine D0 ?_);first|exact CA rfl|refine CJ ?_)|fail)) aK ⟨by simp;omega,(by simp only[aA.set,aA.del,Nat.add_assoc,Nat.reduceAdd,Nat.add_left_cancel_iff,Nat.reduceEqDiff,Nat.left_eq_add,Nat.add_eq_left,if_true,if_false,hA1];done),(by simp only[aA.set,aA.del,Nat.add_assoc,Nat.reduceAdd,Nat.add_left_cancel_iff,Nat.reduceEqDiff,Nat.left_eq_add,Nat.add_eq_left,if_true,if_false,hA1,q1];done),(by simp only[aA.set,aA.del,Nat.add_assoc,Nat.reduceAdd,Nat.add_left_cancel_iff,Nat.reduceEqDiff,Nat.left_eq_add,Nat.add_eq_left,if_true,if_false,hA1];done),⟨cap,(by simp only[aA.set,aA.del,Nat.add_assoc,Nat.reduceAdd,Nat.add_left_cancel_iff,Nat.reduceEqDiff,Nat.left_eq_add,Nat.add_eq_left,if_true,if_false,hA1];done),by simp;omega,Nat.le_refl _⟩,fun id h1 h2=>by rw[aA.aC (by omega),aA.aC (by omega),aA.aC (by omega),aA.aC h2,aA.jG (by omega)];exact qf id h1 h2⟩
 have hk4:k=4:=by omega
 subst hk4
 have hl4:=f4
 repeat' (first| (with_reducible first| (refine hK _ _ _ ?_;clear hK K)| (refine hB ?_;clear hA hB A B)|refine Z1 ?_|refine Z3 fun KB hKB=> ?_|refine Z5 (by omega) ?_|refine hKX _ _ _ ?_)| (with_reducible first|refine Y2 fun K hK=> ?_|refine Y3 fun A B hA hB=> ?_)<;>(simp only[go_sem,Nat.add_assoc])| ((with_reducible refine Y9 ?_);try simp only[AQ.then,AQ.blk,reduceIte,Nat.reduceEqDiff])|fail)
 (have hKY:=hKB;clear hKB)
 refine aM.EJ 1 ?_
 refine aM.aTJ fun G0 hG0=> ?_
 have r0:G0 i=some (rdO l pl):=by rw[hG0];exact(by simp only[aA.set,aA.del,Nat.add_assoc,Nat.reduceAdd,Nat.add_left_cancel_iff,Nat.reduceEqDiff,Nat.left_eq_add,Nat.add_eq_left,if_true,if_false,hA1,q0];done)
 have r1:G0 nx=some ⟨3,1,[[.osl 0 0 0 0 0,.osl 0 0 0 0 0,.osl 0 0 0 0 0]]⟩:=by rw[hG0];exact(by simp only[aA.set,aA.del,Nat.add_assoc,Nat.reduceAdd,Nat.add_left_cancel_iff,Nat.reduceEqDiff,Nat.left_eq_add,Nat.add_eq_left,if_true,if_false,hA1,q1];done)
 have r2:G0 (nx+4)=some ⟨3,1,[[.isl (m.map eN),.osl 1 bl 0 4 cl,.osl 0 0 0 0 0]]⟩:=by rw[hG0];exact(by simp only[aA.set,aA.del,Nat.add_assoc,Nat.reduceAdd,Nat.add_left_cancel_iff,Nat.reduceEqDiff,Nat.left_eq_add,Nat.add_eq_left,if_true,if_false,hA1,q2];done)
 have r3:Own aJ 1 G0 bl cl la:=⟨ml,by rw[hG0];exact(by simp only[aA.set,aA.del,Nat.add_assoc,Nat.reduceAdd,Nat.add_left_cancel_iff,Nat.reduceEqDiff,Nat.left_eq_add,Nat.add_eq_left,if_true,if_false,hA1,q3];done),e1,e2⟩
 have r4:G0 (nx1+3)=some ⟨1,0,[]⟩:=by rw[hG0];exact(by simp only[aA.set,aA.del,Nat.add_assoc,Nat.reduceAdd,Nat.add_left_cancel_iff,Nat.reduceEqDiff,Nat.left_eq_add,Nat.add_eq_left,if_true,if_false,hA1];done)
 have rf: ∀id,id<nx→id≠i→G0 id=H id:=fun id h1 h2=>by rw[hG0,aA.aC (by omega)];exact qf id h1 h2
 clear hG0 q0 q1 q2 q3 qf e1 e2
 refine aM.gP (β:=Nat×Nat×(List (List D1)×Nat×Nat)×(Prog×Nat×Nat)×List Prog) (fun u=>en [(7,dI u.1),(5,dP 3 (nx+4)),(4,dP 3 nx),(1,dI 6),(0,dP 2 i)])
  (fun u H1 nx1=>((u.1≤3∧p≤u.2.1∧u.2.1≤p+12+300*u.1)∧(nx+5≤u.2.2.1.2.1∧u.2.2.1.2.1<nx1∧bl≠u.2.2.1.2.1∧bl<nx1))∧H1 i=some (rdO l u.2.1)∧H1 nx=some ⟨3,1,[[.osl 0 0 0 0 0,.osl 0 0 0 0 0,.osl 0 0 0 0 0]]⟩∧H1 (nx+4)=some ⟨3,1,[[.isl (m.map eN),.osl 1 bl 0 4 cl,.osl 1 u.2.2.1.2.1 0 u.1 u.2.2.1.2.2]]⟩∧Own aJ 1 H1 bl cl la∧
   (∃mp,H1 u.2.2.1.2.1=some ⟨1,mp,u.2.2.1.1⟩∧u.1≤u.2.2.1.2.2∧u.2.2.1.2.2≤mp)∧
   (0<u.1→Own eB 7 H1 u.2.2.2.1.2.1 u.2.2.2.1.2.2 u.2.2.2.1.1∧u.2.2.1.1=[.osl 7 u.2.2.2.1.2.1 0 u.2.2.2.1.1.length u.2.2.2.1.2.2]::u.2.2.2.2.map jR∧u.2.2.2.2.length+1=u.1∧(∀pr∈u.2.2.2.1.1::u.2.2.2.2,pr.length≤12∧ ∀q∈pr,dH q)∧nx+5≤u.2.2.2.1.2.1∧u.2.2.2.1.2.1<nx1∧[bl,u.2.2.1.2.1,u.2.2.2.1.2.1].Nodup)∧(u.1=0→u.2.2.1.1=[])∧ ∀id,id<nx→id≠i→H1 id=H id)
  (fun u=>3-u.1) (0,pl,([],nx1+3,0),([],0,0),[]) ⟨noF,G0.set (nx+4) ⟨3,1,[[.isl (m.map eN),.osl 1 bl 0 4 cl,.osl 1 (nx1+3) 0 0 0]]⟩,by repeat' (first| (with_reducible first|exact C1|refine C2 ?_ ?_)| ((with_reducible refine C0 ?_);exact CE (by omega) rfl)| ((with_reducible refine D0 ?_);first|exact CA rfl|refine CJ ?_)|fail),aS2 r2 (aP (aH (bB rfl) (aH (.osl _ _ _ _ _ (by omega)) (aH (.VS _ _ _ _ _ _) eP)))),by dsimp only;omega,(by simp only[aA.set,aA.del,Nat.add_assoc,Nat.reduceAdd,Nat.add_left_cancel_iff,Nat.reduceEqDiff,Nat.left_eq_add,Nat.add_eq_left,if_true,if_false,hA1,r0];done),(by simp only[aA.set,aA.del,Nat.add_assoc,Nat.reduceAdd,Nat.add_left_cancel_iff,Nat.reduceEqDiff,Nat.left_eq_add,Nat.add_eq_left,if_true,if_false,hA1,r1];done),(by simp only[aA.set,aA.del,Nat.add_assoc,Nat.reduceAdd,Nat.add_left_cancel_iff,Nat.reduceEqDiff,Nat.left_eq_add,Nat.add_eq_left,if_true,if_false,hA1];done),r3.of (by rw[aA.aC (by omega)]),⟨0,(by simp only[aA.set,aA.del,Nat.add_assoc,Nat.reduceAdd,Nat.add_left_cancel_iff,Nat.reduceEqDiff,Nat.left_eq_add,Nat.add_eq_left,if_true,if_false,hA1,r4];done),Nat.le_refl _,Nat.le_refl _⟩,fun h=>by dsimp only at h;omega,fun _=>rfl,fun id h1 h2=>by rw[aA.aC (by omega)];exact rf id h1 h2⟩ ?_
 clear r0 r1 r2 r3 r4 rf
 have hnn:nx+8≤nx1:=by omega
 clear hnx1 hA1
 rintro⟨k,pl,⟨rows,bp,cp⟩,⟨aUU,b0,c0⟩,Ps⟩ H1 nx1 hnx1 ⟨⟨⟨f1,f2,f3⟩,f4,f5,f6,f7⟩,q0,q1,q2,q3,⟨mp,q4,e1,e2⟩,q5,q6,qf⟩ KL hKL
 dsimp only at f1 f2 f3 f4 f5 f6 f7 q0 q1 q2 q3 q4 q5 q6 e1 e2
 have hA1:bQ nx1 [i,nx,nx+4,bl,bp]:=AM.apart (by simp;omega) (by simp;omega)
 simp only[bQ,eZ] at hA1
 by_cases hlt:k<3
 ·repeat' (first| (with_reducible first| (refine hK _ _ _ ?_;clear hK K)| (refine hA ?_;clear hA hB A B)|refine Z1 ?_|refine Z2 ?_|refine Z3 fun KB hKB=> ?_|refine Z4 (by omega) ?_)| (first| (with_reducible first|refine Y2 fun K hK=> ?_|refine Y3 fun A B hA hB=> ?_)| (refine aX (p:=pl) hl (by omega) (by omega) (by omega) (by simp only[aA.set,aA.del,Nat.add_assoc,Nat.reduceAdd,Nat.add_left_cancel_iff,Nat.reduceEqDiff,Nat.left_eq_add,Nat.add_eq_left,if_true,if_false,hA1,q0];done) (fun x h1 h2=> ?_)))<;>(simp only[go_sem,Nat.add_assoc,Nat.left_eq_add,Nat.add_eq_left,q0,q1,q2,hA1];try simp (disch:=omega) only[Iw])|fail)
  (have hKZ:=hKB;clear hKB)
  refine aM.aTJ fun G0 hG0=> ?_
  have r0:G0 i=some (rdO l (pl+1)):=by rw[hG0];exact(by simp only[aA.set,aA.del,Nat.add_assoc,Nat.reduceAdd,Nat.add_left_cancel_iff,Nat.reduceEqDiff,Nat.left_eq_add,Nat.add_eq_left,if_true,if_false,hA1,q0];done)
  have r1:G0 (nx1+2)=some ⟨7,0,[]⟩:=by rw[hG0];exact(by simp only[aA.set,aA.del,Nat.add_assoc,Nat.reduceAdd,Nat.add_left_cancel_iff,Nat.reduceEqDiff,Nat.left_eq_add,Nat.add_eq_left,if_true,if_false,hA1];done)
  have rf: ∀id,id<nx1→id≠i→G0 id=H1 id:=fun id h1 h2=>by rw[hG0,aA.aC h2,aA.aC (by omega)]
  clear hG0
  rename_i hx1 hx2
  refine aM.gP (β:=Nat×Nat×Prog×Nat×Nat) (fun u=>en [(9,dI u.1),(8,.one (.c (.osl 7 u.2.2.2.1 0 u.2.2.1.length u.2.2.2.2))),(7,dI k),(5,dP 3 (nx+4)),(4,dP 3 nx),(1,dI 6),(0,dP 2 i)])
   (fun u H2 nx2=>(u.1≤6∧p≤u.2.1∧u.2.1≤pl+1+41*(6-u.1)∧(∀q∈u.2.2.1,dH q)∧2*u.1+u.2.2.1.length≤12)∧(nx1≤u.2.2.2.1∧u.2.2.2.1<nx2)∧H2 i=some (rdO l u.2.1)∧Own eB 7 H2 u.2.2.2.1 u.2.2.2.2 u.2.2.1∧ ∀id,id<nx1→id≠i→H2 id=H1 id)
   (fun u=>u.1) (x.toNat,pl+1,[],nx1+2,0) ⟨noF,_,by repeat' (first| (with_reducible first|exact C1|refine C2 ?_ ?_)| ((with_reducible refine C0 ?_);first|exact CC|exact CE (by omega) rfl| (exact CG (by(congr 2;omega)) rfl))| ((with_reducible refine D0 ?_);first|exact CA rfl|refine CJ ?_)|fail),aK,⟨by dsimp only;omega,by dsimp only;omega,by dsimp only;omega,fun q hq=>by simp at hq,by simp;omega⟩,by dsimp only;omega,r0,⟨0,r1,Nat.le_refl _,Nat.le_refl _⟩,rf⟩ ?_
  clear r0 r1 rf
  rintro⟨j,pj,rs,b,cr⟩ H2 nx2 hnx2 ⟨⟨g1,g2,g3,g4,g5⟩,⟨g6,g7⟩,s0,⟨mr,s1,d1,d2⟩,sf⟩ KN hKN
  dsimp only at g1 g2 g3 g4 g5 g6 g7 s0 s1 d1 d2
  have htr:rs.take rs.length=rs:=List.take_length
  have hA2:bQ nx2 [i,b]:=AM.apart (by simp;omega) (by simp;omega)
  simp only[bQ,eZ] at hA2
  by_cases hj:0<j
  ·refine aM.seq ?_
   repeat' (first| (with_reducible first| (refine hK _ _ _ ?_;clear hK K)| (refine hA ?_;clear hA hB A B)|refine Z2 ?_|refine Z4 (by omega) ?_)| (with_reducible first|refine Y1 fun K hK=> ?_|refine Y3 fun A B hA hB=> ?_)<;>(simp only[go_sem])|fail)
   refine aM.seq ?_
   repeat' (first| (with_reducible first| (refine hK _ _ _ ?_;clear hK K)|refine Z3 fun KB hKB=> ?_)| (first| (with_reducible refine Y1 fun K hK=> ?_)| (refine ID (p:=pj) hl (by omega) (by omega) s0 (fun pq q hq1 hq2 hq3=> ?_)))<;>(simp only[go_sem,Nat.add_assoc,Nat.left_eq_add,Nat.add_eq_left,s0,s1,hA2])|fail)
   refine aM.aUF (β:=Nat×Prog×Nat×Nat) (fun u=>en [(10,dP 7 (nx2+4)),(9,dI j),(8,.one (.c (.osl 7 u.2.2.1 0 u.2.1.length u.2.2.2))),(7,dI k),(5,dP 3 (nx+4)),(4,dP 3 nx),(1,dI 6),(0,dP 2 i)])
    (fun u H3 nx3=>(p≤u.1∧u.1≤pj+41∧(∀q∈u.2.1,dH q)∧u.2.1.length≤rs.length+1)∧(nx1≤u.2.2.1∧u.2.2.1<nx3∧u.2.2.1≠nx2+4)∧H3 i=some (rdO l u.1)∧H3 (nx2+4)=some ⟨7,1,[eB q]⟩∧Own eB 7 H3 u.2.2.1 u.2.2.2 u.2.1∧ ∀id,id<nx1→id≠i→H3 id=H1 id) (fun KJ hKJ=> ?_) ?_
   ·repeat' (first| (with_reducible first| (refine hK _ _ _ ?_;clear hK K)| (refine hA ?_;clear hA hB A B)| (refine hB ?_;clear hA hB A B)|refine Z1 ?_|refine Z2 ?_|refine Z6 (fun h=> ?_) fun h=> ?_|refine fun(cap:Nat) (hcap:_≤cap)=> ?_|refine fun(hcp:_≤cap)=> ?_)| (first| (with_reducible first|refine Y2 fun K hK=> ?_|refine Y3 fun A B hA hB=> ?_|refine Y6 (fun h=> ?_) fun h=> ?_)| (refine aX (p:=pq) hl (by omega) (by omega) (by omega) (by simp only[aA.set,aA.del,Nat.add_assoc,Nat.reduceAdd,Nat.add_left_cancel_iff,Nat.reduceEqDiff,Nat.left_eq_add,Nat.add_eq_left,if_true,if_false,hA2];done) (fun x h1 h2=> ?_)))<;>(simp only[go_sem,Nat.add_assoc,Nat.left_eq_add,Nat.add_eq_left,s0,s1,hA2,htr])| ((with_reducible refine Y0 ?_);simp only[AQ.then,AQ.blk])|refine⟨by omega,?_⟩|fail)
    ·refine hKJ _ _ _ (pq+1,rs++[⟨q.id,3,q.addr,1,false,[],[]⟩],nx2+26,cap) noF (aA.set _ (nx2+26) ⟨7,cap,(rs++[(⟨q.id,3,q.addr,1,false,[],[]⟩:Req)]).map eB⟩) (by omega) (by dsimp only;rw[List.length_append,List.length_singleton];repeat' (first| (with_reducible first|exact C1|refine C2 ?_ ?_)| ((with_reducible refine C0 ?_);first|exact CQ (by omega) rfl rfl (by rfl) rfl|exact CE (by omega) rfl)| ((with_reducible refine D0 ?_);first|exact CA rfl|refine CJ ?_)|fail))
      (aS2 aA.bH (uO (R:=rs.map eB) (r':=eB ⟨q.id,3,q.addr,1,false,[],[]⟩) (by simp) rfl (fun r hr=>(aG rL rs r hr).2) rfl (aH (bB rfl) (aH (bB rfl) (aH (bB rfl) (aH (bB rfl) (aH (bB rfl) (aH xG (aH xG eP)))))))))
      ⟨⟨by dsimp only;omega,by dsimp only;omega,fun q' hq'=> ?_,by simp⟩,⟨by dsimp only;omega,by dsimp only;omega,by dsimp only;omega⟩,(by simp only[aA.set,aA.del,Nat.add_assoc,Nat.reduceAdd,Nat.add_left_cancel_iff,Nat.reduceEqDiff,Nat.left_eq_add,Nat.add_eq_left,if_true,if_false,hA2];done),(by simp only[aA.set,aA.del,Nat.add_assoc,Nat.reduceAdd,Nat.add_left_cancel_iff,Nat.reduceEqDiff,Nat.left_eq_add,Nat.add_eq_left,if_true,if_false,hA2];done),⟨cap,aA.bH,by simpa using hcap,Nat.le_refl _⟩,fun id h1 h2=>by rw[aA.aC (by omega),aA.aC (by omega),aA.aC (by omega),aA.aC (by omega),aA.aC h2,aA.jG (by omega)];exact sf id h1 h2⟩
     rcases List.mem_append.1 hq' with hq'|hq'
     ·exact g4 q' hq'
     ·simp at hq';subst hq';exact B7.MM hq3
    ·exact hKJ _ _ _ (pq+1,rs,b,cr) noF _ (by omega) (by dsimp only;repeat' (first| (with_reducible first|exact C1|refine C2 ?_ ?_)| ((with_reducible refine C0 ?_);first|exact CQ (by omega) rfl rfl (by rfl) rfl|exact CE (by omega) rfl)| ((with_reducible refine D0 ?_);first|exact CA rfl|refine CJ ?_)|fail)) aK ⟨⟨by dsimp only;omega,by dsimp only;omega,g4,by dsimp only;omega⟩,⟨by dsimp only;omega,by dsimp only;omega,by dsimp only;omega⟩,(by simp only[aA.set,aA.del,Nat.add_assoc,Nat.reduceAdd,Nat.add_left_cancel_iff,Nat.reduceEqDiff,Nat.left_eq_add,Nat.add_eq_left,if_true,if_false,hA2];done),(by simp only[aA.set,aA.del,Nat.add_assoc,Nat.reduceAdd,Nat.add_left_cancel_iff,Nat.reduceEqDiff,Nat.left_eq_add,Nat.add_eq_left,if_true,if_false,hA2];done),⟨mr,(by simp only[aA.set,aA.del,Nat.add_assoc,Nat.reduceAdd,Nat.add_left_cancel_iff,Nat.reduceEqDiff,Nat.left_eq_add,Nat.add_eq_left,if_true,if_false,hA2,s1];done),d1,d2⟩,fun id h1 h2=>by rw[aA.aC (by omega),aA.aC h2];exact sf id h1 h2⟩
    all_goals exact hKJ _ _ _ (pq,rs,b,cr) noF _ (by omega) (by dsimp only;repeat' (first| (with_reducible first|exact C1|refine C2 ?_ ?_)| ((with_reducible refine C0 ?_);first|exact CQ (by omega) rfl rfl (by rfl) rfl|exact CE (by omega) rfl)| ((with_reducible refine D0 ?_);first|exact CA rfl|refine CJ ?_)|fail)) aK ⟨⟨by dsimp only;omega,by dsimp only;omega,g4,by dsimp only;omega⟩,⟨by dsimp only;omega,by dsimp only;omega,by dsimp only;omega⟩,(by simp only[aA.set,aA.del,Nat.add_assoc,Nat.reduceAdd,Nat.add_left_cancel_iff,Nat.reduceEqDiff,Nat.left_eq_add,Nat.add_eq_left,if_true,if_false,hA2];done),(by simp only[aA.set,aA.del,Nat.add_assoc,Nat.reduceAdd,Nat.add_left_cancel_iff,Nat.reduceEqDiff,Nat.left_eq_add,Nat.add_eq_left,if_true,if_false,hA2];done),⟨mr,(by simp only[aA.set,aA.del,Nat.add_assoc,Nat.reduceAdd,Nat.add_left_cancel_iff,Nat.reduceEqDiff,Nat.left_eq_add,Nat.add_eq_left,if_true,if_false,hA2,s1];done),d1,d2⟩,fun id h1 h2=>by rw[aA.aC (by omega),aA.aC h2];exact sf id h1 h2⟩
   ·rintro⟨pk,rk,bk,ck⟩ H3 nx3 hnx3 ⟨⟨aUV,aUW,aIG,aII⟩,⟨aUX,aIH,aUY⟩,v0,v1,⟨mk,v2,w1,w2⟩,vf⟩
    dsimp only at aUV aUW aIG aII aUX aIH aUY v0 v2 w1 w2
    have htk:rk.take rk.length=rk:=List.take_length
    have hA3:bQ nx3 [i,bk,nx2+4]:=AM.apart (by simp;omega) (by simp;omega)
    simp only[bQ,eZ] at hA3
    repeat' (first| (with_reducible first| (refine hK _ _ _ ?_;clear hK K)|refine fun(cap:Nat) (hcap:_≤cap)=> ?_|refine fun(hcp:_≤cap)=> ?_)| (with_reducible refine Y2 fun K hK=> ?_)<;>(simp only[go_sem,Nat.add_assoc,Nat.left_eq_add,Nat.add_eq_left,v0,v1,v2,hA3,htk];try simp (disch:=omega) only[Iw])| ((with_reducible refine Y0 ?_);simp only[AQ.then,AQ.blk])|refine⟨by omega,?_⟩| (with_reducible refine hKB _ _ _ ?_)|fail)
    refine hKN _ _ _ (j-1,pk,rk++[q],nx3+3,cap) noF _ (by omega) (by dsimp only;omega) (by dsimp only;rw[List.length_append,List.length_singleton];repeat' (first| (with_reducible first|exact C1|refine C2 ?_ ?_)| ((with_reducible refine C0 ?_);first|exact CQ (by omega) rfl rfl (by rfl) rfl|exact CE (by omega) rfl| (exact CG (by(congr 2;omega)) rfl))| ((with_reducible refine D0 ?_);first|exact CA rfl|refine CJ ?_)|fail)) aK ⟨⟨by dsimp only;omega,by dsimp only;omega,by dsimp only;omega,fun q' hq'=> ?_,by simp;omega⟩,⟨by dsimp only;omega,by dsimp only;omega⟩,(by simp only[aA.set,aA.del,Nat.add_assoc,Nat.reduceAdd,Nat.add_left_cancel_iff,Nat.reduceEqDiff,Nat.left_eq_add,Nat.add_eq_left,if_true,if_false,hA3,v0];done),⟨cap,(by simp only[aA.set,aA.del,Nat.add_assoc,Nat.reduceAdd,Nat.add_left_cancel_iff,Nat.reduceEqDiff,Nat.left_eq_add,Nat.add_eq_left,if_true,if_false,hA3];done),by simpa using hcap,Nat.le_refl _⟩,fun id h1 h2=>by rw[aA.aC (by omega),aA.aC (by omega),aA.jG (by omega)];exact vf id h1 h2⟩
    rcases List.mem_append.1 hq' with hq'|hq'
    ·exact aIG q' hq'
    ·simp at hq';subst hq';exact hq3
  ·have hmin:(rs.length:Int)≤12:=by omega
   have s2:=(sf (nx+4) (by omega) (by omega)).trans q2
   have s3:=(sf bp (by omega) (by omega)).trans q4
   have hA3:bQ nx2 [i,b,nx+4,bp]:=AM.apart (by simp;omega) (by simp;omega)
   simp only[bQ,eZ] at hA3
   have hM: ∀G:aA,msk (nx2+2) [7] G (nx+4)=G (nx+4):=fun G=>mk1 (by omega)
   have hrl:rows.length=k:=by
    by_cases h0:k=0
    ·rw[q6 h0,h0];rfl
    ·obtain⟨_,e,e2,_⟩:=q5 (by omega)
     rw[e,List.length_cons,List.length_map];exact e2
   have hrt:rows.take k=rows:=List.take_of_length_le (by omega)
   have hmn:(if (12:Int)<(rs.length:Int) then (12:Int) else (rs.length:Int)).toNat=rs.length:=by rw[if_neg (by omega)];simp
   repeat' (first| (with_reducible first| (refine hK _ _ _ ?_;clear hK K)| (refine hB ?_;clear hA hB A B)|refine Z1 ?_|refine Z5 (by omega) ?_|refine fun(cap:Nat) (hcap:_≤cap)=> ?_|refine fun(hcp:_≤cap)=> ?_|refine hKZ _ _ _ ?_)| (with_reducible first|refine Y2 fun K hK=> ?_|refine Y3 fun A B hA hB=> ?_)<;>(simp only[go_sem,Nat.add_assoc,Nat.left_eq_add,Nat.add_eq_left,s0,s1,s2,s3,hA3,hM,hrt,hmn];try simp (disch:=omega) only[Iw])| ((with_reducible refine Y9 ?_);try simp only[AQ.then,AQ.blk,reduceIte,Nat.reduceEqDiff])| ((with_reducible refine Y0 ?_);simp only[AQ.then,AQ.blk])|refine⟨by omega,?_⟩| (with_reducible refine hKB _ _ _ ?_)|fail)
   have hrs:rs.length≤12∧ ∀q∈rs,dH q:=⟨by omega,g4⟩
   have hfr: ∀(G:aA),(∀id,id<nx→id≠i→G id=H2 id)→∀id,id<nx→id≠i→G id=H id:=fun G hG id h1 h2=>by rw[hG id h1 h2,sf id (by omega) h2];exact qf id h1 h2
   have q3':Own aJ 1 H2 bl cl la:=q3.of (sf bl (by omega) (by omega))
   have s4:=(sf nx (by omega) (by omega)).trans q1
   by_cases h0:k=0
   ·subst h0
    rw[q6 rfl]
    exact hKL _ _ _ (1,pj,([[.osl 7 b 0 rs.length cr]],nx2+10,cap),(rs,b,cr),[]) noF _ (by omega) (by dsimp only;omega) (by dsimp only;repeat' (first| (with_reducible first|exact C1|refine C2 ?_ ?_)| ((with_reducible refine C0 ?_);exact CE (by omega) rfl)| ((with_reducible refine D0 ?_);first|exact CA rfl|refine CJ ?_)|fail)) aK ⟨by dsimp only;omega,(by simp only[aA.set,aA.del,Nat.add_assoc,Nat.reduceAdd,Nat.add_left_cancel_iff,Nat.reduceEqDiff,Nat.left_eq_add,Nat.add_eq_left,if_true,if_false,hA3,s0];done),by rw[aA.aC (by omega),aA.aC (by omega),aA.aC (by omega),aA.jG (by omega)];exact s4,(by simp only[aA.set,aA.del,Nat.add_assoc,Nat.reduceAdd,Nat.add_left_cancel_iff,Nat.reduceEqDiff,Nat.left_eq_add,Nat.add_eq_left,if_true,if_false,hA3];done),q3'.of (by rw[aA.aC (by omega),aA.aC (by omega),aA.aC (by omega),aA.jG (by omega)]),⟨cap,(by simp only[aA.set,aA.del,Nat.add_assoc,Nat.reduceAdd,Nat.add_left_cancel_iff,Nat.reduceEqDiff,Nat.left_eq_add,Nat.add_eq_left,if_true,if_false,hA3,List.nil_append];done),by dsimp only;omega,by dsimp only;omega⟩,
     fun _=>⟨⟨mr,(by simp only[aA.set,aA.del,Nat.add_assoc,Nat.reduceAdd,Nat.add_left_cancel_iff,Nat.reduceEqDiff,Nat.left_eq_add,Nat.add_eq_left,if_true,if_false,hA3,s1];done),d1,d2⟩,rfl,rfl,fun pr hpr=>by(simp at hpr;subst hpr;exact hrs),by dsimp only;omega,by dsimp only;omega,by simp;omega⟩,fun h=>by dsimp only at h;omega,hfr _ fun id h1 h2=>by rw[aA.aC (by omega),aA.aC (by omega),aA.aC (by omega),aA.jG (by omega)]⟩
   ·obtain⟨o0,hro,hP1,hP2,hb1,hb2,hnd⟩:=q5 (by omega)
    generalize hG:aA.set _ (nx+4) _=aUZ
    have hG:=hG.symm
    have aU0:aUZ i=some (rdO l pj):=by rw[hG];exact(by simp only[aA.set,aA.del,Nat.add_assoc,Nat.reduceAdd,Nat.add_left_cancel_iff,Nat.reduceEqDiff,Nat.left_eq_add,Nat.add_eq_left,if_true,if_false,hA3,s0];done)
    have t1:aUZ nx=some ⟨3,1,[[.osl 0 0 0 0 0,.osl 0 0 0 0 0,.osl 0 0 0 0 0]]⟩:=by rw[hG,aA.aC (by omega),aA.aC (by omega),aA.aC (by omega),aA.jG (by omega)];exact s4
    have t2:aUZ (nx+4)=some ⟨3,1,[[.isl (m.map eN),.osl 1 bl 0 4 cl,.osl 1 (nx2+10) 0 (k+1) cap]]⟩:=by rw[hG];exact(by simp only[aA.set,aA.del,Nat.add_assoc,Nat.reduceAdd,Nat.add_left_cancel_iff,Nat.reduceEqDiff,Nat.left_eq_add,Nat.add_eq_left,if_true,if_false,hA3];done)
    have t3:Own aJ 1 aUZ bl cl la:=q3'.of (by rw[hG,aA.aC (by omega),aA.aC (by omega),aA.aC (by omega),aA.jG (by omega)])
    have t4:aUZ (nx2+10)=some ⟨1,cap,rows++[[.osl 7 b 0 rs.length cr]]⟩:=by rw[hG];exact(by simp only[aA.set,aA.del,Nat.add_assoc,Nat.reduceAdd,Nat.add_left_cancel_iff,Nat.reduceEqDiff,Nat.left_eq_add,Nat.add_eq_left,if_true,if_false,hA3];done)
    have aU1:aUZ b=some ⟨7,mr,rs.map eB⟩:=by rw[hG];exact(by simp only[aA.set,aA.del,Nat.add_assoc,Nat.reduceAdd,Nat.add_left_cancel_iff,Nat.reduceEqDiff,Nat.left_eq_add,Nat.add_eq_left,if_true,if_false,hA3,s1];done)
    have hne:b0≠bp:=by simp at hnd;omega
    have hnl:b0≠bl:=by simp at hnd;omega
    have aU2:Own eB 7 aUZ b0 c0 aUU:=o0.of (by rw[hG,aA.aC (by omega),aA.aC (by omega),aA.aC (by omega),aA.jG hne];exact sf b0 (by omega) (by omega))
    have tf: ∀id,id<nx→id≠i→aUZ id=H id:=hfr _ fun id h1 h2=>by rw[hG,aA.aC (by omega),aA.aC (by omega),aA.aC (by omega),aA.jG (by omega)]
    clear hG s0 s1 s2 s3 s4 q0 q1 q2 q3 q4 q3' qf sf hfr
    refine hKL _ _ _ (k+1,pj,(rows++[jR rs],nx2+10,cap),(aUU,b0,c0),Ps++[rs]) (fun t=>t=b) ((without (fun t=>t=b) aUZ).set (nx2+10) ⟨1,cap,rows++[jR rs]⟩) (by omega) (by dsimp only;omega) (by dsimp only;repeat' (first| (with_reducible first|exact C1|refine C2 ?_ ?_)| ((with_reducible refine C0 ?_);exact CE (by omega) rfl)| ((with_reducible refine D0 ?_);first|exact CA rfl|refine CJ ?_)|fail))
     (apO (t:=nx2+10) (o':=⟨1,cap,rows++[jR rs]⟩) (fun j hj=>by have hj':j=b:=hj;rw[aA.aC (by omega)];exact if_pos hj) aA.bH t4 (by omega) (aUI (aTS (by rw[hro];exact aSR (aH (.osl _ _ _ _ _ (by omega)) eP) (aTZ fun r hr=>(aG iR _ r hr).2)) (aSR (aH (bW rL aU1 rfl d1 rfl) eP) aT0))) fun j hj1 hj2=>by rw[aA.aC hj1,iI (F:=fun t=>t=b) hj2])
     ⟨by dsimp only;omega,by rw[aA.aC (by omega),iI (by omega)];exact aU0,by rw[aA.aC (by omega),iI (by omega)];exact t1,by rw[aA.aC (by omega),iI (by omega)];exact t2,t3.of (by rw[aA.aC (by omega),iI (by omega)]),⟨cap,aA.bH,by dsimp only;omega,Nat.le_refl _⟩,
      fun _=>⟨aU2.of (by(try dsimp only);rw[aA.aC (by omega),iI (by omega)]),by dsimp only;rw[hro,List.map_append];rfl,by dsimp only;rw[List.length_append,List.length_singleton];omega,fun pr hpr=> ?_,by dsimp only;omega,by dsimp only;omega,by simp;omega⟩,fun h=>by dsimp only at h;omega,fun id h1 h2=>by rw[aA.aC (by omega),iI (by omega)];exact tf id h1 h2⟩
    rw[←List.cons_append,List.mem_append] at hpr
    rcases hpr with hpr|hpr
    ·exact hP2 pr hpr
    ·simp at hpr;subst hpr;exact hrs
 have hk3:k=3:=by omega
 subst hk3
 obtain⟨o0,rfl,hP1,hP2,hb1,hb2,hnd⟩:=q5 (by omega)
 repeat' (first| (with_reducible first| (refine hK _ _ _ ?_;clear hK K)| (refine hB ?_;clear hA hB A B)|refine Z1 ?_|refine Z5 (by omega) ?_|refine hKY _ _ _ ?_)| (with_reducible first|refine Y2 fun K hK=> ?_|refine Y3 fun A B hA hB=> ?_)<;>(simp only[go_sem,Nat.add_assoc,Nat.left_eq_add,Nat.add_eq_left,q0,q1,q2,hA1])| ((with_reducible first|refine Y8 ?_|refine Y9 ?_);try simp only[AQ.then,AQ.blk,reduceIte,Nat.reduceEqDiff])|fail)
 have hh:=fun H'=>h H' (nx1+4) pl m la aUU Ps bl cl bp cp mp b0 c0 f2 (by omega) hmok hl4 (by omega) hP2
 exact hQ _ _ _ _ _ (.inr rfl) (fZ (m:=1) rfl aA.bH rfl) (hh _ (by simp only[aA.set,aA.del,Nat.add_assoc,Nat.reduceAdd,Nat.add_left_cancel_iff,Nat.reduceEqDiff,Nat.left_eq_add,Nat.add_eq_left,if_true,if_false,hA1,q0];done) (q3.of (by rw[aA.aC (by omega)])) (o0.of (by rw[aA.aC (by omega)])) (by simp only[aA.set,aA.del,Nat.add_assoc,Nat.reduceAdd,Nat.add_left_cancel_iff,Nat.reduceEqDiff,Nat.left_eq_add,Nat.add_eq_left,if_true,if_false,hA1,q4];done) (by omega) e2 (by omega) (by omega) (by omega) (by omega) (by omega) (by omega) hnd fun id h1 h2=>by rw[aA.aC (by omega)];exact qf id h1 h2)
end
end Go.Proofs.YtegiblhkjfiooaaGreat
end
