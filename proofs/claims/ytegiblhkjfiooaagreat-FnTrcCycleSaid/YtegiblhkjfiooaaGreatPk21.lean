/- Texts laid together by a program: rules, contracts and the walk that leads to the law. -/
import Derived.Test.YtegiblhkjfiooaaGreatPk11
import Derived.Test.YtegiblhkjfiooaaGreatPk12
import Derived.Test.YtegiblhkjfiooaaGreatPk20
import Derived.Test.YtegiblhkjfiooaaGreatPk3
import Derived.Test.YtegiblhkjfiooaaGreatPk7
import Derived.OpenShut
import Derived.Below
set_option linter.unusedVariables false
set_option linter.unusedSimpArgs false
set_option linter.unusedSectionVars false
section
namespace Go.Proofs.YtegiblhkjfiooaaGreat.B7
open Go Go.AM Go.Proofs.YtegiblhkjfiooaaGreat
set_option maxRecDepth 100000
set_option maxHeartbeats 8000000
section
variable {H : aA} {nx : Nat} {K : D → aA → Nat → Prop}
theorem aiD {q:Req} (h:gH q):gH ⟨q.id,3,q.addr,1,false,[],[]⟩:=by
 obtain⟨h1,h2,⟨h3,h4,h5⟩,h6⟩:=h
 refine⟨h1,by dsimp only;omega,⟨by dsimp only;omega,h4,.inr (by dsimp only;omega)⟩,by simp[rZ],by simp[rZ],fun x hx=>by simp at hx,fun x hx=>by simp at hx,.inr (.inr rfl)⟩
theorem aiX {q:Req} (h:gH q):q.data.length<2^40∧q.lanes.length<2^40:=by
 obtain⟨h1,h2,⟨h3,h4,h5⟩,h6,h7,h8⟩:=h
 unfold rZ at h6 h7
 constructor
 ·split at h6<;>omega
 ·split at h7<;>omega
theorem QR (l:List Int):aB Tryz.prog sS [dS (l.map eU8)] (hp []) 0 fun r H' n'=>n'=1∧H'=hp [(0,rdO (l.take 2000) 0)]∧r=dP 2 0:=by
 refine OX rfl fun Q hQ=> ?_
 unfold wW
 repeat' (first| (with_reducible first| (refine hK _ _ _ ?_;clear hK K)| (refine hA ?_;clear hA hB A B)| (refine hB ?_;clear hA hB A B)|refine Z1 ?_|refine Z2 ?_|refine Z6 (fun h=> ?_) fun h=> ?_)| (with_reducible first|refine Y2 fun K hK=> ?_|refine Y3 fun A B hA hB=> ?_)<;>(simp only[go_sem])| ((with_reducible refine Y8 ?_);try simp only[AQ.then,AQ.blk,reduceIte,Nat.reduceEqDiff])|refine⟨by omega,?_⟩|fail)
 ·have e:l.take 2000=(l.take 2000).take 2000:=by rw[List.take_take];simp
  (refine hQ _ _ _ _ _ 1 (dP 2 0) (hp [(0,rdO (l.take 2000) 0)]) _ _ (.inr rfl) rfl (cV [9] (by omega) (by repeat' (first| ((with_reducible refine C0 ?_);exact CE (by omega) rfl)| ((with_reducible refine D0 ?_);refine CJ ?_)|fail)) ⟨⟨by simp,by simp[sgL],_,rfl,aN (bM _ _)⟩,trivial⟩ (by simp[sgL])) ?_)
  exact⟨rfl,rfl,rfl⟩
 · (refine hQ _ _ _ _ _ 1 (dP 2 0) (hp [(0,rdO l 0)]) _ _ (.inr rfl) rfl (cV [6] (by omega) (by repeat' (first| ((with_reducible refine C0 ?_);exact CE (by omega) rfl)| ((with_reducible refine D0 ?_);refine CJ ?_)|fail)) ⟨⟨by simp,by simp[sgL],_,rfl,aN (bM _ _)⟩,trivial⟩ (by simp[sgL])) ?_)
   exact⟨rfl,by rw[List.take_of_length_le (by omega)],rfl⟩
theorem R2 {l:List Int} (h:K (dP 2 nx) (H.set nx (rdO (l.take 2000) 0)) (nx+1)):aB Tryz.prog sS [dS (l.map eU8)] H nx K:=by
 refine(QR l).x4 (l0:=[]) [] rfl ⟨aF rfl,trivial⟩ trivial (by simp) (by simp) (by simp) fun r H' n' _ ⟨q1,q2,q3⟩=> ?_
 subst q1;subst q2;subst q3
 have e1:back (tau 0 nx (nth [])) (hp [(0,rdO (l.take 2000) 0)]) 1 H=H.set nx (rdO (l.take 2000) 0):=by
  simp only[back,hp,aA.set,tau,Nat.not_lt_zero,if_true,if_false,Nat.sub_zero,Nat.add_zero,Option.map_some,tC (bM _ _),aA.dK]
 rw[←e1] at h
 exact h
theorem U3 (l:List Int) (p:Nat) (hl:mI l) (hp50:p+1000<2^50):aB Tryz.prog vI [dP 2 0,dI 7] (hp [(0,rdO l p)]) 1
 fun rr H' n'=>n'=1∧ ∃o',H'=hp [(0,o')]∧u6 o'∧ ∃(p':Nat) (c:Cfg),o'=rdO l p'∧p≤p'∧p'≤p+1000∧rr=dA (cH c)∧(aY c∧kC c):=by
 refine QU rfl fun Q hQ=> ?_
 unfold zF
 repeat' (first| (with_reducible first| (refine hK _ _ _ ?_;clear hK K)|refine Z1 ?_|refine Z3 fun KB hKB=> ?_)| (first| (with_reducible refine Y2 fun K hK=> ?_)| (refine VF hl (by omega) (by omega) rfl (fun pm m hm1 hm2 hmok=> ?_)))<;>(simp only[go_sem])|fail)
 (have hKX:=hKB;clear hKB)
 refine aQ.C6 1 ?_
 refine aQ.wI 3 (β:=Nat×Nat×List Int×Nat)
  (fun b u=>en [(6,dI u.1),(5,dP 3 (b+1)),(4,dP 3 b),(1,dI 7),(0,dP 2 0)])
  (fun b u=>hp [(0,rdO l u.2.1),(b,⟨3,1,[[.osl 0 0 0 0 0,.osl 0 0 0 0 0,.osl 0 0 0 0 0]]⟩),(b+1,⟨3,1,[[.isl (m.map eY),.osl 1 (b+2) 0 u.1 u.2.2.2,.osl 0 0 0 0 0]]⟩),(b+2,⟨1,u.2.2.2,u.2.2.1.map aE⟩)])
  (fun u=>u.1≤4∧p≤u.2.1∧u.2.1≤p+8+u.1∧u.2.2.1.length=u.1∧All u.2.2.1 0 3∧u.1≤u.2.2.2)
  (fun u=>4-u.1) (0,pm,[],0) ?_ ⟨by dsimp only;omega,by dsimp only;omega,by dsimp only;omega,rfl,by simp[All],by dsimp only;omega⟩ ?_
 · (refine dH [1,5,8,0] (by omega) (by repeat' (first| (with_reducible first|exact C1|refine C2 ?_ ?_)| ((with_reducible refine C0 ?_);exact CE (by omega) rfl)| ((with_reducible refine D0 ?_);first|exact CA rfl|refine CJ ?_)|fail)) ⟨⟨by simp,by simp[sgL],_,rfl,aN (bM _ _)⟩,⟨by simp,by simp[sgL],_,rfl,aM (by repeat' (first| (with_reducible first|exact C3|refine C4 ?_ ?_)| ((with_reducible refine C0 ?_);exact CC)|fail))⟩,⟨by simp,by simp[sgL],_,rfl,aM (by repeat' (first| (with_reducible first|exact C3|refine C4 ?_ ?_)| ((with_reducible refine C0 ?_);first|exact CB rfl|exact CC)|fail))⟩,⟨by simp,by simp[sgL],_,rfl,aO (aC aJ _) rfl rfl⟩,trivial⟩ (by simp[sgL]))
 rintro⟨k,pl,la,cl⟩ ⟨f1,f2,f3,f4,f5,f6⟩ KL hKL
 dsimp only at f1 f2 f3 f4 f5 f6
 have hta:la.take k=la:=List.take_of_length_le (by omega)
 by_cases hlt:k<4
 ·repeat' (first| (with_reducible first| (refine hK _ _ _ ?_;clear hK K)| (refine hA ?_;clear hA hB A B)|refine Z1 ?_|refine Z2 ?_|refine Z3 fun KB hKB=> ?_|refine Z4 (by omega) ?_|refine fun(cap:Nat) (hcap:_≤cap)=> ?_|refine fun(hcp:_≤cap)=> ?_)| (first| (with_reducible first|refine Y2 fun K hK=> ?_|refine Y3 fun A B hA hB=> ?_)| (refine bL hl (by omega) (by omega) (by omega) rfl (fun x h1 h2=> ?_)))<;>(simp only[go_sem,hta];try simp (disch:=omega) only[Iw])| ((with_reducible refine Y0 ?_);simp only[AQ.then,AQ.blk])|refine⟨by omega,?_⟩| (with_reducible refine hKB _ _ _ ?_)|fail)
  exact hKL _ _ _ (k+1,pl+1,la++[x],cap) (by omega) (by(refine dH [9,10,19,0] (by omega) (by repeat' (first| (with_reducible first|exact C1|refine C2 ?_ ?_)| ((with_reducible refine C0 ?_);exact CE (by omega) rfl)| ((with_reducible refine D0 ?_);first|exact CA rfl|refine CJ ?_)|fail)) ⟨⟨by simp,by simp[sgL],_,rfl,aN (bM _ _)⟩,⟨by simp,by simp[sgL],_,rfl,aM (by repeat' (first| (with_reducible first|exact C3|refine C4 ?_ ?_)| ((with_reducible refine C0 ?_);exact CC)|fail))⟩,⟨by simp,by simp[sgL],_,rfl,aM (by repeat' (first| (with_reducible first|exact C3|refine C4 ?_ ?_)| ((with_reducible refine C0 ?_);first|exact CB rfl|exact CC|exact CQ (by omega) rfl rfl (by rfl) rfl)|fail))⟩,⟨by simp,by simp[sgL],_,rfl,aO (aC aJ _) rfl rfl⟩,trivial⟩ (by simp[sgL]))) ⟨by dsimp only;omega,by dsimp only;omega,by dsimp only;omega,by simp;omega,TY f5 (by omega) (by omega),by dsimp only;omega⟩ (by dsimp only;omega)
 have hk4:k=4:=by omega
 subst hk4
 repeat' (first| (with_reducible first| (refine hK _ _ _ ?_;clear hK K)| (refine hB ?_;clear hA hB A B)|refine Z1 ?_|refine Z3 fun KB hKB=> ?_|refine Z5 (by omega) ?_|refine hKX _ _ _ ?_)| (with_reducible first|refine Y2 fun K hK=> ?_|refine Y3 fun A B hA hB=> ?_)<;>(simp only[go_sem])| ((with_reducible refine Y9 ?_);try simp only[AQ.then,AQ.blk,reduceIte,Nat.reduceEqDiff])|fail)
 (have hKY:=hKB;clear hKB)
 refine aQ.C6 1 ?_
 refine aQ.wI 3 (β:=Nat×Nat×List Prog×Nat)
  (fun b u=>en [(7,dI u.1),(5,dP 3 (b+1)),(4,dP 3 b),(1,dI 7),(0,dP 2 0)])
  (fun b u=>hp [(0,rdO l u.2.1),(b,⟨3,1,[[.osl 0 0 0 0 0,.osl 0 0 0 0 0,.osl 0 0 0 0 0]]⟩),(b+1,⟨3,1,[[.isl (m.map eY),.isl (la.map aE),.osl 1 (b+2) 0 u.1 u.2.2.2]]⟩),(b+2,⟨1,u.2.2.2,u.2.2.1.map oQ⟩)])
  (fun u=>u.1≤3∧p≤u.2.1∧u.2.1≤p+12+300*u.1∧u.2.2.1.length=u.1∧(∀pr∈u.2.2.1,pr.length≤12∧ ∀q∈pr,gH q)∧u.1≤u.2.2.2)
  (fun u=>3-u.1) (0,pl,[],0) ?_ ⟨by dsimp only;omega,by dsimp only;omega,by dsimp only;omega,rfl,fun pr hpr=>by simp at hpr,by dsimp only;omega⟩ ?_
 · (refine dH [9,10,15,0] (by omega) (by repeat' (first| (with_reducible first|exact C1|refine C2 ?_ ?_)| ((with_reducible refine C0 ?_);exact CE (by omega) rfl)| ((with_reducible refine D0 ?_);first|exact CA rfl|refine CJ ?_)|fail)) ⟨⟨by simp,by simp[sgL],_,rfl,aN (bM _ _)⟩,⟨by simp,by simp[sgL],_,rfl,aM (by repeat' (first| (with_reducible first|exact C3|refine C4 ?_ ?_)| ((with_reducible refine C0 ?_);exact CC)|fail))⟩,⟨by simp,by simp[sgL],_,rfl,aM (aH (bG rfl) (aH (bU aJ rfl (by omega) (by omega) (by simp)) (aH (.V2 _ _ _ _ _ _) eR)))⟩,⟨by simp,by simp[sgL],_,rfl,aO (aC vO _) rfl rfl⟩,trivial⟩ (by simp[sgL]))
 rintro⟨k,pl,ps,cp⟩ ⟨g1,g2,g3,g4,g5,g6⟩ KM hKM
 dsimp only at g1 g2 g3 g4 g5 g6
 have htp:ps.take k=ps:=List.take_of_length_le (by omega)
 by_cases hlt:k<3
 ·repeat' (first| (with_reducible first| (refine hK _ _ _ ?_;clear hK K)| (refine hA ?_;clear hA hB A B)|refine Z1 ?_|refine Z2 ?_|refine Z3 fun KB hKB=> ?_|refine Z4 (by omega) ?_)| (first| (with_reducible first|refine Y2 fun K hK=> ?_|refine Y3 fun A B hA hB=> ?_)| (refine bL hl (by omega) (by omega) (by omega) rfl (fun x h1 h2=> ?_)))<;>(simp only[go_sem];try simp (disch:=omega) only[Iw])|fail)
  (have hKZ:=hKB;clear hKB)
  rename_i x hx1 hx2
  refine aQ.wI 1 (β:=Nat×Nat×List Req×Nat)
   (fun b u=>en [(9,dI u.1),(8,dO 7 b u.2.2.1.length u.2.2.2),(7,dI k),(5,dP 3 17),(4,dP 3 16),(1,dI 7),(0,dP 2 0)])
   (fun b u=>hp [(0,rdO l u.2.1),(16,⟨3,1,[[.osl 0 0 0 0 0,.osl 0 0 0 0 0,.osl 0 0 0 0 0]]⟩),(17,⟨3,1,[[.isl (m.map eY),.isl (la.map aE),.osl 1 18 0 k cp]]⟩),(18,⟨1,cp,ps.map oQ⟩),(b,⟨7,u.2.2.2,u.2.2.1.map d9⟩)])
   (fun u=>u.1≤7∧p≤u.2.1∧u.2.1≤pl+1+41*(7-u.1)∧(∀q∈u.2.2.1,gH q)∧2*u.1+u.2.2.1.length≤14∧u.2.2.1.length≤u.2.2.2)
   (fun u=>u.1) (x.toNat,pl+1,[],0) ?_ ⟨by dsimp only;omega,by dsimp only;omega,by dsimp only;omega,fun q hq=>by simp at hq,by simp;omega,by simp⟩ ?_
  · (refine dH [21,0,16,17,18] (by omega) (by repeat' (first| (with_reducible first|exact C1|refine C2 ?_ ?_)| ((with_reducible refine C0 ?_);first|exact CC|exact CE (by omega) rfl| (exact CG (by(congr 2;omega)) rfl))| ((with_reducible refine D0 ?_);first|exact CA rfl|refine CJ ?_)|fail)) ⟨⟨by simp,by simp[sgL],_,rfl,aN (bM _ _)⟩,⟨by simp,by simp[sgL],_,rfl,aM (by repeat' (first| (with_reducible first|exact C3|refine C4 ?_ ?_)| ((with_reducible refine C0 ?_);exact CC)|fail))⟩,⟨by simp,by simp[sgL],_,rfl,aM (by repeat' (first| (with_reducible first|exact C3|refine C4 ?_ ?_)| ((with_reducible refine C0 ?_);first|exact CB rfl|exact CQ (by omega) rfl rfl (by rfl) rfl)|fail))⟩,⟨by simp,by simp[sgL],_,rfl,aO (aC vO _) rfl rfl⟩,⟨by simp,by simp[sgL],_,rfl,aO (aC vE _) rfl rfl⟩,trivial⟩ (by simp[sgL]))
  rintro⟨j,pj,rs,cr⟩ ⟨e1,e2,e3,e4,e5,e6⟩ KN hKN
  dsimp only at e1 e2 e3 e4 e5 e6
  have htr:rs.take rs.length=rs:=List.take_length
  by_cases hj:0<j
  ·refine aQ.seq ?_
   repeat' (first| (with_reducible first| (refine hK _ _ _ ?_;clear hK K)| (refine hA ?_;clear hA hB A B)|refine Z2 ?_|refine Z4 (by omega) ?_)| (with_reducible first|refine Y1 fun K hK=> ?_|refine Y3 fun A B hA hB=> ?_)<;>(simp only[go_sem])|fail)
   refine aQ.seq ?_
   repeat' (first| (with_reducible first| (refine hK _ _ _ ?_;clear hK K)|refine Z3 fun KB hKB=> ?_)| (first| (with_reducible refine Y1 fun K hK=> ?_)| (refine VL hl (by omega) (by omega) rfl (fun pq q hq1 hq2 hq3=> ?_)))<;>(simp only[go_sem])|fail)
   refine aQ.asE 2 (β:=Nat×List Req×Nat)
    (fun b u=>en [(10,dP 7 (b+1)),(9,dI j),(8,dO 7 b u.2.1.length u.2.2),(7,dI k),(5,dP 3 17),(4,dP 3 16),(1,dI 7),(0,dP 2 0)])
    (fun b u=>hp [(0,rdO l u.1),(16,⟨3,1,[[.osl 0 0 0 0 0,.osl 0 0 0 0 0,.osl 0 0 0 0 0]]⟩),(17,⟨3,1,[[.isl (m.map eY),.isl (la.map aE),.osl 1 18 0 k cp]]⟩),(18,⟨1,cp,ps.map oQ⟩),(b,⟨7,u.2.2,u.2.1.map d9⟩),(b+1,⟨7,1,[d9 q]⟩)])
    (fun u=>p≤u.1∧u.1≤pj+41∧(∀q∈u.2.1,gH q)∧u.2.1.length≤rs.length+1∧u.2.1.length≤u.2.2) (fun KJ hKJ=> ?_) ?_
   ·repeat' (first| (with_reducible first| (refine hK _ _ _ ?_;clear hK K)| (refine hA ?_;clear hA hB A B)| (refine hB ?_;clear hA hB A B)|refine Z1 ?_|refine Z2 ?_|refine Z6 (fun h=> ?_) fun h=> ?_|refine fun(cap:Nat) (hcap:_≤cap)=> ?_|refine fun(hcp:_≤cap)=> ?_)| (first| (with_reducible first|refine Y2 fun K hK=> ?_|refine Y3 fun A B hA hB=> ?_|refine Y6 (fun h=> ?_) fun h=> ?_)| (refine bL hl (by omega) (by omega) (by omega) rfl (fun x h1 h2=> ?_)))<;>(simp only[go_sem,htr])| ((with_reducible refine Y0 ?_);simp only[AQ.then,AQ.blk])|refine⟨by omega,?_⟩|fail)
    ·refine hKJ _ _ _ (pq+1,rs++[⟨q.id,3,q.addr,1,false,[],[]⟩],cap) (by(refine dH [55,33,0,16,17,18] (by omega) (by repeat' (first| (with_reducible first|exact C1|refine C2 ?_ ?_)| ((with_reducible refine C0 ?_);first| (exact CQ (by omega) rfl rfl (by first|rfl| (simp;done)) rfl)|exact CE (by omega) rfl)| ((with_reducible refine D0 ?_);first|exact CA rfl|refine CJ ?_)|fail)) ⟨⟨by simp,by simp[sgL],_,rfl,aN (bM _ _)⟩,⟨by simp,by simp[sgL],_,rfl,aM (by repeat' (first| (with_reducible first|exact C3|refine C4 ?_ ?_)| ((with_reducible refine C0 ?_);exact CC)|fail))⟩,⟨by simp,by simp[sgL],_,rfl,aM (by repeat' (first| (with_reducible first|exact C3|refine C4 ?_ ?_)| ((with_reducible refine C0 ?_);first|exact CB rfl|exact CQ (by omega) rfl rfl (by rfl) rfl)|fail))⟩,⟨by simp,by simp[sgL],_,rfl,aO (aC vO _) rfl rfl⟩,⟨by simp,by simp[sgL],_,rfl,BX (R:=rs.map d9) (r':=d9 ⟨q.id,3,q.addr,1,false,[],[]⟩) (by simp) rfl (fun r hr=>(aC vE rs r hr).2) rfl (aH (bG rfl) (aH (bG rfl) (aH (bG rfl) (aH (bG rfl) (aH (bG rfl) (aH GI (aH GI eR)))))))⟩,⟨by simp,by simp[sgL],_,rfl,aM (by repeat' (first| (with_reducible first|exact C3|refine C4 ?_ ?_)| ((with_reducible refine C0 ?_);exact CB rfl)|refine C4 ?_ ?_|fail))⟩,trivial⟩ (by simp[sgL]))) ⟨by dsimp only;omega,by dsimp only;omega,fun q' hq'=> ?_,by simp,by simpa using hcap⟩
     rcases List.mem_append.1 hq' with hq'|hq'
     ·exact e4 q' hq'
     ·simp at hq';subst hq';exact aiD hq3
    all_goals refine hKJ _ _ _ (_,rs,cr) (by(refine dH [28,33,0,16,17,18] (by omega) (by repeat' (first| (with_reducible first|exact C1|refine C2 ?_ ?_)| ((with_reducible refine C0 ?_);first|exact CQ (by omega) rfl rfl (by rfl) rfl|exact CE (by omega) rfl)| ((with_reducible refine D0 ?_);first|exact CA rfl|refine CJ ?_)|fail)) ⟨⟨by simp,by simp[sgL],_,rfl,aN (bM _ _)⟩,⟨by simp,by simp[sgL],_,rfl,aM (by repeat' (first| (with_reducible first|exact C3|refine C4 ?_ ?_)| ((with_reducible refine C0 ?_);exact CC)|fail))⟩,⟨by simp,by simp[sgL],_,rfl,aM (by repeat' (first| (with_reducible first|exact C3|refine C4 ?_ ?_)| ((with_reducible refine C0 ?_);first|exact CB rfl|exact CQ (by omega) rfl rfl (by rfl) rfl)|fail))⟩,⟨by simp,by simp[sgL],_,rfl,aO (aC vO _) rfl rfl⟩,⟨by simp,by simp[sgL],_,rfl,aO (aC vE _) rfl rfl⟩,⟨by simp,by simp[sgL],_,rfl,aM (by repeat' (first| (with_reducible first|exact C3|refine C4 ?_ ?_)| ((with_reducible refine C0 ?_);exact CB rfl)|refine C4 ?_ ?_|fail))⟩,trivial⟩ (by simp[sgL]))) ⟨by dsimp only;omega,by dsimp only;omega,e4,by dsimp only;omega,e6⟩
   rintro⟨pk,rk,ck⟩ ⟨d1,d2,d3,d4,d5⟩
   dsimp only at d1 d2 d3 d4 d5
   have htk:rk.take rk.length=rk:=List.take_length
   repeat' (first| (with_reducible first| (refine hK _ _ _ ?_;clear hK K)|refine fun(cap:Nat) (hcap:_≤cap)=> ?_|refine fun(hcp:_≤cap)=> ?_)| (with_reducible refine Y2 fun K hK=> ?_)<;>(simp only[go_sem,htk];try simp (disch:=omega) only[Iw])| ((with_reducible refine Y0 ?_);simp only[AQ.then,AQ.blk])|refine⟨by omega,?_⟩| (with_reducible refine hKB _ _ _ ?_)|fail)
   refine hKN _ _ _ (j-1,pk,rk++[q],cap) (by omega) (by(refine dH [40,0,16,17,18] (by omega) (by repeat' (first| (with_reducible first|exact C1|refine C2 ?_ ?_)| ((with_reducible refine C0 ?_);first| (exact CQ (by omega) rfl rfl (by first|rfl| (simp;done)) rfl)|exact CE (by omega) rfl| (exact CG (by(congr 2;omega)) rfl))| ((with_reducible refine D0 ?_);first|exact CA rfl|refine CJ ?_)|fail)) ⟨⟨by simp,by simp[sgL],_,rfl,aN (bM _ _)⟩,⟨by simp,by simp[sgL],_,rfl,aM (by repeat' (first| (with_reducible first|exact C3|refine C4 ?_ ?_)| ((with_reducible refine C0 ?_);exact CC)|fail))⟩,⟨by simp,by simp[sgL],_,rfl,aM (by repeat' (first| (with_reducible first|exact C3|refine C4 ?_ ?_)| ((with_reducible refine C0 ?_);first|exact CB rfl|exact CQ (by omega) rfl rfl (by rfl) rfl)|fail))⟩,⟨by simp,by simp[sgL],_,rfl,aO (aC vO _) rfl rfl⟩,⟨by simp,by simp[sgL],_,rfl,aO (aC vE _) rfl rfl⟩,trivial⟩ (by simp[sgL]))) ⟨by dsimp only;omega,by dsimp only;omega,by dsimp only;omega,fun q' hq'=> ?_,by simp;omega,by simpa using hcap⟩ (by dsimp only;omega)
   rcases List.mem_append.1 hq' with hq'|hq'
   ·exact d3 q' hq'
   ·simp at hq';subst hq';exact hq3
  ·by_cases hmin:(rs.length:Int)≤12
   ·repeat' (first| (with_reducible first| (refine hK _ _ _ ?_;clear hK K)| (refine hB ?_;clear hA hB A B)|refine Z1 ?_|refine Z5 (by omega) ?_|refine fun(cap:Nat) (hcap:_≤cap)=> ?_|refine fun(hcp:_≤cap)=> ?_|refine hKZ _ _ _ ?_)| (with_reducible first|refine Y2 fun K hK=> ?_|refine Y3 fun A B hA hB=> ?_)<;>(simp only[go_sem,htp];try simp (disch:=omega) only[Iw])| ((with_reducible refine Y9 ?_);try simp only[AQ.then,AQ.blk,reduceIte,Nat.reduceEqDiff])| ((with_reducible refine Y0 ?_);simp only[AQ.then,AQ.blk])|refine⟨by omega,?_⟩| (with_reducible refine hKB _ _ _ ?_)|fail)
    refine hKM _ _ _ (k+1,pj,ps++[rs],cap) (by omega) (by(refine dH [16,17,39,0] (by omega) (by repeat' (first| (with_reducible first|exact C1|refine C2 ?_ ?_)| ((with_reducible refine C0 ?_);exact CE (by omega) rfl)| ((with_reducible refine D0 ?_);first|exact CA rfl|refine CJ ?_)|fail)) ⟨⟨by simp,by simp[sgL],_,rfl,aN (bM _ _)⟩,⟨by simp,by simp[sgL],_,rfl,aM (by repeat' (first| (with_reducible first|exact C3|refine C4 ?_ ?_)| ((with_reducible refine C0 ?_);exact CC)|fail))⟩,⟨by simp,by simp[sgL],_,rfl,aM (by repeat' (first| (with_reducible first|exact C3|refine C4 ?_ ?_)| ((with_reducible refine C0 ?_);first|exact CB rfl|exact CQ (by omega) rfl rfl (by rfl) rfl)|fail))⟩,⟨by simp,by simp[sgL],_,rfl,BX (R:=ps.map oQ) (r':=oQ rs) (by simp) rfl (fun r hr=>(aC vO ps r hr).2) rfl (aH (bU vE rfl (by rw[if_neg (by omega)];omega) (by omega) (by simp)) eR)⟩,trivial⟩ (by simp[sgL]))) ⟨by dsimp only;omega,by dsimp only;omega,by dsimp only;omega,by simp;omega,fun pr hpr=> ?_,by dsimp only;omega⟩ (by dsimp only;omega)
    rcases List.mem_append.1 hpr with hpr|hpr
    ·exact g5 pr hpr
    ·simp at hpr;subst hpr;exact⟨by omega,e4⟩
   ·repeat' (first| (with_reducible first| (refine hK _ _ _ ?_;clear hK K)| (refine hB ?_;clear hA hB A B)|refine Z1 ?_|refine Z5 (by omega) ?_|refine fun(cap:Nat) (hcap:_≤cap)=> ?_|refine fun(hcp:_≤cap)=> ?_|refine hKZ _ _ _ ?_)| (with_reducible first|refine Y2 fun K hK=> ?_|refine Y3 fun A B hA hB=> ?_)<;>(simp only[go_sem,htp];try simp (disch:=omega) only[Iw])| ((with_reducible refine Y9 ?_);try simp only[AQ.then,AQ.blk,reduceIte,Nat.reduceEqDiff])| ((with_reducible refine Y0 ?_);simp only[AQ.then,AQ.blk])|refine⟨by omega,?_⟩| (with_reducible refine hKB _ _ _ ?_)|fail)
    refine hKM _ _ _ (k+1,pj,ps++[rs.take 12],cap) (by omega) (by(refine dH [16,17,39,0] (by omega) (by repeat' (first| (with_reducible first|exact C1|refine C2 ?_ ?_)| ((with_reducible refine C0 ?_);exact CE (by omega) rfl)| ((with_reducible refine D0 ?_);first|exact CA rfl|refine CJ ?_)|fail)) ⟨⟨by simp,by simp[sgL],_,rfl,aN (bM _ _)⟩,⟨by simp,by simp[sgL],_,rfl,aM (by repeat' (first| (with_reducible first|exact C3|refine C4 ?_ ?_)| ((with_reducible refine C0 ?_);exact CC)|fail))⟩,⟨by simp,by simp[sgL],_,rfl,aM (by repeat' (first| (with_reducible first|exact C3|refine C4 ?_ ?_)| ((with_reducible refine C0 ?_);first|exact CB rfl|exact CQ (by omega) rfl rfl (by rfl) rfl)|fail))⟩,⟨by simp,by simp[sgL],_,rfl,BX (R:=ps.map oQ) (r':=oQ (rs.take 12)) (by simp) rfl (fun r hr=>(aC vO ps r hr).2) rfl (aH (YQ (aC vE (rs.take 12)) (by rw[if_pos (by omega),List.length_map,List.length_take];omega) (by simp) rfl rfl (by dsimp only;rw[List.length_map,List.length_take,List.map_take,show min 12 rs.length=12 by omega]) (by rw[List.length_map,List.length_take];omega)) eR)⟩,trivial⟩ (by simp[sgL]))) ⟨by dsimp only;omega,by dsimp only;omega,by dsimp only;omega,by simp;omega,fun pr hpr=> ?_,by dsimp only;omega⟩ (by dsimp only;omega)
    rcases List.mem_append.1 hpr with hpr|hpr
    ·exact g5 pr hpr
    ·simp at hpr;subst hpr;exact⟨by simp;omega,fun q hq=>e4 q (List.mem_of_mem_take hq)⟩
 ·repeat' (first| (with_reducible first| (refine hK _ _ _ ?_;clear hK K)| (refine hB ?_;clear hA hB A B)|refine Z1 ?_|refine Z5 (by omega) ?_|refine hKY _ _ _ ?_)| (with_reducible first|refine Y2 fun K hK=> ?_|refine Y3 fun A B hA hB=> ?_)<;>(simp only[go_sem])| ((with_reducible first|refine Y8 ?_|refine Y9 ?_);try simp only[AQ.then,AQ.blk,reduceIte,Nat.reduceEqDiff])|fail)
  have hk3:k=3:=by omega
  subst hk3
  refine lN hQ (dA (cH ⟨m,la,ps⟩)) _ _ rfl (aH (bG rfl) (aH (bG rfl) (aH (bU vO rfl (by dsimp only;omega) (by dsimp only;omega) (by decide)) eR))) rfl (bM _ _) ⟨pl,⟨m,la,ps⟩,rfl,by omega,by omega,rfl,?_⟩
  have hpo: ∀pr∈ps,qA pr:=fun pr hpr=>by
   obtain⟨q1,q2⟩:=g5 pr hpr
   refine⟨by omega,fun hc=> ?_⟩
   obtain⟨x,hx,hx2⟩:=cL.1 hc
   exact of_decide_eq_true hx2 (q2 x hx)
  refine⟨⟨hmok,by dsimp only;omega,f5,by dsimp only;omega,fun hc=> ?_⟩,⟨by have:=hmok.1;dsimp only;omega,by dsimp only;omega,by dsimp only;omega,fun pr hpr=>by have:=(g5 pr hpr).1;omega,fun pr hpr q hq=> ?_⟩⟩
  ·obtain⟨x,hx,hx2⟩:=cL.1 hc
   exact of_decide_eq_true hx2 (hpo x hx)
  ·exact aiX ((g5 pr hpr).2 q hq)
theorem UT {l:List Int} {p i:Nat} (hl:mI l) (hp50:p+1000<2^50) (hi:i<nx) (ho:H i=some (rdO l p)) (h: ∀(p':Nat) (c:Cfg),p≤p'→p'≤p+1000→(aY c∧kC c)→K (dA (cH c)) (H.set i (rdO l p')) nx):
 aB Tryz.prog vI [dP 2 i,dI 7] H nx K:=
 (U3 l p hl hp50).PN i rfl (hU ⟨AI (by omega) rfl,aF rfl,trivial⟩) hi ho (bM l p) fun r o' ⟨p',c,h1,h2,h3,h4,h5⟩=>by
  subst h1;subst h4;exact KY (A:=fun d=>K d (H.set i (rdO l p')) nx) rfl (h p' c h2 h3 h5)
end
end Go.Proofs.YtegiblhkjfiooaaGreat.B7
namespace Go.Proofs.YtegiblhkjfiooaaGreat
open Go Go.AM
set_option maxRecDepth 100000
set_option maxHeartbeats 8000000
theorem VI:d8 Tryz.prog D7 Tryz.f178 BK I1:=d8.mk Tryz.func178 (by kernel_rfl) UB
theorem VU:d8 Tryz.prog DU Tryz.f109 BE I9:=d8.mk Tryz.func109 (by kernel_rfl) VW
theorem Q1:d8 Tryz.prog A4 Tryz.f57 zK GK:=d8.mk Tryz.func57 (by kernel_rfl) SL
section
variable {H : aA} {nx : Nat} {K : D → aA → Nat → Prop}
theorem X7 (h: ∀H' nx',nx+4≤nx'→H' (nx+1)=some ⟨1,3,[true,true,true].map iY⟩→H' (nx+2)=some ⟨1,4,[false,false,false,false].map iY⟩→H' (nx+3)=some ⟨1,3,[true,true,true].map iY⟩→(∀id,id<nx→H' id=H id)→K (dA [.osl 1 (nx+1) 0 3 3,.osl 1 (nx+2) 0 4 4,.osl 1 (nx+3) 0 3 3]) H' nx'):aB Tryz.prog D7 [] H nx K:=by
 refine VI rfl fun Q hQ=> ?_
 unfold BK
 repeat' (first| (with_reducible first| (refine hK _ _ _ ?_;clear hK K)|refine Z1 ?_)| (with_reducible refine Y2 fun K hK=> ?_)<;>(simp only[go_sem,Nat.add_assoc,Nat.left_eq_add,Nat.add_eq_left])| ((with_reducible refine Y8 ?_);try simp only[AQ.then,AQ.blk,reduceIte,Nat.reduceEqDiff])|fail)
 refine hQ _ _ _ _ _ (.inr rfl) (kW (m:=1) rfl (by simp only[aA.set,Nat.left_eq_add,Nat.reduceEqDiff,if_false,if_true,Nat.one_ne_zero,reduceIte]) rfl) (h _ _ (by omega) ?_ ?_ ?_ fun id hid=> ?_)
 ·simp only[aA.set,Nat.add_left_cancel_iff,Nat.reduceEqDiff,if_false,if_true];rfl
 ·simp only[aA.set,Nat.add_left_cancel_iff,Nat.reduceEqDiff,if_false,if_true];rfl
 ·simp only[aA.set,Nat.add_left_cancel_iff,Nat.reduceEqDiff,if_false,if_true];rfl
 ·simp only[aA.set,show ¬id=nx by omega,show ¬id=nx+1 by omega,show ¬id=nx+2 by omega,show ¬id=nx+3 by omega,if_false]
theorem YY {l:List Int} {p i:Nat} {slow:Int} (hl:mI l) (hp50:p+20<2^50) (hsl:0<slow∧slow<1000) (hi:i<nx) (ho:H i=some (rdO l p))
 (h: ∀H' nx' p' x,nx≤nx'→p'≤p+10→CO x→H' i=some (rdO l p')→(∀id,id<nx→id≠i→H' id=H id)→K (dA (eIn x)) H' nx'):aB Tryz.prog DU [dP 2 i,dI slow] H nx K:=by
 refine aB.BZ ?_
 refine VU rfl fun Q hQ=> ?_
 unfold BE
 repeat' (first| (with_reducible first| (refine hK _ _ _ ?_;clear hK K)|refine Z1 ?_|refine Z3 fun KB hKB=> ?_)| (first| (with_reducible refine Y2 fun K hK=> ?_)| (refine X7 (fun H' nx' hx f1 f2 f3 ffr=> ?_)))<;>(simp only[go_sem,Nat.add_assoc,Nat.left_eq_add,Nat.add_eq_left])|fail)
 (have hKX:=hKB;clear hKB)
 refine aQ.WA fun G0 hG0=> ?_
 have c0:G0 nx=some ⟨3,1,[[.osl 0 0 0 0 0,.osl 0 0 0 0 0,.osl 0 0 0 0 0]]⟩:=by rw[hG0,aA.aD (by omega),ffr _ (by omega)];exact aA.bN
 have c2:G0 (nx+2)=some ⟨3,1,[[.osl 1 (nx+5) 0 3 3,.osl 1 (nx+6) 0 4 4,.osl 1 (nx+7) 0 3 3]]⟩:=by rw[hG0];exact aA.bN
 have c5:G0 (nx+5)=some ⟨1,3,[true,true,true].map iY⟩:=by rw[hG0,aA.aD (by omega)];exact f1
 have c6:G0 (nx+6)=some ⟨1,4,[false,false,false,false].map iY⟩:=by rw[hG0,aA.aD (by omega)];exact f2
 have c7:G0 (nx+7)=some ⟨1,3,[true,true,true].map iY⟩:=by rw[hG0,aA.aD (by omega)];exact f3
 have ci:G0 i=some (rdO l p):=by rw[hG0,aA.aD (by omega),ffr _ (by omega),aA.aD (by omega)];exact ho
 have cfr: ∀id,id<nx→G0 id=H id:=fun id hid=>by rw[hG0,aA.aD (by omega),ffr _ (by omega),aA.aD (by omega)]
 clear hG0 f1 f2 f3 ffr
 refine aQ.iI (β:=Nat×Nat×List Bool×List Bool) (fun u=>en [(6,dI u.1),(5,.one (.c (.ptr 3 (nx+2) 0 0))),(4,.one (.c (.ptr 3 nx 0 0))),(1,dI slow),(0,dP 2 i)])
  (fun u H1 _=>u.1≤3∧u.2.1≤p+2*u.1∧u.2.2.1.length=3∧u.2.2.2.length=3∧H1 i=some (rdO l u.2.1)∧H1 (nx+5)=some ⟨1,3,u.2.2.1.map iY⟩∧H1 (nx+7)=some ⟨1,3,u.2.2.2.map iY⟩∧ ∀id,id<nx+8→id≠i→id≠nx+5→id≠nx+7→H1 id=G0 id)
  (fun u=>3-u.1) (0,p,[true,true,true],[true,true,true]) ⟨noF,_,by repeat' (first| (with_reducible first|exact C1|refine C2 ?_ ?_)| ((with_reducible refine C0 ?_);exact CE (by omega) rfl)| ((with_reducible refine D0 ?_);first|exact CA rfl|refine CJ ?_)|fail),aL,by dsimp only;omega,by dsimp only;omega,rfl,rfl,ci,c5,c7,fun _ _ _ _ _=>rfl⟩ ?_
 rintro⟨k,q,ra,rc⟩ H1 nx1 hnx ⟨hk,hq,hra,hrc,gi,g5,g7,hfr⟩ KL hKL
 dsimp only at hk hq hra hrc gi g5 g7
 have g2:=(hfr (nx+2) (by omega) (by omega) (by omega) (by omega)).trans c2
 have hA:bT nx1 [i,nx,nx+2,nx+5,nx+6,nx+7]:=AM.apart (by simp;omega) (by simp;omega)
 simp only[bT,fN] at hA
 by_cases hlt:k<3
 ·repeat' (first| (with_reducible first| (refine hK _ _ _ ?_;clear hK K)| (refine hA ?_;clear hA hB A B)|refine Z1 ?_|refine Z2 ?_|refine Z3 fun KB hKB=> ?_|refine Z4 (by omega) ?_)| (first| (with_reducible first|refine Y2 fun K hK=> ?_|refine Y3 fun A B hA hB=> ?_)| (refine bL (p:=q) hl (by omega) (by omega) (by omega) gi (fun x h1 h2=> ?_))| (refine bL (p:=q+1) hl (by omega) (by omega) (by omega) (by simp only[aA.set,hA,if_false,if_true,gi]) (fun x h1 h2=> ?_)))<;>(simp only[go_sem,Nat.add_assoc,Nat.left_eq_add,Nat.add_eq_left,g2,g5,g7,gi,hA];try simp (disch:=omega) only[Iw])| ((with_reducible refine Y0 ?_);simp only[AQ.then,AQ.blk])|refine⟨by omega,?_⟩| (with_reducible refine hKB _ _ _ ?_)|fail)
  have er: ∀(r:List Bool) (y:Int),(r.map iY).set k [D1.v (.bool (decide (0<y)))]=(r.set k (decide (0<y))).map iY:=fun r y=>by rw[List.map_set];rfl
  rename_i y hy1 hy2
  rw[er,er]
  refine hKL _ _ _ (k+1,q+1+1,ra.set k (decide (0<y)),rc.set k (decide (0<x))) noF _ (by omega) (by dsimp only;omega) (by repeat' (first| (with_reducible first|exact C1|refine C2 ?_ ?_)| ((with_reducible refine C0 ?_);exact CE (by omega) rfl)| ((with_reducible refine D0 ?_);first|exact CA rfl|refine CJ ?_)|fail)) aL ⟨by dsimp only;omega,by dsimp only;omega,by simpa using hra,by simpa using hrc,?_,?_,?_,fun id d1 d2 d3 d4=> ?_⟩
  ·dsimp only;rw[aA.aD (by omega),aA.aD (by omega)];exact aA.bN
  ·dsimp only;rw[aA.aD (by omega)];exact aA.bN
  ·exact aA.bN
  ·rw[aA.aD d4,aA.aD d3,aA.aD d2];exact hfr id d1 d2 d3 d4
 ·repeat' (first| (with_reducible first| (refine hK _ _ _ ?_;clear hK K)| (refine hB ?_;clear hA hB A B)|refine Z1 ?_|refine Z3 fun KB hKB=> ?_|refine Z5 (by omega) ?_|refine hKX _ _ _ ?_)| (with_reducible first|refine Y2 fun K hK=> ?_|refine Y3 fun A B hA hB=> ?_)<;>(simp only[go_sem])| ((with_reducible refine Y9 ?_);try simp only[AQ.then,AQ.blk,reduceIte,Nat.reduceEqDiff])|fail)
  have hk3:k=3:=by omega
  subst hk3
  have g6:=(hfr (nx+6) (by omega) (by omega) (by omega) (by omega)).trans c6
  (have hKY:=hKB;clear hKB)
  refine aQ.iI (β:=Nat×Nat×List Bool) (fun u=>en [(7,dI u.1),(5,.one (.c (.ptr 3 (nx+2) 0 0))),(4,.one (.c (.ptr 3 nx 0 0))),(1,dI slow),(0,dP 2 i)])
   (fun u H2 _=>u.1≤4∧u.2.1≤p+6+u.1∧u.2.2.length=4∧H2 i=some (rdO l u.2.1)∧H2 (nx+6)=some ⟨1,4,u.2.2.map iY⟩∧ ∀id,id<nx1→id≠i→id≠nx+6→H2 id=H1 id)
   (fun u=>4-u.1) (0,q,[false,false,false,false]) ⟨noF,_,by repeat' (first| (with_reducible first|exact C1|refine C2 ?_ ?_)| ((with_reducible refine C0 ?_);exact CE (by omega) rfl)| ((with_reducible refine D0 ?_);first|exact CA rfl|refine CJ ?_)|fail),aL,by dsimp only;omega,by dsimp only;omega,rfl,gi,g6,fun _ _ _ _=>rfl⟩ ?_
  rintro⟨k,q2,rb⟩ H2 nx2 hnx2 ⟨hk,hq2,hrb,hi2,h6,hfr2⟩ KM hKM
  dsimp only at hk hq2 hrb hi2 h6
  have b2:=(hfr2 (nx+2) (by omega) (by omega) (by omega)).trans g2
  have b0:=(hfr2 nx (by omega) (by omega) (by omega)).trans ((hfr nx (by omega) (by omega) (by omega) (by omega)).trans c0)
  have hA2:bT nx2 [i,nx,nx+2,nx+5,nx+6,nx+7]:=AM.apart (by simp;omega) (by simp;omega)
  simp only[bT,fN] at hA2
  by_cases hlt:k<4
  ·repeat' (first| (with_reducible first| (refine hK _ _ _ ?_;clear hK K)| (refine hA ?_;clear hA hB A B)|refine Z1 ?_|refine Z2 ?_|refine Z3 fun KB hKB=> ?_|refine Z4 (by omega) ?_)| (first| (with_reducible first|refine Y2 fun K hK=> ?_|refine Y3 fun A B hA hB=> ?_)| (refine bL (p:=q2) hl (by omega) (by omega) (by omega) hi2 (fun x h1 h2=> ?_)))<;>(simp only[go_sem,Nat.add_assoc,Nat.left_eq_add,Nat.add_eq_left,b2,h6,hi2,hA2];try simp (disch:=omega) only[Iw])| ((with_reducible refine Y0 ?_);simp only[AQ.then,AQ.blk])|refine⟨by omega,?_⟩| (with_reducible refine hKB _ _ _ ?_)|fail)
   have er: ∀(r:List Bool) (y:Int),(r.map iY).set k [D1.v (.bool (decide (y=0)))]=(r.set k (decide (y=0))).map iY:=fun r y=>by rw[List.map_set];rfl
   rw[er]
   refine hKM _ _ _ (k+1,q2+1,rb.set k (decide (x=0))) noF _ (by omega) (by dsimp only;omega) (by repeat' (first| (with_reducible first|exact C1|refine C2 ?_ ?_)| ((with_reducible refine C0 ?_);exact CE (by omega) rfl)| ((with_reducible refine D0 ?_);first|exact CA rfl|refine CJ ?_)|fail)) aL ⟨by dsimp only;omega,by dsimp only;omega,by simpa using hrb,?_,?_,fun id d1 d2 d3=> ?_⟩
   ·dsimp only;rw[aA.aD (by omega)];exact aA.bN
   ·exact aA.bN
   ·rw[aA.aD d3,aA.aD d2];exact hfr2 id d1 d2 d3
  ·repeat' (first| (with_reducible first| (refine hK _ _ _ ?_;clear hK K)| (refine hB ?_;clear hA hB A B)|refine Z1 ?_|refine Z5 (by omega) ?_|refine hKY _ _ _ ?_)| (with_reducible first|refine Y2 fun K hK=> ?_|refine Y3 fun A B hA hB=> ?_)<;>(simp only[go_sem,Nat.add_assoc,Nat.left_eq_add,Nat.add_eq_left,b2,b0,hA2])| ((with_reducible first|refine Y8 ?_|refine Y9 ?_);try simp only[AQ.then,AQ.blk,reduceIte,Nat.reduceEqDiff])|fail)
   have b5:=(hfr2 (nx+5) (by omega) (by omega) (by omega)).trans g5
   have b7:=(hfr2 (nx+7) (by omega) (by omega) (by omega)).trans g7
   refine hQ _ _ _ _ _ (.inr rfl) (kW rfl aA.bN rfl) ⟨dA (eIn ⟨ra,rb,rc⟩),_,fun j=>nx+5≤j∧j<nx+5+3,x8 (aH (bU RR ((aA.aD (by omega)).trans b5) hra.symm (by dsimp only;omega) (by omega)) (aH (bU RR ((aA.aD (by omega)).trans h6) hrb.symm (by dsimp only;omega) (by omega)) (aH (bU RR ((aA.aD (by omega)).trans b7) hrc.symm (by dsimp only;omega) (by omega)) eR))),ZH,h _ _ q2 ⟨ra,rb,rc⟩ (by omega) (by omega) ⟨hra,hrb,hrc⟩ ?_ fun id d1 d2=> ?_⟩
   ·rw[afF (by omega),aA.aD (by omega)];exact hi2
   ·rw[afF (by omega),aA.aD (by omega),hfr2 id (by omega) d2 (by omega),hfr id (by omega) d2 (by omega) (by omega)];exact cfr id d1
theorem U7 {l:List Int} {p i:Nat} (hl:mI l) (hp50:p+2000<2^50) (hi:i<nx) (ho:H i=some (rdO l p))
 (h: ∀H' nx' p' (xs:List CIn),nx≤nx'→xs.length≤90→(∀x∈xs,CO x)→H' i=some (rdO l p')→(∀id,id<nx→id≠i→H' id=H id)→K (dS (xs.map eIn)) H' nx'):aB Tryz.prog A4 [dP 2 i,dI 90] H nx K:=by
 refine aB.BZ ?_
 refine Q1 rfl fun Q hQ=> ?_
 unfold zK
 have hA:bT nx [i]:=AM.apart (by simp) (by simp;omega)
 simp only[bT,fN] at hA
 repeat' (first| (with_reducible first| (refine hK _ _ _ ?_;clear hK K)|refine Z1 ?_)| (with_reducible refine Y2 fun K hK=> ?_)<;>(simp only[go_sem,Nat.add_assoc,Nat.left_eq_add,Nat.add_eq_left,hA])|fail)
 refine bL (p:=p) hl (by omega) (by omega) (by omega) (by simp only[aA.set,hA,if_false];exact ho) fun x h1 h2=> ?_
 obtain⟨slow,hs1,hs2⟩: ∃slow:Int,[[D1.v (Value.int IntKind.i64 2)],[D1.v (Value.int IntKind.i64 3)],[D1.v (Value.int IntKind.i64 5)],[D1.v (Value.int IntKind.i64 20)]][x.toNat]?=some [cI slow]∧0<slow∧slow<1000:=by
  have:x=0∨x=1∨x=2∨x=3:=by omega
  rcases this with rfl|rfl|rfl|rfl
  ·exact⟨2,rfl,by omega⟩
  ·exact⟨3,rfl,by omega⟩
  ·exact⟨5,rfl,by omega⟩
  ·exact⟨20,rfl,by omega⟩
 have hx0:(0≤x)=True:=eq_true h1
 have hx4:(x<4)=True:=eq_true (by omega)
 simp only[go_sem,Nat.add_assoc,Nat.left_eq_add,Nat.add_eq_left,Nat.reduceAdd,hA,hs1,hx0,hx4]
 refine⟨by omega,?_⟩
 refine hK _ _ _ ?_
 clear hK K
 repeat' (first| (with_reducible refine Z1 ?_)| (with_reducible refine Y2 fun K hK=> ?_)<;>(simp only[go_sem])|fail)
 refine bL (p:=p+1) hl (by omega) (by omega) (by omega) aA.bN fun y hy1 hy2=> ?_
 simp only[go_sem]
 repeat' (first| (with_reducible first| (refine hK _ _ _ ?_;clear hK K)|refine Z3 fun KB hKB=> ?_)|fail)
 (have hKX:=hKB;clear hKB)
 refine aQ.WA fun G0 hG0=> ?_
 have ci:G0 i=some (rdO l (p+1+1)):=by rw[hG0];exact aA.bN
 have c1:G0 (nx+1)=some ⟨3,0,[]⟩:=by rw[hG0];simp only[aA.set,show ¬nx+1=i by omega,Nat.add_left_cancel_iff,Nat.reduceEqDiff,if_false,if_true]
 have cfr: ∀id,id<nx→id≠i→G0 id=H id:=fun id d1 d2=>by rw[hG0];simp only[aA.set,d2,show ¬id=nx+1 by omega,show ¬id=nx+3 by omega,if_false]
 clear hG0
 refine aQ.iI (β:=Nat×Nat×List CIn×Nat×Nat) (fun u=>en [(7,dI u.1),(6,dI slow),(5,.one (.c (.osl 3 u.2.2.2.1 0 u.2.2.1.length u.2.2.2.2))),(0,dP 2 i)])
  (fun u H1 nx1=>u.1+u.2.2.1.length≤90∧u.2.1+10*u.1≤p+2+10*y.toNat∧(∀x∈u.2.2.1,CO x)∧H1 i=some (rdO l u.2.1)∧(∃m,H1 u.2.2.2.1=some ⟨3,m,u.2.2.1.map eIn⟩∧u.2.2.1.length≤u.2.2.2.2∧u.2.2.2.2≤m)∧nx≤u.2.2.2.1∧u.2.2.2.1<nx1∧ ∀id,id<nx→id≠i→H1 id=H id)
  (fun u=>u.1) (y.toNat,p+1+1,[],nx+1,0) ⟨noF,_,by repeat' (first| (with_reducible first|exact C1|refine C2 ?_ ?_)| ((with_reducible refine C0 ?_);first|exact CC|exact CE (by omega) rfl| (exact CG (by(congr 2;omega)) rfl))| ((with_reducible refine D0 ?_);first|exact CA rfl|refine CJ ?_)|fail),aL,by dsimp only[List.length_nil];omega,by dsimp only;omega,fun x hx=>by simp at hx,ci,⟨0,c1,Nat.le_refl _,Nat.le_refl _⟩,by dsimp only;omega,by dsimp only;omega,cfr⟩ ?_
 rintro⟨j,q,xs,io,cap⟩ H1 nx1 hnx ⟨hj,hq,hxs,gi,⟨m,g1,g2,g3⟩,hio1,hio2,hfr⟩ KL hKL
 dsimp only at hj hq hxs gi g1 g2 g3 hio1 hio2
 have hA1:bT nx1 [i,io]:=AM.apart (by simp;omega) (by simp;omega)
 simp only[bT,fN] at hA1
 by_cases hj0:0<j
 ·repeat' (first| (with_reducible first| (refine hK _ _ _ ?_;clear hK K)| (refine hA ?_;clear hA hB A B)|refine Z1 ?_|refine Z2 ?_|refine Z3 fun KB hKB=> ?_|refine Z4 (by omega) ?_)| (with_reducible first|refine Y2 fun K hK=> ?_|refine Y3 fun A B hA hB=> ?_)<;>(simp only[go_sem])|fail)
  refine YY hl (by omega) hs2 (by omega) gi fun H2 nx2 q2 x hx2 hq2 hxo fi ffr=> ?_
  have f1:=(ffr io (by omega) (by omega)).trans g1
  have hA2:bT nx2 [i,io]:=AM.apart (by simp;omega) (by simp;omega)
  simp only[bT,fN] at hA2
  simp only[go_sem,Nat.add_assoc,f1,hA1,hA2]
  refine⟨g3,by omega,fun cap1 hcap hcp=> ?_⟩
  refine hK _ _ _ ?_
  clear hK K
  repeat' (first| (with_reducible (refine hK _ _ _ ?_;clear hK K))| (with_reducible refine Y2 fun K hK=> ?_)<;>(simp only[go_sem];try simp (disch:=omega) only[Iw])| ((with_reducible refine Y0 ?_);simp only[AQ.then,AQ.blk])| (with_reducible refine hKB _ _ _ ?_)|fail)
  refine hKL _ _ _ (j-1,q2,xs++[x],nx1+7,cap1) noF _ (by omega) (by dsimp only;omega) (by dsimp only;rw[List.length_append,List.length_singleton];repeat' (first| (with_reducible first|exact C1|refine C2 ?_ ?_)| ((with_reducible refine C0 ?_);first|exact CQ (by omega) rfl rfl (by rfl) rfl|exact CE (by omega) rfl| (exact CG (by(congr 2;omega)) rfl))| ((with_reducible refine D0 ?_);first|exact CA rfl|refine CJ ?_)|fail)) aL ⟨by simp;omega,by dsimp only;omega,fun z hz=> ?_,?_,⟨cap1,aA.bN,by simpa using hcap,Nat.le_refl _⟩,by dsimp only;omega,by dsimp only;omega,fun id d1 d2=> ?_⟩
  ·rcases List.mem_append.1 hz with hz|hz
   ·exact hxs z hz
   ·simp at hz;subst hz;exact hxo
  ·rw[aA.aD (by omega),aA.aD (by omega),aA.iS (by omega)];exact fi
  ·rw[aA.aD (by omega),aA.aD (by omega),aA.iS (by omega),ffr id (by omega) d2];exact hfr id d1 d2
 ·repeat' (first| (with_reducible first| (refine hK _ _ _ ?_;clear hK K)| (refine hB ?_;clear hA hB A B)|refine Z1 ?_|refine Z5 (by omega) ?_|refine hKX _ _ _ ?_)| (with_reducible first|refine Y2 fun K hK=> ?_|refine Y3 fun A B hA hB=> ?_)<;>(simp only[go_sem])| ((with_reducible first|refine Y8 ?_|refine Y9 ?_);try simp only[AQ.then,AQ.blk,reduceIte,Nat.reduceEqDiff])|fail)
  refine hQ _ _ _ _ _ (.inr rfl) rfl ⟨dS (xs.map eIn),_,fun j=>j=io,vQ aqY g1 rfl g2 rfl,MM,h _ _ q xs (by omega) (by omega) hxs ?_ fun id d1 d2=> ?_⟩
  ·rw[aA.iS (by omega)];exact gi
  ·rw[aA.iS (by omega)];exact hfr id d1 d2
theorem PM (l:List Int) (hl:mI l):aB Tryz.prog qD [dS (l.map eU8)] .nil 0
 fun r _ n=>n=0∧r.imm=true∧ ∃(c:Cfg) (xs:List CIn),aY c∧kC c∧xs.length≤90∧(∀x∈xs,CO x)∧r= .tup [.agg (cH c),.c (.isl (xs.map eIn))]:=by
 have hl2:mI (l.take 2000):=⟨by simp;omega,fun x hx=>hl.byte x (List.take_subset _ _ hx)⟩
 refine OD rfl fun Q hQ=> ?_
 unfold u4
 repeat' (first| (with_reducible first| (refine hK _ _ _ ?_;clear hK K)|refine Z1 ?_)| (first| (with_reducible refine Y2 fun K hK=> ?_)| (refine B7.R2 ?_)| (refine B7.UT hl2 (by omega) (by omega) rfl (fun pb c hb1 hb2 ⟨hbok,hbfit⟩=> ?_))| (refine U7 (p:=pb) hl2 (by omega) (by omega) rfl (fun H' nx' p' xs hx hxl hxo hi ffr=> ?_)))<;>(simp only[go_sem])|fail)
 have e0:=(ffr 0 (by omega) (by omega)).trans rfl
 simp only[go_sem,e0]
 repeat' (first| (with_reducible (refine hK _ _ _ ?_;clear hK K))| ((with_reducible refine Y8 ?_);try simp only[AQ.then,AQ.blk,reduceIte,Nat.reduceEqDiff])|fail)
 exact af6 hQ (.tup [.agg (cH c),.c (.isl (xs.map eIn))]) _ rfl (aF rfl) rfl ⟨c,xs,hbok,hbfit,hxl,hxo,rfl⟩
theorem P7 {l:List Int} (hl:mI l) (h: ∀(c:Cfg) (xs:List CIn),aY c→kC c→xs.length≤90→(∀x∈xs,CO x)→K (.tup [.agg (cH c),.c (.isl (xs.map eIn))]) H nx):aB Tryz.prog qD [dS (l.map eU8)] H nx K:=
 (PM l hl).fresh rfl fun r ⟨c,xs,q1,q2,q3,q4,q5⟩=>q5▸h c xs q1 q2 q3 q4
end
end Go.Proofs.YtegiblhkjfiooaaGreat
end
section
namespace Go.Proofs.YtegiblhkjfiooaaGreat
open Go Go.AM
set_option maxRecDepth 100000
set_option maxHeartbeats 8000000
section
variable {H : aA} {nx : Nat} {K : D → aA → Nat → Prop}
theorem ZM:aB Tryz.prog AO [] .nil 0 fun rr _ _=>rr.plain=true∧rr=dB true:=by
 refine XC rfl fun Q hQ=> ?_
 unfold EE
 repeat' (first| (with_reducible first| (refine hK _ _ _ ?_;clear hK K)|refine Z1 ?_)| (first| (with_reducible refine Y2 fun K hK=> ?_)| (with_reducible refine x7 ?_))<;>(simp only[go_sem])| ((with_reducible refine Y8 ?_);try simp only[AQ.then,AQ.blk,reduceIte,Nat.reduceEqDiff])|fail)
 all_goals first|with_reducible refine bJ hQ _ rfl rfl ?_|skip
 all_goals exact(wT (by decide)).symm
theorem aa3 (h:K (dB true) H nx):aB Tryz.prog AO [] H nx K:=
 (ZM).pure rfl (aI trivial) (fun r hr=>hr▸h)
end
theorem J5:d8 Tryz.prog AL Tryz.f6 rB zB:=d8.mk Tryz.func6 (by kernel_rfl) KP
theorem afY (l:List Int) (hby: ∀x∈l,0≤x∧x<256):aB Tryz.prog AL [dS (l.map eU8)] .nil 0 fun rr _ _=>rr.plain=true∧rr=dB true:=by
 refine J5 rfl fun Q hQ=> ?_
 unfold rB
 by_cases hbig:l.length≤1048576
 case neg=>
  repeat' (first| (with_reducible first| (refine hK _ _ _ ?_;clear hK K)| (refine hA ?_;clear hA hB A B)|refine Z1 ?_|refine Z4 (by omega) ?_)| (with_reducible first|refine Y2 fun K hK=> ?_|refine Y3 fun A B hA hB=> ?_)<;>(simp only[go_sem])| ((with_reducible refine Y8 ?_);try simp only[AQ.then,AQ.blk,reduceIte,Nat.reduceEqDiff])|fail)
  exact hQ _ _ _ _ _ (.inr rfl) rfl ⟨rfl,rfl⟩
 have hl:mI l:=⟨by omega,hby⟩
 repeat' (first| (with_reducible first| (refine hK _ _ _ ?_;clear hK K)| (refine hB ?_;clear hA hB A B)|refine Z1 ?_|refine Z2 ?_|refine Z5 (by omega) ?_)| (first| (with_reducible first|refine Y2 fun K hK=> ?_|refine Y3 fun A B hA hB=> ?_)| (refine P7 hl (fun c xs hb hf hxl hxo=> ?_))| (refine VT (fun H1 nx1 hx1 ffr1=> ?_)))<;>(simp only[go_sem])|fail)
 have e9:=(ffr1 9 (by omega)).trans (show _=some ⟨3,1,[cH c]⟩ from rfl)
 refine⟨fun _=>by rw[e9];rfl,?_⟩
 refine OV hb hf (afU c) (by omega) hxo fun H2 nx2 hx2 ffr2=> ?_
 have f9:=(ffr2 9 (by omega)).trans e9
 obtain⟨E,hE⟩: ∃E,E=gS c OF xs:=⟨_,rfl⟩
 have hp:lJ c st0 E:=by rw[hE,←ZS];exact(YS hb (afU c)).2.2
 have hEl:E.length≤108:=ah9 hb hp
 rw[←hE]
 clear hE ffr1 ffr2 e9
 simp only[go_sem]
 repeat' (first| (with_reducible first| (refine hK _ _ _ ?_;clear hK K)| (refine hB ?_;clear hA hB A B)|refine Z1 ?_|refine Z2 ?_|refine Z3 fun KB hKB=> ?_)| (first| (with_reducible first|refine Y2 fun K hK=> ?_|refine Y3 fun A B hA hB=> ?_)| (refine PR hb hf (by omega) hp ?_))<;>(simp only[go_sem,f9])|fail)
 (have hKX:=hKB;clear hKB)
 have hl3:9<nx2:=by omega
 refine aQ.iI (β:=Nat) (fun k=>en [(8,dI k),(5,dS (E.map eEv)),(3,.one (.c (.ptr 3 9 0 0)))]) (fun k H3 _=>k≤E.length∧H3 9=some ⟨3,1,[cH c]⟩) (fun k=>E.length-k) 0 ⟨noF,_,by repeat' (first| (with_reducible first|exact C1|refine C2 ?_ ?_)| ((with_reducible refine C0 ?_);exact CE (by omega) rfl)| ((with_reducible refine D0 ?_);first|exact CA rfl|refine CJ ?_)|fail),aL,by omega,f9⟩ ?_
 rintro k H3 nx3 hnx3 ⟨hk,g9⟩ KL hKL
 by_cases hlt:k<E.length
 ·by_cases hkd:(E.getD k default).kind=2
  ·have hkf:((E.getD k default).kind=2)=True:=eq_true hkd
   have hA:bT nx3 [9]:=AM.apart (by simp) (by simp;omega)
   simp only[bT,fN] at hA
   have ek:((k:Int)+1).toNat=k+1:=by omega
   repeat' (first| (with_reducible first| (refine hK _ _ _ ?_;clear hK K)| (refine hA ?_;clear hA hB A B)| (refine hB ?_;clear hA hB A B)|refine Z1 ?_|refine Z2 ?_|refine Z3 fun KB hKB=> ?_|refine Z4 (by omega) ?_|refine fun(cap:Nat) (hcap:_≤cap)=> ?_|refine fun(hcp:_≤cap)=> ?_)| (with_reducible first|refine Y2 fun K hK=> ?_|refine Y3 fun A B hA hB=> ?_)<;>(simp only[go_sem,Nat.add_assoc,Nat.left_eq_add,g9,hkf,hA,ek];try simp (disch:=omega) only[Iw])|refine⟨by omega,?_⟩| (refine⟨by(rw[List.length_take];omega),?_⟩)|fail)
   obtain⟨L,hL⟩: ∃L,L=E.take k++E.drop (k+1):=⟨_,rfl⟩
   have hLl:(E.take k).length+(E.drop (k+1)).length=L.length:=by rw[hL,List.length_append]
   have hL1:L.length=E.length-1:=by rw[hL];simp;omega
   have hLr:(E.take k).map eEv++(E.drop (k+1)).map eEv=L.map eEv:=by rw[hL,List.map_append]
   rw[ek,hLl]
   refine⟨by omega,fun cap1 hcap hcp=> ?_⟩
   have hcap':L.length≤cap1:=hcap
   rw[hLr]
   refine hK _ _ _ ?_
   clear hK K
   repeat' (first| (with_reducible first| (refine hK _ _ _ ?_;clear hK K)|refine Z1 ?_|refine Z3 fun KB hKB=> ?_)| (with_reducible refine Y2 fun K hK=> ?_)<;>(simp only[go_sem])|fail)
   (have hKY:=hKB;clear hKB)
   obtain⟨w,hw⟩: ∃w,w=(⟨3,(E.getD k default).who,(E.getD k default).n⟩:Ev):=⟨_,rfl⟩
   refine aQ.iI (β:=Nat×Bool) (fun u=>en [(11,dI u.1),(10,dB u.2),(9,.one (.c (.osl 3 (nx3+19) 0 L.length cap1))),(8,dI k),(5,dS (E.map eEv)),(3,.one (.c (.ptr 3 9 0 0)))])
    (fun u H4 _=>k≤u.1∧u.1≤E.length∧(u.2=true→∃i,k≤i∧i<E.length∧E.getD i default=w)∧H4 9=some ⟨3,1,[cH c]⟩∧H4 (nx3+19)=some ⟨3,cap1,L.map eEv⟩) (fun u=>E.length-u.1) (k,false)
    ⟨noF,_,by repeat' (first| (with_reducible first|exact C1|refine C2 ?_ ?_)| ((with_reducible refine C0 ?_);first|exact CQ (by omega) rfl rfl (by rfl) rfl|exact CE (by omega) rfl)| ((with_reducible refine D0 ?_);first|exact CA rfl|refine CJ ?_)|fail),aL,by dsimp only;omega,by dsimp only;omega,fun h=>by simp at h,by rw[aA.aD (by omega),aA.iS (by omega),aA.iS (by omega)];exact g9,aA.bN⟩ ?_
   rintro⟨j,b⟩ H4 nx4 hnx4 ⟨hj1,hj2,hb4,h9,h19⟩ KM hKM
   dsimp only at hj1 hj2 hb4
   by_cases hjl:j<E.length
   ·cases b with
    |true=>
     repeat' (first| (with_reducible first| (refine hK _ _ _ ?_;clear hK K)| (refine hA ?_;clear hA hB A B)|refine Z1 ?_|refine Z2 ?_|refine Z3 fun KB hKB=> ?_|refine Z4 (by omega) ?_)| (with_reducible first|refine Y2 fun K hK=> ?_|refine Y3 fun A B hA hB=> ?_)<;>(simp only[go_sem];try simp (disch:=omega) only[Iw])| ((with_reducible refine Y0 ?_);simp only[AQ.then,AQ.blk])| (with_reducible refine hKB _ _ _ ?_)|fail)
     exact hKM _ _ _ (j+1,true) noF _ (by omega) (by dsimp only;omega) (by repeat' (first| (with_reducible first|exact C1|refine C2 ?_ ?_)| ((with_reducible refine C0 ?_);first|exact CQ (by omega) rfl rfl (by rfl) rfl|exact CE (by omega) rfl)| ((with_reducible refine D0 ?_);first|exact CA rfl|refine CJ ?_)|fail)) aL ⟨by dsimp only;omega,by dsimp only;omega,hb4,h9,h19⟩
    |false=>
     have hij:AP (eEv (E.getD j default))=some [(E.getD j default).kind,(E.getD j default).who,(E.getD j default).n]:=rfl
     repeat' (first| (with_reducible first| (refine hK _ _ _ ?_;clear hK K)| (refine hA ?_;clear hA hB A B)|refine Z1 ?_|refine Z2 ?_|refine Z3 fun KB hKB=> ?_|refine Z4 (by omega) ?_)| (with_reducible first|refine Y2 fun K hK=> ?_|refine Y3 fun A B hA hB=> ?_)<;>(simp only[go_sem,hij];try simp (disch:=omega) only[Iw])| ((with_reducible refine Y0 ?_);simp only[AQ.then,AQ.blk])|refine⟨by omega,?_⟩| (with_reducible refine hKB _ _ _ ?_)|fail)
     refine hKM _ _ _ (j+1,decide ([(E.getD j default).kind,(E.getD j default).who,(E.getD j default).n]=[3,(E.getD k default).who,(E.getD k default).n])) noF _ (by omega) (by dsimp only;omega) (by repeat' (first| (with_reducible first|exact C1|refine C2 ?_ ?_)| ((with_reducible refine C0 ?_);first|exact CQ (by omega) rfl rfl (by rfl) rfl|exact CE (by omega) rfl)| ((with_reducible refine D0 ?_);first|exact CA rfl|refine CJ ?_)|fail)) aL ⟨by dsimp only;omega,by dsimp only;omega,fun hb1=>⟨j,hj1,hjl,?_⟩,h9,h19⟩
     have he:=of_decide_eq_true hb1
     rw[hw]
     clear hij
     generalize E.getD j default=e at he ⊢
     obtain⟨a1,a2,a3⟩:=e
     simp only[List.cons.injEq,and_true] at he
     obtain⟨rfl,rfl,rfl⟩:=he
     rfl
   ·repeat' (first| (with_reducible first| (refine hK _ _ _ ?_;clear hK K)| (refine hB ?_;clear hA hB A B)|refine Z1 ?_|refine Z5 (by omega) ?_|refine hKY _ _ _ ?_)| (with_reducible first|refine Y2 fun K hK=> ?_|refine Y3 fun A B hA hB=> ?_)<;>(simp only[go_sem,h9])| ((with_reducible refine Y9 ?_);try simp only[AQ.then,AQ.blk,reduceIte,Nat.reduceEqDiff])|fail)
    have hbl:b=true→¬(XL c L).1<(k:Int):=fun hb1=>by
     obtain⟨i,hi1,hi2,hi3⟩:=hb4 hb1
     obtain⟨q1,q2⟩:=ajT hb hp hlt hkd hi1 hi2 (by rw[hi3,hw])
     rw[←hL] at q1 q2
     unfold XL
     rw[if_neg q1]
     dsimp only
     omega
    refine aB.ar5 (args':=[dA (cH c),dS (L.map eEv)]) (without (fun j=>j=nx3+19) H4) (fun j=>j=nx3+19) rfl (fun i d0 d h1 h2=> ?_) G6 ?_
    ·match i with
     |0=>
      simp only[List.getElem?_cons_zero,Option.some.injEq] at h1 h2
      subst h1;subst h2
      exact aF rfl
     |1=>
      simp only[List.getElem?_cons_succ,List.getElem?_cons_zero,Option.some.injEq] at h1 h2
      subst h1;subst h2
      exact vQ RE h19 rfl hcap' rfl
     |i+2=>simp at h1
    refine N9 hb hf (by omega) ?_
    have w9:without (fun j=>j=nx3+19) H4 9=some ⟨3,1,[cH c]⟩:=(CW (by omega)).trans h9
    generalize (XL c L).1=z1 at*
    generalize (XL c L).2=z2 at*
    simp only[go_sem]
    cases b with
    |false=>
     repeat' (first| (with_reducible first| (refine hK _ _ _ ?_;clear hK K)| (refine hB ?_;clear hA hB A B)|refine Z1 ?_|refine Z2 ?_)| (with_reducible first|refine Y2 fun K hK=> ?_|refine Y3 fun A B hA hB=> ?_)<;>(simp only[go_sem,w9];try simp (disch:=omega) only[Iw])| ((with_reducible refine Y0 ?_);simp only[AQ.then,AQ.blk])| (with_reducible refine hKB _ _ _ ?_)|fail)
     exact hKL _ _ _ (k+1) noF _ (by omega) (by omega) (by repeat' (first| (with_reducible first|exact C1|refine C2 ?_ ?_)| ((with_reducible refine C0 ?_);exact CE (by omega) rfl)| ((with_reducible refine D0 ?_);first|exact CA rfl|refine CJ ?_)|fail)) aL ⟨by omega,w9⟩
    |true=>
     have hz:=hbl rfl
     repeat' (first| (with_reducible first| (refine hK _ _ _ ?_;clear hK K)| (refine hB ?_;clear hA hB A B)|refine Z1 ?_|refine Z2 ?_|refine Z5 (by omega) ?_)| (with_reducible first|refine Y2 fun K hK=> ?_|refine Y3 fun A B hA hB=> ?_)<;>(simp only[go_sem,w9];try simp (disch:=omega) only[Iw])| ((with_reducible refine Y0 ?_);simp only[AQ.then,AQ.blk])| (with_reducible refine hKB _ _ _ ?_)|fail)
     exact hKL _ _ _ (k+1) noF _ (by omega) (by omega) (by repeat' (first| (with_reducible first|exact C1|refine C2 ?_ ?_)| ((with_reducible refine C0 ?_);exact CE (by omega) rfl)| ((with_reducible refine D0 ?_);first|exact CA rfl|refine CJ ?_)|fail)) aL ⟨by omega,w9⟩
  ·have hkf:((E.getD k default).kind=2)=False:=eq_false hkd
   repeat' (first| (with_reducible first| (refine hK _ _ _ ?_;clear hK K)| (refine hA ?_;clear hA hB A B)|refine Z1 ?_|refine Z2 ?_|refine Z3 fun KB hKB=> ?_|refine Z4 (by omega) ?_)| (with_reducible first|refine Y2 fun K hK=> ?_|refine Y3 fun A B hA hB=> ?_)<;>(simp only[go_sem,hkf];try simp (disch:=omega) only[Iw])| ((with_reducible refine Y9 ?_);try simp only[AQ.then,AQ.blk,reduceIte,Nat.reduceEqDiff])| ((with_reducible refine Y0 ?_);simp only[AQ.then,AQ.blk])|refine⟨by omega,?_⟩| (with_reducible refine hKB _ _ _ ?_)|fail)
   exact hKL _ _ _ (k+1) noF _ (by omega) (by omega) (by repeat' (first| (with_reducible first|exact C1|refine C2 ?_ ?_)| ((with_reducible refine C0 ?_);exact CE (by omega) rfl)| ((with_reducible refine D0 ?_);first|exact CA rfl|refine CJ ?_)|fail)) aL ⟨by omega,g9⟩
 ·repeat' (first| (with_reducible first| (refine hK _ _ _ ?_;clear hK K)| (refine hB ?_;clear hA hB A B)|refine Z1 ?_|refine Z5 (by omega) ?_|refine hKX _ _ _ ?_)| (first| (with_reducible first|refine Y2 fun K hK=> ?_|refine Y3 fun A B hA hB=> ?_)| (with_reducible refine aa3 ?_))<;>(simp only[go_sem])| ((with_reducible first|refine Y8 ?_|refine Y9 ?_);try simp only[AQ.then,AQ.blk,reduceIte,Nat.reduceEqDiff])|fail)
  exact hQ _ _ _ _ _ (.inr rfl) rfl ⟨rfl,rfl⟩
end Go.Proofs.YtegiblhkjfiooaaGreat
end
section
namespace Go.AM
open Go.RowKit
def arS (k:IntKind) (w:World) (a:Option Addr) (len cap:Nat) (zs:List Int):Prop:=
 (a=none∧len=0∧cap=0∧zs=[])∨
 ∃x,a=some x∧len≤cap∧cap≤maxLen∧zs.length=cap∧(∀i,i<zs.length→w.cell? (x.add i)=some (.int k (zs.getD i 0)))∧ ∀n∈zs,(Lit.int k n).wf=true
theorem abR {P:Program} {f:FuncId} {l:List Int} {w:World} {v:Value} {I:Nat→Prop} (h:aB P f [dS (l.map eU8)] .nil 0 fun rr _ _=>rr.plain=true∧rr=dB true) (hI: ∀b,I b→b<w.heap.size) (hv:Imm I w (.isl (l.map eU8)) v):
 Calls P f #[v] w fun e w'=>e= .returned (.bool true)∧Below w.heap.size w w':=by
 have hno: ∀b,¬wG ⟨fun _=>(0,0),fun _=>False,I,w⟩ .nil b:=by rintro b ⟨id,o,h,_⟩;cases h
 have hst:St ⟨fun _=>(0,0),fun _=>False,I,w⟩ .nil:=⟨fun id o h=>(by cases h),fun id o h=>(by cases h),fun id o h=>(by cases h),fun id o i j r d h=>(by cases h),fun id id' o o' h=>(by cases h),fun id o h=>(by cases h),hI⟩
 refine(h.2 ⟨fun _=>(0,0),fun _=>False,I,w⟩ [v] hst (fun i hi=>hi.elim) rfl (fun i d u h1 h2=> ?_)).mono ?_
 ·match i with
  |0=>simp at h1 h2;subst h1;subst h2;exact hv
  |i+1=>simp at h1
 ·rintro x w' ⟨u,c',r,H',nx',rfl,rfl,p1,p2,p3,p4,p5,p6,rfl⟩
  have hu:u= .bool true:=by
   simp only[fB,j9,Rel,bW] at p5
   cases p5;rfl
  subst hu
  exact⟨rfl,p2.os,p2.tape,p2.output,p2.size,fun k hk=>p2.frame k hk (hno k)⟩
theorem as8 {P:Program} {f:FuncId} (h: ∀l:List Int,(∀x∈l,0≤x∧x<256)→aB P f [dS (l.map eU8)] .nil 0 fun rr _ _=>rr.plain=true∧rr=dB true) (a0:Option Addr) (len0 cap0:Nat) (z0:List Int) (w:World) (w0:arS .u8 w a0 len0 cap0 z0):
 Calls P f #[.slice a0 len0 cap0] w fun e w'=>e= .returned (.bool true)∧Below w.heap.size w w':=by
 rcases w0 with⟨rfl,rfl,rfl,rfl⟩|⟨x,rfl,hl,hm,hz,hc,hw⟩
 ·refine abR (I:=fun _=>False) (h [] (fun x hx=>by cases hx)) (fun b hb=>hb.elim) ?_
  exact .isl [] none 0 1 0 0 (fun _ _=>.int .u8 0) (fun h=>absurd rfl h) (Nat.le_refl _) (fun i r h=>by simp at h) (fun i j r d h=>by simp at h) (fun i j r d h=>by simp at h)
 ·have hlt:(z0.take len0).length=len0:=by simp;omega
  have hby: ∀y∈z0.take len0,0≤y∧y<256:=fun y hy=>by
   have:=bounds_u8 (hw y (List.take_subset _ _ hy));omega
  refine abR (I:=fun b=>b=x.block∧0<len0) (h (z0.take len0) hby) (fun b hb=> ?_) ?_
  ·obtain⟨rfl,h0⟩:=hb
   have:=World.block_lt_of_cell? w _ (hc 0 (by omega))
   simpa [Addr.add] using this
  ·have key:=Imm.isl (I:=fun b=>b=x.block∧0<len0) (w:=w) ((z0.take len0).map eU8) (some x) cap0 1 x.block x.off (fun i _=>.int .u8 (z0.getD i 0)) (fun hne=> ?_) (by simp;omega) (fun i r hr=> ?_) (fun i j r d hr hd=> ?_) (fun i j r d hr hd=> ?_)
   ·rw[List.length_map,hlt] at key;exact key
   ·have h0:0<len0:=by
     rcases Nat.eq_zero_or_pos len0 with h0|h0
     ·subst h0;exact absurd (by simp) hne
     ·exact h0
    have hsp:=World.cell?_spot (hc 0 (by omega))
    refine⟨?_,rfl,h0⟩
    obtain⟨b,o,s⟩:=x
    simp only[Addr.add,if_true] at hsp
    subst hsp
    rfl
   ·obtain⟨y,_,rfl⟩:=List.mem_map.1 (List.mem_of_getElem? hr)
    rfl
   ·rw[List.getElem?_map] at hr
    obtain⟨y,hy,rfl⟩:=Option.map_eq_some_iff.1 hr
    match j with
    |0=>
     have hi:i<len0:=by have:=(List.getElem?_eq_some_iff.1 hy).1;omega
     have h1:=hc i (by omega)
     have hsp:=World.cell?_spot (hc 0 (by omega))
     obtain⟨b,o,s⟩:=x
     simp only[Addr.add,if_true] at hsp
     subst hsp
     have e:(Addr.mk b o none).add i=⟨b,o+(i*1+0),none⟩:=by
      unfold Addr.add
      split
      ·rename_i h;subst h;simp
      ·simp
     rw[e] at h1
     exact h1
    |j+1=>simp[eU8] at hd
   ·rw[List.getElem?_map] at hr
    obtain⟨y,hy,rfl⟩:=Option.map_eq_some_iff.1 hr
    match j with
    |0=>
     simp only[eU8,List.getElem?_cons_zero,Option.some.injEq] at hd
     subst hd
     have hyz:y=z0.getD i 0:=by
      rw[List.getElem?_take] at hy
      split at hy
      ·simp[List.getD,hy]
      ·cases hy
     subst hyz
     exact .v _ rfl
    |j+1=>simp[eU8] at hd
end Go.AM
end
