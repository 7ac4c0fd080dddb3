/- Texts laid together by a program: rules, contracts and the walk that leads to the law. -/
import Derived.Test.YtegiblhkjfiooaaGreatPu18
import Derived.Test.YtegiblhkjfiooaaGreatPu17
import Derived.Test.YtegiblhkjfiooaaGreatPu3
import Derived.Test.YtegiblhkjfiooaaGreatPu12
set_option linter.unusedVariables false
set_option linter.unusedSimpArgs false
set_option linter.unusedSectionVars false
section
namespace Go.Proofs.YtegiblhkjfiooaaGreat
open Go Go.AM
set_option maxRecDepth 100000
set_option maxHeartbeats 4000000
section
variable {H : aA} {nx : Nat} {K : D → aA → Nat → Prop}
theorem aPE (l:List Int) (p:Nat) (c:Cfg) (s:TSt) (ac am:Nat) (hl:kZ l) (hp50:p+5<2^50) (hal:s.asked.length=3) (hw:s.wait.length<2^20) (hd:s.done.length<2^20):
 aB Tryz.prog b7 [dP 2 0,dA (cU c),dA [.dead,.dead,.osl 1 1 0 3 ac,.isl (s.wait.map aS),.isl (s.done.map aS),.dead]] (hp [(0,rdO l p),(1,⟨1,am,s.asked.map aJ⟩)]) 2
 fun r H' n'=>n'=2∧ ∃o1' o2',H'=hp [(0,o1'),(1,o2')]∧C7 o1'∧C7 o2'∧ ∃(p':Nat) (e:Ev),o1'=rdO l p'∧o2'=⟨1,am,s.asked.map aJ⟩∧p≤p'∧p'≤p+5∧r=dA (eEv e):=by
 refine aNM rfl fun Q hQ=> ?_
 unfold c8
 repeat' (first| (with_reducible first| (refine hK _ _ _ ?_;clear hK K)| (refine hA ?_;clear hA hB A B)| (refine hB ?_;clear hA hB A B)|refine Z1 ?_|refine Z2 ?_|refine Z3 fun KB hKB=> ?_|refine Z6 (fun h=> ?_) fun h=> ?_)| (first| (with_reducible first|refine Y2 fun K hK=> ?_|refine Y3 fun A B hA hB=> ?_)| (refine aX hl (by omega) (by omega) (by omega) rfl (fun x h1 h2=> ?_)))<;>(simp only[go_sem];try simp (disch:=omega) only[Iw])| ((with_reducible refine Y8 ?_);try simp only[AQ.then,AQ.blk,reduceIte,Nat.reduceEqDiff])| ((with_reducible refine Y0 ?_);simp only[AQ.then,AQ.blk])|refine⟨by omega,?_⟩| (with_reducible refine hKB _ _ _ ?_)|fail)
 all_goals exact aTE hQ (dA (eEv ⟨_,_,_⟩)) _ _ _ rfl (aH (bB rfl) (aH (bB rfl) (aH (bB rfl) eP))) rfl rfl (aV _ _) (oB bF _) ⟨_,⟨_,_,_⟩,rfl,rfl,by omega,by omega,rfl⟩
theorem aPC {l:List Int} {p:Nat} {c:Cfg} {s:TSt} {ac am i j i0 i1 i3 wc hc tc:Nat} (hl:kZ l) (hp50:p+5<2^50) (hal:s.asked.length=3) (hw:s.wait.length<2^20) (hd:s.done.length<2^20)
 (hi:i<nx) (hj:j<nx) (hij:i≠j) (ho1:H i=some (rdO l p)) (ho2:H j=some ⟨1,am,s.asked.map aJ⟩) (h: ∀p' e,p≤p'→p'≤p+5→K (dA (eEv e)) ((H.set i (rdO l p')).set j ⟨1,am,s.asked.map aJ⟩) nx):
 aB Tryz.prog b7 [dP 2 i,dA (cU c),dA (oSt i0 i1 j i3 wc hc ac tc s)] H nx K:=
 (aPE l p c s ac am hl hp50 hal hw hd).aUH i j rfl (gW ⟨DG (by omega) rfl,aE rfl,aH (.dead _) (aH (.dead _) (aH (aaF (by omega) rfl rfl rfl rfl) (aH (bB rfl) (aH (bB rfl) (aH (.dead _) eP))))),trivial⟩) hi hj hij ho1 ho2 (aV l p) (oB bF _) fun r o1' o2' ⟨p',e,q1,q2,q3,q4,q5⟩=>by
  subst q1;subst q2;subst q5;exact h p' e q3 q4
theorem MM {q:Req} (h:dH q):dH ⟨q.id,3,q.addr,1,false,[],[]⟩:=by
 obtain⟨h1,h2,⟨h3,h4,h5⟩,h6⟩:=h
 refine⟨h1,by dsimp only;omega,⟨by dsimp only;omega,h4,.inr (by dsimp only;omega)⟩,by simp[n5],by simp[n5],fun x hx=>by simp at hx,fun x hx=>by simp at hx,.inr (.inr rfl)⟩
theorem L4 {q:Req} (h:dH q):q.data.length<2^40∧q.lanes.length<2^40:=by
 obtain⟨h1,h2,⟨h3,h4,h5⟩,h6,h7,h8⟩:=h
 unfold n5 at h6 h7
 constructor
 ·split at h6<;>omega
 ·split at h7<;>omega
theorem zM (l:List Int) (p:Nat) (hl:kZ l) (hp50:p+1000<2^50):aB Tryz.prog lJ [dP 2 0,dI 6] (hp [(0,rdO l p)]) 1
 fun rr H' n'=>n'=1∧ ∃o',H'=hp [(0,o')]∧C7 o'∧ ∃(p':Nat) (c:Cfg),o'=rdO l p'∧p≤p'∧p'≤p+1000∧rr=dA (cU c)∧(aQ c∧jO c):=by
 refine FC rfl fun Q hQ=> ?_
 unfold qQ
 repeat' (first| (with_reducible first| (refine hK _ _ _ ?_;clear hK K)|refine Z1 ?_|refine Z3 fun KB hKB=> ?_)| (first| (with_reducible refine Y2 fun K hK=> ?_)| (refine IV hl (by omega) (by omega) rfl (fun pm m hm1 hm2 hmok=> ?_)))<;>(simp only[go_sem])|fail)
 (have hKX:=hKB;clear hKB)
 refine aM.EJ 1 ?_
 refine aM.sG 3 (β:=Nat×Nat×List Int×Nat)
  (fun b u=>en [(6,dI u.1),(5,dP 3 (b+1)),(4,dP 3 b),(1,dI 6),(0,dP 2 0)])
  (fun b u=>hp [(0,rdO l u.2.1),(b,⟨3,1,[[.osl 0 0 0 0 0,.osl 0 0 0 0 0,.osl 0 0 0 0 0]]⟩),(b+1,⟨3,1,[[.isl (m.map eN),.osl 1 (b+2) 0 u.1 u.2.2.2,.osl 0 0 0 0 0]]⟩),(b+2,⟨1,u.2.2.2,u.2.2.1.map aJ⟩)])
  (fun u=>u.1≤4∧p≤u.2.1∧u.2.1≤p+8+u.1∧u.2.2.1.length=u.1∧All u.2.2.1 0 3∧u.1≤u.2.2.2)
  (fun u=>4-u.1) (0,pm,[],0) ?_ ⟨by dsimp only;omega,by dsimp only;omega,by dsimp only;omega,rfl,by simp[All],by dsimp only;omega⟩ ?_
 · (refine cR [1,5,8,0] (by omega) (by repeat' (first| (with_reducible first|exact C1|refine C2 ?_ ?_)| ((with_reducible refine C0 ?_);exact CE (by omega) rfl)| ((with_reducible refine D0 ?_);first|exact CA rfl|refine CJ ?_)|fail)) ⟨⟨by simp,by simp[sgL],_,rfl,bS (aV _ _)⟩,⟨by simp,by simp[sgL],_,rfl,aP (by repeat' (first| (with_reducible first|exact C3|refine C4 ?_ ?_)| ((with_reducible refine C0 ?_);exact CC)|fail))⟩,⟨by simp,by simp[sgL],_,rfl,aP (by repeat' (first| (with_reducible first|exact C3|refine C4 ?_ ?_)| ((with_reducible refine C0 ?_);first|exact CB rfl|exact CC)|fail))⟩,⟨by simp,by simp[sgL],_,rfl,bP (aG bF _) rfl rfl⟩,trivial⟩ (by simp[sgL]))
 rintro⟨k,pl,la,cl⟩ ⟨f1,f2,f3,f4,f5,f6⟩ KL hKL
 dsimp only at f1 f2 f3 f4 f5 f6
 have hta:la.take k=la:=List.take_of_length_le (by omega)
 by_cases hlt:k<4
 ·repeat' (first| (with_reducible first| (refine hK _ _ _ ?_;clear hK K)| (refine hA ?_;clear hA hB A B)|refine Z1 ?_|refine Z2 ?_|refine Z3 fun KB hKB=> ?_|refine Z4 (by omega) ?_|refine fun(cap:Nat) (hcap:_≤cap)=> ?_|refine fun(hcp:_≤cap)=> ?_)| (first| (with_reducible first|refine Y2 fun K hK=> ?_|refine Y3 fun A B hA hB=> ?_)| (refine aX hl (by omega) (by omega) (by omega) rfl (fun x h1 h2=> ?_)))<;>(simp only[go_sem,hta];try simp (disch:=omega) only[Iw])| ((with_reducible refine Y0 ?_);simp only[AQ.then,AQ.blk])|refine⟨by omega,?_⟩| (with_reducible refine hKB _ _ _ ?_)|fail)
  exact hKL _ _ _ (k+1,pl+1,la++[x],cap) (by omega) (by(refine cR [9,10,19,0] (by omega) (by repeat' (first| (with_reducible first|exact C1|refine C2 ?_ ?_)| ((with_reducible refine C0 ?_);exact CE (by omega) rfl)| ((with_reducible refine D0 ?_);first|exact CA rfl|refine CJ ?_)|fail)) ⟨⟨by simp,by simp[sgL],_,rfl,bS (aV _ _)⟩,⟨by simp,by simp[sgL],_,rfl,aP (by repeat' (first| (with_reducible first|exact C3|refine C4 ?_ ?_)| ((with_reducible refine C0 ?_);exact CC)|fail))⟩,⟨by simp,by simp[sgL],_,rfl,aP (by repeat' (first| (with_reducible first|exact C3|refine C4 ?_ ?_)| ((with_reducible refine C0 ?_);first|exact CB rfl|exact CC|exact CQ (by omega) rfl rfl (by rfl) rfl)|fail))⟩,⟨by simp,by simp[sgL],_,rfl,bP (aG bF _) rfl rfl⟩,trivial⟩ (by simp[sgL]))) ⟨by dsimp only;omega,by dsimp only;omega,by dsimp only;omega,by simp;omega,KC f5 (by omega) (by omega),by dsimp only;omega⟩ (by dsimp only;omega)
 have hk4:k=4:=by omega
 subst hk4
 repeat' (first| (with_reducible first| (refine hK _ _ _ ?_;clear hK K)| (refine hB ?_;clear hA hB A B)|refine Z1 ?_|refine Z3 fun KB hKB=> ?_|refine Z5 (by omega) ?_|refine hKX _ _ _ ?_)| (with_reducible first|refine Y2 fun K hK=> ?_|refine Y3 fun A B hA hB=> ?_)<;>(simp only[go_sem])| ((with_reducible refine Y9 ?_);try simp only[AQ.then,AQ.blk,reduceIte,Nat.reduceEqDiff])|fail)
 (have hKY:=hKB;clear hKB)
 refine aM.EJ 1 ?_
 refine aM.sG 3 (β:=Nat×Nat×List Prog×Nat)
  (fun b u=>en [(7,dI u.1),(5,dP 3 (b+1)),(4,dP 3 b),(1,dI 6),(0,dP 2 0)])
  (fun b u=>hp [(0,rdO l u.2.1),(b,⟨3,1,[[.osl 0 0 0 0 0,.osl 0 0 0 0 0,.osl 0 0 0 0 0]]⟩),(b+1,⟨3,1,[[.isl (m.map eN),.isl (la.map aJ),.osl 1 (b+2) 0 u.1 u.2.2.2]]⟩),(b+2,⟨1,u.2.2.2,u.2.2.1.map jR⟩)])
  (fun u=>u.1≤3∧p≤u.2.1∧u.2.1≤p+12+300*u.1∧u.2.2.1.length=u.1∧(∀pr∈u.2.2.1,pr.length≤12∧ ∀q∈pr,dH q)∧u.1≤u.2.2.2)
  (fun u=>3-u.1) (0,pl,[],0) ?_ ⟨by dsimp only;omega,by dsimp only;omega,by dsimp only;omega,rfl,fun pr hpr=>by simp at hpr,by dsimp only;omega⟩ ?_
 · (refine cR [9,10,15,0] (by omega) (by repeat' (first| (with_reducible first|exact C1|refine C2 ?_ ?_)| ((with_reducible refine C0 ?_);exact CE (by omega) rfl)| ((with_reducible refine D0 ?_);first|exact CA rfl|refine CJ ?_)|fail)) ⟨⟨by simp,by simp[sgL],_,rfl,bS (aV _ _)⟩,⟨by simp,by simp[sgL],_,rfl,aP (by repeat' (first| (with_reducible first|exact C3|refine C4 ?_ ?_)| ((with_reducible refine C0 ?_);exact CC)|fail))⟩,⟨by simp,by simp[sgL],_,rfl,aP (aH (bB rfl) (aH (bW bF rfl (by omega) (by omega) (by simp)) (aH (.VS _ _ _ _ _ _) eP)))⟩,⟨by simp,by simp[sgL],_,rfl,bP (aG iR _) rfl rfl⟩,trivial⟩ (by simp[sgL]))
 rintro⟨k,pl,ps,cp⟩ ⟨g1,g2,g3,g4,g5,g6⟩ KM hKM
 dsimp only at g1 g2 g3 g4 g5 g6
 have htp:ps.take k=ps:=List.take_of_length_le (by omega)
 by_cases hlt:k<3
 ·repeat' (first| (with_reducible first| (refine hK _ _ _ ?_;clear hK K)| (refine hA ?_;clear hA hB A B)|refine Z1 ?_|refine Z2 ?_|refine Z3 fun KB hKB=> ?_|refine Z4 (by omega) ?_)| (first| (with_reducible first|refine Y2 fun K hK=> ?_|refine Y3 fun A B hA hB=> ?_)| (refine aX hl (by omega) (by omega) (by omega) rfl (fun x h1 h2=> ?_)))<;>(simp only[go_sem];try simp (disch:=omega) only[Iw])|fail)
  (have hKZ:=hKB;clear hKB)
  rename_i x hx1 hx2
  refine aM.sG 1 (β:=Nat×Nat×List Req×Nat)
   (fun b u=>en [(9,dI u.1),(8,dO 7 b u.2.2.1.length u.2.2.2),(7,dI k),(5,dP 3 17),(4,dP 3 16),(1,dI 6),(0,dP 2 0)])
   (fun b u=>hp [(0,rdO l u.2.1),(16,⟨3,1,[[.osl 0 0 0 0 0,.osl 0 0 0 0 0,.osl 0 0 0 0 0]]⟩),(17,⟨3,1,[[.isl (m.map eN),.isl (la.map aJ),.osl 1 18 0 k cp]]⟩),(18,⟨1,cp,ps.map jR⟩),(b,⟨7,u.2.2.2,u.2.2.1.map eB⟩)])
   (fun u=>u.1≤6∧p≤u.2.1∧u.2.1≤pl+1+41*(6-u.1)∧(∀q∈u.2.2.1,dH q)∧2*u.1+u.2.2.1.length≤12∧u.2.2.1.length≤u.2.2.2)
   (fun u=>u.1) (x.toNat,pl+1,[],0) ?_ ⟨by dsimp only;omega,by dsimp only;omega,by dsimp only;omega,fun q hq=>by simp at hq,by simp;omega,by simp⟩ ?_
  · (refine cR [21,0,16,17,18] (by omega) (by repeat' (first| (with_reducible first|exact C1|refine C2 ?_ ?_)| ((with_reducible refine C0 ?_);first|exact CC|exact CE (by omega) rfl| (exact CG (by(congr 2;omega)) rfl))| ((with_reducible refine D0 ?_);first|exact CA rfl|refine CJ ?_)|fail)) ⟨⟨by simp,by simp[sgL],_,rfl,bS (aV _ _)⟩,⟨by simp,by simp[sgL],_,rfl,aP (by repeat' (first| (with_reducible first|exact C3|refine C4 ?_ ?_)| ((with_reducible refine C0 ?_);exact CC)|fail))⟩,⟨by simp,by simp[sgL],_,rfl,aP (by repeat' (first| (with_reducible first|exact C3|refine C4 ?_ ?_)| ((with_reducible refine C0 ?_);first|exact CB rfl|exact CQ (by omega) rfl rfl (by rfl) rfl)|fail))⟩,⟨by simp,by simp[sgL],_,rfl,bP (aG iR _) rfl rfl⟩,⟨by simp,by simp[sgL],_,rfl,bP (aG rL _) rfl rfl⟩,trivial⟩ (by simp[sgL]))
  rintro⟨j,pj,rs,cr⟩ ⟨e1,e2,e3,e4,e5,e6⟩ KN hKN
  dsimp only at e1 e2 e3 e4 e5 e6
  have htr:rs.take rs.length=rs:=List.take_length
  by_cases hj:0<j
  ·refine aM.seq ?_
   repeat' (first| (with_reducible first| (refine hK _ _ _ ?_;clear hK K)| (refine hA ?_;clear hA hB A B)|refine Z2 ?_|refine Z4 (by omega) ?_)| (with_reducible first|refine Y1 fun K hK=> ?_|refine Y3 fun A B hA hB=> ?_)<;>(simp only[go_sem])|fail)
   refine aM.seq ?_
   repeat' (first| (with_reducible first| (refine hK _ _ _ ?_;clear hK K)|refine Z3 fun KB hKB=> ?_)| (first| (with_reducible refine Y1 fun K hK=> ?_)| (refine ID hl (by omega) (by omega) rfl (fun pq q hq1 hq2 hq3=> ?_)))<;>(simp only[go_sem])|fail)
   refine aM.apW 2 (β:=Nat×List Req×Nat)
    (fun b u=>en [(10,dP 7 (b+1)),(9,dI j),(8,dO 7 b u.2.1.length u.2.2),(7,dI k),(5,dP 3 17),(4,dP 3 16),(1,dI 6),(0,dP 2 0)])
    (fun b u=>hp [(0,rdO l u.1),(16,⟨3,1,[[.osl 0 0 0 0 0,.osl 0 0 0 0 0,.osl 0 0 0 0 0]]⟩),(17,⟨3,1,[[.isl (m.map eN),.isl (la.map aJ),.osl 1 18 0 k cp]]⟩),(18,⟨1,cp,ps.map jR⟩),(b,⟨7,u.2.2,u.2.1.map eB⟩),(b+1,⟨7,1,[eB q]⟩)])
    (fun u=>p≤u.1∧u.1≤pj+41∧(∀q∈u.2.1,dH q)∧u.2.1.length≤rs.length+1∧u.2.1.length≤u.2.2) (fun KJ hKJ=> ?_) ?_
   ·repeat' (first| (with_reducible first| (refine hK _ _ _ ?_;clear hK K)| (refine hA ?_;clear hA hB A B)| (refine hB ?_;clear hA hB A B)|refine Z1 ?_|refine Z2 ?_|refine Z6 (fun h=> ?_) fun h=> ?_|refine fun(cap:Nat) (hcap:_≤cap)=> ?_|refine fun(hcp:_≤cap)=> ?_)| (first| (with_reducible first|refine Y2 fun K hK=> ?_|refine Y3 fun A B hA hB=> ?_|refine Y6 (fun h=> ?_) fun h=> ?_)| (refine aX hl (by omega) (by omega) (by omega) rfl (fun x h1 h2=> ?_)))<;>(simp only[go_sem,htr])| ((with_reducible refine Y0 ?_);simp only[AQ.then,AQ.blk])|refine⟨by omega,?_⟩|fail)
    ·refine hKJ _ _ _ (pq+1,rs++[⟨q.id,3,q.addr,1,false,[],[]⟩],cap) (by(refine cR [55,33,0,16,17,18] (by omega) (by repeat' (first| (with_reducible first|exact C1|refine C2 ?_ ?_)| ((with_reducible refine C0 ?_);first| (exact CQ (by omega) rfl rfl (by first|rfl| (simp;done)) rfl)|exact CE (by omega) rfl)| ((with_reducible refine D0 ?_);first|exact CA rfl|refine CJ ?_)|fail)) ⟨⟨by simp,by simp[sgL],_,rfl,bS (aV _ _)⟩,⟨by simp,by simp[sgL],_,rfl,aP (by repeat' (first| (with_reducible first|exact C3|refine C4 ?_ ?_)| ((with_reducible refine C0 ?_);exact CC)|fail))⟩,⟨by simp,by simp[sgL],_,rfl,aP (by repeat' (first| (with_reducible first|exact C3|refine C4 ?_ ?_)| ((with_reducible refine C0 ?_);first|exact CB rfl|exact CQ (by omega) rfl rfl (by rfl) rfl)|fail))⟩,⟨by simp,by simp[sgL],_,rfl,bP (aG iR _) rfl rfl⟩,⟨by simp,by simp[sgL],_,rfl,uO (R:=rs.map eB) (r':=eB ⟨q.id,3,q.addr,1,false,[],[]⟩) (by simp) rfl (fun r hr=>(aG rL rs r hr).2) rfl (aH (bB rfl) (aH (bB rfl) (aH (bB rfl) (aH (bB rfl) (aH (bB rfl) (aH xG (aH xG eP)))))))⟩,⟨by simp,by simp[sgL],_,rfl,aP (by repeat' (first| (with_reducible first|exact C3|refine C4 ?_ ?_)| ((with_reducible refine C0 ?_);exact CB rfl)|refine C4 ?_ ?_|fail))⟩,trivial⟩ (by simp[sgL]))) ⟨by dsimp only;omega,by dsimp only;omega,fun q' hq'=> ?_,by simp,by simpa using hcap⟩
     rcases List.mem_append.1 hq' with hq'|hq'
     ·exact e4 q' hq'
     ·simp at hq';subst hq';exact MM hq3
    all_goals refine hKJ _ _ _ (_,rs,cr) (by(refine cR [28,33,0,16,17,18] (by omega) (by repeat' (first| (with_reducible first|exact C1|refine C2 ?_ ?_)| ((with_reducible refine C0 ?_);first|exact CQ (by omega) rfl rfl (by rfl) rfl|exact CE (by omega) rfl)| ((with_reducible refine D0 ?_);first|exact CA rfl|refine CJ ?_)|fail)) ⟨⟨by simp,by simp[sgL],_,rfl,bS (aV _ _)⟩,⟨by simp,by simp[sgL],_,rfl,aP (by repeat' (first| (with_reducible first|exact C3|refine C4 ?_ ?_)| ((with_reducible refine C0 ?_);exact CC)|fail))⟩,⟨by simp,by simp[sgL],_,rfl,aP (by repeat' (first| (with_reducible first|exact C3|refine C4 ?_ ?_)| ((with_reducible refine C0 ?_);first|exact CB rfl|exact CQ (by omega) rfl rfl (by rfl) rfl)|fail))⟩,⟨by simp,by simp[sgL],_,rfl,bP (aG iR _) rfl rfl⟩,⟨by simp,by simp[sgL],_,rfl,bP (aG rL _) rfl rfl⟩,⟨by simp,by simp[sgL],_,rfl,aP (by repeat' (first| (with_reducible first|exact C3|refine C4 ?_ ?_)| ((with_reducible refine C0 ?_);exact CB rfl)|refine C4 ?_ ?_|fail))⟩,trivial⟩ (by simp[sgL]))) ⟨by dsimp only;omega,by dsimp only;omega,e4,by dsimp only;omega,e6⟩
   rintro⟨pk,rk,ck⟩ ⟨d1,d2,d3,d4,d5⟩
   dsimp only at d1 d2 d3 d4 d5
   have htk:rk.take rk.length=rk:=List.take_length
   repeat' (first| (with_reducible first| (refine hK _ _ _ ?_;clear hK K)|refine fun(cap:Nat) (hcap:_≤cap)=> ?_|refine fun(hcp:_≤cap)=> ?_)| (with_reducible refine Y2 fun K hK=> ?_)<;>(simp only[go_sem,htk];try simp (disch:=omega) only[Iw])| ((with_reducible refine Y0 ?_);simp only[AQ.then,AQ.blk])|refine⟨by omega,?_⟩| (with_reducible refine hKB _ _ _ ?_)|fail)
   refine hKN _ _ _ (j-1,pk,rk++[q],cap) (by omega) (by(refine cR [40,0,16,17,18] (by omega) (by repeat' (first| (with_reducible first|exact C1|refine C2 ?_ ?_)| ((with_reducible refine C0 ?_);first| (exact CQ (by omega) rfl rfl (by first|rfl| (simp;done)) rfl)|exact CE (by omega) rfl| (exact CG (by(congr 2;omega)) rfl))| ((with_reducible refine D0 ?_);first|exact CA rfl|refine CJ ?_)|fail)) ⟨⟨by simp,by simp[sgL],_,rfl,bS (aV _ _)⟩,⟨by simp,by simp[sgL],_,rfl,aP (by repeat' (first| (with_reducible first|exact C3|refine C4 ?_ ?_)| ((with_reducible refine C0 ?_);exact CC)|fail))⟩,⟨by simp,by simp[sgL],_,rfl,aP (by repeat' (first| (with_reducible first|exact C3|refine C4 ?_ ?_)| ((with_reducible refine C0 ?_);first|exact CB rfl|exact CQ (by omega) rfl rfl (by rfl) rfl)|fail))⟩,⟨by simp,by simp[sgL],_,rfl,bP (aG iR _) rfl rfl⟩,⟨by simp,by simp[sgL],_,rfl,bP (aG rL _) rfl rfl⟩,trivial⟩ (by simp[sgL]))) ⟨by dsimp only;omega,by dsimp only;omega,by dsimp only;omega,fun q' hq'=> ?_,by simp;omega,by simpa using hcap⟩ (by dsimp only;omega)
   rcases List.mem_append.1 hq' with hq'|hq'
   ·exact d3 q' hq'
   ·simp at hq';subst hq';exact hq3
  ·have hmin:(rs.length:Int)≤12:=by omega
   repeat' (first| (with_reducible first| (refine hK _ _ _ ?_;clear hK K)| (refine hB ?_;clear hA hB A B)|refine Z1 ?_|refine Z5 (by omega) ?_|refine fun(cap:Nat) (hcap:_≤cap)=> ?_|refine fun(hcp:_≤cap)=> ?_|refine hKZ _ _ _ ?_)| (with_reducible first|refine Y2 fun K hK=> ?_|refine Y3 fun A B hA hB=> ?_)<;>(simp only[go_sem,htp];try simp (disch:=omega) only[Iw])| ((with_reducible refine Y9 ?_);try simp only[AQ.then,AQ.blk,reduceIte,Nat.reduceEqDiff])| ((with_reducible refine Y0 ?_);simp only[AQ.then,AQ.blk])|refine⟨by omega,?_⟩| (with_reducible refine hKB _ _ _ ?_)|fail)
   refine hKM _ _ _ (k+1,pj,ps++[rs],cap) (by omega) (by(refine cR [16,17,39,0] (by omega) (by repeat' (first| (with_reducible first|exact C1|refine C2 ?_ ?_)| ((with_reducible refine C0 ?_);exact CE (by omega) rfl)| ((with_reducible refine D0 ?_);first|exact CA rfl|refine CJ ?_)|fail)) ⟨⟨by simp,by simp[sgL],_,rfl,bS (aV _ _)⟩,⟨by simp,by simp[sgL],_,rfl,aP (by repeat' (first| (with_reducible first|exact C3|refine C4 ?_ ?_)| ((with_reducible refine C0 ?_);exact CC)|fail))⟩,⟨by simp,by simp[sgL],_,rfl,aP (by repeat' (first| (with_reducible first|exact C3|refine C4 ?_ ?_)| ((with_reducible refine C0 ?_);first|exact CB rfl|exact CQ (by omega) rfl rfl (by rfl) rfl)|fail))⟩,⟨by simp,by simp[sgL],_,rfl,uO (R:=ps.map jR) (r':=jR rs) (by simp) rfl (fun r hr=>(aG iR ps r hr).2) rfl (aH (bW rL rfl (by rw[if_neg (by omega)];omega) (by omega) (by simp)) eP)⟩,trivial⟩ (by simp[sgL]))) ⟨by dsimp only;omega,by dsimp only;omega,by dsimp only;omega,by simp;omega,fun pr hpr=> ?_,by dsimp only;omega⟩ (by dsimp only;omega)
   rcases List.mem_append.1 hpr with hpr|hpr
   ·exact g5 pr hpr
   ·simp at hpr;subst hpr;exact⟨by omega,e4⟩
 ·repeat' (first| (with_reducible first| (refine hK _ _ _ ?_;clear hK K)| (refine hB ?_;clear hA hB A B)|refine Z1 ?_|refine Z5 (by omega) ?_|refine hKY _ _ _ ?_)| (with_reducible first|refine Y2 fun K hK=> ?_|refine Y3 fun A B hA hB=> ?_)<;>(simp only[go_sem])| ((with_reducible first|refine Y8 ?_|refine Y9 ?_);try simp only[AQ.then,AQ.blk,reduceIte,Nat.reduceEqDiff])|fail)
  have hk3:k=3:=by omega
  subst hk3
  refine lA hQ (dA (cU ⟨m,la,ps⟩)) _ _ rfl (aH (bB rfl) (aH (bB rfl) (aH (bW iR rfl (by dsimp only;omega) (by dsimp only;omega) (by decide)) eP))) rfl (aV _ _) ⟨pl,⟨m,la,ps⟩,rfl,by omega,by omega,rfl,?_⟩
  have hpo: ∀pr∈ps,mV pr:=fun pr hpr=>by
   obtain⟨q1,q2⟩:=g5 pr hpr
   refine⟨by omega,fun hc=> ?_⟩
   obtain⟨x,hx,hx2⟩:=cH.1 hc
   exact of_decide_eq_true hx2 (q2 x hx)
  refine⟨⟨hmok,by dsimp only;omega,f5,by dsimp only;omega,fun hc=> ?_⟩,⟨by have:=hmok.1;dsimp only;omega,by dsimp only;omega,by dsimp only;omega,fun pr hpr=>by have:=(g5 pr hpr).1;omega,fun pr hpr q hq=> ?_⟩⟩
  ·obtain⟨x,hx,hx2⟩:=cH.1 hc
   exact of_decide_eq_true hx2 (hpo x hx)
  ·exact L4 ((g5 pr hpr).2 q hq)
theorem IG {l:List Int} {p i:Nat} (hl:kZ l) (hp50:p+1000<2^50) (hi:i<nx) (ho:H i=some (rdO l p)) (h: ∀(p':Nat) (c:Cfg),p≤p'→p'≤p+1000→(aQ c∧jO c)→K (dA (cU c)) (H.set i (rdO l p')) nx):
 aB Tryz.prog lJ [dP 2 i,dI 6] H nx K:=
 (zM l p hl hp50).OU i rfl (gW ⟨DG (by omega) rfl,aE rfl,trivial⟩) hi ho (aV l p) fun r o' ⟨p',c,h1,h2,h3,h4,h5⟩=>by
  subst h1;subst h4;exact EW (A:=fun d=>K d (H.set i (rdO l p')) nx) rfl (h p' c h2 h3 h5)
end
end Go.Proofs.YtegiblhkjfiooaaGreat
end
section
namespace Go.Proofs.YtegiblhkjfiooaaGreat
open Go Go.AM
set_option maxRecDepth 100000
set_option maxHeartbeats 4000000
theorem akB {i0 i1 i2 i3 wc hc ac tc:Nat} {s:TSt}:(oSt i0 i1 i2 i3 wc hc ac tc s).drop 6=[]:=rfl
theorem WQ {s:TSt}:(eSt s).drop 6=[]:=rfl
attribute [go_sem] akB
section
variable {H : aA} {nx : Nat} {K : D → aA → Nat → Prop}
theorem yB (l:List Int):aB Tryz.prog kN [dS (l.map eU8)] (hp []) 0 fun r H' n'=>n'=1∧H'=hp [(0,rdO (l.take 2000) 0)]∧r=dP 2 0:=by
 refine DY rfl fun Q hQ=> ?_
 unfold oT
 repeat' (first| (with_reducible first| (refine hK _ _ _ ?_;clear hK K)| (refine hA ?_;clear hA hB A B)| (refine hB ?_;clear hA hB A B)|refine Z1 ?_|refine Z2 ?_|refine Z6 (fun h=> ?_) fun h=> ?_)| (with_reducible first|refine Y2 fun K hK=> ?_|refine Y3 fun A B hA hB=> ?_)<;>(simp only[go_sem])| ((with_reducible refine Y8 ?_);try simp only[AQ.then,AQ.blk,reduceIte,Nat.reduceEqDiff])|refine⟨by omega,?_⟩|fail)
 ·have e:l.take 2000=(l.take 2000).take 2000:=by rw[List.take_take];simp
  (refine hQ _ _ _ _ _ 1 (dP 2 0) (hp [(0,rdO (l.take 2000) 0)]) _ _ (.inr rfl) rfl (fU [9] (by omega) (by repeat' (first| ((with_reducible refine C0 ?_);exact CE (by omega) rfl)| ((with_reducible refine D0 ?_);refine CJ ?_)|fail)) ⟨⟨by simp,by simp[sgL],_,rfl,bS (aV _ _)⟩,trivial⟩ (by simp[sgL])) ?_)
  exact⟨rfl,rfl,rfl⟩
 · (refine hQ _ _ _ _ _ 1 (dP 2 0) (hp [(0,rdO l 0)]) _ _ (.inr rfl) rfl (fU [6] (by omega) (by repeat' (first| ((with_reducible refine C0 ?_);exact CE (by omega) rfl)| ((with_reducible refine D0 ?_);refine CJ ?_)|fail)) ⟨⟨by simp,by simp[sgL],_,rfl,bS (aV _ _)⟩,trivial⟩ (by simp[sgL])) ?_)
   exact⟨rfl,by rw[List.take_of_length_le (by omega)],rfl⟩
theorem F2 {l:List Int} (h:K (dP 2 nx) (H.set nx (rdO (l.take 2000) 0)) (nx+1)):aB Tryz.prog kN [dS (l.map eU8)] H nx K:=by
 refine(yB l).AF (l0:=[]) [] rfl ⟨aE rfl,trivial⟩ trivial (by simp) (by simp) (by simp) fun r H' n' _ ⟨q1,q2,q3⟩=> ?_
 subst q1;subst q2;subst q3
 have e1:back (tau 0 nx (nth [])) (hp [(0,rdO (l.take 2000) 0)]) 1 H=H.set nx (rdO (l.take 2000) 0):=by
  simp only[back,hp,aA.set,tau,Nat.not_lt_zero,if_true,if_false,Nat.sub_zero,Nat.add_zero,Option.map_some,rF (aV _ _),aA.eL]
 rw[←e1] at h
 exact h
end
end Go.Proofs.YtegiblhkjfiooaaGreat
end
section
namespace Go.Proofs.YtegiblhkjfiooaaGreat
open Go Go.AM
set_option maxRecDepth 100000
set_option maxHeartbeats 8000000
section
variable {H : aA} {nx : Nat} {K : D → aA → Nat → Prop}
theorem aTK {l:List Int} {p i:Nat} {n:Int} (hl:kZ l) (hp50:p<2^50) (hn:0<n∧n<2^31) (hi:i<nx) (ho:H i=some (rdO l p)) (h: ∀x:Nat,(x:Int)<n→K (dI x) (H.set i (rdO l (p+1))) nx):
 aB Tryz.prog aD [dP 2 i,dI n] H nx K:=
 aX hl hp50 (by omega) hi ho fun x h1 h2=>by
  obtain⟨k,rfl⟩: ∃k:Nat,x=k:=⟨x.toNat,by omega⟩
  exact h k (by omega)
end
end Go.Proofs.YtegiblhkjfiooaaGreat
end
section
namespace Go.Proofs.YtegiblhkjfiooaaGreat
open Go Go.AM
set_option maxRecDepth 100000
set_option maxHeartbeats 8000000
section
variable {H : aA} {nx : Nat} {K : D → aA → Nat → Prop}
theorem aQ2:cJ Tryz.prog aNG Tryz.f95 aNR aOM:=cJ.mk Tryz.func95 (by kernel_rfl) aQ9
def aU4 (b0 b1 b2 b3 b4 b5 c0 c1 c2 c3 c4 c5:Nat) (s:TSt):List D1:=[.osl 1 b0 0 s.words.length c0,.osl 1 b1 0 s.holds.length c1,.osl 1 b2 0 s.asked.length c2,.osl 5 b3 0 s.wait.length c3,.osl 5 b4 0 s.done.length c4,.osl 5 b5 0 s.told.length c5]
def aUO (H:aA) (b0 b1 b2 b3 b4 b5 c0 c1 c2 c3 c4 c5:Nat) (s:TSt):Prop:=Own aJ 1 H b0 c0 s.words∧Own aJ 1 H b1 c1 s.holds∧Own aJ 1 H b2 c2 s.asked∧Own aS 5 H b3 c3 s.wait∧Own aS 5 H b4 c4 s.done∧Own aS 5 H b5 c5 s.told
theorem aUK {H:aA} {e:Env} {t1 n1 id1 m1 t2 n2 id2 m2 t3:Nat} {cs1 cs2:List D1} {d:DV} (he1:e t1= .one (.c (.ptr n1 id1 0 0))) (ho1:H id1=some ⟨n1,m1,[cs1]⟩) (hl1:cs1.length=n1) (he2:e t2= .one (.c (.ptr n2 id2 0 0))) (ho2:H id2=some ⟨n2,m2,[cs2]⟩) (hl2:cs2.length=n2) (he3:e t3= .one d):
 yT H e [.cell t1 n1 true,.cell t2 n2 true,.tm t3]=some (.tup [.agg cs1,.agg cs2,d]):=by
 subst hl1;subst hl2
 simp[yT,VP,he1,he2,he3,tT,ho1,ho2,mkV,asI]
theorem aRH {l:List Int} {p i:Nat} {n:Int} (hl:kZ l) (hp50:p+10000<2^50) (hn:0≤n∧n≤1000) (hi:i<nx) (ho:H i=some (rdO l p))
 (h: ∀H' nx' p' (c:Cfg) (es:List Ev) b0 b1 b2 b3 b4 b5 c0 c1 c2 c3 c4 c5 be ce,aQ c→jO c→F9 c st0 es→(es.length=0∨(es.length:Int)<n)→p≤p'→p'≤p+10000→H' i=some (rdO l p')→nx≤be→be<b2→b2<b1→b1<b0→b0<b3→b3<b4→b4<b5→b5<nx'→
  aUO H' b0 b1 b2 b3 b4 b5 c0 c1 c2 c3 c4 c5 (runM c st0 es)→Own eEv 3 H' be ce es→(∀id,id<nx→id≠i→H' id=H id)→
  K (.tup [.agg (cU c),.agg (aU4 b0 b1 b2 b3 b4 b5 c0 c1 c2 c3 c4 c5 (runM c st0 es)),.c (.osl 3 be 0 es.length ce)]) H' nx'):
 aB Tryz.prog aNG [dP 2 i,dI n] H nx K:=by
 refine aQ2 rfl fun Q hQ=> ?_
 unfold aNR
 generalize hs0:st0=s0 at h
 have htn: ∀{H:aA} {nx:Nat} {K:D→aA→Nat→Prop},(∀hc,6≤hc→K (dA (oSt nx (nx+1) (nx+2) (nx+3) 64 hc 3 0 s0)) ((((H.set nx ⟨1,64,s0.words.map aJ⟩).set (nx+1) ⟨1,hc,s0.holds.map aJ⟩).set (nx+2) ⟨1,3,s0.asked.map aJ⟩).set (nx+3) ⟨5,0,s0.told.map aS⟩) (nx+4))→aB Tryz.prog c7 [] H nx K:=fun h=>by subst hs0;exact aO9 h
 have hst0: ∀c,BA c s0:=fun c=>by subst hs0;exact arF c
 have htold:s0.told=[]:=by subst hs0;rfl
 clear hs0
 have hA:bQ nx [i]:=AM.apart (by simp) (by simp;omega)
 simp only[bQ,eZ] at hA
 have gi: ∀(G:aA) (o1 o2:bA),G i=some (rdO l p)→((G.set nx o1).set (nx+1) o2) i=some (rdO l p):=fun G o1 o2 h=>by rw[aA.aC (by omega),aA.aC (by omega)];exact h
 repeat' (first| (with_reducible first| (refine hK _ _ _ ?_;clear hK K)|refine Z1 ?_|refine Z3 fun KB hKB=> ?_)| (first| (with_reducible refine Y2 fun K hK=> ?_)| (refine IG hl (by omega) (by omega) (gi _ _ _ ho) (fun pb c hb1 hb2 ⟨hbok,hbfit⟩=> ?_))| (refine htn fun hc hhc=> ?_)| (refine aX (p:=pb) hl (by omega) (by omega) (by omega) (by simp only[aA.set,hA,if_false,if_true,show ∀k,(i=nx+k)=False from hA.1.1]) (fun x h1 h2=> ?_)))<;>(simp only[go_sem,Nat.add_assoc,Nat.left_eq_add,Nat.add_eq_left,hA])|fail)
 (have hKX:=hKB;clear hKB)
 refine aM.aTJ fun G0 hG0=> ?_
 have q0:G0 i=some (rdO l (pb+1)):=(by rw[hG0];simp only[aA.set,hA,Nat.add_left_cancel_iff,Nat.reduceEqDiff,Nat.left_eq_add,Nat.add_eq_left,if_true,if_false])
 have q1:G0 nx=some ⟨3,1,[[.osl 0 0 0 0 0,.osl 0 0 0 0 0,.osl 0 0 0 0 0]]⟩:=(by rw[hG0];simp only[aA.set,hA,Nat.add_left_cancel_iff,Nat.reduceEqDiff,Nat.left_eq_add,Nat.add_eq_left,if_true,if_false])
 have q2:G0 (nx+1)=some ⟨6,1,[[.osl 0 0 0 0 0,.osl 0 0 0 0 0,.osl 0 0 0 0 0,.osl 0 0 0 0 0,.osl 0 0 0 0 0,.osl 0 0 0 0 0]]⟩:=(by rw[hG0];simp only[aA.set,hA,Nat.add_left_cancel_iff,Nat.reduceEqDiff,Nat.left_eq_add,Nat.add_eq_left,if_true,if_false])
 have q3:G0 (nx+5)=some ⟨3,1,[cU c]⟩:=(by rw[hG0];simp only[aA.set,hA,Nat.add_left_cancel_iff,Nat.reduceEqDiff,Nat.left_eq_add,Nat.add_eq_left,if_true,if_false])
 have q4:G0 (nx+8)=some ⟨6,1,[oSt (nx+10) (nx+11) (nx+12) (nx+13) 64 hc 3 0 s0]⟩:=(by rw[hG0];simp only[aA.set,hA,Nat.add_left_cancel_iff,Nat.reduceEqDiff,Nat.left_eq_add,Nat.add_eq_left,if_true,if_false])
 have q5:G0 (nx+10)=some ⟨1,64,s0.words.map aJ⟩:=(by rw[hG0];simp only[aA.set,hA,Nat.add_left_cancel_iff,Nat.reduceEqDiff,Nat.left_eq_add,Nat.add_eq_left,if_true,if_false])
 have q6:G0 (nx+11)=some ⟨1,hc,s0.holds.map aJ⟩:=(by rw[hG0];simp only[aA.set,hA,Nat.add_left_cancel_iff,Nat.reduceEqDiff,Nat.left_eq_add,Nat.add_eq_left,if_true,if_false])
 have q7:G0 (nx+12)=some ⟨1,3,s0.asked.map aJ⟩:=(by rw[hG0];simp only[aA.set,hA,Nat.add_left_cancel_iff,Nat.reduceEqDiff,Nat.left_eq_add,Nat.add_eq_left,if_true,if_false])
 have aEM:G0 (nx+13)=some ⟨5,0,s0.told.map aS⟩:=(by rw[hG0];simp only[aA.set,hA,Nat.add_left_cancel_iff,Nat.reduceEqDiff,Nat.left_eq_add,Nat.add_eq_left,if_true,if_false])
 have a7:G0 (nx+14)=some ⟨3,0,[]⟩:=(by rw[hG0];simp only[aA.set,hA,Nat.add_left_cancel_iff,Nat.reduceEqDiff,Nat.left_eq_add,Nat.add_eq_left,if_true,if_false])
 have qf: ∀id,id<nx→id≠i→G0 id=H id:=fun id h1 h2=>by
  rw[hG0];simp only[aA.set,h2,show ∀k,id≠nx+k from fun k=>by omega,show ¬id=nx by omega,if_false]
 clear hG0
 refine aM.gP (β:=Nat×Nat×List Ev×(Nat×Nat)×(Nat×Nat×Nat))
  (fun u=>en [(10,dI u.1),(9,.one (.c (.osl 3 u.2.2.2.1.1 0 u.2.2.1.length u.2.2.2.1.2))),(8,dP 6 (nx+8)),(7,dP 3 (nx+5)),(5,dP 6 (nx+1)),(4,dP 3 nx),(0,dP 2 i)])
  (fun u H1 nx1=>((u.1+u.2.2.1.length≤x.toNat∧u.2.1+5*u.1≤pb+1+5*x.toNat∧p≤u.2.1)∧F9 c s0 u.2.2.1∧(runM c s0 u.2.2.1).told.length≤u.2.2.2.2.2.1∧u.2.2.2.2.2.1≤u.2.2.2.2.2.2∧(nx+13≤u.2.2.2.2.1∧u.2.2.2.2.1<nx1)∧(nx+13≤u.2.2.2.1.1∧u.2.2.2.1.1<nx1)∧u.2.2.2.2.1≠u.2.2.2.1.1)∧
   (H1 i=some (rdO l u.2.1)∧H1 nx=some ⟨3,1,[[.osl 0 0 0 0 0,.osl 0 0 0 0 0,.osl 0 0 0 0 0]]⟩∧H1 (nx+1)=some ⟨6,1,[[.osl 0 0 0 0 0,.osl 0 0 0 0 0,.osl 0 0 0 0 0,.osl 0 0 0 0 0,.osl 0 0 0 0 0,.osl 0 0 0 0 0]]⟩∧H1 (nx+5)=some ⟨3,1,[cU c]⟩∧H1 (nx+8)=some ⟨6,1,[oSt (nx+10) (nx+11) (nx+12) u.2.2.2.2.1 64 hc 3 u.2.2.2.2.2.1 (runM c s0 u.2.2.1)]⟩∧
   H1 (nx+10)=some ⟨1,64,(runM c s0 u.2.2.1).words.map aJ⟩∧H1 (nx+11)=some ⟨1,hc,(runM c s0 u.2.2.1).holds.map aJ⟩∧H1 (nx+12)=some ⟨1,3,(runM c s0 u.2.2.1).asked.map aJ⟩∧H1 u.2.2.2.2.1=some ⟨5,u.2.2.2.2.2.2,(runM c s0 u.2.2.1).told.map aS⟩)∧Own eEv 3 H1 u.2.2.2.1.1 u.2.2.2.1.2 u.2.2.1∧ ∀id,id<nx→id≠i→H1 id=H id)
  (fun u=>u.1) (x.toNat,pb+1,[],(nx+14,0),(nx+13,0,0)) ⟨noF,_,by repeat' (first| (with_reducible first|exact C1|refine C2 ?_ ?_)| ((with_reducible refine C0 ?_);first|exact CC|exact CE (by omega) rfl| (exact CG (by(congr 2;omega)) rfl))| ((with_reducible refine D0 ?_);refine CJ ?_)|fail),aK,⟨by simp;omega,pV,by simp[runM,htold],by simp,by dsimp only;omega,by dsimp only;omega,by dsimp only;omega⟩,⟨q0,q1,q2,q3,q4,q5,q6,q7,aEM⟩,⟨0,a7,Nat.le_refl _,Nat.le_refl _⟩,qf⟩ ?_
 clear q0 q1 q2 q3 q4 q5 q6 q7 aEM a7 qf
 rintro⟨j,pj,es,⟨be,ce⟩,⟨b,tc,tm⟩⟩ H1 nx1 hnx1 ⟨⟨⟨f1,f2,f3⟩,f4,f5,f6,⟨f7,f8⟩,⟨f9,f10⟩,f11⟩,⟨q0,q1,q2,q3,q4,q5,q6,q7,aEM⟩,⟨me,a7,e1,e2⟩,qf⟩ KL hKL
 dsimp only at f1 f2 f3 f4 f5 f6 f7 f8 f9 f10 f11 q0 q1 q2 q3 q4 q5 q6 q7 aEM a7 e1 e2
 have hs:=azI hbok (hst0 c) f4
 have hpe:=fun e=>aTH (e:=e) f4
 have hre:=fun e=>azF (c:=c) (s:=s0) (l:=es) (e:=e)
 have hlen:=hs.lens hbok
 have hA1:bQ nx1 [i,nx,nx+1,nx+5,nx+8,nx+10,nx+11,nx+12,b,be]:=AM.apart (by simp;omega) (by simp;omega)
 simp only[bQ,eZ] at hA1
 have hte:es.take es.length=es:=List.take_length
 by_cases hj:0<j
 ·generalize hrun:runM c s0 es=s at*
  repeat' (first| (with_reducible first| (refine hK _ _ _ ?_;clear hK K)| (refine hA ?_;clear hA hB A B)|refine Z1 ?_|refine Z2 ?_|refine Z3 fun KB hKB=> ?_|refine Z4 (by omega) ?_)| (first| (with_reducible first|refine Y2 fun K hK=> ?_|refine Y3 fun A B hA hB=> ?_)| (refine aPC (p:=pj) (j:=nx+12) (am:=3) hl (by omega) hs.JI (by omega) (by omega) (by omega) (by omega) (by omega) q0 q7 (fun pe e he1 he2=> ?_)))<;>(simp only[go_sem,Nat.add_assoc,q0,q1,q2,q3,q4,q5,q6,q7,aEM,a7,hA1])|fail)
  generalize hG:((H1.set i (rdO l pe)).set (nx+12) ⟨1,3,s.asked.map aJ⟩).set (nx1+6) ⟨3,1,[eEv e]⟩=G
  have r0:G i=some (rdO l pe):=(by rw[←hG];simp only[aA.set,aA.del,Nat.add_assoc,Nat.reduceAdd,Nat.add_left_cancel_iff,Nat.reduceEqDiff,Nat.left_eq_add,Nat.add_eq_left,if_true,if_false,hA1])
  have r1:G nx=some ⟨3,1,[[.osl 0 0 0 0 0,.osl 0 0 0 0 0,.osl 0 0 0 0 0]]⟩:=(by rw[←hG];simp only[aA.set,aA.del,Nat.add_assoc,Nat.reduceAdd,Nat.add_left_cancel_iff,Nat.reduceEqDiff,Nat.left_eq_add,Nat.add_eq_left,if_true,if_false,hA1,q1])
  have r2:G (nx+1)=some ⟨6,1,[[.osl 0 0 0 0 0,.osl 0 0 0 0 0,.osl 0 0 0 0 0,.osl 0 0 0 0 0,.osl 0 0 0 0 0,.osl 0 0 0 0 0]]⟩:=(by rw[←hG];simp only[aA.set,aA.del,Nat.add_assoc,Nat.reduceAdd,Nat.add_left_cancel_iff,Nat.reduceEqDiff,Nat.left_eq_add,Nat.add_eq_left,if_true,if_false,hA1,q2])
  have r3:G (nx+5)=some ⟨3,1,[cU c]⟩:=(by rw[←hG];simp only[aA.set,aA.del,Nat.add_assoc,Nat.reduceAdd,Nat.add_left_cancel_iff,Nat.reduceEqDiff,Nat.left_eq_add,Nat.add_eq_left,if_true,if_false,hA1,q3])
  have r4:G (nx+8)=some ⟨6,1,[oSt (nx+10) (nx+11) (nx+12) b 64 hc 3 tc s]⟩:=(by rw[←hG];simp only[aA.set,aA.del,Nat.add_assoc,Nat.reduceAdd,Nat.add_left_cancel_iff,Nat.reduceEqDiff,Nat.left_eq_add,Nat.add_eq_left,if_true,if_false,hA1,q4])
  have r5:G (nx+10)=some ⟨1,64,s.words.map aJ⟩:=(by rw[←hG];simp only[aA.set,aA.del,Nat.add_assoc,Nat.reduceAdd,Nat.add_left_cancel_iff,Nat.reduceEqDiff,Nat.left_eq_add,Nat.add_eq_left,if_true,if_false,hA1,q5])
  have aET:G (nx+11)=some ⟨1,hc,s.holds.map aJ⟩:=(by rw[←hG];simp only[aA.set,aA.del,Nat.add_assoc,Nat.reduceAdd,Nat.add_left_cancel_iff,Nat.reduceEqDiff,Nat.left_eq_add,Nat.add_eq_left,if_true,if_false,hA1,q6])
  have aU5:G (nx+12)=some ⟨1,3,s.asked.map aJ⟩:=(by rw[←hG];simp only[aA.set,aA.del,Nat.add_assoc,Nat.reduceAdd,Nat.add_left_cancel_iff,Nat.reduceEqDiff,Nat.left_eq_add,Nat.add_eq_left,if_true,if_false,hA1])
  have aU6:G b=some ⟨5,tm,s.told.map aS⟩:=(by rw[←hG];simp only[aA.set,aA.del,Nat.add_assoc,Nat.reduceAdd,Nat.add_left_cancel_iff,Nat.reduceEqDiff,Nat.left_eq_add,Nat.add_eq_left,if_true,if_false,hA1,aEM])
  have a8:G be=some ⟨3,me,es.map eEv⟩:=(by rw[←hG];simp only[aA.set,aA.del,Nat.add_assoc,Nat.reduceAdd,Nat.add_left_cancel_iff,Nat.reduceEqDiff,Nat.left_eq_add,Nat.add_eq_left,if_true,if_false,hA1,a7])
  have r10:G (nx1+6)=some ⟨3,1,[eEv e]⟩:=(by rw[←hG];simp only[aA.set,aA.del,Nat.add_assoc,Nat.reduceAdd,Nat.add_left_cancel_iff,Nat.reduceEqDiff,Nat.left_eq_add,Nat.add_eq_left,if_true,if_false,hA1])
  have rf: ∀id,id<nx→id≠i→G id=H id:=fun id h1 h2=>by
   rw[←hG,aA.aC (by omega),aA.aC (by omega),aA.aC h2];exact qf id h1 h2
  clear hG q0 q1 q2 q3 q4 q5 q6 q7 aEM a7 qf
  refine aO4 hbok hs (by omega) (by omega) (by omega) f5 f6 (by omega) (by omega) (by omega) (by omega) (by simp;omega) r5 aET aU5 aU6 (fun hw tc' tm' ht1 ht2=> ?_) (fun hw=> ?_)
  ·have hst:=hre e
   generalize hG:(((((G.set (nx+10) ⟨1,64,(lS c s e).words.map aJ⟩).set (nx+11) ⟨1,hc,(lS c s e).holds.map aJ⟩).set (nx+12) ⟨1,3,(lS c s e).asked.map aJ⟩).del b).set (nx1+18) ⟨5,tm',(lS c s e).told.map aS⟩)=aID
   have p0:aID i=some (rdO l pe):=(by rw[←hG];simp only[aA.set,aA.del,Nat.add_assoc,Nat.reduceAdd,Nat.add_left_cancel_iff,Nat.reduceEqDiff,Nat.left_eq_add,Nat.add_eq_left,if_true,if_false,hA1,r0])
   have p1:aID nx=some ⟨3,1,[[.osl 0 0 0 0 0,.osl 0 0 0 0 0,.osl 0 0 0 0 0]]⟩:=(by rw[←hG];simp only[aA.set,aA.del,Nat.add_assoc,Nat.reduceAdd,Nat.add_left_cancel_iff,Nat.reduceEqDiff,Nat.left_eq_add,Nat.add_eq_left,if_true,if_false,hA1,r1])
   have p2:aID (nx+1)=some ⟨6,1,[[.osl 0 0 0 0 0,.osl 0 0 0 0 0,.osl 0 0 0 0 0,.osl 0 0 0 0 0,.osl 0 0 0 0 0,.osl 0 0 0 0 0]]⟩:=(by rw[←hG];simp only[aA.set,aA.del,Nat.add_assoc,Nat.reduceAdd,Nat.add_left_cancel_iff,Nat.reduceEqDiff,Nat.left_eq_add,Nat.add_eq_left,if_true,if_false,hA1,r2])
   have p3:aID (nx+5)=some ⟨3,1,[cU c]⟩:=(by rw[←hG];simp only[aA.set,aA.del,Nat.add_assoc,Nat.reduceAdd,Nat.add_left_cancel_iff,Nat.reduceEqDiff,Nat.left_eq_add,Nat.add_eq_left,if_true,if_false,hA1,r3])
   have p4:aID (nx+8)=some ⟨6,1,[oSt (nx+10) (nx+11) (nx+12) b 64 hc 3 tc s]⟩:=(by rw[←hG];simp only[aA.set,aA.del,Nat.add_assoc,Nat.reduceAdd,Nat.add_left_cancel_iff,Nat.reduceEqDiff,Nat.left_eq_add,Nat.add_eq_left,if_true,if_false,hA1,r4])
   have p5:aID (nx+10)=some ⟨1,64,(lS c s e).words.map aJ⟩:=(by rw[←hG];simp only[aA.set,aA.del,Nat.add_assoc,Nat.reduceAdd,Nat.add_left_cancel_iff,Nat.reduceEqDiff,Nat.left_eq_add,Nat.add_eq_left,if_true,if_false,hA1])
   have p6:aID (nx+11)=some ⟨1,hc,(lS c s e).holds.map aJ⟩:=(by rw[←hG];simp only[aA.set,aA.del,Nat.add_assoc,Nat.reduceAdd,Nat.add_left_cancel_iff,Nat.reduceEqDiff,Nat.left_eq_add,Nat.add_eq_left,if_true,if_false,hA1])
   have p7:aID (nx+12)=some ⟨1,3,(lS c s e).asked.map aJ⟩:=(by rw[←hG];simp only[aA.set,aA.del,Nat.add_assoc,Nat.reduceAdd,Nat.add_left_cancel_iff,Nat.reduceEqDiff,Nat.left_eq_add,Nat.add_eq_left,if_true,if_false,hA1])
   have p8:aID (nx1+18)=some ⟨5,tm',(lS c s e).told.map aS⟩:=(by rw[←hG];simp only[aA.set,aA.del,Nat.add_assoc,Nat.reduceAdd,Nat.add_left_cancel_iff,Nat.reduceEqDiff,Nat.left_eq_add,Nat.add_eq_left,if_true,if_false,hA1])
   have aHL:aID be=some ⟨3,me,es.map eEv⟩:=(by rw[←hG];simp only[aA.set,aA.del,Nat.add_assoc,Nat.reduceAdd,Nat.add_left_cancel_iff,Nat.reduceEqDiff,Nat.left_eq_add,Nat.add_eq_left,if_true,if_false,hA1,a8])
   have p10:aID (nx1+6)=some ⟨3,1,[eEv e]⟩:=(by rw[←hG];simp only[aA.set,aA.del,Nat.add_assoc,Nat.reduceAdd,Nat.add_left_cancel_iff,Nat.reduceEqDiff,Nat.left_eq_add,Nat.add_eq_left,if_true,if_false,hA1,r10])
   have pf: ∀id,id<nx→id≠i→aID id=H id:=fun id h1 h2=>by
    rw[←hG,aA.aC (by omega),aA.jG (by omega),aA.aC (by omega),aA.aC (by omega),aA.aC (by omega)];exact rf id h1 h2
   clear hG r0 r1 r2 r3 r4 r5 aET aU5 aU6 a8 r10 rf
   (try simp only[go_sem,Nat.add_assoc,Nat.left_eq_add,Nat.add_eq_left,p0,p1,p2,p3,p4,p5,p6,p7,p8,aHL,p10,hA1,hte,akB]);repeat' (first| (with_reducible first| (refine hK _ _ _ ?_;clear hK K)| (refine hA ?_;clear hA hB A B)|refine Z1 ?_|refine fun(cap:Nat) (hcap:_≤cap)=> ?_|refine fun(hcp:_≤cap)=> ?_)| (with_reducible first|refine Y2 fun K hK=> ?_|refine Y3 fun A B hA hB=> ?_)<;>(simp only[go_sem,Nat.add_assoc,Nat.left_eq_add,Nat.add_eq_left,p0,p1,p2,p3,p4,p5,p6,p7,p8,aHL,p10,hA1,hte,akB];try simp (disch:=omega) only[Iw])| ((with_reducible refine Y0 ?_);simp only[AQ.then,AQ.blk])|refine⟨by omega,?_⟩| (with_reducible refine hKB _ _ _ ?_)|fail)
   exact hKL _ _ _ (j-1,pe,es++[e],(nx1+23,cap),(nx1+18,tc',tm')) noF _ (by omega) (by dsimp only;omega) (by dsimp only;rw[List.length_append,List.length_singleton];repeat' (first| (with_reducible first|exact C1|refine C2 ?_ ?_)| ((with_reducible refine C0 ?_);first|exact CQ (by omega) rfl rfl (by rfl) rfl|exact CE (by omega) rfl| (exact CG (by(congr 2;omega)) rfl))| ((with_reducible refine D0 ?_);refine CJ ?_)|fail)) aK ⟨⟨by simp;omega,hpe e hw,by dsimp only;rw[hre e];exact ht1,ht2,by dsimp only;omega,by dsimp only;omega,by dsimp only;omega⟩,⟨(by simp only[aA.set,aA.del,Nat.add_assoc,Nat.reduceAdd,Nat.add_left_cancel_iff,Nat.reduceEqDiff,Nat.left_eq_add,Nat.add_eq_left,if_true,if_false,hA1,p0];done),(by simp only[aA.set,aA.del,Nat.add_assoc,Nat.reduceAdd,Nat.add_left_cancel_iff,Nat.reduceEqDiff,Nat.left_eq_add,Nat.add_eq_left,if_true,if_false,hA1,p1];done),(by simp only[aA.set,aA.del,Nat.add_assoc,Nat.reduceAdd,Nat.add_left_cancel_iff,Nat.reduceEqDiff,Nat.left_eq_add,Nat.add_eq_left,if_true,if_false,hA1,p2];done),(by simp only[aA.set,aA.del,Nat.add_assoc,Nat.reduceAdd,Nat.add_left_cancel_iff,Nat.reduceEqDiff,Nat.left_eq_add,Nat.add_eq_left,if_true,if_false,hA1,p3];done),by dsimp only;rw[hre e];exact(by simp only[aA.set,aA.del,Nat.add_assoc,Nat.reduceAdd,Nat.add_left_cancel_iff,Nat.reduceEqDiff,Nat.left_eq_add,Nat.add_eq_left,if_true,if_false,hA1];done),by dsimp only;rw[hre e];exact(by simp only[aA.set,aA.del,Nat.add_assoc,Nat.reduceAdd,Nat.add_left_cancel_iff,Nat.reduceEqDiff,Nat.left_eq_add,Nat.add_eq_left,if_true,if_false,hA1,p5];done),by dsimp only;rw[hre e];exact(by simp only[aA.set,aA.del,Nat.add_assoc,Nat.reduceAdd,Nat.add_left_cancel_iff,Nat.reduceEqDiff,Nat.left_eq_add,Nat.add_eq_left,if_true,if_false,hA1,p6];done),by dsimp only;rw[hre e];exact(by simp only[aA.set,aA.del,Nat.add_assoc,Nat.reduceAdd,Nat.add_left_cancel_iff,Nat.reduceEqDiff,Nat.left_eq_add,Nat.add_eq_left,if_true,if_false,hA1,p7];done),by dsimp only;rw[hre e];exact(by simp only[aA.set,aA.del,Nat.add_assoc,Nat.reduceAdd,Nat.add_left_cancel_iff,Nat.reduceEqDiff,Nat.left_eq_add,Nat.add_eq_left,if_true,if_false,hA1,p8];done)⟩,⟨cap,(by simp only[aA.set,aA.del,Nat.add_assoc,Nat.reduceAdd,Nat.add_left_cancel_iff,Nat.reduceEqDiff,Nat.left_eq_add,Nat.add_eq_left,if_true,if_false,hA1];done),by simpa using hcap,Nat.le_refl _⟩,fun id h1 h2=>by rw[aA.aC (by omega),aA.aC (by omega),aA.aC (by omega),aA.aC (by omega),aA.jG (by omega)];exact pf id h1 h2⟩
  ·generalize hG:(((G.set (nx+10) ⟨1,64,s.words.map aJ⟩).set (nx+11) ⟨1,hc,s.holds.map aJ⟩).set (nx+12) ⟨1,3,s.asked.map aJ⟩).set b ⟨5,tm,s.told.map aS⟩=aID
   have p0:aID i=some (rdO l pe):=(by rw[←hG];simp only[aA.set,aA.del,Nat.add_assoc,Nat.reduceAdd,Nat.add_left_cancel_iff,Nat.reduceEqDiff,Nat.left_eq_add,Nat.add_eq_left,if_true,if_false,hA1,r0])
   have p1:aID nx=some ⟨3,1,[[.osl 0 0 0 0 0,.osl 0 0 0 0 0,.osl 0 0 0 0 0]]⟩:=(by rw[←hG];simp only[aA.set,aA.del,Nat.add_assoc,Nat.reduceAdd,Nat.add_left_cancel_iff,Nat.reduceEqDiff,Nat.left_eq_add,Nat.add_eq_left,if_true,if_false,hA1,r1])
   have p2:aID (nx+1)=some ⟨6,1,[[.osl 0 0 0 0 0,.osl 0 0 0 0 0,.osl 0 0 0 0 0,.osl 0 0 0 0 0,.osl 0 0 0 0 0,.osl 0 0 0 0 0]]⟩:=(by rw[←hG];simp only[aA.set,aA.del,Nat.add_assoc,Nat.reduceAdd,Nat.add_left_cancel_iff,Nat.reduceEqDiff,Nat.left_eq_add,Nat.add_eq_left,if_true,if_false,hA1,r2])
   have p3:aID (nx+5)=some ⟨3,1,[cU c]⟩:=(by rw[←hG];simp only[aA.set,aA.del,Nat.add_assoc,Nat.reduceAdd,Nat.add_left_cancel_iff,Nat.reduceEqDiff,Nat.left_eq_add,Nat.add_eq_left,if_true,if_false,hA1,r3])
   have p4:aID (nx+8)=some ⟨6,1,[oSt (nx+10) (nx+11) (nx+12) b 64 hc 3 tc s]⟩:=(by rw[←hG];simp only[aA.set,aA.del,Nat.add_assoc,Nat.reduceAdd,Nat.add_left_cancel_iff,Nat.reduceEqDiff,Nat.left_eq_add,Nat.add_eq_left,if_true,if_false,hA1,r4])
   have p5:aID (nx+10)=some ⟨1,64,s.words.map aJ⟩:=(by rw[←hG];simp only[aA.set,aA.del,Nat.add_assoc,Nat.reduceAdd,Nat.add_left_cancel_iff,Nat.reduceEqDiff,Nat.left_eq_add,Nat.add_eq_left,if_true,if_false,hA1])
   have p6:aID (nx+11)=some ⟨1,hc,s.holds.map aJ⟩:=(by rw[←hG];simp only[aA.set,aA.del,Nat.add_assoc,Nat.reduceAdd,Nat.add_left_cancel_iff,Nat.reduceEqDiff,Nat.left_eq_add,Nat.add_eq_left,if_true,if_false,hA1])
   have p7:aID (nx+12)=some ⟨1,3,s.asked.map aJ⟩:=(by rw[←hG];simp only[aA.set,aA.del,Nat.add_assoc,Nat.reduceAdd,Nat.add_left_cancel_iff,Nat.reduceEqDiff,Nat.left_eq_add,Nat.add_eq_left,if_true,if_false,hA1])
   have p8:aID b=some ⟨5,tm,s.told.map aS⟩:=(by rw[←hG];simp only[aA.set,aA.del,Nat.add_assoc,Nat.reduceAdd,Nat.add_left_cancel_iff,Nat.reduceEqDiff,Nat.left_eq_add,Nat.add_eq_left,if_true,if_false,hA1])
   have aHL:aID be=some ⟨3,me,es.map eEv⟩:=(by rw[←hG];simp only[aA.set,aA.del,Nat.add_assoc,Nat.reduceAdd,Nat.add_left_cancel_iff,Nat.reduceEqDiff,Nat.left_eq_add,Nat.add_eq_left,if_true,if_false,hA1,a8])
   have pf: ∀id,id<nx→id≠i→aID id=H id:=fun id h1 h2=>by
    rw[←hG,aA.aC (by omega),aA.aC (by omega),aA.aC (by omega),aA.aC (by omega)];exact rf id h1 h2
   clear hG r0 r1 r2 r3 r4 r5 aET aU5 aU6 a8 r10 rf
   (try simp only[go_sem,Nat.add_assoc,Nat.left_eq_add,Nat.add_eq_left,p0,p1,p2,p3,p4,p5,p6,p7,p8,aHL,hA1,hte,akB]);repeat' (first| (with_reducible first| (refine hK _ _ _ ?_;clear hK K)| (refine hB ?_;clear hA hB A B)|refine Z1 ?_|refine Z2 ?_)| (with_reducible first|refine Y2 fun K hK=> ?_|refine Y3 fun A B hA hB=> ?_)<;>(simp only[go_sem,Nat.add_assoc,Nat.left_eq_add,Nat.add_eq_left,p0,p1,p2,p3,p4,p5,p6,p7,p8,aHL,hA1,hte,akB];try simp (disch:=omega) only[Iw])| ((with_reducible refine Y0 ?_);simp only[AQ.then,AQ.blk])| (with_reducible refine hKB _ _ _ ?_)|fail)
   exact hKL _ _ _ (j-1,pe,es,(be,ce),(b,tc,tm)) noF _ (by omega) (by dsimp only;omega) (by dsimp only;repeat' (first| (with_reducible first|exact C1|refine C2 ?_ ?_)| ((with_reducible refine C0 ?_);first|exact CQ (by omega) rfl rfl (by rfl) rfl|exact CE (by omega) rfl| (exact CG (by(congr 2;omega)) rfl))| ((with_reducible refine D0 ?_);refine CJ ?_)|fail)) aK ⟨⟨by dsimp only;omega,f4,by dsimp only;rw[hrun];exact f5,f6,by dsimp only;omega,by dsimp only;omega,f11⟩,⟨(by rw[aA.aC (by omega)];exact p0),(by rw[aA.aC (by omega)];exact p1),(by rw[aA.aC (by omega)];exact p2),(by rw[aA.aC (by omega)];exact p3),by dsimp only;rw[hrun,aA.aC (by omega)];exact p4,by dsimp only;rw[hrun,aA.aC (by omega)];exact p5,by dsimp only;rw[hrun,aA.aC (by omega)];exact p6,by dsimp only;rw[hrun,aA.aC (by omega)];exact p7,by dsimp only;rw[hrun,aA.aC (by omega)];exact p8⟩,⟨me,(by dsimp only;rw[aA.aC (by omega)];exact aHL),e1,e2⟩,fun id h1 h2=>by rw[aA.aC (by omega)];exact pf id h1 h2⟩
 ·repeat' (first| (with_reducible first| (refine hK _ _ _ ?_;clear hK K)| (refine hB ?_;clear hA hB A B)|refine Z1 ?_|refine Z5 (by omega) ?_|refine hKX _ _ _ ?_)| (with_reducible first|refine Y2 fun K hK=> ?_|refine Y3 fun A B hA hB=> ?_)<;>(simp only[go_sem])| ((with_reducible refine Y9 ?_);try simp only[AQ.then,AQ.blk,reduceIte,Nat.reduceEqDiff])|fail)
  generalize hrun:runM c s0 es=s at*
  simp only[go_sem,q3,q4,Nat.add_assoc]
  have hwl:=hs.atm.wl
  have hhl:=hs.atm.hl
  have hal:=hs.JI
  refine aB.ao4 (args':=[dA (eSt s)]) (without (fun k=>k=nx+10∨k=nx+11∨k=nx+12∨k=b) H1) (fun k=>k=nx+10∨k=nx+11∨k=nx+12∨k=b) rfl (fun k d0 d h1 h2=> ?_) kS ?_
  ·match k with
   |0=>
    simp only[List.getElem?_cons_zero,Option.some.injEq] at h1 h2
    subst h1;subst h2
    exact lY (aH (bW bF q5 (by omega) (by omega) (by simp)) (aH (bW bF q6 (by omega) (by omega) (by simp)) (aH (bW bF q7 (by omega) (by omega) (by simp)) (aH (bB rfl) (aH (bB rfl) (aH (bW dZ aEM (by omega) (by omega) (by simp)) eP))))))
   |k+1=>simp at h1
  generalize hG:without (fun k=>k=nx+10∨k=nx+11∨k=nx+12∨k=b) H1=G
  have r0:G i=some (rdO l pj):=by rw[←hG,iI (by omega)];exact q0
  have r1:G nx=some ⟨3,1,[[.osl 0 0 0 0 0,.osl 0 0 0 0 0,.osl 0 0 0 0 0]]⟩:=by rw[←hG,iI (by omega)];exact q1
  have r2:G (nx+1)=some ⟨6,1,[[.osl 0 0 0 0 0,.osl 0 0 0 0 0,.osl 0 0 0 0 0,.osl 0 0 0 0 0,.osl 0 0 0 0 0,.osl 0 0 0 0 0]]⟩:=by rw[←hG,iI (by omega)];exact q2
  have r3:G (nx+5)=some ⟨3,1,[cU c]⟩:=by rw[←hG,iI (by omega)];exact q3
  have a8:G be=some ⟨3,me,es.map eEv⟩:=by rw[←hG,iI (by omega)];exact a7
  have rf: ∀id,id<nx→id≠i→G id=H id:=fun id h1 h2=>by rw[←hG,iI (by omega)];exact qf id h1 h2
  clear hG q0 q1 q2 q3 q4 q5 q6 q7 aEM a7 qf
  refine aQR (hs.aUG hbok) fun H2 nx2 b0 b1 b2 b3 b4 b5 c0 c1 c2 c3 c4 c5 g1 g2 g3 g4 g5 g6 g7 o0 o1 o2 o3 o4 o5 fr=> ?_
  have aU0:=(fr i (by omega)).trans r0
  have t1:=(fr nx (by omega)).trans r1
  have t2:=(fr (nx+1) (by omega)).trans r2
  have t3:=(fr (nx+5) (by omega)).trans r3
  have aU7:=(fr be (by omega)).trans a8
  have hA2:bQ nx2 [i,nx,nx+1,be]:=AM.apart (by simp;omega) (by simp;omega)
  simp only[bQ,eZ] at hA2
  (try simp only[go_sem,Nat.add_assoc,Nat.left_eq_add,Nat.add_eq_left,aU0,t1,t2,t3,aU7,hA2]);repeat' (first| (with_reducible (refine hK _ _ _ ?_;clear hK K))| ((with_reducible refine Y8 ?_);try simp only[AQ.then,AQ.blk,reduceIte,Nat.reduceEqDiff])|fail)
  have hh:=fun H'=>h H' nx2 pj c es b0 b1 b2 b3 b4 b5 c0 c1 c2 c3 c4 c5 be ce hbok hbfit f4 (by omega) f3 (by omega)
  simp only[hrun] at hh
  exact hQ _ _ _ _ _ (.inr rfl) (aUK (m1:=1) (m2:=1) (cs2:=aU4 b0 b1 b2 b3 b4 b5 c0 c1 c2 c3 c4 c5 s) rfl (by simp only[aA.set,aA.del,Nat.add_assoc,Nat.reduceAdd,Nat.add_left_cancel_iff,Nat.reduceEqDiff,Nat.left_eq_add,Nat.add_eq_left,if_true,if_false,hA2];done) rfl rfl (by simp only[aA.set,aA.del,Nat.add_assoc,Nat.reduceAdd,Nat.add_left_cancel_iff,Nat.reduceEqDiff,Nat.left_eq_add,Nat.add_eq_left,if_true,if_false,hA2,aU4];done) rfl rfl) (hh _ (by simp only[aA.set,aA.del,Nat.add_assoc,Nat.reduceAdd,Nat.add_left_cancel_iff,Nat.reduceEqDiff,Nat.left_eq_add,Nat.add_eq_left,if_true,if_false,hA2,aU0];done) (by omega) (by omega) g2 g3 g4 g5 g6 g7
   ⟨o0.of (by rw[aA.aC (by omega),aA.aC (by omega)]),o1.of (by rw[aA.aC (by omega),aA.aC (by omega)]),o2.of (by rw[aA.aC (by omega),aA.aC (by omega)]),o3.of (by rw[aA.aC (by omega),aA.aC (by omega)]),o4.of (by rw[aA.aC (by omega),aA.aC (by omega)]),o5.of (by rw[aA.aC (by omega),aA.aC (by omega)])⟩ ⟨me,(by simp only[aA.set,aA.del,Nat.add_assoc,Nat.reduceAdd,Nat.add_left_cancel_iff,Nat.reduceEqDiff,Nat.left_eq_add,Nat.add_eq_left,if_true,if_false,hA2,aU7];done),e1,e2⟩ fun id h1 h2=>by rw[aA.aC (by omega),aA.aC (by omega),fr id (by omega)];exact rf id h1 h2)
theorem aRT {l:List Int} {p i:Nat} {n:Int} (hl:kZ l) (hp50:p+10000<2^50) (hn:0≤n∧n≤1000) (hi:i<nx) (ho:H i=some (rdO l p))
 (h: ∀H' nx' p' (c:Cfg) (es:List Ev) be ce,aQ c→jO c→F9 c st0 es→(es.length=0∨(es.length:Int)<n)→p≤p'→p'≤p+10000→H' i=some (rdO l p')→nx≤be→be<nx'→Own eEv 3 H' be ce es→(∀id,id<nx→id≠i→H' id=H id)→
  K (.tup [.agg (cU c),.agg (eSt (runM c st0 es)),.c (.osl 3 be 0 es.length ce)]) H' nx'):
 aB Tryz.prog aNG [dP 2 i,dI n] H nx K:=by
 refine aB.tW (aRH hl hp50 hn hi ho fun H' nx' p' c es b0 b1 b2 b3 b4 b5 c0 c1 c2 c3 c4 c5 be ce h1 h2 h3 h4 h5 h6 h7 g1 g2 g3 g4 g5 g6 g7 g8 ⟨o0,o1,o2,o3,o4,o5⟩ o6 fr=> ?_)
 refine⟨_,without (fun k=>k=b0∨k=b1∨k=b2∨k=b3∨k=b4∨k=b5) H',fun k=>k=b0∨k=b1∨k=b2∨k=b3∨k=b4∨k=b5,?_,kS,h _ nx' p' c es be ce h1 h2 h3 h4 h5 h6 (by rw[iI (by omega)];exact h7) g1 (by omega) (o6.of (iI (by omega))) fun id q1 q2=>by rw[iI (by omega)];exact fr id q1 q2⟩
 exact aUJ (ayY (GW fun x hx=>List.all_eq_true.1 (azD c).2 x hx)) (ayY (aH (o0.frz bF (by simp)) (aH (o1.frz bF (by simp)) (aH (o2.frz bF (by simp)) (aH (o3.frz dZ (by simp)) (aH (o4.frz dZ (by simp)) (aH (o5.frz dZ (by simp)) eP))))))) (azN (aaF (by omega) rfl rfl rfl rfl))
end
end Go.Proofs.YtegiblhkjfiooaaGreat
end
