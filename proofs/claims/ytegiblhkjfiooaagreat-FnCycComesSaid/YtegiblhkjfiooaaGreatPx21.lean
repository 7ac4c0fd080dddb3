/- Texts laid together by a program: rules, contracts and the walk that leads to the law. -/
import Derived.Test.YtegiblhkjfiooaaGreatPx20
import Derived.Test.YtegiblhkjfiooaaGreatPx7
import Derived.Test.YtegiblhkjfiooaaGreatPx10
import Derived.Test.YtegiblhkjfiooaaGreatPx3
import Derived.Test.YtegiblhkjfiooaaGreatPx6
import Derived.Test.YtegiblhkjfiooaaGreatPx13
import Derived.Test.YtegiblhkjfiooaaGreatPx17
set_option linter.unusedVariables false
set_option linter.unusedSimpArgs false
set_option linter.unusedSectionVars false
section
namespace Go.Proofs.YtegiblhkjfiooaaGreat
open Go Go.AM
set_option maxRecDepth 100000
set_option maxHeartbeats 4000000
section
variable {H : aA} {nx : Nat} {K : D → aA → Nat → Prop}
theorem aD7 (l:List Rng) (hl:l.length<2^40):aB Tryz.prog aBG [dS (l.map eN)] .nil 0 fun rr _ _=>rr.plain=true∧rr=dB (decide (DH l)):=by
 refine aDM rfl fun Q hQ=> ?_
 unfold aBO
 by_cases hl4:(l.length:Int)≤4
 ·repeat' (first| (with_reducible first| (refine hK _ _ _ ?_;clear hK K)| (refine hB ?_;clear hA hB A B)|refine Z1 ?_|refine Z2 ?_|refine Z3 fun KB hKB=> ?_|refine Z5 (by omega) ?_)| (with_reducible first|refine Y2 fun K hK=> ?_|refine Y3 fun A B hA hB=> ?_)<;>(simp only[go_sem])|fail)
  (have hKX:=hKB;clear hKB)
  refine aM.gP (β:=Nat) (fun k=>en [(3,dI k),(0,dS (l.map eN))]) (fun k _ _=>k≤l.length∧ ∀i,i<k→V9 l i) (fun k=>l.length-k) 0 ⟨noF,_,by repeat' (first| (with_reducible first|exact C1|refine C2 ?_ ?_)| ((with_reducible refine D0 ?_);exact CA rfl)|fail),aK,by omega,fun i hi=>by omega⟩ ?_
  rintro k H1 nx1 hnx1 ⟨hk,hinv⟩ KL hKL
  by_cases hlt:k<l.length
  ·obtain⟨r,hr⟩: ∃r,r=l.getD k default:=⟨_,rfl⟩
   have hr':l.getD k default=r:=hr.symm
   have hbad: ¬SF r→¬DH l:=fun h hm=>h (by rw[hr];exact(hm.2 k hlt).1)
   repeat' (first| (with_reducible first| (refine hK _ _ _ ?_;clear hK K)| (refine hA ?_;clear hA hB A B)| (refine hB ?_;clear hA hB A B)|refine Z1 ?_|refine Z2 ?_|refine Z3 fun KB hKB=> ?_|refine Z4 (by omega) ?_|refine Z6 (fun h=> ?_) fun h=> ?_)| (first| (with_reducible first|refine Y2 fun K hK=> ?_|refine Y3 fun A B hA hB=> ?_|refine Y6 (fun h=> ?_) fun h=> ?_)| (with_reducible refine aBC ?_))<;>(simp only[go_sem,hr',Nat.add_assoc,Nat.left_eq_add,Nat.add_eq_left])| ((with_reducible refine Y8 ?_);try simp only[AQ.then,AQ.blk,reduceIte,Nat.reduceEqDiff])|refine⟨by omega,?_⟩|fail)
   ·exact aZ hQ (dB false) rfl rfl (j7 (hbad fun hm=>by unfold SF at hm;omega))
   ·exact aZ hQ (dB false) rfl rfl (j7 (hbad fun hm=>by unfold SF at hm;omega))
   ·exact aZ hQ (dB false) rfl rfl (j7 (hbad fun hm=>by unfold SF at hm;omega))
   have hro:SF r:=by unfold SF;omega
   (have hKY:=hKB;clear hKB)
   refine aM.gP (β:=Nat) (fun j=>en [(5,dI j),(4,.one (.c (.ptr 4 (nx1+8) 0 0))),(3,dI k),(0,dS (l.map eN))]) (fun j H2 _=>(j≤k∧ ∀i,i<j→aaM (l.getD i default) r=false)∧H2 (nx1+8)=some ⟨4,1,[eN r]⟩) (fun j=>k-j) 0 ⟨noF,_,by repeat' (first| (with_reducible first|exact C1|refine C2 ?_ ?_)| ((with_reducible refine C0 ?_);exact CE (by omega) rfl)| ((with_reducible refine D0 ?_);first|exact CA rfl|refine CJ ?_)|fail),aK,⟨by omega,fun i hi=>by omega⟩,by simp only[aA.set,if_true]⟩ ?_
   rintro j H2 nx2 hnx2 ⟨⟨hj,hinvj⟩,g8⟩ KM hKM
   by_cases hjl:j<k
   ·obtain⟨r2,hr2⟩: ∃r2,r2=l.getD j default:=⟨_,rfl⟩
    have hr2':l.getD j default=r2:=hr2.symm
    repeat' (first| (with_reducible first| (refine hK _ _ _ ?_;clear hK K)| (refine hA ?_;clear hA hB A B)| (refine hB ?_;clear hA hB A B)|refine Z1 ?_|refine Z2 ?_|refine Z3 fun KB hKB=> ?_|refine Z4 (by omega) ?_|refine Z6 (fun h=> ?_) fun h=> ?_)| (with_reducible first|refine Y2 fun K hK=> ?_|refine Y3 fun A B hA hB=> ?_|refine Y6 (fun h=> ?_) fun h=> ?_)<;>(simp only[go_sem,hr2',g8];try simp (disch:=omega) only[Iw])| ((with_reducible refine Y8 ?_);try simp only[AQ.then,AQ.blk,reduceIte,Nat.reduceEqDiff])| ((with_reducible refine Y0 ?_);simp only[AQ.then,AQ.blk])|refine⟨by omega,?_⟩| (with_reducible refine hKB _ _ _ ?_)|fail)
    ·refine aZ hQ (dB false) rfl rfl (j7 fun hm=> ?_)
     have h2:=(hm.2 k hlt).2
     refine h2 (cH.2 ⟨l.getD j default,List.mem_iff_getElem.2 ⟨j,by simp;omega,by simp[List.getD,show j<l.length by omega]⟩,decide_eq_true ?_⟩)
     rw[hr2',hr']
     omega
    all_goals exact hKM _ _ _ (j+1) noF _ (by omega) (by omega) (by repeat' (first| (with_reducible first|exact C1|refine C2 ?_ ?_)| ((with_reducible refine C0 ?_);exact CE (by omega) rfl)| ((with_reducible refine D0 ?_);first|exact CA rfl|refine CJ ?_)|fail)) aK ⟨⟨by omega,iS hinvj (by rw[hr2'];exact decide_eq_false (by omega))⟩,g8⟩
   ·repeat' (first| (with_reducible first| (refine hK _ _ _ ?_;clear hK K)| (refine hB ?_;clear hA hB A B)|refine Z1 ?_|refine Z5 (by omega) ?_|refine hKY _ _ _ ?_)| (with_reducible first|refine Y2 fun K hK=> ?_|refine Y3 fun A B hA hB=> ?_)<;>(simp only[go_sem];try simp (disch:=omega) only[Iw])| ((with_reducible refine Y9 ?_);try simp only[AQ.then,AQ.blk,reduceIte,Nat.reduceEqDiff])| ((with_reducible refine Y0 ?_);simp only[AQ.then,AQ.blk])| (with_reducible refine hKB _ _ _ ?_)|fail)
    refine hKL _ _ _ (k+1) noF _ (by omega) (by omega) (by repeat' (first| (with_reducible first|exact C1|refine C2 ?_ ?_)| ((with_reducible refine D0 ?_);exact CA rfl)|fail)) aK ⟨by omega,iS hinv ⟨by rw[hr'];exact hro,fun hc=> ?_⟩⟩
    obtain⟨x,hx,hx2⟩:=cH.1 hc
    obtain⟨i,hi,rfl⟩:=List.mem_iff_getElem.1 hx
    have hi':i<k:=by simp at hi;omega
    have:=hinvj i (by omega)
    simp only[List.getD,show i<l.length by omega,List.getElem?_eq_getElem,Option.getD_some] at this
    rw[hr'] at hx2
    simp only[List.getElem_take] at hx2
    rw[this] at hx2
    cases hx2
  ·repeat' (first| (with_reducible first| (refine hK _ _ _ ?_;clear hK K)| (refine hB ?_;clear hA hB A B)|refine Z1 ?_|refine Z5 (by omega) ?_|refine hKX _ _ _ ?_)| (with_reducible first|refine Y2 fun K hK=> ?_|refine Y3 fun A B hA hB=> ?_)<;>(simp only[go_sem])| ((with_reducible first|refine Y8 ?_|refine Y9 ?_);try simp only[AQ.then,AQ.blk,reduceIte,Nat.reduceEqDiff])|fail)
   have hk2:k=l.length:=by omega
   subst hk2
   exact aZ hQ (dB true) rfl rfl (q9 ⟨hl4,hinv⟩)
 ·repeat' (first| (with_reducible first| (refine hK _ _ _ ?_;clear hK K)| (refine hA ?_;clear hA hB A B)|refine Z1 ?_|refine Z4 (by omega) ?_)| (with_reducible first|refine Y2 fun K hK=> ?_|refine Y3 fun A B hA hB=> ?_)<;>(simp only[go_sem])| ((with_reducible refine Y8 ?_);try simp only[AQ.then,AQ.blk,reduceIte,Nat.reduceEqDiff])|fail)
  exact aZ hQ (dB false) rfl rfl (j7 fun h=>hl4 h.1)
theorem aD5 {l:List Rng} (hl:l.length<2^40) (h:K (dB (decide (DH l))) H nx):aB Tryz.prog aBG [dS (l.map eN)] H nx K:=
 (aD7 l hl).pure rfl (aI ⟨aE rfl,trivial⟩) (fun r hr=>hr▸h)
theorem aD9 (l:List Int) (lo up:Int) (hl:l.length<2^40):aB Tryz.prog aA3 [dS (l.map aJ),dI lo,dI up] .nil 0 fun rr _ _=>rr.plain=true∧rr=dB (decide (All l lo up)):=by
 refine aDN rfl fun Q hQ=> ?_
 unfold aBP
 repeat' (first| (with_reducible first| (refine hK _ _ _ ?_;clear hK K)|refine Z1 ?_|refine Z3 fun KB hKB=> ?_)| (with_reducible refine Y2 fun K hK=> ?_)<;>(simp only[go_sem])|fail)
 (have hKX:=hKB;clear hKB);(refine aM.loop (α:={k:Nat//k≤l.length∧(∀i,i<k→lo≤l.getD i default∧l.getD i default≤up)}) (fun u=>en [(7,dI u.1),(2,dI up),(1,dI lo),(0,dS (l.map aJ))]) (fun _=>.nil) _ (fun u=>l.length-u.1) ⟨0,by omega,(by intros;first|trivial|omega)⟩ (bU (Nat.le_refl _) (by repeat' (first| (with_reducible first|exact C1|refine C2 ?_ ?_)| ((with_reducible refine D0 ?_);exact CA rfl)|fail))) ?_);(rintro⟨k,hk,hinv⟩ KL hKL)
 by_cases hlt:k<l.length
 ·repeat' (first| (with_reducible first| (refine hK _ _ _ ?_;clear hK K)| (refine hA ?_;clear hA hB A B)| (refine hB ?_;clear hA hB A B)|refine Z1 ?_|refine Z2 ?_|refine Z3 fun KB hKB=> ?_|refine Z4 (by omega) ?_|refine Z6 (fun h=> ?_) fun h=> ?_)| (first| (with_reducible first|refine Y2 fun K hK=> ?_|refine Y3 fun A B hA hB=> ?_)| (with_reducible refine aBC ?_))<;>(simp only[go_sem];try simp (disch:=omega) only[Iw])| ((with_reducible refine Y8 ?_);try simp only[AQ.then,AQ.blk,reduceIte,Nat.reduceEqDiff])| ((with_reducible refine Y0 ?_);simp only[AQ.then,AQ.blk])|refine⟨by omega,?_⟩| (with_reducible refine hKB _ _ _ ?_)|fail)
  ·exact aZ hQ (dB false) rfl rfl (j7 fun ha=>by have:=aj1 ha hlt;omega)
  · (refine hKL _ _ _ ⟨k+1,by omega,iS hinv (by omega)⟩ (by omega) (by(try dsimp only);omega) (bU (Nat.le_refl _) (by repeat' (first| (with_reducible first|exact C1|refine C2 ?_ ?_)| ((with_reducible refine D0 ?_);exact CA rfl)|fail))))
 ·repeat' (first| (with_reducible first| (refine hK _ _ _ ?_;clear hK K)| (refine hB ?_;clear hA hB A B)|refine Z1 ?_|refine Z5 (by omega) ?_|refine hKX _ _ _ ?_)| (with_reducible first|refine Y2 fun K hK=> ?_|refine Y3 fun A B hA hB=> ?_)<;>(simp only[go_sem])| ((with_reducible first|refine Y8 ?_|refine Y9 ?_);try simp only[AQ.then,AQ.blk,reduceIte,Nat.reduceEqDiff])|fail)
  exact aZ hQ (dB true) rfl rfl (q9 (aEA fun i hi=>hinv i (by omega)))
theorem aCC {l:List Int} {lo:Int} {up:Int} (hl:l.length<2^40) (h:K (dB (decide (All l lo up))) H nx):aB Tryz.prog aA3 [dS (l.map aJ),dI lo,dI up] H nx K:=
 (aD9 l lo up hl).pure rfl (aI ⟨aE rfl,aE rfl,aE rfl,trivial⟩) (fun r hr=>hr▸h)
theorem aD1 (q:Req) (hd:q.data.length<2^40) (hl:q.lanes.length<2^40):aB Tryz.prog aBF [dA (eB q)] .nil 0 fun rr _ _=>rr.plain=true∧rr=dB (decide (dH q)):=by
 refine aDW rfl fun Q hQ=> ?_
 unfold aBM
 repeat' (first| (with_reducible first| (refine hK _ _ _ ?_;clear hK K)| (refine hA ?_;clear hA hB A B)| (refine hB ?_;clear hA hB A B)|refine Z1 ?_|refine Z2 ?_|refine Z6 (fun h=> ?_) fun h=> ?_)| (first| (with_reducible first|refine Y2 fun K hK=> ?_|refine Y3 fun A B hA hB=> ?_|refine Y6 (fun h=> ?_) fun h=> ?_)| (with_reducible refine aBC ?_)| (with_reducible refine aC2 ?_)| (with_reducible refine aCI ?_)| (with_reducible refine aCC (l:=q.data) hd ?_)| (with_reducible refine aCC (l:=q.lanes) hl ?_))<;>(simp only[go_sem])| ((with_reducible refine Y8 ?_);try simp only[AQ.then,AQ.blk,reduceIte,Nat.reduceEqDiff])| ((with_reducible refine Z8 (fun h=> ?_) (fun h=> ?_))<;>try subst h)|fail)
 all_goals first|with_reducible refine aZ hQ _ rfl rfl ?_|skip
 all_goals
  have e2:wrM q=true↔(q.kind=2∨q.kind=4):=by simp[wrM]
  have e3:All ([]:List Int) 0 65535:=by simp[All]
  have e4:All ([]:List Int) 0 3:=by simp[All]
  have e5:q.data.length=0→q.data=[]:=List.length_eq_zero_iff.1
  have e6:q.lanes.length=0→q.lanes=[]:=List.length_eq_zero_iff.1
  clear hQ
  first|exact j7 (by unfold dH n5;grind)|exact q9 (by unfold dH n5;grind)|exact pD (by unfold dH n5;grind)
theorem aD8 {q:Req} (hd:q.data.length<2^40) (hl:q.lanes.length<2^40) (h:K (dB (decide (dH q))) H nx):aB Tryz.prog aBF [dA (eB q)] H nx K:=
 (aD1 q hd hl).pure rfl (aI ⟨aE rfl,trivial⟩) (fun r hr=>hr▸h)
theorem aMT (r:Rsp) (hr:r.data.length<2^40):aB Tryz.prog aIP [dA (tG r)] .nil 0 fun rr _ _=>rr.plain=true∧rr=dB (decide (pA r)):=by
 refine aMN rfl fun Q hQ=> ?_
 unfold aJL
 repeat' (first| (with_reducible first| (refine hK _ _ _ ?_;clear hK K)|refine Z1 ?_)| (first| (with_reducible first|refine Y2 fun K hK=> ?_|refine Y6 (fun h=> ?_) fun h=> ?_)| (with_reducible refine aBC ?_)| (with_reducible refine aCC (l:=r.data) hr ?_))<;>(simp only[go_sem])| ((with_reducible refine Y8 ?_);try simp only[AQ.then,AQ.blk,reduceIte,Nat.reduceEqDiff])|fail)
 all_goals first|with_reducible refine aZ hQ _ rfl rfl ?_|skip
 all_goals first|exact j7 (by unfold pA;grind)|exact pD (by unfold pA;grind)|exact q9 (by unfold pA;grind)
theorem aMP {r:Rsp} (hr:r.data.length<2^40) (h:K (dB (decide (pA r))) H nx):aB Tryz.prog aIP [dA (tG r)] H nx K:=
 (aMT r hr).pure rfl (aI ⟨aE rfl,trivial⟩) (fun r hr=>hr▸h)
theorem aML (p:Prog) (hp:p.length<2^40) (hq: ∀q∈p,q.data.length<2^40∧q.lanes.length<2^40):aB Tryz.prog aI2 [dS (p.map eB)] .nil 0 fun rr _ _=>rr.plain=true∧rr=dB (decide (∀q∈p,dH q)):=by
 refine aLI rfl fun Q hQ=> ?_
 unfold aJC
 repeat' (first| (with_reducible first| (refine hK _ _ _ ?_;clear hK K)|refine Z1 ?_|refine Z3 fun KB hKB=> ?_)| (with_reducible refine Y2 fun K hK=> ?_)<;>(simp only[go_sem])|fail)
 (have hKX:=hKB;clear hKB);(refine aM.loop (α:={k:Nat//k≤p.length∧(∀i,i<k→dH (p.getD i default))}) (fun u=>en [(3,dI u.1),(0,dS (p.map eB))]) (fun _=>.nil) _ (fun u=>p.length-u.1) ⟨0,by omega,(by intros;first|trivial|omega)⟩ (bU (Nat.le_refl _) (by repeat' (first| (with_reducible first|exact C1|refine C2 ?_ ?_)| ((with_reducible refine D0 ?_);exact CA rfl)|fail))) ?_);(rintro⟨k,hk,hinv⟩ KL hKL)
 by_cases hlt:k<p.length
 ·have hm:=hq _ (cC hlt)
  repeat' (first| (with_reducible first| (refine hK _ _ _ ?_;clear hK K)| (refine hA ?_;clear hA hB A B)| (refine hB ?_;clear hA hB A B)|refine Z1 ?_|refine Z2 ?_|refine Z3 fun KB hKB=> ?_|refine Z4 (by omega) ?_|refine Z6 (fun h=> ?_) fun h=> ?_)| (first| (with_reducible first|refine Y2 fun K hK=> ?_|refine Y3 fun A B hA hB=> ?_)| (with_reducible refine aD8 hm.1 hm.2 ?_))<;>(simp only[go_sem];try simp (disch:=omega) only[Iw])| ((with_reducible refine Y8 ?_);try simp only[AQ.then,AQ.blk,reduceIte,Nat.reduceEqDiff])| ((with_reducible refine Y0 ?_);simp only[AQ.then,AQ.blk])|refine⟨by omega,?_⟩| (with_reducible refine hKB _ _ _ ?_)|fail)
  ·exact aZ hQ (dB false) rfl rfl (j7 fun ha=>by have:=ha _ (cC hlt);simp_all)
  · (refine hKL _ _ _ ⟨k+1,by omega,iS hinv (by simp_all)⟩ (by omega) (by(try dsimp only);omega) (bU (Nat.le_refl _) (by repeat' (first| (with_reducible first|exact C1|refine C2 ?_ ?_)| ((with_reducible refine D0 ?_);exact CA rfl)|fail))))
 ·repeat' (first| (with_reducible first| (refine hK _ _ _ ?_;clear hK K)| (refine hB ?_;clear hA hB A B)|refine Z1 ?_|refine Z5 (by omega) ?_|refine hKX _ _ _ ?_)| (with_reducible first|refine Y2 fun K hK=> ?_|refine Y3 fun A B hA hB=> ?_)<;>(simp only[go_sem])| ((with_reducible first|refine Y8 ?_|refine Y9 ?_);try simp only[AQ.then,AQ.blk,reduceIte,Nat.reduceEqDiff])|fail)
  exact aZ hQ (dB true) rfl rfl (q9 (aKJ fun i hi=>hinv i (by omega)))
theorem aL2 {p:Prog} (hp:p.length<2^40) (hq: ∀q∈p,q.data.length<2^40∧q.lanes.length<2^40) (h:K (dB (decide (∀q∈p,dH q))) H nx):aB Tryz.prog aI2 [dS (p.map eB)] H nx K:=
 (aML p hp hq).pure rfl (aI ⟨aE rfl,trivial⟩) (fun r hr=>hr▸h)
theorem aMY (c:Cfg) (hc:jO c):aB Tryz.prog aIV [dA (cU c)] .nil 0 fun rr _ _=>rr.plain=true∧rr=dB (decide (aQ c)):=by
 refine aLX rfl fun Q hQ=> ?_
 unfold aJQ
 have hbp:aQ c↔DH c.map∧(c.lat.length:Int)=4∧All c.lat 0 3∧(c.cP.length:Int)=3∧ ∀p∈c.cP,(p.length:Int)≤12∧ ∀q∈p,dH q:=by
  unfold aQ mV
  simp only[cH,not_exists,not_and,decide_eq_true_eq,Classical.not_imp,Classical.not_not]
 by_cases h0:DH c.map∧(c.lat.length:Int)=4∧All c.lat 0 3∧(c.cP.length:Int)=3
 ·obtain⟨h1,h2,h3,h4⟩:=h0
  repeat' (first| (with_reducible first| (refine hK _ _ _ ?_;clear hK K)| (refine hB ?_;clear hA hB A B)|refine Z1 ?_|refine Z2 ?_|refine Z3 fun KB hKB=> ?_|refine Z5 (by omega) ?_)| (first| (with_reducible first|refine Y2 fun K hK=> ?_|refine Y3 fun A B hA hB=> ?_|refine Y5 (by omega) ?_)| (with_reducible refine aD5 hc.map ?_)| (with_reducible refine aCC (l:=c.lat) hc.lat ?_))<;>(simp only[go_sem,eq_true h1,eq_true h3])|fail)
  (have hKX:=hKB;clear hKB);(refine aM.loop (α:={k:Nat//k≤3∧(∀i,i<k→((c.cP.getD i default).length:Int)≤12∧ ∀q∈c.cP.getD i default,dH q)}) (fun u=>en [(3,dI u.1),(1,.one (.c (.fQ (cU c))))]) (fun _=>.nil) _ (fun u=>3-u.1) ⟨0,by omega,(by intros;first|trivial|omega)⟩ (bU (Nat.le_refl _) (by repeat' (first| (with_reducible first|exact C1|refine C2 ?_ ?_)| ((with_reducible refine D0 ?_);first|exact CA rfl|exact CI rfl (by simp) rfl rfl rfl)|fail))) ?_);(rintro⟨k,hk,hinv⟩ KL hKL)
  by_cases hlt:k<3
  ·have hm:c.cP.getD k default∈c.cP:=cC (by omega)
   have hm1:=hc.prog _ hm
   have hm2:=hc.req _ hm
   repeat' (first| (with_reducible first| (refine hK _ _ _ ?_;clear hK K)| (refine hA ?_;clear hA hB A B)| (refine hB ?_;clear hA hB A B)|refine Z1 ?_|refine Z2 ?_|refine Z3 fun KB hKB=> ?_|refine Z4 (by omega) ?_|refine Z6 (fun h=> ?_) fun h=> ?_)| (first| (with_reducible first|refine Y2 fun K hK=> ?_|refine Y3 fun A B hA hB=> ?_|refine Y6 (fun h=> ?_) fun h=> ?_)| (with_reducible refine aL2 hm1 hm2 ?_))<;>(simp only[go_sem];try simp (disch:=omega) only[Iw])| ((with_reducible refine Y8 ?_);try simp only[AQ.then,AQ.blk,reduceIte,Nat.reduceEqDiff])| ((with_reducible refine Y0 ?_);simp only[AQ.then,AQ.blk])|refine⟨by omega,?_⟩| (with_reducible refine hKB _ _ _ ?_)|fail)
   ·exact aZ hQ (dB false) rfl rfl (j7 fun hB=>by have:=((hbp.1 hB).2.2.2.2 _ hm).1;omega)
   ·exact aZ hQ (dB false) rfl rfl (j7 fun hB=>by have:=((hbp.1 hB).2.2.2.2 _ hm).2;simp_all)
   · (refine hKL _ _ _ ⟨k+1,by omega,iS hinv ⟨by omega,by simp_all⟩⟩ (by omega) (by(try dsimp only);omega) (bU (Nat.le_refl _) (by repeat' (first| (with_reducible first|exact C1|refine C2 ?_ ?_)| ((with_reducible refine D0 ?_);exact CA rfl)|fail))))
  ·repeat' (first| (with_reducible first| (refine hK _ _ _ ?_;clear hK K)| (refine hB ?_;clear hA hB A B)|refine Z1 ?_|refine Z5 (by omega) ?_|refine hKX _ _ _ ?_)| (with_reducible first|refine Y2 fun K hK=> ?_|refine Y3 fun A B hA hB=> ?_)<;>(simp only[go_sem])| ((with_reducible first|refine Y8 ?_|refine Y9 ?_);try simp only[AQ.then,AQ.blk,reduceIte,Nat.reduceEqDiff])|fail)
   exact aZ hQ (dB true) rfl rfl (q9 (hbp.2 ⟨h1,h2,h3,h4,aKJ fun i hi=>hinv i (by omega)⟩))
 ·have hno: ¬aQ c:=fun hB=>h0 ⟨(hbp.1 hB).1,(hbp.1 hB).2.1,(hbp.1 hB).2.2.1,(hbp.1 hB).2.2.2.1⟩
  repeat' (first| (with_reducible first| (refine hK _ _ _ ?_;clear hK K)| (refine hA ?_;clear hA hB A B)| (refine hB ?_;clear hA hB A B)|refine Z1 ?_|refine Z2 ?_|refine Z3 fun KB hKB=> ?_|refine Z6 (fun h=> ?_) fun h=> ?_)| (first| (with_reducible first|refine Y2 fun K hK=> ?_|refine Y3 fun A B hA hB=> ?_|refine Y6 (fun h=> ?_) fun h=> ?_)| (with_reducible refine aD5 hc.map ?_)| (with_reducible refine aCC (l:=c.lat) hc.lat ?_))<;>(simp only[go_sem])| ((with_reducible refine Y8 ?_);try simp only[AQ.then,AQ.blk,reduceIte,Nat.reduceEqDiff])|fail)
  all_goals first|exact aZ hQ (dB false) rfl rfl (j7 hno)|exact absurd ⟨by simp_all,by omega,by simp_all,by omega⟩ h0
theorem aKG {c:Cfg} (hc:jO c) (h:K (dB (decide (aQ c))) H nx):aB Tryz.prog aIV [dA (cU c)] H nx K:=
 (aMY c hc).pure rfl (aI ⟨aE rfl,trivial⟩) (fun r hr=>hr▸h)
theorem aM3 (l:List Int) (hl:l.length<2^40):aB Tryz.prog aI7 [dA [.isl (l.map aJ)]] .nil 0 fun rr _ _=>rr.plain=true∧rr=dB (decide ((l.length:Int)=64∧All l 0 65535)):=by
 refine aMO rfl fun Q hQ=> ?_
 unfold aJK
 repeat' (first| (with_reducible first| (refine hK _ _ _ ?_;clear hK K)| (refine hA ?_;clear hA hB A B)| (refine hB ?_;clear hA hB A B)|refine Z1 ?_|refine Z2 ?_|refine Z3 fun KB hKB=> ?_|refine Z6 (fun h=> ?_) fun h=> ?_)| (with_reducible first|refine Y2 fun K hK=> ?_|refine Y3 fun A B hA hB=> ?_)<;>(simp only[go_sem])| ((with_reducible refine Y8 ?_);try simp only[AQ.then,AQ.blk,reduceIte,Nat.reduceEqDiff])|fail)
 ·exact aZ hQ (dB false) rfl rfl (j7 fun ha=>by omega)
 (have hKX:=hKB;clear hKB);(refine aM.loop (α:={k:Nat//k≤l.length∧(∀i,i<k→0≤l.getD i default∧l.getD i default≤65535)}) (fun u=>en [(3,dI u.1),(1,.one (.c (.fQ [.isl (l.map aJ)])))]) (fun _=>.nil) _ (fun u=>l.length-u.1) ⟨0,by omega,(by intros;first|trivial|omega)⟩ (bU (Nat.le_refl _) (by repeat' (first| (with_reducible first|exact C1|refine C2 ?_ ?_)| ((with_reducible refine D0 ?_);first|exact CA rfl|exact CI rfl (by simp) rfl rfl rfl)|fail))) ?_);(rintro⟨k,hk,hinv⟩ KL hKL)
 by_cases hlt:k<l.length
 ·repeat' (first| (with_reducible first| (refine hK _ _ _ ?_;clear hK K)| (refine hA ?_;clear hA hB A B)| (refine hB ?_;clear hA hB A B)|refine Z1 ?_|refine Z2 ?_|refine Z3 fun KB hKB=> ?_|refine Z4 (by omega) ?_|refine Z6 (fun h=> ?_) fun h=> ?_)| (first| (with_reducible first|refine Y2 fun K hK=> ?_|refine Y3 fun A B hA hB=> ?_)| (with_reducible refine aBC ?_))<;>(simp only[go_sem];try simp (disch:=omega) only[Iw])| ((with_reducible refine Y8 ?_);try simp only[AQ.then,AQ.blk,reduceIte,Nat.reduceEqDiff])| ((with_reducible refine Y0 ?_);simp only[AQ.then,AQ.blk])|refine⟨by omega,?_⟩| (with_reducible refine hKB _ _ _ ?_)|fail)
  ·exact aZ hQ (dB false) rfl rfl (j7 fun ha=>by have:=aj1 ha.2 hlt;omega)
  · (refine hKL _ _ _ ⟨k+1,by omega,iS hinv (by omega)⟩ (by omega) (by(try dsimp only);omega) (bU (Nat.le_refl _) (by repeat' (first| (with_reducible first|exact C1|refine C2 ?_ ?_)| ((with_reducible refine D0 ?_);exact CA rfl)|fail))))
 ·repeat' (first| (with_reducible first| (refine hK _ _ _ ?_;clear hK K)| (refine hB ?_;clear hA hB A B)|refine Z1 ?_|refine Z5 (by omega) ?_|refine hKX _ _ _ ?_)| (with_reducible first|refine Y2 fun K hK=> ?_|refine Y3 fun A B hA hB=> ?_)<;>(simp only[go_sem])| ((with_reducible first|refine Y8 ?_|refine Y9 ?_);try simp only[AQ.then,AQ.blk,reduceIte,Nat.reduceEqDiff])|fail)
  exact aZ hQ (dB true) rfl rfl (q9 ⟨by omega,aEA fun i hi=>hinv i (by omega)⟩)
theorem aMS {l:List Int} (hl:l.length<2^40) (h:K (dB (decide ((l.length:Int)=64∧All l 0 65535))) H nx):aB Tryz.prog aI7 [dA [.isl (l.map aJ)]] H nx K:=
 (aM3 l hl).pure rfl (aI ⟨aE rfl,trivial⟩) (fun r hr=>hr▸h)
theorem aMX (w u:List Int) (hw:w.length<2^40) (hu:u.length<2^40):aB Tryz.prog aIU [dA [.isl (w.map aJ),.isl (u.map aJ)]] .nil 0 fun rr _ _=>rr.plain=true∧rr=dB (decide (JS w u)):=by
 refine aLR rfl fun Q hQ=> ?_
 unfold aJM
 repeat' (first| (with_reducible first| (refine hK _ _ _ ?_;clear hK K)|refine Z1 ?_)| (first| (with_reducible first|refine Y2 fun K hK=> ?_|refine Y6 (fun h=> ?_) fun h=> ?_)| (with_reducible refine aMS hw ?_)| (with_reducible refine aCC (l:=u) hu ?_))<;>(simp only[go_sem])| ((with_reducible refine Y8 ?_);try simp only[AQ.then,AQ.blk,reduceIte,Nat.reduceEqDiff])|fail)
 all_goals first|with_reducible refine aZ hQ _ rfl rfl ?_|skip
 all_goals first|exact j7 (by unfold JS;grind)|exact pD (by unfold JS;grind)
theorem aKH {w:List Int} {u:List Int} (hw:w.length<2^40) (hu:u.length<2^40) (h:K (dB (decide (JS w u))) H nx):aB Tryz.prog aIU [dA [.isl (w.map aJ),.isl (u.map aJ)]] H nx K:=
 (aMX w u hw hu).pure rfl (aI ⟨aE rfl,trivial⟩) (fun r hr=>hr▸h)
end
end Go.Proofs.YtegiblhkjfiooaaGreat
end
section
namespace Go.Proofs.YtegiblhkjfiooaaGreat
open Go Go.AM
set_option maxRecDepth 100000
def aJP:AC:=
 (.seq (.region [rq 0 2 (.box true (.tm 0)),
 rq 1 3 (.box true (.tm 1)),
 rq 2 4 (.move (.kv (.bool false)))] 3 [2,3])
 (.seq (.seq (.region [rq 0 9 (.load 3 true (.tm 2)),
 rq 1 10 (.call aIV [(.tm 9)]),
 rq 2 11 (.un .not (.tm 10)),
 RM 3 12 11,
 GQ 4 13 (.fld 0 (.tm 3)) 12 false,
 GQ 5 14 (.load 2 true (.tm 13)) 12 false,
 GQ 6 15 (.call aIU [(.tm 14)]) 12 false,
 GQ 7 16 (.un .not (.tm 15)) 12 false,
 rq 8 17 (.pick (.tm 12) (.kv (.bool true)) (.tm 16)),
 RM 9 18 17,
 GQ 10 19 (.fld 2 (.tm 3)) 18 false,
 GQ 11 20 (.load 1 false (.tm 19)) 18 false,
 GQ 12 21 (.len false (.tm 20)) 18 false,
 GQ 13 22 (.bin .neq (.tm 21) (ki 3)) 18 false,
 rq 14 23 (.pick (.tm 18) (.kv (.bool true)) (.tm 22))] 15 [2,3,23])
 (.cond (.tm 23)
 (.seq (.region [rq 0 4 (.move (.kv (.bool false)))] 1 [4])
 .ret)
 .skip))
 (.seq (.region [rq 0 5 (.move (ki 0))] 1 [2,3,5])
 (.seq (.seq (.region [rq 0 6 (.move (ki 0))] 1 [2,3,5,6])
 (.block 0
 (.loop
 (.seq (.seq (.region [RM 0 24 6,
 rq 1 25 (.bin .lss (.tm 24) (ki 3))] 2 [2,3,5,6,25])
 (.cond (.tm 25)
 .skip
 (.exit 0)))
 (.seq (.block 1
 (.seq (.seq (.region [RF 0 28 2 3,
 RL 1 29 28,
 RM 2 30 6,
 rq 3 31 (.idx 1 (.tm 29) (.tm 30)),
 RL 4 32 31,
 RF 5 33 2 2,
 RL 6 34 33,
 RM 7 35 6,
 rq 8 36 (.idx 1 (.tm 34) (.tm 35)),
 RL 9 37 36,
 rq 10 38 (.len false (.tm 37)),
 rq 11 39 (.call y2 [(.tm 32),(ki 0),(.tm 38)]),
 rq 12 40 (.un .not (.tm 39))] 13 [2,3,5,6,40])
 (.cond (.tm 40)
 (.seq (.region [rq 0 4 (.move (.kv (.bool false)))] 1 [4])
 .ret)
 .skip))
 (.region [RM 0 41 5,
 RF 1 42 2 3,
 RL 2 43 42,
 RM 3 44 6,
 rq 4 45 (.idx 1 (.tm 43) (.tm 44)),
 RL 5 46 45,
 rq 6 47 (.bin .add (.tm 41) (.tm 46)),
 RM 7 5 47] 8 [2,3,5,6])))
 (.region [RM 0 26 6,
 rq 1 27 (.bin .add (.tm 26) (ki 1)),
 RM 2 6 27] 3 [2,3,5,6]))))))
 (.seq (.seq (.region [rq 0 48 (.load 3 true (.tm 2)),
 RF 1 49 2 3,
 RL 2 50 49,
 RF 3 51 3 3,
 RL 4 52 51,
 rq 5 53 (.call aIQ [(.tm 48),(.tm 50),(.tm 52),(.kv (.bool false))]),
 rq 6 54 (.un .not (.tm 53)),
 RM 7 55 54,
 GQ 8 56 (.load 3 true (.tm 2)) 55 false,
 GQ 9 57 (.fld 2 (.tm 3)) 55 false,
 GQ 10 58 (.load 1 false (.tm 57)) 55 false,
 GQ 11 59 (.fld 4 (.tm 3)) 55 false,
 GQ 12 60 (.load 1 false (.tm 59)) 55 false,
 GQ 13 61 (.call aIQ [(.tm 56),(.tm 58),(.tm 60),(.kv (.bool true))]) 55 false,
 GQ 14 62 (.un .not (.tm 61)) 55 false,
 rq 15 63 (.pick (.tm 55) (.kv (.bool true)) (.tm 62)),
 RM 16 64 63,
 GQ 17 65 (.load 3 true (.tm 2)) 64 false,
 GQ 18 66 (.load 6 true (.tm 3)) 64 false,
 GQ 19 67 (.call aIX [(.tm 65),(.tm 66)]) 64 false,
 GQ 20 68 (.un .not (.tm 67)) 64 false,
 rq 21 69 (.pick (.tm 64) (.kv (.bool true)) (.tm 68)),
 RM 22 70 69,
 GQ 23 71 (.fld 3 (.tm 3)) 70 false,
 GQ 24 72 (.load 1 false (.tm 71)) 70 false,
 GQ 25 73 (.len false (.tm 72)) 70 false,
 GQ 26 74 (.fld 4 (.tm 3)) 70 false,
 GQ 27 75 (.load 1 false (.tm 74)) 70 false,
 GQ 28 76 (.len false (.tm 75)) 70 false,
 GQ 29 77 (.bin .add (.tm 73) (.tm 76)) 70 false,
 GQ 30 78 (.fld 5 (.tm 3)) 70 false,
 GQ 31 79 (.load 1 false (.tm 78)) 70 false,
 GQ 32 80 (.len false (.tm 79)) 70 false,
 GQ 33 81 (.bin .add (.tm 77) (.tm 80)) 70 false,
 GQ 34 82 (.move (.tm 5)) 70 false,
 GQ 35 83 (.bin .neq (.tm 81) (.tm 82)) 70 false,
 rq 36 84 (.pick (.tm 70) (.kv (.bool true)) (.tm 83))] 37 [3,84])
 (.cond (.tm 84)
 (.seq (.region [rq 0 4 (.move (.kv (.bool false)))] 1 [4])
 .ret)
 .skip))
 (.seq (.seq (.region [rq 0 7 (.move (ki 0))] 1 [3,7])
 (.block 2
 (.loop
 (.seq (.seq (.region [RM 0 85 7,
 RF 1 86 5 3,
 RL 2 87 86,
 rq 3 88 (.len false (.tm 87)),
 rq 4 89 (.bin .lss (.tm 85) (.tm 88))] 5 [3,7,89])
 (.cond (.tm 89)
 .skip
 (.exit 2)))
 (.seq (.block 3
 (.seq (.region [RF 0 92 3 3,
 RL 1 93 92,
 RF 2 94 5 3,
 RL 3 95 94,
 RM 4 96 7,
 rq 5 97 (.idx 5 (.tm 95) (.tm 96)),
 RF 6 98 0 97,
 RL 7 99 98,
 RF 8 100 5 3,
 RL 9 101 100,
 RM 10 102 7,
 rq 11 103 (.idx 5 (.tm 101) (.tm 102)),
 RF 12 104 1 103,
 RL 13 105 104,
 rq 14 106 (.call aIN [(.tm 93),(.tm 99),(.tm 105)]),
 rq 15 107 (.bin .geq (.tm 106) (ki 0)),
 RM 16 108 107,
 GQ 17 109 (.fld 4 (.tm 3)) 108 false,
 GQ 18 110 (.load 1 false (.tm 109)) 108 false,
 GQ 19 111 (.fld 5 (.tm 3)) 108 false,
 GQ 20 112 (.load 1 false (.tm 111)) 108 false,
 GQ 21 113 (.move (.tm 7)) 108 false,
 GQ 22 114 (.idx 5 (.tm 112) (.tm 113)) 108 false,
 GQ 23 115 (.fld 0 (.tm 114)) 108 false,
 GQ 24 116 (.load 1 false (.tm 115)) 108 false,
 GQ 25 117 (.fld 5 (.tm 3)) 108 false,
 GQ 26 118 (.load 1 false (.tm 117)) 108 false,
 GQ 27 119 (.move (.tm 7)) 108 false,
 GQ 28 120 (.idx 5 (.tm 118) (.tm 119)) 108 false,
 GQ 29 121 (.fld 1 (.tm 120)) 108 false,
 GQ 30 122 (.load 1 false (.tm 121)) 108 false,
 GQ 31 123 (.call aIN [(.tm 110),(.tm 116),(.tm 122)]) 108 false,
 GQ 32 124 (.bin .geq (.tm 123) (ki 0)) 108 false,
 rq 33 125 (.pick (.tm 108) (.kv (.bool true)) (.tm 124))] 34 [3,7,125])
 (.cond (.tm 125)
 (.seq (.region [rq 0 4 (.move (.kv (.bool false)))] 1 [4])
 .ret)
 .skip)))
 (.region [RM 0 90 7,
 rq 1 91 (.bin .add (.tm 90) (ki 1)),
 RM 2 7 91] 3 [3,7]))))))
 (.seq (.seq (.region [rq 0 8 (.move (ki 0))] 1 [3,8])
 (.block 4
 (.loop
 (.seq (.seq (.region [RM 0 126 8,
 RF 1 127 4 3,
 RL 2 128 127,
 rq 3 129 (.len false (.tm 128)),
 rq 4 130 (.bin .lss (.tm 126) (.tm 129))] 5 [3,8,130])
 (.cond (.tm 130)
 .skip
 (.exit 4)))
 (.seq (.block 5
 (.seq (.region [RF 0 133 3 3,
 RL 1 134 133,
 RF 2 135 4 3,
 RL 3 136 135,
 RM 4 137 8,
 rq 5 138 (.idx 5 (.tm 136) (.tm 137)),
 RF 6 139 0 138,
 RL 7 140 139,
 RF 8 141 4 3,
 RL 9 142 141,
 RM 10 143 8,
 rq 11 144 (.idx 5 (.tm 142) (.tm 143)),
 RF 12 145 1 144,
 RL 13 146 145,
 rq 14 147 (.call aIN [(.tm 134),(.tm 140),(.tm 146)]),
 rq 15 148 (.bin .geq (.tm 147) (ki 0))] 16 [3,8,148])
 (.cond (.tm 148)
 (.seq (.region [rq 0 4 (.move (.kv (.bool false)))] 1 [4])
 .ret)
 .skip)))
 (.region [RM 0 131 8,
 rq 1 132 (.bin .add (.tm 131) (ki 1)),
 RM 2 8 132] 3 [3,8]))))))
 (.seq (.region [rq 0 4 (.move (.kv (.bool true)))] 1 [4])
 .ret))))))))
def aMI:List Cert:=[⟨[],[2,3]⟩,⟨[],[2,3,23]⟩,⟨[],[4]⟩,⟨[],[2,3,5]⟩,⟨[],[2,3,5,6]⟩,⟨[],[2,3,5,6,25]⟩,⟨[cz 0,cz 1,cz 2,cz 3,cz 4,cz 5,cz 6,cz 7,cz 8,cz 9,cz 10,cz 11,cz 12],[2,3,5,6,40]⟩,⟨[],[4]⟩,⟨[],[2,3,5,6]⟩,⟨[],[2,3,5,6]⟩,⟨[],[3,84]⟩,⟨[],[4]⟩,⟨[],[3,7]⟩,⟨[],[3,7,89]⟩,⟨[cz 0,cz 1,cz 2,cz 3,cz 4,cz 5,cz 6,cz 7,cz 8,cz 9,cz 10,cz 11,cz 12,cz 13,cz 14,cz 15,cz 16,cz 17,cz 18,cz 19,cz 20,cz 21,cz 22,cz 23,cz 24,cz 25,cz 26,cz 27,cz 28,cz 29,cz 30,cz 31,cz 32,cz 33],[3,7,125]⟩,⟨[],[4]⟩,⟨[],[3,7]⟩,⟨[],[3,8]⟩,⟨[],[3,8,130]⟩,⟨[cz 0,cz 1,cz 2,cz 3,cz 4,cz 5,cz 6,cz 7,cz 8,cz 9,cz 10,cz 11,cz 12,cz 13,cz 14,cz 15],[3,8,148]⟩,⟨[],[4]⟩,⟨[],[3,8]⟩,⟨[],[4]⟩]
def aKC:List aW:=[.tm 4]
theorem aMJ:aO Tryz.prog Tryz.f50 aMI=some (aJP,aKC):=by kernel_rfl
theorem aMM:aN Tryz.prog aI6 Tryz.f50 aJP aKC:=
 aN.mk Tryz.func50 (by kernel_rfl) aMJ
def aI9:AC:=
 (.seq (.region [rq 0 4 (.box true (.tm 0)),
 rq 1 8 (.move (.kv (.bool false)))] 2 [1,2,3,4])
 (.seq (.seq (.region [rq 0 9 (.move (ki 0))] 1 [1,2,3,4,9])
 (.block 0
 (.loop
 (.seq (.seq (.region [RM 0 11 9,
 RM 1 12 2,
 rq 2 13 (.len false (.tm 12)),
 rq 3 14 (.bin .lss (.tm 11) (.tm 13))] 4 [1,2,3,4,9,14])
 (.cond (.tm 14)
 .skip
 (.exit 0)))
 (.seq (.block 1
 (.seq (.region [RM 0 17 2,
 RM 1 18 9,
 rq 2 19 (.idx 5 (.tm 17) (.tm 18)),
 rq 3 20 (.load 5 true (.tm 19)),
 rq 4 10 (.alloc [VZ,VZ,VZ,VZ,OZ]),
 rn 5 (.store 5 true (.tm 10) (.tm 20))] 6 [1,2,3,4,9,10])
 (.seq (.seq (.region [RF 0 21 0 10,
 RL 1 22 21,
 rq 2 23 (.call y2 [(.tm 22),(ki 0),(ki 2)]),
 rq 3 24 (.un .not (.tm 23)),
 RM 4 25 24,
 GQ 5 26 (.fld 1 (.tm 10)) 25 false,
 GQ 6 27 (.load 1 false (.tm 26)) 25 false,
 GQ 7 28 (.move (.tm 1)) 25 false,
 GQ 8 29 (.fld 0 (.tm 10)) 25 false,
 GQ 9 30 (.load 1 false (.tm 29)) 25 false,
 GQ 10 31 (.idx 1 (.tm 28) (.tm 30)) 25 false,
 GQ 11 32 (.load 1 false (.tm 31)) 25 false,
 GQ 12 33 (.bin .sub (.tm 32) (ki 1)) 25 false,
 GQ 13 34 (.call y2 [(.tm 27),(ki 0),(.tm 33)]) 25 false,
 GQ 14 35 (.un .not (.tm 34)) 25 false,
 rq 15 36 (.pick (.tm 25) (.kv (.bool true)) (.tm 35)),
 RM 16 37 36,
 GQ 17 38 (.move (.tm 9)) 37 false,
 GQ 18 39 (.bin .gtr (.tm 38) (ki 0)) 37 false,
 GQ 19 40 (.move (.tm 39)) 37 false,
 GQ 20 41 (.move (.tm 2)) 40 true,
 GQ 21 42 (.move (.tm 9)) 40 true,
 GQ 22 43 (.bin .sub (.tm 42) (ki 1)) 40 true,
 GQ 23 44 (.idx 5 (.tm 41) (.tm 43)) 40 true,
 GQ 24 45 (.load 5 true (.tm 44)) 40 true,
 GQ 25 46 (.load 5 true (.tm 10)) 40 true,
 GQ 26 47 (.call aKL [(.tm 45),(.tm 46)]) 40 true,
 GQ 27 48 (.un .not (.tm 47)) 40 true,
 GQ 28 49 (.pick (.tm 40) (.tm 48) (.kv (.bool false))) 37 false,
 rq 29 50 (.pick (.tm 37) (.kv (.bool true)) (.tm 49))] 30 [1,2,3,4,9,10,50])
 (.cond (.tm 50)
 (.seq (.region [rq 0 8 (.move (.kv (.bool false)))] 1 [8])
 .ret)
 .skip))
 (.seq (.region [RM 0 51 3,
 RM 1 52 51,
 GQ 2 53 (.fld 2 (.tm 10)) 52 true,
 GQ 3 54 (.load 3 true (.tm 53)) 52 true,
 GQ 4 55 (.call aIP [(.tm 54)]) 52 true,
 GQ 5 56 (.un .not (.tm 55)) 52 true,
 GQ 6 57 (.move (.tm 56)) 52 true,
 GQ 7 58 (.fld 2 (.tm 10)) 57 false,
 GQ 8 59 (.fld 0 (.tm 58)) 57 false,
 GQ 9 60 (.load 1 false (.tm 59)) 57 false,
 GQ 10 61 (.fld 2 (.tm 4)) 57 false,
 GQ 11 62 (.load 1 false (.tm 61)) 57 false,
 GQ 12 63 (.fld 0 (.tm 10)) 57 false,
 GQ 13 64 (.load 1 false (.tm 63)) 57 false,
 GQ 14 65 (.idx 1 (.tm 62) (.tm 64)) 57 false,
 GQ 15 66 (.load 1 false (.tm 65)) 57 false,
 GQ 16 67 (.fld 1 (.tm 10)) 57 false,
 GQ 17 68 (.load 1 false (.tm 67)) 57 false,
 GQ 18 69 (.idx 7 (.tm 66) (.tm 68)) 57 false,
 GQ 19 70 (.fld 0 (.tm 69)) 57 false,
 GQ 20 71 (.load 1 false (.tm 70)) 57 false,
 GQ 21 72 (.bin .neq (.tm 60) (.tm 71)) 57 false,
 GQ 22 73 (.pick (.tm 57) (.kv (.bool true)) (.tm 72)) 52 true,
 rq 23 74 (.pick (.tm 52) (.tm 73) (.kv (.bool false))),
 RM 24 75 74,
 GQ 25 76 (.move (.tm 3)) 75 false,
 GQ 26 77 (.un .not (.tm 76)) 75 false,
 GQ 27 78 (.move (.tm 77)) 75 false,
 GQ 28 79 (.fld 2 (.tm 10)) 78 true,
 GQ 29 80 (.fld 0 (.tm 79)) 78 true,
 GQ 30 81 (.load 1 false (.tm 80)) 78 true,
 GQ 31 82 (.bin .neq (.tm 81) (ki 0)) 78 true,
 GQ 32 83 (.move (.tm 82)) 78 true,
 GQ 33 84 (.fld 2 (.tm 10)) 83 false,
 GQ 34 85 (.fld 1 (.tm 84)) 83 false,
 GQ 35 86 (.load 1 false (.tm 85)) 83 false,
 GQ 36 87 (.bin .neq (.tm 86) (ki 0)) 83 false,
 GQ 37 88 (.pick (.tm 83) (.kv (.bool true)) (.tm 87)) 78 true,
 GQ 38 89 (.move (.tm 88)) 78 true,
 GQ 39 90 (.fld 2 (.tm 10)) 89 false,
 GQ 40 91 (.fld 2 (.tm 90)) 89 false,
 GQ 41 92 (.load 1 false (.tm 91)) 89 false,
 GQ 42 93 (.len false (.tm 92)) 89 false,
 GQ 43 94 (.bin .neq (.tm 93) (ki 0)) 89 false,
 GQ 44 95 (.pick (.tm 89) (.kv (.bool true)) (.tm 94)) 78 true,
 GQ 45 96 (.pick (.tm 78) (.tm 95) (.kv (.bool false))) 75 false,
 rq 46 97 (.pick (.tm 75) (.kv (.bool true)) (.tm 96))] 47 [1,2,3,4,9,97])
 (.cond (.tm 97)
 (.seq (.region [rq 0 8 (.move (.kv (.bool false)))] 1 [8])
 .ret)
 .skip)))))
 (.region [RM 0 15 9,
 rq 1 16 (.bin .add (.tm 15) (ki 1)),
 RM 2 9 16] 3 [1,2,3,4,9]))))))
 (.seq (.region [rq 0 8 (.move (.kv (.bool true)))] 1 [8])
 .ret)))
def aLC:List Cert:=[⟨[],[1,2,3,4]⟩,⟨[],[1,2,3,4,9]⟩,⟨[],[1,2,3,4,9,14]⟩,⟨[],[1,2,3,4,9,10]⟩,⟨[cz 0,cz 1,cz 2,cz 3,cz 4,cz 5,cz 6,cz 7,cz 8,cz 9,cz 10,cz 11,cz 12,cz 13,cz 14,cz 15,cz 16,cz 17,cz 18,cz 19,cz 20,cz 21,cz 22,cz 23,cz 24,cz 25,cz 26,cz 27,cz 28,cz 29],[1,2,3,4,9,10,50]⟩,⟨[],[8]⟩,⟨[cz 0,cz 1,cz 2,cz 3,cz 4,cz 5,cz 6,cz 7,cz 8,cz 9,cz 10,cz 11,cz 12,cz 13,cz 14,cz 15,cz 16,cz 17,cz 18,cz 19,cz 20,cz 21,cz 22,cz 23,cz 24,cz 25,cz 26,cz 27,cz 28,cz 29,cz 30,cz 31,cz 32,cz 33,cz 34,cz 35,cz 36,cz 37,cz 38,cz 39,cz 40,cz 41,cz 42,cz 43,cz 44,cz 45,cz 46],[1,2,3,4,9,97]⟩,⟨[],[8]⟩,⟨[],[1,2,3,4,9]⟩,⟨[],[8]⟩]
def aJ1:List aW:=[.tm 8]
theorem aKV:aO Tryz.prog Tryz.f102 aLC=some (aI9,aJ1):=by kernel_rfl
theorem aKZ:aN Tryz.prog aIQ Tryz.f102 aI9 aJ1:=
 aN.mk Tryz.func102 (by kernel_rfl) aKV
def aJD:AC:=
 (.seq (.region [rq 0 2 (.box true (.tm 0)),
 rq 1 3 (.box true (.tm 1)),
 rq 2 4 (.move (.kv (.bool false)))] 3 [2,3])
 (.seq (.seq (.region [rq 0 5 (.move (ki 0))] 1 [2,3,5])
 (.block 0
 (.loop
 (.seq (.seq (.region [RM 0 7 5,
 RF 1 8 5 3,
 RL 2 9 8,
 rq 3 10 (.len false (.tm 9)),
 rq 4 11 (.bin .lss (.tm 7) (.tm 10))] 5 [2,3,5,11])
 (.cond (.tm 11)
 .skip
 (.exit 0)))
 (.seq (.block 1
 (.seq (.region [RF 0 14 5 3,
 RL 1 15 14,
 RM 2 16 5,
 rq 3 17 (.idx 5 (.tm 15) (.tm 16)),
 rq 4 18 (.load 5 true (.tm 17)),
 rq 5 6 (.alloc [VZ,VZ,VZ,VZ,OZ]),
 rn 6 (.store 5 true (.tm 6) (.tm 18))] 7 [2,3,5,6])
 (.seq (.region [RF 0 19 0 6,
 RL 1 20 19,
 rq 2 21 (.call y2 [(.tm 20),(ki 0),(ki 2)]),
 rq 3 22 (.un .not (.tm 21)),
 RM 4 23 22,
 GQ 5 24 (.fld 1 (.tm 6)) 23 false,
 GQ 6 25 (.load 1 false (.tm 24)) 23 false,
 GQ 7 26 (.fld 2 (.tm 3)) 23 false,
 GQ 8 27 (.load 1 false (.tm 26)) 23 false,
 GQ 9 28 (.fld 0 (.tm 6)) 23 false,
 GQ 10 29 (.load 1 false (.tm 28)) 23 false,
 GQ 11 30 (.idx 1 (.tm 27) (.tm 29)) 23 false,
 GQ 12 31 (.load 1 false (.tm 30)) 23 false,
 GQ 13 32 (.bin .sub (.tm 31) (ki 1)) 23 false,
 GQ 14 33 (.call y2 [(.tm 25),(ki 0),(.tm 32)]) 23 false,
 GQ 15 34 (.un .not (.tm 33)) 23 false,
 rq 16 35 (.pick (.tm 23) (.kv (.bool true)) (.tm 34)),
 RM 17 36 35,
 GQ 18 37 (.fld 2 (.tm 6)) 36 false,
 GQ 19 38 (.load 3 true (.tm 37)) 36 false,
 GQ 20 39 (.call aIP [(.tm 38)]) 36 false,
 GQ 21 40 (.un .not (.tm 39)) 36 false,
 rq 22 41 (.pick (.tm 36) (.kv (.bool true)) (.tm 40)),
 RM 23 42 41,
 GQ 24 43 (.fld 2 (.tm 6)) 42 false,
 GQ 25 44 (.fld 0 (.tm 43)) 42 false,
 GQ 26 45 (.load 1 false (.tm 44)) 42 false,
 GQ 27 46 (.fld 2 (.tm 2)) 42 false,
 GQ 28 47 (.load 1 false (.tm 46)) 42 false,
 GQ 29 48 (.fld 0 (.tm 6)) 42 false,
 GQ 30 49 (.load 1 false (.tm 48)) 42 false,
 GQ 31 50 (.idx 1 (.tm 47) (.tm 49)) 42 false,
 GQ 32 51 (.load 1 false (.tm 50)) 42 false,
 GQ 33 52 (.fld 1 (.tm 6)) 42 false,
 GQ 34 53 (.load 1 false (.tm 52)) 42 false,
 GQ 35 54 (.idx 7 (.tm 51) (.tm 53)) 42 false,
 GQ 36 55 (.fld 0 (.tm 54)) 42 false,
 GQ 37 56 (.load 1 false (.tm 55)) 42 false,
 GQ 38 57 (.bin .neq (.tm 45) (.tm 56)) 42 false,
 rq 39 58 (.pick (.tm 42) (.kv (.bool true)) (.tm 57)),
 RM 40 59 58,
 GQ 41 60 (.fld 5 (.tm 3)) 59 false,
 GQ 42 61 (.load 1 false (.tm 60)) 59 false,
 GQ 43 62 (.move (.tm 5)) 59 false,
 GQ 44 63 (.slc 5 (.tm 61) none (some (.tm 62)) none) 59 false,
 GQ 45 64 (.fld 0 (.tm 6)) 59 false,
 GQ 46 65 (.load 1 false (.tm 64)) 59 false,
 GQ 47 66 (.fld 1 (.tm 6)) 59 false,
 GQ 48 67 (.load 1 false (.tm 66)) 59 false,
 GQ 49 68 (.call aIN [(.tm 63),(.tm 65),(.tm 67)]) 59 false,
 GQ 50 69 (.bin .geq (.tm 68) (ki 0)) 59 false,
 rq 51 70 (.pick (.tm 59) (.kv (.bool true)) (.tm 69))] 52 [2,3,5,70])
 (.cond (.tm 70)
 (.seq (.region [rq 0 4 (.move (.kv (.bool false)))] 1 [4])
 .ret)
 .skip))))
 (.region [RM 0 12 5,
 rq 1 13 (.bin .add (.tm 12) (ki 1)),
 RM 2 5 13] 3 [2,3,5]))))))
 (.seq (.region [rq 0 4 (.move (.kv (.bool true)))] 1 [4])
 .ret)))
def aK4:List Cert:=[⟨[],[2,3]⟩,⟨[],[2,3,5]⟩,⟨[],[2,3,5,11]⟩,⟨[],[2,3,5,6]⟩,⟨[cz 0,cz 1,cz 2,cz 3,cz 4,cz 5,cz 6,cz 7,cz 8,cz 9,cz 10,cz 11,cz 12,cz 13,cz 14,cz 15,cz 16,cz 17,cz 18,cz 19,cz 20,cz 21,cz 22,cz 23,cz 24,cz 25,cz 26,cz 27,cz 28,cz 29,cz 30,cz 31,cz 32,cz 33,cz 34,cz 35,cz 36,cz 37,cz 38,cz 39,cz 40,cz 41,cz 42,cz 43,cz 44,cz 45,cz 46,cz 47,cz 48,cz 49,cz 50,cz 51],[2,3,5,70]⟩,⟨[],[4]⟩,⟨[],[2,3,5]⟩,⟨[],[4]⟩]
def aJY:List aW:=[.tm 4]
theorem aK1:aO Tryz.prog Tryz.f103 aK4=some (aJD,aJY):=by kernel_rfl
theorem aK7:aN Tryz.prog aIX Tryz.f103 aJD aJY:=
 aN.mk Tryz.func103 (by kernel_rfl) aK1
end Go.Proofs.YtegiblhkjfiooaaGreat
end
section
namespace Go.Proofs.YtegiblhkjfiooaaGreat
open Go Go.AM
set_option maxRecDepth 100000
set_option maxHeartbeats 4000000
attribute [go_sem] agE ai7
section
variable {H : aA} {nx : Nat} {K : D → aA → Nat → Prop}
theorem aM4 (l:List Job) (who n:Int) (hl:l.length<2^40):aB Tryz.prog aIN [dS (l.map aS),dI who,dI n] .nil 0 fun rr _ _=>rr.plain=true∧rr=dI (bK (iM who n) l):=by
 refine aM1 rfl fun Q hQ=> ?_
 unfold aJR
 repeat' (first| (with_reducible first| (refine hK _ _ _ ?_;clear hK K)|refine Z1 ?_|refine Z3 fun KB hKB=> ?_)| (with_reducible refine Y2 fun K hK=> ?_)<;>(simp only[go_sem])|fail)
 (have hKX:=hKB;clear hKB);(refine aM.loop (α:={k:Nat//k≤l.length∧(∀i,i<k→iM who n (l.getD i default)=false)}) (fun u=>en [(7,dI u.1),(2,dI n),(1,dI who),(0,dS (l.map aS))]) (fun _=>.nil) _ (fun u=>l.length-u.1) ⟨0,by omega,(by intros;first|trivial|omega)⟩ (bU (Nat.le_refl _) (by repeat' (first| (with_reducible first|exact C1|refine C2 ?_ ?_)| ((with_reducible refine D0 ?_);exact CA rfl)|fail))) ?_);(rintro⟨k,hk,hinv⟩ KL hKL)
 repeat' (first| (with_reducible first| (refine hK _ _ _ ?_;clear hK K)| (refine hA ?_;clear hA hB A B)| (refine hB ?_;clear hA hB A B)|refine Z1 ?_|refine Z2 ?_|refine Z3 fun KB hKB=> ?_|refine Z6 (fun h=> ?_) fun h=> ?_|refine hKX _ _ _ ?_)| (with_reducible first|refine Y2 fun K hK=> ?_|refine Y3 fun A B hA hB=> ?_|refine Y6 (fun h=> ?_) fun h=> ?_)<;>(simp only[go_sem];try simp (disch:=omega) only[Iw])| ((with_reducible first|refine Y8 ?_|refine Y9 ?_);try simp only[AQ.then,AQ.blk,reduceIte,Nat.reduceEqDiff])| ((with_reducible refine Y0 ?_);simp only[AQ.then,AQ.blk])|refine⟨by omega,?_⟩| (with_reducible refine hKB _ _ _ ?_)|fail)
 ·refine aZ hQ _ rfl rfl (qA (Eq.symm (CU (by omega) (decide_eq_true (by omega)) hinv)))
 · (refine hKL _ _ _ ⟨k+1,by omega,iS hinv (decide_eq_false (by omega))⟩ (by omega) (by(try dsimp only);omega) (bU (Nat.le_refl _) (by repeat' (first| (with_reducible first|exact C1|refine C2 ?_ ?_)| ((with_reducible refine D0 ?_);exact CA rfl)|fail))))
 · (refine hKL _ _ _ ⟨k+1,by omega,iS hinv (decide_eq_false (by omega))⟩ (by omega) (by(try dsimp only);omega) (bU (Nat.le_refl _) (by repeat' (first| (with_reducible first|exact C1|refine C2 ?_ ?_)| ((with_reducible refine D0 ?_);exact CA rfl)|fail))))
 ·refine aZ hQ _ rfl rfl (qA (Eq.symm (tI fun i hi=>hinv i (by omega))))
theorem aKK {l:List Job} {who:Int} {n:Int} (hl:l.length<2^40) (h:K (dI (bK (iM who n) l)) H nx):aB Tryz.prog aIN [dS (l.map aS),dI who,dI n] H nx K:=
 (aM4 l who n hl).pure rfl (aI ⟨aE rfl,aE rfl,aE rfl,trivial⟩) (fun r hr=>hr▸h)
end
end Go.Proofs.YtegiblhkjfiooaaGreat
end
section
namespace Go.Proofs.YtegiblhkjfiooaaGreat
open Go Go.AM
set_option maxRecDepth 100000
set_option maxHeartbeats 8000000
theorem aM6 {l:List Job} {k:Nat} (hn:(l.map key).Nodup) (hk:k<l.length):bK (iM (l.getD k default).who (l.getD k default).n) (l.take k)= -1:=by
 refine tI fun i hi=> ?_
 have hi':i<k:=by simp at hi;omega
 have e:(l.take k).getD i default=l.getD i default:=by simp[List.getD,hi']
 rw[e]
 refine decide_eq_false fun h=> ?_
 have h1:(l.map key)[i]'(by simp;omega)=(l.map key)[k]'(by simp;omega):=by
  have az9:l.getD i default=l[i]:=by simp[List.getD,show i<l.length by omega]
  have az2:l.getD k default=l[k]:=by simp[List.getD,hk]
  rw[az9,az2] at h
  simp[key,h.1,h.2]
 exact absurd h1 (List.pairwise_iff_getElem.1 hn i k (by simp;omega) (by simp;omega) hi')
section
variable {H : aA} {nx : Nat} {K : D → aA → Nat → Prop}
theorem aL0 (c:Cfg) (a:List Int) (l:List Job) (b:Bool) (hl:l=[]):aB Tryz.prog aIQ [dA (cU c),dS (a.map aJ),dS (l.map aS),dB b] .nil 0 fun rr _ _=>rr.plain=true∧rr=dB true:=by
 refine aKZ rfl fun Q hQ=> ?_
 unfold aI9
 subst hl
 repeat' (first| (with_reducible first| (refine hK _ _ _ ?_;clear hK K)|refine Z1 ?_|refine Z3 fun KB hKB=> ?_)| (with_reducible refine Y2 fun K hK=> ?_)<;>(simp only[go_sem])|fail)
 (have hKX:=hKB;clear hKB);(refine aM.loop (α:={k:Nat//k≤0∧(True)}) (fun u=>en [(9,dI u.1),(4,.one (.c (.fQ (cU c)))),(3,dB b),(2,dS (([]:List Job).map aS)),(1,dS (a.map aJ))]) (fun _=>.nil) _ (fun u=>0-u.1) ⟨0,by omega,(by intros;first|trivial|omega)⟩ (bU (Nat.le_refl _) (by repeat' (first| (with_reducible first|exact C1|refine C2 ?_ ?_)| ((with_reducible refine D0 ?_);first|exact CA rfl|exact CI rfl (by simp) rfl rfl rfl)|fail))) ?_);(rintro⟨k,hk,hinv⟩ KL hKL)
 repeat' (first| (with_reducible first| (refine hK _ _ _ ?_;clear hK K)| (refine hB ?_;clear hA hB A B)|refine Z1 ?_|refine Z5 (by omega) ?_|refine hKX _ _ _ ?_)| (with_reducible first|refine Y2 fun K hK=> ?_|refine Y3 fun A B hA hB=> ?_)<;>(simp only[go_sem])| ((with_reducible first|refine Y8 ?_|refine Y9 ?_);try simp only[AQ.then,AQ.blk,reduceIte,Nat.reduceEqDiff])|fail)
 all_goals exact aZ hQ _ rfl rfl rfl
theorem aMA {c:Cfg} {a:List Int} {l:List Job} {b:Bool} (hl:l=[]) (h:K (dB true) H nx):aB Tryz.prog aIQ [dA (cU c),dS (a.map aJ),dS (l.map aS),dB b] H nx K:=
 (aL0 c a l b hl).pure rfl (aI ⟨aE rfl,aE rfl,aE rfl,aE rfl,trivial⟩) (fun r hr=>hr▸h)
theorem aL5 (c:Cfg) (s:TSt) (hb:aQ c) (hs:BA c s):aB Tryz.prog aIX [dA (cU c),dA (eSt s)] .nil 0 fun rr _ _=>rr.plain=true∧rr=dB true:=by
 refine aK7 rfl fun Q hQ=> ?_
 unfold aJD
 obtain⟨hp3,hp12⟩:=hC hb
 have hlen:=hs.lens hb
 have hal:=hs.JI
 repeat' (first| (with_reducible first| (refine hK _ _ _ ?_;clear hK K)|refine Z1 ?_|refine Z3 fun KB hKB=> ?_)| (with_reducible refine Y2 fun K hK=> ?_)<;>(simp only[go_sem])|fail)
 (have hKX:=hKB;clear hKB);(refine aM.loop (α:={k:Nat//k≤s.told.length∧(True)}) (fun u=>en [(5,dI u.1),(3,.one (.c (.fQ (eSt s)))),(2,.one (.c (.fQ (cU c))))]) (fun _=>.nil) _ (fun u=>s.told.length-u.1) ⟨0,by omega,(by intros;first|trivial|omega)⟩ (bU (Nat.le_refl _) (by repeat' (first| (with_reducible first|exact C1|refine C2 ?_ ?_)| ((with_reducible refine D0 ?_);first|exact CA rfl|exact CI rfl (by simp) rfl rfl rfl)|fail))) ?_);(rintro⟨k,hk,hinv⟩ KL hKL)
 by_cases hlt:k<s.told.length
 ·have hnd:=aM6 (l:=s.told) (k:=k) (by have:=hs.nodup;unfold keys at this;rw[List.map_append] at this;exact(List.nodup_append.1 this).2.1) hlt
  obtain⟨j,hj⟩: ∃j,j=s.told.getD k default:=⟨_,rfl⟩
  have hj':=hj.symm
  have hm:j∈s.told:=by rw[hj];exact cC hlt
  rw[hj'] at hnd
  obtain⟨hr1,hr2⟩:=hs.R8 j (List.mem_append_right _ hm)
  have hkey:=hs.ab8 (key j) (List.mem_map_of_mem (List.mem_append_right _ hm))
  obtain⟨⟨k1,k2⟩,k3,k4⟩:=hkey
  simp only[key] at k1 k2 k3 k4
  have hask:=(hs.DC j.who.toNat (by omega)).2
  have hid:j.rsp.id=((c.cP.getD j.who.toNat default).getD j.n.toNat default).id:=hr2
  have hw12:=hp12 j.who.toNat
  have hdl:=hr1.2.2.1
  have e1:(0≤j.who∧j.who≤2)=True:=eq_true ⟨k1,k2⟩
  have e2:(0≤j.n∧j.n≤s.asked.getD j.who.toNat default-1)=True:=eq_true (by omega)
  have e3:=eq_true hr1
  repeat' (first| (with_reducible first| (refine hK _ _ _ ?_;clear hK K)| (refine hA ?_;clear hA hB A B)| (refine hB ?_;clear hA hB A B)|refine Z1 ?_|refine Z2 ?_|refine Z3 fun KB hKB=> ?_|refine Z4 (by omega) ?_)| (first| (with_reducible first|refine Y2 fun K hK=> ?_|refine Y3 fun A B hA hB=> ?_)| (with_reducible refine aBC ?_)| (with_reducible refine aMP (show j.rsp.data.length<2^40 by omega) ?_)| (with_reducible refine aKK (l:=s.told.take k) (by simp;omega) ?_))<;>(simp only[go_sem,hj',e1,e2,e3,hid.symm,hnd,hp3,hal];try simp (disch:=omega) only[Iw])| ((with_reducible refine Y0 ?_);simp only[AQ.then,AQ.blk])|refine⟨by omega,?_⟩| (with_reducible refine hKB _ _ _ ?_)|fail)
  all_goals (refine hKL _ _ _ ⟨k+1,by omega,trivial⟩ (by omega) (by(try dsimp only);omega) (bU (Nat.le_refl _) (by repeat' (first| (with_reducible first|exact C1|refine C2 ?_ ?_)| ((with_reducible refine D0 ?_);exact CA rfl)|fail))))
 ·repeat' (first| (with_reducible first| (refine hK _ _ _ ?_;clear hK K)| (refine hB ?_;clear hA hB A B)|refine Z1 ?_|refine Z5 (by omega) ?_|refine hKX _ _ _ ?_)| (with_reducible first|refine Y2 fun K hK=> ?_|refine Y3 fun A B hA hB=> ?_)<;>(simp only[go_sem])| ((with_reducible first|refine Y8 ?_|refine Y9 ?_);try simp only[AQ.then,AQ.blk,reduceIte,Nat.reduceEqDiff])|fail)
  all_goals exact aZ hQ _ rfl rfl rfl
theorem aMG {c:Cfg} {s:TSt} (hb:aQ c) (hs:BA c s) (h:K (dB true) H nx):aB Tryz.prog aIX [dA (cU c),dA (eSt s)] H nx K:=
 (aL5 c s hb hs).pure rfl (aI ⟨aE rfl,aE rfl,trivial⟩) (fun r hr=>hr▸h)
theorem aM2 (c:Cfg) (s:TSt) (hb:aQ c) (hcf:jO c) (hs:BA c s) (hw:s.wait=[]) (hd:s.done=[]):aB Tryz.prog aI6 [dA (cU c),dA (eSt s)] .nil 0 fun rr _ _=>rr.plain=true∧rr=dB true:=by
 refine aMM rfl fun Q hQ=> ?_
 unfold aJP
 obtain⟨hp3,hp12⟩:=hC hb
 have hlen:=hs.lens hb
 have hal:=hs.JI
 have hwl:=hs.atm.wl
 have hhl:=hs.atm.hl
 have e1:=eq_true hb
 have e2:=eq_true (ZS hs.atm)
 have hcnt:=hs.count
 rw[hw,hd] at hcnt hlen
 have hnoW: ∀{H:aA} {nx:Nat} {K:D→aA→Nat→Prop} (w n:Int),K (dI (-1)) H nx→aB Tryz.prog aIN [.one (.c (.isl [])),dI w,dI n] H nx K:=fun w n h=>aKK (l:=[]) (by simp) h
 repeat' (first| (with_reducible first| (refine hK _ _ _ ?_;clear hK K)| (refine hB ?_;clear hA hB A B)|refine Z1 ?_|refine Z2 ?_|refine Z3 fun KB hKB=> ?_|refine Z5 (by omega) ?_)| (first| (with_reducible first|refine Y2 fun K hK=> ?_|refine Y3 fun A B hA hB=> ?_)| (with_reducible refine aKG hcf ?_)| (with_reducible refine aKH (by omega) (by omega) ?_))<;>(simp only[go_sem,hw,hd,e1,e2,hal])|fail)
 have hsz: ∀k,k≤3→0≤jS (fun j=>s.asked.getD j default) k∧jS (fun j=>s.asked.getD j default) k≤12*k:=fun k hk=>KF (m:=12) (by omega) k fun j hj=>by have:=hs.DC j (by omega);have:=hp12 j;(try dsimp only);omega
 have hsum3:jS (fun j=>s.asked.getD j default) 3=s.told.length:=by simp[jS] at hcnt ⊢;omega
 (have hKX:=hKB;clear hKB);(refine aM.loop (α:={k:Nat//k≤3∧(True)}) (fun u=>en [(6,dI u.1),(5,dI (jS (fun j=>s.asked.getD j default) u.1)),(3,.one (.c (.fQ (eSt s)))),(2,.one (.c (.fQ (cU c))))]) (fun _=>.nil) _ (fun u=>3-u.1) ⟨0,by omega,(by intros;first|trivial|omega)⟩ (bU (Nat.le_refl _) (by repeat' (first| (with_reducible first|exact C1|refine C2 ?_ ?_)| ((with_reducible refine D0 ?_);first|exact CA rfl|exact CI rfl (by simp) rfl rfl rfl)|fail))) ?_);(rintro⟨k,hk,hinv⟩ KL hKL)
 have hz:=hsz k hk
 by_cases hlt:k<3
 ·have hr:=hs.DC k hlt
  have hpk:=hp12 k
  have e3:(0≤s.asked.getD k default∧s.asked.getD k default≤((c.cP.getD k default).length:Int))=True:=eq_true hr
  have hss:jS (fun j=>s.asked.getD j default) (k+1)=jS (fun j=>s.asked.getD j default) k+s.asked.getD k default:=rfl
  repeat' (first| (with_reducible first| (refine hK _ _ _ ?_;clear hK K)| (refine hA ?_;clear hA hB A B)| (refine hB ?_;clear hA hB A B)|refine Z1 ?_|refine Z2 ?_|refine Z3 fun KB hKB=> ?_|refine Z4 (by omega) ?_)| (first| (with_reducible first|refine Y2 fun K hK=> ?_|refine Y3 fun A B hA hB=> ?_)| (with_reducible refine aBC ?_))<;>(simp only[go_sem,e3,hp3,hal];try simp (disch:=omega) only[Iw])| ((with_reducible refine Y0 ?_);simp only[AQ.then,AQ.blk])|refine⟨by omega,?_⟩| (with_reducible refine hKB _ _ _ ?_)|fail)
  all_goals (rw[←hss];(refine hKL _ _ _ ⟨k+1,by omega,trivial⟩ (by omega) (by(try dsimp only);omega) (bU (Nat.le_refl _) (by repeat' (first| (with_reducible first|exact C1|refine C2 ?_ ?_)| ((with_reducible refine D0 ?_);exact CA rfl)|fail)))))
 ·have hk3:k=3:=by omega
  subst hk3
  rw[hsum3]
  repeat' (first| (with_reducible first| (refine hK _ _ _ ?_;clear hK K)| (refine hB ?_;clear hA hB A B)|refine Z1 ?_|refine Z2 ?_|refine Z3 fun KB hKB=> ?_|refine Z5 (by omega) ?_|refine hKX _ _ _ ?_)| (first| (with_reducible first|refine Y2 fun K hK=> ?_|refine Y3 fun A B hA hB=> ?_)| (refine aMA rfl ?_)| (with_reducible refine aMG hb hs ?_))<;>(simp only[go_sem,hw,hd];try simp (disch:=omega) only[Iw])| ((with_reducible refine Y9 ?_);try simp only[AQ.then,AQ.blk,reduceIte,Nat.reduceEqDiff])|fail)
  (have hKZ:=hKB;clear hKB)
  refine aM.loop (α:={k:Nat//k≤s.told.length}) (fun u=>en [(7,dI u.1),(3,.one (.c (.fQ (eSt s))))]) (fun _=>.nil) _ (fun u=>s.told.length-u.1) ⟨0,by omega⟩ (bU (Nat.le_refl _) (by repeat' (first| (with_reducible first|exact C1|refine C2 ?_ ?_)| ((with_reducible refine D0 ?_);exact CA rfl)|fail))) ?_
  rintro⟨k,hk⟩ KL hKL
  by_cases hlt:k<s.told.length
  ·repeat' (first| (with_reducible first| (refine hK _ _ _ ?_;clear hK K)| (refine hA ?_;clear hA hB A B)| (refine hB ?_;clear hA hB A B)|refine Z1 ?_|refine Z2 ?_|refine Z3 fun KB hKB=> ?_|refine Z4 (by omega) ?_)| (first| (with_reducible first|refine Y2 fun K hK=> ?_|refine Y3 fun A B hA hB=> ?_)| (with_reducible refine hnoW _ _ ?_))<;>(simp only[go_sem,hw,hd];try simp (disch:=omega) only[Iw])| ((with_reducible refine Y0 ?_);simp only[AQ.then,AQ.blk])|refine⟨by omega,?_⟩| (with_reducible refine hKB _ _ _ ?_)|fail)
   all_goals exact hKL _ _ _ ⟨k+1,by omega⟩ (by omega) (by(try dsimp only);omega) (bU (Nat.le_refl _) (by repeat' (first| (with_reducible first|exact C1|refine C2 ?_ ?_)| ((with_reducible refine D0 ?_);exact CA rfl)|fail)))
  ·repeat' (first| (with_reducible first| (refine hK _ _ _ ?_;clear hK K)| (refine hB ?_;clear hA hB A B)|refine Z1 ?_|refine Z3 fun KB hKB=> ?_|refine Z5 (by omega) ?_|refine hKZ _ _ _ ?_)| (with_reducible first|refine Y2 fun K hK=> ?_|refine Y3 fun A B hA hB=> ?_)<;>(simp only[go_sem,hw,hd])| ((with_reducible refine Y9 ?_);try simp only[AQ.then,AQ.blk,reduceIte,Nat.reduceEqDiff])|fail)
   (have hKW:=hKB;clear hKB)
   refine aM.loop (α:=Unit) (fun u=>en [(8,dI 0),(3,.one (.c (.fQ (eSt s))))]) (fun _=>.nil) _ (fun u=>0) () (bU (Nat.le_refl _) (by repeat' (first| (with_reducible first|exact C1|refine C2 ?_ ?_)| ((with_reducible refine D0 ?_);exact CA rfl)|fail))) ?_
   rintro _ KM hKM
   repeat' (first| (with_reducible first| (refine hK _ _ _ ?_;clear hK K)| (refine hB ?_;clear hA hB A B)|refine Z1 ?_|refine Z5 (by omega) ?_)| (with_reducible first|refine Y2 fun K hK=> ?_|refine Y3 fun A B hA hB=> ?_)<;>(simp only[go_sem,hw,hd])| ((with_reducible refine Y9 ?_);try simp only[AQ.then,AQ.blk,reduceIte,Nat.reduceEqDiff])|fail)
   refine hKW _ _ _ ?_
   repeat' (first| (with_reducible first| (refine hK _ _ _ ?_;clear hK K)|refine Z1 ?_)| (with_reducible refine Y2 fun K hK=> ?_)<;>(simp only[go_sem])| ((with_reducible refine Y8 ?_);try simp only[AQ.then,AQ.blk,reduceIte,Nat.reduceEqDiff])|fail)
   all_goals exact aZ hQ _ rfl rfl rfl
theorem aMQ {c:Cfg} {s:TSt} (hb:aQ c) (hcf:jO c) (hs:BA c s) (hw:s.wait=[]) (hd:s.done=[]) (h:K (dB true) H nx):aB Tryz.prog aI6 [dA (cU c),dA (eSt s)] H nx K:=
 (aM2 c s hb hcf hs hw hd).pure rfl (aI ⟨aE rfl,aE rfl,trivial⟩) (fun r hr=>hr▸h)
end
end Go.Proofs.YtegiblhkjfiooaaGreat
end
