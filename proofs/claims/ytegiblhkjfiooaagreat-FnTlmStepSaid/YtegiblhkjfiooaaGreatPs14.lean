/- Texts laid together by a program: rules, contracts and the walk that leads to the law. -/
import Derived.Test.YtegiblhkjfiooaaGreatPs13
import Derived.Test.YtegiblhkjfiooaaGreatPs9
import Derived.Test.YtegiblhkjfiooaaGreatPs4
import Derived.Test.YtegiblhkjfiooaaGreatPs3
set_option linter.unusedVariables false
set_option linter.unusedSimpArgs false
set_option linter.unusedSectionVars false
section
namespace Go.Proofs.YtegiblhkjfiooaaGreat
open Go Go.AM
set_option maxRecDepth 100000
set_option maxHeartbeats 4000000
section
variable {H : aA} {nx : Nat} {K : D → aA → Nat → Prop}
theorem aD7 (l:List Rng) (hl:l.length<2^40):aB Tryz.prog aBG [dS (l.map eN)] .nil 0 fun rr _ _=>rr.plain=true∧rr=dB (decide (DH l)):=by
 refine aDM rfl fun Q hQ=> ?_
 unfold aBO
 by_cases hl4:(l.length:Int)≤4
 ·repeat' (first| (with_reducible first| (refine hK _ _ _ ?_;clear hK K)| (refine hB ?_;clear hA hB A B)|refine Z1 ?_|refine Z2 ?_|refine Z3 fun KB hKB=> ?_|refine Z5 (by omega) ?_)| (with_reducible first|refine Y2 fun K hK=> ?_|refine Y3 fun A B hA hB=> ?_)<;>(simp only[go_sem])|fail)
  (have hKX:=hKB;clear hKB)
  refine aM.gP (β:=Nat) (fun k=>en [(3,dI k),(0,dS (l.map eN))]) (fun k _ _=>k≤l.length∧ ∀i,i<k→V9 l i) (fun k=>l.length-k) 0 ⟨noF,_,by repeat' (first| (with_reducible first|exact C1|refine C2 ?_ ?_)| ((with_reducible refine D0 ?_);exact CA rfl)|fail),aK,by omega,fun i hi=>by omega⟩ ?_
  rintro k H1 nx1 hnx1 ⟨hk,hinv⟩ KL hKL
  by_cases hlt:k<l.length
  ·obtain⟨r,hr⟩: ∃r,r=l.getD k default:=⟨_,rfl⟩
   have hr':l.getD k default=r:=hr.symm
   have hbad: ¬SF r→¬DH l:=fun h hm=>h (by rw[hr];exact(hm.2 k hlt).1)
   repeat' (first| (with_reducible first| (refine hK _ _ _ ?_;clear hK K)| (refine hA ?_;clear hA hB A B)| (refine hB ?_;clear hA hB A B)|refine Z1 ?_|refine Z2 ?_|refine Z3 fun KB hKB=> ?_|refine Z4 (by omega) ?_|refine Z6 (fun h=> ?_) fun h=> ?_)| (first| (with_reducible first|refine Y2 fun K hK=> ?_|refine Y3 fun A B hA hB=> ?_|refine Y6 (fun h=> ?_) fun h=> ?_)| (with_reducible refine aBC ?_))<;>(simp only[go_sem,hr',Nat.add_assoc,Nat.left_eq_add,Nat.add_eq_left])| ((with_reducible refine Y8 ?_);try simp only[AQ.then,AQ.blk,reduceIte,Nat.reduceEqDiff])|refine⟨by omega,?_⟩|fail)
   ·exact aZ hQ (dB false) rfl rfl (j7 (hbad fun hm=>by unfold SF at hm;omega))
   ·exact aZ hQ (dB false) rfl rfl (j7 (hbad fun hm=>by unfold SF at hm;omega))
   ·exact aZ hQ (dB false) rfl rfl (j7 (hbad fun hm=>by unfold SF at hm;omega))
   have hro:SF r:=by unfold SF;omega
   (have hKY:=hKB;clear hKB)
   refine aM.gP (β:=Nat) (fun j=>en [(5,dI j),(4,.one (.c (.ptr 4 (nx1+8) 0 0))),(3,dI k),(0,dS (l.map eN))]) (fun j H2 _=>(j≤k∧ ∀i,i<j→aaM (l.getD i default) r=false)∧H2 (nx1+8)=some ⟨4,1,[eN r]⟩) (fun j=>k-j) 0 ⟨noF,_,by repeat' (first| (with_reducible first|exact C1|refine C2 ?_ ?_)| ((with_reducible refine C0 ?_);exact CE (by omega) rfl)| ((with_reducible refine D0 ?_);first|exact CA rfl|refine CJ ?_)|fail),aK,⟨by omega,fun i hi=>by omega⟩,by simp only[aA.set,if_true]⟩ ?_
   rintro j H2 nx2 hnx2 ⟨⟨hj,hinvj⟩,g8⟩ KM hKM
   by_cases hjl:j<k
   ·obtain⟨r2,hr2⟩: ∃r2,r2=l.getD j default:=⟨_,rfl⟩
    have hr2':l.getD j default=r2:=hr2.symm
    repeat' (first| (with_reducible first| (refine hK _ _ _ ?_;clear hK K)| (refine hA ?_;clear hA hB A B)| (refine hB ?_;clear hA hB A B)|refine Z1 ?_|refine Z2 ?_|refine Z3 fun KB hKB=> ?_|refine Z4 (by omega) ?_|refine Z6 (fun h=> ?_) fun h=> ?_)| (with_reducible first|refine Y2 fun K hK=> ?_|refine Y3 fun A B hA hB=> ?_|refine Y6 (fun h=> ?_) fun h=> ?_)<;>(simp only[go_sem,hr2',g8];try simp (disch:=omega) only[Iw])| ((with_reducible refine Y8 ?_);try simp only[AQ.then,AQ.blk,reduceIte,Nat.reduceEqDiff])| ((with_reducible refine Y0 ?_);simp only[AQ.then,AQ.blk])|refine⟨by omega,?_⟩| (with_reducible refine hKB _ _ _ ?_)|fail)
    ·refine aZ hQ (dB false) rfl rfl (j7 fun hm=> ?_)
     have h2:=(hm.2 k hlt).2
     refine h2 (cH.2 ⟨l.getD j default,List.mem_iff_getElem.2 ⟨j,by simp;omega,by simp[List.getD,show j<l.length by omega]⟩,decide_eq_true ?_⟩)
     rw[hr2',hr']
     omega
    all_goals exact hKM _ _ _ (j+1) noF _ (by omega) (by omega) (by repeat' (first| (with_reducible first|exact C1|refine C2 ?_ ?_)| ((with_reducible refine C0 ?_);exact CE (by omega) rfl)| ((with_reducible refine D0 ?_);first|exact CA rfl|refine CJ ?_)|fail)) aK ⟨⟨by omega,iS hinvj (by rw[hr2'];exact decide_eq_false (by omega))⟩,g8⟩
   ·repeat' (first| (with_reducible first| (refine hK _ _ _ ?_;clear hK K)| (refine hB ?_;clear hA hB A B)|refine Z1 ?_|refine Z5 (by omega) ?_|refine hKY _ _ _ ?_)| (with_reducible first|refine Y2 fun K hK=> ?_|refine Y3 fun A B hA hB=> ?_)<;>(simp only[go_sem];try simp (disch:=omega) only[Iw])| ((with_reducible refine Y9 ?_);try simp only[AQ.then,AQ.blk,reduceIte,Nat.reduceEqDiff])| ((with_reducible refine Y0 ?_);simp only[AQ.then,AQ.blk])| (with_reducible refine hKB _ _ _ ?_)|fail)
    refine hKL _ _ _ (k+1) noF _ (by omega) (by omega) (by repeat' (first| (with_reducible first|exact C1|refine C2 ?_ ?_)| ((with_reducible refine D0 ?_);exact CA rfl)|fail)) aK ⟨by omega,iS hinv ⟨by rw[hr'];exact hro,fun hc=> ?_⟩⟩
    obtain⟨x,hx,hx2⟩:=cH.1 hc
    obtain⟨i,hi,rfl⟩:=List.mem_iff_getElem.1 hx
    have hi':i<k:=by simp at hi;omega
    have:=hinvj i (by omega)
    simp only[List.getD,show i<l.length by omega,List.getElem?_eq_getElem,Option.getD_some] at this
    rw[hr'] at hx2
    simp only[List.getElem_take] at hx2
    rw[this] at hx2
    cases hx2
  ·repeat' (first| (with_reducible first| (refine hK _ _ _ ?_;clear hK K)| (refine hB ?_;clear hA hB A B)|refine Z1 ?_|refine Z5 (by omega) ?_|refine hKX _ _ _ ?_)| (with_reducible first|refine Y2 fun K hK=> ?_|refine Y3 fun A B hA hB=> ?_)<;>(simp only[go_sem])| ((with_reducible first|refine Y8 ?_|refine Y9 ?_);try simp only[AQ.then,AQ.blk,reduceIte,Nat.reduceEqDiff])|fail)
   have hk2:k=l.length:=by omega
   subst hk2
   exact aZ hQ (dB true) rfl rfl (q9 ⟨hl4,hinv⟩)
 ·repeat' (first| (with_reducible first| (refine hK _ _ _ ?_;clear hK K)| (refine hA ?_;clear hA hB A B)|refine Z1 ?_|refine Z4 (by omega) ?_)| (with_reducible first|refine Y2 fun K hK=> ?_|refine Y3 fun A B hA hB=> ?_)<;>(simp only[go_sem])| ((with_reducible refine Y8 ?_);try simp only[AQ.then,AQ.blk,reduceIte,Nat.reduceEqDiff])|fail)
  exact aZ hQ (dB false) rfl rfl (j7 fun h=>hl4 h.1)
theorem aD5 {l:List Rng} (hl:l.length<2^40) (h:K (dB (decide (DH l))) H nx):aB Tryz.prog aBG [dS (l.map eN)] H nx K:=
 (aD7 l hl).pure rfl (aI ⟨aE rfl,trivial⟩) (fun r hr=>hr▸h)
theorem aD9 (l:List Int) (lo up:Int) (hl:l.length<2^40):aB Tryz.prog aA3 [dS (l.map aJ),dI lo,dI up] .nil 0 fun rr _ _=>rr.plain=true∧rr=dB (decide (All l lo up)):=by
 refine aDN rfl fun Q hQ=> ?_
 unfold aBP
 repeat' (first| (with_reducible first| (refine hK _ _ _ ?_;clear hK K)|refine Z1 ?_|refine Z3 fun KB hKB=> ?_)| (with_reducible refine Y2 fun K hK=> ?_)<;>(simp only[go_sem])|fail)
 (have hKX:=hKB;clear hKB);(refine aM.loop (α:={k:Nat//k≤l.length∧(∀i,i<k→lo≤l.getD i default∧l.getD i default≤up)}) (fun u=>en [(7,dI u.1),(2,dI up),(1,dI lo),(0,dS (l.map aJ))]) (fun _=>.nil) _ (fun u=>l.length-u.1) ⟨0,by omega,(by intros;first|trivial|omega)⟩ (bU (Nat.le_refl _) (by repeat' (first| (with_reducible first|exact C1|refine C2 ?_ ?_)| ((with_reducible refine D0 ?_);exact CA rfl)|fail))) ?_);(rintro⟨k,hk,hinv⟩ KL hKL)
 by_cases hlt:k<l.length
 ·repeat' (first| (with_reducible first| (refine hK _ _ _ ?_;clear hK K)| (refine hA ?_;clear hA hB A B)| (refine hB ?_;clear hA hB A B)|refine Z1 ?_|refine Z2 ?_|refine Z3 fun KB hKB=> ?_|refine Z4 (by omega) ?_|refine Z6 (fun h=> ?_) fun h=> ?_)| (first| (with_reducible first|refine Y2 fun K hK=> ?_|refine Y3 fun A B hA hB=> ?_)| (with_reducible refine aBC ?_))<;>(simp only[go_sem];try simp (disch:=omega) only[Iw])| ((with_reducible refine Y8 ?_);try simp only[AQ.then,AQ.blk,reduceIte,Nat.reduceEqDiff])| ((with_reducible refine Y0 ?_);simp only[AQ.then,AQ.blk])|refine⟨by omega,?_⟩| (with_reducible refine hKB _ _ _ ?_)|fail)
  ·exact aZ hQ (dB false) rfl rfl (j7 fun ha=>by have:=aj1 ha hlt;omega)
  · (refine hKL _ _ _ ⟨k+1,by omega,iS hinv (by omega)⟩ (by omega) (by(try dsimp only);omega) (bU (Nat.le_refl _) (by repeat' (first| (with_reducible first|exact C1|refine C2 ?_ ?_)| ((with_reducible refine D0 ?_);exact CA rfl)|fail))))
 ·repeat' (first| (with_reducible first| (refine hK _ _ _ ?_;clear hK K)| (refine hB ?_;clear hA hB A B)|refine Z1 ?_|refine Z5 (by omega) ?_|refine hKX _ _ _ ?_)| (with_reducible first|refine Y2 fun K hK=> ?_|refine Y3 fun A B hA hB=> ?_)<;>(simp only[go_sem])| ((with_reducible first|refine Y8 ?_|refine Y9 ?_);try simp only[AQ.then,AQ.blk,reduceIte,Nat.reduceEqDiff])|fail)
  exact aZ hQ (dB true) rfl rfl (q9 (aEA fun i hi=>hinv i (by omega)))
theorem aCC {l:List Int} {lo:Int} {up:Int} (hl:l.length<2^40) (h:K (dB (decide (All l lo up))) H nx):aB Tryz.prog aA3 [dS (l.map aJ),dI lo,dI up] H nx K:=
 (aD9 l lo up hl).pure rfl (aI ⟨aE rfl,aE rfl,aE rfl,trivial⟩) (fun r hr=>hr▸h)
theorem aD1 (q:Req) (hd:q.data.length<2^40) (hl:q.lanes.length<2^40):aB Tryz.prog aBF [dA (eB q)] .nil 0 fun rr _ _=>rr.plain=true∧rr=dB (decide (dH q)):=by
 refine aDW rfl fun Q hQ=> ?_
 unfold aBM
 repeat' (first| (with_reducible first| (refine hK _ _ _ ?_;clear hK K)| (refine hA ?_;clear hA hB A B)| (refine hB ?_;clear hA hB A B)|refine Z1 ?_|refine Z2 ?_|refine Z6 (fun h=> ?_) fun h=> ?_)| (first| (with_reducible first|refine Y2 fun K hK=> ?_|refine Y3 fun A B hA hB=> ?_|refine Y6 (fun h=> ?_) fun h=> ?_)| (with_reducible refine aBC ?_)| (with_reducible refine aC2 ?_)| (with_reducible refine aCI ?_)| (with_reducible refine aCC (l:=q.data) hd ?_)| (with_reducible refine aCC (l:=q.lanes) hl ?_))<;>(simp only[go_sem])| ((with_reducible refine Y8 ?_);try simp only[AQ.then,AQ.blk,reduceIte,Nat.reduceEqDiff])| ((with_reducible refine Z8 (fun h=> ?_) (fun h=> ?_))<;>try subst h)|fail)
 all_goals first|with_reducible refine aZ hQ _ rfl rfl ?_|skip
 all_goals
  have e2:wrM q=true↔(q.kind=2∨q.kind=4):=by simp[wrM]
  have e3:All ([]:List Int) 0 65535:=by simp[All]
  have e4:All ([]:List Int) 0 3:=by simp[All]
  have e5:q.data.length=0→q.data=[]:=List.length_eq_zero_iff.1
  have e6:q.lanes.length=0→q.lanes=[]:=List.length_eq_zero_iff.1
  clear hQ
  first|exact j7 (by unfold dH n5;grind)|exact q9 (by unfold dH n5;grind)|exact pD (by unfold dH n5;grind)
theorem aD8 {q:Req} (hd:q.data.length<2^40) (hl:q.lanes.length<2^40) (h:K (dB (decide (dH q))) H nx):aB Tryz.prog aBF [dA (eB q)] H nx K:=
 (aD1 q hd hl).pure rfl (aI ⟨aE rfl,trivial⟩) (fun r hr=>hr▸h)
theorem aMT (r:Rsp) (hr:r.data.length<2^40):aB Tryz.prog aIP [dA (tG r)] .nil 0 fun rr _ _=>rr.plain=true∧rr=dB (decide (pA r)):=by
 refine aMN rfl fun Q hQ=> ?_
 unfold aJL
 repeat' (first| (with_reducible first| (refine hK _ _ _ ?_;clear hK K)|refine Z1 ?_)| (first| (with_reducible first|refine Y2 fun K hK=> ?_|refine Y6 (fun h=> ?_) fun h=> ?_)| (with_reducible refine aBC ?_)| (with_reducible refine aCC (l:=r.data) hr ?_))<;>(simp only[go_sem])| ((with_reducible refine Y8 ?_);try simp only[AQ.then,AQ.blk,reduceIte,Nat.reduceEqDiff])|fail)
 all_goals first|with_reducible refine aZ hQ _ rfl rfl ?_|skip
 all_goals first|exact j7 (by unfold pA;grind)|exact pD (by unfold pA;grind)|exact q9 (by unfold pA;grind)
theorem aMP {r:Rsp} (hr:r.data.length<2^40) (h:K (dB (decide (pA r))) H nx):aB Tryz.prog aIP [dA (tG r)] H nx K:=
 (aMT r hr).pure rfl (aI ⟨aE rfl,trivial⟩) (fun r hr=>hr▸h)
theorem aML (p:Prog) (hp:p.length<2^40) (hq: ∀q∈p,q.data.length<2^40∧q.lanes.length<2^40):aB Tryz.prog aI2 [dS (p.map eB)] .nil 0 fun rr _ _=>rr.plain=true∧rr=dB (decide (∀q∈p,dH q)):=by
 refine aLI rfl fun Q hQ=> ?_
 unfold aJC
 repeat' (first| (with_reducible first| (refine hK _ _ _ ?_;clear hK K)|refine Z1 ?_|refine Z3 fun KB hKB=> ?_)| (with_reducible refine Y2 fun K hK=> ?_)<;>(simp only[go_sem])|fail)
 (have hKX:=hKB;clear hKB);(refine aM.loop (α:={k:Nat//k≤p.length∧(∀i,i<k→dH (p.getD i default))}) (fun u=>en [(3,dI u.1),(0,dS (p.map eB))]) (fun _=>.nil) _ (fun u=>p.length-u.1) ⟨0,by omega,(by intros;first|trivial|omega)⟩ (bU (Nat.le_refl _) (by repeat' (first| (with_reducible first|exact C1|refine C2 ?_ ?_)| ((with_reducible refine D0 ?_);exact CA rfl)|fail))) ?_);(rintro⟨k,hk,hinv⟩ KL hKL)
 by_cases hlt:k<p.length
 ·have hm:=hq _ (cC hlt)
  repeat' (first| (with_reducible first| (refine hK _ _ _ ?_;clear hK K)| (refine hA ?_;clear hA hB A B)| (refine hB ?_;clear hA hB A B)|refine Z1 ?_|refine Z2 ?_|refine Z3 fun KB hKB=> ?_|refine Z4 (by omega) ?_|refine Z6 (fun h=> ?_) fun h=> ?_)| (first| (with_reducible first|refine Y2 fun K hK=> ?_|refine Y3 fun A B hA hB=> ?_)| (with_reducible refine aD8 hm.1 hm.2 ?_))<;>(simp only[go_sem];try simp (disch:=omega) only[Iw])| ((with_reducible refine Y8 ?_);try simp only[AQ.then,AQ.blk,reduceIte,Nat.reduceEqDiff])| ((with_reducible refine Y0 ?_);simp only[AQ.then,AQ.blk])|refine⟨by omega,?_⟩| (with_reducible refine hKB _ _ _ ?_)|fail)
  ·exact aZ hQ (dB false) rfl rfl (j7 fun ha=>by have:=ha _ (cC hlt);simp_all)
  · (refine hKL _ _ _ ⟨k+1,by omega,iS hinv (by simp_all)⟩ (by omega) (by(try dsimp only);omega) (bU (Nat.le_refl _) (by repeat' (first| (with_reducible first|exact C1|refine C2 ?_ ?_)| ((with_reducible refine D0 ?_);exact CA rfl)|fail))))
 ·repeat' (first| (with_reducible first| (refine hK _ _ _ ?_;clear hK K)| (refine hB ?_;clear hA hB A B)|refine Z1 ?_|refine Z5 (by omega) ?_|refine hKX _ _ _ ?_)| (with_reducible first|refine Y2 fun K hK=> ?_|refine Y3 fun A B hA hB=> ?_)<;>(simp only[go_sem])| ((with_reducible first|refine Y8 ?_|refine Y9 ?_);try simp only[AQ.then,AQ.blk,reduceIte,Nat.reduceEqDiff])|fail)
  exact aZ hQ (dB true) rfl rfl (q9 (aKJ fun i hi=>hinv i (by omega)))
theorem aL2 {p:Prog} (hp:p.length<2^40) (hq: ∀q∈p,q.data.length<2^40∧q.lanes.length<2^40) (h:K (dB (decide (∀q∈p,dH q))) H nx):aB Tryz.prog aI2 [dS (p.map eB)] H nx K:=
 (aML p hp hq).pure rfl (aI ⟨aE rfl,trivial⟩) (fun r hr=>hr▸h)
theorem aMY (c:Cfg) (hc:jO c):aB Tryz.prog aIV [dA (cU c)] .nil 0 fun rr _ _=>rr.plain=true∧rr=dB (decide (aQ c)):=by
 refine aLX rfl fun Q hQ=> ?_
 unfold aJQ
 have hbp:aQ c↔DH c.map∧(c.lat.length:Int)=4∧All c.lat 0 3∧(c.cP.length:Int)=3∧ ∀p∈c.cP,(p.length:Int)≤12∧ ∀q∈p,dH q:=by
  unfold aQ mV
  simp only[cH,not_exists,not_and,decide_eq_true_eq,Classical.not_imp,Classical.not_not]
 by_cases h0:DH c.map∧(c.lat.length:Int)=4∧All c.lat 0 3∧(c.cP.length:Int)=3
 ·obtain⟨h1,h2,h3,h4⟩:=h0
  repeat' (first| (with_reducible first| (refine hK _ _ _ ?_;clear hK K)| (refine hB ?_;clear hA hB A B)|refine Z1 ?_|refine Z2 ?_|refine Z3 fun KB hKB=> ?_|refine Z5 (by omega) ?_)| (first| (with_reducible first|refine Y2 fun K hK=> ?_|refine Y3 fun A B hA hB=> ?_|refine Y5 (by omega) ?_)| (with_reducible refine aD5 hc.map ?_)| (with_reducible refine aCC (l:=c.lat) hc.lat ?_))<;>(simp only[go_sem,eq_true h1,eq_true h3])|fail)
  (have hKX:=hKB;clear hKB);(refine aM.loop (α:={k:Nat//k≤3∧(∀i,i<k→((c.cP.getD i default).length:Int)≤12∧ ∀q∈c.cP.getD i default,dH q)}) (fun u=>en [(3,dI u.1),(1,.one (.c (.fQ (cU c))))]) (fun _=>.nil) _ (fun u=>3-u.1) ⟨0,by omega,(by intros;first|trivial|omega)⟩ (bU (Nat.le_refl _) (by repeat' (first| (with_reducible first|exact C1|refine C2 ?_ ?_)| ((with_reducible refine D0 ?_);first|exact CA rfl|exact CI rfl (by simp) rfl rfl rfl)|fail))) ?_);(rintro⟨k,hk,hinv⟩ KL hKL)
  by_cases hlt:k<3
  ·have hm:c.cP.getD k default∈c.cP:=cC (by omega)
   have hm1:=hc.prog _ hm
   have hm2:=hc.req _ hm
   repeat' (first| (with_reducible first| (refine hK _ _ _ ?_;clear hK K)| (refine hA ?_;clear hA hB A B)| (refine hB ?_;clear hA hB A B)|refine Z1 ?_|refine Z2 ?_|refine Z3 fun KB hKB=> ?_|refine Z4 (by omega) ?_|refine Z6 (fun h=> ?_) fun h=> ?_)| (first| (with_reducible first|refine Y2 fun K hK=> ?_|refine Y3 fun A B hA hB=> ?_|refine Y6 (fun h=> ?_) fun h=> ?_)| (with_reducible refine aL2 hm1 hm2 ?_))<;>(simp only[go_sem];try simp (disch:=omega) only[Iw])| ((with_reducible refine Y8 ?_);try simp only[AQ.then,AQ.blk,reduceIte,Nat.reduceEqDiff])| ((with_reducible refine Y0 ?_);simp only[AQ.then,AQ.blk])|refine⟨by omega,?_⟩| (with_reducible refine hKB _ _ _ ?_)|fail)
   ·exact aZ hQ (dB false) rfl rfl (j7 fun hB=>by have:=((hbp.1 hB).2.2.2.2 _ hm).1;omega)
   ·exact aZ hQ (dB false) rfl rfl (j7 fun hB=>by have:=((hbp.1 hB).2.2.2.2 _ hm).2;simp_all)
   · (refine hKL _ _ _ ⟨k+1,by omega,iS hinv ⟨by omega,by simp_all⟩⟩ (by omega) (by(try dsimp only);omega) (bU (Nat.le_refl _) (by repeat' (first| (with_reducible first|exact C1|refine C2 ?_ ?_)| ((with_reducible refine D0 ?_);exact CA rfl)|fail))))
  ·repeat' (first| (with_reducible first| (refine hK _ _ _ ?_;clear hK K)| (refine hB ?_;clear hA hB A B)|refine Z1 ?_|refine Z5 (by omega) ?_|refine hKX _ _ _ ?_)| (with_reducible first|refine Y2 fun K hK=> ?_|refine Y3 fun A B hA hB=> ?_)<;>(simp only[go_sem])| ((with_reducible first|refine Y8 ?_|refine Y9 ?_);try simp only[AQ.then,AQ.blk,reduceIte,Nat.reduceEqDiff])|fail)
   exact aZ hQ (dB true) rfl rfl (q9 (hbp.2 ⟨h1,h2,h3,h4,aKJ fun i hi=>hinv i (by omega)⟩))
 ·have hno: ¬aQ c:=fun hB=>h0 ⟨(hbp.1 hB).1,(hbp.1 hB).2.1,(hbp.1 hB).2.2.1,(hbp.1 hB).2.2.2.1⟩
  repeat' (first| (with_reducible first| (refine hK _ _ _ ?_;clear hK K)| (refine hA ?_;clear hA hB A B)| (refine hB ?_;clear hA hB A B)|refine Z1 ?_|refine Z2 ?_|refine Z3 fun KB hKB=> ?_|refine Z6 (fun h=> ?_) fun h=> ?_)| (first| (with_reducible first|refine Y2 fun K hK=> ?_|refine Y3 fun A B hA hB=> ?_|refine Y6 (fun h=> ?_) fun h=> ?_)| (with_reducible refine aD5 hc.map ?_)| (with_reducible refine aCC (l:=c.lat) hc.lat ?_))<;>(simp only[go_sem])| ((with_reducible refine Y8 ?_);try simp only[AQ.then,AQ.blk,reduceIte,Nat.reduceEqDiff])|fail)
  all_goals first|exact aZ hQ (dB false) rfl rfl (j7 hno)|exact absurd ⟨by simp_all,by omega,by simp_all,by omega⟩ h0
theorem aKG {c:Cfg} (hc:jO c) (h:K (dB (decide (aQ c))) H nx):aB Tryz.prog aIV [dA (cU c)] H nx K:=
 (aMY c hc).pure rfl (aI ⟨aE rfl,trivial⟩) (fun r hr=>hr▸h)
theorem aM3 (l:List Int) (hl:l.length<2^40):aB Tryz.prog aI7 [dA [.isl (l.map aJ)]] .nil 0 fun rr _ _=>rr.plain=true∧rr=dB (decide ((l.length:Int)=64∧All l 0 65535)):=by
 refine aMO rfl fun Q hQ=> ?_
 unfold aJK
 repeat' (first| (with_reducible first| (refine hK _ _ _ ?_;clear hK K)| (refine hA ?_;clear hA hB A B)| (refine hB ?_;clear hA hB A B)|refine Z1 ?_|refine Z2 ?_|refine Z3 fun KB hKB=> ?_|refine Z6 (fun h=> ?_) fun h=> ?_)| (with_reducible first|refine Y2 fun K hK=> ?_|refine Y3 fun A B hA hB=> ?_)<;>(simp only[go_sem])| ((with_reducible refine Y8 ?_);try simp only[AQ.then,AQ.blk,reduceIte,Nat.reduceEqDiff])|fail)
 ·exact aZ hQ (dB false) rfl rfl (j7 fun ha=>by omega)
 (have hKX:=hKB;clear hKB);(refine aM.loop (α:={k:Nat//k≤l.length∧(∀i,i<k→0≤l.getD i default∧l.getD i default≤65535)}) (fun u=>en [(3,dI u.1),(1,.one (.c (.fQ [.isl (l.map aJ)])))]) (fun _=>.nil) _ (fun u=>l.length-u.1) ⟨0,by omega,(by intros;first|trivial|omega)⟩ (bU (Nat.le_refl _) (by repeat' (first| (with_reducible first|exact C1|refine C2 ?_ ?_)| ((with_reducible refine D0 ?_);first|exact CA rfl|exact CI rfl (by simp) rfl rfl rfl)|fail))) ?_);(rintro⟨k,hk,hinv⟩ KL hKL)
 by_cases hlt:k<l.length
 ·repeat' (first| (with_reducible first| (refine hK _ _ _ ?_;clear hK K)| (refine hA ?_;clear hA hB A B)| (refine hB ?_;clear hA hB A B)|refine Z1 ?_|refine Z2 ?_|refine Z3 fun KB hKB=> ?_|refine Z4 (by omega) ?_|refine Z6 (fun h=> ?_) fun h=> ?_)| (first| (with_reducible first|refine Y2 fun K hK=> ?_|refine Y3 fun A B hA hB=> ?_)| (with_reducible refine aBC ?_))<;>(simp only[go_sem];try simp (disch:=omega) only[Iw])| ((with_reducible refine Y8 ?_);try simp only[AQ.then,AQ.blk,reduceIte,Nat.reduceEqDiff])| ((with_reducible refine Y0 ?_);simp only[AQ.then,AQ.blk])|refine⟨by omega,?_⟩| (with_reducible refine hKB _ _ _ ?_)|fail)
  ·exact aZ hQ (dB false) rfl rfl (j7 fun ha=>by have:=aj1 ha.2 hlt;omega)
  · (refine hKL _ _ _ ⟨k+1,by omega,iS hinv (by omega)⟩ (by omega) (by(try dsimp only);omega) (bU (Nat.le_refl _) (by repeat' (first| (with_reducible first|exact C1|refine C2 ?_ ?_)| ((with_reducible refine D0 ?_);exact CA rfl)|fail))))
 ·repeat' (first| (with_reducible first| (refine hK _ _ _ ?_;clear hK K)| (refine hB ?_;clear hA hB A B)|refine Z1 ?_|refine Z5 (by omega) ?_|refine hKX _ _ _ ?_)| (with_reducible first|refine Y2 fun K hK=> ?_|refine Y3 fun A B hA hB=> ?_)<;>(simp only[go_sem])| ((with_reducible first|refine Y8 ?_|refine Y9 ?_);try simp only[AQ.then,AQ.blk,reduceIte,Nat.reduceEqDiff])|fail)
  exact aZ hQ (dB true) rfl rfl (q9 ⟨by omega,aEA fun i hi=>hinv i (by omega)⟩)
theorem aMS {l:List Int} (hl:l.length<2^40) (h:K (dB (decide ((l.length:Int)=64∧All l 0 65535))) H nx):aB Tryz.prog aI7 [dA [.isl (l.map aJ)]] H nx K:=
 (aM3 l hl).pure rfl (aI ⟨aE rfl,trivial⟩) (fun r hr=>hr▸h)
theorem aMX (w u:List Int) (hw:w.length<2^40) (hu:u.length<2^40):aB Tryz.prog aIU [dA [.isl (w.map aJ),.isl (u.map aJ)]] .nil 0 fun rr _ _=>rr.plain=true∧rr=dB (decide (JS w u)):=by
 refine aLR rfl fun Q hQ=> ?_
 unfold aJM
 repeat' (first| (with_reducible first| (refine hK _ _ _ ?_;clear hK K)|refine Z1 ?_)| (first| (with_reducible first|refine Y2 fun K hK=> ?_|refine Y6 (fun h=> ?_) fun h=> ?_)| (with_reducible refine aMS hw ?_)| (with_reducible refine aCC (l:=u) hu ?_))<;>(simp only[go_sem])| ((with_reducible refine Y8 ?_);try simp only[AQ.then,AQ.blk,reduceIte,Nat.reduceEqDiff])|fail)
 all_goals first|with_reducible refine aZ hQ _ rfl rfl ?_|skip
 all_goals first|exact j7 (by unfold JS;grind)|exact pD (by unfold JS;grind)
theorem aKH {w:List Int} {u:List Int} (hw:w.length<2^40) (hu:u.length<2^40) (h:K (dB (decide (JS w u))) H nx):aB Tryz.prog aIU [dA [.isl (w.map aJ),.isl (u.map aJ)]] H nx K:=
 (aMX w u hw hu).pure rfl (aI ⟨aE rfl,trivial⟩) (fun r hr=>hr▸h)
end
end Go.Proofs.YtegiblhkjfiooaaGreat
end
section
namespace Go.Proofs.YtegiblhkjfiooaaGreat
open Go Go.AM
set_option maxRecDepth 100000
set_option maxHeartbeats 4000000
attribute [go_sem] agE ai7
section
variable {H : aA} {nx : Nat} {K : D → aA → Nat → Prop}
theorem aQC (a b:Job):aB Tryz.prog aKL [dA (aS a),dA (aS b)] .nil 0 fun rr _ _=>rr.plain=true∧rr=dB (uL a b):=by
 refine aPS rfl fun Q hQ=> ?_
 unfold ap2
 repeat' (first| (with_reducible first| (refine hK _ _ _ ?_;clear hK K)|refine Z1 ?_)| (with_reducible first|refine Y2 fun K hK=> ?_|refine Y6 (fun h=> ?_) fun h=> ?_)<;>(simp only[go_sem])| ((with_reducible refine Y8 ?_);try simp only[AQ.then,AQ.blk,reduceIte,Nat.reduceEqDiff])|fail)
 all_goals first|with_reducible refine aZ hQ _ rfl rfl ?_|skip
 all_goals first|exact q9 (by grind)|exact j7 (by grind)|exact pD (by grind)
theorem c9 {a:Job} {b:Job} (h:K (dB (uL a b)) H nx):aB Tryz.prog aKL [dA (aS a),dA (aS b)] H nx K:=
 (aQC a b).pure rfl (aI ⟨aE rfl,aE rfl,trivial⟩) (fun r hr=>hr▸h)
theorem aM4 (l:List Job) (who n:Int) (hl:l.length<2^40):aB Tryz.prog aIN [dS (l.map aS),dI who,dI n] .nil 0 fun rr _ _=>rr.plain=true∧rr=dI (bK (iM who n) l):=by
 refine aM1 rfl fun Q hQ=> ?_
 unfold aJR
 repeat' (first| (with_reducible first| (refine hK _ _ _ ?_;clear hK K)|refine Z1 ?_|refine Z3 fun KB hKB=> ?_)| (with_reducible refine Y2 fun K hK=> ?_)<;>(simp only[go_sem])|fail)
 (have hKX:=hKB;clear hKB);(refine aM.loop (α:={k:Nat//k≤l.length∧(∀i,i<k→iM who n (l.getD i default)=false)}) (fun u=>en [(7,dI u.1),(2,dI n),(1,dI who),(0,dS (l.map aS))]) (fun _=>.nil) _ (fun u=>l.length-u.1) ⟨0,by omega,(by intros;first|trivial|omega)⟩ (bU (Nat.le_refl _) (by repeat' (first| (with_reducible first|exact C1|refine C2 ?_ ?_)| ((with_reducible refine D0 ?_);exact CA rfl)|fail))) ?_);(rintro⟨k,hk,hinv⟩ KL hKL)
 repeat' (first| (with_reducible first| (refine hK _ _ _ ?_;clear hK K)| (refine hA ?_;clear hA hB A B)| (refine hB ?_;clear hA hB A B)|refine Z1 ?_|refine Z2 ?_|refine Z3 fun KB hKB=> ?_|refine Z6 (fun h=> ?_) fun h=> ?_|refine hKX _ _ _ ?_)| (with_reducible first|refine Y2 fun K hK=> ?_|refine Y3 fun A B hA hB=> ?_|refine Y6 (fun h=> ?_) fun h=> ?_)<;>(simp only[go_sem];try simp (disch:=omega) only[Iw])| ((with_reducible first|refine Y8 ?_|refine Y9 ?_);try simp only[AQ.then,AQ.blk,reduceIte,Nat.reduceEqDiff])| ((with_reducible refine Y0 ?_);simp only[AQ.then,AQ.blk])|refine⟨by omega,?_⟩| (with_reducible refine hKB _ _ _ ?_)|fail)
 ·refine aZ hQ _ rfl rfl (qA (Eq.symm (CU (by omega) (decide_eq_true (by omega)) hinv)))
 · (refine hKL _ _ _ ⟨k+1,by omega,iS hinv (decide_eq_false (by omega))⟩ (by omega) (by(try dsimp only);omega) (bU (Nat.le_refl _) (by repeat' (first| (with_reducible first|exact C1|refine C2 ?_ ?_)| ((with_reducible refine D0 ?_);exact CA rfl)|fail))))
 · (refine hKL _ _ _ ⟨k+1,by omega,iS hinv (decide_eq_false (by omega))⟩ (by omega) (by(try dsimp only);omega) (bU (Nat.le_refl _) (by repeat' (first| (with_reducible first|exact C1|refine C2 ?_ ?_)| ((with_reducible refine D0 ?_);exact CA rfl)|fail))))
 ·refine aZ hQ _ rfl rfl (qA (Eq.symm (tI fun i hi=>hinv i (by omega))))
theorem aKK {l:List Job} {who:Int} {n:Int} (hl:l.length<2^40) (h:K (dI (bK (iM who n) l)) H nx):aB Tryz.prog aIN [dS (l.map aS),dI who,dI n] H nx K:=
 (aM4 l who n hl).pure rfl (aI ⟨aE rfl,aE rfl,aE rfl,trivial⟩) (fun r hr=>hr▸h)
theorem aQU (c:Cfg) (l:List Job) (e:Ev) (hl:l.length<2^40) (hp:c.cP.length=3) (ha:oA c e.who e.n) (hj: ∀j∈l,j.who=e.who→j.n<e.n→oA c j.who j.n):aB Tryz.prog b8 [dA (cU c),dS (l.map aS),dI e.who,dI e.n] .nil 0 fun rr _ _=>rr.plain=true∧rr=dB (decide (¬0≤bK (adI c e) l)):=by
 refine aP9 rfl fun Q hQ=> ?_
 unfold aNK
 obtain⟨ha1,ha2,ha3⟩:=ha
 repeat' (first| (with_reducible first| (refine hK _ _ _ ?_;clear hK K)|refine Z1 ?_|refine Z3 fun KB hKB=> ?_)| (with_reducible refine Y2 fun K hK=> ?_)<;>(simp only[go_sem])|fail)
 (have hKX:=hKB;clear hKB);(refine aM.loop (α:={k:Nat//k≤l.length∧(∀i,i<k→adI c e (l.getD i default)=false)}) (fun u=>en [(9,dI u.1),(4,.one (.c (.fQ (cU c)))),(3,dI e.n),(2,dI e.who),(1,dS (l.map aS))]) (fun _=>.nil) _ (fun u=>l.length-u.1) ⟨0,by omega,(by intros;first|trivial|omega)⟩ (bU (Nat.le_refl _) (by repeat' (first| (with_reducible first|exact C1|refine C2 ?_ ?_)| ((with_reducible refine D0 ?_);first|exact CA rfl|exact CI rfl (by simp) rfl rfl rfl)|fail))) ?_);(rintro⟨k,hk,hinv⟩ KL hKL)
 by_cases hlt:k<l.length
 ·by_cases hcond:(l.getD k default).who=e.who∧(l.getD k default).n<e.n
  ·obtain⟨hj1,hj2,hj3⟩:=hj (l.getD k default) (by simp[List.getD,hlt]) hcond.1 hcond.2
   rw[hcond.1] at hj3
   repeat' (first| (with_reducible first| (refine hK _ _ _ ?_;clear hK K)| (refine hA ?_;clear hA hB A B)| (refine hB ?_;clear hA hB A B)|refine Z1 ?_|refine Z2 ?_|refine Z3 fun KB hKB=> ?_|refine Z4 (by omega) ?_|refine Z6 (fun h=> ?_) fun h=> ?_)| (with_reducible first|refine Y2 fun K hK=> ?_|refine Y3 fun A B hA hB=> ?_|refine Y4 (by omega) ?_)<;>(simp only[go_sem];try simp (disch:=omega) only[Iw])| ((with_reducible refine Y8 ?_);try simp only[AQ.then,AQ.blk,reduceIte,Nat.reduceEqDiff])| ((with_reducible refine Y0 ?_);simp only[AQ.then,AQ.blk])|refine⟨by omega,?_⟩| (with_reducible refine hKB _ _ _ ?_)|fail)
   ·refine aZ hQ _ rfl rfl (j7 (fun hm=>hm (cH.2 ⟨l.getD k default,by simp[List.getD,hlt],decide_eq_true (by unfold bT;grind)⟩)))
   · (refine hKL _ _ _ ⟨k+1,by omega,iS hinv (decide_eq_false (by unfold bT;grind))⟩ (by omega) (by(try dsimp only);omega) (bU (Nat.le_refl _) (by repeat' (first| (with_reducible first|exact C1|refine C2 ?_ ?_)| ((with_reducible refine D0 ?_);exact CA rfl)|fail))))
  ·repeat' (first| (with_reducible first| (refine hK _ _ _ ?_;clear hK K)| (refine hA ?_;clear hA hB A B)| (refine hB ?_;clear hA hB A B)|refine Z1 ?_|refine Z2 ?_|refine Z3 fun KB hKB=> ?_|refine Z4 (by omega) ?_)| (with_reducible first|refine Y2 fun K hK=> ?_|refine Y3 fun A B hA hB=> ?_|refine Y5 (by omega) ?_|refine Y6 (fun h=> ?_) fun h=> ?_)<;>(simp only[go_sem];try simp (disch:=omega) only[Iw])| ((with_reducible refine Y0 ?_);simp only[AQ.then,AQ.blk])|refine⟨by omega,?_⟩| (with_reducible refine hKB _ _ _ ?_)|fail)
   · (refine hKL _ _ _ ⟨k+1,by omega,iS hinv (decide_eq_false (by grind))⟩ (by omega) (by(try dsimp only);omega) (bU (Nat.le_refl _) (by repeat' (first| (with_reducible first|exact C1|refine C2 ?_ ?_)| ((with_reducible refine D0 ?_);exact CA rfl)|fail))))
   · (refine hKL _ _ _ ⟨k+1,by omega,iS hinv (decide_eq_false (by grind))⟩ (by omega) (by(try dsimp only);omega) (bU (Nat.le_refl _) (by repeat' (first| (with_reducible first|exact C1|refine C2 ?_ ?_)| ((with_reducible refine D0 ?_);exact CA rfl)|fail))))
 ·repeat' (first| (with_reducible first| (refine hK _ _ _ ?_;clear hK K)| (refine hB ?_;clear hA hB A B)|refine Z1 ?_|refine Z5 (by omega) ?_|refine hKX _ _ _ ?_)| (with_reducible first|refine Y2 fun K hK=> ?_|refine Y3 fun A B hA hB=> ?_)<;>(simp only[go_sem])| ((with_reducible first|refine Y8 ?_|refine Y9 ?_);try simp only[AQ.then,AQ.blk,reduceIte,Nat.reduceEqDiff])|fail)
  ·refine aZ hQ _ rfl rfl (q9 (by rw[tI fun i hi=>hinv i (by omega)];omega))
theorem ap1 {c:Cfg} {l:List Job} {e:Ev} (hl:l.length<2^40) (hp:c.cP.length=3) (ha:oA c e.who e.n) (hj: ∀j∈l,j.who=e.who→j.n<e.n→oA c j.who j.n) (h:K (dB (decide (¬0≤bK (adI c e) l))) H nx):aB Tryz.prog b8 [dA (cU c),dS (l.map aS),dI e.who,dI e.n] H nx K:=
 (aQU c l e hl hp ha hj).pure rfl (aI ⟨aE rfl,aE rfl,aE rfl,aE rfl,trivial⟩) (fun r hr=>hr▸h)
theorem aPM (l:List Job) (j:Job) (hl:l.length<2^20):aB Tryz.prog aJS [dS (l.map aS),dA (aS j)] .nil 0 fun rr _ nn=>nn=0∧rr.imm=true∧rr=dS ((BM l j).map aS):=by
 refine aSO rfl fun Q hQ=> ?_
 unfold aN3
 generalize hf:l.findIdx (uL j)=f
 repeat' (first| (with_reducible first| (refine hK _ _ _ ?_;clear hK K)|refine Z1 ?_|refine Z3 fun KB hKB=> ?_)| (with_reducible refine Y2 fun K hK=> ?_)<;>(simp only[go_sem])|fail)
 (have hKX:=hKB;clear hKB)
 refine aM.ar4 1 (α:={p:Nat×Nat//p.1≤l.length∧(aN7 l j f p.1).length≤p.2}) (fun b u=>en [(7,dI u.1.1),(6,dB (decide (f<u.1.1))),(5,dO 5 b (aN7 l j f u.1.1).length u.1.2),(3,.one (.c (.fQ (aS j)))),(0,dS (l.map aS))])
  (fun b u=>hp [(b,⟨5,u.1.2,(aN7 l j f u.1.1).map aS⟩)]) (fun u=>l.length-u.1.1) ⟨(0,0),by omega,by simp[aN7]⟩ (by(refine cR [2] (by omega) (by repeat' (first| (with_reducible first|exact C1|refine C2 ?_ ?_)| ((with_reducible refine C0 ?_);exact CC)| ((with_reducible refine D0 ?_);first|exact CA rfl|exact CI rfl (by simp) rfl rfl rfl|refine CJ ?_)|fail)) ⟨⟨by simp,by simp[sgL],_,rfl,bP (aG dZ _) rfl rfl⟩,trivial⟩ (by simp[sgL]))) ?_
 rintro⟨⟨k,cap⟩,hk,hc⟩ KL hKL
 dsimp only at hk hc
 have hlen:=aTU (j:=j) (f:=f) hk
 by_cases hlt:k<l.length
 ·have hb:=fun hkf:k≤f=>aT2 (j:=j) hlt (hf▸hkf)
  rw[hf] at hb
  repeat' (first| (with_reducible first| (refine hK _ _ _ ?_;clear hK K)| (refine hA ?_;clear hA hB A B)| (refine hB ?_;clear hA hB A B)|refine Z1 ?_|refine Z2 ?_|refine Z3 fun KB hKB=> ?_|refine Z4 (by omega) ?_|refine fun(cap:Nat) (hcap:_≤cap)=> ?_|refine fun(hcp:_≤cap)=> ?_)| (first| (with_reducible first|refine Y2 fun K hK=> ?_|refine Y3 fun A B hA hB=> ?_|refine Y6 (fun h=> ?_) fun h=> ?_)| (with_reducible refine c9 ?_))<;>(simp only[go_sem];try simp (disch:=omega) only[Iw])| ((with_reducible refine Y0 ?_);simp only[AQ.then,AQ.blk])| ((with_reducible refine Z8 (fun h=> ?_) (fun h=> ?_))<;>try subst h)|refine⟨by omega,?_⟩| (with_reducible refine hKB _ _ _ ?_)|fail)
  ·have H:=aT6 (j:=j) hlt (show k=f from (hb (by omega)).1 (by assumption))
   have aUT:=congrArg List.length H
   simp only[List.length_append,List.length_cons,List.length_nil] at aUT
   have hkf:=(hb (by omega)).1 (by assumption)
   (refine hKL _ _ _ ⟨(k+1,cap),by omega,by dsimp only;omega⟩ (by omega) (by(try dsimp only);omega) (by(refine cR [33] (by omega) (by repeat' (first| (with_reducible first|exact C1|refine C2 ?_ ?_)| ((with_reducible refine C0 ?_);first|exact CQ (by omega) rfl rfl (by first|rfl|omega) rfl| (exact CG (by((try dsimp only);exact dbT (by omega))) rfl))| ((with_reducible refine D0 ?_);first|exact CA rfl|refine CJ ?_)|fail)) ⟨⟨by simp,by simp[sgL],_,rfl,bP (aG dZ _) (congrArg _ H) rfl⟩,trivial⟩ (by simp[sgL]))))
  ·have hne: ¬k=f:=fun he=>by have:=(hb (by omega)).2 he;simp_all
   have H:=aT3 (j:=j) hlt (show k<f by omega)
   have aUT:=congrArg List.length H
   simp only[List.length_append,List.length_cons,List.length_nil] at aUT
   (refine hKL _ _ _ ⟨(k+1,cap),by omega,by dsimp only;omega⟩ (by omega) (by(try dsimp only);omega) (by(refine cR [27] (by omega) (by repeat' (first| (with_reducible first|exact C1|refine C2 ?_ ?_)| ((with_reducible refine C0 ?_);first|exact CQ (by omega) rfl rfl (by first|rfl|omega) rfl| (exact CG (by((try dsimp only);exact dbE (by omega))) rfl))| ((with_reducible refine D0 ?_);first|exact CA rfl|refine CJ ?_)|fail)) ⟨⟨by simp,by simp[sgL],_,rfl,bP (aG dZ _) (congrArg _ H) rfl⟩,trivial⟩ (by simp[sgL]))))
  ·have H:=aT8 (j:=j) hlt (show f<k by omega)
   have aUT:=congrArg List.length H
   simp only[List.length_append,List.length_cons,List.length_nil] at aUT
   (refine hKL _ _ _ ⟨(k+1,cap),by omega,by dsimp only;omega⟩ (by omega) (by(try dsimp only);omega) (by(refine cR [27] (by omega) (by repeat' (first| (with_reducible first|exact C1|refine C2 ?_ ?_)| ((with_reducible refine C0 ?_);first|exact CQ (by omega) rfl rfl (by first|rfl|omega) rfl| (exact CG (by((try dsimp only);exact dbE (by omega))) rfl))| ((with_reducible refine D0 ?_);first|exact CA rfl|refine CJ ?_)|fail)) ⟨⟨by simp,by simp[sgL],_,rfl,bP (aG dZ _) (congrArg _ H) rfl⟩,trivial⟩ (by simp[sgL]))))
 ·have hk2:k=l.length:=by omega
  subst hk2
  subst hf
  repeat' (first| (with_reducible first| (refine hK _ _ _ ?_;clear hK K)| (refine hA ?_;clear hA hB A B)| (refine hB ?_;clear hA hB A B)|refine Z1 ?_|refine Z2 ?_|refine Z5 (by omega) ?_|refine Z6 (fun h=> ?_) fun h=> ?_|refine fun(cap:Nat) (hcap:_≤cap)=> ?_|refine fun(hcp:_≤cap)=> ?_|refine hKX _ _ _ ?_)| (with_reducible first|refine Y2 fun K hK=> ?_|refine Y3 fun A B hA hB=> ?_)<;>(simp only[go_sem])| ((with_reducible first|refine Y8 ?_|refine Y9 ?_);try simp only[AQ.then,AQ.blk,reduceIte,Nat.reduceEqDiff])|refine⟨by omega,?_⟩|fail)
  ·exact V4 hQ (dS _) _ rfl (yP (l:=aN7 l j _ l.length++[j]) dZ rfl (by simp) (by simp;omega) trivial) rfl (by rw[aTO (by omega)])
  ·exact V4 hQ (dS _) _ rfl (yP (l:=aN7 l j _ l.length) dZ rfl (by simp) (by omega) trivial) rfl (by rw[aTW (by omega)])
theorem aS4 {l:List Job} {j:Job} (hl:l.length<2^20) (h:K (dS ((BM l j).map aS)) H nx):aB Tryz.prog aJS [dS (l.map aS),dA (aS j)] H nx K:=
 (aPM l j hl).fresh rfl (fun r hr=>hr▸h)
end
end Go.Proofs.YtegiblhkjfiooaaGreat
end
section
namespace Go.Proofs.YtegiblhkjfiooaaGreat
open Go Go.AM
set_option maxRecDepth 100000
end Go.Proofs.YtegiblhkjfiooaaGreat
end
section
namespace Go.Proofs.YtegiblhkjfiooaaGreat
open Go Go.AM
set_option maxRecDepth 100000
end Go.Proofs.YtegiblhkjfiooaaGreat
end
section
namespace Go.AM
structure fC where
 who:Int
 n:Int
 left:Int
 deriving Inhabited,DecidableEq
structure fR where
 next:Int
 queue:List Int
 out:List fC
 last:Int
 deriving Inhabited,DecidableEq
structure nY where
 pipe:List fC
 done:List Job
 last:Int
 deriving Inhabited,DecidableEq
structure CSt where
 words:List Int
 holds:List Int
 bM:List fR
 dD:List nY
 told:List Job
 deriving Inhabited,DecidableEq
structure CIn where
 ready:List Bool
 n9:List Bool
 send:List Bool
 deriving Inhabited,DecidableEq
def gZ (m:List Rng) (q:Req):Int:=if bV m (bE q.addr q.many q.wrap)<0 then 3 else (m.getD (bV m (bE q.addr q.many q.wrap)).toNat default).K5
def aF (s:CSt) (k:Nat):fR:=s.bM.getD k default
def aL (s:CSt) (k:Nat):nY:=s.dD.getD k default
def jX (l:List Job):List Job:=l.foldl BM []
def jJ (s:CSt) (k:Nat):List Job:=(aF s k).queue.map fun n=>⟨k,n,oW⟩
def hJ (s:CSt) (k:Nat):List Job:=(aL s k).pipe.map fun j=>⟨j.who,j.n,oW⟩
def qU (s:CSt):List Job:=(List.range s.bM.length).flatMap (jJ s)++(List.range s.dD.length).flatMap (hJ s)
def uQ (s:CSt):List Job:=(List.range s.dD.length).flatMap fun k=>(aL s k).done
def cX (s:CSt):TSt:=⟨s.words,s.holds,s.bM.map (·.next),jX (qU s),jX (uQ s),s.told⟩
def B3 {α:Type} (l:List α) (k:Nat):List α:=l.take k++l.drop (k+1)
def isC (n:Int) (j:fC):Bool:=decide (j.n=n)
def PE (l:List fC) (n:Int):List fC:=B3 l (bK (isC n) l).toNat
inductive Mic where
 |tell (who st:Nat)
 |tick (st:Nat)
 |work (st:Nat)
 |adm (who st:Nat)
 |ask (who:Nat)
def HV (c:Cfg) (s:CSt) (who st:Nat):Prop:=0<(aF s who).queue.length∧(aF s who).out.length<4∧gZ c.map (bT c who ((aF s who).queue.getD 0 default))=st∧
 ∀j∈(aF s who).out,(bT c who j.n).id=(bT c who ((aF s who).queue.getD 0 default)).id→j.left=st
instance {c:Cfg} {s:CSt} {who st:Nat}:Decidable (HV c s who st):=by unfold HV;infer_instance
def iF (s:CSt) (st:Nat):Job:=(aL s st).done.getD 0 default
def bI (s:CSt) (st:Nat):fC:=(aL s st).pipe.getD 0 default
def jD (c:Cfg) (s:CSt) (st:Nat):(List Int×List Int)×Rsp:=doM c.map s.words s.holds (bI s st).who (bT c (bI s st).who (bI s st).n)
def aR (c:Cfg) (s:CSt):Mic→CSt
 | .tell who st=>{s with told:=s.told++[iF s st],dD:=s.dD.set st {aL s st with done:=(aL s st).done.drop 1},bM:=s.bM.set who {aF s who with out:=PE (aF s who).out (iF s st).n,last:=st}}
 | .tick st=>{s with dD:=s.dD.set st {aL s st with pipe:=(aL s st).pipe.set 0 {bI s st with left:=(bI s st).left-1}}}
 | .work st=>{s with words:=(jD c s st).1.1,holds:=(jD c s st).1.2,dD:=s.dD.set st {aL s st with pipe:=(aL s st).pipe.drop 1,done:=(aL s st).done++[⟨(bI s st).who,(bI s st).n,(jD c s st).2⟩]}}
 | .adm who st=>{s with bM:=s.bM.set who {aF s who with queue:=(aF s who).queue.drop 1,out:=(aF s who).out++[⟨who,(aF s who).queue.getD 0 default,st⟩]},dD:=s.dD.set st {aL s st with pipe:=(aL s st).pipe++[⟨who,(aF s who).queue.getD 0 default,c.lat.getD st default⟩],last:=who}}
 | .ask who=>{s with bM:=s.bM.set who {aF s who with queue:=(aF s who).queue++[(aF s who).next],next:=(aF s who).next+1}}
def y0 (s:CSt):Mic→List Ev
 | .tell who st=>[⟨3,who,(iF s st).n⟩]
 | .work st=>[⟨2,(bI s st).who,(bI s st).n⟩]
 | .ask who=>[⟨1,who,(aF s who).next⟩]
 |_=>[]
end Go.AM
end
section
namespace Go.AM
theorem pY {α:Type} [Inhabited α] {l:List α} {k i:Nat} {x:α} (hk:k<l.length):(l.set k x).getD i default=if i=k then x else l.getD i default:=by
 simp only[List.getD,List.getElem?_set]
 by_cases h:k=i
 ·subst h;simp[hk]
 ·simp[h,Ne.symm h,eq_comm]
structure mD (c:Cfg) (who:Nat) (p:fR):Prop where
 next:0≤p.next∧p.next≤(c.cP.getD who default).length
 ql:p.queue.length≤2∧(p.queue.length:Int)≤p.next
 ol:p.out.length≤4
 last:0≤p.last∧p.last≤3
 queue: ∀i,i<p.queue.length→p.queue.getD i default=p.next-p.queue.length+i
 out: ∀j∈p.out,j.who=who∧(0≤j.n∧j.n<p.next-p.queue.length)∧j.left=gZ c.map (bT c who j.n)
 acX:p.out.Pairwise fun a b=>a.n<b.n
 akF: ∀a∈p.out,∀b∈p.out,(bT c who a.n).id=(bT c who b.n).id→a.left=b.left
def cS (v:nY):List (Int×Int):=v.done.map key++v.pipe.map fun j=>(j.who,j.n)
structure Z0 (c:Cfg) (s:CSt) (st:Nat):Prop where
 pl:(aL s st).pipe.length≤2
 dl:(aL s st).done.length≤2
 last:0≤(aL s st).last∧(aL s st).last≤2
 inc:(cS (aL s st)).Pairwise fun a b=>a.1=b.1→a.2<b.2
 out: ∀x∈cS (aL s st),(0≤x.1∧x.1≤2)∧ ∃j∈(aF s x.1.toNat).out,j.n=x.2∧j.left=st
 rsp: ∀j∈(aL s st).done,as5 c j
 left: ∀i,i<(aL s st).pipe.length→(0≤((aL s st).pipe.getD i default).left∧((aL s st).pipe.getD i default).left≤c.lat.getD st default)∧(0<i→((aL s st).pipe.getD i default).left=c.lat.getD st default)
def hU (s:CSt) (k:Nat):Nat:=(aL s k).pipe.length+(aL s k).done.length
structure COk (c:Cfg) (s:CSt):Prop where
 atm:WK s.words s.holds
 pl:s.bM.length=3
 sl:s.dD.length=4
 port: ∀k,k<3→mD c k (aF s k)
 slv: ∀k,k<4→Z0 c s k
 count:(aF s 0).out.length+(aF s 1).out.length+(aF s 2).out.length=hU s 0+hU s 1+hU s 2+hU s 3
 st:BA c (cX s)
theorem COk.vIn {c:Cfg} {s:CSt} (h:COk c s) {st:Nat} (hs:st<4) {x:Int×Int} (hx:x∈cS (aL s st)):(0≤x.1∧x.1≤2)∧0≤x.2∧x.2<(aF s x.1.toNat).next-(aF s x.1.toNat).queue.length:=by
 obtain⟨h1,j,hj,h2,h3⟩:=(h.slv st hs).out x hx
 have:=(h.port x.1.toNat (by omega)).out j hj
 exact⟨h1,by omega,by omega⟩
theorem COk.same {c:Cfg} {s:CSt} (h:COk c s) {st st':Nat} (hs:st<4) (hs':st'<4) {x y:Int×Int} (hx:x∈cS (aL s st)) (hy:y∈cS (aL s st')) (he:x.1=y.1) (hi:(bT c x.1 x.2).id=(bT c y.1 y.2).id):st=st':=by
 obtain⟨h1,j,hj,h2,h3⟩:=(h.slv st hs).out x hx
 obtain⟨h4,j',hj',h5,h6⟩:=(h.slv st' hs').out y hy
 have hp:=h.port x.1.toNat (by omega)
 rw[←he] at hj'
 have:=hp.akF j hj j' hj' (by
  have e1:((x.1.toNat:Nat):Int)=x.1:=by omega
  rw[e1,h2,h5,hi,he])
 omega
end Go.AM
end
section
namespace Go.AM
end Go.AM
end
section
namespace Go.AM
theorem akU {α:Type} {l:List α} {k:Nat}:(B3 l k).Sublist l:=by
 unfold B3
 have h:=(List.Sublist.refl (l.take k)).append (List.drop_sublist_drop_left l (Nat.le_succ k))
 rwa [List.take_append_drop] at h
theorem TA {l:List fC} {n:Int}:(PE l n).Sublist l:=akU
theorem QF {α:Type} [Inhabited α] {l:List α} {i:Nat}:(l.drop 1).getD i default=l.getD (i+1) default:=by
 cases l with
 |nil=>simp
 |cons x l=>simp
theorem WI {α:Type} [Inhabited α] {l:List α} {x:α} {i:Nat}:(l++[x]).getD i default=if i=l.length then x else l.getD i default:=by
 simp only[List.getD,List.getElem?_append]
 split
 ·rw[if_neg (by omega)]
 ·split
  ·rename_i h;subst h;simp
  ·rename_i h1 h2
   rw[List.getElem?_eq_none (by simp;omega),List.getElem?_eq_none (by omega)]
theorem Z0.wT {c:Cfg} {s s':CSt} {st:Nat} (h:Z0 c s st) (he:aL s' st=aL s st) (ho: ∀x∈cS (aL s st),∀j∈(aF s x.1.toNat).out,j.n=x.2→j.left=st→j∈(aF s' x.1.toNat).out):Z0 c s' st:=by
 refine⟨by rw[he];exact h.pl,by rw[he];exact h.dl,by rw[he];exact h.last,by rw[he];exact h.inc,fun x hx=> ?_,by rw[he];exact h.rsp,by rw[he];exact h.left⟩
 rw[he] at hx
 obtain⟨q1,j,q2,q3,q4⟩:=h.out x hx
 exact⟨q1,j,ho x hx j q2 q3 q4,q3,q4⟩
theorem mD.tell {c:Cfg} {who:Nat} {p:fR} (h:mD c who p) {n:Int} {st:Nat} (hs:st<4):mD c who {p with out:=PE p.out n,last:=st}:=by
 have hm: ∀j∈PE p.out n,j∈p.out:=fun j hj=>TA.subset hj
 exact⟨h.next,h.ql,Nat.le_trans TA.length_le h.ol,by dsimp only;omega,h.queue,fun j hj=>h.out j (hm j hj),h.acX.sublist TA,fun a ha b hb=>h.akF a (hm a ha) b (hm b hb)⟩
theorem mD.adm {c:Cfg} {who:Nat} {p:fR} (h:mD c who p) {st:Nat} (h1:0<p.queue.length) (h2:p.out.length<4) (h3:gZ c.map (bT c who (p.queue.getD 0 default))=st)
 (h4: ∀j∈p.out,(bT c who j.n).id=(bT c who (p.queue.getD 0 default)).id→j.left=st):mD c who {p with queue:=p.queue.drop 1,out:=p.out++[⟨who,p.queue.getD 0 default,st⟩]}:=by
 have hq0:=h.queue 0 h1
 have hn:=h.next
 have hql:=h.ql
 have hl:(p.queue.drop 1).length=p.queue.length-1:=by simp
 refine⟨hn,by dsimp only;omega,by simp;omega,h.last,fun i hi=> ?_,fun j hj=> ?_,?_,fun a ha b hb hab=> ?_⟩
 ·dsimp only at hi ⊢
  rw[QF,h.queue (i+1) (by omega)];omega
 ·dsimp only at hj ⊢
  rcases List.mem_append.1 hj with hj|hj
  ·have:=h.out j hj
   exact⟨this.1,by omega,this.2.2⟩
  ·simp only[List.mem_singleton] at hj
   subst hj
   exact⟨rfl,by dsimp only;omega,h3.symm⟩
 ·dsimp only
  rw[List.pairwise_append]
  refine⟨h.acX,by simp,fun a ha b hb=> ?_⟩
  simp only[List.mem_singleton] at hb
  subst hb
  have:=(h.out a ha).2.1
  dsimp only;omega
 ·dsimp only at ha hb
  rcases List.mem_append.1 ha with ha|ha<;>rcases List.mem_append.1 hb with hb|hb
  ·exact h.akF a ha b hb hab
  ·simp only[List.mem_singleton] at hb;subst hb;exact h4 a ha hab
  ·simp only[List.mem_singleton] at ha;subst ha;exact(h4 b hb hab.symm).symm
  ·simp only[List.mem_singleton] at ha hb;subst ha;subst hb;rfl
theorem mD.ask {c:Cfg} {who:Nat} {p:fR} (h:mD c who p) (h1:p.queue.length<2) (h2:p.next<(c.cP.getD who default).length):mD c who {p with queue:=p.queue++[p.next],next:=p.next+1}:=by
 have hn:=h.next
 have hql:=h.ql
 refine⟨by dsimp only;omega,by simp;omega,h.ol,h.last,fun i hi=> ?_,fun j hj=> ?_,h.acX,h.akF⟩
 ·simp only[List.length_append,List.length_singleton] at hi ⊢
  rw[WI]
  split
  ·omega
  ·rw[h.queue i (by omega)];omega
 ·have:=h.out j hj
  refine⟨this.1,?_,this.2.2⟩
  simp only[List.length_append,List.length_singleton];omega
end Go.AM
end
section
namespace Go.AM
def dR (c:Cfg) (s:CSt) (l:List Mic):CSt:=l.foldl (aR c) s
def iP (c:Cfg):CSt→List Mic→List Ev
 |_,[]=>[]
 |s,m::l=>y0 s m++iP c (aR c s m) l
def sM (s:CSt) (st k:Nat):Nat:=(((aL s st).last+(k:Int))%3).toNat
def KE (c:Cfg) (s:CSt) (used:List Bool) (st who:Nat):Bool:= !(used.getD who default)&&decide (HV c s who st)
def AO (c:Cfg) (s:CSt) (used:List Bool) (st:Nat):Option Nat:=if (aL s st).pipe.length<2 then ([1,2,3].map (sM s st)).find? (KE c s used st) else none
def vE (c:Cfg) (f:CSt→Nat→Option Mic):CSt→List Nat→List Mic
 |_,[]=>[]
 |s,k::l=>match f s k with
  |none=>vE c f s l
  |some m=>m::vE c f (aR c s m) l
def oP (c:Cfg):CSt→List Bool→List Nat→List Mic
 |_,_,[]=>[]
 |s,u,st::l=>match AO c s u st with
  |none=>oP c s u l
  |some who=>.adm who st::oP c (aR c s (.adm who st)) (u.set who true) l
end Go.AM
end
section
namespace Go.AM
end Go.AM
end
section
namespace Go.AM
end Go.AM
end
section
namespace Go.AM
end Go.AM
end
