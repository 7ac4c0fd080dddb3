/- Texts laid together by a program: rules, contracts and the walk that leads to the law. -/
import Derived.Test.YtmccpdapaccnoaaGreatPF6
import Derived.Test.YtmccpdapaccnoaaGreatPF8
import Derived.Test.YtmccpdapaccnoaaGreatPF5
import Derived.Test.YtmccpdapaccnoaaGreatPF4
import Derived.Test.YtmccpdapaccnoaaGreatPF3
set_option linter.unusedVariables false
set_option linter.unusedSimpArgs false
set_option linter.unusedSectionVars false
section
namespace Go.Proofs.YtmccpdapaccnoaaGreat
open Go Go.AM
set_option maxRecDepth 100000
set_option maxHeartbeats 4000000
section
variable {H : aA} {nx : Nat} {K : D → aA → Nat → Prop}
theorem aD7 (l:List Rng) (hl:l.length<2^40):aB Tryz.prog aBG [dS (l.map eN)] .nil 0 fun rr _ _=>rr.plain=true∧rr=dB (decide (DH l)):=by
 refine aDM rfl fun Q hQ=> ?_
 unfold aBO
 by_cases hl4:(l.length:Int)≤4
 ·repeat' (first| (with_reducible first| (refine hK _ _ _ ?_;clear hK K)| (refine hB ?_;clear hA hB A B)|refine Z1 ?_|refine Z2 ?_|refine Z3 fun KB hKB=> ?_|refine Z5 (by omega) ?_)| (with_reducible first|refine Y2 fun K hK=> ?_|refine Y3 fun A B hA hB=> ?_)<;>(simp only[go_sem])|fail)
  (have hKX:=hKB;clear hKB)
  refine aM.gP (β:=Nat) (fun k=>en [(3,dI k),(0,dS (l.map eN))]) (fun k _ _=>k≤l.length∧ ∀i,i<k→V9 l i) (fun k=>l.length-k) 0 ⟨noF,_,by repeat' (first| (with_reducible first|exact C1|refine C2 ?_ ?_)| ((with_reducible refine D0 ?_);exact CA rfl)|fail),aK,by omega,fun i hi=>by omega⟩ ?_
  rintro k H1 nx1 hnx1 ⟨hk,hinv⟩ KL hKL
  by_cases hlt:k<l.length
  ·obtain⟨r,hr⟩: ∃r,r=l.getD k default:=⟨_,rfl⟩
   have hr':l.getD k default=r:=hr.symm
   have hbad: ¬SF r→¬DH l:=fun h hm=>h (by rw[hr];exact(hm.2 k hlt).1)
   repeat' (first| (with_reducible first| (refine hK _ _ _ ?_;clear hK K)| (refine hA ?_;clear hA hB A B)| (refine hB ?_;clear hA hB A B)|refine Z1 ?_|refine Z2 ?_|refine Z3 fun KB hKB=> ?_|refine Z4 (by omega) ?_|refine Z6 (fun h=> ?_) fun h=> ?_)| (first| (with_reducible first|refine Y2 fun K hK=> ?_|refine Y3 fun A B hA hB=> ?_|refine Y6 (fun h=> ?_) fun h=> ?_)| (with_reducible refine aBC ?_))<;>(simp only[go_sem,hr',Nat.add_assoc,Nat.left_eq_add,Nat.add_eq_left])| ((with_reducible refine Y8 ?_);try simp only[AQ.then,AQ.blk,reduceIte,Nat.reduceEqDiff])|refine⟨by omega,?_⟩|fail)
   ·exact aZ hQ (dB false) rfl rfl (j7 (hbad fun hm=>by unfold SF at hm;omega))
   ·exact aZ hQ (dB false) rfl rfl (j7 (hbad fun hm=>by unfold SF at hm;omega))
   ·exact aZ hQ (dB false) rfl rfl (j7 (hbad fun hm=>by unfold SF at hm;omega))
   have hro:SF r:=by unfold SF;omega
   (have hKY:=hKB;clear hKB)
   refine aM.gP (β:=Nat) (fun j=>en [(5,dI j),(4,.one (.c (.ptr 4 (nx1+8) 0 0))),(3,dI k),(0,dS (l.map eN))]) (fun j H2 _=>(j≤k∧ ∀i,i<j→aaM (l.getD i default) r=false)∧H2 (nx1+8)=some ⟨4,1,[eN r]⟩) (fun j=>k-j) 0 ⟨noF,_,by repeat' (first| (with_reducible first|exact C1|refine C2 ?_ ?_)| ((with_reducible refine C0 ?_);exact CE (by omega) rfl)| ((with_reducible refine D0 ?_);first|exact CA rfl|refine CJ ?_)|fail),aK,⟨by omega,fun i hi=>by omega⟩,by simp only[aA.set,if_true]⟩ ?_
   rintro j H2 nx2 hnx2 ⟨⟨hj,hinvj⟩,g8⟩ KM hKM
   by_cases hjl:j<k
   ·obtain⟨r2,hr2⟩: ∃r2,r2=l.getD j default:=⟨_,rfl⟩
    have hr2':l.getD j default=r2:=hr2.symm
    repeat' (first| (with_reducible first| (refine hK _ _ _ ?_;clear hK K)| (refine hA ?_;clear hA hB A B)| (refine hB ?_;clear hA hB A B)|refine Z1 ?_|refine Z2 ?_|refine Z3 fun KB hKB=> ?_|refine Z4 (by omega) ?_|refine Z6 (fun h=> ?_) fun h=> ?_)| (with_reducible first|refine Y2 fun K hK=> ?_|refine Y3 fun A B hA hB=> ?_|refine Y6 (fun h=> ?_) fun h=> ?_)<;>(simp only[go_sem,hr2',g8];try simp (disch:=omega) only[Iw])| ((with_reducible refine Y8 ?_);try simp only[AQ.then,AQ.blk,reduceIte,Nat.reduceEqDiff])| ((with_reducible refine Y0 ?_);simp only[AQ.then,AQ.blk])|refine⟨by omega,?_⟩| (with_reducible refine hKB _ _ _ ?_)|fail)
    ·refine aZ hQ (dB false) rfl rfl (j7 fun hm=> ?_)
     have h2:=(hm.2 k hlt).2
     refine h2 (cH.2 ⟨l.getD j default,List.mem_iff_getElem.2 ⟨j,by simp;omega,by simp[List.getD,show j<l.length by omega]⟩,decide_eq_true ?_⟩)
     rw[hr2',hr']
     omega
    all_goals exact hKM _ _ _ (j+1) noF _ (by omega) (by omega) (by repeat' (first| (with_reducible first|exact C1|refine C2 ?_ ?_)| ((with_reducible refine C0 ?_);exact CE (by omega) rfl)| ((with_reducible refine D0 ?_);first|exact CA rfl|refine CJ ?_)|fail)) aK ⟨⟨by omega,iS hinvj (by rw[hr2'];exact decide_eq_false (by omega))⟩,g8⟩
   ·repeat' (first| (with_reducible first| (refine hK _ _ _ ?_;clear hK K)| (refine hB ?_;clear hA hB A B)|refine Z1 ?_|refine Z5 (by omega) ?_|refine hKY _ _ _ ?_)| (with_reducible first|refine Y2 fun K hK=> ?_|refine Y3 fun A B hA hB=> ?_)<;>(simp only[go_sem];try simp (disch:=omega) only[Iw])| ((with_reducible refine Y9 ?_);try simp only[AQ.then,AQ.blk,reduceIte,Nat.reduceEqDiff])| ((with_reducible refine Y0 ?_);simp only[AQ.then,AQ.blk])| (with_reducible refine hKB _ _ _ ?_)|fail)
    refine hKL _ _ _ (k+1) noF _ (by omega) (by omega) (by repeat' (first| (with_reducible first|exact C1|refine C2 ?_ ?_)| ((with_reducible refine D0 ?_);exact CA rfl)|fail)) aK ⟨by omega,iS hinv ⟨by rw[hr'];exact hro,fun hc=> ?_⟩⟩
    obtain⟨x,hx,hx2⟩:=cH.1 hc
    obtain⟨i,hi,rfl⟩:=List.mem_iff_getElem.1 hx
    have hi':i<k:=by simp at hi;omega
    have:=hinvj i (by omega)
    simp only[List.getD,show i<l.length by omega,List.getElem?_eq_getElem,Option.getD_some] at this
    rw[hr'] at hx2
    simp only[List.getElem_take] at hx2
    rw[this] at hx2
    cases hx2
  ·repeat' (first| (with_reducible first| (refine hK _ _ _ ?_;clear hK K)| (refine hB ?_;clear hA hB A B)|refine Z1 ?_|refine Z5 (by omega) ?_|refine hKX _ _ _ ?_)| (with_reducible first|refine Y2 fun K hK=> ?_|refine Y3 fun A B hA hB=> ?_)<;>(simp only[go_sem])| ((with_reducible first|refine Y8 ?_|refine Y9 ?_);try simp only[AQ.then,AQ.blk,reduceIte,Nat.reduceEqDiff])|fail)
   have hk2:k=l.length:=by omega
   subst hk2
   exact aZ hQ (dB true) rfl rfl (q9 ⟨hl4,hinv⟩)
 ·repeat' (first| (with_reducible first| (refine hK _ _ _ ?_;clear hK K)| (refine hA ?_;clear hA hB A B)|refine Z1 ?_|refine Z4 (by omega) ?_)| (with_reducible first|refine Y2 fun K hK=> ?_|refine Y3 fun A B hA hB=> ?_)<;>(simp only[go_sem])| ((with_reducible refine Y8 ?_);try simp only[AQ.then,AQ.blk,reduceIte,Nat.reduceEqDiff])|fail)
  exact aZ hQ (dB false) rfl rfl (j7 fun h=>hl4 h.1)
theorem aD5 {l:List Rng} (hl:l.length<2^40) (h:K (dB (decide (DH l))) H nx):aB Tryz.prog aBG [dS (l.map eN)] H nx K:=
 (aD7 l hl).pure rfl (aI ⟨aE rfl,trivial⟩) (fun r hr=>hr▸h)
theorem aD9 (l:List Int) (lo up:Int) (hl:l.length<2^40):aB Tryz.prog aA3 [dS (l.map aJ),dI lo,dI up] .nil 0 fun rr _ _=>rr.plain=true∧rr=dB (decide (All l lo up)):=by
 refine aDN rfl fun Q hQ=> ?_
 unfold aBP
 repeat' (first| (with_reducible first| (refine hK _ _ _ ?_;clear hK K)|refine Z1 ?_|refine Z3 fun KB hKB=> ?_)| (with_reducible refine Y2 fun K hK=> ?_)<;>(simp only[go_sem])|fail)
 (have hKX:=hKB;clear hKB);(refine aM.loop (α:={k:Nat//k≤l.length∧(∀i,i<k→lo≤l.getD i default∧l.getD i default≤up)}) (fun u=>en [(7,dI u.1),(2,dI up),(1,dI lo),(0,dS (l.map aJ))]) (fun _=>.nil) _ (fun u=>l.length-u.1) ⟨0,by omega,(by intros;first|trivial|omega)⟩ (bU (Nat.le_refl _) (by repeat' (first| (with_reducible first|exact C1|refine C2 ?_ ?_)| ((with_reducible refine D0 ?_);exact CA rfl)|fail))) ?_);(rintro⟨k,hk,hinv⟩ KL hKL)
 by_cases hlt:k<l.length
 ·repeat' (first| (with_reducible first| (refine hK _ _ _ ?_;clear hK K)| (refine hA ?_;clear hA hB A B)| (refine hB ?_;clear hA hB A B)|refine Z1 ?_|refine Z2 ?_|refine Z3 fun KB hKB=> ?_|refine Z4 (by omega) ?_|refine Z6 (fun h=> ?_) fun h=> ?_)| (first| (with_reducible first|refine Y2 fun K hK=> ?_|refine Y3 fun A B hA hB=> ?_)| (with_reducible refine aBC ?_))<;>(simp only[go_sem];try simp (disch:=omega) only[Iw])| ((with_reducible refine Y8 ?_);try simp only[AQ.then,AQ.blk,reduceIte,Nat.reduceEqDiff])| ((with_reducible refine Y0 ?_);simp only[AQ.then,AQ.blk])|refine⟨by omega,?_⟩| (with_reducible refine hKB _ _ _ ?_)|fail)
  ·exact aZ hQ (dB false) rfl rfl (j7 fun ha=>by have:=aj1 ha hlt;omega)
  · (refine hKL _ _ _ ⟨k+1,by omega,iS hinv (by omega)⟩ (by omega) (by(try dsimp only);omega) (bU (Nat.le_refl _) (by repeat' (first| (with_reducible first|exact C1|refine C2 ?_ ?_)| ((with_reducible refine D0 ?_);exact CA rfl)|fail))))
 ·repeat' (first| (with_reducible first| (refine hK _ _ _ ?_;clear hK K)| (refine hB ?_;clear hA hB A B)|refine Z1 ?_|refine Z5 (by omega) ?_|refine hKX _ _ _ ?_)| (with_reducible first|refine Y2 fun K hK=> ?_|refine Y3 fun A B hA hB=> ?_)<;>(simp only[go_sem])| ((with_reducible first|refine Y8 ?_|refine Y9 ?_);try simp only[AQ.then,AQ.blk,reduceIte,Nat.reduceEqDiff])|fail)
  exact aZ hQ (dB true) rfl rfl (q9 (aEA fun i hi=>hinv i (by omega)))
theorem aCC {l:List Int} {lo:Int} {up:Int} (hl:l.length<2^40) (h:K (dB (decide (All l lo up))) H nx):aB Tryz.prog aA3 [dS (l.map aJ),dI lo,dI up] H nx K:=
 (aD9 l lo up hl).pure rfl (aI ⟨aE rfl,aE rfl,aE rfl,trivial⟩) (fun r hr=>hr▸h)
theorem aD1 (q:Req) (hd:q.data.length<2^40) (hl:q.g6.length<2^40):aB Tryz.prog aBF [dA (eB q)] .nil 0 fun rr _ _=>rr.plain=true∧rr=dB (decide (dH q)):=by
 refine aDW rfl fun Q hQ=> ?_
 unfold aBM
 repeat' (first| (with_reducible first| (refine hK _ _ _ ?_;clear hK K)| (refine hA ?_;clear hA hB A B)| (refine hB ?_;clear hA hB A B)|refine Z1 ?_|refine Z2 ?_|refine Z6 (fun h=> ?_) fun h=> ?_)| (first| (with_reducible first|refine Y2 fun K hK=> ?_|refine Y3 fun A B hA hB=> ?_|refine Y6 (fun h=> ?_) fun h=> ?_)| (with_reducible refine aBC ?_)| (with_reducible refine aC2 ?_)| (with_reducible refine aCI ?_)| (with_reducible refine aCC (l:=q.data) hd ?_)| (with_reducible refine aCC (l:=q.g6) hl ?_))<;>(simp only[go_sem])| ((with_reducible refine Y8 ?_);try simp only[AQ.then,AQ.blk,reduceIte,Nat.reduceEqDiff])| ((with_reducible refine Z8 (fun h=> ?_) (fun h=> ?_))<;>try subst h)|fail)
 all_goals first|with_reducible refine aZ hQ _ rfl rfl ?_|skip
 all_goals
  have e2:wrM q=true↔(q.kind=2∨q.kind=4):=by simp[wrM]
  have e3:All ([]:List Int) 0 65535:=by simp[All]
  have e4:All ([]:List Int) 0 3:=by simp[All]
  have e5:q.data.length=0→q.data=[]:=List.length_eq_zero_iff.1
  have e6:q.g6.length=0→q.g6=[]:=List.length_eq_zero_iff.1
  clear hQ
  first|exact j7 (by unfold dH n5;grind)|exact q9 (by unfold dH n5;grind)|exact pD (by unfold dH n5;grind)
theorem aD8 {q:Req} (hd:q.data.length<2^40) (hl:q.g6.length<2^40) (h:K (dB (decide (dH q))) H nx):aB Tryz.prog aBF [dA (eB q)] H nx K:=
 (aD1 q hd hl).pure rfl (aI ⟨aE rfl,trivial⟩) (fun r hr=>hr▸h)
theorem aMT (r:Rsp) (hr:r.data.length<2^40):aB Tryz.prog aIP [dA (tG r)] .nil 0 fun rr _ _=>rr.plain=true∧rr=dB (decide (pA r)):=by
 refine aMN rfl fun Q hQ=> ?_
 unfold aJL
 repeat' (first| (with_reducible first| (refine hK _ _ _ ?_;clear hK K)|refine Z1 ?_)| (first| (with_reducible first|refine Y2 fun K hK=> ?_|refine Y6 (fun h=> ?_) fun h=> ?_)| (with_reducible refine aBC ?_)| (with_reducible refine aCC (l:=r.data) hr ?_))<;>(simp only[go_sem])| ((with_reducible refine Y8 ?_);try simp only[AQ.then,AQ.blk,reduceIte,Nat.reduceEqDiff])|fail)
 all_goals first|with_reducible refine aZ hQ _ rfl rfl ?_|skip
 all_goals first|exact j7 (by unfold pA;grind)|exact pD (by unfold pA;grind)|exact q9 (by unfold pA;grind)
theorem aMP {r:Rsp} (hr:r.data.length<2^40) (h:K (dB (decide (pA r))) H nx):aB Tryz.prog aIP [dA (tG r)] H nx K:=
 (aMT r hr).pure rfl (aI ⟨aE rfl,trivial⟩) (fun r hr=>hr▸h)
theorem aML (p:Prog) (hp:p.length<2^40) (hq: ∀q∈p,q.data.length<2^40∧q.g6.length<2^40):aB Tryz.prog aI2 [dS (p.map eB)] .nil 0 fun rr _ _=>rr.plain=true∧rr=dB (decide (∀q∈p,dH q)):=by
 refine aLI rfl fun Q hQ=> ?_
 unfold aJC
 repeat' (first| (with_reducible first| (refine hK _ _ _ ?_;clear hK K)|refine Z1 ?_|refine Z3 fun KB hKB=> ?_)| (with_reducible refine Y2 fun K hK=> ?_)<;>(simp only[go_sem])|fail)
 (have hKX:=hKB;clear hKB);(refine aM.loop (α:={k:Nat//k≤p.length∧(∀i,i<k→dH (p.getD i default))}) (fun u=>en [(3,dI u.1),(0,dS (p.map eB))]) (fun _=>.nil) _ (fun u=>p.length-u.1) ⟨0,by omega,(by intros;first|trivial|omega)⟩ (bU (Nat.le_refl _) (by repeat' (first| (with_reducible first|exact C1|refine C2 ?_ ?_)| ((with_reducible refine D0 ?_);exact CA rfl)|fail))) ?_);(rintro⟨k,hk,hinv⟩ KL hKL)
 by_cases hlt:k<p.length
 ·have hm:=hq _ (cC hlt)
  repeat' (first| (with_reducible first| (refine hK _ _ _ ?_;clear hK K)| (refine hA ?_;clear hA hB A B)| (refine hB ?_;clear hA hB A B)|refine Z1 ?_|refine Z2 ?_|refine Z3 fun KB hKB=> ?_|refine Z4 (by omega) ?_|refine Z6 (fun h=> ?_) fun h=> ?_)| (first| (with_reducible first|refine Y2 fun K hK=> ?_|refine Y3 fun A B hA hB=> ?_)| (with_reducible refine aD8 hm.1 hm.2 ?_))<;>(simp only[go_sem];try simp (disch:=omega) only[Iw])| ((with_reducible refine Y8 ?_);try simp only[AQ.then,AQ.blk,reduceIte,Nat.reduceEqDiff])| ((with_reducible refine Y0 ?_);simp only[AQ.then,AQ.blk])|refine⟨by omega,?_⟩| (with_reducible refine hKB _ _ _ ?_)|fail)
  ·exact aZ hQ (dB false) rfl rfl (j7 fun ha=>by have:=ha _ (cC hlt);simp_all)
  · (refine hKL _ _ _ ⟨k+1,by omega,iS hinv (by simp_all)⟩ (by omega) (by(try dsimp only);omega) (bU (Nat.le_refl _) (by repeat' (first| (with_reducible first|exact C1|refine C2 ?_ ?_)| ((with_reducible refine D0 ?_);exact CA rfl)|fail))))
 ·repeat' (first| (with_reducible first| (refine hK _ _ _ ?_;clear hK K)| (refine hB ?_;clear hA hB A B)|refine Z1 ?_|refine Z5 (by omega) ?_|refine hKX _ _ _ ?_)| (with_reducible first|refine Y2 fun K hK=> ?_|refine Y3 fun A B hA hB=> ?_)<;>(simp only[go_sem])| ((with_reducible first|refine Y8 ?_|refine Y9 ?_);try simp only[AQ.then,AQ.blk,reduceIte,Nat.reduceEqDiff])|fail)
  exact aZ hQ (dB true) rfl rfl (q9 (aKJ fun i hi=>hinv i (by omega)))
theorem aL2 {p:Prog} (hp:p.length<2^40) (hq: ∀q∈p,q.data.length<2^40∧q.g6.length<2^40) (h:K (dB (decide (∀q∈p,dH q))) H nx):aB Tryz.prog aI2 [dS (p.map eB)] H nx K:=
 (aML p hp hq).pure rfl (aI ⟨aE rfl,trivial⟩) (fun r hr=>hr▸h)
theorem aMY (c:Cfg) (hc:jO c):aB Tryz.prog aIV [dA (cU c)] .nil 0 fun rr _ _=>rr.plain=true∧rr=dB (decide (aQ c)):=by
 refine aLX rfl fun Q hQ=> ?_
 unfold aJQ
 have hbp:aQ c↔DH c.map∧(c.lat.length:Int)=4∧All c.lat 0 3∧(c.cP.length:Int)=3∧ ∀p∈c.cP,(p.length:Int)≤12∧ ∀q∈p,dH q:=by
  unfold aQ mV
  simp only[cH,not_exists,not_and,decide_eq_true_eq,Classical.not_imp,Classical.not_not]
 by_cases h0:DH c.map∧(c.lat.length:Int)=4∧All c.lat 0 3∧(c.cP.length:Int)=3
 ·obtain⟨h1,h2,h3,h4⟩:=h0
  repeat' (first| (with_reducible first| (refine hK _ _ _ ?_;clear hK K)| (refine hB ?_;clear hA hB A B)|refine Z1 ?_|refine Z2 ?_|refine Z3 fun KB hKB=> ?_|refine Z5 (by omega) ?_)| (first| (with_reducible first|refine Y2 fun K hK=> ?_|refine Y3 fun A B hA hB=> ?_|refine Y5 (by omega) ?_)| (with_reducible refine aD5 hc.map ?_)| (with_reducible refine aCC (l:=c.lat) hc.lat ?_))<;>(simp only[go_sem,eq_true h1,eq_true h3])|fail)
  (have hKX:=hKB;clear hKB);(refine aM.loop (α:={k:Nat//k≤3∧(∀i,i<k→((c.cP.getD i default).length:Int)≤12∧ ∀q∈c.cP.getD i default,dH q)}) (fun u=>en [(3,dI u.1),(1,.one (.c (.fQ (cU c))))]) (fun _=>.nil) _ (fun u=>3-u.1) ⟨0,by omega,(by intros;first|trivial|omega)⟩ (bU (Nat.le_refl _) (by repeat' (first| (with_reducible first|exact C1|refine C2 ?_ ?_)| ((with_reducible refine D0 ?_);first|exact CA rfl|exact CI rfl (by simp) rfl rfl rfl)|fail))) ?_);(rintro⟨k,hk,hinv⟩ KL hKL)
  by_cases hlt:k<3
  ·have hm:c.cP.getD k default∈c.cP:=cC (by omega)
   have hm1:=hc.prog _ hm
   have hm2:=hc.req _ hm
   repeat' (first| (with_reducible first| (refine hK _ _ _ ?_;clear hK K)| (refine hA ?_;clear hA hB A B)| (refine hB ?_;clear hA hB A B)|refine Z1 ?_|refine Z2 ?_|refine Z3 fun KB hKB=> ?_|refine Z4 (by omega) ?_|refine Z6 (fun h=> ?_) fun h=> ?_)| (first| (with_reducible first|refine Y2 fun K hK=> ?_|refine Y3 fun A B hA hB=> ?_|refine Y6 (fun h=> ?_) fun h=> ?_)| (with_reducible refine aL2 hm1 hm2 ?_))<;>(simp only[go_sem];try simp (disch:=omega) only[Iw])| ((with_reducible refine Y8 ?_);try simp only[AQ.then,AQ.blk,reduceIte,Nat.reduceEqDiff])| ((with_reducible refine Y0 ?_);simp only[AQ.then,AQ.blk])|refine⟨by omega,?_⟩| (with_reducible refine hKB _ _ _ ?_)|fail)
   ·exact aZ hQ (dB false) rfl rfl (j7 fun hB=>by have:=((hbp.1 hB).2.2.2.2 _ hm).1;omega)
   ·exact aZ hQ (dB false) rfl rfl (j7 fun hB=>by have:=((hbp.1 hB).2.2.2.2 _ hm).2;simp_all)
   · (refine hKL _ _ _ ⟨k+1,by omega,iS hinv ⟨by omega,by simp_all⟩⟩ (by omega) (by(try dsimp only);omega) (bU (Nat.le_refl _) (by repeat' (first| (with_reducible first|exact C1|refine C2 ?_ ?_)| ((with_reducible refine D0 ?_);exact CA rfl)|fail))))
  ·repeat' (first| (with_reducible first| (refine hK _ _ _ ?_;clear hK K)| (refine hB ?_;clear hA hB A B)|refine Z1 ?_|refine Z5 (by omega) ?_|refine hKX _ _ _ ?_)| (with_reducible first|refine Y2 fun K hK=> ?_|refine Y3 fun A B hA hB=> ?_)<;>(simp only[go_sem])| ((with_reducible first|refine Y8 ?_|refine Y9 ?_);try simp only[AQ.then,AQ.blk,reduceIte,Nat.reduceEqDiff])|fail)
   exact aZ hQ (dB true) rfl rfl (q9 (hbp.2 ⟨h1,h2,h3,h4,aKJ fun i hi=>hinv i (by omega)⟩))
 ·have hno: ¬aQ c:=fun hB=>h0 ⟨(hbp.1 hB).1,(hbp.1 hB).2.1,(hbp.1 hB).2.2.1,(hbp.1 hB).2.2.2.1⟩
  repeat' (first| (with_reducible first| (refine hK _ _ _ ?_;clear hK K)| (refine hA ?_;clear hA hB A B)| (refine hB ?_;clear hA hB A B)|refine Z1 ?_|refine Z2 ?_|refine Z3 fun KB hKB=> ?_|refine Z6 (fun h=> ?_) fun h=> ?_)| (first| (with_reducible first|refine Y2 fun K hK=> ?_|refine Y3 fun A B hA hB=> ?_|refine Y6 (fun h=> ?_) fun h=> ?_)| (with_reducible refine aD5 hc.map ?_)| (with_reducible refine aCC (l:=c.lat) hc.lat ?_))<;>(simp only[go_sem])| ((with_reducible refine Y8 ?_);try simp only[AQ.then,AQ.blk,reduceIte,Nat.reduceEqDiff])|fail)
  all_goals first|exact aZ hQ (dB false) rfl rfl (j7 hno)|exact absurd ⟨by simp_all,by omega,by simp_all,by omega⟩ h0
theorem aKG {c:Cfg} (hc:jO c) (h:K (dB (decide (aQ c))) H nx):aB Tryz.prog aIV [dA (cU c)] H nx K:=
 (aMY c hc).pure rfl (aI ⟨aE rfl,trivial⟩) (fun r hr=>hr▸h)
theorem aM3 (l:List Int) (hl:l.length<2^40):aB Tryz.prog aI7 [dA [.isl (l.map aJ)]] .nil 0 fun rr _ _=>rr.plain=true∧rr=dB (decide ((l.length:Int)=64∧All l 0 65535)):=by
 refine aMO rfl fun Q hQ=> ?_
 unfold aJK
 repeat' (first| (with_reducible first| (refine hK _ _ _ ?_;clear hK K)| (refine hA ?_;clear hA hB A B)| (refine hB ?_;clear hA hB A B)|refine Z1 ?_|refine Z2 ?_|refine Z3 fun KB hKB=> ?_|refine Z6 (fun h=> ?_) fun h=> ?_)| (with_reducible first|refine Y2 fun K hK=> ?_|refine Y3 fun A B hA hB=> ?_)<;>(simp only[go_sem])| ((with_reducible refine Y8 ?_);try simp only[AQ.then,AQ.blk,reduceIte,Nat.reduceEqDiff])|fail)
 ·exact aZ hQ (dB false) rfl rfl (j7 fun ha=>by omega)
 (have hKX:=hKB;clear hKB);(refine aM.loop (α:={k:Nat//k≤l.length∧(∀i,i<k→0≤l.getD i default∧l.getD i default≤65535)}) (fun u=>en [(3,dI u.1),(1,.one (.c (.fQ [.isl (l.map aJ)])))]) (fun _=>.nil) _ (fun u=>l.length-u.1) ⟨0,by omega,(by intros;first|trivial|omega)⟩ (bU (Nat.le_refl _) (by repeat' (first| (with_reducible first|exact C1|refine C2 ?_ ?_)| ((with_reducible refine D0 ?_);first|exact CA rfl|exact CI rfl (by simp) rfl rfl rfl)|fail))) ?_);(rintro⟨k,hk,hinv⟩ KL hKL)
 by_cases hlt:k<l.length
 ·repeat' (first| (with_reducible first| (refine hK _ _ _ ?_;clear hK K)| (refine hA ?_;clear hA hB A B)| (refine hB ?_;clear hA hB A B)|refine Z1 ?_|refine Z2 ?_|refine Z3 fun KB hKB=> ?_|refine Z4 (by omega) ?_|refine Z6 (fun h=> ?_) fun h=> ?_)| (first| (with_reducible first|refine Y2 fun K hK=> ?_|refine Y3 fun A B hA hB=> ?_)| (with_reducible refine aBC ?_))<;>(simp only[go_sem];try simp (disch:=omega) only[Iw])| ((with_reducible refine Y8 ?_);try simp only[AQ.then,AQ.blk,reduceIte,Nat.reduceEqDiff])| ((with_reducible refine Y0 ?_);simp only[AQ.then,AQ.blk])|refine⟨by omega,?_⟩| (with_reducible refine hKB _ _ _ ?_)|fail)
  ·exact aZ hQ (dB false) rfl rfl (j7 fun ha=>by have:=aj1 ha.2 hlt;omega)
  · (refine hKL _ _ _ ⟨k+1,by omega,iS hinv (by omega)⟩ (by omega) (by(try dsimp only);omega) (bU (Nat.le_refl _) (by repeat' (first| (with_reducible first|exact C1|refine C2 ?_ ?_)| ((with_reducible refine D0 ?_);exact CA rfl)|fail))))
 ·repeat' (first| (with_reducible first| (refine hK _ _ _ ?_;clear hK K)| (refine hB ?_;clear hA hB A B)|refine Z1 ?_|refine Z5 (by omega) ?_|refine hKX _ _ _ ?_)| (with_reducible first|refine Y2 fun K hK=> ?_|refine Y3 fun A B hA hB=> ?_)<;>(simp only[go_sem])| ((with_reducible first|refine Y8 ?_|refine Y9 ?_);try simp only[AQ.then,AQ.blk,reduceIte,Nat.reduceEqDiff])|fail)
  exact aZ hQ (dB true) rfl rfl (q9 ⟨by omega,aEA fun i hi=>hinv i (by omega)⟩)
theorem aMS {l:List Int} (hl:l.length<2^40) (h:K (dB (decide ((l.length:Int)=64∧All l 0 65535))) H nx):aB Tryz.prog aI7 [dA [.isl (l.map aJ)]] H nx K:=
 (aM3 l hl).pure rfl (aI ⟨aE rfl,trivial⟩) (fun r hr=>hr▸h)
theorem aMX (w u:List Int) (hw:w.length<2^40) (hu:u.length<2^40):aB Tryz.prog aIU [dA [.isl (w.map aJ),.isl (u.map aJ)]] .nil 0 fun rr _ _=>rr.plain=true∧rr=dB (decide (JS w u)):=by
 refine aLR rfl fun Q hQ=> ?_
 unfold aJM
 repeat' (first| (with_reducible first| (refine hK _ _ _ ?_;clear hK K)|refine Z1 ?_)| (first| (with_reducible first|refine Y2 fun K hK=> ?_|refine Y6 (fun h=> ?_) fun h=> ?_)| (with_reducible refine aMS hw ?_)| (with_reducible refine aCC (l:=u) hu ?_))<;>(simp only[go_sem])| ((with_reducible refine Y8 ?_);try simp only[AQ.then,AQ.blk,reduceIte,Nat.reduceEqDiff])|fail)
 all_goals first|with_reducible refine aZ hQ _ rfl rfl ?_|skip
 all_goals first|exact j7 (by unfold JS;grind)|exact pD (by unfold JS;grind)
theorem aKH {w:List Int} {u:List Int} (hw:w.length<2^40) (hu:u.length<2^40) (h:K (dB (decide (JS w u))) H nx):aB Tryz.prog aIU [dA [.isl (w.map aJ),.isl (u.map aJ)]] H nx K:=
 (aMX w u hw hu).pure rfl (aI ⟨aE rfl,trivial⟩) (fun r hr=>hr▸h)
end
end Go.Proofs.YtmccpdapaccnoaaGreat
end
section
namespace Go.Proofs.YtmccpdapaccnoaaGreat
open Go Go.AM
set_option maxRecDepth 100000
set_option maxHeartbeats 8000000
section
variable {H : aA} {nx : Nat} {K : D → aA → Nat → Prop}
theorem beM {q:Req} (h:dH q):q.data.length<2^40∧q.g6.length<2^40:=by
 obtain⟨_,_,h3,h4,h5,_,_,_⟩:=h
 have hb4:=MK (addr:=q.addr) (many:=q.many) (wrap:=q.wrap)
 have hbl:=DF h3
 have hm:q.many≤4:=by omega
 unfold n5 at h4 h5
 constructor
 ·split at h4<;>omega
 ·split at h5<;>omega
theorem bbR (m:List Rng) (q:Req) (hm:DH m) (hq:dH q) (hl:m.length<2^21):aB Tryz.prog y3 [dS (m.map eN),dA (eB q)] .nil 0 fun rr _ _=>rr.plain=true∧rr=dI (gZ m q):=by
 refine aCQ rfl fun Q hQ=> ?_
 unfold aA7
 have hwh:bV m (bE q.addr q.many q.wrap)<m.length:=by have hlt:=PQ (p:=(inR · ((bE q.addr q.many q.wrap).getD 0 default))) (l:=m);unfold bV;grind
 have hd:=beM hq
 have hb4:(bE q.addr q.many q.wrap).length<2^40:=by have:=MK (addr:=q.addr) (many:=q.many) (wrap:=q.wrap);omega
 have d1:=decide_eq_true hm
 have d2:=decide_eq_true hq
 repeat' (first| (with_reducible first| (refine hK _ _ _ ?_;clear hK K)| (refine hA ?_;clear hA hB A B)| (refine hB ?_;clear hA hB A B)|refine Z1 ?_|refine Z2 ?_|refine Z6 (fun h=> ?_) fun h=> ?_)| (first| (with_reducible first|refine Y2 fun K hK=> ?_|refine Y3 fun A B hA hB=> ?_)| (with_reducible refine aD5 (by omega) ?_)| (with_reducible refine aD8 hd.1 hd.2 ?_)| (with_reducible refine aC9 ?_)| (with_reducible refine aDG (by omega) hb4 ?_))<;>(simp only[go_sem,d1,d2,eq_true hm,eq_true hq])| ((with_reducible refine Y8 ?_);try simp only[AQ.then,AQ.blk,reduceIte,Nat.reduceEqDiff])|refine⟨by omega,?_⟩|fail)
 all_goals first|with_reducible refine aZ hQ _ rfl rfl ?_|skip
 ·unfold gZ;exact(congrArg dI (if_pos h)).symm
 ·unfold gZ;exact(congrArg dI (if_neg h)).symm
theorem a20 {m:List Rng} {q:Req} (hm:DH m) (hq:dH q) (hl:m.length<2^21) (h:K (dI (gZ m q)) H nx):aB Tryz.prog y3 [dS (m.map eN),dA (eB q)] H nx K:=
 (bbR m q hm hq hl).pure rfl (aI ⟨aE rfl,aE rfl,trivial⟩) (fun r hr=>hr▸h)
end
end Go.Proofs.YtmccpdapaccnoaaGreat
end
section
namespace Go.Proofs.YtmccpdapaccnoaaGreat
open Go Go.AM
set_option maxRecDepth 100000
def AN:AC:=
 (.seq (.region [rq 0 2 (.box true (.tm 0)),
 rq 1 3 (.box true (.tm 1)),
 rq 2 4 (.move (.kv (.bool false)))] 3 [2,3])
 (.seq (.seq (.region [rq 0 11 (.load 3 true (.tm 2)),
 rq 1 12 (.call wF [(.tm 11)]),
 rq 2 13 (.un .not (.tm 12)),
 RM 3 14 13,
 GQ 4 15 (.fld 0 (.tm 3)) 14 false,
 GQ 5 16 (.load 2 true (.tm 15)) 14 false,
 GQ 6 17 (.call rG [(.tm 16)]) 14 false,
 GQ 7 18 (.un .not (.tm 17)) 14 false,
 rq 8 19 (.pick (.tm 14) (.kv (.bool true)) (.tm 18)),
 RM 9 20 19,
 GQ 10 21 (.fld 2 (.tm 3)) 20 false,
 GQ 11 22 (.load 1 false (.tm 21)) 20 false,
 GQ 12 23 (.len false (.tm 22)) 20 false,
 GQ 13 24 (.bin .neq (.tm 23) (ki 3)) 20 false,
 rq 14 25 (.pick (.tm 20) (.kv (.bool true)) (.tm 24)),
 RM 15 26 25,
 GQ 16 27 (.fld 3 (.tm 3)) 26 false,
 GQ 17 28 (.load 1 false (.tm 27)) 26 false,
 GQ 18 29 (.len false (.tm 28)) 26 false,
 GQ 19 30 (.bin .neq (.tm 29) (ki 4)) 26 false,
 rq 20 31 (.pick (.tm 26) (.kv (.bool true)) (.tm 30))] 21 [2,3,31])
 (.cond (.tm 31)
 (.seq (.region [rq 0 4 (.move (.kv (.bool false)))] 1 [4])
 .ret)
 .skip))
 (.seq (.region [rq 0 5 (.move (ki 0)),
 rq 1 6 (.move (ki 0))] 2 [2,3,5,6])
 (.seq (.seq (.region [RF 0 32 2 3,
 RL 1 33 32,
 rq 2 34 (.len false (.tm 33)),
 rq 3 35 (.move (ki 0))] 4 [2,3,5,6,33,34,35])
 (.block 0
 (.loop
 (.seq (.region [rq 0 36 (.bin .lss (.tm 35) (.tm 34))] 1 [2,3,5,6,33,34,35,36])
 (.seq (.cond (.tm 36)
 .skip
 (.exit 0))
 (.seq (.block 1
 (.seq (.region [RM 0 37 35,
 rq 1 38 (.idx 4 (.tm 33) (.tm 35)),
 rq 2 39 (.load 4 true (.tm 38)),
 rq 3 8 (.alloc [VZ,OZ,OZ,VZ]),
 RM 4 7 37,
 rn 5 (.store 4 true (.tm 8) (.tm 39))] 6 [2,3,5,6,7,8,33,34,35])
 (.seq (.seq (.region [rq 0 40 (.load 3 true (.tm 2)),
 RM 1 41 7,
 rq 2 42 (.load 4 true (.tm 8)),
 rq 3 43 (.call jK [(.tm 40),(.tm 41),(.tm 42)]),
 rq 4 44 (.un .not (.tm 43))] 5 [2,3,5,6,8,33,34,35,44])
 (.cond (.tm 44)
 (.seq (.region [rq 0 4 (.move (.kv (.bool false)))] 1 [4])
 .ret)
 .skip))
 (.region [RM 0 45 5,
 RF 1 46 2 8,
 RL 2 47 46,
 rq 3 48 (.len false (.tm 47)),
 rq 4 49 (.bin .add (.tm 45) (.tm 48)),
 RM 5 5 49] 6 [2,3,5,6,33,34,35]))))
 (.region [rq 0 50 (.bin .add (.tm 35) (ki 1)),
 RM 1 35 50] 2 [2,3,5,6,33,34,35])))))))
 (.seq (.seq (.region [RF 0 51 3 3,
 RL 1 52 51,
 rq 2 53 (.len false (.tm 52)),
 rq 3 54 (.move (ki 0))] 4 [2,3,5,6,52,53,54])
 (.block 2
 (.loop
 (.seq (.region [rq 0 55 (.bin .lss (.tm 54) (.tm 53))] 1 [2,3,5,6,52,53,54,55])
 (.seq (.cond (.tm 55)
 .skip
 (.exit 2))
 (.seq (.block 3
 (.seq (.region [RM 0 56 54,
 rq 1 57 (.idx 3 (.tm 52) (.tm 54)),
 rq 2 58 (.load 3 true (.tm 57)),
 rq 3 10 (.alloc [OZ,OZ,VZ]),
 RM 4 9 56,
 rn 5 (.store 3 true (.tm 10) (.tm 58))] 6 [2,3,5,6,9,10,52,53,54])
 (.seq (.seq (.region [rq 0 59 (.load 3 true (.tm 2)),
 rq 1 60 (.load 5 true (.tm 3)),
 RM 2 61 9,
 rq 3 62 (.call iX [(.tm 59),(.tm 60),(.tm 61)]),
 rq 4 63 (.un .not (.tm 62))] 5 [2,3,5,6,10,52,53,54,63])
 (.cond (.tm 63)
 (.seq (.region [rq 0 4 (.move (.kv (.bool false)))] 1 [4])
 .ret)
 .skip))
 (.region [RM 0 64 6,
 RF 1 65 0 10,
 RL 2 66 65,
 rq 3 67 (.len false (.tm 66)),
 RF 4 68 1 10,
 RL 5 69 68,
 rq 6 70 (.len false (.tm 69)),
 rq 7 71 (.bin .add (.tm 67) (.tm 70)),
 rq 8 72 (.bin .add (.tm 64) (.tm 71)),
 RM 9 6 72] 10 [2,3,5,6,52,53,54]))))
 (.region [rq 0 73 (.bin .add (.tm 54) (ki 1)),
 RM 1 54 73] 2 [2,3,5,6,52,53,54])))))))
 (.seq (.region [RM 0 74 5,
 RM 1 75 6,
 rq 2 76 (.bin .eql (.tm 74) (.tm 75)),
 RM 3 77 76,
 ⟨4,(some 78),.load 3 true (.tm 2),(some (77,true)),[],[],true⟩,
 GQ 5 79 (.load 5 true (.tm 3)) 77 true,
 ⟨6,(some 80),.call zX [(.tm 79)],(some (77,true)),[],[4],false⟩,
 GQ 7 81 (.call j9 [(.tm 78),(.tm 80)]) 77 true,
 rq 8 82 (.pick (.tm 77) (.tm 81) (.kv (.bool false))),
 RM 9 4 82] 10 [4])
 .ret))))))
def UJ:List Cert:=[⟨[],[2,3]⟩,⟨[],[2,3,31]⟩,⟨[],[4]⟩,⟨[],[2,3,5,6]⟩,⟨[],[2,3,5,6,33,34,35]⟩,⟨[],[2,3,5,6,33,34,35,36]⟩,⟨[],[2,3,5,6,7,8,33,34,35]⟩,⟨[],[2,3,5,6,8,33,34,35,44]⟩,⟨[],[4]⟩,⟨[],[2,3,5,6,33,34,35]⟩,⟨[],[2,3,5,6,33,34,35]⟩,⟨[],[2,3,5,6,52,53,54]⟩,⟨[],[2,3,5,6,52,53,54,55]⟩,⟨[],[2,3,5,6,9,10,52,53,54]⟩,⟨[],[2,3,5,6,10,52,53,54,63]⟩,⟨[],[4]⟩,⟨[],[2,3,5,6,52,53,54]⟩,⟨[],[2,3,5,6,52,53,54]⟩,⟨[cz 0,cz 1,cz 2,cz 3,(4,[],[],true),cz 5,(6,[],[4],false),cz 7,cz 8,cz 9],[4]⟩]
def IC:List aW:=[.tm 4]
theorem UM:aO Tryz.prog Tryz.f35 UJ=some (AN,IC):=by kernel_rfl
def yF:AC:=
 (.seq (.region [rq 0 1 (.box true (.tm 0)),
 rq 1 2 (.alloc [OZ,OZ,OZ,OZ,OZ,OZ])] 2 [1,2])
 (.seq (.region [RF 0 12 0 1,
 rq 1 13 (.load 2 true (.tm 12)),
 RF 2 14 4 1,
 RL 3 15 14,
 rq 4 16 (.build [OZ,OZ,OZ,OZ,OZ,OZ] [(0,2,(.tm 13)),(5,1,(.tm 15))]),
 rq 5 3 (.alloc [OZ,OZ,OZ,OZ,OZ,OZ]),
 rn 6 (.store 6 true (.tm 3) (.tm 16))] 7 [1,2,3])
 (.seq (.seq (.region [RF 0 17 2 1,
 RL 1 18 17,
 rq 2 19 (.len false (.tm 18)),
 rq 3 20 (.move (ki 0))] 4 [1,2,3,18,19,20])
 (.block 0
 (.loop
 (.seq (.region [rq 0 21 (.bin .lss (.tm 20) (.tm 19))] 1 [1,2,3,18,19,20,21])
 (.seq (.cond (.tm 21)
 .skip
 (.exit 0))
 (.seq (.block 1
 (.seq (.region [RM 0 22 20,
 rq 1 23 (.idx 4 (.tm 18) (.tm 20)),
 rq 2 24 (.load 4 true (.tm 23)),
 rq 3 5 (.alloc [VZ,OZ,OZ,VZ]),
 RM 4 4 22,
 rn 5 (.store 4 true (.tm 5) (.tm 24))] 6 [1,2,3,4,5,18,19,20])
 (.seq (.region [RF 0 25 2 3,
 RL 1 26 25,
 RF 2 27 0 5,
 RL 3 28 27,
 rq 4 29 (.bC 1 1 [VZ] [(0,1,(.tm 28))]),
 rq 5 30 (.append 1 (.tm 26) (.tm 29)),
 RF 6 31 2 3,
 rn 7 (.store 1 false (.tm 31) (.tm 30))] 8 [1,2,3,4,5,18,19,20])
 (.seq (.region [RF 0 32 1 5,
 RL 1 33 32,
 rq 2 34 (.len false (.tm 33)),
 rq 3 35 (.move (ki 0))] 4 [1,2,3,4,18,19,20,33,34,35])
 (.block 2
 (.loop
 (.seq (.region [rq 0 36 (.bin .lss (.tm 35) (.tm 34))] 1 [1,2,3,4,18,19,20,33,34,35,36])
 (.seq (.cond (.tm 36)
 .skip
 (.exit 2))
 (.seq (.block 3
 (.seq (.region [rq 0 37 (.idx 1 (.tm 33) (.tm 35)),
 RL 1 38 37,
 RM 2 7 38] 3 [1,2,3,4,7,18,19,20,33,34,35])
 (.region [RF 0 39 3 3,
 RL 1 40 39,
 RM 2 41 4,
 RM 3 42 7,
 rq 4 43 (.build [VZ,VZ,VZ,VZ,OZ] [(0,1,(.tm 41)),(1,1,(.tm 42))]),
 rq 5 44 (.bC 5 1 [VZ,VZ,VZ,VZ,OZ] [(0,5,(.tm 43))]),
 rq 6 45 (.append 5 (.tm 40) (.tm 44)),
 RF 7 46 3 3,
 rn 8 (.store 1 false (.tm 46) (.tm 45))] 9 [1,2,3,4,18,19,20,33,34,35])))
 (.region [rq 0 47 (.bin .add (.tm 35) (ki 1)),
 RM 1 35 47] 2 [1,2,3,4,18,19,20,33,34,35]))))))))))
 (.region [rq 0 48 (.bin .add (.tm 20) (ki 1)),
 RM 1 20 48] 2 [1,2,3,18,19,20])))))))
 (.seq (.seq (.region [RF 0 49 3 1,
 RL 1 50 49,
 rq 2 51 (.len false (.tm 50)),
 rq 3 52 (.move (ki 0))] 4 [2,3,50,51,52])
 (.block 4
 (.loop
 (.seq (.region [rq 0 53 (.bin .lss (.tm 52) (.tm 51))] 1 [2,3,50,51,52,53])
 (.seq (.cond (.tm 53)
 .skip
 (.exit 4))
 (.seq (.block 5
 (.seq (.region [rq 0 54 (.idx 3 (.tm 50) (.tm 52)),
 rq 1 55 (.load 3 true (.tm 54)),
 rq 2 9 (.alloc [OZ,OZ,VZ]),
 rn 3 (.store 3 true (.tm 9) (.tm 55))] 4 [2,3,9,50,51,52])
 (.seq (.seq (.region [RF 0 56 0 9,
 RL 1 57 56,
 rq 2 58 (.len false (.tm 57)),
 rq 3 59 (.move (ki 0))] 4 [2,3,9,50,51,52,57,58,59])
 (.block 6
 (.loop
 (.seq (.region [rq 0 60 (.bin .lss (.tm 59) (.tm 58))] 1 [2,3,9,50,51,52,57,58,59,60])
 (.seq (.cond (.tm 60)
 .skip
 (.exit 6))
 (.seq (.block 7
 (.seq (.region [rq 0 61 (.idx 3 (.tm 57) (.tm 59)),
 rq 1 62 (.load 3 true (.tm 61)),
 rq 2 11 (.alloc [VZ,VZ,VZ]),
 rn 3 (.store 3 true (.tm 11) (.tm 62))] 4 [2,3,9,11,50,51,52,57,58,59])
 (.region [RF 0 63 3 3,
 RL 1 64 63,
 RF 2 65 0 11,
 RL 3 66 65,
 RF 4 67 1 11,
 RL 5 68 67,
 rq 6 69 (.build [VZ,VZ,VZ,VZ,OZ] [(0,1,(.tm 66)),(1,1,(.tm 68))]),
 rq 7 70 (.bC 5 1 [VZ,VZ,VZ,VZ,OZ] [(0,5,(.tm 69))]),
 rq 8 71 (.append 5 (.tm 64) (.tm 70)),
 RF 9 72 3 3,
 rn 10 (.store 1 false (.tm 72) (.tm 71))] 11 [2,3,9,50,51,52,57,58,59])))
 (.region [rq 0 73 (.bin .add (.tm 59) (ki 1)),
 RM 1 59 73] 2 [2,3,9,50,51,52,57,58,59])))))))
 (.region [RF 0 74 4 3,
 RL 1 75 74,
 RF 2 76 1 9,
 RL 3 77 76,
 rq 4 78 (.append 5 (.tm 75) (.tm 77)),
 RF 5 79 4 3,
 rn 6 (.store 1 false (.tm 79) (.tm 78))] 7 [2,3,50,51,52]))))
 (.region [rq 0 80 (.bin .add (.tm 52) (ki 1)),
 RM 1 52 80] 2 [2,3,50,51,52])))))))
 (.seq (.region [RF 0 81 3 3,
 RL 1 82 81,
 rq 2 83 (.call cG [(.tm 82),(.fn bJ)])] 3 [2,3])
 (.seq (.region [RF 0 84 4 3,
 RL 1 85 84,
 rq 2 86 (.call cG [(.tm 85),(.fn bJ)])] 3 [2,3])
 (.seq (.region [rq 0 87 (.load 6 true (.tm 3)),
 rq 1 88 (.call iG [(.tm 87)]),
 rn 2 (.store 6 true (.tm 2) (.tm 88))] 3 [2])
 .ret)))))))
def SH:List Cert:=[⟨[],[1,2]⟩,⟨[],[1,2,3]⟩,⟨[],[1,2,3,18,19,20]⟩,⟨[],[1,2,3,18,19,20,21]⟩,⟨[],[1,2,3,4,5,18,19,20]⟩,⟨[],[1,2,3,4,5,18,19,20]⟩,⟨[],[1,2,3,4,18,19,20,33,34,35]⟩,⟨[],[1,2,3,4,18,19,20,33,34,35,36]⟩,⟨[],[1,2,3,4,7,18,19,20,33,34,35]⟩,⟨[],[1,2,3,4,18,19,20,33,34,35]⟩,⟨[],[1,2,3,4,18,19,20,33,34,35]⟩,⟨[],[1,2,3,18,19,20]⟩,⟨[],[2,3,50,51,52]⟩,⟨[],[2,3,50,51,52,53]⟩,⟨[],[2,3,9,50,51,52]⟩,⟨[],[2,3,9,50,51,52,57,58,59]⟩,⟨[],[2,3,9,50,51,52,57,58,59,60]⟩,⟨[],[2,3,9,11,50,51,52,57,58,59]⟩,⟨[],[2,3,9,50,51,52,57,58,59]⟩,⟨[],[2,3,9,50,51,52,57,58,59]⟩,⟨[],[2,3,50,51,52]⟩,⟨[],[2,3,50,51,52]⟩,⟨[],[2,3]⟩,⟨[],[2,3]⟩,⟨[],[2]⟩]
def GJ:List aW:=[.cell 2 6 true]
theorem RY:aO Tryz.prog Tryz.f44 SH=some (yF,GJ):=by kernel_rfl
def lL:AC:=
 (.seq (.region [rq 0 3 (.box true (.tm 0)),
 rq 1 5 (.box true (.tm 2)),
 rq 2 6 (.move (.kv (.bool false)))] 3 [1,3,5])
 (.seq (.seq (.region [RF 0 17 0 5,
 RL 1 18 17,
 RF 2 19 2 3,
 RL 3 20 19,
 RM 4 21 1,
 rq 5 22 (.idx 1 (.tm 20) (.tm 21)),
 RL 6 23 22,
 rq 7 24 (.len false (.tm 23)),
 rq 8 25 (.call cQ [(.tm 18),(ki 0),(.tm 24)]),
 rq 9 26 (.un .not (.tm 25)),
 RM 10 27 26,
 GQ 11 28 (.fld 1 (.tm 5)) 27 false,
 GQ 12 29 (.load 1 false (.tm 28)) 27 false,
 GQ 13 30 (.len false (.tm 29)) 27 false,
 GQ 14 31 (.fld 0 (.tm 5)) 27 false,
 GQ 15 32 (.load 1 false (.tm 31)) 27 false,
 GQ 16 33 (.mmx true (ki 2) (.tm 32)) 27 false,
 GQ 17 34 (.bin .gtr (.tm 30) (.tm 33)) 27 false,
 rq 18 35 (.pick (.tm 27) (.kv (.bool true)) (.tm 34)),
 RM 19 36 35,
 GQ 20 37 (.fld 2 (.tm 5)) 36 false,
 GQ 21 38 (.load 1 false (.tm 37)) 36 false,
 GQ 22 39 (.len false (.tm 38)) 36 false,
 GQ 23 40 (.bin .gtr (.tm 39) (ki 4)) 36 false,
 rq 24 41 (.pick (.tm 36) (.kv (.bool true)) (.tm 40)),
 RM 25 42 41,
 GQ 26 43 (.fld 3 (.tm 5)) 42 false,
 GQ 27 44 (.load 1 false (.tm 43)) 42 false,
 GQ 28 45 (.call cQ [(.tm 44),(ki 0),(ki 3)]) 42 false,
 GQ 29 46 (.un .not (.tm 45)) 42 false,
 rq 30 47 (.pick (.tm 42) (.kv (.bool true)) (.tm 46))] 31 [1,3,5,47])
 (.cond (.tm 47)
 (.seq (.region [rq 0 6 (.move (.kv (.bool false)))] 1 [6])
 .ret)
 .skip))
 (.seq (.region [RF 0 48 0 5,
 RL 1 49 48,
 RF 2 50 1 5,
 RL 3 51 50,
 rq 4 52 (.len false (.tm 51)),
 rq 5 53 (.bin .sub (.tm 49) (.tm 52)),
 RM 6 7 53] 7 [1,3,5,7])
 (.seq (.seq (.region [RF 0 54 1 5,
 RL 1 55 54,
 rq 2 56 (.len false (.tm 55)),
 rq 3 57 (.move (ki 0))] 4 [1,3,5,7,55,56,57])
 (.block 0
 (.loop
 (.seq (.region [rq 0 58 (.bin .lss (.tm 57) (.tm 56))] 1 [1,3,5,7,55,56,57,58])
 (.seq (.cond (.tm 58)
 .skip
 (.exit 0))
 (.seq (.block 1
 (.seq (.region [RM 0 59 57,
 rq 1 60 (.idx 1 (.tm 55) (.tm 57)),
 RL 2 61 60,
 RM 3 8 59,
 RM 4 9 61] 5 [1,3,5,7,8,9,55,56,57])
 (.seq (.region [RM 0 62 9,
 RM 1 63 7,
 RM 2 64 8,
 rq 3 65 (.bin .add (.tm 63) (.tm 64)),
 rq 4 66 (.bin .neq (.tm 62) (.tm 65))] 5 [1,3,5,7,55,56,57,66])
 (.cond (.tm 66)
 (.seq (.region [rq 0 6 (.move (.kv (.bool false)))] 1 [6])
 .ret)
 .skip))))
 (.region [rq 0 67 (.bin .add (.tm 57) (ki 1)),
 RM 1 57 67] 2 [1,3,5,7,55,56,57])))))))
 (.seq (.region [rq 0 10 (.move (.kv (.int .i64 (-1))))] 1 [1,3,5,7,10])
 (.seq (.region [rq 0 68 (.xop (.DS 0 false) []),
 RM 1 11 68] 2 [1,3,5,7,10,11])
 (.seq (.seq (.region [RF 0 69 2 5,
 RL 1 70 69,
 rq 2 71 (.len false (.tm 70)),
 rq 3 72 (.move (ki 0))] 4 [1,3,7,10,11,70,71,72])
 (.block 2
 (.loop
 (.seq (.region [rq 0 73 (.bin .lss (.tm 72) (.tm 71))] 1 [1,3,7,10,11,70,71,72,73])
 (.seq (.cond (.tm 73)
 .skip
 (.exit 2))
 (.seq (.block 3
 (.seq (.region [rq 0 74 (.idx 3 (.tm 70) (.tm 72)),
 rq 1 75 (.load 3 true (.tm 74)),
 rq 2 13 (.alloc [VZ,VZ,VZ]),
 rn 3 (.store 3 true (.tm 13) (.tm 75))] 4 [1,3,7,10,11,13,70,71,72])
 (.seq (.seq (.region [RF 0 76 0 13,
 RL 1 77 76,
 RM 2 78 1,
 rq 3 79 (.bin .neq (.tm 77) (.tm 78)),
 RM 4 80 79,
 GQ 5 81 (.fld 1 (.tm 13)) 80 false,
 GQ 6 82 (.load 1 false (.tm 81)) 80 false,
 GQ 7 83 (.move (.tm 10)) 80 false,
 GQ 8 84 (.bin .add (.tm 83) (ki 1)) 80 false,
 GQ 9 85 (.move (.tm 7)) 80 false,
 GQ 10 86 (.bin .sub (.tm 85) (ki 1)) 80 false,
 GQ 11 87 (.call cQ [(.tm 82),(.tm 84),(.tm 86)]) 80 false,
 GQ 12 88 (.un .not (.tm 87)) 80 false,
 rq 13 89 (.pick (.tm 80) (.kv (.bool true)) (.tm 88)),
 RM 14 90 89,
 GQ 15 91 (.fld 2 (.tm 13)) 90 false,
 ⟨16,(some 92),.load 1 false (.tm 91),(some (90,false)),[],[],true⟩,
 GQ 17 93 (.fld 0 (.tm 3)) 90 false,
 GQ 18 94 (.load 1 false (.tm 93)) 90 false,
 GQ 19 95 (.fld 2 (.tm 3)) 90 false,
 GQ 20 96 (.load 1 false (.tm 95)) 90 false,
 GQ 21 97 (.move (.tm 1)) 90 false,
 GQ 22 98 (.idx 1 (.tm 96) (.tm 97)) 90 false,
 GQ 23 99 (.load 1 false (.tm 98)) 90 false,
 GQ 24 100 (.fld 1 (.tm 13)) 90 false,
 GQ 25 101 (.load 1 false (.tm 100)) 90 false,
 GQ 26 102 (.idx 7 (.tm 99) (.tm 101)) 90 false,
 GQ 27 103 (.load 7 true (.tm 102)) 90 false,
 ⟨28,(some 104),.call rN [(.tm 94),(.tm 103)],(some (90,false)),[],[16],false⟩,
 GQ 29 105 (.bin .neq (.tm 92) (.tm 104)) 90 false,
 rq 30 106 (.pick (.tm 90) (.kv (.bool true)) (.tm 105))] 31 [1,3,7,11,13,70,71,72,106])
 (.cond (.tm 106)
 (.seq (.region [rq 0 6 (.move (.kv (.bool false)))] 1 [6])
 .ret)
 .skip))
 (.seq (.region [RF 0 107 1 13,
 RL 1 108 107,
 RM 2 10 108] 3 [1,3,7,10,11,13,70,71,72])
 (.seq (.region [rq 0 109 (.load 3 true (.tm 3)),
 RM 1 110 1,
 RF 2 111 1 13,
 RL 3 112 111,
 rq 4 113 (.call fB [(.tm 109),(.tm 110),(.tm 112)]),
 RM 5 14 113] 6 [1,3,7,10,11,13,14,70,71,72])
 (.seq (.seq (.region [RM 0 115 11,
 RM 1 116 14,
 rq 2 117 (.xop (.rA 0 false true) [(.tm 115),(.tm 116)]),
 RM 3 114 117,
 rq 4 118 (.ext (.tm 114) 0),
 rq 5 119 (.ext (.tm 114) 1),
 RM 6 15 118,
 RM 7 16 119] 8 [1,3,7,10,11,13,14,15,16,70,71,72])
 (.seq (.region [RM 0 120 16,
 RM 1 121 120,
 GQ 2 122 (.move (.tm 15)) 121 true,
 GQ 3 123 (.fld 2 (.tm 13)) 121 true,
 GQ 4 124 (.load 1 false (.tm 123)) 121 true,
 GQ 5 125 (.bin .neq (.tm 122) (.tm 124)) 121 true,
 rq 6 126 (.pick (.tm 121) (.tm 125) (.kv (.bool false)))] 7 [1,3,7,10,11,13,14,70,71,72,126])
 (.cond (.tm 126)
 (.seq (.region [rq 0 6 (.move (.kv (.bool false)))] 1 [6])
 .ret)
 .skip)))
 (.region [RM 0 127 11,
 RM 1 128 14,
 RF 2 129 2 13,
 RL 3 130 129,
 rn 4 (.xop (.vM 0 false) [(.tm 127),(.tm 128),(.tm 130)])] 5 [1,3,7,10,11,70,71,72])))))))
 (.region [rq 0 131 (.bin .add (.tm 72) (ki 1)),
 RM 1 72 131] 2 [1,3,7,10,11,70,71,72])))))))
 (.seq (.region [rq 0 6 (.move (.kv (.bool true)))] 1 [6])
 .ret))))))))
def EK:List Cert:=[⟨[],[1,3,5]⟩,⟨[cz 0,cz 1,cz 2,cz 3,cz 4,cz 5,cz 6,cz 7,cz 8,cz 9,cz 10,cz 11,cz 12,cz 13,cz 14,cz 15,cz 16,cz 17,cz 18,cz 19,cz 20,cz 21,cz 22,cz 23,cz 24,cz 25,cz 26,cz 27,cz 28,cz 29,cz 30],[1,3,5,47]⟩,⟨[],[6]⟩,⟨[],[1,3,5,7]⟩,⟨[],[1,3,5,7,55,56,57]⟩,⟨[],[1,3,5,7,55,56,57,58]⟩,⟨[],[1,3,5,7,8,9,55,56,57]⟩,⟨[],[1,3,5,7,55,56,57,66]⟩,⟨[],[6]⟩,⟨[],[1,3,5,7,55,56,57]⟩,⟨[],[1,3,5,7,10]⟩,⟨[],[1,3,5,7,10,11]⟩,⟨[],[1,3,7,10,11,70,71,72]⟩,⟨[],[1,3,7,10,11,70,71,72,73]⟩,⟨[],[1,3,7,10,11,13,70,71,72]⟩,⟨[cz 0,cz 1,cz 2,cz 3,cz 4,cz 5,cz 6,cz 7,cz 8,cz 9,cz 10,cz 11,cz 12,cz 13,cz 14,cz 15,(16,[],[],true),cz 17,cz 18,cz 19,cz 20,cz 21,cz 22,cz 23,cz 24,cz 25,cz 26,cz 27,(28,[],[16],false),cz 29,cz 30],[1,3,7,11,13,70,71,72,106]⟩,⟨[],[6]⟩,⟨[],[1,3,7,10,11,13,70,71,72]⟩,⟨[],[1,3,7,10,11,13,14,70,71,72]⟩,⟨[],[1,3,7,10,11,13,14,15,16,70,71,72]⟩,⟨[],[1,3,7,10,11,13,14,70,71,72,126]⟩,⟨[],[6]⟩,⟨[],[1,3,7,10,11,70,71,72]⟩,⟨[],[1,3,7,10,11,70,71,72]⟩,⟨[],[6]⟩]
def sF:List aW:=[.tm 6]
theorem EM:aO Tryz.prog Tryz.f108 EK=some (lL,sF):=by kernel_rfl
def lB:AC:=
 (.seq (.region [rq 0 3 (.box true (.tm 0)),
 rq 1 4 (.box true (.tm 1)),
 rq 2 5 (.box false (.tm 2)),
 rq 3 6 (.move (.kv (.bool false)))] 4 [3,4,5])
 (.seq (.region [RF 0 14 3 4,
 RL 1 15 14,
 RL 2 16 5,
 rq 3 17 (.idx 3 (.tm 15) (.tm 16)),
 rq 4 18 (.load 3 true (.tm 17)),
 rq 5 7 (.alloc [OZ,OZ,VZ]),
 rn 6 (.store 3 true (.tm 7) (.tm 18))] 7 [3,4,5,7])
 (.seq (.seq (.region [RF 0 19 0 7,
 RL 1 20 19,
 rq 2 21 (.len false (.tm 20)),
 rq 3 22 (.bin .gtr (.tm 21) (ki 2)),
 RM 4 23 22,
 GQ 5 24 (.fld 1 (.tm 7)) 23 false,
 GQ 6 25 (.load 1 false (.tm 24)) 23 false,
 GQ 7 26 (.len false (.tm 25)) 23 false,
 GQ 8 27 (.bin .gtr (.tm 26) (ki 2)) 23 false,
 rq 9 28 (.pick (.tm 23) (.kv (.bool true)) (.tm 27)),
 RM 10 29 28,
 GQ 11 30 (.fld 2 (.tm 7)) 29 false,
 GQ 12 31 (.load 1 false (.tm 30)) 29 false,
 GQ 13 32 (.call jA [(.tm 31)]) 29 false,
 GQ 14 33 (.un .not (.tm 32)) 29 false,
 rq 15 34 (.pick (.tm 29) (.kv (.bool true)) (.tm 33))] 16 [3,4,5,7,34])
 (.cond (.tm 34)
 (.seq (.region [rq 0 6 (.move (.kv (.bool false)))] 1 [6])
 .ret)
 .skip))
 (.seq (.region [rq 0 35 (.build [VZ,VZ,VZ] [(0,1,(.kv (.int .i64 (-1)))),(1,1,(.kv (.int .i64 (-1)))),(2,1,(.kv (.int .i64 (-1))))]),
 rq 1 8 (.alloc [VZ,VZ,VZ]),
 rn 2 (.store 3 true (.tm 8) (.tm 35))] 3 [3,4,5,7,8])
 (.seq (.region [rq 0 36 (.xop (.zI cO) [(.tm 8),(.tm 4),(.tm 5)]),
 RM 1 9 36] 2 [3,5,7,9])
 (.seq (.seq (.region [RF 0 37 1 7,
 RL 1 38 37,
 rq 2 39 (.len false (.tm 38)),
 rq 3 40 (.move (ki 0))] 4 [3,5,7,9,38,39,40])
 (.block 0
 (.loop
 (.seq (.region [rq 0 41 (.bin .lss (.tm 40) (.tm 39))] 1 [3,5,7,9,38,39,40,41])
 (.seq (.cond (.tm 41)
 .skip
 (.exit 0))
 (.seq (.block 1
 (.seq (.region [rq 0 42 (.idx 5 (.tm 38) (.tm 40)),
 rq 1 43 (.load 5 true (.tm 42)),
 rq 2 11 (.alloc [VZ,VZ,VZ,VZ,OZ]),
 rn 3 (.store 5 true (.tm 11) (.tm 43))] 4 [3,5,7,9,11,38,39,40])
 (.seq (.region [RM 0 44 9,
 RF 1 45 0 11,
 RL 2 46 45,
 RF 3 47 1 11,
 RL 4 48 47,
 rq 5 49 (.t5 (.tm 44) [(.tm 46),(.tm 48)]),
 rq 6 50 (.un .not (.tm 49)),
 RM 7 51 50,
 GQ 8 52 (.fld 2 (.tm 11)) 51 false,
 GQ 9 53 (.load 3 true (.tm 52)) 51 false,
 GQ 10 54 (.call m6 [(.tm 53)]) 51 false,
 GQ 11 55 (.un .not (.tm 54)) 51 false,
 rq 12 56 (.pick (.tm 51) (.kv (.bool true)) (.tm 55)),
 RM 13 57 56,
 GQ 14 58 (.fld 2 (.tm 11)) 57 false,
 GQ 15 59 (.fld 0 (.tm 58)) 57 false,
 ⟨16,(some 60),.load 1 false (.tm 59),(some (57,false)),[],[],true⟩,
 GQ 17 61 (.load 3 true (.tm 3)) 57 false,
 GQ 18 62 (.fld 0 (.tm 11)) 57 false,
 GQ 19 63 (.load 1 false (.tm 62)) 57 false,
 GQ 20 64 (.fld 1 (.tm 11)) 57 false,
 GQ 21 65 (.load 1 false (.tm 64)) 57 false,
 ⟨22,(some 66),.call fB [(.tm 61),(.tm 63),(.tm 65)],(some (57,false)),[],[16],false⟩,
 GQ 23 67 (.bin .neq (.tm 60) (.tm 66)) 57 false,
 rq 24 68 (.pick (.tm 57) (.kv (.bool true)) (.tm 67))] 25 [3,5,7,9,38,39,40,68])
 (.cond (.tm 68)
 (.seq (.region [rq 0 6 (.move (.kv (.bool false)))] 1 [6])
 .ret)
 .skip))))
 (.region [rq 0 69 (.bin .add (.tm 40) (ki 1)),
 RM 1 40 69] 2 [3,5,7,9,38,39,40])))))))
 (.seq (.seq (.region [RF 0 70 0 7,
 RL 1 71 70,
 rq 2 72 (.len false (.tm 71)),
 rq 3 73 (.move (ki 0))] 4 [3,5,9,71,72,73])
 (.block 2
 (.loop
 (.seq (.region [rq 0 74 (.bin .lss (.tm 73) (.tm 72))] 1 [3,5,9,71,72,73,74])
 (.seq (.cond (.tm 74)
 .skip
 (.exit 2))
 (.seq (.block 3
 (.seq (.region [RM 0 75 73,
 rq 1 76 (.idx 3 (.tm 71) (.tm 73)),
 rq 2 77 (.load 3 true (.tm 76)),
 rq 3 13 (.alloc [VZ,VZ,VZ]),
 RM 4 12 75,
 rn 5 (.store 3 true (.tm 13) (.tm 77))] 6 [3,5,9,12,13,71,72,73])
 (.seq (.region [RM 0 78 9,
 RF 1 79 0 13,
 RL 2 80 79,
 RF 3 81 1 13,
 RL 4 82 81,
 rq 5 83 (.t5 (.tm 78) [(.tm 80),(.tm 82)]),
 rq 6 84 (.un .not (.tm 83)),
 RM 7 85 84,
 GQ 8 86 (.move (.tm 12)) 85 false,
 GQ 9 87 (.bin .eql (.tm 86) (ki 0)) 85 false,
 GQ 10 88 (.move (.tm 87)) 85 false,
 GQ 11 89 (.fld 2 (.tm 13)) 88 true,
 GQ 12 90 (.load 1 false (.tm 89)) 88 true,
 GQ 13 91 (.fld 1 (.tm 3)) 88 true,
 GQ 14 92 (.load 1 false (.tm 91)) 88 true,
 GQ 15 93 (.load 1 false (.tm 5)) 88 true,
 GQ 16 94 (.idx 1 (.tm 92) (.tm 93)) 88 true,
 GQ 17 95 (.load 1 false (.tm 94)) 88 true,
 GQ 18 96 (.call cQ [(.tm 90),(ki 0),(.tm 95)]) 88 true,
 GQ 19 97 (.un .not (.tm 96)) 88 true,
 GQ 20 98 (.pick (.tm 88) (.tm 97) (.kv (.bool false))) 85 false,
 rq 21 99 (.pick (.tm 85) (.kv (.bool true)) (.tm 98)),
 RM 22 100 99,
 GQ 23 101 (.move (.tm 12)) 100 false,
 GQ 24 102 (.bin .gtr (.tm 101) (ki 0)) 100 false,
 GQ 25 103 (.move (.tm 102)) 100 false,
 GQ 26 104 (.fld 2 (.tm 13)) 103 true,
 GQ 27 105 (.load 1 false (.tm 104)) 103 true,
 GQ 28 106 (.fld 1 (.tm 3)) 103 true,
 GQ 29 107 (.load 1 false (.tm 106)) 103 true,
 GQ 30 108 (.load 1 false (.tm 5)) 103 true,
 GQ 31 109 (.idx 1 (.tm 107) (.tm 108)) 103 true,
 GQ 32 110 (.load 1 false (.tm 109)) 103 true,
 GQ 33 111 (.bin .neq (.tm 105) (.tm 110)) 103 true,
 GQ 34 112 (.pick (.tm 103) (.tm 111) (.kv (.bool false))) 100 false,
 rq 35 113 (.pick (.tm 100) (.kv (.bool true)) (.tm 112))] 36 [3,5,9,71,72,73,113])
 (.cond (.tm 113)
 (.seq (.region [rq 0 6 (.move (.kv (.bool false)))] 1 [6])
 .ret)
 .skip))))
 (.region [rq 0 114 (.bin .add (.tm 73) (ki 1)),
 RM 1 73 114] 2 [3,5,9,71,72,73])))))))
 (.seq (.region [rq 0 6 (.move (.kv (.bool true)))] 1 [6])
 .ret))))))))
def B4:List Cert:=[⟨[],[3,4,5]⟩,⟨[],[3,4,5,7]⟩,⟨[],[3,4,5,7,34]⟩,⟨[],[6]⟩,⟨[],[3,4,5,7,8]⟩,⟨[],[3,5,7,9]⟩,⟨[],[3,5,7,9,38,39,40]⟩,⟨[],[3,5,7,9,38,39,40,41]⟩,⟨[],[3,5,7,9,11,38,39,40]⟩,⟨[cz 0,cz 1,cz 2,cz 3,cz 4,cz 5,cz 6,cz 7,cz 8,cz 9,cz 10,cz 11,cz 12,cz 13,cz 14,cz 15,(16,[],[],true),cz 17,cz 18,cz 19,cz 20,cz 21,(22,[],[16],false),cz 23,cz 24],[3,5,7,9,38,39,40,68]⟩,⟨[],[6]⟩,⟨[],[3,5,7,9,38,39,40]⟩,⟨[],[3,5,9,71,72,73]⟩,⟨[],[3,5,9,71,72,73,74]⟩,⟨[],[3,5,9,12,13,71,72,73]⟩,⟨[cz 0,cz 1,cz 2,cz 3,cz 4,cz 5,cz 6,cz 7,cz 8,cz 9,cz 10,cz 11,cz 12,cz 13,cz 14,cz 15,cz 16,cz 17,cz 18,cz 19,cz 20,cz 21,cz 22,cz 23,cz 24,cz 25,cz 26,cz 27,cz 28,cz 29,cz 30,cz 31,cz 32,cz 33,cz 34,cz 35],[3,5,9,71,72,73,113]⟩,⟨[],[6]⟩,⟨[],[3,5,9,71,72,73]⟩,⟨[],[6]⟩]
def qR:List aW:=[.tm 6]
theorem B8:aO Tryz.prog Tryz.f109 B4=some (lB,qR):=by kernel_rfl
def dF:AC:=
 (.region [RM 0 4 0,
 RM 1 5 0,
 rq 2 6 (.len false (.tm 5)),
 RM 3 7 1,
 rq 4 8 (.call gL [(.tm 4),(.tm 6),(.tm 7)])] 5 [])
def l4:List Cert:=[⟨[],[]⟩]
def gD:List aW:=[]
theorem mB:aO Tryz.prog Tryz.f124 l4=some (dF,gD):=by kernel_rfl
def jP:AC:=
 (.seq (.region [rq 0 7 (.move (.kv (.bool false)))] 1 [0,1,2,3,4])
 (.seq (.seq (.region [RM 0 9 0,
 rq 1 10 (.call jA [(.tm 9)]),
 rq 2 11 (.un .not (.tm 10)),
 RM 3 12 11,
 GQ 4 13 (.move (.tm 1)) 12 false,
 GQ 5 14 (.move (.tm 0)) 12 false,
 GQ 6 15 (.TL 1 3 (.tm 2) (.tm 14)) 12 false,
 GQ 7 16 (.load 1 false (.tm 15)) 12 false,
 GQ 8 17 (.bin .leq (.tm 13) (.tm 16)) 12 false,
 rq 9 18 (.pick (.tm 12) (.kv (.bool true)) (.tm 17))] 10 [0,1,2,3,4,18])
 (.cond (.tm 18)
 (.seq (.region [rq 0 7 (.move (.kv (.bool false)))] 1 [7])
 .ret)
 .skip))
 (.seq (.region [RM 0 19 0,
 RM 1 20 1,
 rq 2 21 (.TL 1 3 (.tm 2) (.tm 19)),
 rn 3 (.store 1 false (.tm 21) (.tm 20))] 4 [0,1,3,4])
 (.seq (.region [RF 0 22 2 3,
 RL 1 23 22,
 RM 2 24 0,
 rq 3 25 (.idx 4 (.tm 23) (.tm 24)),
 rq 4 26 (.load 4 true (.tm 25)),
 RM 5 27 1,
 rq 6 28 (.call kV [(.tm 26),(.tm 27)]),
 RM 7 8 28] 8 [0,3,4,8])
 (.seq (.region [RM 0 29 8,
 rq 1 30 (.bin .geq (.tm 29) (ki 0)),
 RM 2 31 30,
 GQ 3 32 (.fld 2 (.tm 3)) 31 true,
 GQ 4 33 (.load 1 false (.tm 32)) 31 true,
 GQ 5 34 (.move (.tm 0)) 31 true,
 GQ 6 35 (.idx 4 (.tm 33) (.tm 34)) 31 true,
 GQ 7 36 (.fld 2 (.tm 35)) 31 true,
 GQ 8 37 (.load 1 false (.tm 36)) 31 true,
 GQ 9 38 (.move (.tm 8)) 31 true,
 GQ 10 39 (.idx 3 (.tm 37) (.tm 38)) 31 true,
 GQ 11 40 (.fld 2 (.tm 39)) 31 true,
 GQ 12 41 (.load 1 false (.tm 40)) 31 true,
 GQ 13 42 (.load 1 false (.tm 4)) 31 true,
 GQ 14 43 (.bin .eql (.tm 41) (.tm 42)) 31 true,
 rq 15 44 (.pick (.tm 31) (.tm 43) (.kv (.bool false))),
 RM 16 7 44] 17 [7])
 .ret)))))
def AU:List Cert:=[⟨[],[0,1,2,3,4]⟩,⟨[],[0,1,2,3,4,18]⟩,⟨[],[7]⟩,⟨[],[0,1,3,4]⟩,⟨[],[0,3,4,8]⟩,⟨[cz 0,cz 1,cz 2,cz 3,cz 4,cz 5,cz 6,cz 7,cz 8,cz 9,cz 10,cz 11,cz 12,cz 13,cz 14,cz 15,cz 16],[7]⟩]
def oE:List aW:=[.tm 7]
theorem AH:aO Tryz.prog Tryz.f200 AU=some (jP,oE):=by kernel_rfl
def gA:AC:=
 (.seq (.region [rq 0 6 (.move (ki 20))] 1 [0,1,2,6])
 (.seq (.region [RM 0 10 6,
 rq 1 7 (.move (ki 0)),
 RM 2 8 10] 3 [0,1,2,6,7,8])
 (.seq (.block 0
 (.loop
 (.seq (.seq (.region [RM 0 11 8,
 RM 1 12 1,
 rq 2 13 (.bin .leq (.tm 11) (.tm 12))] 3 [0,1,2,6,7,8,13])
 (.cond (.tm 13)
 .skip
 (.exit 0)))
 (.block 1
 (.seq (.region [RM 0 14 0,
 RM 1 15 7,
 RM 2 16 8,
 RM 3 17 2,
 rq 4 18 (.call cL [(.tm 14),(.tm 15),(.tm 16),(.tm 17)])] 5 [0,1,2,6,8])
 (.seq (.region [RM 0 19 8,
 RM 1 7 19] 2 [0,1,2,6,7,8])
 (.region [RM 0 20 8,
 RM 1 21 6,
 rq 2 22 (.bin .add (.tm 20) (.tm 21)),
 RM 3 8 22] 4 [0,1,2,6,7,8])))))))
 (.seq (.region [RM 0 23 0,
 RM 1 24 7,
 RM 2 25 1,
 RM 3 26 2,
 rq 4 27 (.call cL [(.tm 23),(.tm 24),(.tm 25),(.tm 26)])] 5 [0,1,2,6])
 (.block 2
 (.loop
 (.seq (.seq (.region [RM 0 28 6,
 RM 1 29 1,
 rq 2 30 (.bin .lss (.tm 28) (.tm 29))] 3 [0,1,2,6,30])
 (.cond (.tm 30)
 .skip
 (.exit 2)))
 (.block 3
 (.seq (.region [RM 0 31 6,
 rq 1 32 (.bin .mul (ki 2) (.tm 31)),
 rq 2 7 (.move (ki 0)),
 RM 3 8 32] 4 [0,1,2,6,7,8])
 (.seq (.block 4
 (.loop
 (.seq (.seq (.region [RM 0 33 8,
 RM 1 34 1,
 rq 2 35 (.bin .leq (.tm 33) (.tm 34))] 3 [0,1,2,6,7,8,35])
 (.cond (.tm 35)
 .skip
 (.exit 4)))
 (.block 5
 (.seq (.region [RM 0 36 0,
 RM 1 37 7,
 RM 2 38 7,
 RM 3 39 6,
 rq 4 40 (.bin .add (.tm 38) (.tm 39)),
 RM 5 41 8,
 RM 6 42 2,
 rq 7 43 (.call jW [(.tm 36),(.tm 37),(.tm 40),(.tm 41),(.tm 42)])] 8 [0,1,2,6,8])
 (.seq (.region [RM 0 44 8,
 RM 1 7 44] 2 [0,1,2,6,7,8])
 (.region [RM 0 45 8,
 RM 1 46 6,
 rq 2 47 (.bin .mul (ki 2) (.tm 46)),
 rq 3 48 (.bin .add (.tm 45) (.tm 47)),
 RM 4 8 48] 5 [0,1,2,6,7,8])))))))
 (.seq (.seq (.region [RM 0 49 7,
 RM 1 50 6,
 rq 2 51 (.bin .add (.tm 49) (.tm 50)),
 RM 3 9 51] 4 [0,1,2,6,7,9])
 (.seq (.region [RM 0 52 9,
 RM 1 53 1,
 rq 2 54 (.bin .lss (.tm 52) (.tm 53))] 3 [0,1,2,6,7,9,54])
 (.cond (.tm 54)
 (.region [RM 0 55 0,
 RM 1 56 7,
 RM 2 57 9,
 RM 3 58 1,
 RM 4 59 2,
 rq 5 60 (.call jW [(.tm 55),(.tm 56),(.tm 57),(.tm 58),(.tm 59)])] 6 [0,1,2,6])
 .skip)))
 (.region [RM 0 61 6,
 rq 1 62 (.bin .mul (.tm 61) (ki 2)),
 RM 2 6 62] 3 [0,1,2,6]))))))))))))
def tH:List Cert:=[⟨[],[0,1,2,6]⟩,⟨[],[0,1,2,6,7,8]⟩,⟨[],[0,1,2,6,7,8,13]⟩,⟨[],[0,1,2,6,8]⟩,⟨[],[0,1,2,6,7,8]⟩,⟨[],[0,1,2,6,7,8]⟩,⟨[],[0,1,2,6]⟩,⟨[],[0,1,2,6,30]⟩,⟨[],[0,1,2,6,7,8]⟩,⟨[],[0,1,2,6,7,8,35]⟩,⟨[],[0,1,2,6,8]⟩,⟨[],[0,1,2,6,7,8]⟩,⟨[],[0,1,2,6,7,8]⟩,⟨[],[0,1,2,6,7,9]⟩,⟨[],[0,1,2,6,7,9,54]⟩,⟨[],[0,1,2,6]⟩,⟨[],[0,1,2,6]⟩]
def kJ:List aW:=[]
theorem sX:aO Tryz.prog Tryz.f220 tH=some (gA,kJ):=by kernel_rfl
def dU:AC:=
 (.seq (.region [RM 0 10 1,
 rq 1 11 (.bin .add (.tm 10) (ki 1)),
 RM 2 8 11] 3 [0,1,2,3,8])
 (.block 0
 (.loop
 (.seq (.seq (.region [RM 0 12 8,
 RM 1 13 2,
 rq 2 14 (.bin .lss (.tm 12) (.tm 13))] 3 [0,1,2,3,8,14])
 (.cond (.tm 14)
 .skip
 (.exit 0)))
 (.seq (.block 1
 (.seq (.region [RM 0 17 8,
 RM 1 9 17] 2 [0,1,2,3,8,9])
 (.block 2
 (.loop
 (.seq (.seq (.region [RM 0 18 9,
 RM 1 19 1,
 rq 2 20 (.bin .gtr (.tm 18) (.tm 19)),
 RM 3 21 20,
 GQ 4 22 (.move (.tm 3)) 21 true,
 GQ 5 23 (.move (.tm 0)) 21 true,
 GQ 6 24 (.move (.tm 9)) 21 true,
 GQ 7 25 (.idx 5 (.tm 23) (.tm 24)) 21 true,
 GQ 8 26 (.load 5 true (.tm 25)) 21 true,
 GQ 9 27 (.move (.tm 0)) 21 true,
 GQ 10 28 (.move (.tm 9)) 21 true,
 GQ 11 29 (.bin .sub (.tm 28) (ki 1)) 21 true,
 GQ 12 30 (.idx 5 (.tm 27) (.tm 29)) 21 true,
 GQ 13 31 (.load 5 true (.tm 30)) 21 true,
 GQ 14 32 (.t5 (.tm 22) [(.tm 26),(.tm 31)]) 21 true,
 GQ 15 33 (.bin .lss (.tm 32) (ki 0)) 21 true,
 rq 16 34 (.pick (.tm 21) (.tm 33) (.kv (.bool false)))] 17 [0,1,2,3,8,9,34])
 (.cond (.tm 34)
 .skip
 (.exit 2)))
 (.seq (.block 3
 (.region [RM 0 37 0,
 RM 1 38 9,
 RM 2 39 0,
 RM 3 40 9,
 rq 4 41 (.bin .sub (.tm 40) (ki 1)),
 RM 5 42 0,
 RM 6 43 9,
 rq 7 44 (.bin .sub (.tm 43) (ki 1)),
 rq 8 45 (.idx 5 (.tm 42) (.tm 44)),
 rq 9 46 (.load 5 true (.tm 45)),
 RM 10 47 0,
 RM 11 48 9,
 rq 12 49 (.idx 5 (.tm 47) (.tm 48)),
 rq 13 50 (.load 5 true (.tm 49)),
 rq 14 51 (.idx 5 (.tm 37) (.tm 38)),
 rn 15 (.store 5 true (.tm 51) (.tm 46)),
 rq 16 52 (.idx 5 (.tm 39) (.tm 41)),
 rn 17 (.store 5 true (.tm 52) (.tm 50))] 18 [0,1,2,3,8,9]))
 (.region [RM 0 35 9,
 rq 1 36 (.bin .sub (.tm 35) (ki 1)),
 RM 2 9 36] 3 [0,1,2,3,8,9])))))))
 (.region [RM 0 15 8,
 rq 1 16 (.bin .add (.tm 15) (ki 1)),
 RM 2 8 16] 3 [0,1,2,3,8]))))))
def nG:List Cert:=[⟨[],[0,1,2,3,8]⟩,⟨[],[0,1,2,3,8,14]⟩,⟨[],[0,1,2,3,8,9]⟩,⟨[cz 0,cz 1,cz 2,cz 3,cz 4,cz 5,cz 6,cz 7,cz 8,cz 9,cz 10,cz 11,cz 12,cz 13,cz 14,cz 15,cz 16],[0,1,2,3,8,9,34]⟩,⟨[cz 0,cz 1,cz 2,cz 3,cz 4,cz 5,cz 6,cz 7,cz 8,cz 9,cz 10,cz 11,cz 12,cz 13,cz 14,cz 15,cz 16,cz 17],[0,1,2,3,8,9]⟩,⟨[],[0,1,2,3,8,9]⟩,⟨[],[0,1,2,3,8]⟩]
def gU:List aW:=[]
theorem m9:aO Tryz.prog Tryz.f285 nG=some (dU,gU):=by kernel_rfl
end Go.Proofs.YtmccpdapaccnoaaGreat
end
section
namespace Go.Proofs.YtmccpdapaccnoaaGreat
open Go Go.AM
set_option maxRecDepth 100000
def z2:AC:=
 (.seq (.region [rq 0 3 (.box true (.tm 1)),
 rq 1 4 (.move (ki 0))] 2 [0,3])
 (.seq (.region [RM 0 6 0,
 rq 1 7 (.load 7 true (.tm 3)),
 rq 2 8 (.call mZ [(.tm 6),(.tm 7)]),
 RM 3 5 8] 4 [0,5])
 (.seq (.seq (.region [RM 0 9 5,
 rq 1 10 (.bin .lss (.tm 9) (ki 0))] 2 [0,5,10])
 (.cond (.tm 10)
 (.seq (.region [rq 0 4 (.move (ki 3))] 1 [4])
 .ret)
 .skip))
 (.seq (.region [RM 0 11 0,
 RM 1 12 5,
 rq 2 13 (.idx 4 (.tm 11) (.tm 12)),
 RF 3 14 2 13,
 RL 4 15 14,
 RM 5 4 15] 6 [4])
 .ret))))
def VL:List Cert:=[⟨[],[0,3]⟩,⟨[],[0,5]⟩,⟨[],[0,5,10]⟩,⟨[],[4]⟩,⟨[],[4]⟩]
def I3:List aW:=[.tm 4]
theorem US:aO Tryz.prog Tryz.f128 VL=some (z2,I3):=by kernel_rfl
theorem UU:aN Tryz.prog rN Tryz.f128 z2 I3:=
 aN.mk Tryz.func128 (by kernel_rfl) US
def AR:AC:=
 (.seq (.region [rq 0 2 (.box true (.tm 0)),
 rq 1 3 (.box false (.tm 1)),
 rq 2 4 (.move (ki 0))] 3 [2,3])
 (.seq (.region [RF 0 5 2 2,
 RL 1 6 5,
 rq 2 7 (.xop (.zI rQ) [(.tm 3)]),
 rq 3 8 (.call bZ [(.tm 6),(.tm 7)]),
 RM 4 4 8] 5 [4])
 .ret))
def TQ:List Cert:=[⟨[],[2,3]⟩,⟨[],[4]⟩]
def IJ:List aW:=[.tm 4]
theorem TP:aO Tryz.prog Tryz.f201 TQ=some (AR,IJ):=by kernel_rfl
theorem UN:aN Tryz.prog kV Tryz.f201 AR IJ:=
 aN.mk Tryz.func201 (by kernel_rfl) TP
def eU:AC:=
 (.seq (.region [rq 0 4 (.move (ki 0))] 1 [0,1])
 (.seq (.seq (.region [RM 0 6 0,
 rq 1 7 (.len false (.tm 6)),
 rq 2 8 (.move (ki 0))] 3 [0,1,7,8])
 (.block 0
 (.loop
 (.seq (.region [rq 0 9 (.bin .lss (.tm 8) (.tm 7))] 1 [0,1,7,8,9])
 (.seq (.cond (.tm 9)
 .skip
 (.exit 0))
 (.seq (.block 1
 (.seq (.region [RM 0 10 8,
 RM 1 5 10] 2 [0,1,5,7,8])
 (.seq (.region [RM 0 11 1,
 RM 1 12 0,
 RM 2 13 5,
 rq 3 14 (.idx 3 (.tm 12) (.tm 13)),
 rq 4 15 (.load 3 true (.tm 14)),
 rq 5 16 (.t5 (.tm 11) [(.tm 15)])] 6 [0,1,5,7,8,16])
 (.cond (.tm 16)
 (.seq (.region [RM 0 17 5,
 RM 1 4 17] 2 [4])
 .ret)
 .skip))))
 (.region [rq 0 18 (.bin .add (.tm 8) (ki 1)),
 RM 1 8 18] 2 [0,1,7,8])))))))
 (.seq (.region [rq 0 4 (.move (.kv (.int .i64 (-1))))] 1 [4])
 .ret)))
def pN:List Cert:=[⟨[],[0,1]⟩,⟨[],[0,1,7,8]⟩,⟨[],[0,1,7,8,9]⟩,⟨[],[0,1,5,7,8]⟩,⟨[],[0,1,5,7,8,16]⟩,⟨[],[4]⟩,⟨[],[0,1,7,8]⟩,⟨[],[4]⟩]
def iO:List aW:=[.tm 4]
theorem pK:aO Tryz.prog Tryz.f267 pN=some (eU,iO):=by kernel_rfl
theorem pH:aN Tryz.prog bZ Tryz.f267 eU iO:=
 aN.mk Tryz.func267 (by kernel_rfl) pK
def vD:AC:=
 (.seq (.region [rq 0 2 (.box true (.tm 0)),
 rq 1 3 (.move (.kv (.bool false)))] 2 [1,2])
 (.seq (.region [RF 0 4 1 2,
 RL 1 5 4,
 RL 2 6 1,
 rq 3 7 (.bin .eql (.tm 5) (.tm 6)),
 RM 4 3 7] 5 [3])
 .ret))
def OH:List Cert:=[⟨[],[1,2]⟩,⟨[],[3]⟩]
def DM:List aW:=[.tm 3]
theorem N9:aO Tryz.prog Tryz.f268 OH=some (vD,DM):=by kernel_rfl
theorem OM:aN Tryz.prog rQ Tryz.f268 vD DM:=
 aN.mk Tryz.func268 (by kernel_rfl) N9
end Go.Proofs.YtmccpdapaccnoaaGreat
end
