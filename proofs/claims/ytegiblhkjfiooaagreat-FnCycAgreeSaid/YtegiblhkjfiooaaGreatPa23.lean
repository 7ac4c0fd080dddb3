/- Texts laid together by a program: rules, contracts and the walk that leads to the law. -/
import Derived.Test.YtegiblhkjfiooaaGreatPa20
import Derived.Test.YtegiblhkjfiooaaGreatPa14
import Derived.Test.YtegiblhkjfiooaaGreatPa22
import Derived.Test.YtegiblhkjfiooaaGreatPa6
import Derived.Test.YtegiblhkjfiooaaGreatPa3
set_option linter.unusedVariables false
set_option linter.unusedSimpArgs false
set_option linter.unusedSectionVars false
section
namespace Go.Proofs.YtegiblhkjfiooaaGreat
open Go Go.AM
set_option maxRecDepth 100000
set_option maxHeartbeats 8000000
section
variable {H : aA} {nx : Nat} {K : D → aA → Nat → Prop}
theorem awX (m:List Rng) (s:TSt) (who:Int) (q:Req) (c0 c1 m0 m1:Nat) (hm4:m.length<2^20) (hf:WK s.words s.holds) (hc0:s.words.length≤c0) (hc1:s.holds.length≤c1) (hw:0≤who∧who≤2) (hq:dH q):
 aB Tryz.prog pL [dP 2 0,dS (m.map eN),dI who,dA (eB q)] (hp [(0,⟨2,1,[[.osl 1 1 0 s.words.length c0,.osl 1 2 0 s.holds.length c1]]⟩),(1,⟨1,m0,(s.words).map aJ⟩),(2,⟨1,m1,(s.holds).map aJ⟩)]) 3
 fun r H' n'=>n'=3∧H'=hp [(0,⟨2,1,[[.osl 1 1 0 s.words.length c0,.osl 1 2 0 s.holds.length c1]]⟩),(1,⟨1,m0,((doM m s.words s.holds who q).1.1).map aJ⟩),(2,⟨1,m1,((doM m s.words s.holds who q).1.2).map aJ⟩)]∧r=dA (tG (doM m s.words s.holds who q).2):=by
 obtain⟨hwl,hwr,hsl,hsr⟩:=hf
 obtain⟨hq1,hq2,hq3,hq4,hq5,hq6,hq7,hq8⟩:=hq
 have hbl:=DF hq3
 have hbp:=ai5 hq3
 have hb4:=MK (addr:=q.addr) (many:=q.many) (wrap:=q.wrap)
 have hbi:All (bE q.addr q.many q.wrap) 0 63:=V1
 have hlt:=PQ (p:=(inR · ((bE q.addr q.many q.wrap).getD 0 default))) (l:=m)
 have hwh:bV m (bE q.addr q.many q.wrap)<m.length:=by unfold bV;grind
 have hdl:wrM q=true→q.data.length=(bE q.addr q.many q.wrap).length∧q.lanes.length=(bE q.addr q.many q.wrap).length:=by
  intro h;unfold wrM at h;unfold n5 at hq4 hq5;simp at h;simp only[h,if_true] at hq4 hq5;omega
 have hwi:=W4 (q:=q)
 refine avS rfl fun Q hQ=> ?_
 unfold nS
 generalize hall:bE q.addr q.many q.wrap=all at*
 have hwo: ∀{H:aA} {nx:Nat} {K:D→aA→Nat→Prop},K (dI (bV m all)) H nx→aB Tryz.prog mZ [dS (m.map eN),dA (eB q)] H nx K:=fun h=>KD (by omega) (by rw[hall];exact h)
 have hbu: ∀{H:aA} {nx:Nat} {K:D→aA→Nat→Prop},K (dS (all.map aJ)) H nx→aB Tryz.prog fP [dA (eB q)] H nx K:=fun h=>vY (by rw[hall];exact h)
 by_cases h1:bV m all<0
 ·rw[alZ (by rw[hall];exact h1)] at hQ
  repeat' (first| (with_reducible first| (refine hK _ _ _ ?_;clear hK K)| (refine hA ?_;clear hA hB A B)|refine Z1 ?_|refine Z3 fun KB hKB=> ?_|refine Z4 (by omega) ?_)| (first| (with_reducible first|refine Y2 fun K hK=> ?_|refine Y3 fun A B hA hB=> ?_)| (with_reducible refine hwo ?_))<;>(simp only[go_sem];try simp (disch:=omega) only[Iw])| ((with_reducible refine Y8 ?_);try simp only[AQ.then,AQ.blk,reduceIte,Nat.reduceEqDiff])|refine⟨by omega,?_⟩|fail)
  (refine hQ _ _ _ _ _ 3 (dA (tG ⟨q.id,4,[]⟩)) (hp [(0,⟨2,1,[[.osl 1 1 0 s.words.length c0,.osl 1 2 0 s.holds.length c1]]⟩),(1,⟨1,m0,(s.words).map aJ⟩),(2,⟨1,m1,(s.holds).map aJ⟩)]) _ _ (.inr rfl) rfl (fU [0,1,2] (by omega) (by repeat' (first| ((with_reducible refine C0 ?_);first|exact CB rfl|exact CF)| ((with_reducible refine D0 ?_);refine C9 ?_)|exact C3|refine C4 ?_ ?_|fail)) ⟨⟨by simp,by simp[sgL],_,rfl,aP (by repeat' (first| (with_reducible first|exact C3|refine C4 ?_ ?_)| ((with_reducible refine C0 ?_);exact CQ (by omega) rfl rfl (by rfl) rfl)|fail))⟩,⟨by simp,by simp[sgL],_,rfl,bP (aG bF _) rfl rfl⟩,⟨by simp,by simp[sgL],_,rfl,bP (aG bF _) rfl rfl⟩,trivial⟩ (by simp[sgL])) ?_)
  exact⟨rfl,rfl,rfl⟩
 have h1': ¬bV m (bE q.addr q.many q.wrap)<0:=by rw[hall];exact h1
 by_cases h2:wrM q=true
 ·obtain⟨hd1,hd2⟩:=hdl h2
  by_cases h3:(m.getD (bV m all).toNat default).only=true
  ·rw[anB h1' h2 (by rw[hall];exact h3)] at hQ
   repeat' (first| (with_reducible first| (refine hK _ _ _ ?_;clear hK K)| (refine hA ?_;clear hA hB A B)| (refine hB ?_;clear hA hB A B)|refine Z1 ?_|refine Z3 fun KB hKB=> ?_|refine Z5 (by omega) ?_)| (first| (with_reducible first|refine Y2 fun K hK=> ?_|refine Y3 fun A B hA hB=> ?_)| (with_reducible refine hwo ?_)| (with_reducible refine gH ?_))<;>(simp only[go_sem,h2,h3];try simp (disch:=omega) only[Iw])| ((with_reducible refine Y8 ?_);try simp only[AQ.then,AQ.blk,reduceIte,Nat.reduceEqDiff])|refine⟨by omega,?_⟩|fail)
   (refine hQ _ _ _ _ _ 3 (dA (tG ⟨q.id,3,[]⟩)) (hp [(0,⟨2,1,[[.osl 1 1 0 s.words.length c0,.osl 1 2 0 s.holds.length c1]]⟩),(1,⟨1,m0,(s.words).map aJ⟩),(2,⟨1,m1,(s.holds).map aJ⟩)]) _ _ (.inr rfl) rfl (fU [0,1,2] (by omega) (by repeat' (first| ((with_reducible refine C0 ?_);first|exact CB rfl|exact CF)| ((with_reducible refine D0 ?_);refine C9 ?_)|exact C3|refine C4 ?_ ?_|fail)) ⟨⟨by simp,by simp[sgL],_,rfl,aP (by repeat' (first| (with_reducible first|exact C3|refine C4 ?_ ?_)| ((with_reducible refine C0 ?_);exact CQ (by omega) rfl rfl (by rfl) rfl)|fail))⟩,⟨by simp,by simp[sgL],_,rfl,bP (aG bF _) rfl rfl⟩,⟨by simp,by simp[sgL],_,rfl,bP (aG bF _) rfl rfl⟩,trivial⟩ (by simp[sgL])) ?_)
   exact⟨rfl,rfl,rfl⟩
  have h3': ¬(m.getD (bV m (bE q.addr q.many q.wrap)).toNat default).only=true:=by rw[hall];exact h3
  have h3f:(m.getD (bV m all).toNat default).only=false:=by simpa using h3
  by_cases h4:q.kind=4∧ ¬s.holds.getD (who*2+q.id).toNat default=q.addr
  ·rw[aqU h1' h3' h4.1 h4.2] at hQ
   have h41:=h4.1
   have h42:=h4.2
   repeat' (first| (with_reducible first| (refine hK _ _ _ ?_;clear hK K)| (refine hA ?_;clear hA hB A B)| (refine hB ?_;clear hA hB A B)|refine Z1 ?_|refine Z3 fun KB hKB=> ?_|refine Z4 (by omega) ?_|refine Z5 (by omega) ?_)| (first| (with_reducible first|refine Y2 fun K hK=> ?_|refine Y3 fun A B hA hB=> ?_|refine Y4 (by omega) ?_)| (with_reducible refine hwo ?_)| (with_reducible refine gH ?_))<;>(simp only[go_sem,h2,h3f];try simp (disch:=omega) only[Iw])| ((with_reducible refine Y8 ?_);try simp only[AQ.then,AQ.blk,reduceIte,Nat.reduceEqDiff])|refine⟨by omega,?_⟩|fail)
   (refine hQ _ _ _ _ _ 3 (dA (tG ⟨q.id,1,[]⟩)) (hp [(0,⟨2,1,[[.osl 1 1 0 s.words.length c0,.osl 1 2 0 s.holds.length c1]]⟩),(1,⟨1,m0,(s.words).map aJ⟩),(2,⟨1,m1,(s.holds).map aJ⟩)]) _ _ (.inr rfl) rfl (fU [0,1,2] (by omega) (by repeat' (first| ((with_reducible refine C0 ?_);first|exact CB rfl|exact CF)| ((with_reducible refine D0 ?_);refine C9 ?_)|exact C3|refine C4 ?_ ?_|fail)) ⟨⟨by simp,by simp[sgL],_,rfl,aP (by repeat' (first| (with_reducible first|exact C3|refine C4 ?_ ?_)| ((with_reducible refine C0 ?_);exact CQ (by omega) rfl rfl (by rfl) rfl)|fail))⟩,⟨by simp,by simp[sgL],_,rfl,bP (aG bF _) rfl rfl⟩,⟨by simp,by simp[sgL],_,rfl,bP (aG bF _) rfl rfl⟩,trivial⟩ (by simp[sgL])) ?_)
   exact⟨rfl,rfl,rfl⟩
  obtain⟨code,hcode⟩: ∃code:Int,code=if q.kind=4 then 2 else 1:=⟨_,rfl⟩
  have hD:doM m s.words s.holds who q=((FV s.words all q.data q.lanes all.length,iU s.holds all),⟨q.id,code,[]⟩):=by
   rcases hwi.1 h2 with hk|hk
   ·rw[ao1 h1' h3' hk,hall,hcode,if_neg (by omega)]
   ·rw[aoE h1' h3' hk (Classical.byContradiction fun hc=>h4 ⟨hk,hc⟩),hall,hcode,if_pos hk]
  rw[hD] at hQ
  have hk24:=hwi.1 h2
  repeat' (first| (with_reducible first| (refine hK _ _ _ ?_;clear hK K)| (refine hA ?_;clear hA hB A B)| (refine hB ?_;clear hA hB A B)|refine Z1 ?_|refine Z2 ?_|refine Z3 fun KB hKB=> ?_|refine Z4 (by omega) ?_|refine Z5 (by omega) ?_)| (first| (with_reducible first|refine Y2 fun K hK=> ?_|refine Y3 fun A B hA hB=> ?_|refine Y6 (fun h=> ?_) fun h=> ?_)| (with_reducible refine hwo ?_)| (with_reducible refine hbu ?_)| (with_reducible refine gH ?_))<;>(simp only[go_sem,h2,h3f];try simp (disch:=omega) only[Iw])| ((with_reducible refine Y0 ?_);simp only[AQ.then,AQ.blk])|refine⟨by omega,?_⟩| (with_reducible refine hKB _ _ _ ?_)|fail)
  ·have hcd:code=2:=by rw[hcode];simp[*]
   rw[hcd] at hQ
   (have hKX:=hKB;clear hKB)
   refine aM.sG 0 (β:=Nat) (fun b k=>en [(109,dI k),(108,dI all.length),(107,dS (all.map aJ)),(12,dS (all.map aJ)),(10,dP 3 12),(8,dP 3 4),(7,dP 7 3),(0,dP 2 0)])
    (fun b k=>hp [(0,⟨2,1,[[.osl 1 1 0 s.words.length c0,.osl 1 2 0 s.holds.length c1]]⟩),(1,⟨1,m0,(FV s.words all q.data q.lanes k).map aJ⟩),(2,⟨1,m1,(s.holds).map aJ⟩),(3,⟨7,1,[eB q]⟩),(4,⟨3,1,[[cI 0,cI 0,.osl 0 0 0 0 0]]⟩),(12,⟨3,1,[[cI q.id,cI 2,.osl 0 0 0 0 0]]⟩)]) (fun k=>k≤all.length) (fun k=>all.length-k) 0
    (by(refine cR [0,1,2,3,4,12] (by omega) (by repeat' (first| (with_reducible first|exact C1|refine C2 ?_ ?_)| ((with_reducible refine C0 ?_);exact CE (by omega) rfl)| ((with_reducible refine D0 ?_);first|exact CA rfl|refine CJ ?_)|fail)) ⟨⟨by simp,by simp[sgL],_,rfl,aP (by repeat' (first| (with_reducible first|exact C3|refine C4 ?_ ?_)| ((with_reducible refine C0 ?_);exact CQ (by omega) rfl rfl (by rfl) rfl)|fail))⟩,⟨by simp,by simp[sgL],_,rfl,bP (aG bF _) rfl rfl⟩,⟨by simp,by simp[sgL],_,rfl,bP (aG bF _) rfl rfl⟩,⟨by simp,by simp[sgL],_,rfl,aP (GW fun x hx=>List.all_eq_true.1 (rL q).2 x hx)⟩,⟨by simp,by simp[sgL],_,rfl,aP (by repeat' (first| (with_reducible first|exact C3|refine C4 ?_ ?_)| ((with_reducible refine C0 ?_);first|exact CB rfl|exact CC)|fail))⟩,⟨by simp,by simp[sgL],_,rfl,aP (by repeat' (first| (with_reducible first|exact C3|refine C4 ?_ ?_)| ((with_reducible refine C0 ?_);first|exact CB rfl|exact CC)|fail))⟩,trivial⟩ (by simp[sgL]))) (by omega) ?_
   intro k hk KL hKL
   have hpl:=AX (w:=s.words) (all:=all) (data:=q.data) (lanes:=q.lanes) k
   have hpw:=afR (all:=all) (lanes:=q.lanes) hwr hq6 k
   by_cases hlt:k<all.length
   ·have hb:=HB hbi hlt
    have hb2:(all.getD k default).toNat<(FV s.words all q.data q.lanes k).length:=by omega
    repeat' (first| (with_reducible first| (refine hK _ _ _ ?_;clear hK K)| (refine hA ?_;clear hA hB A B)|refine Z1 ?_|refine Z2 ?_|refine Z3 fun KB hKB=> ?_|refine Z4 (by omega) ?_)| (first| (with_reducible first|refine Y2 fun K hK=> ?_|refine Y3 fun A B hA hB=> ?_)| (with_reducible refine ae5 (HB hpw hb2) (HB hq6 (by omega)) (HB hq7 (by omega)) ?_))<;>(simp only[go_sem];try simp (disch:=omega) only[Iw])| ((with_reducible refine Y0 ?_);simp only[AQ.then,AQ.blk])|refine⟨by omega,?_⟩| (with_reducible refine hKB _ _ _ ?_)|fail)
    exact hKL _ _ _ (k+1) (by omega) (by(refine cR [0,1,2,3,4,12] (by omega) (by repeat' (first| (with_reducible first|exact C1|refine C2 ?_ ?_)| ((with_reducible refine C0 ?_);exact CE (by omega) rfl)| ((with_reducible refine D0 ?_);first|exact CA rfl|refine CJ ?_)|fail)) ⟨⟨by simp,by simp[sgL],_,rfl,aP (by repeat' (first| (with_reducible first|exact C3|refine C4 ?_ ?_)| ((with_reducible refine C0 ?_);exact CQ (by omega) rfl rfl (by rfl) rfl)|fail))⟩,⟨by simp,by simp[sgL],_,rfl,bP (aG bF _) rfl rfl⟩,⟨by simp,by simp[sgL],_,rfl,bP (aG bF _) rfl rfl⟩,⟨by simp,by simp[sgL],_,rfl,aP (GW fun x hx=>List.all_eq_true.1 (rL q).2 x hx)⟩,⟨by simp,by simp[sgL],_,rfl,aP (by repeat' (first| (with_reducible first|exact C3|refine C4 ?_ ?_)| ((with_reducible refine C0 ?_);first|exact CB rfl|exact CC)|fail))⟩,⟨by simp,by simp[sgL],_,rfl,aP (by repeat' (first| (with_reducible first|exact C3|refine C4 ?_ ?_)| ((with_reducible refine C0 ?_);first|exact CB rfl|exact CC)|fail))⟩,trivial⟩ (by simp[sgL]))) (by omega) (by omega)
   ·repeat' (first| (with_reducible first| (refine hK _ _ _ ?_;clear hK K)| (refine hB ?_;clear hA hB A B)|refine Z1 ?_|refine Z3 fun KB hKB=> ?_|refine Z5 (by omega) ?_|refine hKX _ _ _ ?_)| (with_reducible first|refine Y2 fun K hK=> ?_|refine Y3 fun A B hA hB=> ?_)<;>(simp only[go_sem])| ((with_reducible refine Y9 ?_);try simp only[AQ.then,AQ.blk,reduceIte,Nat.reduceEqDiff])|fail)
    have hk2:k=all.length:=by omega
    subst hk2
    (have hKY:=hKB;clear hKB)
    refine aM.sG 0 (β:=Nat) (fun b k=>en [(146,dI k),(145,dI 6),(144,dO 1 2 6 c1),(12,dS (all.map aJ)),(10,dP 3 12),(8,dP 3 4),(0,dP 2 0)])
     (fun b k=>hp [(0,⟨2,1,[[.osl 1 1 0 s.words.length c0,.osl 1 2 0 s.holds.length c1]]⟩),(1,⟨1,m0,(FV s.words all q.data q.lanes all.length).map aJ⟩),(2,⟨1,m1,(xI s.holds all k).map aJ⟩),(4,⟨3,1,[[cI 0,cI 0,.osl 0 0 0 0 0]]⟩),(12,⟨3,1,[[cI q.id,cI 2,.osl 0 0 0 0 0]]⟩)]) (fun k=>k≤6) (fun k=>6-k) 0
     (by(refine cR [0,1,2,4,12] (by omega) (by repeat' (first| (with_reducible first|exact C1|refine C2 ?_ ?_)| ((with_reducible refine C0 ?_);first|exact CQ (by omega) rfl rfl (by first|rfl|omega) rfl|exact CE (by omega) rfl| (exact CG (by(congr 2;omega)) rfl))| ((with_reducible refine D0 ?_);first|exact CA rfl|refine CJ ?_)|fail)) ⟨⟨by simp,by simp[sgL],_,rfl,aP (by repeat' (first| (with_reducible first|exact C3|refine C4 ?_ ?_)| ((with_reducible refine C0 ?_);exact CQ (by omega) rfl rfl (by rfl) rfl)|fail))⟩,⟨by simp,by simp[sgL],_,rfl,bP (aG bF _) rfl rfl⟩,⟨by simp,by simp[sgL],_,rfl,bP (aG bF _) (congrArg _ ac9) rfl⟩,⟨by simp,by simp[sgL],_,rfl,aP (by repeat' (first| (with_reducible first|exact C3|refine C4 ?_ ?_)| ((with_reducible refine C0 ?_);first|exact CB rfl|exact CC)|fail))⟩,⟨by simp,by simp[sgL],_,rfl,aP (by repeat' (first| (with_reducible first|exact C3|refine C4 ?_ ?_)| ((with_reducible refine C0 ?_);first|exact CB rfl|exact CC)|fail))⟩,trivial⟩ (by simp[sgL]))) (by omega) ?_
    intro k hk KM hKM
    have hfl:=aiJ (all:=all) (show k≤s.holds.length by omega)
    by_cases hlt:k<6
    ·have hfa:=akN (all:=all) (show k<s.holds.length by omega)
     have hfs:=fun x=>agQ (all:=all) (x:=x) (show k<s.holds.length by omega)
     have hsm:=acP (all:=all) (show k<s.holds.length by omega)
     repeat' (first| (with_reducible first| (refine hK _ _ _ ?_;clear hK K)| (refine hA ?_;clear hA hB A B)| (refine hB ?_;clear hA hB A B)|refine Z1 ?_|refine Z2 ?_|refine Z3 fun KB hKB=> ?_|refine Z4 (by omega) ?_|refine Z6 (fun h=> ?_) fun h=> ?_)| (first| (with_reducible first|refine Y2 fun K hK=> ?_|refine Y3 fun A B hA hB=> ?_)| (refine x8 (by omega) (aE rfl) ?_))<;>(simp only[go_sem,hfa];try simp (disch:=omega) only[Iw])| ((with_reducible refine Y0 ?_);simp only[AQ.then,AQ.blk])|refine⟨by omega,?_⟩| (with_reducible refine hKB _ _ _ ?_)|fail)
     ·exact hKM _ _ _ (k+1) (by omega) (by(refine cR [0,1,2,4,12] (by omega) (by repeat' (first| (with_reducible first|exact C1|refine C2 ?_ ?_)| ((with_reducible refine C0 ?_);first|exact CQ (by omega) rfl rfl (by rfl) rfl|exact CE (by omega) rfl)| ((with_reducible refine D0 ?_);first|exact CA rfl|refine CJ ?_)|fail)) ⟨⟨by simp,by simp[sgL],_,rfl,aP (by repeat' (first| (with_reducible first|exact C3|refine C4 ?_ ?_)| ((with_reducible refine C0 ?_);exact CQ (by omega) rfl rfl (by rfl) rfl)|fail))⟩,⟨by simp,by simp[sgL],_,rfl,bP (aG bF _) rfl rfl⟩,⟨by simp,by simp[sgL],_,rfl,bP (aG bF _) (congrArg _ (hfs (-1) (by rw[if_pos (by assumption)])).symm) rfl⟩,⟨by simp,by simp[sgL],_,rfl,aP (by repeat' (first| (with_reducible first|exact C3|refine C4 ?_ ?_)| ((with_reducible refine C0 ?_);first|exact CB rfl|exact CC)|fail))⟩,⟨by simp,by simp[sgL],_,rfl,aP (by repeat' (first| (with_reducible first|exact C3|refine C4 ?_ ?_)| ((with_reducible refine C0 ?_);first|exact CB rfl|exact CC)|fail))⟩,trivial⟩ (by simp[sgL]))) (by omega) (by omega)
     ·exact hKM _ _ _ (k+1) (by omega) (by(refine cR [0,1,2,4,12] (by omega) (by repeat' (first| (with_reducible first|exact C1|refine C2 ?_ ?_)| ((with_reducible refine C0 ?_);first|exact CQ (by omega) rfl rfl (by rfl) rfl|exact CE (by omega) rfl)| ((with_reducible refine D0 ?_);first|exact CA rfl|refine CJ ?_)|fail)) ⟨⟨by simp,by simp[sgL],_,rfl,aP (by repeat' (first| (with_reducible first|exact C3|refine C4 ?_ ?_)| ((with_reducible refine C0 ?_);exact CQ (by omega) rfl rfl (by rfl) rfl)|fail))⟩,⟨by simp,by simp[sgL],_,rfl,bP (aG bF _) rfl rfl⟩,⟨by simp,by simp[sgL],_,rfl,bP (aG bF _) (congrArg _ (hsm.symm.trans (hfs _ (by rw[if_neg (by assumption)]))).symm) rfl⟩,⟨by simp,by simp[sgL],_,rfl,aP (by repeat' (first| (with_reducible first|exact C3|refine C4 ?_ ?_)| ((with_reducible refine C0 ?_);first|exact CB rfl|exact CC)|fail))⟩,⟨by simp,by simp[sgL],_,rfl,aP (by repeat' (first| (with_reducible first|exact C3|refine C4 ?_ ?_)| ((with_reducible refine C0 ?_);first|exact CB rfl|exact CC)|fail))⟩,trivial⟩ (by simp[sgL]))) (by omega) (by omega)
    ·repeat' (first| (with_reducible first| (refine hK _ _ _ ?_;clear hK K)| (refine hB ?_;clear hA hB A B)|refine Z1 ?_|refine Z5 (by omega) ?_|refine hKY _ _ _ ?_)| (with_reducible first|refine Y2 fun K hK=> ?_|refine Y3 fun A B hA hB=> ?_)<;>(simp only[go_sem])| ((with_reducible first|refine Y8 ?_|refine Y9 ?_);try simp only[AQ.then,AQ.blk,reduceIte,Nat.reduceEqDiff])|fail)
     have hk2:k=s.holds.length:=by omega
     subst hk2
     (refine hQ _ _ _ _ _ 3 (dA (tG ⟨q.id,2,[]⟩)) (hp [(0,⟨2,1,[[.osl 1 1 0 s.words.length c0,.osl 1 2 0 s.holds.length c1]]⟩),(1,⟨1,m0,(FV s.words all q.data q.lanes all.length).map aJ⟩),(2,⟨1,m1,(iU s.holds all).map aJ⟩)]) _ _ (.inr rfl) rfl (fU [0,1,2] (by omega) (by repeat' (first| ((with_reducible refine C0 ?_);first|exact CB rfl|exact CF)| ((with_reducible refine D0 ?_);refine C9 ?_)|exact C3|refine C4 ?_ ?_|fail)) ⟨⟨by simp,by simp[sgL],_,rfl,aP (by repeat' (first| (with_reducible first|exact C3|refine C4 ?_ ?_)| ((with_reducible refine C0 ?_);exact CQ (by omega) rfl rfl (by rfl) rfl)|fail))⟩,⟨by simp,by simp[sgL],_,rfl,bP (aG bF _) rfl rfl⟩,⟨by simp,by simp[sgL],_,rfl,bP (aG bF _) (congrArg _ ahC.symm) rfl⟩,trivial⟩ (by simp[sgL])) ?_)
     exact⟨rfl,rfl,rfl⟩
  ·have hcd:code=1:=by rw[hcode];simp[*]
   rw[hcd] at hQ
   (have hKX:=hKB;clear hKB)
   refine aM.sG 0 (β:=Nat) (fun b k=>en [(109,dI k),(108,dI all.length),(107,dS (all.map aJ)),(12,dS (all.map aJ)),(10,dP 3 12),(8,dP 3 4),(7,dP 7 3),(0,dP 2 0)])
    (fun b k=>hp [(0,⟨2,1,[[.osl 1 1 0 s.words.length c0,.osl 1 2 0 s.holds.length c1]]⟩),(1,⟨1,m0,(FV s.words all q.data q.lanes k).map aJ⟩),(2,⟨1,m1,(s.holds).map aJ⟩),(3,⟨7,1,[eB q]⟩),(4,⟨3,1,[[cI 0,cI 0,.osl 0 0 0 0 0]]⟩),(12,⟨3,1,[[cI q.id,cI 1,.osl 0 0 0 0 0]]⟩)]) (fun k=>k≤all.length) (fun k=>all.length-k) 0
    (by(refine cR [0,1,2,3,4,12] (by omega) (by repeat' (first| (with_reducible first|exact C1|refine C2 ?_ ?_)| ((with_reducible refine C0 ?_);exact CE (by omega) rfl)| ((with_reducible refine D0 ?_);first|exact CA rfl|refine CJ ?_)|fail)) ⟨⟨by simp,by simp[sgL],_,rfl,aP (by repeat' (first| (with_reducible first|exact C3|refine C4 ?_ ?_)| ((with_reducible refine C0 ?_);exact CQ (by omega) rfl rfl (by rfl) rfl)|fail))⟩,⟨by simp,by simp[sgL],_,rfl,bP (aG bF _) rfl rfl⟩,⟨by simp,by simp[sgL],_,rfl,bP (aG bF _) rfl rfl⟩,⟨by simp,by simp[sgL],_,rfl,aP (GW fun x hx=>List.all_eq_true.1 (rL q).2 x hx)⟩,⟨by simp,by simp[sgL],_,rfl,aP (by repeat' (first| (with_reducible first|exact C3|refine C4 ?_ ?_)| ((with_reducible refine C0 ?_);first|exact CB rfl|exact CC)|fail))⟩,⟨by simp,by simp[sgL],_,rfl,aP (by repeat' (first| (with_reducible first|exact C3|refine C4 ?_ ?_)| ((with_reducible refine C0 ?_);first|exact CB rfl|exact CC)|fail))⟩,trivial⟩ (by simp[sgL]))) (by omega) ?_
   intro k hk KL hKL
   have hpl:=AX (w:=s.words) (all:=all) (data:=q.data) (lanes:=q.lanes) k
   have hpw:=afR (all:=all) (lanes:=q.lanes) hwr hq6 k
   by_cases hlt:k<all.length
   ·have hb:=HB hbi hlt
    have hb2:(all.getD k default).toNat<(FV s.words all q.data q.lanes k).length:=by omega
    repeat' (first| (with_reducible first| (refine hK _ _ _ ?_;clear hK K)| (refine hA ?_;clear hA hB A B)|refine Z1 ?_|refine Z2 ?_|refine Z3 fun KB hKB=> ?_|refine Z4 (by omega) ?_)| (first| (with_reducible first|refine Y2 fun K hK=> ?_|refine Y3 fun A B hA hB=> ?_)| (with_reducible refine ae5 (HB hpw hb2) (HB hq6 (by omega)) (HB hq7 (by omega)) ?_))<;>(simp only[go_sem];try simp (disch:=omega) only[Iw])| ((with_reducible refine Y0 ?_);simp only[AQ.then,AQ.blk])|refine⟨by omega,?_⟩| (with_reducible refine hKB _ _ _ ?_)|fail)
    exact hKL _ _ _ (k+1) (by omega) (by(refine cR [0,1,2,3,4,12] (by omega) (by repeat' (first| (with_reducible first|exact C1|refine C2 ?_ ?_)| ((with_reducible refine C0 ?_);exact CE (by omega) rfl)| ((with_reducible refine D0 ?_);first|exact CA rfl|refine CJ ?_)|fail)) ⟨⟨by simp,by simp[sgL],_,rfl,aP (by repeat' (first| (with_reducible first|exact C3|refine C4 ?_ ?_)| ((with_reducible refine C0 ?_);exact CQ (by omega) rfl rfl (by rfl) rfl)|fail))⟩,⟨by simp,by simp[sgL],_,rfl,bP (aG bF _) rfl rfl⟩,⟨by simp,by simp[sgL],_,rfl,bP (aG bF _) rfl rfl⟩,⟨by simp,by simp[sgL],_,rfl,aP (GW fun x hx=>List.all_eq_true.1 (rL q).2 x hx)⟩,⟨by simp,by simp[sgL],_,rfl,aP (by repeat' (first| (with_reducible first|exact C3|refine C4 ?_ ?_)| ((with_reducible refine C0 ?_);first|exact CB rfl|exact CC)|fail))⟩,⟨by simp,by simp[sgL],_,rfl,aP (by repeat' (first| (with_reducible first|exact C3|refine C4 ?_ ?_)| ((with_reducible refine C0 ?_);first|exact CB rfl|exact CC)|fail))⟩,trivial⟩ (by simp[sgL]))) (by omega) (by omega)
   ·repeat' (first| (with_reducible first| (refine hK _ _ _ ?_;clear hK K)| (refine hB ?_;clear hA hB A B)|refine Z1 ?_|refine Z3 fun KB hKB=> ?_|refine Z5 (by omega) ?_|refine hKX _ _ _ ?_)| (with_reducible first|refine Y2 fun K hK=> ?_|refine Y3 fun A B hA hB=> ?_)<;>(simp only[go_sem])| ((with_reducible refine Y9 ?_);try simp only[AQ.then,AQ.blk,reduceIte,Nat.reduceEqDiff])|fail)
    have hk2:k=all.length:=by omega
    subst hk2
    (have hKY:=hKB;clear hKB)
    refine aM.sG 0 (β:=Nat) (fun b k=>en [(146,dI k),(145,dI 6),(144,dO 1 2 6 c1),(12,dS (all.map aJ)),(10,dP 3 12),(8,dP 3 4),(0,dP 2 0)])
     (fun b k=>hp [(0,⟨2,1,[[.osl 1 1 0 s.words.length c0,.osl 1 2 0 s.holds.length c1]]⟩),(1,⟨1,m0,(FV s.words all q.data q.lanes all.length).map aJ⟩),(2,⟨1,m1,(xI s.holds all k).map aJ⟩),(4,⟨3,1,[[cI 0,cI 0,.osl 0 0 0 0 0]]⟩),(12,⟨3,1,[[cI q.id,cI 1,.osl 0 0 0 0 0]]⟩)]) (fun k=>k≤6) (fun k=>6-k) 0
     (by(refine cR [0,1,2,4,12] (by omega) (by repeat' (first| (with_reducible first|exact C1|refine C2 ?_ ?_)| ((with_reducible refine C0 ?_);first|exact CQ (by omega) rfl rfl (by first|rfl|omega) rfl|exact CE (by omega) rfl| (exact CG (by(congr 2;omega)) rfl))| ((with_reducible refine D0 ?_);first|exact CA rfl|refine CJ ?_)|fail)) ⟨⟨by simp,by simp[sgL],_,rfl,aP (by repeat' (first| (with_reducible first|exact C3|refine C4 ?_ ?_)| ((with_reducible refine C0 ?_);exact CQ (by omega) rfl rfl (by rfl) rfl)|fail))⟩,⟨by simp,by simp[sgL],_,rfl,bP (aG bF _) rfl rfl⟩,⟨by simp,by simp[sgL],_,rfl,bP (aG bF _) (congrArg _ ac9) rfl⟩,⟨by simp,by simp[sgL],_,rfl,aP (by repeat' (first| (with_reducible first|exact C3|refine C4 ?_ ?_)| ((with_reducible refine C0 ?_);first|exact CB rfl|exact CC)|fail))⟩,⟨by simp,by simp[sgL],_,rfl,aP (by repeat' (first| (with_reducible first|exact C3|refine C4 ?_ ?_)| ((with_reducible refine C0 ?_);first|exact CB rfl|exact CC)|fail))⟩,trivial⟩ (by simp[sgL]))) (by omega) ?_
    intro k hk KM hKM
    have hfl:=aiJ (all:=all) (show k≤s.holds.length by omega)
    by_cases hlt:k<6
    ·have hfa:=akN (all:=all) (show k<s.holds.length by omega)
     have hfs:=fun x=>agQ (all:=all) (x:=x) (show k<s.holds.length by omega)
     have hsm:=acP (all:=all) (show k<s.holds.length by omega)
     repeat' (first| (with_reducible first| (refine hK _ _ _ ?_;clear hK K)| (refine hA ?_;clear hA hB A B)| (refine hB ?_;clear hA hB A B)|refine Z1 ?_|refine Z2 ?_|refine Z3 fun KB hKB=> ?_|refine Z4 (by omega) ?_|refine Z6 (fun h=> ?_) fun h=> ?_)| (first| (with_reducible first|refine Y2 fun K hK=> ?_|refine Y3 fun A B hA hB=> ?_)| (refine x8 (by omega) (aE rfl) ?_))<;>(simp only[go_sem,hfa];try simp (disch:=omega) only[Iw])| ((with_reducible refine Y0 ?_);simp only[AQ.then,AQ.blk])|refine⟨by omega,?_⟩| (with_reducible refine hKB _ _ _ ?_)|fail)
     ·exact hKM _ _ _ (k+1) (by omega) (by(refine cR [0,1,2,4,12] (by omega) (by repeat' (first| (with_reducible first|exact C1|refine C2 ?_ ?_)| ((with_reducible refine C0 ?_);first|exact CQ (by omega) rfl rfl (by rfl) rfl|exact CE (by omega) rfl)| ((with_reducible refine D0 ?_);first|exact CA rfl|refine CJ ?_)|fail)) ⟨⟨by simp,by simp[sgL],_,rfl,aP (by repeat' (first| (with_reducible first|exact C3|refine C4 ?_ ?_)| ((with_reducible refine C0 ?_);exact CQ (by omega) rfl rfl (by rfl) rfl)|fail))⟩,⟨by simp,by simp[sgL],_,rfl,bP (aG bF _) rfl rfl⟩,⟨by simp,by simp[sgL],_,rfl,bP (aG bF _) (congrArg _ (hfs (-1) (by rw[if_pos (by assumption)])).symm) rfl⟩,⟨by simp,by simp[sgL],_,rfl,aP (by repeat' (first| (with_reducible first|exact C3|refine C4 ?_ ?_)| ((with_reducible refine C0 ?_);first|exact CB rfl|exact CC)|fail))⟩,⟨by simp,by simp[sgL],_,rfl,aP (by repeat' (first| (with_reducible first|exact C3|refine C4 ?_ ?_)| ((with_reducible refine C0 ?_);first|exact CB rfl|exact CC)|fail))⟩,trivial⟩ (by simp[sgL]))) (by omega) (by omega)
     ·exact hKM _ _ _ (k+1) (by omega) (by(refine cR [0,1,2,4,12] (by omega) (by repeat' (first| (with_reducible first|exact C1|refine C2 ?_ ?_)| ((with_reducible refine C0 ?_);first|exact CQ (by omega) rfl rfl (by rfl) rfl|exact CE (by omega) rfl)| ((with_reducible refine D0 ?_);first|exact CA rfl|refine CJ ?_)|fail)) ⟨⟨by simp,by simp[sgL],_,rfl,aP (by repeat' (first| (with_reducible first|exact C3|refine C4 ?_ ?_)| ((with_reducible refine C0 ?_);exact CQ (by omega) rfl rfl (by rfl) rfl)|fail))⟩,⟨by simp,by simp[sgL],_,rfl,bP (aG bF _) rfl rfl⟩,⟨by simp,by simp[sgL],_,rfl,bP (aG bF _) (congrArg _ (hsm.symm.trans (hfs _ (by rw[if_neg (by assumption)]))).symm) rfl⟩,⟨by simp,by simp[sgL],_,rfl,aP (by repeat' (first| (with_reducible first|exact C3|refine C4 ?_ ?_)| ((with_reducible refine C0 ?_);first|exact CB rfl|exact CC)|fail))⟩,⟨by simp,by simp[sgL],_,rfl,aP (by repeat' (first| (with_reducible first|exact C3|refine C4 ?_ ?_)| ((with_reducible refine C0 ?_);first|exact CB rfl|exact CC)|fail))⟩,trivial⟩ (by simp[sgL]))) (by omega) (by omega)
    ·repeat' (first| (with_reducible first| (refine hK _ _ _ ?_;clear hK K)| (refine hB ?_;clear hA hB A B)|refine Z1 ?_|refine Z5 (by omega) ?_|refine hKY _ _ _ ?_)| (with_reducible first|refine Y2 fun K hK=> ?_|refine Y3 fun A B hA hB=> ?_)<;>(simp only[go_sem])| ((with_reducible first|refine Y8 ?_|refine Y9 ?_);try simp only[AQ.then,AQ.blk,reduceIte,Nat.reduceEqDiff])|fail)
     have hk2:k=s.holds.length:=by omega
     subst hk2
     (refine hQ _ _ _ _ _ 3 (dA (tG ⟨q.id,1,[]⟩)) (hp [(0,⟨2,1,[[.osl 1 1 0 s.words.length c0,.osl 1 2 0 s.holds.length c1]]⟩),(1,⟨1,m0,(FV s.words all q.data q.lanes all.length).map aJ⟩),(2,⟨1,m1,(iU s.holds all).map aJ⟩)]) _ _ (.inr rfl) rfl (fU [0,1,2] (by omega) (by repeat' (first| ((with_reducible refine C0 ?_);first|exact CB rfl|exact CF)| ((with_reducible refine D0 ?_);refine C9 ?_)|exact C3|refine C4 ?_ ?_|fail)) ⟨⟨by simp,by simp[sgL],_,rfl,aP (by repeat' (first| (with_reducible first|exact C3|refine C4 ?_ ?_)| ((with_reducible refine C0 ?_);exact CQ (by omega) rfl rfl (by rfl) rfl)|fail))⟩,⟨by simp,by simp[sgL],_,rfl,bP (aG bF _) rfl rfl⟩,⟨by simp,by simp[sgL],_,rfl,bP (aG bF _) (congrArg _ ahC.symm) rfl⟩,trivial⟩ (by simp[sgL])) ?_)
     exact⟨rfl,rfl,rfl⟩
 have h2f:wrM q=false:=by simpa using h2
 have hk13:q.kind=1∨q.kind=3:=by have h3: ¬(q.kind=2∨q.kind=4):=fun h=>h2 (hwi.2 h);omega
 repeat' (first| (with_reducible first| (refine hK _ _ _ ?_;clear hK K)| (refine hA ?_;clear hA hB A B)| (refine hB ?_;clear hA hB A B)|refine Z1 ?_|refine Z2 ?_|refine Z3 fun KB hKB=> ?_|refine Z5 (by omega) ?_)| (first| (with_reducible first|refine Y2 fun K hK=> ?_|refine Y3 fun A B hA hB=> ?_|refine Y5 (by omega) ?_)| (with_reducible refine hwo ?_)| (with_reducible refine hbu ?_)| (with_reducible refine gH ?_))<;>(simp only[go_sem,h2f];try simp (disch:=omega) only[Iw])| ((with_reducible refine Y0 ?_);simp only[AQ.then,AQ.blk])|refine⟨by omega,?_⟩| (with_reducible refine hKB _ _ _ ?_)|fail)
 (have hKX:=hKB;clear hKB)
 refine aM.sG 0 (β:=Nat) (fun b k=>en [(76,dI k),(75,dI all.length),(74,dS (all.map aJ)),(11,.one (.c (.ptr 1 2 (who*2+q.id).toNat 0))),(10,dP 3 12),(8,dP 3 4),(7,dP 7 3),(0,dP 2 0)])
  (fun b k=>hp [(0,⟨2,1,[[.osl 1 1 0 s.words.length c0,.osl 1 2 0 s.holds.length c1]]⟩),(1,⟨1,m0,(s.words).map aJ⟩),(2,⟨1,m1,(s.holds).map aJ⟩),(3,⟨7,1,[eB q]⟩),(4,⟨3,1,[[cI 0,cI 0,.osl 0 0 0 0 0]]⟩),(12,⟨3,1,[[cI q.id,cI 1,.osl 1 58 0 all.length all.length]]⟩),(58,⟨1,all.length,((List.range k).map (fun k=>s.words.getD (all.getD k default).toNat default)++List.replicate (all.length-k) (0:Int)).map aJ⟩)])
  (fun k=>k≤all.length) (fun k=>all.length-k) 0
  (by(refine cR [0,1,2,3,4,12,58] (by omega) (by repeat' (first| (with_reducible first|exact C1|refine C2 ?_ ?_)| ((with_reducible refine C0 ?_);exact CE (by omega) rfl)| ((with_reducible refine D0 ?_);first|exact CA rfl|refine CJ ?_)|fail)) ⟨⟨by simp,by simp[sgL],_,rfl,aP (by repeat' (first| (with_reducible first|exact C3|refine C4 ?_ ?_)| ((with_reducible refine C0 ?_);exact CQ (by omega) rfl rfl (by rfl) rfl)|fail))⟩,⟨by simp,by simp[sgL],_,rfl,bP (aG bF _) rfl rfl⟩,⟨by simp,by simp[sgL],_,rfl,bP (aG bF _) rfl rfl⟩,⟨by simp,by simp[sgL],_,rfl,aP (GW fun x hx=>List.all_eq_true.1 (rL q).2 x hx)⟩,⟨by simp,by simp[sgL],_,rfl,aP (by repeat' (first| (with_reducible first|exact C3|refine C4 ?_ ?_)| ((with_reducible refine C0 ?_);first|exact CB rfl|exact CC)|fail))⟩,⟨by simp,by simp[sgL],_,rfl,aP (by repeat' (first| (with_reducible first|exact C3|refine C4 ?_ ?_)| ((with_reducible refine C0 ?_);first|exact CB rfl|exact CQ (by omega) rfl rfl (by rfl) rfl)|fail))⟩,⟨by simp,by simp[sgL],_,rfl,bP (aG bF _) (by simp[aJ]) rfl⟩,trivial⟩ (by simp[sgL]))) (by omega) ?_
 intro k hk KL hKL
 have hdlen:((List.range k).map (fun k=>s.words.getD (all.getD k default).toNat default)++List.replicate (all.length-k) (0:Int)).length=all.length:=by simp;omega
 by_cases hlt:k<all.length
 ·have hb:=HB hbi hlt
  have hbs:=fun x=>XT (f:=fun k=>s.words.getD (all.getD k default).toNat default) (x:=x) hlt
  repeat' (first| (with_reducible first| (refine hK _ _ _ ?_;clear hK K)| (refine hA ?_;clear hA hB A B)|refine Z1 ?_|refine Z2 ?_|refine Z3 fun KB hKB=> ?_|refine Z4 (by omega) ?_)| (with_reducible first|refine Y2 fun K hK=> ?_|refine Y3 fun A B hA hB=> ?_)<;>(simp only[go_sem,hdlen];try simp (disch:=omega) only[Iw])| ((with_reducible refine Y0 ?_);simp only[AQ.then,AQ.blk])|refine⟨by omega,?_⟩| (with_reducible refine hKB _ _ _ ?_)|fail)
  exact hKL _ _ _ (k+1) (by omega) (by(refine cR [0,1,2,3,4,12,58] (by omega) (by repeat' (first| (with_reducible first|exact C1|refine C2 ?_ ?_)| ((with_reducible refine C0 ?_);exact CE (by omega) rfl)| ((with_reducible refine D0 ?_);first|exact CA rfl|refine CJ ?_)|fail)) ⟨⟨by simp,by simp[sgL],_,rfl,aP (by repeat' (first| (with_reducible first|exact C3|refine C4 ?_ ?_)| ((with_reducible refine C0 ?_);exact CQ (by omega) rfl rfl (by rfl) rfl)|fail))⟩,⟨by simp,by simp[sgL],_,rfl,bP (aG bF _) rfl rfl⟩,⟨by simp,by simp[sgL],_,rfl,bP (aG bF _) rfl rfl⟩,⟨by simp,by simp[sgL],_,rfl,aP (GW fun x hx=>List.all_eq_true.1 (rL q).2 x hx)⟩,⟨by simp,by simp[sgL],_,rfl,aP (by repeat' (first| (with_reducible first|exact C3|refine C4 ?_ ?_)| ((with_reducible refine C0 ?_);first|exact CB rfl|exact CC)|fail))⟩,⟨by simp,by simp[sgL],_,rfl,aP (by repeat' (first| (with_reducible first|exact C3|refine C4 ?_ ?_)| ((with_reducible refine C0 ?_);first|exact CB rfl|exact CQ (by omega) rfl rfl (by rfl) rfl)|fail))⟩,⟨by simp,by simp[sgL],_,rfl,bP (aG bF _) (congrArg _ (hbs _ rfl).symm) rfl⟩,trivial⟩ (by simp[sgL]))) (by omega) (by omega)
 ·have hk2:k=all.length:=by omega
  subst hk2
  repeat' (first| (with_reducible first| (refine hK _ _ _ ?_;clear hK K)| (refine hA ?_;clear hA hB A B)| (refine hB ?_;clear hA hB A B)|refine Z1 ?_|refine Z2 ?_|refine Z5 (by omega) ?_|refine Z6 (fun h=> ?_) fun h=> ?_|refine hKX _ _ _ ?_)| (with_reducible first|refine Y2 fun K hK=> ?_|refine Y3 fun A B hA hB=> ?_)<;>(simp only[go_sem,hdlen])| ((with_reducible first|refine Y8 ?_|refine Y9 ?_);try simp only[AQ.then,AQ.blk,reduceIte,Nat.reduceEqDiff])|refine⟨by omega,?_⟩|fail)
  ·have hrd:(List.range all.length).map (fun k=>s.words.getD (all.getD k default).toNat default)++List.replicate (all.length-all.length) (0:Int)=all.map fun a=>s.words.getD a.toNat default:=by rw[aqI];simp
   rw[hrd]
   rw[amK h1' (by assumption),hall] at hQ
   (refine hQ _ _ _ _ _ 3 (dA (tG ⟨q.id,2,all.map fun a=>s.words.getD a.toNat default⟩)) (hp [(0,⟨2,1,[[.osl 1 1 0 s.words.length c0,.osl 1 2 0 s.holds.length c1]]⟩),(1,⟨1,m0,(s.words).map aJ⟩),(2,⟨1,m1,(s.holds.set (who*2+q.id).toNat q.addr).map aJ⟩)]) _ _ (.inr rfl) rfl (fU [0,1,2] (by omega) (aH (bB rfl) (aH (bB rfl) (aH (bW (l:=all.map fun a=>s.words.getD a.toNat default) bF rfl (by simp) (by simp) (by simp)) eP))) ⟨⟨by simp,by simp[sgL],_,rfl,aP (by repeat' (first| (with_reducible first|exact C3|refine C4 ?_ ?_)| ((with_reducible refine C0 ?_);exact CQ (by omega) rfl rfl (by rfl) rfl)|fail))⟩,⟨by simp,by simp[sgL],_,rfl,bP (aG bF _) rfl rfl⟩,⟨by simp,by simp[sgL],_,rfl,bP (aG bF _) rfl rfl⟩,trivial⟩ (by simp[sgL])) ?_)
   exact⟨rfl,rfl,rfl⟩
  ·have hrd:(List.range all.length).map (fun k=>s.words.getD (all.getD k default).toNat default)++List.replicate (all.length-all.length) (0:Int)=all.map fun a=>s.words.getD a.toNat default:=by rw[aqI];simp
   rw[hrd]
   rw[akI h1' (by omega),hall] at hQ
   (refine hQ _ _ _ _ _ 3 (dA (tG ⟨q.id,1,all.map fun a=>s.words.getD a.toNat default⟩)) (hp [(0,⟨2,1,[[.osl 1 1 0 s.words.length c0,.osl 1 2 0 s.holds.length c1]]⟩),(1,⟨1,m0,(s.words).map aJ⟩),(2,⟨1,m1,(s.holds).map aJ⟩)]) _ _ (.inr rfl) rfl (fU [0,1,2] (by omega) (aH (bB rfl) (aH (bB rfl) (aH (bW (l:=all.map fun a=>s.words.getD a.toNat default) bF rfl (by simp) (by simp) (by simp)) eP))) ⟨⟨by simp,by simp[sgL],_,rfl,aP (by repeat' (first| (with_reducible first|exact C3|refine C4 ?_ ?_)| ((with_reducible refine C0 ?_);exact CQ (by omega) rfl rfl (by rfl) rfl)|fail))⟩,⟨by simp,by simp[sgL],_,rfl,bP (aG bF _) rfl rfl⟩,⟨by simp,by simp[sgL],_,rfl,bP (aG bF _) rfl rfl⟩,trivial⟩ (by simp[sgL])) ?_)
   exact⟨rfl,rfl,rfl⟩
theorem awV {m:List Rng} {s:TSt} {who:Int} {q:Req} {c0 c1 m0 m1 i0 i1 i2:Nat} (hm4:m.length<2^20) (hf:WK s.words s.holds) (hc0:s.words.length≤c0) (hc1:s.holds.length≤c1) (hw:0≤who∧who≤2) (hq:dH q)
 (hlt:i0<nx∧i1<nx∧i2<nx) (hd:[i0,i1,i2].Nodup) (h0:H i0=some ⟨2,1,[[.osl 1 i1 0 s.words.length c0,.osl 1 i2 0 s.holds.length c1]]⟩) (h1:H i1=some ⟨1,m0,s.words.map aJ⟩) (h2:H i2=some ⟨1,m1,s.holds.map aJ⟩)
 (h:K (dA (tG (doM m s.words s.holds who q).2)) (((H.set i0 ⟨2,1,[[.osl 1 i1 0 s.words.length c0,.osl 1 i2 0 s.holds.length c1]]⟩).set i1 ⟨1,m0,(doM m s.words s.holds who q).1.1.map aJ⟩).set i2 ⟨1,m1,(doM m s.words s.holds who q).1.2.map aJ⟩) nx):aB Tryz.prog pL [dP 2 i0,dS (m.map eN),dI who,dA (eB q)] H nx K:=by
 refine(awX m s who q c0 c1 m0 m1 hm4 hf hc0 hc1 hw hq).AF [i0,i1,i2] rfl ⟨DG (by simp) rfl,aE rfl,aE rfl,aE rfl,trivial⟩ ?_ ?_ ?_ hd fun r H' n' _ ⟨q1,q2,q3⟩=> ?_
 ·refine⟨⟨by simp,id,_,h0,aP ?_⟩,⟨by simp,id,_,h1,bP (aG bF _) rfl rfl⟩,⟨by simp,id,_,h2,bP (aG bF _) rfl rfl⟩,trivial⟩
  exact aH (aaF (by simp) rfl rfl rfl rfl) (aH (aaF (by simp) rfl rfl rfl rfl) eP)
 ·exact hd
 ·intro x hx;simp only[List.mem_cons,List.not_mem_nil,or_false] at hx;omega
 ·subst q1;subst q2;subst q3
  generalize (doM m s.words s.holds who q)=dm at*
  obtain⟨⟨w',h'⟩,r'⟩:=dm
  have e0:bA.rn (tau 3 nx (nth [i0,i1,i2])) ⟨2,1,[[.osl 1 1 0 s.words.length c0,.osl 1 2 0 s.holds.length c1]]⟩=⟨2,1,[[.osl 1 i1 0 s.words.length c0,.osl 1 i2 0 s.holds.length c1]]⟩:=rfl
  have e1:back (tau 3 nx (nth [i0,i1,i2])) (hp [(0,⟨2,1,[[.osl 1 1 0 s.words.length c0,.osl 1 2 0 s.holds.length c1]]⟩),(1,⟨1,m0,w'.map aJ⟩),(2,⟨1,m1,h'.map aJ⟩)]) 3 H=(((H.set i0 ⟨2,1,[[.osl 1 i1 0 s.words.length c0,.osl 1 i2 0 s.holds.length c1]]⟩).set i1 ⟨1,m0,w'.map aJ⟩).set i2 ⟨1,m1,h'.map aJ⟩):=by
   simp only[back,hp,aA.set,Option.map_some,e0,uB,aA.eL,if_true,Nat.reduceEqDiff,if_false,reduceIte]
   rfl
  rw[←e1] at h
  exact h
end
end Go.Proofs.YtegiblhkjfiooaaGreat
end
section
namespace Go.Proofs.YtegiblhkjfiooaaGreat
open Go Go.AM
set_option maxRecDepth 100000
set_option maxHeartbeats 8000000
section
variable {H : aA} {nx : Nat} {K : D → aA → Nat → Prop}
theorem awB:aB Tryz.prog eS [.one (.c (.osl 0 0 0 0 0))] .nil 0 fun r _ n=>n=0∧r.imm=true∧r=dS []:=by
 refine uU rfl fun Q hQ=> ?_
 unfold gI
 repeat' (first| (with_reducible first| (refine hK _ _ _ ?_;clear hK K)|refine Z1 ?_)| (with_reducible refine Y2 fun K hK=> ?_)<;>(simp only[go_sem])| ((with_reducible refine Y8 ?_);try simp only[AQ.then,AQ.blk,reduceIte,Nat.reduceEqDiff])|refine⟨by omega,?_⟩|fail)
 exact V4 hQ (dS []) _ rfl xG rfl rfl
theorem awA (h:K (dS []) H nx):aB Tryz.prog eS [.one (.c (.osl 0 0 0 0 0))] H nx K:=
 awB.azZ rfl ⟨afQ,trivial⟩ fun r hr=>hr▸h
theorem awW {m:List Rng} {s:TSt} {who:Int} {q:Req} {m0 m1 i0 i1 i2:Nat} (hm4:m.length<2^20) (hf:WK s.words s.holds) (hw:0≤who∧who≤2) (hq:dH q)
 (hlt:i0<nx∧i1<nx∧i2<nx) (hd:[i0,i1,i2].Nodup) (h0:H i0=some ⟨2,1,[[.osl 1 i1 0 64 64,.osl 1 i2 0 6 6]]⟩) (h1:H i1=some ⟨1,m0,s.words.map aJ⟩) (h2:H i2=some ⟨1,m1,s.holds.map aJ⟩)
 (h:K (dA (tG (doM m s.words s.holds who q).2)) (((H.set i0 ⟨2,1,[[.osl 1 i1 0 64 64,.osl 1 i2 0 6 6]]⟩).set i1 ⟨1,m0,(doM m s.words s.holds who q).1.1.map aJ⟩).set i2 ⟨1,m1,(doM m s.words s.holds who q).1.2.map aJ⟩) nx):aB Tryz.prog pL [dP 2 i0,dS (m.map eN),dI who,dA (eB q)] H nx K:=by
 have e1:=hf.wl
 have e2:=hf.hl
 exact awV (c0:=64) (c1:=6) hm4 hf (by omega) (by omega) hw hq hlt hd (by rw[e1,e2];exact h0) h1 h2 (by rw[e1,e2];exact h)
def az0 (b len cap:Nat) (w h:List Int) (l:List Job):aA:=if len=0 then hp [(b,⟨2,1,[[.osl 0 0 0 0 0,.osl 0 0 0 0 0]]⟩),(b+1,⟨2,1,[[.osl 1 (b+2) 0 64 64,.osl 1 (b+3) 0 6 6]]⟩),(b+2,⟨1,64,w.map aJ⟩),(b+3,⟨1,6,h.map aJ⟩)] else hp [(b,⟨2,1,[[.osl 0 0 0 0 0,.osl 0 0 0 0 0]]⟩),(b+1,⟨2,1,[[.osl 1 (b+2) 0 64 64,.osl 1 (b+3) 0 6 6]]⟩),(b+2,⟨1,64,w.map aJ⟩),(b+3,⟨1,6,h.map aJ⟩),(b+4,⟨5,cap,l.map aS⟩)]
theorem azK {b len cap:Nat} {w h:List Int} {l:List Job} (h0:len=0):az0 b len cap w h l=hp [(b,⟨2,1,[[.osl 0 0 0 0 0,.osl 0 0 0 0 0]]⟩),(b+1,⟨2,1,[[.osl 1 (b+2) 0 64 64,.osl 1 (b+3) 0 6 6]]⟩),(b+2,⟨1,64,w.map aJ⟩),(b+3,⟨1,6,h.map aJ⟩)]:=if_pos h0
theorem azE {b len cap:Nat} {w h:List Int} {l:List Job} (h0: ¬len=0):az0 b len cap w h l=hp [(b,⟨2,1,[[.osl 0 0 0 0 0,.osl 0 0 0 0 0]]⟩),(b+1,⟨2,1,[[.osl 1 (b+2) 0 64 64,.osl 1 (b+3) 0 6 6]]⟩),(b+2,⟨1,64,w.map aJ⟩),(b+3,⟨1,6,h.map aJ⟩),(b+4,⟨5,cap,l.map aS⟩)]:=if_neg h0
theorem axQ (c:Cfg) (es:List Ev) (hb:aQ c) (hcf:jO c) (hp:F9 c st0 es) (hlen:es.length≤108):aB Tryz.prog auL [dA (cU c),dS (es.map eEv)] .nil 0
 fun r _ n=>n=0∧r.imm=true∧r= .tup [.agg [.isl ((runM c st0 es).words.map aJ),.isl ((runM c st0 es).holds.map aJ)],.c (.isl ((av5 c es es.length).map aS))]:=by
 have hend:runM c st0 es=runM c st0 (es.take es.length):=by rw[List.take_length]
 rw[hend]
 have hS0: ∀{H:aA} {nx:Nat} {K:D→aA→Nat→Prop},K (dA [.osl 1 nx 0 64 64,.osl 1 (nx+1) 0 6 6]) ((H.set nx ⟨1,64,(runM c st0 (es.take 0)).words.map aJ⟩).set (nx+1) ⟨1,6,(runM c st0 (es.take 0)).holds.map aJ⟩) (nx+2)→aB Tryz.prog n8 [] H nx K:=fun h=>QG h
 have hSok:=ax6 hb (arF c) hp
 have hSw:=fun k (hk:k<es.length)=>hp k hk
 have hSs:=fun k (hk:k<es.length)=>azT (hp k hk)
 have hSt:=fun k (hk:k<es.length)=>av6 (c:=c) (s:=st0) hk
 have hO0:av5 c es 0=[]:=rfl
 have hOl:=azB (c:=c) (es:=es)
 have hOy:=fun k=>axY (c:=c) (es:=es) (k:=k)
 have hOn:=fun k=>axT (c:=c) (es:=es) (k:=k)
 obtain⟨S,hS⟩: ∃S:Nat→TSt,S=fun k=>runM c st0 (es.take k):=⟨_,rfl⟩
 have hSe: ∀k,runM c st0 (es.take k)=S k:=fun k=>by rw[hS]
 simp only[hSe] at*
 clear hS hSe hend
 generalize av5 c es=O at*
 obtain⟨hp3,hp12⟩:=hC hb
 have hmap:=hb.1.1
 refine axI rfl fun Q hQ=> ?_
 unfold avL
 repeat' (first| (with_reducible first| (refine hK _ _ _ ?_;clear hK K)| (refine hB ?_;clear hA hB A B)|refine Z1 ?_|refine Z2 ?_|refine Z3 fun KB hKB=> ?_|refine Z5 (by omega) ?_)| (first| (with_reducible first|refine Y2 fun K hK=> ?_|refine Y3 fun A B hA hB=> ?_)| (refine W6 hcf ?_)| (refine hS0 ?_))<;>(simp only[go_sem,eq_true hb])|fail)
 (have hKX:=hKB;clear hKB)
 refine aM.sG 5 (β:=Nat×Nat) (fun b u=>en [(22,dI u.1),(21,dI es.length),(20,dS (es.map eEv)),(7,aaT 5 (b+4) (O u.1).length u.2),(6,dP 2 (b+1)),(4,dP 2 b),(2,.one (.c (.fQ (cU c))))])
  (fun b u=>az0 b (O u.1).length u.2 (S u.1).words (S u.1).holds (O u.1)) (fun u=>u.1≤es.length∧(O u.1).length≤u.2) (fun u=>es.length-u.1) (0,0) (by
   rw[azK (by rw[hO0];rfl)]
   simp only[aaT,hO0,List.length_nil,if_true]
   unfold D1.nil
   (refine cR [1,12,14,15] (by omega) (by repeat' (first| (with_reducible first|exact C1|refine C2 ?_ ?_)| ((with_reducible refine C0 ?_);first|exact CC|exact CE (by omega) rfl)| ((with_reducible refine D0 ?_);first|exact CA rfl|exact CI rfl (by simp) rfl rfl rfl|refine CJ ?_)|fail)) ⟨⟨by simp,by simp[sgL],_,rfl,aP (by repeat' (first| (with_reducible first|exact C3|refine C4 ?_ ?_)| ((with_reducible refine C0 ?_);exact CC)|fail))⟩,⟨by simp,by simp[sgL],_,rfl,aP (by repeat' (first| (with_reducible first|exact C3|refine C4 ?_ ?_)| ((with_reducible refine C0 ?_);exact CQ (by omega) rfl rfl (by rfl) rfl)|fail))⟩,⟨by simp,by simp[sgL],_,rfl,bP (aG bF _) rfl rfl⟩,⟨by simp,by simp[sgL],_,rfl,bP (aG bF _) rfl rfl⟩,trivial⟩ (by simp[sgL]))) ⟨by omega,by rw[hO0];simp⟩ ?_
 rintro⟨k,cap⟩ ⟨hk,hc⟩ KL hKL
 dsimp only at hk hc
 have hol:=hOl k
 have hs:=hSok k hk
 have hat:=hs.atm
 have hwl:=hat.wl
 have hhl:=hat.hl
 have hdo:=fun {H:aA} {nx:Nat} {K:D→aA→Nat→Prop} {m:List Rng} {who:Int} {q:Req} {m0 m1 i0 i1 i2:Nat}=>awW (H:=H) (nx:=nx) (K:=K) (m:=m) (s:=S k) (who:=who) (q:=q) (m0:=m0) (m1:=m1) (i0:=i0) (i1:=i1) (i2:=i2)
 rcases Nat.eq_zero_or_pos (O k).length with h0|h0
 ·have hz:=List.length_eq_zero_iff.1 h0
  rw[azK h0]
  simp only[aaT,h0,if_true]
  unfold D1.nil
  by_cases hlt:k<es.length
  ·obtain⟨ho,-⟩:=M8 (hSw k hlt)
   have hrq:=GK hb ho
   have hs3:=hSt k hlt
   obtain⟨hs1,hs2⟩:=hSs k hlt
   have hyk:=hOy k
   have hnk:=hOn k
   have hb12:=hp12 (es.getD k default).who.toNat
   have hask:=eq_true ho
   obtain⟨ho1,ho2⟩:=ho
   by_cases hw:(es.getD k default).kind=2
   ·have hy:=hyk hw
    have hyl:=congrArg List.length hy
    rw[List.length_append,List.length_singleton] at hyl
    have hye:=congrArg (List.map aS) hy
    rw[List.map_append] at hye
    rw[if_pos hw] at hs1 hs2
    have hw1:(S (k+1)).words.map aJ=_:=congrArg (fun s:TSt=>s.words.map aJ) hs3
    have hw2:(S (k+1)).holds.map aJ=_:=congrArg (fun s:TSt=>s.holds.map aJ) hs3
    rw[hs1] at hw1
    rw[hs2] at hw2
    rw[hz,List.map_nil,List.nil_append] at hye
    repeat' (first| (with_reducible first| (refine hK _ _ _ ?_;clear hK K)| (refine hA ?_;clear hA hB A B)|refine Z1 ?_|refine Z2 ?_|refine Z3 fun KB hKB=> ?_|refine Z4 (by omega) ?_|refine fun(cap:Nat) (hcap:_≤cap)=> ?_|refine fun(hcp:_≤cap)=> ?_)| (first| (with_reducible first|refine Y2 fun K hK=> ?_|refine Y3 fun A B hA hB=> ?_)| (refine auJ hcf hp3 ?_)| (refine hdo (by omega) hat ho1 hrq (by omega) (by simp) rfl rfl rfl ?_))<;>(simp only[go_sem,hask,hw];try simp (disch:=omega) only[Iw])| ((with_reducible refine Y0 ?_);simp only[AQ.then,AQ.blk])|refine⟨by omega,?_⟩| (with_reducible refine hKB _ _ _ ?_)|fail)
    exact hKL _ _ _ (k+1,cap) (by omega) (by dsimp only;rw[azE (show ¬(O (k+1)).length=0 by omega)];simp only[aaT,show ¬(O (k+1)).length=0 by omega,if_false];(refine cR [20,21,22,23,63] (by omega) (by repeat' (first| (with_reducible first|exact C1|refine C2 ?_ ?_)| ((with_reducible refine C0 ?_);first|exact CQ (by omega) rfl rfl (by first|rfl|omega) rfl|exact CE (by omega) rfl)| ((with_reducible refine D0 ?_);first|exact CA rfl|refine CJ ?_)|fail)) ⟨⟨by simp,by simp[sgL],_,rfl,aP (by repeat' (first| (with_reducible first|exact C3|refine C4 ?_ ?_)| ((with_reducible refine C0 ?_);exact CC)|fail))⟩,⟨by simp,by simp[sgL],_,rfl,aP (by repeat' (first| (with_reducible first|exact C3|refine C4 ?_ ?_)| ((with_reducible refine C0 ?_);exact CQ (by omega) rfl rfl (by rfl) rfl)|fail))⟩,⟨by simp,by simp[sgL],_,rfl,bP (aG bF _) hw1 rfl⟩,⟨by simp,by simp[sgL],_,rfl,bP (aG bF _) hw2 rfl⟩,⟨by simp,by simp[sgL],_,rfl,bP (aG dZ _) hye rfl⟩,trivial⟩ (by simp[sgL]))) ⟨by dsimp only;omega,by dsimp only;omega⟩ (by dsimp only;omega)
   ·have hn:=hnk hw
    rw[if_neg hw] at hs1 hs2
    have hw1:(S (k+1)).words.map aJ=_:=congrArg (fun s:TSt=>s.words.map aJ) hs3
    have hw2:(S (k+1)).holds.map aJ=_:=congrArg (fun s:TSt=>s.holds.map aJ) hs3
    rw[hs1] at hw1
    rw[hs2] at hw2
    repeat' (first| (with_reducible first| (refine hK _ _ _ ?_;clear hK K)| (refine hA ?_;clear hA hB A B)| (refine hB ?_;clear hA hB A B)|refine Z1 ?_|refine Z2 ?_|refine Z3 fun KB hKB=> ?_|refine Z4 (by omega) ?_)| (with_reducible first|refine Y2 fun K hK=> ?_|refine Y3 fun A B hA hB=> ?_|refine Y5 (by omega) ?_)<;>(simp only[go_sem];try simp (disch:=omega) only[Iw])| ((with_reducible refine Y0 ?_);simp only[AQ.then,AQ.blk])|refine⟨by omega,?_⟩| (with_reducible refine hKB _ _ _ ?_)|fail)
    exact hKL _ _ _ (k+1,cap) (by omega) (by dsimp only;rw[azK (by rw[hn];exact h0)];simp only[aaT,hn,h0,if_true];unfold D1.nil;(refine cR [20,21,22,23] (by omega) (by repeat' (first| (with_reducible first|exact C1|refine C2 ?_ ?_)| ((with_reducible refine C0 ?_);first|exact CC|exact CE (by omega) rfl)| ((with_reducible refine D0 ?_);first|exact CA rfl|refine CJ ?_)|fail)) ⟨⟨by simp,by simp[sgL],_,rfl,aP (by repeat' (first| (with_reducible first|exact C3|refine C4 ?_ ?_)| ((with_reducible refine C0 ?_);exact CC)|fail))⟩,⟨by simp,by simp[sgL],_,rfl,aP (by repeat' (first| (with_reducible first|exact C3|refine C4 ?_ ?_)| ((with_reducible refine C0 ?_);exact CQ (by omega) rfl rfl (by rfl) rfl)|fail))⟩,⟨by simp,by simp[sgL],_,rfl,bP (aG bF _) hw1 rfl⟩,⟨by simp,by simp[sgL],_,rfl,bP (aG bF _) hw2 rfl⟩,trivial⟩ (by simp[sgL]))) ⟨by dsimp only;omega,by dsimp only;rw[hn];omega⟩ (by dsimp only;omega)
  ·have hk2:k=es.length:=by omega
   subst hk2
   repeat' (first| (with_reducible first| (refine hK _ _ _ ?_;clear hK K)| (refine hB ?_;clear hA hB A B)|refine Z1 ?_|refine Z5 (by omega) ?_|refine hKX _ _ _ ?_)| (first| (with_reducible first|refine Y2 fun K hK=> ?_|refine Y3 fun A B hA hB=> ?_)| (with_reducible refine awA ?_))<;>(simp only[go_sem])| ((with_reducible first|refine Y8 ?_|refine Y9 ?_);try simp only[AQ.then,AQ.blk,reduceIte,Nat.reduceEqDiff])|fail)
   rw[hz] at hQ
   exact V4 hQ (.tup [.agg [.isl ((S es.length).words.map aJ),.isl ((S es.length).holds.map aJ)],.c (.isl (([]:List Job).map aS))]) _ rfl (ay7 (ayY (aH (bW bF rfl hwl.symm (by omega) trivial) (aH (bW bF rfl hhl.symm (by omega) trivial) eP))) (azN (bB rfl))) rfl rfl
 ·rw[azE (show ¬(O k).length=0 by omega)]
  simp only[aaT,show ¬(O k).length=0 by omega,if_false]
  by_cases hlt:k<es.length
  ·obtain⟨ho,-⟩:=M8 (hSw k hlt)
   have hrq:=GK hb ho
   have hs3:=hSt k hlt
   obtain⟨hs1,hs2⟩:=hSs k hlt
   have hyk:=hOy k
   have hnk:=hOn k
   have hb12:=hp12 (es.getD k default).who.toNat
   have hask:=eq_true ho
   obtain⟨ho1,ho2⟩:=ho
   by_cases hw:(es.getD k default).kind=2
   ·have hy:=hyk hw
    have hyl:=congrArg List.length hy
    rw[List.length_append,List.length_singleton] at hyl
    have hye:=congrArg (List.map aS) hy
    rw[List.map_append] at hye
    rw[if_pos hw] at hs1 hs2
    have hw1:(S (k+1)).words.map aJ=_:=congrArg (fun s:TSt=>s.words.map aJ) hs3
    have hw2:(S (k+1)).holds.map aJ=_:=congrArg (fun s:TSt=>s.holds.map aJ) hs3
    rw[hs1] at hw1
    rw[hs2] at hw2
    repeat' (first| (with_reducible first| (refine hK _ _ _ ?_;clear hK K)| (refine hA ?_;clear hA hB A B)|refine Z1 ?_|refine Z2 ?_|refine Z3 fun KB hKB=> ?_|refine Z4 (by omega) ?_|refine fun(cap:Nat) (hcap:_≤cap)=> ?_|refine fun(hcp:_≤cap)=> ?_)| (first| (with_reducible first|refine Y2 fun K hK=> ?_|refine Y3 fun A B hA hB=> ?_)| (refine auJ hcf hp3 ?_)| (refine hdo (by omega) hat ho1 hrq (by omega) (by simp) rfl rfl rfl ?_))<;>(simp only[go_sem,hask,hw];try simp (disch:=omega) only[Iw])| ((with_reducible refine Y0 ?_);simp only[AQ.then,AQ.blk])|refine⟨by omega,?_⟩| (with_reducible refine hKB _ _ _ ?_)|fail)
    exact hKL _ _ _ (k+1,cap) (by omega) (by dsimp only;rw[azE (show ¬(O (k+1)).length=0 by omega)];simp only[aaT,show ¬(O (k+1)).length=0 by omega,if_false];(refine cR [20,21,22,23,63] (by omega) (by repeat' (first| (with_reducible first|exact C1|refine C2 ?_ ?_)| ((with_reducible refine C0 ?_);first|exact CQ (by omega) rfl rfl (by first|rfl|omega) rfl|exact CE (by omega) rfl)| ((with_reducible refine D0 ?_);first|exact CA rfl|refine CJ ?_)|fail)) ⟨⟨by simp,by simp[sgL],_,rfl,aP (by repeat' (first| (with_reducible first|exact C3|refine C4 ?_ ?_)| ((with_reducible refine C0 ?_);exact CC)|fail))⟩,⟨by simp,by simp[sgL],_,rfl,aP (by repeat' (first| (with_reducible first|exact C3|refine C4 ?_ ?_)| ((with_reducible refine C0 ?_);exact CQ (by omega) rfl rfl (by rfl) rfl)|fail))⟩,⟨by simp,by simp[sgL],_,rfl,bP (aG bF _) hw1 rfl⟩,⟨by simp,by simp[sgL],_,rfl,bP (aG bF _) hw2 rfl⟩,⟨by simp,by simp[sgL],_,rfl,bP (aG dZ _) hye rfl⟩,trivial⟩ (by simp[sgL]))) ⟨by dsimp only;omega,by dsimp only;omega⟩ (by dsimp only;omega)
   ·have hn:=hnk hw
    rw[if_neg hw] at hs1 hs2
    have hw1:(S (k+1)).words.map aJ=_:=congrArg (fun s:TSt=>s.words.map aJ) hs3
    have hw2:(S (k+1)).holds.map aJ=_:=congrArg (fun s:TSt=>s.holds.map aJ) hs3
    rw[hs1] at hw1
    rw[hs2] at hw2
    repeat' (first| (with_reducible first| (refine hK _ _ _ ?_;clear hK K)| (refine hA ?_;clear hA hB A B)| (refine hB ?_;clear hA hB A B)|refine Z1 ?_|refine Z2 ?_|refine Z3 fun KB hKB=> ?_|refine Z4 (by omega) ?_)| (with_reducible first|refine Y2 fun K hK=> ?_|refine Y3 fun A B hA hB=> ?_|refine Y5 (by omega) ?_)<;>(simp only[go_sem];try simp (disch:=omega) only[Iw])| ((with_reducible refine Y0 ?_);simp only[AQ.then,AQ.blk])|refine⟨by omega,?_⟩| (with_reducible refine hKB _ _ _ ?_)|fail)
    exact hKL _ _ _ (k+1,cap) (by omega) (by dsimp only;rw[azE (by rw[hn];omega)];simp only[aaT,hn,show ¬(O k).length=0 by omega,if_false];(refine cR [20,21,22,23,24] (by omega) (by repeat' (first| (with_reducible first|exact C1|refine C2 ?_ ?_)| ((with_reducible refine C0 ?_);first|exact CQ (by omega) rfl rfl (by rfl) rfl|exact CE (by omega) rfl)| ((with_reducible refine D0 ?_);first|exact CA rfl|refine CJ ?_)|fail)) ⟨⟨by simp,by simp[sgL],_,rfl,aP (by repeat' (first| (with_reducible first|exact C3|refine C4 ?_ ?_)| ((with_reducible refine C0 ?_);exact CC)|fail))⟩,⟨by simp,by simp[sgL],_,rfl,aP (by repeat' (first| (with_reducible first|exact C3|refine C4 ?_ ?_)| ((with_reducible refine C0 ?_);exact CQ (by omega) rfl rfl (by rfl) rfl)|fail))⟩,⟨by simp,by simp[sgL],_,rfl,bP (aG bF _) hw1 rfl⟩,⟨by simp,by simp[sgL],_,rfl,bP (aG bF _) hw2 rfl⟩,⟨by simp,by simp[sgL],_,rfl,bP (aG dZ _) rfl rfl⟩,trivial⟩ (by simp[sgL]))) ⟨by dsimp only;omega,by dsimp only;rw[hn];omega⟩ (by dsimp only;omega)
  ·have hk2:k=es.length:=by omega
   subst hk2
   repeat' (first| (with_reducible first| (refine hK _ _ _ ?_;clear hK K)| (refine hB ?_;clear hA hB A B)|refine Z1 ?_|refine Z5 (by omega) ?_|refine hKX _ _ _ ?_)| (first| (with_reducible first|refine Y2 fun K hK=> ?_|refine Y3 fun A B hA hB=> ?_)| (refine vN (by omega) hc (by omega) rfl ?_))<;>(simp only[go_sem])| ((with_reducible first|refine Y8 ?_|refine Y9 ?_);try simp only[AQ.then,AQ.blk,reduceIte,Nat.reduceEqDiff])|fail)
   exact V4 hQ (.tup [.agg [.isl ((S es.length).words.map aJ),.isl ((S es.length).holds.map aJ)],.c (.isl ((O es.length).map aS))]) _ rfl (ay7 (ayY (aH (bW bF rfl hwl.symm (by omega) trivial) (aH (bW bF rfl hhl.symm (by omega) trivial) eP))) (azN (bW dZ rfl rfl (by omega) trivial))) rfl rfl
theorem axP {c:Cfg} {es:List Ev} (hb:aQ c) (hcf:jO c) (hp:F9 c st0 es) (hlen:es.length≤108) (h:K (.tup [.agg [.isl ((runM c st0 es).words.map aJ),.isl ((runM c st0 es).holds.map aJ)],.c (.isl ((av5 c es es.length).map aS))]) H nx):aB Tryz.prog auL [dA (cU c),dS (es.map eEv)] H nx K:=
 (axQ c es hb hcf hp hlen).fresh rfl fun r hr=>hr▸h
end
end Go.Proofs.YtegiblhkjfiooaaGreat
end
section
namespace Go.Proofs.YtegiblhkjfiooaaGreat
open Go Go.AM
set_option maxRecDepth 100000
def xO:AC:=
 (.seq (.region [rq 0 4 (.move (.kv (.bool false)))] 1 [0,1])
 (.seq (.seq (.region [RM 0 6 0,
 rq 1 7 (.len false (.tm 6)),
 RM 2 8 1,
 rq 3 9 (.len false (.tm 8)),
 rq 4 10 (.bin .neq (.tm 7) (.tm 9))] 5 [0,1,10])
 (.cond (.tm 10)
 (.seq (.region [rq 0 4 (.move (.kv (.bool false)))] 1 [4])
 .ret)
 .skip))
 (.seq (.seq (.region [rq 0 5 (.move (ki 0))] 1 [0,1,5])
 (.block 0
 (.loop
 (.seq (.seq (.region [RM 0 11 5,
 RM 1 12 0,
 rq 2 13 (.len false (.tm 12)),
 rq 3 14 (.bin .lss (.tm 11) (.tm 13))] 4 [0,1,5,14])
 (.cond (.tm 14)
 .skip
 (.exit 0)))
 (.seq (.block 1
 (.seq (.region [RM 0 17 0,
 RM 1 18 5,
 rq 2 19 (.idx 1 (.tm 17) (.tm 18)),
 RL 3 20 19,
 RM 4 21 1,
 RM 5 22 5,
 rq 6 23 (.idx 1 (.tm 21) (.tm 22)),
 RL 7 24 23,
 rq 8 25 (.bin .neq (.tm 20) (.tm 24))] 9 [0,1,5,25])
 (.cond (.tm 25)
 (.seq (.region [rq 0 4 (.move (.kv (.bool false)))] 1 [4])
 .ret)
 .skip)))
 (.region [RM 0 15 5,
 rq 1 16 (.bin .add (.tm 15) (ki 1)),
 RM 2 5 16] 3 [0,1,5]))))))
 (.seq (.region [rq 0 4 (.move (.kv (.bool true)))] 1 [4])
 .ret))))
def P9:List Cert:=[⟨[],[0,1]⟩,⟨[],[0,1,10]⟩,⟨[],[4]⟩,⟨[],[0,1,5]⟩,⟨[],[0,1,5,14]⟩,⟨[cz 0,cz 1,cz 2,cz 3,cz 4,cz 5,cz 6,cz 7,cz 8],[0,1,5,25]⟩,⟨[],[4]⟩,⟨[],[0,1,5]⟩,⟨[],[4]⟩]
def GS:List aW:=[.tm 4]
theorem P1:aO Tryz.prog Tryz.f19 P9=some (xO,GS):=by kernel_rfl
theorem SU:aN Tryz.prog jM Tryz.f19 xO GS:=
 aN.mk Tryz.func19 (by kernel_rfl) P1
end Go.Proofs.YtegiblhkjfiooaaGreat
end
section
namespace Go.Proofs.YtegiblhkjfiooaaGreat
open Go Go.AM
set_option maxRecDepth 100000
def AT:AC:=
 (.seq (.region [rq 0 2 (.box true (.tm 0)),
 rq 1 3 (.box true (.tm 1)),
 rq 2 4 (.move (.kv (.bool false)))] 3 [2,3])
 (.seq (.region [RF 0 5 0 2,
 RL 1 6 5,
 RF 2 7 0 3,
 RL 3 8 7,
 rq 4 9 (.bin .eql (.tm 6) (.tm 8)),
 RM 5 10 9,
 GQ 6 11 (.fld 1 (.tm 2)) 10 true,
 GQ 7 12 (.load 1 false (.tm 11)) 10 true,
 GQ 8 13 (.fld 1 (.tm 3)) 10 true,
 GQ 9 14 (.load 1 false (.tm 13)) 10 true,
 GQ 10 15 (.bin .eql (.tm 12) (.tm 14)) 10 true,
 rq 11 16 (.pick (.tm 10) (.tm 15) (.kv (.bool false))),
 RM 12 17 16,
 GQ 13 18 (.fld 2 (.tm 2)) 17 true,
 GQ 14 19 (.load 1 false (.tm 18)) 17 true,
 GQ 15 20 (.fld 2 (.tm 3)) 17 true,
 GQ 16 21 (.load 1 false (.tm 20)) 17 true,
 GQ 17 22 (.call jM [(.tm 19),(.tm 21)]) 17 true,
 rq 18 23 (.pick (.tm 17) (.tm 22) (.kv (.bool false))),
 RM 19 4 23] 20 [4])
 .ret))
def T1:List Cert:=[⟨[],[2,3]⟩,⟨[],[4]⟩]
def II:List aW:=[.tm 4]
theorem U0:aO Tryz.prog Tryz.f84 T1=some (AT,II):=by kernel_rfl
theorem UL:aN Tryz.prog qO Tryz.f84 AT II:=
 aN.mk Tryz.func84 (by kernel_rfl) U0
end Go.Proofs.YtegiblhkjfiooaaGreat
end
section
namespace Go.Proofs.YtegiblhkjfiooaaGreat
open Go Go.AM
set_option maxRecDepth 100000
def xT:AC:=
 (.seq (.region [rq 0 4 (.move (.kv (.bool false)))] 1 [0,1])
 (.seq (.seq (.region [RM 0 6 0,
 rq 1 7 (.len false (.tm 6)),
 RM 2 8 1,
 rq 3 9 (.len false (.tm 8)),
 rq 4 10 (.bin .neq (.tm 7) (.tm 9))] 5 [0,1,10])
 (.cond (.tm 10)
 (.seq (.region [rq 0 4 (.move (.kv (.bool false)))] 1 [4])
 .ret)
 .skip))
 (.seq (.seq (.region [rq 0 5 (.move (ki 0))] 1 [0,1,5])
 (.block 0
 (.loop
 (.seq (.seq (.region [RM 0 11 5,
 RM 1 12 0,
 rq 2 13 (.len false (.tm 12)),
 rq 3 14 (.bin .lss (.tm 11) (.tm 13))] 4 [0,1,5,14])
 (.cond (.tm 14)
 .skip
 (.exit 0)))
 (.seq (.block 1
 (.seq (.region [RM 0 17 0,
 RM 1 18 5,
 rq 2 19 (.idx 5 (.tm 17) (.tm 18)),
 RF 3 20 0 19,
 RL 4 21 20,
 RM 5 22 1,
 RM 6 23 5,
 rq 7 24 (.idx 5 (.tm 22) (.tm 23)),
 RF 8 25 0 24,
 RL 9 26 25,
 rq 10 27 (.bin .neq (.tm 21) (.tm 26)),
 RM 11 28 27,
 GQ 12 29 (.move (.tm 0)) 28 false,
 GQ 13 30 (.move (.tm 5)) 28 false,
 GQ 14 31 (.idx 5 (.tm 29) (.tm 30)) 28 false,
 GQ 15 32 (.fld 1 (.tm 31)) 28 false,
 GQ 16 33 (.load 1 false (.tm 32)) 28 false,
 GQ 17 34 (.move (.tm 1)) 28 false,
 GQ 18 35 (.move (.tm 5)) 28 false,
 GQ 19 36 (.idx 5 (.tm 34) (.tm 35)) 28 false,
 GQ 20 37 (.fld 1 (.tm 36)) 28 false,
 GQ 21 38 (.load 1 false (.tm 37)) 28 false,
 GQ 22 39 (.bin .neq (.tm 33) (.tm 38)) 28 false,
 rq 23 40 (.pick (.tm 28) (.kv (.bool true)) (.tm 39)),
 RM 24 41 40,
 GQ 25 42 (.move (.tm 0)) 41 false,
 GQ 26 43 (.move (.tm 5)) 41 false,
 GQ 27 44 (.idx 5 (.tm 42) (.tm 43)) 41 false,
 GQ 28 45 (.fld 2 (.tm 44)) 41 false,
 GQ 29 46 (.load 3 true (.tm 45)) 41 false,
 GQ 30 47 (.move (.tm 1)) 41 false,
 GQ 31 48 (.move (.tm 5)) 41 false,
 GQ 32 49 (.idx 5 (.tm 47) (.tm 48)) 41 false,
 GQ 33 50 (.fld 2 (.tm 49)) 41 false,
 GQ 34 51 (.load 3 true (.tm 50)) 41 false,
 GQ 35 52 (.call qO [(.tm 46),(.tm 51)]) 41 false,
 GQ 36 53 (.un .not (.tm 52)) 41 false,
 rq 37 54 (.pick (.tm 41) (.kv (.bool true)) (.tm 53))] 38 [0,1,5,54])
 (.cond (.tm 54)
 (.seq (.region [rq 0 4 (.move (.kv (.bool false)))] 1 [4])
 .ret)
 .skip)))
 (.region [RM 0 15 5,
 rq 1 16 (.bin .add (.tm 15) (ki 1)),
 RM 2 5 16] 3 [0,1,5]))))))
 (.seq (.region [rq 0 4 (.move (.kv (.bool true)))] 1 [4])
 .ret))))
def R3:List Cert:=[⟨[],[0,1]⟩,⟨[],[0,1,10]⟩,⟨[],[4]⟩,⟨[],[0,1,5]⟩,⟨[],[0,1,5,14]⟩,⟨[cz 0,cz 1,cz 2,cz 3,cz 4,cz 5,cz 6,cz 7,cz 8,cz 9,cz 10,cz 11,cz 12,cz 13,cz 14,cz 15,cz 16,cz 17,cz 18,cz 19,cz 20,cz 21,cz 22,cz 23,cz 24,cz 25,cz 26,cz 27,cz 28,cz 29,cz 30,cz 31,cz 32,cz 33,cz 34,cz 35,cz 36,cz 37],[0,1,5,54]⟩,⟨[],[4]⟩,⟨[],[0,1,5]⟩,⟨[],[4]⟩]
def FA:List aW:=[.tm 4]
theorem RZ:aO Tryz.prog Tryz.f35 R3=some (xT,FA):=by kernel_rfl
theorem RW:aN Tryz.prog jN Tryz.f35 xT FA:=
 aN.mk Tryz.func35 (by kernel_rfl) RZ
end Go.Proofs.YtegiblhkjfiooaaGreat
end
