/- Texts laid together by a program: rules, contracts and the walk that leads to the law. -/
import Derived.Test.YtegiblhkjfiooaaGreatPy11
import Derived.Test.YtegiblhkjfiooaaGreatPy8
import Derived.Test.YtegiblhkjfiooaaGreatPy10
import Derived.Test.YtegiblhkjfiooaaGreatPy4
set_option linter.unusedVariables false
set_option linter.unusedSimpArgs false
set_option linter.unusedSectionVars false
section
namespace Go.Proofs.YtegiblhkjfiooaaGreat
open Go Go.AM
set_option maxRecDepth 100000
set_option maxHeartbeats 4000000
section
variable {H : aA} {nx : Nat} {K : D → aA → Nat → Prop}
theorem aeU (old new lanes:Int) (h1:0≤old∧old≤65535) (h2:0≤new∧new≤65535) (h3:0≤lanes∧lanes≤3):aB Tryz.prog DA [dI old,dI new,dI lanes] .nil 0 fun rr _ _=>rr.plain=true∧rr=dI (xZ old new lanes):=by
 refine ZG rfl fun Q hQ=> ?_
 unfold GM
 have hc:lanes=0∨lanes=1∨lanes=2∨lanes=3:=by omega
 rcases hc with rfl|rfl|rfl|rfl
 all_goals repeat' (first| (with_reducible first| (refine hK _ _ _ ?_;clear hK K)|refine Z1 ?_)| (with_reducible refine Y2 fun K hK=> ?_)<;>(simp only[go_sem])| ((with_reducible refine Y8 ?_);try simp only[AQ.then,AQ.blk,reduceIte,Nat.reduceEqDiff])|fail)
 ·exact aZ hQ (dI (aeN old new (aaU 0))) rfl rfl (qA (by rw[arC];exact PW h1 h2 (by omega)))
 ·exact aZ hQ (dI (aeN old new (aaU 1))) rfl rfl (qA (by rw[aqD];exact PW h1 h2 (by omega)))
 ·exact aZ hQ (dI (aeN old new (aaU 2))) rfl rfl (qA (by rw[arO];exact PW h1 h2 (by omega)))
 ·exact aZ hQ (dI (aeN old new (aaU 3))) rfl rfl (qA (by rw[arA];exact PW h1 h2 (by omega)))
theorem ae5 {old:Int} {new:Int} {lanes:Int} (h1:0≤old∧old≤65535) (h2:0≤new∧new≤65535) (h3:0≤lanes∧lanes≤3) (h:K (dI (xZ old new lanes)) H nx):aB Tryz.prog DA [dI old,dI new,dI lanes] H nx K:=
 (aeU old new lanes h1 h2 h3).pure rfl (aI ⟨aE rfl,aE rfl,aE rfl,trivial⟩) (fun r hr=>hr▸h)
theorem aqI {w all:List Int}:(List.range all.length).map (fun k=>w.getD (all.getD k default).toNat default)=all.map fun a=>w.getD a.toNat default:=by
 apply List.ext_getElem
 ·simp
 ·intro i h1 h2
  simp only[List.length_map] at h2
  simp[List.getD,h2]
theorem aw7 (m:List Rng) (s:TSt) (who:Int) (q:Req) (c0 c1 c2 c3 c4 c5 m0 m1:Nat) (o3 o4 o5 o6:bA) (hm4:m.length<2^20) (hf:WK s.words s.holds) (hc0:s.words.length≤c0) (hc1:s.holds.length≤c1) (hw:0≤who∧who≤2) (hq:dH q) (hi3:C7 o3) (hi4:C7 o4) (hi5:C7 o5) (hi6:C7 o6):
 aB Tryz.prog pL [dP 6 0,dS (m.map eN),dI who,dA (eB q)] (hp [(0,⟨6,1,[oIm 1 2 3 4 5 6 c0 c1 c2 c3 c4 c5 s]⟩),(1,⟨1,m0,(s.words).map aJ⟩),(2,⟨1,m1,(s.holds).map aJ⟩),(3,o3),(4,o4),(5,o5),(6,o6)]) 7
 fun r H' n'=>n'=7∧H'=hp [(0,⟨6,1,[oIm 1 2 3 4 5 6 c0 c1 c2 c3 c4 c5 s]⟩),(1,⟨1,m0,((doM m s.words s.holds who q).1.1).map aJ⟩),(2,⟨1,m1,((doM m s.words s.holds who q).1.2).map aJ⟩),(3,o3),(4,o4),(5,o5),(6,o6)]∧r=dA (tG (doM m s.words s.holds who q).2):=by
 obtain⟨hwl,hwr,hsl,hsr⟩:=hf
 obtain⟨hq1,hq2,hq3,hq4,hq5,hq6,hq7,hq8⟩:=hq
 have hbl:=DF hq3
 have hbp:=ai5 hq3
 have hb4:=MK (addr:=q.addr) (many:=q.many) (wrap:=q.wrap)
 have hbi:All (bE q.addr q.many q.wrap) 0 63:=V1
 have hlt:=PQ (p:=(inR · ((bE q.addr q.many q.wrap).getD 0 default))) (l:=m)
 have hwh:bV m (bE q.addr q.many q.wrap)<m.length:=by unfold bV;grind
 have hdl:wrM q=true→q.data.length=(bE q.addr q.many q.wrap).length∧q.lanes.length=(bE q.addr q.many q.wrap).length:=by
  intro h;unfold wrM at h;unfold n5 at hq4 hq5;simp at h;simp only[h,if_true] at hq4 hq5;omega
 have hwi:=W4 (q:=q)
 refine avS rfl fun Q hQ=> ?_
 unfold nS
 generalize hall:bE q.addr q.many q.wrap=all at*
 have hwo: ∀{H:aA} {nx:Nat} {K:D→aA→Nat→Prop},K (dI (bV m all)) H nx→aB Tryz.prog mZ [dS (m.map eN),dA (eB q)] H nx K:=fun h=>KD (by omega) (by rw[hall];exact h)
 have hbu: ∀{H:aA} {nx:Nat} {K:D→aA→Nat→Prop},K (dS (all.map aJ)) H nx→aB Tryz.prog fP [dA (eB q)] H nx K:=fun h=>vY (by rw[hall];exact h)
 by_cases h1:bV m all<0
 ·rw[alZ (by rw[hall];exact h1)] at hQ
  simp only[oIm]
  repeat' (first| (with_reducible first| (refine hK _ _ _ ?_;clear hK K)| (refine hA ?_;clear hA hB A B)|refine Z1 ?_|refine Z3 fun KB hKB=> ?_|refine Z4 (by omega) ?_)| (first| (with_reducible first|refine Y2 fun K hK=> ?_|refine Y3 fun A B hA hB=> ?_)| (with_reducible refine hwo ?_))<;>(simp only[go_sem];try simp (disch:=omega) only[Iw])| ((with_reducible refine Y8 ?_);try simp only[AQ.then,AQ.blk,reduceIte,Nat.reduceEqDiff])|refine⟨by omega,?_⟩|fail)
  (refine hQ _ _ _ _ _ 7 (dA (tG ⟨q.id,4,[]⟩)) (hp [(0,⟨6,1,[oIm 1 2 3 4 5 6 c0 c1 c2 c3 c4 c5 s]⟩),(1,⟨1,m0,(s.words).map aJ⟩),(2,⟨1,m1,(s.holds).map aJ⟩),(3,o3),(4,o4),(5,o5),(6,o6)]) _ _ (.inr rfl) rfl (fU [0,1,2,3,4,5,6] (by omega) (by repeat' (first| ((with_reducible refine C0 ?_);first|exact CB rfl|exact CF)| ((with_reducible refine D0 ?_);refine C9 ?_)|exact C3|refine C4 ?_ ?_|fail)) ⟨⟨by simp,by simp[sgL],_,rfl,aP (by repeat' (first| (with_reducible first|exact C3|refine C4 ?_ ?_)| ((with_reducible refine C0 ?_);exact CQ (by omega) rfl rfl (by rfl) rfl)|refine C4 ?_ ?_|fail))⟩,⟨by simp,by simp[sgL],_,rfl,bP (aG bF _) rfl rfl⟩,⟨by simp,by simp[sgL],_,rfl,bP (aG bF _) rfl rfl⟩,⟨by simp,by simp[sgL],_,rfl,bS hi3⟩,⟨by simp,by simp[sgL],_,rfl,bS hi4⟩,⟨by simp,by simp[sgL],_,rfl,bS hi5⟩,⟨by simp,by simp[sgL],_,rfl,bS hi6⟩,trivial⟩ (by simp[sgL])) ?_)
  exact⟨rfl,rfl,rfl⟩
 have h1': ¬bV m (bE q.addr q.many q.wrap)<0:=by rw[hall];exact h1
 by_cases h2:wrM q=true
 ·obtain⟨hd1,hd2⟩:=hdl h2
  by_cases h3:(m.getD (bV m all).toNat default).only=true
  ·rw[anB h1' h2 (by rw[hall];exact h3)] at hQ
   simp only[oIm]
   repeat' (first| (with_reducible first| (refine hK _ _ _ ?_;clear hK K)| (refine hA ?_;clear hA hB A B)| (refine hB ?_;clear hA hB A B)|refine Z1 ?_|refine Z3 fun KB hKB=> ?_|refine Z5 (by omega) ?_)| (first| (with_reducible first|refine Y2 fun K hK=> ?_|refine Y3 fun A B hA hB=> ?_)| (with_reducible refine hwo ?_)| (with_reducible refine gH ?_))<;>(simp only[go_sem,h2,h3];try simp (disch:=omega) only[Iw])| ((with_reducible refine Y8 ?_);try simp only[AQ.then,AQ.blk,reduceIte,Nat.reduceEqDiff])|refine⟨by omega,?_⟩|fail)
   (refine hQ _ _ _ _ _ 7 (dA (tG ⟨q.id,3,[]⟩)) (hp [(0,⟨6,1,[oIm 1 2 3 4 5 6 c0 c1 c2 c3 c4 c5 s]⟩),(1,⟨1,m0,(s.words).map aJ⟩),(2,⟨1,m1,(s.holds).map aJ⟩),(3,o3),(4,o4),(5,o5),(6,o6)]) _ _ (.inr rfl) rfl (fU [0,1,2,3,4,5,6] (by omega) (by repeat' (first| ((with_reducible refine C0 ?_);first|exact CB rfl|exact CF)| ((with_reducible refine D0 ?_);refine C9 ?_)|exact C3|refine C4 ?_ ?_|fail)) ⟨⟨by simp,by simp[sgL],_,rfl,aP (by repeat' (first| (with_reducible first|exact C3|refine C4 ?_ ?_)| ((with_reducible refine C0 ?_);exact CQ (by omega) rfl rfl (by rfl) rfl)|refine C4 ?_ ?_|fail))⟩,⟨by simp,by simp[sgL],_,rfl,bP (aG bF _) rfl rfl⟩,⟨by simp,by simp[sgL],_,rfl,bP (aG bF _) rfl rfl⟩,⟨by simp,by simp[sgL],_,rfl,bS hi3⟩,⟨by simp,by simp[sgL],_,rfl,bS hi4⟩,⟨by simp,by simp[sgL],_,rfl,bS hi5⟩,⟨by simp,by simp[sgL],_,rfl,bS hi6⟩,trivial⟩ (by simp[sgL])) ?_)
   exact⟨rfl,rfl,rfl⟩
  have h3': ¬(m.getD (bV m (bE q.addr q.many q.wrap)).toNat default).only=true:=by rw[hall];exact h3
  have h3f:(m.getD (bV m all).toNat default).only=false:=by simpa using h3
  by_cases h4:q.kind=4∧ ¬s.holds.getD (who*2+q.id).toNat default=q.addr
  ·rw[aqU h1' h3' h4.1 h4.2] at hQ
   have h41:=h4.1
   have h42:=h4.2
   simp only[oIm]
   repeat' (first| (with_reducible first| (refine hK _ _ _ ?_;clear hK K)| (refine hA ?_;clear hA hB A B)| (refine hB ?_;clear hA hB A B)|refine Z1 ?_|refine Z3 fun KB hKB=> ?_|refine Z4 (by omega) ?_|refine Z5 (by omega) ?_)| (first| (with_reducible first|refine Y2 fun K hK=> ?_|refine Y3 fun A B hA hB=> ?_|refine Y4 (by omega) ?_)| (with_reducible refine hwo ?_)| (with_reducible refine gH ?_))<;>(simp only[go_sem,h2,h3f];try simp (disch:=omega) only[Iw])| ((with_reducible refine Y8 ?_);try simp only[AQ.then,AQ.blk,reduceIte,Nat.reduceEqDiff])|refine⟨by omega,?_⟩|fail)
   (refine hQ _ _ _ _ _ 7 (dA (tG ⟨q.id,1,[]⟩)) (hp [(0,⟨6,1,[oIm 1 2 3 4 5 6 c0 c1 c2 c3 c4 c5 s]⟩),(1,⟨1,m0,(s.words).map aJ⟩),(2,⟨1,m1,(s.holds).map aJ⟩),(3,o3),(4,o4),(5,o5),(6,o6)]) _ _ (.inr rfl) rfl (fU [0,1,2,3,4,5,6] (by omega) (by repeat' (first| ((with_reducible refine C0 ?_);first|exact CB rfl|exact CF)| ((with_reducible refine D0 ?_);refine C9 ?_)|exact C3|refine C4 ?_ ?_|fail)) ⟨⟨by simp,by simp[sgL],_,rfl,aP (by repeat' (first| (with_reducible first|exact C3|refine C4 ?_ ?_)| ((with_reducible refine C0 ?_);exact CQ (by omega) rfl rfl (by rfl) rfl)|refine C4 ?_ ?_|fail))⟩,⟨by simp,by simp[sgL],_,rfl,bP (aG bF _) rfl rfl⟩,⟨by simp,by simp[sgL],_,rfl,bP (aG bF _) rfl rfl⟩,⟨by simp,by simp[sgL],_,rfl,bS hi3⟩,⟨by simp,by simp[sgL],_,rfl,bS hi4⟩,⟨by simp,by simp[sgL],_,rfl,bS hi5⟩,⟨by simp,by simp[sgL],_,rfl,bS hi6⟩,trivial⟩ (by simp[sgL])) ?_)
   exact⟨rfl,rfl,rfl⟩
  obtain⟨code,hcode⟩: ∃code:Int,code=if q.kind=4 then 2 else 1:=⟨_,rfl⟩
  have hD:doM m s.words s.holds who q=((FV s.words all q.data q.lanes all.length,iU s.holds all),⟨q.id,code,[]⟩):=by
   rcases hwi.1 h2 with hk|hk
   ·rw[ao1 h1' h3' hk,hall,hcode,if_neg (by omega)]
   ·rw[aoE h1' h3' hk (Classical.byContradiction fun hc=>h4 ⟨hk,hc⟩),hall,hcode,if_pos hk]
  rw[hD] at hQ
  simp only[oIm]
  have hk24:=hwi.1 h2
  repeat' (first| (with_reducible first| (refine hK _ _ _ ?_;clear hK K)| (refine hA ?_;clear hA hB A B)| (refine hB ?_;clear hA hB A B)|refine Z1 ?_|refine Z2 ?_|refine Z3 fun KB hKB=> ?_|refine Z4 (by omega) ?_|refine Z5 (by omega) ?_)| (first| (with_reducible first|refine Y2 fun K hK=> ?_|refine Y3 fun A B hA hB=> ?_|refine Y6 (fun h=> ?_) fun h=> ?_)| (with_reducible refine hwo ?_)| (with_reducible refine hbu ?_)| (with_reducible refine gH ?_))<;>(simp only[go_sem,h2,h3f];try simp (disch:=omega) only[Iw])| ((with_reducible refine Y0 ?_);simp only[AQ.then,AQ.blk])|refine⟨by omega,?_⟩| (with_reducible refine hKB _ _ _ ?_)|fail)
  all_goals
   have hcd:(code=2∧q.kind=4)∨(code=1∧ ¬q.kind=4):=by rw[hcode];split<;>simp[*]
   have hl2: ∀n:Int,code=n→D1.v (Value.int IntKind.i64 n)=cI code:=fun n hn=>by rw[hn]
   first|rw[hl2 2 (by omega)]|rw[hl2 1 (by omega)]|fail
   (have hKX:=hKB;clear hKB)
   refine aM.sG 0 (β:=Nat) (fun b k=>en [(109,dI k),(108,dI all.length),(107,dS (all.map aJ)),(12,dS (all.map aJ)),(10,dP 3 16),(8,dP 3 8),(7,dP 7 7),(0,dP 6 0)])
    (fun b k=>hp [(0,⟨6,1,[[.osl 1 1 0 s.words.length c0,.osl 1 2 0 s.holds.length c1,.osl 1 3 0 s.asked.length c2,.osl 5 4 0 s.wait.length c3,.osl 5 5 0 s.done.length c4,.osl 5 6 0 s.told.length c5]]⟩),(1,⟨1,m0,(FV s.words all q.data q.lanes k).map aJ⟩),(2,⟨1,m1,(s.holds).map aJ⟩),(3,o3),(4,o4),(5,o5),(6,o6),(7,⟨7,1,[eB q]⟩),(8,⟨3,1,[[cI 0,cI 0,.osl 0 0 0 0 0]]⟩),(16,⟨3,1,[[cI q.id,cI code,.osl 0 0 0 0 0]]⟩)]) (fun k=>k≤all.length) (fun k=>all.length-k) 0
    (by(refine cR [0,1,2,3,4,5,6,7,8,16] (by omega) (by repeat' (first| (with_reducible first|exact C1|refine C2 ?_ ?_)| ((with_reducible refine C0 ?_);exact CE (by omega) rfl)| ((with_reducible refine D0 ?_);first|exact CA rfl|refine CJ ?_)|fail)) ⟨⟨by simp,by simp[sgL],_,rfl,aP (by repeat' (first| (with_reducible first|exact C3|refine C4 ?_ ?_)| ((with_reducible refine C0 ?_);exact CQ (by omega) rfl rfl (by rfl) rfl)|fail))⟩,⟨by simp,by simp[sgL],_,rfl,bP (aG bF _) rfl rfl⟩,⟨by simp,by simp[sgL],_,rfl,bP (aG bF _) rfl rfl⟩,⟨by simp,by simp[sgL],_,rfl,bS hi3⟩,⟨by simp,by simp[sgL],_,rfl,bS hi4⟩,⟨by simp,by simp[sgL],_,rfl,bS hi5⟩,⟨by simp,by simp[sgL],_,rfl,bS hi6⟩,⟨by simp,by simp[sgL],_,rfl,aP (GW fun x hx=>List.all_eq_true.1 (rL q).2 x hx)⟩,⟨by simp,by simp[sgL],_,rfl,aP (by repeat' (first| (with_reducible first|exact C3|refine C4 ?_ ?_)| ((with_reducible refine C0 ?_);first|exact CB rfl|exact CC)|fail))⟩,⟨by simp,by simp[sgL],_,rfl,aP (by repeat' (first| (with_reducible first|exact C3|refine C4 ?_ ?_)| ((with_reducible refine C0 ?_);first|exact CB rfl|exact CC)|fail))⟩,trivial⟩ (by simp[sgL]))) (by omega) ?_
   intro k hk KL hKL
   have hpl:=AX (w:=s.words) (all:=all) (data:=q.data) (lanes:=q.lanes) k
   have hpw:=afR (all:=all) (lanes:=q.lanes) hwr hq6 k
   by_cases hlt:k<all.length
   ·have hb:=HB hbi hlt
    have hb2:(all.getD k default).toNat<(FV s.words all q.data q.lanes k).length:=by omega
    repeat' (first| (with_reducible first| (refine hK _ _ _ ?_;clear hK K)| (refine hA ?_;clear hA hB A B)|refine Z1 ?_|refine Z2 ?_|refine Z3 fun KB hKB=> ?_|refine Z4 (by omega) ?_)| (first| (with_reducible first|refine Y2 fun K hK=> ?_|refine Y3 fun A B hA hB=> ?_)| (with_reducible refine ae5 (HB hpw hb2) (HB hq6 (by omega)) (HB hq7 (by omega)) ?_))<;>(simp only[go_sem];try simp (disch:=omega) only[Iw])| ((with_reducible refine Y0 ?_);simp only[AQ.then,AQ.blk])|refine⟨by omega,?_⟩| (with_reducible refine hKB _ _ _ ?_)|fail)
    exact hKL _ _ _ (k+1) (by omega) (by(refine cR [0,1,2,3,4,5,6,7,8,16] (by omega) (by repeat' (first| (with_reducible first|exact C1|refine C2 ?_ ?_)| ((with_reducible refine C0 ?_);exact CE (by omega) rfl)| ((with_reducible refine D0 ?_);first|exact CA rfl|refine CJ ?_)|fail)) ⟨⟨by simp,by simp[sgL],_,rfl,aP (by repeat' (first| (with_reducible first|exact C3|refine C4 ?_ ?_)| ((with_reducible refine C0 ?_);exact CQ (by omega) rfl rfl (by rfl) rfl)|fail))⟩,⟨by simp,by simp[sgL],_,rfl,bP (aG bF _) rfl rfl⟩,⟨by simp,by simp[sgL],_,rfl,bP (aG bF _) rfl rfl⟩,⟨by simp,by simp[sgL],_,rfl,bS hi3⟩,⟨by simp,by simp[sgL],_,rfl,bS hi4⟩,⟨by simp,by simp[sgL],_,rfl,bS hi5⟩,⟨by simp,by simp[sgL],_,rfl,bS hi6⟩,⟨by simp,by simp[sgL],_,rfl,aP (GW fun x hx=>List.all_eq_true.1 (rL q).2 x hx)⟩,⟨by simp,by simp[sgL],_,rfl,aP (by repeat' (first| (with_reducible first|exact C3|refine C4 ?_ ?_)| ((with_reducible refine C0 ?_);first|exact CB rfl|exact CC)|fail))⟩,⟨by simp,by simp[sgL],_,rfl,aP (by repeat' (first| (with_reducible first|exact C3|refine C4 ?_ ?_)| ((with_reducible refine C0 ?_);first|exact CB rfl|exact CC)|fail))⟩,trivial⟩ (by simp[sgL]))) (by omega) (by omega)
   ·repeat' (first| (with_reducible first| (refine hK _ _ _ ?_;clear hK K)| (refine hB ?_;clear hA hB A B)|refine Z1 ?_|refine Z3 fun KB hKB=> ?_|refine Z5 (by omega) ?_|refine hKX _ _ _ ?_)| (with_reducible first|refine Y2 fun K hK=> ?_|refine Y3 fun A B hA hB=> ?_)<;>(simp only[go_sem])| ((with_reducible refine Y9 ?_);try simp only[AQ.then,AQ.blk,reduceIte,Nat.reduceEqDiff])|fail)
    have hk2:k=all.length:=by omega
    subst hk2
    (have hKY:=hKB;clear hKB)
    refine aM.sG 0 (β:=Nat) (fun b k=>en [(146,dI k),(145,dI 6),(144,dO 1 2 6 c1),(12,dS (all.map aJ)),(10,dP 3 16),(8,dP 3 8),(0,dP 6 0)])
     (fun b k=>hp [(0,⟨6,1,[[.osl 1 1 0 s.words.length c0,.osl 1 2 0 s.holds.length c1,.osl 1 3 0 s.asked.length c2,.osl 5 4 0 s.wait.length c3,.osl 5 5 0 s.done.length c4,.osl 5 6 0 s.told.length c5]]⟩),(1,⟨1,m0,(FV s.words all q.data q.lanes all.length).map aJ⟩),(2,⟨1,m1,(xI s.holds all k).map aJ⟩),(3,o3),(4,o4),(5,o5),(6,o6),(8,⟨3,1,[[cI 0,cI 0,.osl 0 0 0 0 0]]⟩),(16,⟨3,1,[[cI q.id,cI code,.osl 0 0 0 0 0]]⟩)]) (fun k=>k≤6) (fun k=>6-k) 0
     (by(refine cR [0,1,2,3,4,5,6,8,16] (by omega) (by repeat' (first| (with_reducible first|exact C1|refine C2 ?_ ?_)| ((with_reducible refine C0 ?_);first|exact CQ (by omega) rfl rfl (by first|rfl|omega) rfl|exact CE (by omega) rfl| (exact CG (by(congr 2;omega)) rfl))| ((with_reducible refine D0 ?_);first|exact CA rfl|refine CJ ?_)|fail)) ⟨⟨by simp,by simp[sgL],_,rfl,aP (by repeat' (first| (with_reducible first|exact C3|refine C4 ?_ ?_)| ((with_reducible refine C0 ?_);exact CQ (by omega) rfl rfl (by rfl) rfl)|fail))⟩,⟨by simp,by simp[sgL],_,rfl,bP (aG bF _) rfl rfl⟩,⟨by simp,by simp[sgL],_,rfl,bP (aG bF _) (congrArg _ ac9) rfl⟩,⟨by simp,by simp[sgL],_,rfl,bS hi3⟩,⟨by simp,by simp[sgL],_,rfl,bS hi4⟩,⟨by simp,by simp[sgL],_,rfl,bS hi5⟩,⟨by simp,by simp[sgL],_,rfl,bS hi6⟩,⟨by simp,by simp[sgL],_,rfl,aP (by repeat' (first| (with_reducible first|exact C3|refine C4 ?_ ?_)| ((with_reducible refine C0 ?_);first|exact CB rfl|exact CC)|fail))⟩,⟨by simp,by simp[sgL],_,rfl,aP (by repeat' (first| (with_reducible first|exact C3|refine C4 ?_ ?_)| ((with_reducible refine C0 ?_);first|exact CB rfl|exact CC)|fail))⟩,trivial⟩ (by simp[sgL]))) (by omega) ?_
    intro k hk KM hKM
    have hfl:=aiJ (all:=all) (show k≤s.holds.length by omega)
    by_cases hlt:k<6
    ·have hfa:=akN (all:=all) (show k<s.holds.length by omega)
     have hfs:=fun x=>agQ (all:=all) (x:=x) (show k<s.holds.length by omega)
     have hsm:=acP (all:=all) (show k<s.holds.length by omega)
     repeat' (first| (with_reducible first| (refine hK _ _ _ ?_;clear hK K)| (refine hA ?_;clear hA hB A B)| (refine hB ?_;clear hA hB A B)|refine Z1 ?_|refine Z2 ?_|refine Z3 fun KB hKB=> ?_|refine Z4 (by omega) ?_|refine Z6 (fun h=> ?_) fun h=> ?_)| (first| (with_reducible first|refine Y2 fun K hK=> ?_|refine Y3 fun A B hA hB=> ?_)| (refine x8 (by omega) (aE rfl) ?_))<;>(simp only[go_sem,hfa];try simp (disch:=omega) only[Iw])| ((with_reducible refine Y0 ?_);simp only[AQ.then,AQ.blk])|refine⟨by omega,?_⟩| (with_reducible refine hKB _ _ _ ?_)|fail)
     ·exact hKM _ _ _ (k+1) (by omega) (by(refine cR [0,1,2,3,4,5,6,8,16] (by omega) (by repeat' (first| (with_reducible first|exact C1|refine C2 ?_ ?_)| ((with_reducible refine C0 ?_);first|exact CQ (by omega) rfl rfl (by rfl) rfl|exact CE (by omega) rfl)| ((with_reducible refine D0 ?_);first|exact CA rfl|refine CJ ?_)|fail)) ⟨⟨by simp,by simp[sgL],_,rfl,aP (by repeat' (first| (with_reducible first|exact C3|refine C4 ?_ ?_)| ((with_reducible refine C0 ?_);exact CQ (by omega) rfl rfl (by rfl) rfl)|fail))⟩,⟨by simp,by simp[sgL],_,rfl,bP (aG bF _) rfl rfl⟩,⟨by simp,by simp[sgL],_,rfl,bP (aG bF _) (congrArg _ (hfs (-1) (by rw[if_pos (by assumption)])).symm) rfl⟩,⟨by simp,by simp[sgL],_,rfl,bS hi3⟩,⟨by simp,by simp[sgL],_,rfl,bS hi4⟩,⟨by simp,by simp[sgL],_,rfl,bS hi5⟩,⟨by simp,by simp[sgL],_,rfl,bS hi6⟩,⟨by simp,by simp[sgL],_,rfl,aP (by repeat' (first| (with_reducible first|exact C3|refine C4 ?_ ?_)| ((with_reducible refine C0 ?_);first|exact CB rfl|exact CC)|fail))⟩,⟨by simp,by simp[sgL],_,rfl,aP (by repeat' (first| (with_reducible first|exact C3|refine C4 ?_ ?_)| ((with_reducible refine C0 ?_);first|exact CB rfl|exact CC)|fail))⟩,trivial⟩ (by simp[sgL]))) (by omega) (by omega)
     ·exact hKM _ _ _ (k+1) (by omega) (by(refine cR [0,1,2,3,4,5,6,8,16] (by omega) (by repeat' (first| (with_reducible first|exact C1|refine C2 ?_ ?_)| ((with_reducible refine C0 ?_);first|exact CQ (by omega) rfl rfl (by rfl) rfl|exact CE (by omega) rfl)| ((with_reducible refine D0 ?_);first|exact CA rfl|refine CJ ?_)|fail)) ⟨⟨by simp,by simp[sgL],_,rfl,aP (by repeat' (first| (with_reducible first|exact C3|refine C4 ?_ ?_)| ((with_reducible refine C0 ?_);exact CQ (by omega) rfl rfl (by rfl) rfl)|fail))⟩,⟨by simp,by simp[sgL],_,rfl,bP (aG bF _) rfl rfl⟩,⟨by simp,by simp[sgL],_,rfl,bP (aG bF _) (congrArg _ (hsm.symm.trans (hfs _ (by rw[if_neg (by assumption)]))).symm) rfl⟩,⟨by simp,by simp[sgL],_,rfl,bS hi3⟩,⟨by simp,by simp[sgL],_,rfl,bS hi4⟩,⟨by simp,by simp[sgL],_,rfl,bS hi5⟩,⟨by simp,by simp[sgL],_,rfl,bS hi6⟩,⟨by simp,by simp[sgL],_,rfl,aP (by repeat' (first| (with_reducible first|exact C3|refine C4 ?_ ?_)| ((with_reducible refine C0 ?_);first|exact CB rfl|exact CC)|fail))⟩,⟨by simp,by simp[sgL],_,rfl,aP (by repeat' (first| (with_reducible first|exact C3|refine C4 ?_ ?_)| ((with_reducible refine C0 ?_);first|exact CB rfl|exact CC)|fail))⟩,trivial⟩ (by simp[sgL]))) (by omega) (by omega)
    ·repeat' (first| (with_reducible first| (refine hK _ _ _ ?_;clear hK K)| (refine hB ?_;clear hA hB A B)|refine Z1 ?_|refine Z5 (by omega) ?_|refine hKY _ _ _ ?_)| (with_reducible first|refine Y2 fun K hK=> ?_|refine Y3 fun A B hA hB=> ?_)<;>(simp only[go_sem])| ((with_reducible first|refine Y8 ?_|refine Y9 ?_);try simp only[AQ.then,AQ.blk,reduceIte,Nat.reduceEqDiff])|fail)
     have hk2:k=s.holds.length:=by omega
     subst hk2
     (refine hQ _ _ _ _ _ 7 (dA (tG ⟨q.id,code,[]⟩)) (hp [(0,⟨6,1,[oIm 1 2 3 4 5 6 c0 c1 c2 c3 c4 c5 s]⟩),(1,⟨1,m0,(FV s.words all q.data q.lanes all.length).map aJ⟩),(2,⟨1,m1,(iU s.holds all).map aJ⟩),(3,o3),(4,o4),(5,o5),(6,o6)]) _ _ (.inr rfl) rfl (fU [0,1,2,3,4,5,6] (by omega) (by repeat' (first| ((with_reducible refine C0 ?_);first|exact CB rfl|exact CF)| ((with_reducible refine D0 ?_);refine C9 ?_)|exact C3|refine C4 ?_ ?_|fail)) ⟨⟨by simp,by simp[sgL],_,rfl,aP (by repeat' (first| (with_reducible first|exact C3|refine C4 ?_ ?_)| ((with_reducible refine C0 ?_);exact CQ (by omega) rfl rfl (by rfl) rfl)|refine C4 ?_ ?_|fail))⟩,⟨by simp,by simp[sgL],_,rfl,bP (aG bF _) rfl rfl⟩,⟨by simp,by simp[sgL],_,rfl,bP (aG bF _) (congrArg _ ahC.symm) rfl⟩,⟨by simp,by simp[sgL],_,rfl,bS hi3⟩,⟨by simp,by simp[sgL],_,rfl,bS hi4⟩,⟨by simp,by simp[sgL],_,rfl,bS hi5⟩,⟨by simp,by simp[sgL],_,rfl,bS hi6⟩,trivial⟩ (by simp[sgL])) ?_)
     exact⟨rfl,rfl,rfl⟩
 have h2f:wrM q=false:=by simpa using h2
 have hk13:q.kind=1∨q.kind=3:=by have h3: ¬(q.kind=2∨q.kind=4):=fun h=>h2 (hwi.2 h);omega
 simp only[oIm]
 repeat' (first| (with_reducible first| (refine hK _ _ _ ?_;clear hK K)| (refine hA ?_;clear hA hB A B)| (refine hB ?_;clear hA hB A B)|refine Z1 ?_|refine Z2 ?_|refine Z3 fun KB hKB=> ?_|refine Z5 (by omega) ?_)| (first| (with_reducible first|refine Y2 fun K hK=> ?_|refine Y3 fun A B hA hB=> ?_|refine Y5 (by omega) ?_)| (with_reducible refine hwo ?_)| (with_reducible refine hbu ?_)| (with_reducible refine gH ?_))<;>(simp only[go_sem,h2f];try simp (disch:=omega) only[Iw])| ((with_reducible refine Y0 ?_);simp only[AQ.then,AQ.blk])|refine⟨by omega,?_⟩| (with_reducible refine hKB _ _ _ ?_)|fail)
 (have hKX:=hKB;clear hKB)
 refine aM.sG 0 (β:=Nat) (fun b k=>en [(76,dI k),(75,dI all.length),(74,dS (all.map aJ)),(11,.one (.c (.ptr 1 2 (who*2+q.id).toNat 0))),(10,dP 3 16),(8,dP 3 8),(7,dP 7 7),(0,dP 6 0)])
  (fun b k=>hp [(0,⟨6,1,[[.osl 1 1 0 s.words.length c0,.osl 1 2 0 s.holds.length c1,.osl 1 3 0 s.asked.length c2,.osl 5 4 0 s.wait.length c3,.osl 5 5 0 s.done.length c4,.osl 5 6 0 s.told.length c5]]⟩),(1,⟨1,m0,(s.words).map aJ⟩),(2,⟨1,m1,(s.holds).map aJ⟩),(3,o3),(4,o4),(5,o5),(6,o6),(7,⟨7,1,[eB q]⟩),(8,⟨3,1,[[cI 0,cI 0,.osl 0 0 0 0 0]]⟩),(16,⟨3,1,[[cI q.id,cI 1,.osl 1 62 0 all.length all.length]]⟩),(62,⟨1,all.length,((List.range k).map (fun k=>s.words.getD (all.getD k default).toNat default)++List.replicate (all.length-k) (0:Int)).map aJ⟩)])
  (fun k=>k≤all.length) (fun k=>all.length-k) 0
  (by(refine cR [0,1,2,3,4,5,6,7,8,16,62] (by omega) (by repeat' (first| (with_reducible first|exact C1|refine C2 ?_ ?_)| ((with_reducible refine C0 ?_);exact CE (by omega) rfl)| ((with_reducible refine D0 ?_);first|exact CA rfl|refine CJ ?_)|fail)) ⟨⟨by simp,by simp[sgL],_,rfl,aP (by repeat' (first| (with_reducible first|exact C3|refine C4 ?_ ?_)| ((with_reducible refine C0 ?_);exact CQ (by omega) rfl rfl (by rfl) rfl)|fail))⟩,⟨by simp,by simp[sgL],_,rfl,bP (aG bF _) rfl rfl⟩,⟨by simp,by simp[sgL],_,rfl,bP (aG bF _) rfl rfl⟩,⟨by simp,by simp[sgL],_,rfl,bS hi3⟩,⟨by simp,by simp[sgL],_,rfl,bS hi4⟩,⟨by simp,by simp[sgL],_,rfl,bS hi5⟩,⟨by simp,by simp[sgL],_,rfl,bS hi6⟩,⟨by simp,by simp[sgL],_,rfl,aP (GW fun x hx=>List.all_eq_true.1 (rL q).2 x hx)⟩,⟨by simp,by simp[sgL],_,rfl,aP (by repeat' (first| (with_reducible first|exact C3|refine C4 ?_ ?_)| ((with_reducible refine C0 ?_);first|exact CB rfl|exact CC)|fail))⟩,⟨by simp,by simp[sgL],_,rfl,aP (by repeat' (first| (with_reducible first|exact C3|refine C4 ?_ ?_)| ((with_reducible refine C0 ?_);first|exact CB rfl|exact CQ (by omega) rfl rfl (by rfl) rfl)|fail))⟩,⟨by simp,by simp[sgL],_,rfl,bP (aG bF _) (by simp[aJ]) rfl⟩,trivial⟩ (by simp[sgL]))) (by omega) ?_
 intro k hk KL hKL
 have hdlen:((List.range k).map (fun k=>s.words.getD (all.getD k default).toNat default)++List.replicate (all.length-k) (0:Int)).length=all.length:=by simp;omega
 by_cases hlt:k<all.length
 ·have hb:=HB hbi hlt
  have hbs:=fun x=>XT (f:=fun k=>s.words.getD (all.getD k default).toNat default) (x:=x) hlt
  repeat' (first| (with_reducible first| (refine hK _ _ _ ?_;clear hK K)| (refine hA ?_;clear hA hB A B)|refine Z1 ?_|refine Z2 ?_|refine Z3 fun KB hKB=> ?_|refine Z4 (by omega) ?_)| (with_reducible first|refine Y2 fun K hK=> ?_|refine Y3 fun A B hA hB=> ?_)<;>(simp only[go_sem,hdlen];try simp (disch:=omega) only[Iw])| ((with_reducible refine Y0 ?_);simp only[AQ.then,AQ.blk])|refine⟨by omega,?_⟩| (with_reducible refine hKB _ _ _ ?_)|fail)
  exact hKL _ _ _ (k+1) (by omega) (by(refine cR [0,1,2,3,4,5,6,7,8,16,62] (by omega) (by repeat' (first| (with_reducible first|exact C1|refine C2 ?_ ?_)| ((with_reducible refine C0 ?_);exact CE (by omega) rfl)| ((with_reducible refine D0 ?_);first|exact CA rfl|refine CJ ?_)|fail)) ⟨⟨by simp,by simp[sgL],_,rfl,aP (by repeat' (first| (with_reducible first|exact C3|refine C4 ?_ ?_)| ((with_reducible refine C0 ?_);exact CQ (by omega) rfl rfl (by rfl) rfl)|fail))⟩,⟨by simp,by simp[sgL],_,rfl,bP (aG bF _) rfl rfl⟩,⟨by simp,by simp[sgL],_,rfl,bP (aG bF _) rfl rfl⟩,⟨by simp,by simp[sgL],_,rfl,bS hi3⟩,⟨by simp,by simp[sgL],_,rfl,bS hi4⟩,⟨by simp,by simp[sgL],_,rfl,bS hi5⟩,⟨by simp,by simp[sgL],_,rfl,bS hi6⟩,⟨by simp,by simp[sgL],_,rfl,aP (GW fun x hx=>List.all_eq_true.1 (rL q).2 x hx)⟩,⟨by simp,by simp[sgL],_,rfl,aP (by repeat' (first| (with_reducible first|exact C3|refine C4 ?_ ?_)| ((with_reducible refine C0 ?_);first|exact CB rfl|exact CC)|fail))⟩,⟨by simp,by simp[sgL],_,rfl,aP (by repeat' (first| (with_reducible first|exact C3|refine C4 ?_ ?_)| ((with_reducible refine C0 ?_);first|exact CB rfl|exact CQ (by omega) rfl rfl (by rfl) rfl)|fail))⟩,⟨by simp,by simp[sgL],_,rfl,bP (aG bF _) (congrArg _ (hbs _ rfl).symm) rfl⟩,trivial⟩ (by simp[sgL]))) (by omega) (by omega)
 ·have hk2:k=all.length:=by omega
  subst hk2
  repeat' (first| (with_reducible first| (refine hK _ _ _ ?_;clear hK K)| (refine hA ?_;clear hA hB A B)| (refine hB ?_;clear hA hB A B)|refine Z1 ?_|refine Z2 ?_|refine Z5 (by omega) ?_|refine Z6 (fun h=> ?_) fun h=> ?_|refine hKX _ _ _ ?_)| (with_reducible first|refine Y2 fun K hK=> ?_|refine Y3 fun A B hA hB=> ?_)<;>(simp only[go_sem,hdlen])| ((with_reducible first|refine Y8 ?_|refine Y9 ?_);try simp only[AQ.then,AQ.blk,reduceIte,Nat.reduceEqDiff])|refine⟨by omega,?_⟩|fail)
  ·have hrd:(List.range all.length).map (fun k=>s.words.getD (all.getD k default).toNat default)++List.replicate (all.length-all.length) (0:Int)=all.map fun a=>s.words.getD a.toNat default:=by rw[aqI];simp
   rw[hrd]
   rw[amK h1' (by assumption),hall] at hQ
   (refine hQ _ _ _ _ _ 7 (dA (tG ⟨q.id,2,all.map fun a=>s.words.getD a.toNat default⟩)) (hp [(0,⟨6,1,[oIm 1 2 3 4 5 6 c0 c1 c2 c3 c4 c5 s]⟩),(1,⟨1,m0,(s.words).map aJ⟩),(2,⟨1,m1,(s.holds.set (who*2+q.id).toNat q.addr).map aJ⟩),(3,o3),(4,o4),(5,o5),(6,o6)]) _ _ (.inr rfl) rfl (fU [0,1,2,3,4,5,6] (by omega) (aH (bB rfl) (aH (bB rfl) (aH (bW (l:=all.map fun a=>s.words.getD a.toNat default) bF rfl (by simp) (by simp) (by simp)) eP))) ⟨⟨by simp,by simp[sgL],_,rfl,aP (by repeat' (first| (with_reducible first|exact C3|refine C4 ?_ ?_)| ((with_reducible refine C0 ?_);exact CQ (by omega) rfl rfl (by rfl) rfl)|refine C4 ?_ ?_|fail))⟩,⟨by simp,by simp[sgL],_,rfl,bP (aG bF _) rfl rfl⟩,⟨by simp,by simp[sgL],_,rfl,bP (aG bF _) rfl rfl⟩,⟨by simp,by simp[sgL],_,rfl,bS hi3⟩,⟨by simp,by simp[sgL],_,rfl,bS hi4⟩,⟨by simp,by simp[sgL],_,rfl,bS hi5⟩,⟨by simp,by simp[sgL],_,rfl,bS hi6⟩,trivial⟩ (by simp[sgL])) ?_)
   exact⟨rfl,rfl,rfl⟩
  ·have hrd:(List.range all.length).map (fun k=>s.words.getD (all.getD k default).toNat default)++List.replicate (all.length-all.length) (0:Int)=all.map fun a=>s.words.getD a.toNat default:=by rw[aqI];simp
   rw[hrd]
   rw[akI h1' (by omega),hall] at hQ
   (refine hQ _ _ _ _ _ 7 (dA (tG ⟨q.id,1,all.map fun a=>s.words.getD a.toNat default⟩)) (hp [(0,⟨6,1,[oIm 1 2 3 4 5 6 c0 c1 c2 c3 c4 c5 s]⟩),(1,⟨1,m0,(s.words).map aJ⟩),(2,⟨1,m1,(s.holds).map aJ⟩),(3,o3),(4,o4),(5,o5),(6,o6)]) _ _ (.inr rfl) rfl (fU [0,1,2,3,4,5,6] (by omega) (aH (bB rfl) (aH (bB rfl) (aH (bW (l:=all.map fun a=>s.words.getD a.toNat default) bF rfl (by simp) (by simp) (by simp)) eP))) ⟨⟨by simp,by simp[sgL],_,rfl,aP (by repeat' (first| (with_reducible first|exact C3|refine C4 ?_ ?_)| ((with_reducible refine C0 ?_);exact CQ (by omega) rfl rfl (by rfl) rfl)|refine C4 ?_ ?_|fail))⟩,⟨by simp,by simp[sgL],_,rfl,bP (aG bF _) rfl rfl⟩,⟨by simp,by simp[sgL],_,rfl,bP (aG bF _) rfl rfl⟩,⟨by simp,by simp[sgL],_,rfl,bS hi3⟩,⟨by simp,by simp[sgL],_,rfl,bS hi4⟩,⟨by simp,by simp[sgL],_,rfl,bS hi5⟩,⟨by simp,by simp[sgL],_,rfl,bS hi6⟩,trivial⟩ (by simp[sgL])) ?_)
   exact⟨rfl,rfl,rfl⟩
end
end Go.Proofs.YtegiblhkjfiooaaGreat
end
section
namespace Go.Proofs.YtegiblhkjfiooaaGreat
open Go Go.AM
set_option maxRecDepth 100000
set_option maxHeartbeats 8000000
section
variable {H : aA} {nx : Nat} {K : D → aA → Nat → Prop}
theorem aw4 {m:List Rng} {s:TSt} {who:Int} {q:Req} {c0 c1 c2 c3 c4 c5 m0 m1 i0 i1 i2 i3 i4 i5 az6:Nat} {o3 o4 o5 o6:bA} (hm4:m.length<2^20) (hf:WK s.words s.holds) (hc0:s.words.length≤c0) (hc1:s.holds.length≤c1) (hw:0≤who∧who≤2) (hq:dH q) (hi3:C7 o3) (hi4:C7 o4) (hi5:C7 o5) (hi6:C7 o6)
 (hlt:i0<nx∧i1<nx∧i2<nx∧i3<nx∧i4<nx∧i5<nx∧az6<nx) (hd:[i0,i1,i2,i3,i4,i5,az6].Nodup) (h0:H i0=some ⟨6,1,[oIm i1 i2 i3 i4 i5 az6 c0 c1 c2 c3 c4 c5 s]⟩) (h1:H i1=some ⟨1,m0,s.words.map aJ⟩) (h2:H i2=some ⟨1,m1,s.holds.map aJ⟩) (h3:H i3=some o3) (h4:H i4=some o4) (h5:H i5=some o5) (h6:H az6=some o6)
 (h:K (dA (tG (doM m s.words s.holds who q).2)) (((((((H.set i0 ⟨6,1,[oIm i1 i2 i3 i4 i5 az6 c0 c1 c2 c3 c4 c5 s]⟩).set i1 ⟨1,m0,(doM m s.words s.holds who q).1.1.map aJ⟩).set i2 ⟨1,m1,(doM m s.words s.holds who q).1.2.map aJ⟩).set i3 o3).set i4 o4).set i5 o5).set az6 o6) nx):aB Tryz.prog pL [dP 6 i0,dS (m.map eN),dI who,dA (eB q)] H nx K:=by
 refine(aw7 m s who q c0 c1 c2 c3 c4 c5 m0 m1 o3 o4 o5 o6 hm4 hf hc0 hc1 hw hq hi3 hi4 hi5 hi6).AF [i0,i1,i2,i3,i4,i5,az6] rfl ⟨DG (by simp) rfl,aE rfl,aE rfl,aE rfl,trivial⟩ ?_ ?_ ?_ hd fun r H' n' _ ⟨q1,q2,q3⟩=> ?_
 ·refine⟨⟨by simp,id,_,h0,aP ?_⟩,⟨by simp,id,_,h1,bP (aG bF _) rfl rfl⟩,⟨by simp,id,_,h2,bP (aG bF _) rfl rfl⟩,⟨by simp,id,_,h3,bS hi3⟩,⟨by simp,id,_,h4,bS hi4⟩,⟨by simp,id,_,h5,bS hi5⟩,⟨by simp,id,_,h6,bS hi6⟩,trivial⟩
  unfold oIm
  exact aH (aaF (by simp) rfl rfl rfl rfl) (aH (aaF (by simp) rfl rfl rfl rfl) (aH (aaF (by simp) rfl rfl rfl rfl) (aH (aaF (by simp) rfl rfl rfl rfl) (aH (aaF (by simp) rfl rfl rfl rfl) (aH (aaF (by simp) rfl rfl rfl rfl) eP)))))
 ·exact hd
 ·intro x hx;simp only[List.mem_cons,List.not_mem_nil,or_false] at hx;omega
 ·subst q1;subst q2;subst q3
  generalize (doM m s.words s.holds who q)=dm at*
  obtain⟨⟨w',h'⟩,r'⟩:=dm
  have e0:bA.rn (tau 7 nx (nth [i0,i1,i2,i3,i4,i5,az6])) ⟨6,1,[oIm 1 2 3 4 5 6 c0 c1 c2 c3 c4 c5 s]⟩=⟨6,1,[oIm i1 i2 i3 i4 i5 az6 c0 c1 c2 c3 c4 c5 s]⟩:=rfl
  have e1:back (tau 7 nx (nth [i0,i1,i2,i3,i4,i5,az6])) (hp [(0,⟨6,1,[oIm 1 2 3 4 5 6 c0 c1 c2 c3 c4 c5 s]⟩),(1,⟨1,m0,w'.map aJ⟩),(2,⟨1,m1,h'.map aJ⟩),(3,o3),(4,o4),(5,o5),(6,o6)]) 7 H=(((((((H.set i0 ⟨6,1,[oIm i1 i2 i3 i4 i5 az6 c0 c1 c2 c3 c4 c5 s]⟩).set i1 ⟨1,m0,w'.map aJ⟩).set i2 ⟨1,m1,h'.map aJ⟩).set i3 o3).set i4 o4).set i5 o5).set az6 o6):=by
   simp only[back,hp,aA.set,Option.map_some,e0,uB,rF hi3,rF hi4,rF hi5,rF hi6,aA.eL,if_true,Nat.reduceEqDiff,if_false,reduceIte]
   rfl
  rw[←e1] at h
  exact h
theorem awS (c:Cfg) (s:TSt) (e:Ev) (c0 c1 c2 c3 c4 c5 m0 m1 m2 m3 m4 m5:Nat) (hb:aQ c) (hs:BA c s) (hwhy:X6 c s e=0) (hc:s.words.length≤c0∧s.holds.length≤c1∧s.asked.length≤c2∧s.wait.length≤c3∧s.done.length≤c4∧s.told.length≤c5) (hm:c3≤m3∧c4≤m4∧c5≤m5):
 aB Tryz.prog auD [dA (cU c),dP 6 0,dA (eEv e)] (hp [(0,⟨6,1,[oIm 1 2 3 4 5 6 c0 c1 c2 c3 c4 c5 s]⟩),(1,⟨1,m0,s.words.map aJ⟩),(2,⟨1,m1,s.holds.map aJ⟩),(3,⟨1,m2,s.asked.map aJ⟩),(4,⟨5,m3,s.wait.map aS⟩),(5,⟨5,m4,s.done.map aS⟩),(6,⟨5,m5,s.told.map aS⟩)]) 7
 fun r H' n'=>∃c3' c4' c5' m3' m4' m5',((lS c s e).wait.length≤c3'∧(lS c s e).done.length≤c4'∧(lS c s e).told.length≤c5')∧(c3'≤m3'∧c4'≤m4'∧c5'≤m5')∧n'=10∧
  H'=hp [(0,⟨6,1,[oIm 1 2 3 7 8 9 c0 c1 c2 c3' c4' c5' (lS c s e)]⟩),(1,⟨1,m0,(lS c s e).words.map aJ⟩),(2,⟨1,m1,(lS c s e).holds.map aJ⟩),(3,⟨1,m2,(lS c s e).asked.map aJ⟩),(7,⟨5,m3',(lS c s e).wait.map aS⟩),(8,⟨5,m4',(lS c s e).done.map aS⟩),(9,⟨5,m5',(lS c s e).told.map aS⟩)]∧r= .tup []:=by
 have hl:=hs.lens hb
 have hf:=hs.fit hb
 obtain⟨hp3,hp12⟩:=hC hb
 have hwl:=hs.atm.wl
 have hhl:=hs.atm.hl
 have hal:=hs.JI
 have hmap:=hb.1.1
 have hb12:=hp12 e.who.toNat
 obtain⟨hcw,hch,hca,hct,hcd,hcl⟩:=hc
 obtain⟨hmt,hmd,hml⟩:=hm
 obtain⟨hok,hcase⟩:=M8 hwhy
 have hrq:=GK hb hok
 obtain⟨ho1,ho2⟩:=hok
 have hnd:=ab0 hs.nodup
 have har:=hs.DC e.who.toNat (by omega)
 refine awG rfl fun Q hQ=> ?_
 unfold auM
 simp only[oIm]
 rcases hcase with⟨hk,hi⟩|⟨hk,hi⟩|⟨hk,hi⟩
 ·have hnot:(e.who,e.n)∉s.wait.map key:=fun hm=>by
   have:=(hs.ab8 (e.who,e.n) (by simp only[keys,List.map_append];exact List.mem_append_left _ (List.mem_append_left _ hm))).2.2
   dsimp only at this;omega
  repeat' (first| (with_reducible first| (refine hK _ _ _ ?_;clear hK K)| (refine hA ?_;clear hA hB A B)|refine Z1 ?_|refine Z3 fun KB hKB=> ?_|refine Z4 (by omega) ?_)| (first| (with_reducible first|refine Y2 fun K hK=> ?_|refine Y3 fun A B hA hB=> ?_)| (refine ax1 (by omega) hs.NR hnot hct hmt (by omega) rfl (fun cap' m' q1 q2=> ?_)))<;>(simp only[go_sem];try simp (disch:=omega) only[Iw])| ((with_reducible refine Y0 ?_);simp only[AQ.then,AQ.blk])|refine⟨by omega,?_⟩| (with_reducible refine hKB _ _ _ ?_)|fail)
  have hnx:lS c s e=({s with asked:=s.asked.set e.who.toNat (e.n+1),wait:=BM s.wait ⟨e.who,e.n,oW⟩}:TSt):=by simp only[lS];rw[if_pos (by assumption)]
  have hst:s.asked.getD e.who.toNat default+1=e.n+1:=by omega
  rw[hst]
  rw[hnx] at hQ
  refine aM.nil ?_
  (refine hQ _ _ _ _ _ 10 (.tup []) (hp [(0,⟨6,1,[oIm 1 2 3 7 8 9 c0 c1 c2 cap' c4 c5 ({s with asked:=s.asked.set e.who.toNat (e.n+1),wait:=BM s.wait ⟨e.who,e.n,oW⟩}:TSt)]⟩),(1,⟨1,m0,({s with asked:=s.asked.set e.who.toNat (e.n+1),wait:=BM s.wait ⟨e.who,e.n,oW⟩}:TSt).words.map aJ⟩),(2,⟨1,m1,({s with asked:=s.asked.set e.who.toNat (e.n+1),wait:=BM s.wait ⟨e.who,e.n,oW⟩}:TSt).holds.map aJ⟩),(3,⟨1,m2,({s with asked:=s.asked.set e.who.toNat (e.n+1),wait:=BM s.wait ⟨e.who,e.n,oW⟩}:TSt).asked.map aJ⟩),(7,⟨5,m',({s with asked:=s.asked.set e.who.toNat (e.n+1),wait:=BM s.wait ⟨e.who,e.n,oW⟩}:TSt).wait.map aS⟩),(8,⟨5,m4,({s with asked:=s.asked.set e.who.toNat (e.n+1),wait:=BM s.wait ⟨e.who,e.n,oW⟩}:TSt).done.map aS⟩),(9,⟨5,m5,({s with asked:=s.asked.set e.who.toNat (e.n+1),wait:=BM s.wait ⟨e.who,e.n,oW⟩}:TSt).told.map aS⟩)]) _ _ (.inl rfl) rfl (fU [38,5,6,0,1,2,3] (by omega) (by repeat' ((with_reducible refine D0 ?_);exact CA rfl)) ⟨⟨by simp,by simp[sgL],_,rfl,aP (by unfold oIm;repeat' (first| (with_reducible first|exact C3|refine C4 ?_ ?_)| ((with_reducible refine C0 ?_);(exact CQ (by omega) rfl rfl (by first|rfl| (simp;done)) rfl))|fail))⟩,⟨by simp,by simp[sgL],_,rfl,bP (aG bF _) rfl rfl⟩,⟨by simp,by simp[sgL],_,rfl,bP (aG bF _) rfl rfl⟩,⟨by simp,by simp[sgL],_,rfl,bP (aG bF _) rfl rfl⟩,⟨by simp,by simp[sgL],_,rfl,bP (aG dZ _) rfl rfl⟩,⟨by simp,by simp[sgL],_,rfl,bP (aG dZ _) rfl rfl⟩,⟨by simp,by simp[sgL],_,rfl,bP (aG dZ _) rfl rfl⟩,trivial⟩ (by simp[sgL])) ?_)
  exact⟨cap',c4,c5,m',m4,m5,⟨q1,hcd,hcl⟩,⟨q2,hmd,hml⟩,rfl,rfl,rfl⟩
 ·have hkey:=pW hi
  have hnot:(e.who,e.n)∉s.done.map key:=hnd _ (List.mem_map.2 ⟨_,cC hkey.1,hkey.2⟩)
  repeat' (first| (with_reducible first| (refine hK _ _ _ ?_;clear hK K)| (refine hA ?_;clear hA hB A B)| (refine hB ?_;clear hA hB A B)|refine Z1 ?_|refine Z3 fun KB hKB=> ?_|refine Z4 (by omega) ?_|refine Z5 (by omega) ?_)| (first| (with_reducible first|refine Y2 fun K hK=> ?_|refine Y3 fun A B hA hB=> ?_)| (refine avT (l:=s.wait) (by omega) (yP dZ rfl rfl hct trivial) ?_)| (refine auH (by omega) hi hkey.1 hct hmt (by omega) rfl (fun cap1 m1' q1 q2=> ?_))| (refine aw4 (s:=({s with wait:=MT s.wait (bK (iM e.who e.n) s.wait).toNat}:TSt)) (c0:=c0) (c1:=c1) (c2:=c2) (c3:=cap1) (c4:=c4) (c5:=c5) (m:=c.map) (q:=bT c e.who e.n) (by omega) hs.atm hcw hch ho1 hrq (oB bF _) (oB dZ _) (oB dZ _) (oB dZ _) (by omega) (by simp) rfl rfl rfl rfl rfl rfl rfl ?_)| (refine ax7 (by omega) hs.NW hnot hcd hmd (by omega) rfl (fun cap' m' q3 q4=> ?_)))<;>(simp only[go_sem,oIm];try simp (disch:=omega) only[Iw])| ((with_reducible refine Y0 ?_);simp only[AQ.then,AQ.blk])|refine⟨by omega,?_⟩| (with_reducible refine hKB _ _ _ ?_)|fail)
  have hnx:lS c s e=({s with words:=(doM c.map s.words s.holds e.who (bT c e.who e.n)).1.1,holds:=(doM c.map s.words s.holds e.who (bT c e.who e.n)).1.2,wait:=MT s.wait (bK (iM e.who e.n) s.wait).toNat,done:=BM s.done ⟨e.who,e.n,(doM c.map s.words s.holds e.who (bT c e.who e.n)).2⟩}:TSt):=by simp only[lS];rw[if_neg (by omega),if_pos (by assumption)]
  have hwl2:=(ao7 (m:=c.map) (who:=e.who) hs.atm hrq).wl
  have hhl2:=(ao7 (m:=c.map) (who:=e.who) hs.atm hrq).hl
  rw[hnx] at hQ
  refine aM.nil ?_
  (refine hQ _ _ _ _ _ 10 (.tup []) (hp [(0,⟨6,1,[oIm 1 2 3 7 8 9 c0 c1 c2 cap1 cap' c5 ({s with words:=(doM c.map s.words s.holds e.who (bT c e.who e.n)).1.1,holds:=(doM c.map s.words s.holds e.who (bT c e.who e.n)).1.2,wait:=MT s.wait (bK (iM e.who e.n) s.wait).toNat,done:=BM s.done ⟨e.who,e.n,(doM c.map s.words s.holds e.who (bT c e.who e.n)).2⟩}:TSt)]⟩),(1,⟨1,m0,({s with words:=(doM c.map s.words s.holds e.who (bT c e.who e.n)).1.1,holds:=(doM c.map s.words s.holds e.who (bT c e.who e.n)).1.2,wait:=MT s.wait (bK (iM e.who e.n) s.wait).toNat,done:=BM s.done ⟨e.who,e.n,(doM c.map s.words s.holds e.who (bT c e.who e.n)).2⟩}:TSt).words.map aJ⟩),(2,⟨1,m1,({s with words:=(doM c.map s.words s.holds e.who (bT c e.who e.n)).1.1,holds:=(doM c.map s.words s.holds e.who (bT c e.who e.n)).1.2,wait:=MT s.wait (bK (iM e.who e.n) s.wait).toNat,done:=BM s.done ⟨e.who,e.n,(doM c.map s.words s.holds e.who (bT c e.who e.n)).2⟩}:TSt).holds.map aJ⟩),(3,⟨1,m2,({s with words:=(doM c.map s.words s.holds e.who (bT c e.who e.n)).1.1,holds:=(doM c.map s.words s.holds e.who (bT c e.who e.n)).1.2,wait:=MT s.wait (bK (iM e.who e.n) s.wait).toNat,done:=BM s.done ⟨e.who,e.n,(doM c.map s.words s.holds e.who (bT c e.who e.n)).2⟩}:TSt).asked.map aJ⟩),(7,⟨5,m1',({s with words:=(doM c.map s.words s.holds e.who (bT c e.who e.n)).1.1,holds:=(doM c.map s.words s.holds e.who (bT c e.who e.n)).1.2,wait:=MT s.wait (bK (iM e.who e.n) s.wait).toNat,done:=BM s.done ⟨e.who,e.n,(doM c.map s.words s.holds e.who (bT c e.who e.n)).2⟩}:TSt).wait.map aS⟩),(8,⟨5,m',({s with words:=(doM c.map s.words s.holds e.who (bT c e.who e.n)).1.1,holds:=(doM c.map s.words s.holds e.who (bT c e.who e.n)).1.2,wait:=MT s.wait (bK (iM e.who e.n) s.wait).toNat,done:=BM s.done ⟨e.who,e.n,(doM c.map s.words s.holds e.who (bT c e.who e.n)).2⟩}:TSt).done.map aS⟩),(9,⟨5,m5,({s with words:=(doM c.map s.words s.holds e.who (bT c e.who e.n)).1.1,holds:=(doM c.map s.words s.holds e.who (bT c e.who e.n)).1.2,wait:=MT s.wait (bK (iM e.who e.n) s.wait).toNat,done:=BM s.done ⟨e.who,e.n,(doM c.map s.words s.holds e.who (bT c e.who e.n)).2⟩}:TSt).told.map aS⟩)]) _ _ (.inl rfl) rfl (fU [37,70,6,0,1,2,3] (by omega) (by repeat' ((with_reducible refine D0 ?_);exact CA rfl)) ⟨⟨by simp,by simp[sgL],_,rfl,aP (by unfold oIm;repeat' (first| (with_reducible first|exact C3|refine C4 ?_ ?_)| ((with_reducible refine C0 ?_);(exact CQ (by omega) rfl rfl (by first|rfl| (dsimp only;omega)) rfl))|fail))⟩,⟨by simp,by simp[sgL],_,rfl,bP (aG bF _) rfl rfl⟩,⟨by simp,by simp[sgL],_,rfl,bP (aG bF _) rfl rfl⟩,⟨by simp,by simp[sgL],_,rfl,bP (aG bF _) rfl rfl⟩,⟨by simp,by simp[sgL],_,rfl,bP (aG dZ _) rfl rfl⟩,⟨by simp,by simp[sgL],_,rfl,bP (aG dZ _) rfl rfl⟩,⟨by simp,by simp[sgL],_,rfl,bP (aG dZ _) rfl rfl⟩,trivial⟩ (by simp[sgL])) ?_)
  exact⟨cap1,cap',c5,m1',m',m5,⟨q1,q3,hcl⟩,⟨q2,q4,hml⟩,rfl,rfl,rfl⟩
 ·have hkey:=pW hi
  repeat' (first| (with_reducible first| (refine hK _ _ _ ?_;clear hK K)| (refine hA ?_;clear hA hB A B)| (refine hB ?_;clear hA hB A B)|refine Z1 ?_|refine Z3 fun KB hKB=> ?_|refine Z4 (by omega) ?_|refine Z5 (by omega) ?_|refine fun(cap:Nat) (hcap:_≤cap)=> ?_|refine fun(hcp:_≤cap)=> ?_)| (first| (with_reducible first|refine Y2 fun K hK=> ?_|refine Y3 fun A B hA hB=> ?_)| (refine avT (l:=s.done) (by omega) (yP dZ rfl rfl hcd trivial) ?_)| (refine auH (by omega) hi hkey.1 hcd hmd (by omega) rfl (fun cap1 m1' q1 q2=> ?_)))<;>(simp only[go_sem];try simp (disch:=omega) only[Iw])| ((with_reducible refine Y0 ?_);simp only[AQ.then,AQ.blk])|refine⟨by omega,?_⟩| (with_reducible refine hKB _ _ _ ?_)|fail)
  have hnx:lS c s e=({s with told:=s.told++[s.done.getD (bK (iM e.who e.n) s.done).toNat default],done:=MT s.done (bK (iM e.who e.n) s.done).toNat}:TSt):=by simp only[lS];rw[if_neg (by omega),if_neg (by omega)]
  rw[hnx] at hQ
  refine aM.nil ?_
  (refine hQ _ _ _ _ _ 10 (.tup []) (hp [(0,⟨6,1,[oIm 1 2 3 7 8 9 c0 c1 c2 c3 cap1 cap ({s with told:=s.told++[s.done.getD (bK (iM e.who e.n) s.done).toNat default],done:=MT s.done (bK (iM e.who e.n) s.done).toNat}:TSt)]⟩),(1,⟨1,m0,({s with told:=s.told++[s.done.getD (bK (iM e.who e.n) s.done).toNat default],done:=MT s.done (bK (iM e.who e.n) s.done).toNat}:TSt).words.map aJ⟩),(2,⟨1,m1,({s with told:=s.told++[s.done.getD (bK (iM e.who e.n) s.done).toNat default],done:=MT s.done (bK (iM e.who e.n) s.done).toNat}:TSt).holds.map aJ⟩),(3,⟨1,m2,({s with told:=s.told++[s.done.getD (bK (iM e.who e.n) s.done).toNat default],done:=MT s.done (bK (iM e.who e.n) s.done).toNat}:TSt).asked.map aJ⟩),(7,⟨5,m3,({s with told:=s.told++[s.done.getD (bK (iM e.who e.n) s.done).toNat default],done:=MT s.done (bK (iM e.who e.n) s.done).toNat}:TSt).wait.map aS⟩),(8,⟨5,m1',({s with told:=s.told++[s.done.getD (bK (iM e.who e.n) s.done).toNat default],done:=MT s.done (bK (iM e.who e.n) s.done).toNat}:TSt).done.map aS⟩),(9,⟨5,cap,({s with told:=s.told++[s.done.getD (bK (iM e.who e.n) s.done).toNat default],done:=MT s.done (bK (iM e.who e.n) s.done).toNat}:TSt).told.map aS⟩)]) _ _ (.inl rfl) rfl (fU [4,56,40,0,1,2,3] (by omega) (by repeat' ((with_reducible refine D0 ?_);exact CA rfl)) ⟨⟨by simp,by simp[sgL],_,rfl,aP (by unfold oIm;repeat' (first| (with_reducible first|exact C3|refine C4 ?_ ?_)| ((with_reducible refine C0 ?_);(exact CQ (by omega) rfl rfl (by first|rfl| (simp;done)) rfl))|fail))⟩,⟨by simp,by simp[sgL],_,rfl,bP (aG bF _) rfl rfl⟩,⟨by simp,by simp[sgL],_,rfl,bP (aG bF _) rfl rfl⟩,⟨by simp,by simp[sgL],_,rfl,bP (aG bF _) rfl rfl⟩,⟨by simp,by simp[sgL],_,rfl,bP (aG dZ _) rfl rfl⟩,⟨by simp,by simp[sgL],_,rfl,bP (aG dZ _) rfl rfl⟩,⟨by simp,by simp[sgL],_,rfl,bP (aG dZ _) rfl rfl⟩,trivial⟩ (by simp[sgL])) ?_)
  exact⟨c3,cap1,cap,m3,m1',cap,⟨hct,q1,by simpa using hcap⟩,⟨hmt,q2,Nat.le_refl _⟩,rfl,rfl,rfl⟩
end
end Go.Proofs.YtegiblhkjfiooaaGreat
end
section
namespace Go.Proofs.YtegiblhkjfiooaaGreat
open Go Go.AM
set_option maxRecDepth 100000
set_option maxHeartbeats 8000000
section
variable {H : aA} {nx : Nat} {K : D → aA → Nat → Prop}
theorem awO {c:Cfg} {s:TSt} {e:Ev} {c0 c1 c2 c3 c4 c5 m0 m1 m2 m3 m4 m5 i0 i1 i2 i3 i4 i5 az6:Nat} (hb:aQ c) (hs:BA c s) (hwhy:X6 c s e=0) (hc:s.words.length≤c0∧s.holds.length≤c1∧s.asked.length≤c2∧s.wait.length≤c3∧s.done.length≤c4∧s.told.length≤c5) (hm:c3≤m3∧c4≤m4∧c5≤m5)
 (hlt:i0<nx∧i1<nx∧i2<nx∧i3<nx∧i4<nx∧i5<nx∧az6<nx) (hd:[i0,i1,i2,i3,i4,i5,az6].Nodup) (h0:H i0=some ⟨6,1,[oIm i1 i2 i3 i4 i5 az6 c0 c1 c2 c3 c4 c5 s]⟩) (h1:H i1=some ⟨1,m0,s.words.map aJ⟩) (h2:H i2=some ⟨1,m1,s.holds.map aJ⟩) (h3:H i3=some ⟨1,m2,s.asked.map aJ⟩) (h4:H i4=some ⟨5,m3,s.wait.map aS⟩) (h5:H i5=some ⟨5,m4,s.done.map aS⟩) (h6:H az6=some ⟨5,m5,s.told.map aS⟩)
 (h: ∀c3' c4' c5' m3' m4' m5',((lS c s e).wait.length≤c3'∧(lS c s e).done.length≤c4'∧(lS c s e).told.length≤c5')→(c3'≤m3'∧c4'≤m4'∧c5'≤m5')→K (.tup []) ((((((((((H.set i0 ⟨6,1,[oIm i1 i2 i3 nx (nx+1) (nx+2) c0 c1 c2 c3' c4' c5' (lS c s e)]⟩).set i1 ⟨1,m0,(lS c s e).words.map aJ⟩).set i2 ⟨1,m1,(lS c s e).holds.map aJ⟩).set i3 ⟨1,m2,(lS c s e).asked.map aJ⟩).del i4).del i5).del az6).set nx ⟨5,m3',(lS c s e).wait.map aS⟩).set (nx+1) ⟨5,m4',(lS c s e).done.map aS⟩).set (nx+2) ⟨5,m5',(lS c s e).told.map aS⟩) (nx+3)):
 aB Tryz.prog auD [dA (cU c),dP 6 i0,dA (eEv e)] H nx K:=by
 refine(awS c s e c0 c1 c2 c3 c4 c5 m0 m1 m2 m3 m4 m5 hb hs hwhy hc hm).AF [i0,i1,i2,i3,i4,i5,az6] rfl ⟨aE rfl,DG (by simp) rfl,aE rfl,trivial⟩ ?_ ?_ ?_ hd fun r H' n' _ ⟨c3',c4',c5',m3',m4',m5',q1,q2,q3,q4,q5⟩=> ?_
 ·refine⟨⟨by simp,id,_,h0,aP ?_⟩,⟨by simp,id,_,h1,bP (aG bF _) rfl rfl⟩,⟨by simp,id,_,h2,bP (aG bF _) rfl rfl⟩,⟨by simp,id,_,h3,bP (aG bF _) rfl rfl⟩,⟨by simp,id,_,h4,bP (aG dZ _) rfl rfl⟩,⟨by simp,id,_,h5,bP (aG dZ _) rfl rfl⟩,⟨by simp,id,_,h6,bP (aG dZ _) rfl rfl⟩,trivial⟩
  unfold oIm
  exact aH (aaF (by simp) rfl rfl rfl rfl) (aH (aaF (by simp) rfl rfl rfl rfl) (aH (aaF (by simp) rfl rfl rfl rfl) (aH (aaF (by simp) rfl rfl rfl rfl) (aH (aaF (by simp) rfl rfl rfl rfl) (aH (aaF (by simp) rfl rfl rfl rfl) eP)))))
 ·exact hd
 ·intro x hx;simp only[List.mem_cons,List.not_mem_nil,or_false] at hx;omega
 ·have h:=h c3' c4' c5' m3' m4' m5' q1 q2
  subst q3;subst q4;subst q5
  generalize lS c s e=S' at*
  have e0:bA.rn (tau 7 nx (nth [i0,i1,i2,i3,i4,i5,az6])) ⟨6,1,[oIm 1 2 3 7 8 9 c0 c1 c2 c3' c4' c5' S']⟩=⟨6,1,[oIm i1 i2 i3 nx (nx+1) (nx+2) c0 c1 c2 c3' c4' c5' S']⟩:=rfl
  have e1:back (tau 7 nx (nth [i0,i1,i2,i3,i4,i5,az6])) (hp [(0,⟨6,1,[oIm 1 2 3 7 8 9 c0 c1 c2 c3' c4' c5' S']⟩),(1,⟨1,m0,(S').words.map aJ⟩),(2,⟨1,m1,(S').holds.map aJ⟩),(3,⟨1,m2,(S').asked.map aJ⟩),(7,⟨5,m3',(S').wait.map aS⟩),(8,⟨5,m4',(S').done.map aS⟩),(9,⟨5,m5',(S').told.map aS⟩)]) 10 H=((((((((((H.set i0 ⟨6,1,[oIm i1 i2 i3 nx (nx+1) (nx+2) c0 c1 c2 c3' c4' c5' S']⟩).set i1 ⟨1,m0,S'.words.map aJ⟩).set i2 ⟨1,m1,S'.holds.map aJ⟩).set i3 ⟨1,m2,S'.asked.map aJ⟩).del i4).del i5).del az6).set nx ⟨5,m3',S'.wait.map aS⟩).set (nx+1) ⟨5,m4',S'.done.map aS⟩).set (nx+2) ⟨5,m5',S'.told.map aS⟩):=by
   simp only[back,hp,aA.set,aA.nil,Option.map_some,Option.map_none,e0,uB,BB,aA.eL,aA.yI,if_true,Nat.reduceEqDiff,if_false,reduceIte]
   rfl
  rw[←e1] at h
  exact h
theorem azA {s:TSt} {H:aA} {F:Nat→Prop} {σ:Nat→Nat} {nh i1 i2 i3 i4 i5 az6 c0 c1 c2 c3 c4 c5 m0 m1 m2 m3 m4 m5:Nat} (hc:s.words.length≤c0∧s.holds.length≤c1∧s.asked.length≤c2∧s.wait.length≤c3∧s.done.length≤c4∧s.told.length≤c5) (h1:H i1=some ⟨1,m0,s.words.map aJ⟩) (h2:H i2=some ⟨1,m1,s.holds.map aJ⟩) (h3:H i3=some ⟨1,m2,s.asked.map aJ⟩) (h4:H i4=some ⟨5,m3,s.wait.map aS⟩) (h5:H i5=some ⟨5,m4,s.done.map aS⟩) (h6:H az6=some ⟨5,m5,s.told.map aS⟩)
 (f1:F i1) (f2:F i2) (f3:F i3) (f4:F i4) (f5:F i5) (f6:F az6):CvL H F σ nh (eSt s) (oIm i1 i2 i3 i4 i5 az6 c0 c1 c2 c3 c4 c5 s):=by
 obtain⟨q1,q2,q3,q4,q5,q6⟩:=hc
 exact aH (bW bF h1 rfl q1 f1) (aH (bW bF h2 rfl q2 f2) (aH (bW bF h3 rfl q3 f3) (aH (bW dZ h4 rfl q4 f4) (aH (bW dZ h5 rfl q5 f5) (aH (bW dZ h6 rfl q6 f6) eP)))))
theorem aoK {i0 i1 i2 i3 i4 i5 c0 c1 c2 c3 c4 c5:Nat} {s:TSt}:(oIm i0 i1 i2 i3 i4 i5 c0 c1 c2 c3 c4 c5 s).length=6:=rfl
theorem aj7 {i0 i1 i2 i3 i4 i5 c0 c1 c2 c3 c4 c5:Nat} {s:TSt}:(oIm i0 i1 i2 i3 i4 i5 c0 c1 c2 c3 c4 c5 s).take 6=oIm i0 i1 i2 i3 i4 i5 c0 c1 c2 c3 c4 c5 s:=rfl
theorem akC {i0 i1 i2 i3 i4 i5 c0 c1 c2 c3 c4 c5:Nat} {s:TSt}:(oIm i0 i1 i2 i3 i4 i5 c0 c1 c2 c3 c4 c5 s).drop 6=[]:=rfl
theorem alF {i0 i1 i2 i3 i4 i5 c0 c1 c2 c3 c4 c5 k:Nat} {s:TSt} {cs:List D1}:iA cs (k+1) (oIm i0 i1 i2 i3 i4 i5 c0 c1 c2 c3 c4 c5 s)=iA cs (k+1) [.osl 1 i0 0 s.words.length c0,.osl 1 i1 0 s.holds.length c1,.osl 1 i2 0 s.asked.length c2,.osl 5 i3 0 s.wait.length c3,.osl 5 i4 0 s.done.length c4,.osl 5 i5 0 s.told.length c5]:=rfl
attribute [go_sem] aoK aj7 akC alF
end
end Go.Proofs.YtegiblhkjfiooaaGreat
end
section
namespace Go.Proofs.YtegiblhkjfiooaaGreat
open Go Go.AM
set_option maxRecDepth 100000
set_option maxHeartbeats 8000000
section
variable {H : aA} {nx : Nat} {K : D → aA → Nat → Prop}
theorem aQ0:aB Tryz.prog auX [] (hp []) 0
 fun r H' n'=>n'=6∧H'=hp [(0,⟨1,64,st0.words.map aJ⟩),(1,⟨1,6,st0.holds.map aJ⟩),(2,⟨1,3,st0.asked.map aJ⟩),(3,⟨5,0,[]⟩),(4,⟨5,0,[]⟩),(5,⟨5,0,[]⟩)]∧r=dA [.osl 1 0 0 64 64,.osl 1 1 0 6 6,.osl 1 2 0 3 3,.osl 5 3 0 0 0,.osl 5 4 0 0 0,.osl 5 5 0 0 0]:=by
 refine ax0 rfl fun Q hQ=> ?_
 unfold avW
 have hmn: ∀{H:aA} {nx:Nat} {K:D→aA→Nat→Prop},K (dA [.osl 1 nx 0 64 64,.osl 1 (nx+1) 0 6 6]) ((H.set nx ⟨1,64,st0.words.map aJ⟩).set (nx+1) ⟨1,6,st0.holds.map aJ⟩) (nx+2)→aB Tryz.prog n8 [] H nx K:=fun h=>QG h
 have ha:[[D1.v (Value.int IntKind.i64 0)],[D1.v (Value.int IntKind.i64 0)],[D1.v (Value.int IntKind.i64 0)]]=st0.asked.map aJ:=rfl
 generalize st0=s0 at*
 refine aM.EJ 5 ?_
 refine aM.EJ 5 ?_
 refine aM.EJ 5 ?_
 repeat' (first| (with_reducible first| (refine hK _ _ _ ?_;clear hK K)|refine Z1 ?_)| (first| (with_reducible refine Y2 fun K hK=> ?_)| (refine hmn ?_))<;>(simp only[go_sem,ha])| ((with_reducible refine Y8 ?_);try simp only[AQ.then,AQ.blk,reduceIte,Nat.reduceEqDiff])|fail)
 (refine hQ _ _ _ _ _ 6 (dA [.osl 1 0 0 64 64,.osl 1 1 0 6 6,.osl 1 2 0 3 3,.osl 5 3 0 0 0,.osl 5 4 0 0 0,.osl 5 5 0 0 0]) (hp [(0,⟨1,64,s0.words.map aJ⟩),(1,⟨1,6,s0.holds.map aJ⟩),(2,⟨1,3,s0.asked.map aJ⟩),(3,⟨5,0,[]⟩),(4,⟨5,0,[]⟩),(5,⟨5,0,[]⟩)]) _ _ (.inr rfl) rfl (fU [8,9,5,0,1,2] (by omega) (by repeat' (first| ((with_reducible refine C0 ?_);first|exact CC|exact CQ (by omega) rfl rfl (by rfl) rfl)| ((with_reducible refine D0 ?_);refine C9 ?_)|exact C3|refine C4 ?_ ?_|fail)) ⟨⟨by simp,by simp[sgL],_,rfl,bP (aG bF _) rfl rfl⟩,⟨by simp,by simp[sgL],_,rfl,bP (aG bF _) rfl rfl⟩,⟨by simp,by simp[sgL],_,rfl,bP (aG bF _) rfl rfl⟩,⟨by simp,by simp[sgL],_,rfl,bS (fun r hr=>by simp at hr)⟩,⟨by simp,by simp[sgL],_,rfl,bS (fun r hr=>by simp at hr)⟩,⟨by simp,by simp[sgL],_,rfl,bS (fun r hr=>by simp at hr)⟩,trivial⟩ (by simp[sgL])) ?_)
 exact⟨rfl,rfl,rfl⟩
theorem aQV (h:K (dA [.osl 1 nx 0 64 64,.osl 1 (nx+1) 0 6 6,.osl 1 (nx+2) 0 3 3,.osl 5 (nx+3) 0 0 0,.osl 5 (nx+4) 0 0 0,.osl 5 (nx+5) 0 0 0]) ((((((H.set nx ⟨1,64,st0.words.map aJ⟩).set (nx+1) ⟨1,6,st0.holds.map aJ⟩).set (nx+2) ⟨1,3,st0.asked.map aJ⟩).set (nx+3) ⟨5,0,[]⟩).set (nx+4) ⟨5,0,[]⟩).set (nx+5) ⟨5,0,[]⟩) (nx+6)):aB Tryz.prog auX [] H nx K:=by
 refine aQ0.AF (l0:=[]) [] rfl trivial trivial (by simp) (by simp) (by simp) fun r H' n' _ ⟨q1,q2,q3⟩=> ?_
 subst q1;subst q2;subst q3
 generalize st0=s0 at*
 have e1:back (tau 0 nx (nth [])) (hp [(0,⟨1,64,s0.words.map aJ⟩),(1,⟨1,6,s0.holds.map aJ⟩),(2,⟨1,3,s0.asked.map aJ⟩),(3,⟨5,0,[]⟩),(4,⟨5,0,[]⟩),(5,⟨5,0,[]⟩)]) 6 H=(((((H.set nx ⟨1,64,s0.words.map aJ⟩).set (nx+1) ⟨1,6,s0.holds.map aJ⟩).set (nx+2) ⟨1,3,s0.asked.map aJ⟩).set (nx+3) ⟨5,0,[]⟩).set (nx+4) ⟨5,0,[]⟩).set (nx+5) ⟨5,0,[]⟩:=by
  have e0:bA.rn (tau 0 nx (nth [])) ⟨5,0,[]⟩=⟨5,0,[]⟩:=rfl
  simp[back,hp,aA.set,aA.nil,tau,nth,uB,aA.eL,aA.yI]
  rfl
 rw[←e1] at h
 exact h
end
end Go.Proofs.YtegiblhkjfiooaaGreat
end
section
namespace Go.AM
end Go.AM
end
section
namespace Go.AM
structure Sam (k:Int) (s s':TSt):Prop where
 asked:s'.asked.getD k.toNat default=s.asked.getD k.toNat default
 wait: ∀n,(k,n)∈s'.wait.map key↔(k,n)∈s.wait.map key
 done: ∀n,(k,n)∈s'.done.map key↔(k,n)∈s.done.map key
theorem Sam.refl {k:Int} {s:TSt}:Sam k s s:=⟨rfl,fun _=>.rfl,fun _=>.rfl⟩
theorem Sam.symm {k:Int} {s s':TSt} (h:Sam k s s'):Sam k s' s:=⟨h.asked.symm,fun n=>(h.wait n).symm,fun n=>(h.done n).symm⟩
theorem Sam.trans {k:Int} {s s' s2:TSt} (h:Sam k s s') (h2:Sam k s' s2):Sam k s s2:=⟨h2.asked.trans h.asked,fun n=>(h2.wait n).trans (h.wait n),fun n=>(h2.done n).trans (h.done n)⟩
end Go.AM
end
section
namespace Go.AM
end Go.AM
end
section
namespace Go.AM
def kP (q:Req):List Int:=bE q.addr q.many q.wrap
def hB (br:Nat) (who:Int) (q:Req) (h:List Int):List Int:=if br=5 then iU h (kP q) else if br=3 then h.set (who*2+q.id).toNat q.addr else h
def u9 (a b:Req):Prop:=∀x∈kP a,x∉kP b
theorem u9.symm {a b:Req} (h:u9 a b):u9 b a:=fun x hx hy=>h x hy hx
def ajR (c:Cfg) (a b:Ev):Prop:=a.who≠b.who∧ ¬(a.kind=3∧b.kind=3)∧(a.kind=2→b.kind=2→u9 (bT c a.who a.n) (bT c b.who b.n))
instance {a b:Req}:Decidable (u9 a b):=by unfold u9;infer_instance
instance {c:Cfg} {a b:Ev}:Decidable (ajR c a b):=by unfold ajR;infer_instance
end Go.AM
end
section
namespace Go.AM
theorem wW {c:Cfg} {s:TSt} {e:Ev} {l:List Ev}:runM c s (e::l)=runM c (lS c s e) l:=rfl
theorem xB {c:Cfg} {s:TSt} {e:Ev} {l:List Ev}:F9 c s (e::l)↔X6 c s e=0∧F9 c (lS c s e) l:=by
 constructor
 ·intro h
  refine⟨h 0 (by simp),fun k hk=> ?_⟩
  have:=h (k+1) (by simpa using hk)
  rwa [List.take_succ_cons,wW,List.getD_cons_succ] at this
 ·rintro⟨h1,h2⟩ k hk
  match k with
  |0=>exact h1
  |k+1=>
   rw[List.take_succ_cons,wW,List.getD_cons_succ]
   exact h2 k (by simpa using hk)
end Go.AM
end
section
namespace Go.AM
def b9 (c:Cfg):TSt→List Ev→Nat
 |_,[]=>0
 |s,e::l=>if X6 c s e=0 then b9 c (lS c s e) l+1 else 0
theorem aNZ {c:Cfg}: ∀{l:List Ev} {s:TSt},b9 c s l≤l.length
 | [],s=>Nat.le_refl _
 |e::l,s=>by
  unfold b9
  split
  ·have:=aNZ (c:=c) (l:=l) (s:=lS c s e);simp;omega
  ·simp
theorem aOI {c:Cfg}: ∀{l:List Ev} {s:TSt},F9 c s (l.take (b9 c s l))
 | [],s=>pV
 |e::l,s=>by
  unfold b9
  split
  ·rename_i h
   rw[List.take_succ_cons,xB]
   exact⟨h,aOI⟩
  ·exact pV
theorem aN8 {c:Cfg}: ∀{l:List Ev} {s:TSt},b9 c s l<l.length→X6 c (runM c s (l.take (b9 c s l))) (l.getD (b9 c s l) default)≠0
 | [],s,h=>by simp[b9] at h
 |e::l,s,h=>by
  unfold b9 at h ⊢
  split
  ·rename_i hw
   rw[if_pos hw] at h
   rw[List.take_succ_cons,wW,List.getD_cons_succ]
   exact aN8 (by simpa using h)
  ·rename_i hw
   simpa [runM] using hw
theorem aS0 {c:Cfg} {s:TSt} {es:List Ev} {k:Nat} (hk:k<b9 c s es):X6 c (runM c s (es.take k)) (es.getD k default)=0:=by
 have hp:=aOI (c:=c) (l:=es) (s:=s)
 have hle:=aNZ (c:=c) (l:=es) (s:=s)
 have:=hp k (by rw[List.length_take];omega)
 rw[List.take_take,Nat.min_eq_left (by omega)] at this
 rwa [show (es.take (b9 c s es)).getD k default=es.getD k default by simp[List.getD,List.getElem?_take,hk]] at this
theorem aPL {c:Cfg} {s:TSt} {es:List Ev} (hb:aQ c) (hs:BA c s) {k:Nat} (hk:k≤b9 c s es):BA c (runM c s (es.take k)):=by
 have hle:=aNZ (c:=c) (l:=es) (s:=s)
 have:=ax6 hb hs (aOI (c:=c) (l:=es) (s:=s)) k (by rw[List.length_take];omega)
 rwa [List.take_take,Nat.min_eq_left hk] at this
def aP8 (c:Cfg) (es:List Ev):Int×Int:=if b9 c st0 es=es.length then (-1,0) else ((b9 c st0 es:Int),X6 c (runM c st0 (es.take (b9 c st0 es))) (es.getD (b9 c st0 es) default))
end Go.AM
end
