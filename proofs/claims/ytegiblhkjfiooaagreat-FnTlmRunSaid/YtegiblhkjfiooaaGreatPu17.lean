/- Texts laid together by a program: rules, contracts and the walk that leads to the law. -/
import Derived.Test.YtegiblhkjfiooaaGreatPu9
import Derived.Test.YtegiblhkjfiooaaGreatPu8
import Derived.Test.YtegiblhkjfiooaaGreatPu3
import Derived.Test.YtegiblhkjfiooaaGreatPu15
set_option linter.unusedVariables false
set_option linter.unusedSimpArgs false
set_option linter.unusedSectionVars false
section
namespace Go.Proofs.YtegiblhkjfiooaaGreat
open Go Go.AM
set_option maxRecDepth 100000
set_option maxHeartbeats 1000000
attribute [go_sem] List.length_set
section
variable {H : aA} {nx : Nat} {K : D → aA → Nat → Prop}
theorem aSC (old new lanes:Int) (h1:0≤old∧old≤65535) (h2:0≤new∧new≤65535) (h3:0≤lanes∧lanes≤3):aB Tryz.prog aNH [dI old,dI new,dI lanes] .nil 0 fun rr _ _=>rr.plain=true∧rr=dI (xZ old new lanes):=by
 refine aQM rfl fun Q hQ=> ?_
 unfold aNS
 repeat' (first| (with_reducible first| (refine hK _ _ _ ?_;clear hK K)| (refine hA ?_;clear hA hB A B)| (refine hB ?_;clear hA hB A B)|refine Z1 ?_|refine Z2 ?_|refine Z5 (by omega) ?_|refine Z6 (fun h=> ?_) fun h=> ?_)| (first| (with_reducible first|refine Y2 fun K hK=> ?_|refine Y3 fun A B hA hB=> ?_|refine Y5 (by omega) ?_)| (with_reducible refine aBC ?_))<;>(simp only[go_sem,Int.tmod_eq_emod_of_nonneg h1.1,Int.tdiv_eq_ediv_of_nonneg h1.1,Int.tmod_eq_emod_of_nonneg h2.1,Int.tdiv_eq_ediv_of_nonneg h2.1,Int.tmod_eq_emod_of_nonneg h3.1,Int.tdiv_eq_ediv_of_nonneg h3.1];try simp (disch:=omega) only[Iw])| ((with_reducible refine Y8 ?_);try simp only[AQ.then,AQ.blk,reduceIte,Nat.reduceEqDiff])|fail)
 all_goals first|with_reducible refine aZ hQ _ rfl rfl ?_|skip
 all_goals exact qA (by unfold xZ;simp[*])
theorem aRW {old:Int} {new:Int} {lanes:Int} (h1:0≤old∧old≤65535) (h2:0≤new∧new≤65535) (h3:0≤lanes∧lanes≤3) (h:K (dI (xZ old new lanes)) H nx):aB Tryz.prog aNH [dI old,dI new,dI lanes] H nx K:=
 (aSC old new lanes h1 h2 h3).pure rfl (aI ⟨aE rfl,aE rfl,aE rfl,trivial⟩) (fun r hr=>hr▸h)
theorem aS1 (w all:List Int) (wc wm:Nat) (hwl:w.length=64) (hwc:64≤wc) (ha:All all 0 63) (hal:all.length<2^20):aB Tryz.prog W3 [dA [.osl 1 0 0 64 wc],dS (all.map aJ)] (hp [(0,⟨1,wm,w.map aJ⟩)]) 1
 fun r H' n'=>n'=1∧ ∃o',H'=hp [(0,o')]∧C7 o'∧o'=⟨1,wm,w.map aJ⟩∧r=dS ((all.map fun a=>w.getD a.toNat default).map aJ):=by
 refine aR8 rfl fun Q hQ=> ?_
 unfold aN4
 repeat' (first| (with_reducible first| (refine hK _ _ _ ?_;clear hK K)|refine Z1 ?_|refine Z3 fun KB hKB=> ?_)| (with_reducible refine Y2 fun K hK=> ?_)<;>(simp only[go_sem])|fail)
 (have hKX:=hKB;clear hKB)
 refine aM.sG 2 (β:=Nat×Nat) (fun b u=>en [(6,dI u.1),(5,dO 1 (b+1) u.1 u.2),(2,dP 1 b),(1,dS (all.map aJ))])
  (fun b u=>hp [(0,⟨1,wm,w.map aJ⟩),(b,⟨1,1,[[.osl 1 0 0 64 wc]]⟩),(b+1,⟨1,u.2,((all.take u.1).map fun a=>w.getD a.toNat default).map aJ⟩)]) (fun u=>u.1≤all.length∧u.1≤u.2) (fun u=>all.length-u.1) (0,0)
  (by(refine cR [1,3,0] (by omega) (by repeat' (first| (with_reducible first|exact C1|refine C2 ?_ ?_)| ((with_reducible refine C0 ?_);first|exact CC|exact CE (by omega) rfl)| ((with_reducible refine D0 ?_);first|exact CA rfl|refine CJ ?_)|fail)) ⟨⟨by simp,by simp[sgL],_,rfl,bP (aG bF _) rfl rfl⟩,⟨by simp,by simp[sgL],_,rfl,aP (by repeat' (first| (with_reducible first|exact C3|refine C4 ?_ ?_)| ((with_reducible refine C0 ?_);exact CQ (by omega) rfl rfl (by rfl) rfl)|fail))⟩,⟨by simp,by simp[sgL],_,rfl,bP (aG bF _) rfl rfl⟩,trivial⟩ (by simp[sgL]))) ⟨by omega,by omega⟩ ?_
 rintro⟨k,cap⟩ ⟨hk,hc⟩ KL hKL
 dsimp only at hk hc
 by_cases hlt:k<all.length
 ·have hb:=HB ha hlt
  repeat' (first| (with_reducible first| (refine hK _ _ _ ?_;clear hK K)| (refine hA ?_;clear hA hB A B)|refine Z1 ?_|refine Z2 ?_|refine Z3 fun KB hKB=> ?_|refine Z4 (by omega) ?_|refine fun(cap:Nat) (hcap:_≤cap)=> ?_|refine fun(hcp:_≤cap)=> ?_)| (with_reducible first|refine Y2 fun K hK=> ?_|refine Y3 fun A B hA hB=> ?_)<;>(simp only[go_sem];try simp (disch:=omega) only[Iw])| ((with_reducible refine Y0 ?_);simp only[AQ.then,AQ.blk])|refine⟨by omega,?_⟩| (refine⟨by(rw[List.length_take];omega),?_⟩)| (with_reducible refine hKB _ _ _ ?_)|fail)
  refine hKL _ _ _ (k+1,cap) (by omega) (by(refine cR [6,22,0] (by omega) (by repeat' (first| (with_reducible first|exact C1|refine C2 ?_ ?_)| ((with_reducible refine C0 ?_);first|exact CQ (by omega) rfl rfl (by rfl) rfl|exact CE (by omega) rfl)| ((with_reducible refine D0 ?_);first|exact CA rfl|refine CJ ?_)|fail)) ⟨⟨by simp,by simp[sgL],_,rfl,bP (aG bF _) rfl rfl⟩,⟨by simp,by simp[sgL],_,rfl,aP (by repeat' (first| (with_reducible first|exact C3|refine C4 ?_ ?_)| ((with_reducible refine C0 ?_);exact CQ (by omega) rfl rfl (by rfl) rfl)|fail))⟩,⟨by simp,by simp[sgL],_,rfl,bP (aG bF _) (by rw[nK hlt,List.map_append,List.take_of_length_le (l:=List.map _ (List.take k all)) (by simp;omega)];rfl) rfl⟩,trivial⟩ (by simp[sgL]))) ⟨by dsimp only;omega,by dsimp only;omega⟩ (by dsimp only;omega)
 ·repeat' (first| (with_reducible first| (refine hK _ _ _ ?_;clear hK K)| (refine hB ?_;clear hA hB A B)|refine Z1 ?_|refine Z5 (by omega) ?_|refine hKX _ _ _ ?_)| (with_reducible first|refine Y2 fun K hK=> ?_|refine Y3 fun A B hA hB=> ?_)<;>(simp only[go_sem])| ((with_reducible first|refine Y8 ?_|refine Y9 ?_);try simp only[AQ.then,AQ.blk,reduceIte,Nat.reduceEqDiff])|fail)
  have hk2:k=all.length:=by omega
  subst hk2
  exact lA hQ (dS _) _ _ rfl (yP (l:=(all.take all.length).map fun a=>w.getD a.toNat default) bF rfl (by simp) (by simp;omega) (by decide)) rfl (oB bF _) ⟨rfl,by rw[List.take_length]⟩
theorem aSW {w all:List Int} {wc wm i:Nat} (hwl:w.length=64) (hwc:64≤wc) (ha:All all 0 63) (hal:all.length<2^20) (hi:i<nx) (ho:H i=some ⟨1,wm,w.map aJ⟩) (h:K (dS ((all.map fun a=>w.getD a.toNat default).map aJ)) (H.set i ⟨1,wm,w.map aJ⟩) nx):
 aB Tryz.prog W3 [dA [.osl 1 i 0 64 wc],dS (all.map aJ)] H nx K:=
 (aS1 w all wc wm hwl hwc ha hal).OU i rfl (gW ⟨aH (aaF (by omega) rfl rfl rfl rfl) eP,aE rfl,trivial⟩) hi ho (oB bF _) fun r o' ⟨h1,h2⟩=>by
  subst h1;subst h2;exact h
theorem aSV (w all data lanes:List Int) (wc wm:Nat) (hwl:w.length=64) (hw:All w 0 65535) (hwc:64≤wc) (ha:All all 0 63) (hal:all.length<2^20) (hd:All data 0 65535) (hdl:data.length=all.length) (hl:All lanes 0 3) (hll:lanes.length=all.length):
 aB Tryz.prog H5 [dA [.osl 1 0 0 64 wc],dS (all.map aJ),dS (data.map aJ),dS (lanes.map aJ)] (hp [(0,⟨1,wm,w.map aJ⟩)]) 1
 fun r H' n'=>n'=1∧ ∃o',H'=hp [(0,o')]∧C7 o'∧o'=⟨1,wm,(FV w all data lanes all.length).map aJ⟩∧r=dA [.osl 1 0 0 64 wc]:=by
 refine aRX rfl fun Q hQ=> ?_
 unfold aN6
 repeat' (first| (with_reducible first| (refine hK _ _ _ ?_;clear hK K)|refine Z1 ?_|refine Z3 fun KB hKB=> ?_)| (with_reducible refine Y2 fun K hK=> ?_)<;>(simp only[go_sem])|fail)
 (have hKX:=hKB;clear hKB)
 refine aM.sG 2 (β:=Nat) (fun b k=>en [(9,dI k),(8,dP 1 (b+1)),(4,dP 1 b),(3,dS (lanes.map aJ)),(2,dS (data.map aJ)),(1,dS (all.map aJ))])
  (fun b k=>hp [(0,⟨1,wm,(FV w all data lanes k).map aJ⟩),(b,⟨1,1,[[.osl 1 0 0 64 wc]]⟩),(b+1,⟨1,1,[[.osl 0 0 0 0 0]]⟩)]) (fun k=>k≤all.length) (fun k=>all.length-k) 0
  (by(refine cR [1,2,0] (by omega) (by repeat' (first| (with_reducible first|exact C1|refine C2 ?_ ?_)| ((with_reducible refine C0 ?_);exact CE (by omega) rfl)| ((with_reducible refine D0 ?_);first|exact CA rfl|refine CJ ?_)|fail)) ⟨⟨by simp,by simp[sgL],_,rfl,bP (aG bF _) rfl rfl⟩,⟨by simp,by simp[sgL],_,rfl,aP (by repeat' (first| (with_reducible first|exact C3|refine C4 ?_ ?_)| ((with_reducible refine C0 ?_);exact CQ (by omega) rfl rfl (by rfl) rfl)|fail))⟩,⟨by simp,by simp[sgL],_,rfl,aP (by repeat' (first| (with_reducible first|exact C3|refine C4 ?_ ?_)| ((with_reducible refine C0 ?_);exact CC)|fail))⟩,trivial⟩ (by simp[sgL]))) (by omega) ?_
 rintro k hk KL hKL
 have hpl:=AX (w:=w) (all:=all) (data:=data) (lanes:=lanes) k
 have hpw:=afR (all:=all) (lanes:=lanes) hw hd k
 by_cases hlt:k<all.length
 ·have hb:=HB ha hlt
  have hb2:(all.getD k default).toNat<(FV w all data lanes k).length:=by omega
  repeat' (first| (with_reducible first| (refine hK _ _ _ ?_;clear hK K)| (refine hA ?_;clear hA hB A B)|refine Z1 ?_|refine Z2 ?_|refine Z3 fun KB hKB=> ?_|refine Z4 (by omega) ?_)| (first| (with_reducible first|refine Y2 fun K hK=> ?_|refine Y3 fun A B hA hB=> ?_)| (with_reducible refine aRW (HB hpw hb2) (HB hd (by omega)) (HB hl (by omega)) ?_))<;>(simp only[go_sem];try simp (disch:=omega) only[Iw])| ((with_reducible refine Y0 ?_);simp only[AQ.then,AQ.blk])|refine⟨by omega,?_⟩| (with_reducible refine hKB _ _ _ ?_)|fail)
  exact hKL _ _ _ (k+1) (by omega) (by(refine cR [4,5,0] (by omega) (by repeat' (first| (with_reducible first|exact C1|refine C2 ?_ ?_)| ((with_reducible refine C0 ?_);exact CE (by omega) rfl)| ((with_reducible refine D0 ?_);first|exact CA rfl|refine CJ ?_)|fail)) ⟨⟨by simp,by simp[sgL],_,rfl,bP (aG bF _) rfl rfl⟩,⟨by simp,by simp[sgL],_,rfl,aP (by repeat' (first| (with_reducible first|exact C3|refine C4 ?_ ?_)| ((with_reducible refine C0 ?_);exact CQ (by omega) rfl rfl (by rfl) rfl)|fail))⟩,⟨by simp,by simp[sgL],_,rfl,aP (by repeat' (first| (with_reducible first|exact C3|refine C4 ?_ ?_)| ((with_reducible refine C0 ?_);exact CC)|fail))⟩,trivial⟩ (by simp[sgL]))) (by omega) (by omega)
 ·repeat' (first| (with_reducible first| (refine hK _ _ _ ?_;clear hK K)| (refine hB ?_;clear hA hB A B)|refine Z1 ?_|refine Z5 (by omega) ?_|refine hKX _ _ _ ?_)| (with_reducible first|refine Y2 fun K hK=> ?_|refine Y3 fun A B hA hB=> ?_)<;>(simp only[go_sem])| ((with_reducible first|refine Y8 ?_|refine Y9 ?_);try simp only[AQ.then,AQ.blk,reduceIte,Nat.reduceEqDiff])|fail)
  have hk2:k=all.length:=by omega
  subst hk2
  exact lA hQ (dA [.osl 1 0 0 64 wc]) _ _ rfl (aH (aaF (by omega) rfl rfl rfl rfl) eP) rfl (oB bF _) ⟨rfl,rfl⟩
theorem aS5 {w all data lanes:List Int} {wc wm i:Nat} (hwl:w.length=64) (hw:All w 0 65535) (hwc:64≤wc) (ha:All all 0 63) (hal:all.length<2^20) (hd:All data 0 65535) (hdl:data.length=all.length) (hl:All lanes 0 3) (hll:lanes.length=all.length)
 (hi:i<nx) (ho:H i=some ⟨1,wm,w.map aJ⟩) (h:K (dA [.osl 1 i 0 64 wc]) (H.set i ⟨1,wm,(FV w all data lanes all.length).map aJ⟩) nx):
 aB Tryz.prog H5 [dA [.osl 1 i 0 64 wc],dS (all.map aJ),dS (data.map aJ),dS (lanes.map aJ)] H nx K:=
 (aSV w all data lanes wc wm hwl hw hwc ha hal hd hdl hl hll).OU i rfl (gW ⟨aH (aaF (by omega) rfl rfl rfl rfl) eP,aE rfl,aE rfl,aE rfl,trivial⟩) hi ho (oB bF _) fun r o' ⟨h1,h2⟩=>by
  subst h1;subst h2;exact h
theorem aSK (w hs all:List Int) (wc wm hc hm:Nat) (hsl:hs.length=6) (hhc:6≤hc) (hal:all.length<2^20) (ha:All all 0 63):
 aB Tryz.prog v9 [dA [.osl 1 0 0 64 wc,.osl 1 1 0 6 hc],dS (all.map aJ)] (hp [(0,⟨1,wm,w.map aJ⟩),(1,⟨1,hm,hs.map aJ⟩)]) 2
 fun r H' n'=>n'=2∧ ∃o1' o2',H'=hp [(0,o1'),(1,o2')]∧C7 o1'∧C7 o2'∧o1'=⟨1,wm,w.map aJ⟩∧o2'=⟨1,hm,(iU hs all).map aJ⟩∧r=dA [.osl 1 0 0 64 wc,.osl 1 1 0 6 hc]:=by
 refine aRM rfl fun Q hQ=> ?_
 unfold aNU
 repeat' (first| (with_reducible first| (refine hK _ _ _ ?_;clear hK K)|refine Z1 ?_|refine Z3 fun KB hKB=> ?_)| (with_reducible refine Y2 fun K hK=> ?_)<;>(simp only[go_sem])|fail)
 (have hKX:=hKB;clear hKB)
 refine aM.sG 2 (β:=Nat) (fun b k=>en [(5,dI k),(4,dP 2 (b+1)),(2,dP 2 b),(1,dS (all.map aJ))])
  (fun b k=>hp [(0,⟨1,wm,w.map aJ⟩),(1,⟨1,hm,(xI hs all k).map aJ⟩),(b,⟨2,1,[[.osl 1 0 0 64 wc,.osl 1 1 0 6 hc]]⟩),(b+1,⟨2,1,[[.osl 0 0 0 0 0,.osl 0 0 0 0 0]]⟩)]) (fun k=>k≤6) (fun k=>6-k) 0
  (by(refine cR [2,3,0,1] (by omega) (by repeat' (first| (with_reducible first|exact C1|refine C2 ?_ ?_)| ((with_reducible refine C0 ?_);exact CE (by omega) rfl)| ((with_reducible refine D0 ?_);first|exact CA rfl|refine CJ ?_)|fail)) ⟨⟨by simp,by simp[sgL],_,rfl,bP (aG bF _) rfl rfl⟩,⟨by simp,by simp[sgL],_,rfl,bP (aG bF _) (congrArg _ ac9) rfl⟩,⟨by simp,by simp[sgL],_,rfl,aP (by repeat' (first| (with_reducible first|exact C3|refine C4 ?_ ?_)| ((with_reducible refine C0 ?_);exact CQ (by omega) rfl rfl (by rfl) rfl)|fail))⟩,⟨by simp,by simp[sgL],_,rfl,aP (by repeat' (first| (with_reducible first|exact C3|refine C4 ?_ ?_)| ((with_reducible refine C0 ?_);exact CC)|fail))⟩,trivial⟩ (by simp[sgL]))) (by omega) ?_
 rintro k hk KL hKL
 have hfl:=aiJ (all:=all) (show k≤hs.length by omega)
 by_cases hlt:k<6
 ·have hfa:=akN (all:=all) (show k<hs.length by omega)
  have hss:=acP (all:=all) (show k<hs.length by omega)
  repeat' (first| (with_reducible first| (refine hK _ _ _ ?_;clear hK K)| (refine hA ?_;clear hA hB A B)|refine Z1 ?_|refine Z2 ?_|refine Z3 fun KB hKB=> ?_|refine Z4 (by omega) ?_)| (with_reducible first|refine Y2 fun K hK=> ?_|refine Y3 fun A B hA hB=> ?_)<;>(simp only[go_sem])|fail)
  (have hKY:=hKB;clear hKB)
  refine aM.sG 0 (β:=Nat×Int) (fun b u=>en [(6,dI u.1),(5,dI k),(4,dP 2 6),(2,dP 2 5),(1,dS (all.map aJ))])
   (fun b u=>hp [(0,⟨1,wm,w.map aJ⟩),(1,⟨1,hm,((xI hs all k).set k u.2).map aJ⟩),(5,⟨2,1,[[.osl 1 0 0 64 wc,.osl 1 1 0 6 hc]]⟩),(6,⟨2,1,[[.osl 0 0 0 0 0,.osl 0 0 0 0 0]]⟩)]) (fun u=>u.1≤all.length∧u.2=if hs.getD k default∈all.take u.1 then-1 else hs.getD k default) (fun u=>all.length-u.1) (0,hs.getD k default)
   (by(refine cR [0,1,5,6] (by omega) (by repeat' (first| (with_reducible first|exact C1|refine C2 ?_ ?_)| ((with_reducible refine C0 ?_);exact CE (by omega) rfl)| ((with_reducible refine D0 ?_);first|exact CA rfl|refine CJ ?_)|fail)) ⟨⟨by simp,by simp[sgL],_,rfl,bP (aG bF _) rfl rfl⟩,⟨by simp,by simp[sgL],_,rfl,bP (aG bF _) (congrArg _ hss) rfl⟩,⟨by simp,by simp[sgL],_,rfl,aP (by repeat' (first| (with_reducible first|exact C3|refine C4 ?_ ?_)| ((with_reducible refine C0 ?_);exact CQ (by omega) rfl rfl (by rfl) rfl)|fail))⟩,⟨by simp,by simp[sgL],_,rfl,aP (by repeat' (first| (with_reducible first|exact C3|refine C4 ?_ ?_)| ((with_reducible refine C0 ?_);exact CC)|fail))⟩,trivial⟩ (by simp[sgL]))) ⟨by omega,by simp⟩ ?_
  rintro⟨j,v⟩ ⟨hj,hv⟩ aUS hKI
  dsimp only at hj hv
  by_cases hjt:j<all.length
  ·have hb:=HB ha hjt
   have hg:((xI hs all k).set k v).getD k default=v:=by rw[wV (by omega),if_pos rfl]
   have hset: ∀x,((xI hs all k).set k v).set k x=(xI hs all k).set k x:=fun x=>by rw[List.set_set]
   have ht:=nK hjt
   repeat' (first| (with_reducible first| (refine hK _ _ _ ?_;clear hK K)| (refine hA ?_;clear hA hB A B)| (refine hB ?_;clear hA hB A B)|refine Z1 ?_|refine Z2 ?_|refine Z3 fun KB hKB=> ?_|refine Z4 (by omega) ?_|refine Z6 (fun h=> ?_) fun h=> ?_)| (with_reducible first|refine Y2 fun K hK=> ?_|refine Y3 fun A B hA hB=> ?_)<;>(simp only[go_sem,hg,hset];try simp (disch:=omega) only[Iw])| ((with_reducible refine Y0 ?_);simp only[AQ.then,AQ.blk])|refine⟨by omega,?_⟩| (with_reducible refine hKB _ _ _ ?_)|fail)
   ·exact hKI _ _ _ (j+1,-1) (by omega) (by(refine cR [0,1,5,6] (by omega) (by repeat' (first| (with_reducible first|exact C1|refine C2 ?_ ?_)| ((with_reducible refine C0 ?_);exact CE (by omega) rfl)| ((with_reducible refine D0 ?_);first|exact CA rfl|refine CJ ?_)|fail)) ⟨⟨by simp,by simp[sgL],_,rfl,bP (aG bF _) rfl rfl⟩,⟨by simp,by simp[sgL],_,rfl,bP (aG bF _) rfl rfl⟩,⟨by simp,by simp[sgL],_,rfl,aP (by repeat' (first| (with_reducible first|exact C3|refine C4 ?_ ?_)| ((with_reducible refine C0 ?_);exact CQ (by omega) rfl rfl (by rfl) rfl)|fail))⟩,⟨by simp,by simp[sgL],_,rfl,aP (by repeat' (first| (with_reducible first|exact C3|refine C4 ?_ ?_)| ((with_reducible refine C0 ?_);exact CC)|fail))⟩,trivial⟩ (by simp[sgL]))) ⟨by dsimp only;omega,by dsimp only;rw[ht];grind⟩ (by dsimp only;omega)
   ·exact hKI _ _ _ (j+1,v) (by omega) (by(refine cR [0,1,5,6] (by omega) (by repeat' (first| (with_reducible first|exact C1|refine C2 ?_ ?_)| ((with_reducible refine C0 ?_);exact CE (by omega) rfl)| ((with_reducible refine D0 ?_);first|exact CA rfl|refine CJ ?_)|fail)) ⟨⟨by simp,by simp[sgL],_,rfl,bP (aG bF _) rfl rfl⟩,⟨by simp,by simp[sgL],_,rfl,bP (aG bF _) rfl rfl⟩,⟨by simp,by simp[sgL],_,rfl,aP (by repeat' (first| (with_reducible first|exact C3|refine C4 ?_ ?_)| ((with_reducible refine C0 ?_);exact CQ (by omega) rfl rfl (by rfl) rfl)|fail))⟩,⟨by simp,by simp[sgL],_,rfl,aP (by repeat' (first| (with_reducible first|exact C3|refine C4 ?_ ?_)| ((with_reducible refine C0 ?_);exact CC)|fail))⟩,trivial⟩ (by simp[sgL]))) ⟨by dsimp only;omega,by dsimp only;rw[ht];grind⟩ (by dsimp only;omega)
  ·have hj2:j=all.length:=by omega
   subst hj2
   have hnx:=agQ (x:=v) (show k<hs.length by omega) (by rw[hv,List.take_length])
   repeat' (first| (with_reducible first| (refine hK _ _ _ ?_;clear hK K)| (refine hB ?_;clear hA hB A B)|refine Z1 ?_|refine Z5 (by omega) ?_|refine hKY _ _ _ ?_)| (with_reducible first|refine Y2 fun K hK=> ?_|refine Y3 fun A B hA hB=> ?_)<;>(simp only[go_sem];try simp (disch:=omega) only[Iw])| ((with_reducible refine Y9 ?_);try simp only[AQ.then,AQ.blk,reduceIte,Nat.reduceEqDiff])| ((with_reducible refine Y0 ?_);simp only[AQ.then,AQ.blk])| (with_reducible refine hKB _ _ _ ?_)|fail)
   exact hKL _ _ _ (k+1) (by omega) (by(refine cR [5,6,0,1] (by omega) (by repeat' (first| (with_reducible first|exact C1|refine C2 ?_ ?_)| ((with_reducible refine C0 ?_);exact CE (by omega) rfl)| ((with_reducible refine D0 ?_);first|exact CA rfl|refine CJ ?_)|fail)) ⟨⟨by simp,by simp[sgL],_,rfl,bP (aG bF _) rfl rfl⟩,⟨by simp,by simp[sgL],_,rfl,bP (aG bF _) (by rw[hnx]) rfl⟩,⟨by simp,by simp[sgL],_,rfl,aP (by repeat' (first| (with_reducible first|exact C3|refine C4 ?_ ?_)| ((with_reducible refine C0 ?_);exact CQ (by omega) rfl rfl (by rfl) rfl)|fail))⟩,⟨by simp,by simp[sgL],_,rfl,aP (by repeat' (first| (with_reducible first|exact C3|refine C4 ?_ ?_)| ((with_reducible refine C0 ?_);exact CC)|fail))⟩,trivial⟩ (by simp[sgL]))) (by omega) (by omega)
 ·repeat' (first| (with_reducible first| (refine hK _ _ _ ?_;clear hK K)| (refine hB ?_;clear hA hB A B)|refine Z1 ?_|refine Z5 (by omega) ?_|refine hKX _ _ _ ?_)| (with_reducible first|refine Y2 fun K hK=> ?_|refine Y3 fun A B hA hB=> ?_)<;>(simp only[go_sem])| ((with_reducible first|refine Y8 ?_|refine Y9 ?_);try simp only[AQ.then,AQ.blk,reduceIte,Nat.reduceEqDiff])|fail)
  have hk2:k=hs.length:=by omega
  subst hk2
  exact aTE hQ (dA [.osl 1 0 0 64 wc,.osl 1 1 0 6 hc]) _ _ _ rfl (by repeat' (first| ((with_reducible refine C0 ?_);exact CQ (by omega) rfl rfl (by rfl) rfl)| ((with_reducible refine D0 ?_);refine C9 ?_)|exact C3|refine C4 ?_ ?_|fail)) rfl rfl (oB bF _) (oB bF _) ⟨rfl,by rw[ahC],rfl⟩
theorem aSH {w hs all:List Int} {wc wm hc hm i j:Nat} (hsl:hs.length=6) (hhc:6≤hc) (hal:all.length<2^20) (ha:All all 0 63)
 (hi:i<nx) (hj:j<nx) (hij:i≠j) (ho1:H i=some ⟨1,wm,w.map aJ⟩) (ho2:H j=some ⟨1,hm,hs.map aJ⟩) (h:K (dA [.osl 1 i 0 64 wc,.osl 1 j 0 6 hc]) ((H.set i ⟨1,wm,w.map aJ⟩).set j ⟨1,hm,(iU hs all).map aJ⟩) nx):
 aB Tryz.prog v9 [dA [.osl 1 i 0 64 wc,.osl 1 j 0 6 hc],dS (all.map aJ)] H nx K:=
 (aSK w hs all wc wm hc hm hsl hhc hal ha).aUH i j rfl (gW ⟨aH (aaF (by omega) rfl rfl rfl rfl) (aH (aaF (by omega) rfl rfl rfl rfl) eP),aE rfl,trivial⟩) hi hj hij ho1 ho2 (oB bF _) (oB bF _) fun r o1' o2' ⟨h1,h2,h3⟩=>by
  subst h1;subst h2;subst h3;exact h
theorem aTB (m:List Rng) (w hs:List Int) (who:Int) (q:Req) (wc wm hc hm:Nat) (hm4:m.length<2^20) (hf:WK w hs) (hwc:64≤wc) (hhc:6≤hc) (hw:0≤who∧who≤2) (hq:dH q):
 aB Tryz.prog aN2 [dS (m.map eN),dA [.osl 1 0 0 64 wc,.osl 1 1 0 6 hc],dI who,dA (eB q)] (hp [(0,⟨1,wm,w.map aJ⟩),(1,⟨1,hm,hs.map aJ⟩)]) 2
 fun r H' n'=>n'=2∧ ∃o1' o2',H'=hp [(0,o1'),(1,o2')]∧C7 o1'∧C7 o2'∧o1'=⟨1,wm,(doM m w hs who q).1.1.map aJ⟩∧o2'=⟨1,hm,(doM m w hs who q).1.2.map aJ⟩∧r= .tup [.agg [.osl 1 0 0 64 wc,.osl 1 1 0 6 hc],.agg (tG (doM m w hs who q).2)]:=by
 obtain⟨hwl,hwr,hsl,hsr⟩:=hf
 obtain⟨hq1,hq2,hq3,hq4,hq5,hq6,hq7,hq8⟩:=hq
 have hbl:=DF hq3
 have hbp:=ai5 hq3
 have hb4:=MK (addr:=q.addr) (many:=q.many) (wrap:=q.wrap)
 have hbi:All (bE q.addr q.many q.wrap) 0 63:=V1
 have hlt:=PQ (p:=(inR · ((bE q.addr q.many q.wrap).getD 0 default))) (l:=m)
 have hwh:bV m (bE q.addr q.many q.wrap)<m.length:=by unfold bV;grind
 have hdl:wrM q=true→q.data.length=(bE q.addr q.many q.wrap).length∧q.lanes.length=(bE q.addr q.many q.wrap).length:=by
  intro h;unfold wrM at h;unfold n5 at hq4 hq5;simp at h;simp only[h,if_true] at hq4 hq5;omega
 refine aSX rfl fun Q hQ=> ?_
 unfold aOF
 repeat' (first| (with_reducible first| (refine hK _ _ _ ?_;clear hK K)| (refine hA ?_;clear hA hB A B)| (refine hB ?_;clear hA hB A B)|refine Z1 ?_|refine Z2 ?_|refine Z3 fun KB hKB=> ?_|refine Z6 (fun h=> ?_) fun h=> ?_)| (first| (with_reducible first|refine Y2 fun K hK=> ?_|refine Y3 fun A B hA hB=> ?_| (refine Y7 (fun h=> ?_) (fun h=> ?_)<;>try subst h))| (with_reducible refine aC9 ?_)| (with_reducible refine aDG (by omega) (by omega) ?_)| (with_reducible refine aC2 ?_)| (refine aSW hwl hwc hbi (by omega) (by omega) rfl ?_)| (refine aS5 hwl hwr hwc hbi (by omega) hq6 (hdl (by unfold wrM;simp;omega)).1 hq7 (hdl (by unfold wrM;simp;omega)).2 (by omega) rfl ?_)| (refine aSH hsl hhc (by omega) hbi (by omega) (by omega) (by omega) rfl rfl ?_))<;>(simp only[go_sem];try simp (disch:=omega) only[Iw])| ((with_reducible refine Y8 ?_);try simp only[AQ.then,AQ.blk,reduceIte,Nat.reduceEqDiff])| ((with_reducible refine Y0 ?_);simp only[AQ.then,AQ.blk])| ((with_reducible refine Z8 (fun h=> ?_) (fun h=> ?_))<;>try subst h)|refine⟨by omega,?_⟩| (with_reducible refine hKB _ _ _ ?_)|fail)
 all_goals have hwi:=W4 (q:=q)
 all_goals first
  |rw[alZ (by assumption)] at hQ
  |rw[anB (by assumption) (by assumption) (by assumption)] at hQ
  |rw[akI (by assumption) (by assumption)] at hQ
  |rw[amK (by assumption) (by assumption)] at hQ
  |rw[aqU (by assumption) (by grind) (by assumption) (by assumption)] at hQ
  |rw[aoE (by assumption) (by grind) (by assumption) (by grind)] at hQ
  |rw[ao1 (by assumption) (by grind) (by omega)] at hQ
  | (exfalso;grind)
 all_goals exact aTE hQ _ _ _ _ rfl (by repeat' (first| (with_reducible first|refine aUP ?_ ?_|refine aUQ ?_)| ((with_reducible refine C0 ?_);first|exact CB rfl|exact CQ (by omega) rfl rfl (by rfl) rfl|exact CF)|exact C3|refine C4 ?_ ?_|fail)) rfl rfl (oB bF _) (oB bF _) ⟨rfl,rfl,rfl⟩
theorem aS7 {m:List Rng} {w hs:List Int} {who:Int} {q:Req} {wc wm hc hm i j:Nat} (hm4:m.length<2^20) (hf:WK w hs) (hwc:64≤wc) (hhc:6≤hc) (hw:0≤who∧who≤2) (hq:dH q)
 (hi:i<nx) (hj:j<nx) (hij:i≠j) (ho1:H i=some ⟨1,wm,w.map aJ⟩) (ho2:H j=some ⟨1,hm,hs.map aJ⟩)
 (h:K (.tup [.agg [.osl 1 i 0 64 wc,.osl 1 j 0 6 hc],.agg (tG (doM m w hs who q).2)]) ((H.set i ⟨1,wm,(doM m w hs who q).1.1.map aJ⟩).set j ⟨1,hm,(doM m w hs who q).1.2.map aJ⟩) nx):
 aB Tryz.prog aN2 [dS (m.map eN),dA [.osl 1 i 0 64 wc,.osl 1 j 0 6 hc],dI who,dA (eB q)] H nx K:=
 (aTB m w hs who q wc wm hc hm hm4 hf hwc hhc hw hq).aUH i j rfl (gW ⟨aE rfl,aH (aaF (by omega) rfl rfl rfl rfl) (aH (aaF (by omega) rfl rfl rfl rfl) eP),aE rfl,aE rfl,trivial⟩) hi hj hij ho1 ho2 (oB bF _) (oB bF _) fun r o1' o2' ⟨h1,h2,h3⟩=>by
  subst h1;subst h2;subst h3;exact h
end
end Go.Proofs.YtegiblhkjfiooaaGreat
end
section
namespace Go.Proofs.YtegiblhkjfiooaaGreat
open Go Go.AM
set_option maxRecDepth 100000
set_option maxHeartbeats 4000000
section
variable {H : aA} {nx : Nat} {K : D → aA → Nat → Prop}
theorem aS6 (l:List Job) (a:Nat) (ha:a<l.length) (hl:l.length<2^20):aB Tryz.prog gR [dS (l.map aS),dI a] .nil 0 fun rr _ nn=>nn=0∧rr.imm=true∧rr=dS ((MT l a).map aS):=by
 refine aRY rfl fun Q hQ=> ?_
 unfold aN5
 repeat' (first| (with_reducible first| (refine hK _ _ _ ?_;clear hK K)|refine Z1 ?_|refine Z3 fun KB hKB=> ?_)| (with_reducible refine Y2 fun K hK=> ?_)<;>(simp only[go_sem])|fail)
 (have hKX:=hKB;clear hKB)
 refine aM.sG 1 (β:=Nat×Nat) (fun b u=>en [(6,dI u.1),(5,dO 5 b (aPD l a u.1).length u.2),(1,dI a),(0,dS (l.map aS))])
  (fun b u=>hp [(b,⟨5,u.2,(aPD l a u.1).map aS⟩)]) (fun u=>u.1≤l.length∧(aPD l a u.1).length≤u.2) (fun u=>l.length-u.1) (0,0) (by(refine cR [1] (by omega) (by repeat' (first| (with_reducible first|exact C1|refine C2 ?_ ?_)| ((with_reducible refine C0 ?_);exact CC)| ((with_reducible refine D0 ?_);first|exact CA rfl|refine CJ ?_)|fail)) ⟨⟨by simp,by simp[sgL],_,rfl,bP (aG dZ _) rfl rfl⟩,trivial⟩ (by simp[sgL]))) ⟨by omega,by simp[aPD]⟩ ?_
 rintro⟨k,cap⟩ ⟨hk,hc⟩ KL hKL
 dsimp only at hk hc
 have hlen:=aTT (a:=a) hk
 by_cases hlt:k<l.length
 ·repeat' (first| (with_reducible first| (refine hK _ _ _ ?_;clear hK K)| (refine hA ?_;clear hA hB A B)| (refine hB ?_;clear hA hB A B)|refine Z1 ?_|refine Z2 ?_|refine Z3 fun KB hKB=> ?_|refine Z4 (by omega) ?_|refine Z6 (fun h=> ?_) fun h=> ?_|refine fun(cap:Nat) (hcap:_≤cap)=> ?_|refine fun(hcp:_≤cap)=> ?_)| (with_reducible first|refine Y2 fun K hK=> ?_|refine Y3 fun A B hA hB=> ?_)<;>(simp only[go_sem];try simp (disch:=omega) only[Iw])| ((with_reducible refine Y0 ?_);simp only[AQ.then,AQ.blk])|refine⟨by omega,?_⟩| (with_reducible refine hKB _ _ _ ?_)|fail)
  ·have hn:=aUC hlt (a:=a) (by omega)
   have hn2:=congrArg List.length hn
   simp only[List.length_append,List.length_cons,List.length_nil] at hn2
   exact hKL _ _ _ (k+1,cap) (by omega) (by(refine cR [18] (by omega) (by repeat' (first| (with_reducible first|exact C1|refine C2 ?_ ?_)| ((with_reducible refine C0 ?_);exact CQ (by omega) rfl rfl (by omega) rfl)| ((with_reducible refine D0 ?_);first|exact CA rfl|refine CJ ?_)|fail)) ⟨⟨by simp,by simp[sgL],_,rfl,bP (aG dZ _) (congrArg _ hn) rfl⟩,trivial⟩ (by simp[sgL]))) ⟨by dsimp only;omega,by dsimp only;omega⟩ (by dsimp only;omega)
  ·have hn:=aUB hlt (a:=a) (by omega)
   have hn2:=congrArg List.length hn
   exact hKL _ _ _ (k+1,cap) (by omega) (by(refine cR [4] (by omega) (by repeat' (first| (with_reducible first|exact C1|refine C2 ?_ ?_)| ((with_reducible refine C0 ?_);exact CQ (by omega) rfl rfl (by omega) rfl)| ((with_reducible refine D0 ?_);first|exact CA rfl|refine CJ ?_)|fail)) ⟨⟨by simp,by simp[sgL],_,rfl,bP (aG dZ _) (congrArg _ hn) rfl⟩,trivial⟩ (by simp[sgL]))) ⟨by dsimp only;omega,by dsimp only;rw[hn];exact hc⟩ (by dsimp only;omega)
 ·repeat' (first| (with_reducible first| (refine hK _ _ _ ?_;clear hK K)| (refine hB ?_;clear hA hB A B)|refine Z1 ?_|refine Z5 (by omega) ?_|refine hKX _ _ _ ?_)| (with_reducible first|refine Y2 fun K hK=> ?_|refine Y3 fun A B hA hB=> ?_)<;>(simp only[go_sem])| ((with_reducible first|refine Y8 ?_|refine Y9 ?_);try simp only[AQ.then,AQ.blk,reduceIte,Nat.reduceEqDiff])|fail)
  have hk2:k=l.length:=by omega
  subst hk2
  exact V4 hQ (dS _) _ rfl (yP (l:=aPD l a l.length) dZ rfl (by simp) (by omega) trivial) rfl (by rw[aT1 ha])
theorem aSZ {l:List Job} {a:Nat} (ha:a<l.length) (hl:l.length<2^20) (h:K (dS ((MT l a).map aS)) H nx):aB Tryz.prog gR [dS (l.map aS),dI a] H nx K:=
 (aS6 l a ha hl).fresh rfl (fun r hr=>hr▸h)
def oSt (i0 i1 i2 i3 wc hc ac tc:Nat) (s:TSt):List D1:=[.osl 1 i0 0 64 wc,.osl 1 i1 0 6 hc,.osl 1 i2 0 3 ac,.isl (s.wait.map aS),.isl (s.done.map aS),.osl 5 i3 0 s.told.length tc]
theorem aR1 {l:List Job} {a b:Int} (hl:l.length<2^20) (h:K (dS ((BM l ⟨a,b,oW⟩).map aS)) H nx):aB Tryz.prog aJS [dS (l.map aS),dA [cI a,cI b,cI 0,cI 0,.osl 0 0 0 0 0]] H nx K:=
 (aPM l ⟨a,b,oW⟩ hl).azZ rfl ⟨aE rfl,aH (bB rfl) (aH (bB rfl) (aH (bB rfl) (aH (bB rfl) (aH xG eP)))),trivial⟩ fun r hr=>hr▸h
theorem aSF {l:List Job} {a b:Int} {r:Rsp} (hl:l.length<2^20) (h:K (dS ((BM l ⟨a,b,r⟩).map aS)) H nx):aB Tryz.prog aJS [dS (l.map aS),dA (cI a::cI b::tG r)] H nx K:=
 aS4 (j:=⟨a,b,r⟩) hl h
theorem aO5 {l:List Job} {z:Int} (hz: ¬z<0) (ha:z.toNat<l.length) (hl:l.length<2^20) (h:K (dS ((MT l z.toNat).map aS)) H nx):aB Tryz.prog gR [dS (l.map aS),dI z] H nx K:=by
 have:=aSZ (K:=K) ha hl h
 rwa [Int.toNat_of_nonneg (by omega)] at this
theorem aSJ (c:Cfg) (s:TSt) (e:Ev) (wc wm hc hm ac am tc tm:Nat) (hb:aQ c) (hs:BA c s) (hwc:64≤wc) (hhc:6≤hc) (hac:3≤ac) (htc:s.told.length≤tc) (htm:tc≤tm):
 aB Tryz.prog v5 [dA (cU c),dA (oSt 0 1 2 3 wc hc ac tc s),dA (eEv e)] (hp [(0,⟨1,wm,s.words.map aJ⟩),(1,⟨1,hm,s.holds.map aJ⟩),(2,⟨1,am,s.asked.map aJ⟩),(3,⟨5,tm,s.told.map aS⟩)]) 4
 fun r H' n'=>(X6 c s e=0∧ ∃tc' tm',(lS c s e).told.length≤tc'∧tc'≤tm'∧n'=5∧H'=hp [(0,⟨1,wm,(lS c s e).words.map aJ⟩),(1,⟨1,hm,(lS c s e).holds.map aJ⟩),(2,⟨1,am,(lS c s e).asked.map aJ⟩),(4,⟨5,tm',(lS c s e).told.map aS⟩)]
  ∧r= .tup [.agg (oSt 0 1 2 4 wc hc ac tc' (lS c s e)),.c (cB true)])∨
  (¬X6 c s e=0∧n'=4∧H'=hp [(0,⟨1,wm,s.words.map aJ⟩),(1,⟨1,hm,s.holds.map aJ⟩),(2,⟨1,am,s.asked.map aJ⟩),(3,⟨5,tm,s.told.map aS⟩)]∧r= .tup [.agg (oSt 0 1 2 3 wc hc ac tc s),.c (cB false)]):=by
 have hl:=hs.lens hb
 have hf:=hs.fit hb
 obtain⟨hp3,hp12⟩:=hC hb
 have hwl:=hs.atm.wl
 have hhl:=hs.atm.hl
 have hal:=hs.JI
 have hmap:=hb.1.1
 have hb12:=hp12 e.who.toNat
 refine aQG rfl fun Q hQ=> ?_
 unfold aNV
 simp only[oSt]
 by_cases hok:oA c e.who e.n
 ·have hrq:=GK hb hok
  obtain⟨ho1,ho2⟩:=hok
  have hok:oA c e.who e.n:=⟨ho1,ho2⟩
  have ht1:=fun h=>(pW (l:=s.wait) (who:=e.who) (n:=e.n) h).1
  have ht2:=fun h=>(pW (l:=s.done) (who:=e.who) (n:=e.n) h).1
  have hg1:=aoF (p:=iM e.who e.n) (l:=s.wait)
  have hg2:=aoF (p:=iM e.who e.n) (l:=s.done)
  repeat' (first| (with_reducible first| (refine hK _ _ _ ?_;clear hK K)| (refine hA ?_;clear hA hB A B)| (refine hB ?_;clear hA hB A B)|refine Z1 ?_|refine Z2 ?_|refine Z3 fun KB hKB=> ?_|refine Z5 (by omega) ?_|refine Z6 (fun h=> ?_) fun h=> ?_|refine fun(cap:Nat) (hcap:_≤cap)=> ?_|refine fun(hcp:_≤cap)=> ?_)| (first| (with_reducible first|refine Y2 fun K hK=> ?_|refine Y3 fun A B hA hB=> ?_|refine Y5 (by omega) ?_|refine Y6 (fun h=> ?_) fun h=> ?_)| (with_reducible refine aBC ?_)| (with_reducible refine aKK (by omega) ?_)| (with_reducible refine ap1 (l:=s.wait) (e:=e) (by omega) hp3 hok (fun j hj _ _=>hf.wait j hj) ?_)| (with_reducible refine ap1 (l:=s.done) (e:=e) (by omega) hp3 hok (fun j hj _ _=>hf.done j hj) ?_)| (with_reducible refine aR1 (by omega) ?_)| (with_reducible refine aSF (by omega) ?_)| (with_reducible refine aO5 (l:=s.wait) (by assumption) (ht1 (by assumption)) (by omega) ?_)| (with_reducible refine aO5 (l:=s.done) (by assumption) (ht2 (by assumption)) (by omega) ?_)| (refine aS7 (by omega) hs.atm hwc hhc ho1 hrq (by omega) (by omega) (by omega) rfl rfl ?_))<;>(simp only[go_sem];try simp (disch:=omega) only[Iw])| ((with_reducible refine Y8 ?_);try simp only[AQ.then,AQ.blk,reduceIte,Nat.reduceEqDiff])| ((with_reducible refine Y0 ?_);simp only[AQ.then,AQ.blk])|refine⟨by omega,?_⟩| (with_reducible refine hKB _ _ _ ?_)|fail)
  all_goals first
   | (have hwhy: ¬X6 c s e=0:=by(unfold X6;grind)
      (refine hQ _ _ _ _ _ 4 (.tup [.agg (oSt 0 1 2 3 wc hc ac tc s),.c (cB false)]) (hp [(0,⟨1,wm,s.words.map aJ⟩),(1,⟨1,hm,s.holds.map aJ⟩),(2,⟨1,am,s.asked.map aJ⟩),(3,⟨5,tm,s.told.map aS⟩)]) _ _ (.inr rfl) rfl (fU [0,1,2,3] (by omega) (by repeat' (first| (with_reducible first|refine aUP ?_ ?_|refine aUQ ?_|refine aUR ?_)| ((with_reducible refine C0 ?_);first|exact CB rfl|exact CQ (by omega) rfl rfl (by rfl) rfl)|exact C3|refine C4 ?_ ?_|fail)) ⟨⟨by simp,by simp[sgL],_,rfl,bP (aG bF _) rfl rfl⟩,⟨by simp,by simp[sgL],_,rfl,bP (aG bF _) rfl rfl⟩,⟨by simp,by simp[sgL],_,rfl,bP (aG bF _) rfl rfl⟩,⟨by simp,by simp[sgL],_,rfl,bP (aG dZ _) rfl rfl⟩,trivial⟩ (by simp[sgL])) ?_)
      exact .inr ⟨hwhy,rfl,rfl,rfl⟩)
   |have hwhy:X6 c s e=0:=by(unfold X6;grind)
  ·have hnx:lS c s e=({s with asked:=s.asked.set e.who.toNat (e.n+1),wait:=BM s.wait ⟨e.who,e.n,oW⟩}:TSt):=by simp only[lS];rw[if_pos (by assumption)]
   rw[hnx] at hQ
   (refine hQ _ _ _ _ _ 5 (.tup [.agg (oSt 0 1 2 4 wc hc ac tc ({s with asked:=s.asked.set e.who.toNat (e.n+1),wait:=BM s.wait ⟨e.who,e.n,oW⟩}:TSt)),.c (cB true)]) (hp [(0,⟨1,wm,({s with asked:=s.asked.set e.who.toNat (e.n+1),wait:=BM s.wait ⟨e.who,e.n,oW⟩}:TSt).words.map aJ⟩),(1,⟨1,hm,({s with asked:=s.asked.set e.who.toNat (e.n+1),wait:=BM s.wait ⟨e.who,e.n,oW⟩}:TSt).holds.map aJ⟩),(2,⟨1,am,({s with asked:=s.asked.set e.who.toNat (e.n+1),wait:=BM s.wait ⟨e.who,e.n,oW⟩}:TSt).asked.map aJ⟩),(4,⟨5,tm,({s with asked:=s.asked.set e.who.toNat (e.n+1),wait:=BM s.wait ⟨e.who,e.n,oW⟩}:TSt).told.map aS⟩)]) _ _ (.inr rfl) rfl (fU [3,0,1,2] (by omega) (by repeat' (first| (with_reducible first|refine aUP ?_ ?_|refine aUQ ?_|refine aUR ?_)| ((with_reducible refine C0 ?_);first|exact CB rfl|exact CQ (by omega) rfl rfl (by rfl) rfl)|exact C3|refine C4 ?_ ?_|fail)) ⟨⟨by simp,by simp[sgL],_,rfl,bP (aG bF _) rfl rfl⟩,⟨by simp,by simp[sgL],_,rfl,bP (aG bF _) rfl rfl⟩,⟨by simp,by simp[sgL],_,rfl,bP (aG bF _) rfl rfl⟩,⟨by simp,by simp[sgL],_,rfl,bP (aG dZ _) rfl rfl⟩,trivial⟩ (by simp[sgL])) ?_)
   exact .inl ⟨hwhy,tc,tm,htc,htm,rfl,rfl,rfl⟩
  ·have hnx:lS c s e=({s with words:=(doM c.map s.words s.holds e.who (bT c e.who e.n)).1.1,holds:=(doM c.map s.words s.holds e.who (bT c e.who e.n)).1.2,wait:=MT s.wait (bK (iM e.who e.n) s.wait).toNat,done:=BM s.done ⟨e.who,e.n,(doM c.map s.words s.holds e.who (bT c e.who e.n)).2⟩}:TSt):=by simp only[lS];rw[if_neg (by assumption),if_pos (by assumption)]
   rw[hnx] at hQ
   (refine hQ _ _ _ _ _ 5 (.tup [.agg (oSt 0 1 2 4 wc hc ac tc ({s with words:=(doM c.map s.words s.holds e.who (bT c e.who e.n)).1.1,holds:=(doM c.map s.words s.holds e.who (bT c e.who e.n)).1.2,wait:=MT s.wait (bK (iM e.who e.n) s.wait).toNat,done:=BM s.done ⟨e.who,e.n,(doM c.map s.words s.holds e.who (bT c e.who e.n)).2⟩}:TSt)),.c (cB true)]) (hp [(0,⟨1,wm,({s with words:=(doM c.map s.words s.holds e.who (bT c e.who e.n)).1.1,holds:=(doM c.map s.words s.holds e.who (bT c e.who e.n)).1.2,wait:=MT s.wait (bK (iM e.who e.n) s.wait).toNat,done:=BM s.done ⟨e.who,e.n,(doM c.map s.words s.holds e.who (bT c e.who e.n)).2⟩}:TSt).words.map aJ⟩),(1,⟨1,hm,({s with words:=(doM c.map s.words s.holds e.who (bT c e.who e.n)).1.1,holds:=(doM c.map s.words s.holds e.who (bT c e.who e.n)).1.2,wait:=MT s.wait (bK (iM e.who e.n) s.wait).toNat,done:=BM s.done ⟨e.who,e.n,(doM c.map s.words s.holds e.who (bT c e.who e.n)).2⟩}:TSt).holds.map aJ⟩),(2,⟨1,am,({s with words:=(doM c.map s.words s.holds e.who (bT c e.who e.n)).1.1,holds:=(doM c.map s.words s.holds e.who (bT c e.who e.n)).1.2,wait:=MT s.wait (bK (iM e.who e.n) s.wait).toNat,done:=BM s.done ⟨e.who,e.n,(doM c.map s.words s.holds e.who (bT c e.who e.n)).2⟩}:TSt).asked.map aJ⟩),(4,⟨5,tm,({s with words:=(doM c.map s.words s.holds e.who (bT c e.who e.n)).1.1,holds:=(doM c.map s.words s.holds e.who (bT c e.who e.n)).1.2,wait:=MT s.wait (bK (iM e.who e.n) s.wait).toNat,done:=BM s.done ⟨e.who,e.n,(doM c.map s.words s.holds e.who (bT c e.who e.n)).2⟩}:TSt).told.map aS⟩)]) _ _ (.inr rfl) rfl (fU [3,0,1,2] (by omega) (by repeat' (first| (with_reducible first|refine aUP ?_ ?_|refine aUQ ?_|refine aUR ?_)| ((with_reducible refine C0 ?_);first|exact CB rfl|exact CQ (by omega) rfl rfl (by rfl) rfl)|exact C3|refine C4 ?_ ?_|fail)) ⟨⟨by simp,by simp[sgL],_,rfl,bP (aG bF _) rfl rfl⟩,⟨by simp,by simp[sgL],_,rfl,bP (aG bF _) rfl rfl⟩,⟨by simp,by simp[sgL],_,rfl,bP (aG bF _) rfl rfl⟩,⟨by simp,by simp[sgL],_,rfl,bP (aG dZ _) rfl rfl⟩,trivial⟩ (by simp[sgL])) ?_)
   exact .inl ⟨hwhy,tc,tm,htc,htm,rfl,rfl,rfl⟩
  ·have hnx:lS c s e=({s with told:=s.told++[s.done.getD (bK (iM e.who e.n) s.done).toNat default],done:=MT s.done (bK (iM e.who e.n) s.done).toNat}:TSt):=by simp only[lS];rw[if_neg (by assumption),if_neg (by assumption)]
   rw[hnx] at hQ
   (refine hQ _ _ _ _ _ 5 (.tup [.agg (oSt 0 1 2 4 wc hc ac cap ({s with told:=s.told++[s.done.getD (bK (iM e.who e.n) s.done).toNat default],done:=MT s.done (bK (iM e.who e.n) s.done).toNat}:TSt)),.c (cB true)]) (hp [(0,⟨1,wm,({s with told:=s.told++[s.done.getD (bK (iM e.who e.n) s.done).toNat default],done:=MT s.done (bK (iM e.who e.n) s.done).toNat}:TSt).words.map aJ⟩),(1,⟨1,hm,({s with told:=s.told++[s.done.getD (bK (iM e.who e.n) s.done).toNat default],done:=MT s.done (bK (iM e.who e.n) s.done).toNat}:TSt).holds.map aJ⟩),(2,⟨1,am,({s with told:=s.told++[s.done.getD (bK (iM e.who e.n) s.done).toNat default],done:=MT s.done (bK (iM e.who e.n) s.done).toNat}:TSt).asked.map aJ⟩),(4,⟨5,cap,({s with told:=s.told++[s.done.getD (bK (iM e.who e.n) s.done).toNat default],done:=MT s.done (bK (iM e.who e.n) s.done).toNat}:TSt).told.map aS⟩)]) _ _ (.inr rfl) rfl (fU [75,0,1,2] (by omega) (by repeat' (first| (with_reducible first|refine aUP ?_ ?_|refine aUQ ?_|refine aUR ?_)| ((with_reducible refine C0 ?_);first|exact CB rfl| (exact CQ (by omega) rfl rfl (by first|rfl| (simp;done)) rfl))|exact C3|refine C4 ?_ ?_|fail)) ⟨⟨by simp,by simp[sgL],_,rfl,bP (aG bF _) rfl rfl⟩,⟨by simp,by simp[sgL],_,rfl,bP (aG bF _) rfl rfl⟩,⟨by simp,by simp[sgL],_,rfl,bP (aG bF _) rfl rfl⟩,⟨by simp,by simp[sgL],_,rfl,bP (aG dZ _) rfl rfl⟩,trivial⟩ (by simp[sgL])) ?_)
   exact .inl ⟨hwhy,cap,cap,by simpa using hcap,Nat.le_refl _,rfl,rfl,rfl⟩
 ·have hwhy: ¬X6 c s e=0:=fun h=>hok (M8 h).1
  by_cases hw1:0≤e.who∧e.who≤2
  ·have hn1: ¬(0≤e.n∧e.n≤(c.cP.getD e.who.toNat default).length-1):=fun h=>hok ⟨hw1,h⟩
   repeat' (first| (with_reducible first| (refine hK _ _ _ ?_;clear hK K)| (refine hA ?_;clear hA hB A B)|refine Z1 ?_|refine Z4 (by omega) ?_)| (first| (with_reducible first|refine Y2 fun K hK=> ?_|refine Y3 fun A B hA hB=> ?_|refine Y5 (by omega) ?_)| (with_reducible refine aBC ?_))<;>(simp only[go_sem];try simp (disch:=omega) only[Iw])| ((with_reducible refine Y8 ?_);try simp only[AQ.then,AQ.blk,reduceIte,Nat.reduceEqDiff])|refine⟨by omega,?_⟩|fail)
   all_goals (refine hQ _ _ _ _ _ 4 (.tup [.agg (oSt 0 1 2 3 wc hc ac tc s),.c (cB false)]) (hp [(0,⟨1,wm,s.words.map aJ⟩),(1,⟨1,hm,s.holds.map aJ⟩),(2,⟨1,am,s.asked.map aJ⟩),(3,⟨5,tm,s.told.map aS⟩)]) _ _ (.inr rfl) rfl (fU [0,1,2,3] (by omega) (by repeat' (first| (with_reducible first|refine aUP ?_ ?_|refine aUQ ?_|refine aUR ?_)| ((with_reducible refine C0 ?_);first|exact CB rfl|exact CQ (by omega) rfl rfl (by rfl) rfl)|exact C3|refine C4 ?_ ?_|fail)) ⟨⟨by simp,by simp[sgL],_,rfl,bP (aG bF _) rfl rfl⟩,⟨by simp,by simp[sgL],_,rfl,bP (aG bF _) rfl rfl⟩,⟨by simp,by simp[sgL],_,rfl,bP (aG bF _) rfl rfl⟩,⟨by simp,by simp[sgL],_,rfl,bP (aG dZ _) rfl rfl⟩,trivial⟩ (by simp[sgL])) ?_)
   all_goals exact .inr ⟨hwhy,rfl,rfl,rfl⟩
  ·repeat' (first| (with_reducible first| (refine hK _ _ _ ?_;clear hK K)| (refine hA ?_;clear hA hB A B)|refine Z1 ?_)| (first| (with_reducible first|refine Y2 fun K hK=> ?_|refine Y3 fun A B hA hB=> ?_|refine Y4 (by omega) ?_)| (with_reducible refine aBC ?_))<;>(simp only[go_sem])| ((with_reducible refine Y8 ?_);try simp only[AQ.then,AQ.blk,reduceIte,Nat.reduceEqDiff])|fail)
   all_goals (refine hQ _ _ _ _ _ 4 (.tup [.agg (oSt 0 1 2 3 wc hc ac tc s),.c (cB false)]) (hp [(0,⟨1,wm,s.words.map aJ⟩),(1,⟨1,hm,s.holds.map aJ⟩),(2,⟨1,am,s.asked.map aJ⟩),(3,⟨5,tm,s.told.map aS⟩)]) _ _ (.inr rfl) rfl (fU [0,1,2,3] (by omega) (by repeat' (first| (with_reducible first|refine aUP ?_ ?_|refine aUQ ?_|refine aUR ?_)| ((with_reducible refine C0 ?_);first|exact CB rfl|exact CQ (by omega) rfl rfl (by rfl) rfl)|exact C3|refine C4 ?_ ?_|fail)) ⟨⟨by simp,by simp[sgL],_,rfl,bP (aG bF _) rfl rfl⟩,⟨by simp,by simp[sgL],_,rfl,bP (aG bF _) rfl rfl⟩,⟨by simp,by simp[sgL],_,rfl,bP (aG bF _) rfl rfl⟩,⟨by simp,by simp[sgL],_,rfl,bP (aG dZ _) rfl rfl⟩,trivial⟩ (by simp[sgL])) ?_)
   all_goals exact .inr ⟨hwhy,rfl,rfl,rfl⟩
theorem aP2 {τ:Nat→Nat} {n m:Nat} {l:List Job}:bA.rn τ ⟨n,m,l.map aS⟩=⟨n,m,l.map aS⟩:=by
 refine rF fun r hr x hx=> ?_
 obtain⟨y,_,rfl⟩:=List.mem_map.1 hr
 exact List.all_eq_true.1 (dZ y).2 x hx
theorem aO4 {c:Cfg} {s:TSt} {e:Ev} {wc wm hc hm ac am tc tm i0 i1 i2 i3:Nat} (hb:aQ c) (hs:BA c s) (hwc:64≤wc) (hhc:6≤hc) (hac:3≤ac) (htc:s.told.length≤tc) (htm:tc≤tm)
 (hi0:i0<nx) (hi1:i1<nx) (hi2:i2<nx) (hi3:i3<nx) (hd:[i0,i1,i2,i3].Nodup) (h0:H i0=some ⟨1,wm,s.words.map aJ⟩) (h1:H i1=some ⟨1,hm,s.holds.map aJ⟩) (h2:H i2=some ⟨1,am,s.asked.map aJ⟩) (h3:H i3=some ⟨5,tm,s.told.map aS⟩)
 (h:X6 c s e=0→∀tc' tm',(lS c s e).told.length≤tc'→tc'≤tm'→K (.tup [.agg (oSt i0 i1 i2 nx wc hc ac tc' (lS c s e)),.c (cB true)]) (((((H.set i0 ⟨1,wm,(lS c s e).words.map aJ⟩).set i1 ⟨1,hm,(lS c s e).holds.map aJ⟩).set i2 ⟨1,am,(lS c s e).asked.map aJ⟩).del i3).set nx ⟨5,tm',(lS c s e).told.map aS⟩) (nx+1))
 (h': ¬X6 c s e=0→K (.tup [.agg (oSt i0 i1 i2 i3 wc hc ac tc s),.c (cB false)]) ((((H.set i0 ⟨1,wm,s.words.map aJ⟩).set i1 ⟨1,hm,s.holds.map aJ⟩).set i2 ⟨1,am,s.asked.map aJ⟩).set i3 ⟨5,tm,s.told.map aS⟩) nx):
 aB Tryz.prog v5 [dA (cU c),dA (oSt i0 i1 i2 i3 wc hc ac tc s),dA (eEv e)] H nx K:=by
 refine(aSJ c s e wc wm hc hm ac am tc tm hb hs hwc hhc hac htc htm).AF [i0,i1,i2,i3] rfl ⟨aE rfl,?_,aE rfl,trivial⟩ ?_ ?_ ?_ hd fun r H' n' _ q=> ?_
 ·unfold oSt;exact aH (aaF (by simp) rfl rfl rfl rfl) (aH (aaF (by simp) rfl rfl rfl rfl) (aH (aaF (by simp) rfl rfl rfl rfl) (aH (bB rfl) (aH (bB rfl) (aH (aaF (by simp) rfl rfl rfl rfl) eP)))))
 ·exact⟨⟨by simp,id,_,h0,bP (aG bF _) rfl rfl⟩,⟨by simp,id,_,h1,bP (aG bF _) rfl rfl⟩,⟨by simp,id,_,h2,bP (aG bF _) rfl rfl⟩,⟨by simp,id,_,h3,bP (aG dZ _) rfl rfl⟩,trivial⟩
 ·exact hd
 ·intro x hx;simp only[List.mem_cons,List.not_mem_nil,or_false] at hx;omega
 ·rcases q with⟨q0,tc',tm',q1,q2,q3,q4,q5⟩|⟨q0,q3,q4,q5⟩
  ·subst q3;subst q4;subst q5
   have e2:=h q0 tc' tm' q1 q2
   generalize lS c s e=s' at*
   have e1:back (tau 4 nx (nth [i0,i1,i2,i3])) (hp [(0,⟨1,wm,s'.words.map aJ⟩),(1,⟨1,hm,s'.holds.map aJ⟩),(2,⟨1,am,s'.asked.map aJ⟩),(4,⟨5,tm',s'.told.map aS⟩)]) 5 H=((((H.set i0 ⟨1,wm,s'.words.map aJ⟩).set i1 ⟨1,hm,s'.holds.map aJ⟩).set i2 ⟨1,am,s'.asked.map aJ⟩).del i3).set nx ⟨5,tm',s'.told.map aS⟩:=by
    simp[back,hp,aA.set,aA.nil,tau,nth,uB,aP2,aA.eL,aA.yI]
   rw[←e1] at e2
   exact e2
  ·subst q3;subst q4;subst q5
   have e2:=h' q0
   have e1:back (tau 4 nx (nth [i0,i1,i2,i3])) (hp [(0,⟨1,wm,s.words.map aJ⟩),(1,⟨1,hm,s.holds.map aJ⟩),(2,⟨1,am,s.asked.map aJ⟩),(3,⟨5,tm,s.told.map aS⟩)]) 4 H=((((H.set i0 ⟨1,wm,s.words.map aJ⟩).set i1 ⟨1,hm,s.holds.map aJ⟩).set i2 ⟨1,am,s.asked.map aJ⟩).set i3 ⟨5,tm,s.told.map aS⟩):=by
    simp[back,hp,aA.set,aA.nil,tau,nth,uB,aP2,aA.eL,aA.yI]
   rw[←e1] at e2
   exact e2
theorem aoT {i0 i1 i2 i3 wc hc ac tc:Nat} {s:TSt}:(oSt i0 i1 i2 i3 wc hc ac tc s).length=6:=rfl
theorem ak4 {i0 i1 i2 i3 wc hc ac tc:Nat} {s:TSt}:(oSt i0 i1 i2 i3 wc hc ac tc s).take 6=oSt i0 i1 i2 i3 wc hc ac tc s:=rfl
theorem ajY {i0 i1 i2 i3 wc hc ac tc k:Nat} {s:TSt} {cs:List D1}:iA cs (k+1) (oSt i0 i1 i2 i3 wc hc ac tc s)=iA cs (k+1) [.osl 1 i0 0 64 wc,.osl 1 i1 0 6 hc,.osl 1 i2 0 3 ac,.isl (s.wait.map aS),.isl (s.done.map aS),.osl 5 i3 0 s.told.length tc]:=rfl
attribute [go_sem] aoT ak4 ajY
end
end Go.Proofs.YtegiblhkjfiooaaGreat
end
section
namespace Go.Proofs.YtegiblhkjfiooaaGreat
open Go Go.AM
set_option maxRecDepth 100000
set_option maxHeartbeats 4000000
section
variable {H : aA} {nx : Nat} {K : D → aA → Nat → Prop}
theorem aM8 {j:Job}:cI j.who::cI j.n::tG j.rsp=aS j:=rfl
theorem aRZ:aB Tryz.prog v8 [] (hp []) 0
 fun r H' n'=>n'=1∧H'=hp [(0,⟨1,64,(List.replicate 64 (0:Int)).map aJ⟩)]∧r=dA [.osl 1 0 0 64 64]:=by
 refine aQI rfl fun Q hQ=> ?_
 unfold aNN
 repeat' (first| (with_reducible first| (refine hK _ _ _ ?_;clear hK K)|refine Z1 ?_)| (with_reducible refine Y2 fun K hK=> ?_)<;>(simp only[go_sem])| ((with_reducible refine Y8 ?_);try simp only[AQ.then,AQ.blk,reduceIte,Nat.reduceEqDiff])|fail)
 (refine hQ _ _ _ _ _ 1 (dA [.osl 1 0 0 64 64]) (hp [(0,⟨1,64,(List.replicate 64 (0:Int)).map aJ⟩)]) _ _ (.inr rfl) rfl (fU [1] (by omega) (by repeat' (first| ((with_reducible refine C0 ?_);exact CQ (by omega) rfl rfl (by rfl) rfl)| ((with_reducible refine D0 ?_);refine C9 ?_)|exact C3|refine C4 ?_ ?_|fail)) ⟨⟨by simp,by simp[sgL],_,rfl,bP (aG bF _) rfl rfl⟩,trivial⟩ (by simp[sgL])) ?_)
 exact⟨rfl,rfl,rfl⟩
theorem aSB (h:K (dA [.osl 1 nx 0 64 64]) (H.set nx ⟨1,64,(List.replicate 64 (0:Int)).map aJ⟩) (nx+1)):aB Tryz.prog v8 [] H nx K:=by
 refine aRZ.AF (l0:=[]) [] rfl trivial trivial (by simp) (by simp) (by simp) fun r H' n' _ ⟨q1,q2,q3⟩=> ?_
 subst q1;subst q2;subst q3
 have e1:back (tau 0 nx (nth [])) (hp [(0,⟨1,64,(List.replicate 64 (0:Int)).map aJ⟩)]) 1 H=H.set nx ⟨1,64,(List.replicate 64 (0:Int)).map aJ⟩:=by
  simp only[back,hp,aA.set,tau,Nat.not_lt_zero,if_true,if_false,Nat.sub_zero,Nat.add_zero,Option.map_some,uB,aA.eL]
 rw[←e1] at h
 exact h
theorem aSG:aB Tryz.prog v7 [] (hp []) 0
 fun r H' n'=>∃hc,6≤hc∧n'=2∧H'=hp [(0,⟨1,64,(List.replicate 64 (0:Int)).map aJ⟩),(1,⟨1,hc,(List.replicate 6 (-1:Int)).map aJ⟩)]∧r=dA [.osl 1 0 0 64 64,.osl 1 1 0 6 hc]:=by
 refine aQ1 rfl fun Q hQ=> ?_
 unfold aNO
 generalize hw0:List.replicate 64 (0:Int)=w0
 have hmn: ∀{H:aA} {nx:Nat} {K:D→aA→Nat→Prop},K (dA [.osl 1 nx 0 64 64]) (H.set nx ⟨1,64,w0.map aJ⟩) (nx+1)→aB Tryz.prog v8 [] H nx K:=fun h=>by subst hw0;exact aSB h
 repeat' (first| (with_reducible first| (refine hK _ _ _ ?_;clear hK K)|refine Z1 ?_|refine Z3 fun KB hKB=> ?_)| (first| (with_reducible refine Y2 fun K hK=> ?_)| (refine hmn ?_))<;>(simp only[go_sem])|fail)
 (have hKX:=hKB;clear hKB)
 refine aM.EJ 1 ?_
 refine aM.sG 4 (β:=Nat×Nat) (fun b u=>en [(2,dI u.1),(1,dP 2 (b+1)),(0,dP 2 b)])
  (fun b u=>hp [(b,⟨2,1,[[.osl 0 0 0 0 0,.osl 0 0 0 0 0]]⟩),(b+1,⟨2,1,[[.osl 1 (b+2) 0 64 64,.osl 1 (b+3) 0 u.1 u.2]]⟩),(b+2,⟨1,64,w0.map aJ⟩),(b+3,⟨1,u.2,(List.replicate u.1 (-1:Int)).map aJ⟩)]) (fun u=>u.1≤6∧u.1≤u.2) (fun u=>6-u.1) (0,0)
  ?_ ⟨by dsimp only;omega,by dsimp only;omega⟩ ?_
 · (refine cR [0,3,5,7] (by omega) (by repeat' (first| (with_reducible first|exact C1|refine C2 ?_ ?_)| ((with_reducible refine C0 ?_);exact CE (by omega) rfl)| ((with_reducible refine D0 ?_);first|exact CA rfl|refine CJ ?_)|fail)) ⟨⟨by simp,by simp[sgL],_,rfl,aP (by repeat' (first| (with_reducible first|exact C3|refine C4 ?_ ?_)| ((with_reducible refine C0 ?_);exact CC)|fail))⟩,⟨by simp,by simp[sgL],_,rfl,aP (by repeat' (first| (with_reducible first|exact C3|refine C4 ?_ ?_)| ((with_reducible refine C0 ?_);first|exact CC|exact CQ (by omega) rfl rfl (by rfl) rfl)|fail))⟩,⟨by simp,by simp[sgL],_,rfl,bP (aG bF _) rfl rfl⟩,⟨by simp,by simp[sgL],_,rfl,bP (aG bF _) rfl rfl⟩,trivial⟩ (by simp[sgL]))
 ·rintro⟨k,cap⟩ ⟨hk,hc⟩ KL hKL
  dsimp only at hk hc
  have hrep:List.replicate (k+1) (-1:Int)=List.replicate k (-1)++[-1]:=List.replicate_succ'
  by_cases hlt:k<6
  ·repeat' (first| (with_reducible first| (refine hK _ _ _ ?_;clear hK K)| (refine hA ?_;clear hA hB A B)|refine Z1 ?_|refine Z2 ?_|refine Z3 fun KB hKB=> ?_|refine Z4 (by omega) ?_|refine fun(cap:Nat) (hcap:_≤cap)=> ?_|refine fun(hcp:_≤cap)=> ?_)| (with_reducible first|refine Y2 fun K hK=> ?_|refine Y3 fun A B hA hB=> ?_)<;>(simp only[go_sem];try simp (disch:=omega) only[Iw])| ((with_reducible refine Y0 ?_);simp only[AQ.then,AQ.blk])|refine⟨by omega,?_⟩| (with_reducible refine hKB _ _ _ ?_)|fail)
   exact hKL _ _ _ (k+1,cap) (by omega) (by(refine cR [8,9,10,17] (by omega) (by repeat' (first| (with_reducible first|exact C1|refine C2 ?_ ?_)| ((with_reducible refine C0 ?_);exact CE (by omega) rfl)| ((with_reducible refine D0 ?_);first|exact CA rfl|refine CJ ?_)|fail)) ⟨⟨by simp,by simp[sgL],_,rfl,aP (by repeat' (first| (with_reducible first|exact C3|refine C4 ?_ ?_)| ((with_reducible refine C0 ?_);exact CC)|fail))⟩,⟨by simp,by simp[sgL],_,rfl,aP (by repeat' (first| (with_reducible first|exact C3|refine C4 ?_ ?_)| ((with_reducible refine C0 ?_);exact CQ (by omega) rfl rfl (by rfl) rfl)|fail))⟩,⟨by simp,by simp[sgL],_,rfl,bP (aG bF _) rfl rfl⟩,⟨by simp,by simp[sgL],_,rfl,bP (aG bF _) (congrArg _ hrep) rfl⟩,trivial⟩ (by simp[sgL]))) ⟨by dsimp only;omega,by dsimp only;omega⟩ (by dsimp only;omega)
  ·repeat' (first| (with_reducible first| (refine hK _ _ _ ?_;clear hK K)| (refine hB ?_;clear hA hB A B)|refine Z1 ?_|refine Z5 (by omega) ?_|refine hKX _ _ _ ?_)| (with_reducible first|refine Y2 fun K hK=> ?_|refine Y3 fun A B hA hB=> ?_)<;>(simp only[go_sem])| ((with_reducible first|refine Y8 ?_|refine Y9 ?_);try simp only[AQ.then,AQ.blk,reduceIte,Nat.reduceEqDiff])|fail)
   have hk2:k=6:=by omega
   subst hk2
   (refine hQ _ _ _ _ _ 2 (dA [.osl 1 0 0 64 64,.osl 1 1 0 6 cap]) (hp [(0,⟨1,64,w0.map aJ⟩),(1,⟨1,cap,(List.replicate 6 (-1:Int)).map aJ⟩)]) _ _ (.inr rfl) rfl (fU [10,11] (by omega) (by repeat' (first| ((with_reducible refine C0 ?_);exact CQ (by omega) rfl rfl (by rfl) rfl)| ((with_reducible refine D0 ?_);refine C9 ?_)|exact C3|refine C4 ?_ ?_|fail)) ⟨⟨by simp,by simp[sgL],_,rfl,bP (aG bF _) rfl rfl⟩,⟨by simp,by simp[sgL],_,rfl,bP (aG bF _) rfl rfl⟩,trivial⟩ (by simp[sgL])) ?_)
   exact⟨cap,hc,rfl,by rw[hw0],rfl⟩
theorem aR5 (h: ∀hc,6≤hc→K (dA [.osl 1 nx 0 64 64,.osl 1 (nx+1) 0 6 hc]) ((H.set nx ⟨1,64,(List.replicate 64 (0:Int)).map aJ⟩).set (nx+1) ⟨1,hc,(List.replicate 6 (-1:Int)).map aJ⟩) (nx+2)):aB Tryz.prog v7 [] H nx K:=by
 refine aSG.AF (l0:=[]) [] rfl trivial trivial (by simp) (by simp) (by simp) fun r H' n' _ ⟨hc,q0,q1,q2,q3⟩=> ?_
 have h:=h hc q0
 subst q1;subst q2;subst q3
 generalize List.replicate 64 (0:Int)=w0 at*
 generalize List.replicate 6 (-1:Int)=w1 at*
 have e1:back (tau 0 nx (nth [])) (hp [(0,⟨1,64,w0.map aJ⟩),(1,⟨1,hc,w1.map aJ⟩)]) 2 H=(H.set nx ⟨1,64,w0.map aJ⟩).set (nx+1) ⟨1,hc,w1.map aJ⟩:=by
  simp only[asR,hp,aA.set,tau,Nat.not_lt_zero,if_true,if_false,Nat.sub_zero,Nat.add_zero,Option.map_some,uB,aA.eL,Nat.zero_ne_one,Nat.one_ne_zero]
 rw[←e1] at h
 exact h
theorem aRV:aB Tryz.prog c7 [] (hp []) 0
 fun r H' n'=>∃hc,6≤hc∧n'=4∧H'=hp [(0,⟨1,64,st0.words.map aJ⟩),(1,⟨1,hc,st0.holds.map aJ⟩),(2,⟨1,3,st0.asked.map aJ⟩),(3,⟨5,0,st0.told.map aS⟩)]∧r=dA (oSt 0 1 2 3 64 hc 3 0 st0):=by
 refine aQJ rfl fun Q hQ=> ?_
 unfold aNX
 generalize hs0:st0=s0 at*
 have hw:st0.words=List.replicate 64 0:=rfl
 have hh:st0.holds=List.replicate 6 (-1):=rfl
 have ha:[[D1.v (Value.int IntKind.i64 0)],[D1.v (Value.int IntKind.i64 0)],[D1.v (Value.int IntKind.i64 0)]]=st0.asked.map aJ:=rfl
 have h1:st0.wait=[]:=rfl
 have h2:st0.done=[]:=rfl
 have h3:st0.told=[]:=rfl
 rw[hs0] at hw hh ha h1 h2 h3
 have hmn: ∀{H:aA} {nx:Nat} {K:D→aA→Nat→Prop},(∀hc,6≤hc→K (dA [.osl 1 nx 0 64 64,.osl 1 (nx+1) 0 6 hc]) ((H.set nx ⟨1,64,s0.words.map aJ⟩).set (nx+1) ⟨1,hc,s0.holds.map aJ⟩) (nx+2))→aB Tryz.prog v7 [] H nx K:=fun h=>by rw[hw,hh] at h;exact aR5 h
 clear hw hh
 obtain⟨w0,h0,az5,l1,l2,l3⟩:=s0
 dsimp only at*
 subst h1;subst h2;subst h3
 refine aM.seq (aM.EJ 5 ?_)
 repeat' (first| (with_reducible first| (refine hK _ _ _ ?_;clear hK K)|refine Z1 ?_)| (first| (with_reducible refine Y2 fun K hK=> ?_)| (refine hmn fun hc hhc=> ?_))<;>(simp only[go_sem,ha])| ((with_reducible refine Y8 ?_);try simp only[AQ.then,AQ.blk,reduceIte,Nat.reduceEqDiff])|fail)
 (refine hQ _ _ _ _ _ 4 (dA (oSt 0 1 2 3 64 hc 3 0 ⟨w0,h0,az5,[],[],[]⟩)) (hp [(0,⟨1,64,w0.map aJ⟩),(1,⟨1,hc,h0.map aJ⟩),(2,⟨1,3,az5.map aJ⟩),(3,⟨5,0,([]:List Job).map aS⟩)]) _ _ (.inr rfl) rfl (fU [6,7,3,0] (by omega) (by repeat' (first| ((with_reducible refine C0 ?_);first|exact CC|exact CQ (by omega) rfl rfl (by rfl) rfl|exact CF)| ((with_reducible refine D0 ?_);refine C9 ?_)|exact C3|refine C4 ?_ ?_|fail)) ⟨⟨by simp,by simp[sgL],_,rfl,bP (aG bF _) rfl rfl⟩,⟨by simp,by simp[sgL],_,rfl,bP (aG bF _) rfl rfl⟩,⟨by simp,by simp[sgL],_,rfl,bP (aG bF _) rfl rfl⟩,⟨by simp,by simp[sgL],_,rfl,bP (aG dZ _) rfl rfl⟩,trivial⟩ (by simp[sgL])) ?_)
 exact⟨hc,hhc,rfl,rfl,rfl⟩
theorem aO9 (h: ∀hc,6≤hc→K (dA (oSt nx (nx+1) (nx+2) (nx+3) 64 hc 3 0 st0)) ((((H.set nx ⟨1,64,st0.words.map aJ⟩).set (nx+1) ⟨1,hc,st0.holds.map aJ⟩).set (nx+2) ⟨1,3,st0.asked.map aJ⟩).set (nx+3) ⟨5,0,st0.told.map aS⟩) (nx+4)):aB Tryz.prog c7 [] H nx K:=by
 refine aRV.AF (l0:=[]) [] rfl trivial trivial (by simp) (by simp) (by simp) fun r H' n' _ ⟨hc,q0,q1,q2,q3⟩=> ?_
 have h:=h hc q0
 subst q1;subst q2;subst q3
 generalize st0=s0 at*
 have e1:back (tau 0 nx (nth [])) (hp [(0,⟨1,64,s0.words.map aJ⟩),(1,⟨1,hc,s0.holds.map aJ⟩),(2,⟨1,3,s0.asked.map aJ⟩),(3,⟨5,0,s0.told.map aS⟩)]) 4 H=((((H.set nx ⟨1,64,s0.words.map aJ⟩).set (nx+1) ⟨1,hc,s0.holds.map aJ⟩).set (nx+2) ⟨1,3,s0.asked.map aJ⟩).set (nx+3) ⟨5,0,s0.told.map aS⟩):=by
  simp[back,hp,aA.set,aA.nil,tau,nth,uB,aP2,aA.eL,aA.yI]
 rw[←e1] at h
 exact h
theorem aL7 (w:List Int) (hl:w.length<2^20):aB Tryz.prog aIW [dA [.isl (w.map aJ)]] .nil 0 fun rr _ nn=>nn=0∧rr.imm=true∧rr=dA [.isl (w.map aJ)]:=by
 refine aKY rfl fun Q hQ=> ?_
 unfold aJE
 repeat' (first| (with_reducible first| (refine hK _ _ _ ?_;clear hK K)|refine Z1 ?_|refine fun(cap:Nat) (hcap:_≤cap)=> ?_|refine fun(hcp:_≤cap)=> ?_)| (with_reducible refine Y2 fun K hK=> ?_)<;>(simp only[go_sem])| ((with_reducible refine Y8 ?_);try simp only[AQ.then,AQ.blk,reduceIte,Nat.reduceEqDiff])|refine⟨by omega,?_⟩|fail)
 all_goals exact V4 hQ (dA [.isl (w.map aJ)]) _ rfl (aH (bW bF rfl rfl (by omega) trivial) eP) rfl rfl
theorem aMB {w:List Int} (hl:w.length<2^20) (h:K (dA [.isl (w.map aJ)]) H nx):aB Tryz.prog aIW [dA [.isl (w.map aJ)]] H nx K:=
 (aL7 w hl).fresh rfl (fun r hr=>hr▸h)
theorem aLP (w u:List Int) (hl:w.length<2^20) (hu:u.length<2^20):aB Tryz.prog aIR [dA [.isl (w.map aJ),.isl (u.map aJ)]] .nil 0 fun rr _ nn=>nn=0∧rr.imm=true∧rr=dA [.isl (w.map aJ),.isl (u.map aJ)]:=by
 refine aKW rfl fun Q hQ=> ?_
 unfold aJH
 repeat' (first| (with_reducible first| (refine hK _ _ _ ?_;clear hK K)|refine Z1 ?_|refine fun(cap:Nat) (hcap:_≤cap)=> ?_|refine fun(hcp:_≤cap)=> ?_)| (first| (with_reducible refine Y2 fun K hK=> ?_)| (with_reducible refine aMB hl ?_))<;>(simp only[go_sem])| ((with_reducible refine Y8 ?_);try simp only[AQ.then,AQ.blk,reduceIte,Nat.reduceEqDiff])|refine⟨by omega,?_⟩|fail)
 all_goals exact V4 hQ (dA [.isl (w.map aJ),.isl (u.map aJ)]) _ rfl (aH (bB rfl) (aH (bW bF rfl rfl (by omega) trivial) eP)) rfl rfl
theorem aKA {w:List Int} {u:List Int} (hl:w.length<2^20) (hu:u.length<2^20) (h:K (dA [.isl (w.map aJ),.isl (u.map aJ)]) H nx):aB Tryz.prog aIR [dA [.isl (w.map aJ),.isl (u.map aJ)]] H nx K:=
 (aLP w u hl hu).fresh rfl (fun r hr=>hr▸h)
theorem aMZ (r:Rsp) (hl:r.data.length<2^20):aB Tryz.prog aI8 [dA (tG r)] .nil 0 fun rr _ nn=>nn=0∧rr.imm=true∧rr=dA (tG r):=by
 refine aLO rfl fun Q hQ=> ?_
 unfold aJN
 repeat' (first| (with_reducible first| (refine hK _ _ _ ?_;clear hK K)|refine Z1 ?_|refine fun(cap:Nat) (hcap:_≤cap)=> ?_|refine fun(hcp:_≤cap)=> ?_)| (with_reducible refine Y2 fun K hK=> ?_)<;>(simp only[go_sem])| ((with_reducible refine Y8 ?_);try simp only[AQ.then,AQ.blk,reduceIte,Nat.reduceEqDiff])|refine⟨by omega,?_⟩|fail)
 all_goals exact V4 hQ (dA (tG r)) _ rfl (aH (bB rfl) (aH (bB rfl) (aH (bW bF rfl rfl (by omega) trivial) eP))) rfl rfl
theorem aMW {r:Rsp} (hl:r.data.length<2^20) (h:K (dA (tG r)) H nx):aB Tryz.prog aI8 [dA (tG r)] H nx K:=
 (aMZ r hl).fresh rfl (fun r hr=>hr▸h)
theorem aL1 (l:List Job) (hl:l.length<2^20) (hd: ∀j∈l,j.rsp.data.length<2^20):aB Tryz.prog aIM [dS (l.map aS)] .nil 0 fun rr _ nn=>nn=0∧rr.imm=true∧rr=dS (l.map aS):=by
 refine aLL rfl fun Q hQ=> ?_
 unfold aJF
 repeat' (first| (with_reducible first| (refine hK _ _ _ ?_;clear hK K)|refine Z1 ?_|refine Z3 fun KB hKB=> ?_)| (with_reducible refine Y2 fun K hK=> ?_)<;>(simp only[go_sem])|fail)
 (have hKX:=hKB;clear hKB)
 refine aM.sG 1 (β:=Nat×Nat) (fun b u=>en [(4,dI u.1),(3,dO 5 b u.1 u.2),(0,dS (l.map aS))])
  (fun b u=>hp [(b,⟨5,u.2,(l.take u.1).map aS⟩)]) (fun u=>u.1≤l.length∧u.1≤u.2) (fun u=>l.length-u.1) (0,0) (by(refine cR [1] (by omega) (by repeat' (first| (with_reducible first|exact C1|refine C2 ?_ ?_)| ((with_reducible refine C0 ?_);exact CC)| ((with_reducible refine D0 ?_);first|exact CA rfl|refine CJ ?_)|fail)) ⟨⟨by simp,by simp[sgL],_,rfl,bP (aG dZ _) rfl rfl⟩,trivial⟩ (by simp[sgL]))) ⟨by omega,by omega⟩ ?_
 rintro⟨k,cap⟩ ⟨hk,hc⟩ KL hKL
 dsimp only at hk hc
 have htt:(l.take k).take k=l.take k:=List.take_of_length_le (by simp;omega)
 by_cases hlt:k<l.length
 ·have hm:=hd _ (cC hlt)
  repeat' (first| (with_reducible first| (refine hK _ _ _ ?_;clear hK K)| (refine hA ?_;clear hA hB A B)|refine Z1 ?_|refine Z2 ?_|refine Z3 fun KB hKB=> ?_|refine Z4 (by omega) ?_|refine fun(cap:Nat) (hcap:_≤cap)=> ?_|refine fun(hcp:_≤cap)=> ?_)| (first| (with_reducible first|refine Y2 fun K hK=> ?_|refine Y3 fun A B hA hB=> ?_)| (with_reducible refine aMW hm ?_))<;>(simp only[go_sem,htt,aM8];try simp (disch:=omega) only[Iw])| ((with_reducible refine Y0 ?_);simp only[AQ.then,AQ.blk])|refine⟨by omega,?_⟩| (refine⟨by(rw[List.length_take];omega),?_⟩)| (with_reducible refine hKB _ _ _ ?_)|fail)
  all_goals exact hKL _ _ _ (k+1,cap) (by omega) (by(refine cR [28] (by omega) (by repeat' (first| (with_reducible first|exact C1|refine C2 ?_ ?_)| ((with_reducible refine C0 ?_);exact CQ (by omega) rfl rfl (by rfl) rfl)| ((with_reducible refine D0 ?_);first|exact CA rfl|refine CJ ?_)|fail)) ⟨⟨by simp,by simp[sgL],_,rfl,bP (aG dZ _) (by rw[nK hlt]) rfl⟩,trivial⟩ (by simp[sgL]))) ⟨by dsimp only;omega,by dsimp only;omega⟩ (by dsimp only;omega)
 ·repeat' (first| (with_reducible first| (refine hK _ _ _ ?_;clear hK K)| (refine hB ?_;clear hA hB A B)|refine Z1 ?_|refine Z5 (by omega) ?_|refine hKX _ _ _ ?_)| (with_reducible first|refine Y2 fun K hK=> ?_|refine Y3 fun A B hA hB=> ?_)<;>(simp only[go_sem])| ((with_reducible first|refine Y8 ?_|refine Y9 ?_);try simp only[AQ.then,AQ.blk,reduceIte,Nat.reduceEqDiff])|fail)
  have hk2:k=l.length:=by omega
  subst hk2
  exact V4 hQ (dS (l.map aS)) _ rfl (DJ (rows:=l.map aS) (aG dZ _) (by simp) trivial rfl rfl (by simp[List.take_of_length_le]) (by simp;omega)) rfl rfl
theorem aI1 {l:List Job} (hl:l.length<2^20) (hd: ∀j∈l,j.rsp.data.length<2^20) (h:K (dS (l.map aS)) H nx):aB Tryz.prog aIM [dS (l.map aS)] H nx K:=
 (aL1 l hl hd).fresh rfl (fun r hr=>hr▸h)
theorem aLT (c:Cfg) (s:TSt) (hb:aQ c) (hs:BA c s) (hd: ∀j∈s.wait++s.done++s.told,j.rsp.data.length<2^20):aB Tryz.prog aI0 [dA (eSt s)] .nil 0 fun rr _ nn=>nn=0∧rr.imm=true∧rr=dA (eSt s):=by
 refine aK9 rfl fun Q hQ=> ?_
 unfold aJB
 have hl:=hs.lens hb
 have hwl:=hs.atm.wl
 have hhl:=hs.atm.hl
 have hal:=hs.JI
 repeat' (first| (with_reducible first| (refine hK _ _ _ ?_;clear hK K)|refine Z1 ?_|refine fun(cap:Nat) (hcap:_≤cap)=> ?_|refine fun(hcp:_≤cap)=> ?_)| (first| (with_reducible refine Y2 fun K hK=> ?_)| (with_reducible refine aKA (by omega) (by omega) ?_)| (with_reducible refine aI1 (l:=s.wait) (by omega) (fun j hj=>hd j (by simp[hj])) ?_)| (with_reducible refine aI1 (l:=s.done) (by omega) (fun j hj=>hd j (by simp[hj])) ?_)| (with_reducible refine aI1 (l:=s.told) (by omega) (fun j hj=>hd j (by simp[hj])) ?_))<;>(simp only[go_sem])| ((with_reducible refine Y8 ?_);try simp only[AQ.then,AQ.blk,reduceIte,Nat.reduceEqDiff])|refine⟨by omega,?_⟩|fail)
 all_goals exact V4 hQ (dA (eSt s)) _ rfl (aH (bB rfl) (aH (bB rfl) (aH (bW bF rfl rfl (by omega) trivial) (aH (bB rfl) (aH (bB rfl) (aH (bB rfl) eP)))))) rfl rfl
theorem aLV {c:Cfg} {s:TSt} (hb:aQ c) (hs:BA c s) (hd: ∀j∈s.wait++s.done++s.told,j.rsp.data.length<2^20) (h:K (dA (eSt s)) H nx):aB Tryz.prog aI0 [dA (eSt s)] H nx K:=
 (aLT c s hb hs hd).fresh rfl (fun r hr=>hr▸h)
end
end Go.Proofs.YtegiblhkjfiooaaGreat
end
section
namespace Go.Proofs.YtegiblhkjfiooaaGreat
open Go Go.AM
set_option maxRecDepth 100000
end Go.Proofs.YtegiblhkjfiooaaGreat
end
section
namespace Go.Proofs.YtegiblhkjfiooaaGreat
open Go Go.AM
set_option maxRecDepth 100000
end Go.Proofs.YtegiblhkjfiooaaGreat
end
