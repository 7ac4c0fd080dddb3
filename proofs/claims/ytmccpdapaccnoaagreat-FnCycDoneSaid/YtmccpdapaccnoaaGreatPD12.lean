/- Texts laid together by a program: rules, contracts and the walk that leads to the law. -/
import Derived.Test.YtmccpdapaccnoaaGreatPD8
import Derived.Test.YtmccpdapaccnoaaGreatPD4
import Derived.Test.YtmccpdapaccnoaaGreatPD3
import Derived.Test.YtmccpdapaccnoaaGreatPD5
import Derived.Test.YtmccpdapaccnoaaGreatPD6
import Derived.OpenShut
import Derived.Below
set_option linter.unusedVariables false
set_option linter.unusedSimpArgs false
set_option linter.unusedSectionVars false
set_option maxRecDepth 100000
set_option maxHeartbeats 8000000
namespace Go.Proofs.YtmccpdapaccnoaaGreat
open Go Go.AM
attribute [local irreducible] aM wv aB vd wvH
attribute [go_sem] Y5
section
variable {H : aA} {nx : Nat} {K : D → aA → Nat → Prop}
theorem aRW{old:Int}{new:Int}{g6:Int} (h1:0≤old∧old≤65535) (h2:0≤new∧new≤65535) (h3:0≤g6∧g6≤3) (h:K (boP (xZ old new g6)) H nx):aB Tryz.prog aNH [boP old,boP new,boP g6] H nx K:=by
 refine aB.pure (args0:=[boP old,boP new,boP g6]) (R:=fun rr=>rr=boP (xZ old new g6)) ?_ rfl (aI ⟨aE rfl,aE rfl,aE rfl,trivial⟩) (fun r hr=>hr▸h);clear h;refine aQM rfl fun Q hQ=> ?_;unfold aNS;repeat' first| (first|apply bn1|apply bpK (by omega)|apply aBC)<;>(simp only[go_sem,brF h1.1,bsG h1.1,brF h2.1,bsG h2.1,brF h3.1,bsG h3.1];try simp (disch:=omega) only[Iw])|apply bn3 (by omega)|refine bnE (fun h=> ?_) fun h=> ?_|fail
 all_goals first|with_reducible refine aZ hQ _ rfl rfl ?_|skip
 all_goals exact qA (by unfold xZ;simp[*])
theorem aS1 (w all:List Int) (wc wm:Nat) (hwl:w.length=64) (hwc:64≤wc) (ha:All all 0 63) (hal:all.length<2^21):aB Tryz.prog W3 [boR [.osl 1 0 0 64 wc],dS (all.map aJ)] (hp [(0,⟨1,wm,w.map aJ⟩)]) 1
 fun r H' n'=>n'=1∧ ∃o',H'=hp [(0,o')]∧C7 o'∧o'=⟨1,wm,w.map aJ⟩∧r=dS ((all.map fun a=>w.getD a.toNat default).map aJ):=by
 refine aR8 rfl fun Q hQ=> ?_
 unfold aN4
 repeat' first|apply bn1<;>(simp only[go_sem])|fail
 refine aM.sG 2 (β:=Nat×Nat) (fun b u=>en [(6,boP u.1),(5,boQ 1 (b+1) u.1 u.2),(2,bkP 1 b),(1,dS (all.map aJ))])
  (fun b u=>hp [(0,⟨1,wm,w.map aJ⟩),(b,⟨1,1,[[.osl 1 0 0 64 wc]]⟩),(b+1,⟨1,u.2,((all.take u.1).map fun a=>w.getD a.toNat default).map aJ⟩)]) (fun u=>u.1≤all.length∧u.1≤u.2) (fun u=>all.length-u.1) (0,0)
  (by(refine cR [1,3,0] (by omega) (by repeat' first|exact bo2|refine xqI rfl rfl ?_|refine xqP (by omega) rfl rfl ?_|refine xqO (by omega) rfl rfl (by rfl) ?_|fail) ⟨⟨by simp,by simp[sgL],_,rfl,bP (aG bF _) rfl rfl⟩,⟨by simp,by simp[sgL],_,rfl,aP (by repeat' first|exact bo2| (with_reducible first|exact bo4|apply bo5)| ((with_reducible apply bo0);exact bpB (by omega) rfl rfl (by rfl) rfl)|fail)⟩,⟨by simp,by simp[sgL],_,rfl,bP (aG bF _) rfl rfl⟩,trivial⟩ (by simp[sgL]))) ⟨by omega,by omega⟩ ?_
 rintro⟨k,cap⟩ ⟨hk,hc⟩ bpQ hKL
 dsimp only at hk hc
 by_cases hlt:k<all.length
 ·have hb:=HB ha hlt;repeat' first|apply bn1<;>(simp only[go_sem];try simp (disch:=omega) only[Iw])|apply bn2 (by omega)| (with_reducible first|refine fun(cap:Nat) (hcap:_≤cap)=> ?_|refine fun(hcp:_≤cap)=> ?_)|refine⟨by omega,?_⟩| (refine⟨by(rw[CG];omega),?_⟩)|fail
  refine hKL _ _ _ (k+1,cap) (by omega) (by(refine cR [6,22,0] (by omega) (by repeat' first|exact bo2|refine xqI rfl rfl ?_|refine xqP (by omega) rfl rfl ?_|refine xqO (by omega) rfl rfl (by rfl) ?_|fail) ⟨⟨by simp,by simp[sgL],_,rfl,bP (aG bF _) rfl rfl⟩,⟨by simp,by simp[sgL],_,rfl,aP (by repeat' first|exact bo2| (with_reducible first|exact bo4|apply bo5)| ((with_reducible apply bo0);exact bpB (by omega) rfl rfl (by rfl) rfl)|fail)⟩,⟨by simp,by simp[sgL],_,rfl,bP (aG bF _) (by rw[nK hlt,bqX,boL (l:=List.map _ (List.take k all)) (by simp;omega)];rfl) rfl⟩,trivial⟩ (by simp[sgL]))) ⟨by dsimp only;omega,by dsimp only;omega⟩ (by dsimp only;omega)
 ·repeat' first|apply bn1<;>(simp only[go_sem])|apply bn3 (by omega)|fail
  have hk2:k=all.length:=by omega
  subst hk2;exact lA hQ (dS _) _ _ rfl (yP (l:=(all.take all.length).map fun a=>w.getD a.toNat default) bF rfl (by simp) (by simp;omega) (by decide)) rfl (oB bF _) ⟨rfl,by rw[bq4]⟩
variable{w:List Int}
theorem aSW{all:List Int}{wc wm i:Nat} (hwl:w.length=64) (hwc:64≤wc) (ha:All all 0 63) (hal:all.length<2^21) (hi:i<nx) (ho:H i=some ⟨1,wm,w.map aJ⟩) (h:K (dS ((all.map fun a=>w.getD a.toNat default).map aJ)) (H.set i ⟨1,wm,w.map aJ⟩) nx):
 aB Tryz.prog W3 [boR [.osl 1 i 0 64 wc],dS (all.map aJ)] H nx K:=
 (aS1 w all wc wm hwl hwc ha hal).OU i rfl (gW ⟨aH (aaF (by omega) rfl rfl rfl rfl) eP,aE rfl,trivial⟩) hi ho (oB bF _) fun r o' ⟨h1,h2⟩=>by subst h1;subst h2;exact h
theorem aSV (w all data g6:List Int) (wc wm:Nat) (hwl:w.length=64) (hw:All w 0 65535) (hwc:64≤wc) (ha:All all 0 63) (hal:all.length<2^21) (hd:All data 0 65535) (hdl:data.length=all.length) (hl:All g6 0 3) (hll:g6.length=all.length):
 aB Tryz.prog H5 [boR [.osl 1 0 0 64 wc],dS (all.map aJ),dS (data.map aJ),dS (g6.map aJ)] (hp [(0,⟨1,wm,w.map aJ⟩)]) 1
 fun r H' n'=>n'=1∧ ∃o',H'=hp [(0,o')]∧C7 o'∧o'=⟨1,wm,(FV w all data g6 all.length).map aJ⟩∧r=boR [.osl 1 0 0 64 wc]:=by
 refine aRX rfl fun Q hQ=> ?_
 unfold aN6
 repeat' first|apply bn1<;>(simp only[go_sem])|fail
 refine aM.sG 2 (β:=Nat) (fun b k=>en [(9,boP k),(8,bkP 1 (b+1)),(4,bkP 1 b),(3,dS (g6.map aJ)),(2,dS (data.map aJ)),(1,dS (all.map aJ))])
  (fun b k=>hp [(0,⟨1,wm,(FV w all data g6 k).map aJ⟩),(b,⟨1,1,[[.osl 1 0 0 64 wc]]⟩),(b+1,⟨1,1,[[.osl 0 0 0 0 0]]⟩)]) (fun k=>k≤all.length) (fun k=>all.length-k) 0
  (by(refine cR [1,2,0] (by omega) (by repeat' first|exact bo2|refine xqI rfl rfl ?_|refine xqP (by omega) rfl rfl ?_|fail) ⟨⟨by simp,by simp[sgL],_,rfl,bP (aG bF _) rfl rfl⟩,⟨by simp,by simp[sgL],_,rfl,aP (by repeat' first|exact bo2| (with_reducible first|exact bo4|apply bo5)| ((with_reducible apply bo0);exact bpB (by omega) rfl rfl (by rfl) rfl)|fail)⟩,⟨by simp,by simp[sgL],_,rfl,aP (by repeat' first|exact bo2| (with_reducible first|exact bo4|apply bo5)| ((with_reducible apply bo0);exact bpA)|fail)⟩,trivial⟩ (by simp[sgL]))) (by omega) ?_
 rintro k hk bpQ hKL
 have hpl:=AX (w:=w) (all:=all) (data:=data) (g6:=g6) k
 have hpw:=afR (all:=all) (g6:=g6) hw hd k
 by_cases hlt:k<all.length
 ·have hb:=HB ha hlt;have hb2:(all.getD k default).toNat<(FV w all data g6 k).length:=by omega
  repeat' first| (first|apply bn1|apply aRW (HB hpw hb2) (HB hd (by omega)) (HB hl (by omega)))<;>(simp only[go_sem];try simp (disch:=omega) only[Iw])|apply bn2 (by omega)|refine⟨by omega,?_⟩|fail
  exact hKL _ _ _ (k+1) (by omega) (by(refine cR [4,5,0] (by omega) (by repeat' first|exact bo2|refine xqI rfl rfl ?_|refine xqP (by omega) rfl rfl ?_|fail) ⟨⟨by simp,by simp[sgL],_,rfl,bP (aG bF _) rfl rfl⟩,⟨by simp,by simp[sgL],_,rfl,aP (by repeat' first|exact bo2| (with_reducible first|exact bo4|apply bo5)| ((with_reducible apply bo0);exact bpB (by omega) rfl rfl (by rfl) rfl)|fail)⟩,⟨by simp,by simp[sgL],_,rfl,aP (by repeat' first|exact bo2| (with_reducible first|exact bo4|apply bo5)| ((with_reducible apply bo0);exact bpA)|fail)⟩,trivial⟩ (by simp[sgL]))) (by omega) (by omega)
 ·repeat' first|apply bn1<;>(simp only[go_sem])|apply bn3 (by omega)|fail
  have hk2:k=all.length:=by omega
  subst hk2;exact lA hQ (boR [.osl 1 0 0 64 wc]) _ _ rfl (aH (aaF (by omega) rfl rfl rfl rfl) eP) rfl (oB bF _) ⟨rfl,rfl⟩
theorem aS5{all data g6:List Int}{wc wm i:Nat} (hwl:w.length=64) (hw:All w 0 65535) (hwc:64≤wc) (ha:All all 0 63) (hal:all.length<2^21) (hd:All data 0 65535) (hdl:data.length=all.length) (hl:All g6 0 3) (hll:g6.length=all.length)
 (hi:i<nx) (ho:H i=some ⟨1,wm,w.map aJ⟩) (h:K (boR [.osl 1 i 0 64 wc]) (H.set i ⟨1,wm,(FV w all data g6 all.length).map aJ⟩) nx):
 aB Tryz.prog H5 [boR [.osl 1 i 0 64 wc],dS (all.map aJ),dS (data.map aJ),dS (g6.map aJ)] H nx K:=
 (aSV w all data g6 wc wm hwl hw hwc ha hal hd hdl hl hll).OU i rfl (gW ⟨aH (aaF (by omega) rfl rfl rfl rfl) eP,aE rfl,aE rfl,aE rfl,trivial⟩) hi ho (oB bF _) fun r o' ⟨h1,h2⟩=>by subst h1;subst h2;exact h
theorem aSK (w hs all:List Int) (wc wm hc hm:Nat) (hsl:hs.length=6) (hhc:6≤hc) (hal:all.length<2^21) (ha:All all 0 63):
 aB Tryz.prog v9 [boR [.osl 1 0 0 64 wc,.osl 1 1 0 6 hc],dS (all.map aJ)] (hp [(0,⟨1,wm,w.map aJ⟩),(1,⟨1,hm,hs.map aJ⟩)]) 2
 fun r H' n'=>n'=2∧ ∃o1' o2',H'=hp [(0,o1'),(1,o2')]∧C7 o1'∧C7 o2'∧o1'=⟨1,wm,w.map aJ⟩∧o2'=⟨1,hm,(iU hs all).map aJ⟩∧r=boR [.osl 1 0 0 64 wc,.osl 1 1 0 6 hc]:=by
 refine aRM rfl fun Q hQ=> ?_
 unfold aNU
 repeat' first|apply bn1<;>(simp only[go_sem])|fail
 refine aM.sG 2 (β:=Nat) (fun b k=>en [(5,boP k),(4,bkP 2 (b+1)),(2,bkP 2 b),(1,dS (all.map aJ))])
  (fun b k=>hp [(0,⟨1,wm,w.map aJ⟩),(1,⟨1,hm,(xI hs all k).map aJ⟩),(b,⟨2,1,[[.osl 1 0 0 64 wc,.osl 1 1 0 6 hc]]⟩),(b+1,⟨2,1,[[.osl 0 0 0 0 0,.osl 0 0 0 0 0]]⟩)]) (fun k=>k≤6) (fun k=>6-k) 0
  (by(refine cR [2,3,0,1] (by omega) (by repeat' first|exact bo2|refine xqI rfl rfl ?_|refine xqP (by omega) rfl rfl ?_|fail) ⟨⟨by simp,by simp[sgL],_,rfl,bP (aG bF _) rfl rfl⟩,⟨by simp,by simp[sgL],_,rfl,bP (aG bF _) (congrArg _ ac9) rfl⟩,⟨by simp,by simp[sgL],_,rfl,aP (by repeat' first|exact bo2| (with_reducible first|exact bo4|apply bo5)| ((with_reducible apply bo0);exact bpB (by omega) rfl rfl (by rfl) rfl)|fail)⟩,⟨by simp,by simp[sgL],_,rfl,aP (by repeat' first|exact bo2| (with_reducible first|exact bo4|apply bo5)| ((with_reducible apply bo0);exact bpA)|fail)⟩,trivial⟩ (by simp[sgL]))) (by omega) ?_
 rintro k hk bpQ hKL
 have hfl:=aiJ (all:=all) (show k≤hs.length by omega)
 by_cases hlt:k<6
 ·have hfa:=akN (all:=all) (show k<hs.length by omega);have hss:=acP (all:=all) (show k<hs.length by omega);repeat' first|apply bn1<;>(simp only[go_sem])|apply bn2 (by omega)|fail
  refine aM.sG 0 (β:=Nat×Int) (fun b u=>en [(6,boP u.1),(5,boP k),(4,bkP 2 6),(2,bkP 2 5),(1,dS (all.map aJ))])
   (fun b u=>hp [(0,⟨1,wm,w.map aJ⟩),(1,⟨1,hm,((xI hs all k).set k u.2).map aJ⟩),(5,⟨2,1,[[.osl 1 0 0 64 wc,.osl 1 1 0 6 hc]]⟩),(6,⟨2,1,[[.osl 0 0 0 0 0,.osl 0 0 0 0 0]]⟩)]) (fun u=>u.1≤all.length∧u.2=if hs.getD k default∈all.take u.1 then-1 else hs.getD k default) (fun u=>all.length-u.1) (0,hs.getD k default)
   (by(refine cR [0,1,5,6] (by omega) (by repeat' first|exact bo2|refine xqI rfl rfl ?_|refine xqP (by omega) rfl rfl ?_|fail) ⟨⟨by simp,by simp[sgL],_,rfl,bP (aG bF _) rfl rfl⟩,⟨by simp,by simp[sgL],_,rfl,bP (aG bF _) (congrArg _ hss) rfl⟩,⟨by simp,by simp[sgL],_,rfl,aP (by repeat' first|exact bo2| (with_reducible first|exact bo4|apply bo5)| ((with_reducible apply bo0);exact bpB (by omega) rfl rfl (by rfl) rfl)|fail)⟩,⟨by simp,by simp[sgL],_,rfl,aP (by repeat' first|exact bo2| (with_reducible first|exact bo4|apply bo5)| ((with_reducible apply bo0);exact bpA)|fail)⟩,trivial⟩ (by simp[sgL]))) ⟨by omega,by simp⟩ ?_
  rintro⟨j,v⟩ ⟨hj,hv⟩ aUS hKI;dsimp only at hj hv;by_cases hjt:j<all.length
  ·have hb:=HB ha hjt;have hg:((xI hs all k).set k v).getD k default=v:=(by rw[wV (by omega),if_pos rfl]);have hset: ∀x,((xI hs all k).set k v).set k x=(xI hs all k).set k x:=fun x=>by rw[bq1]
   have ht:=nK hjt;repeat' first|apply bn1<;>(simp only[go_sem,hg,hset];try simp (disch:=omega) only[Iw])|apply bn2 (by omega)|refine bnE (fun h=> ?_) fun h=> ?_|refine⟨by omega,?_⟩|fail
   ·exact hKI _ _ _ (j+1,-1) (by omega) (by(refine cR [0,1,5,6] (by omega) (by repeat' first|exact bo2|refine xqI rfl rfl ?_|refine xqP (by omega) rfl rfl ?_|fail) ⟨⟨by simp,by simp[sgL],_,rfl,bP (aG bF _) rfl rfl⟩,⟨by simp,by simp[sgL],_,rfl,bP (aG bF _) rfl rfl⟩,⟨by simp,by simp[sgL],_,rfl,aP (by repeat' first|exact bo2| (with_reducible first|exact bo4|apply bo5)| ((with_reducible apply bo0);exact bpB (by omega) rfl rfl (by rfl) rfl)|fail)⟩,⟨by simp,by simp[sgL],_,rfl,aP (by repeat' first|exact bo2| (with_reducible first|exact bo4|apply bo5)| ((with_reducible apply bo0);exact bpA)|fail)⟩,trivial⟩ (by simp[sgL]))) ⟨by dsimp only;omega,by dsimp only;rw[ht];grind⟩ (by dsimp only;omega)
   ·exact hKI _ _ _ (j+1,v) (by omega) (by(refine cR [0,1,5,6] (by omega) (by repeat' first|exact bo2|refine xqI rfl rfl ?_|refine xqP (by omega) rfl rfl ?_|fail) ⟨⟨by simp,by simp[sgL],_,rfl,bP (aG bF _) rfl rfl⟩,⟨by simp,by simp[sgL],_,rfl,bP (aG bF _) rfl rfl⟩,⟨by simp,by simp[sgL],_,rfl,aP (by repeat' first|exact bo2| (with_reducible first|exact bo4|apply bo5)| ((with_reducible apply bo0);exact bpB (by omega) rfl rfl (by rfl) rfl)|fail)⟩,⟨by simp,by simp[sgL],_,rfl,aP (by repeat' first|exact bo2| (with_reducible first|exact bo4|apply bo5)| ((with_reducible apply bo0);exact bpA)|fail)⟩,trivial⟩ (by simp[sgL]))) ⟨by dsimp only;omega,by dsimp only;rw[ht];grind⟩ (by dsimp only;omega)
  ·have hj2:j=all.length:=(by omega);subst hj2;have hnx:=agQ (x:=v) (show k<hs.length by omega) (by rw[hv,bq4]);repeat' first|apply bn1<;>(simp only[go_sem];try simp (disch:=omega) only[Iw])|apply bn3 (by omega)|fail
   exact hKL _ _ _ (k+1) (by omega) (by(refine cR [5,6,0,1] (by omega) (by repeat' first|exact bo2|refine xqI rfl rfl ?_|refine xqP (by omega) rfl rfl ?_|fail) ⟨⟨by simp,by simp[sgL],_,rfl,bP (aG bF _) rfl rfl⟩,⟨by simp,by simp[sgL],_,rfl,bP (aG bF _) (by rw[hnx]) rfl⟩,⟨by simp,by simp[sgL],_,rfl,aP (by repeat' first|exact bo2| (with_reducible first|exact bo4|apply bo5)| ((with_reducible apply bo0);exact bpB (by omega) rfl rfl (by rfl) rfl)|fail)⟩,⟨by simp,by simp[sgL],_,rfl,aP (by repeat' first|exact bo2| (with_reducible first|exact bo4|apply bo5)| ((with_reducible apply bo0);exact bpA)|fail)⟩,trivial⟩ (by simp[sgL]))) (by omega) (by omega)
 ·repeat' first|apply bn1<;>(simp only[go_sem])|apply bn3 (by omega)|fail
  have hk2:k=hs.length:=by omega
  subst hk2;exact aTE hQ (boR [.osl 1 0 0 64 wc,.osl 1 1 0 6 hc]) _ _ _ rfl (by repeat' first|exact bo2| ((with_reducible apply bo0);exact bpB (by omega) rfl rfl (by rfl) rfl)| ((with_reducible apply bo1);apply bo6)|exact bo4|apply bo5|fail) rfl rfl (oB bF _) (oB bF _) ⟨rfl,by rw[ahC],rfl⟩
theorem aSH{hs all:List Int}{wc wm hc hm i j:Nat} (hsl:hs.length=6) (hhc:6≤hc) (hal:all.length<2^21) (ha:All all 0 63)
 (hi:i<nx) (hj:j<nx) (hij:i≠j) (ho1:H i=some ⟨1,wm,w.map aJ⟩) (ho2:H j=some ⟨1,hm,hs.map aJ⟩) (h:K (boR [.osl 1 i 0 64 wc,.osl 1 j 0 6 hc]) ((H.set i ⟨1,wm,w.map aJ⟩).set j ⟨1,hm,(iU hs all).map aJ⟩) nx):
 aB Tryz.prog v9 [boR [.osl 1 i 0 64 wc,.osl 1 j 0 6 hc],dS (all.map aJ)] H nx K:=
 (aSK w hs all wc wm hc hm hsl hhc hal ha).aUH i j rfl (gW ⟨aH (aaF (by omega) rfl rfl rfl rfl) (aH (aaF (by omega) rfl rfl rfl rfl) eP),aE rfl,trivial⟩) hi hj hij ho1 ho2 (oB bF _) (oB bF _) fun r o1' o2' ⟨h1,h2,h3⟩=>by subst h1;subst h2;subst h3;exact h
theorem aTB (m:List Rng) (w hs:List Int) (who:Int) (q:Req) (wc wm hc hm:Nat) (hm4:m.length<2^21) (hf:WK w hs) (hwc:64≤wc) (hhc:6≤hc) (hw:0≤who∧who≤2) (hq:dH q):
 aB Tryz.prog aN2 [dS (m.map eN),boR [.osl 1 0 0 64 wc,.osl 1 1 0 6 hc],boP who,boR (eB q)] (hp [(0,⟨1,wm,w.map aJ⟩),(1,⟨1,hm,hs.map aJ⟩)]) 2
 fun r H' n'=>n'=2∧ ∃o1' o2',H'=hp [(0,o1'),(1,o2')]∧C7 o1'∧C7 o2'∧o1'=⟨1,wm,(doM m w hs who q).1.1.map aJ⟩∧o2'=⟨1,hm,(doM m w hs who q).1.2.map aJ⟩∧r= .tup [.agg [.osl 1 0 0 64 wc,.osl 1 1 0 6 hc],.agg (tG (doM m w hs who q).2)]:=by
 obtain⟨hwl,hwr,hsl,hsr⟩:=hf
 obtain⟨hq1,hq2,hq3,hq4,hq5,hq6,hq7,hq8⟩:=hq
 have hbl:=DF hq3
 have hbp:=ai5 hq3
 have hb4:=MK (addr:=q.addr) (many:=q.many) (wrap:=q.wrap)
 have hbi:All (bE q.addr q.many q.wrap) 0 63:=V1
 have hlt:=PQ (p:=(inR · ((bE q.addr q.many q.wrap).getD 0 default))) (l:=m)
 have hwh:bV m (bE q.addr q.many q.wrap)<m.length:=by unfold bV;grind
 have hdl:wrM q=true→q.data.length=(bE q.addr q.many q.wrap).length∧q.g6.length=(bE q.addr q.many q.wrap).length:=by intro h;unfold wrM at h;unfold n5 at hq4 hq5;simp at h;simp only[h,if_true] at hq4 hq5;omega
 refine aSX rfl fun Q hQ=> ?_
 unfold aOF
 repeat' first| (first|apply bn1| (refine bpM (fun h=> ?_) (fun h=> ?_)<;>try subst h)|apply aC9|apply aDG (by omega) (by omega)|apply aC2|refine aSW hwl hwc hbi (by omega) (by omega) rfl ?_| (refine aS5 hwl hwr hwc hbi (by omega) hq6 (hdl (by unfold wrM;simp;omega)).1 hq7 (hdl (by unfold wrM;simp;omega)).2 (by omega) rfl ?_)|refine aSH hsl hhc (by omega) hbi (by omega) (by omega) (by omega) rfl rfl ?_)<;>(simp only[go_sem];try simp (disch:=omega) only[Iw])|refine bnE (fun h=> ?_) fun h=> ?_| ((refine bnF (fun h=> ?_) (fun h=> ?_))<;>try subst h)|refine⟨by omega,?_⟩|fail
 all_goals have hwi:=W4 (q:=q)
 all_goals first
  |rw[alZ (by assumption)] at hQ
  |rw[anB (by assumption) (by assumption) (by assumption)] at hQ
  |rw[akI (by assumption) (by assumption)] at hQ
  |rw[amK (by assumption) (by assumption)] at hQ
  |rw[aqU (by assumption) (by grind) (by assumption) (by assumption)] at hQ
  |rw[aoE (by assumption) (by grind) (by assumption) (by grind)] at hQ
  |rw[ao1 (by assumption) (by grind) (by omega)] at hQ
  | (exfalso;grind)
 all_goals exact aTE hQ _ _ _ _ rfl (by repeat' first|exact bo2| (with_reducible first|apply aUP|apply aUQ)| ((with_reducible apply bo0);first|exact bo9 rfl|exact bpB (by omega) rfl rfl (by rfl) rfl|exact bpE)|exact bo4|apply bo5|fail) rfl rfl (oB bF _) (oB bF _) ⟨rfl,rfl,rfl⟩
theorem aS7{m:List Rng}{hs:List Int}{who:Int}{q:Req}{wc wm hc hm i j:Nat} (hm4:m.length<2^21) (hf:WK w hs) (hwc:64≤wc) (hhc:6≤hc) (hw:0≤who∧who≤2) (hq:dH q)
 (hi:i<nx) (hj:j<nx) (hij:i≠j) (ho1:H i=some ⟨1,wm,w.map aJ⟩) (ho2:H j=some ⟨1,hm,hs.map aJ⟩)
 (h:K (.tup [.agg [.osl 1 i 0 64 wc,.osl 1 j 0 6 hc],.agg (tG (doM m w hs who q).2)]) ((H.set i ⟨1,wm,(doM m w hs who q).1.1.map aJ⟩).set j ⟨1,hm,(doM m w hs who q).1.2.map aJ⟩) nx):
 aB Tryz.prog aN2 [dS (m.map eN),boR [.osl 1 i 0 64 wc,.osl 1 j 0 6 hc],boP who,boR (eB q)] H nx K:=
 (aTB m w hs who q wc wm hc hm hm4 hf hwc hhc hw hq).aUH i j rfl (gW ⟨aE rfl,aH (aaF (by omega) rfl rfl rfl rfl) (aH (aaF (by omega) rfl rfl rfl rfl) eP),aE rfl,aE rfl,trivial⟩) hi hj hij ho1 ho2 (oB bF _) (oB bF _) fun r o1' o2' ⟨h1,h2,h3⟩=>by subst h1;subst h2;subst h3;exact h
theorem aD5{l:List Rng} (hl:l.length<2^40) (h:K (dB (decide (DH l))) H nx):aB Tryz.prog aBG [dS (l.map eN)] H nx K:=by
 refine aB.pure (args0:=[dS (l.map eN)]) (R:=fun rr=>rr=dB (decide (DH l))) ?_ rfl (aI ⟨aE rfl,trivial⟩) (fun r hr=>hr▸h);clear h;refine aDM rfl fun Q hQ=> ?_;unfold aBO;by_cases hl4:(l.length:Int)≤4
 ·repeat' first|apply bn1<;>(simp only[go_sem])|apply bn3 (by omega)|fail
  refine aM.gP (β:=Nat) (fun k=>en [(3,boP k),(0,dS (l.map eN))]) (fun k _ _=>k≤l.length∧ ∀i,i<k→V9 l i) (fun k=>l.length-k) 0 ⟨noF,_,by repeat' first|exact bo2|refine xqI rfl rfl ?_|fail,aK,by omega,fun i hi=>by omega⟩ ?_;rintro k H1 nx1 hnx1 ⟨hk,hinv⟩ bpQ hKL;by_cases hlt:k<l.length
  ·obtain⟨r,hr⟩: ∃r,r=l.getD k default:=⟨_,rfl⟩
   have hr':l.getD k default=r:=hr.symm;have hbad: ¬SF r→¬DH l:=fun h hm=>h (by rw[hr];exact(hm.2 k hlt).1);repeat' first| (first|apply bn1|refine bpL (fun h=> ?_) fun h=> ?_|apply aBC)<;>(simp only[go_sem,hr',boC])|apply bn2 (by omega)|refine bnE (fun h=> ?_) fun h=> ?_|refine⟨by omega,?_⟩|fail
   ·exact aZ hQ (dB false) rfl rfl (j7 (hbad fun hm=>by unfold SF at hm;omega))
   ·exact aZ hQ (dB false) rfl rfl (j7 (hbad fun hm=>by unfold SF at hm;omega))
   ·exact aZ hQ (dB false) rfl rfl (j7 (hbad fun hm=>by unfold SF at hm;omega))
   have hro:SF r:=(by unfold SF;omega);refine aM.gP (β:=Nat) (fun j=>en [(5,boP j),(4,.one (.c (.ptr 4 (nx1+8) 0 0))),(3,boP k),(0,dS (l.map eN))]) (fun j H2 _=>(j≤k∧ ∀i,i<j→aaM (l.getD i default) r=false)∧H2 (nx1+8)=some ⟨4,1,[eN r]⟩) (fun j=>k-j) 0 ⟨noF,_,by repeat' first|exact bo2|refine xqI rfl rfl ?_|refine xqP (by omega) rfl rfl ?_|fail,aK,⟨by omega,fun i hi=>by omega⟩,by simp only[aA.set,if_true]⟩ ?_;rintro j H2 nx2 hnx2 ⟨⟨hj,hinvj⟩,bp4⟩ bqG hKM;by_cases hjl:j<k
   ·obtain⟨r2,hr2⟩: ∃r2,r2=l.getD j default:=⟨_,rfl⟩
    have hr2':l.getD j default=r2:=hr2.symm;repeat' first| (first|apply bn1|refine bpL (fun h=> ?_) fun h=> ?_)<;>(simp only[go_sem,hr2',bp4];try simp (disch:=omega) only[Iw])|apply bn2 (by omega)|refine bnE (fun h=> ?_) fun h=> ?_|refine⟨by omega,?_⟩|fail
    ·refine aZ hQ (dB false) rfl rfl (j7 fun hm=> ?_);have h2:=(hm.2 k hlt).2;refine h2 (cH.2 ⟨l.getD j default,bqY.2 ⟨j,by simp;omega,by simp[List.getD,show j<l.length by omega]⟩,decide_eq_true ?_⟩);rw[hr2',hr'];omega
    all_goals exact hKM _ _ _ (j+1) noF _ (by omega) (by omega) (by repeat' first|exact bo2|refine xqI rfl rfl ?_|refine xqP (by omega) rfl rfl ?_|fail) aK ⟨⟨by omega,iS hinvj (by rw[hr2'];exact decide_eq_false (by omega))⟩,bp4⟩
   ·repeat' first|apply bn1<;>(simp only[go_sem];try simp (disch:=omega) only[Iw])|apply bn3 (by omega)|fail
    refine hKL _ _ _ (k+1) noF _ (by omega) (by omega) (by repeat' first|exact bo2|refine xqI rfl rfl ?_|fail) aK ⟨by omega,iS hinv ⟨by rw[hr'];exact hro,fun hc=> ?_⟩⟩;obtain⟨x,hx,hx2⟩:=cH.1 hc;obtain⟨i,hi,rfl⟩:=bqY.1 hx;have hi':i<k:=(by simp at hi;omega);have:=hinvj i (by omega);simp only[List.getD,show i<l.length by omega,n1,Option.getD_some] at this;rw[hr'] at hx2;simp only[brU] at hx2;rw[this] at hx2;cases hx2
  ·repeat' first|apply bn1<;>(simp only[go_sem])|apply bn3 (by omega)|fail
   have hk2:k=l.length:=(by omega);subst hk2;exact aZ hQ (dB true) rfl rfl (q9 ⟨hl4,hinv⟩)
 ·repeat' first|apply bn1<;>(simp only[go_sem])|apply bn2 (by omega)|fail
  exact aZ hQ (dB false) rfl rfl (j7 fun h=>hl4 h.1)
theorem aCC{l:List Int}{lo:Int}{up:Int} (hl:l.length<2^40) (h:K (dB (decide (All l lo up))) H nx):aB Tryz.prog aA3 [dS (l.map aJ),boP lo,boP up] H nx K:=by
 refine aB.pure (args0:=[dS (l.map aJ),boP lo,boP up]) (R:=fun rr=>rr=dB (decide (All l lo up))) ?_ rfl (aI ⟨aE rfl,aE rfl,aE rfl,trivial⟩) (fun r hr=>hr▸h);clear h;refine aDN rfl fun Q hQ=> ?_;unfold aBP;repeat' first|apply bn1<;>(simp only[go_sem])|fail
 (refine aM.loop (α:={k:Nat//k≤l.length∧(∀i,i<k→lo≤l.getD i default∧l.getD i default≤up)}) (fun u=>en [(7,boP u.1),(2,boP up),(1,boP lo),(0,dS (l.map aJ))]) (fun _=>.nil) _ (fun u=>l.length-u.1) ⟨0,by omega,(by intros;first|trivial|omega)⟩ (bU (m5 _) (by repeat' first|exact bo2|refine xqI rfl rfl ?_|fail)) ?_);(rintro⟨k,hk,hinv⟩ bpQ hKL);by_cases hlt:k<l.length
 ·repeat' first| (first|apply bn1|apply aBC)<;>(simp only[go_sem];try simp (disch:=omega) only[Iw])|apply bn2 (by omega)|refine bnE (fun h=> ?_) fun h=> ?_|refine⟨by omega,?_⟩|fail
  ·exact aZ hQ (dB false) rfl rfl (j7 fun ha=>by have:=aj1 ha hlt;omega)
  · (refine hKL _ _ _ ⟨k+1,by omega,iS hinv (by omega)⟩ (by omega) (by(try dsimp only);omega) (bU (m5 _) (by repeat' first|exact bo2|refine xqI rfl rfl ?_|fail)))
 ·repeat' first|apply bn1<;>(simp only[go_sem])|apply bn3 (by omega)|fail
  exact aZ hQ (dB true) rfl rfl (q9 (aEA fun i hi=>hinv i (by omega)))
theorem aD8{q:Req} (hd:q.data.length<2^40) (hl:q.g6.length<2^40) (h:K (dB (decide (dH q))) H nx):aB Tryz.prog aBF [boR (eB q)] H nx K:=by
 refine aB.pure (args0:=[boR (eB q)]) (R:=fun rr=>rr=dB (decide (dH q))) ?_ rfl (aI ⟨aE rfl,trivial⟩) (fun r hr=>hr▸h);clear h;refine aDW rfl fun Q hQ=> ?_;unfold aBM;repeat' first| (first|apply bn1|refine bpL (fun h=> ?_) fun h=> ?_|apply aBC|apply aC2|apply aCI|apply aCC (l:=q.data) hd|apply aCC (l:=q.g6) hl)<;>(simp only[go_sem])|refine bnE (fun h=> ?_) fun h=> ?_| ((refine bnF (fun h=> ?_) (fun h=> ?_))<;>try subst h)|fail
 all_goals first|with_reducible refine aZ hQ _ rfl rfl ?_|skip
 all_goals
  have e2:wrM q=true↔(q.kind=2∨q.kind=4):=by simp[wrM]
  have e3:All ([]:List Int) 0 65535:=by simp[All]
  have e4:All ([]:List Int) 0 3:=by simp[All]
  have e5:q.data.length=0→q.data=[]:=H4.1
  have e6:q.g6.length=0→q.g6=[]:=H4.1
  clear hQ
  first|exact j7 (by unfold dH n5;grind)|exact q9 (by unfold dH n5;grind)|exact pD (by unfold dH n5;grind)
theorem aMP{r:Rsp} (hr:r.data.length<2^40) (h:K (dB (decide (pA r))) H nx):aB Tryz.prog aIP [boR (tG r)] H nx K:=by
 refine aB.pure (args0:=[boR (tG r)]) (R:=fun rr=>rr=dB (decide (pA r))) ?_ rfl (aI ⟨aE rfl,trivial⟩) (fun r hr=>hr▸h);clear h;refine aMN rfl fun Q hQ=> ?_;unfold aJL;repeat' first| (first|apply bn1|refine bpL (fun h=> ?_) fun h=> ?_|apply aBC|apply aCC (l:=r.data) hr)<;>(simp only[go_sem])|fail
 all_goals first|with_reducible refine aZ hQ _ rfl rfl ?_|skip
 all_goals first|exact j7 (by unfold pA;grind)|exact pD (by unfold pA;grind)|exact q9 (by unfold pA;grind)
theorem aL2{p:Prog} (hp:p.length<2^40) (hq: ∀q∈p,q.data.length<2^40∧q.g6.length<2^40) (h:K (dB (decide (∀q∈p,dH q))) H nx):aB Tryz.prog aI2 [dS (p.map eB)] H nx K:=by
 refine aB.pure (args0:=[dS (p.map eB)]) (R:=fun rr=>rr=dB (decide (∀q∈p,dH q))) ?_ rfl (aI ⟨aE rfl,trivial⟩) (fun r hr=>hr▸h);clear h;refine aLI rfl fun Q hQ=> ?_;unfold aJC;repeat' first|apply bn1<;>(simp only[go_sem])|fail
 (refine aM.loop (α:={k:Nat//k≤p.length∧(∀i,i<k→dH (p.getD i default))}) (fun u=>en [(3,boP u.1),(0,dS (p.map eB))]) (fun _=>.nil) _ (fun u=>p.length-u.1) ⟨0,by omega,(by intros;first|trivial|omega)⟩ (bU (m5 _) (by repeat' first|exact bo2|refine xqI rfl rfl ?_|fail)) ?_);(rintro⟨k,hk,hinv⟩ bpQ hKL);by_cases hlt:k<p.length
 ·have hm:=hq _ (cC hlt);repeat' first| (first|apply bn1|apply aD8 hm.1 hm.2)<;>(simp only[go_sem];try simp (disch:=omega) only[Iw])|apply bn2 (by omega)|refine bnE (fun h=> ?_) fun h=> ?_|refine⟨by omega,?_⟩|fail
  ·exact aZ hQ (dB false) rfl rfl (j7 fun ha=>by have:=ha _ (cC hlt);simp_all)
  · (refine hKL _ _ _ ⟨k+1,by omega,iS hinv (by simp_all)⟩ (by omega) (by(try dsimp only);omega) (bU (m5 _) (by repeat' first|exact bo2|refine xqI rfl rfl ?_|fail)))
 ·repeat' first|apply bn1<;>(simp only[go_sem])|apply bn3 (by omega)|fail
  exact aZ hQ (dB true) rfl rfl (q9 (aKJ fun i hi=>hinv i (by omega)))
theorem aKG{c:Cfg} (hc:jO c) (h:K (dB (decide (aQ c))) H nx):aB Tryz.prog aIV [boR (cU c)] H nx K:=by
 refine aB.pure (args0:=[boR (cU c)]) (R:=fun rr=>rr=dB (decide (aQ c))) ?_ rfl (aI ⟨aE rfl,trivial⟩) (fun r hr=>hr▸h);clear h;refine aLX rfl fun Q hQ=> ?_;unfold aJQ;have hbp:aQ c↔DH c.map∧(c.lat.length:Int)=4∧All c.lat 0 3∧(c.cP.length:Int)=3∧ ∀p∈c.cP,(p.length:Int)≤12∧ ∀q∈p,dH q:=by unfold aQ mV;simp only[cH,not_exists,not_and,decide_eq_true_eq,Classical.not_imp,Classical.not_not]
 by_cases h0:DH c.map∧(c.lat.length:Int)=4∧All c.lat 0 3∧(c.cP.length:Int)=3
 ·obtain⟨h1,h2,h3,h4⟩:=h0;repeat' first| (first|apply bn1|apply bpK (by omega)|apply aD5 hc.map|apply aCC (l:=c.lat) hc.lat)<;>(simp only[go_sem,eq_true h1,eq_true h3])|apply bn3 (by omega)|fail
  (refine aM.loop (α:={k:Nat//k≤3∧(∀i,i<k→((c.cP.getD i default).length:Int)≤12∧ ∀q∈c.cP.getD i default,dH q)}) (fun u=>en [(3,boP u.1),(1,.one (.c (.fQ (cU c))))]) (fun _=>.nil) _ (fun u=>3-u.1) ⟨0,by omega,(by intros;first|trivial|omega)⟩ (bU (m5 _) (by repeat' first|exact bo2|refine xqI rfl rfl ?_| (with_reducible apply bo3)| ((with_reducible apply bo1);exact bpH rfl (by simp) rfl rfl rfl)|fail)) ?_);(rintro⟨k,hk,hinv⟩ bpQ hKL);by_cases hlt:k<3
  ·have hm:c.cP.getD k default∈c.cP:=cC (by omega);have hm1:=hc.prog _ hm;have hm2:=hc.req _ hm;repeat' first| (first|apply bn1|refine bpL (fun h=> ?_) fun h=> ?_|apply aL2 hm1 hm2)<;>(simp only[go_sem];try simp (disch:=omega) only[Iw])|apply bn2 (by omega)|refine bnE (fun h=> ?_) fun h=> ?_|refine⟨by omega,?_⟩|fail
   ·exact aZ hQ (dB false) rfl rfl (j7 fun hB=>by have:=((hbp.1 hB).2.2.2.2 _ hm).1;omega)
   ·exact aZ hQ (dB false) rfl rfl (j7 fun hB=>by have:=((hbp.1 hB).2.2.2.2 _ hm).2;simp_all)
   · (refine hKL _ _ _ ⟨k+1,by omega,iS hinv ⟨by omega,by simp_all⟩⟩ (by omega) (by(try dsimp only);omega) (bU (m5 _) (by repeat' first|exact bo2|refine xqI rfl rfl ?_|fail)))
  ·repeat' first|apply bn1<;>(simp only[go_sem])|apply bn3 (by omega)|fail
   exact aZ hQ (dB true) rfl rfl (q9 (hbp.2 ⟨h1,h2,h3,h4,aKJ fun i hi=>hinv i (by omega)⟩))
 ·have hno: ¬aQ c:=fun hB=>h0 ⟨(hbp.1 hB).1,(hbp.1 hB).2.1,(hbp.1 hB).2.2.1,(hbp.1 hB).2.2.2.1⟩;repeat' first| (first|apply bn1|refine bpL (fun h=> ?_) fun h=> ?_|apply aD5 hc.map|apply aCC (l:=c.lat) hc.lat)<;>(simp only[go_sem])|refine bnE (fun h=> ?_) fun h=> ?_|fail
  all_goals first|exact aZ hQ (dB false) rfl rfl (j7 hno)|exact absurd ⟨by simp_all,by omega,by simp_all,by omega⟩ h0
theorem aMS{l:List Int} (hl:l.length<2^40) (h:K (dB (decide ((l.length:Int)=64∧All l 0 65535))) H nx):aB Tryz.prog aI7 [boR [.isl (l.map aJ)]] H nx K:=by
 refine aB.pure (args0:=[boR [.isl (l.map aJ)]]) (R:=fun rr=>rr=dB (decide ((l.length:Int)=64∧All l 0 65535))) ?_ rfl (aI ⟨aE rfl,trivial⟩) (fun r hr=>hr▸h);clear h;refine aMO rfl fun Q hQ=> ?_;unfold aJK;repeat' first|apply bn1<;>(simp only[go_sem])|refine bnE (fun h=> ?_) fun h=> ?_|fail
 ·exact aZ hQ (dB false) rfl rfl (j7 fun ha=>by omega)
 (refine aM.loop (α:={k:Nat//k≤l.length∧(∀i,i<k→0≤l.getD i default∧l.getD i default≤65535)}) (fun u=>en [(3,boP u.1),(1,.one (.c (.fQ [.isl (l.map aJ)])))]) (fun _=>.nil) _ (fun u=>l.length-u.1) ⟨0,by omega,(by intros;first|trivial|omega)⟩ (bU (m5 _) (by repeat' first|exact bo2|refine xqI rfl rfl ?_| (with_reducible apply bo3)| ((with_reducible apply bo1);exact bpH rfl (by simp) rfl rfl rfl)|fail)) ?_);(rintro⟨k,hk,hinv⟩ bpQ hKL);by_cases hlt:k<l.length
 ·repeat' first| (first|apply bn1|apply aBC)<;>(simp only[go_sem];try simp (disch:=omega) only[Iw])|apply bn2 (by omega)|refine bnE (fun h=> ?_) fun h=> ?_|refine⟨by omega,?_⟩|fail
  ·exact aZ hQ (dB false) rfl rfl (j7 fun ha=>by have:=aj1 ha.2 hlt;omega)
  · (refine hKL _ _ _ ⟨k+1,by omega,iS hinv (by omega)⟩ (by omega) (by(try dsimp only);omega) (bU (m5 _) (by repeat' first|exact bo2|refine xqI rfl rfl ?_|fail)))
 ·repeat' first|apply bn1<;>(simp only[go_sem])|apply bn3 (by omega)|fail
  exact aZ hQ (dB true) rfl rfl (q9 ⟨by omega,aEA fun i hi=>hinv i (by omega)⟩)
theorem aKH{u:List Int} (hw:w.length<2^40) (hu:u.length<2^40) (h:K (dB (decide (JS w u))) H nx):aB Tryz.prog aIU [boR [.isl (w.map aJ),.isl (u.map aJ)]] H nx K:=by
 refine aB.pure (args0:=[boR [.isl (w.map aJ),.isl (u.map aJ)]]) (R:=fun rr=>rr=dB (decide (JS w u))) ?_ rfl (aI ⟨aE rfl,trivial⟩) (fun r hr=>hr▸h);clear h;refine aLR rfl fun Q hQ=> ?_;unfold aJM;repeat' first| (first|apply bn1|refine bpL (fun h=> ?_) fun h=> ?_|apply aMS hw|apply aCC (l:=u) hu)<;>(simp only[go_sem])|fail
 all_goals first|with_reducible refine aZ hQ _ rfl rfl ?_|skip
 all_goals first|exact j7 (by unfold JS;grind)|exact pD (by unfold JS;grind)
theorem yO{α:Type} [Inhabited α]{a b:List α} (hl:a.length=b.length) (h: ∀i,i<a.length→a.getD i default=b.getD i default):a=b:=by refine br2 hl fun i h1 h2=> ?_;have:=h i h1;simpa [List.getD,h1,h2] using this
theorem tP{a:List Int}{b:List Int} (ha:a.length<2^40) (hb:b.length<2^40) (h:K (dB (decide (a=b))) H nx):aB Tryz.prog jM [dS (a.map aJ),dS (b.map aJ)] H nx K:=by
 refine aB.pure (args0:=[dS (a.map aJ),dS (b.map aJ)]) (R:=fun rr=>rr=dB (decide (a=b))) ?_ rfl (aI ⟨aE rfl,aE rfl,trivial⟩) (fun r hr=>hr▸h);clear h;refine SU rfl fun Q hQ=> ?_;unfold xO;by_cases hl:a.length=b.length
 ·repeat' first|apply bn1<;>(simp only[go_sem])|apply bn3 (by omega)|fail
  (refine aM.loop (α:={k:Nat//k≤a.length∧(∀i,i<k→a.getD i default=b.getD i default)}) (fun u=>en [(5,boP u.1),(1,dS (b.map aJ)),(0,dS (a.map aJ))]) (fun _=>.nil) _ (fun u=>a.length-u.1) ⟨0,by omega,(by intros;first|trivial|omega)⟩ (bU (m5 _) (by repeat' first|exact bo2|refine xqI rfl rfl ?_|fail)) ?_);(rintro⟨k,hk,hinv⟩ bpQ hKL);by_cases hlt:k<a.length
  ·repeat' first|apply bn1<;>(simp only[go_sem];try simp (disch:=omega) only[Iw])|apply bn2 (by omega)|refine bnE (fun h=> ?_) fun h=> ?_|refine⟨by omega,?_⟩|fail
   ·refine aZ hQ _ rfl rfl (j7 ?_);intro he;subst he;simp_all
   · (refine hKL _ _ _ ⟨k+1,by omega,iS hinv (by omega)⟩ (by omega) (by(try dsimp only);omega) (bU (m5 _) (by repeat' first|exact bo2|refine xqI rfl rfl ?_|fail)))
  ·repeat' first|apply bn1<;>(simp only[go_sem])|apply bn3 (by omega)|fail
   refine aZ hQ _ rfl rfl (q9 (yO hl fun i hi=>hinv i (by omega)))
 ·repeat' first|apply bn1<;>(simp only[go_sem])|apply bn2 (by omega)|fail
  refine aZ hQ _ rfl rfl (j7 fun he=>hl (by rw[he]))
theorem W9{a:Rsp}{b:Rsp} (ha:a.data.length<2^40) (hb:b.data.length<2^40) (h:K (dB (decide (a=b))) H nx):aB Tryz.prog qO [boR (tG a),boR (tG b)] H nx K:=by
 refine aB.pure (args0:=[boR (tG a),boR (tG b)]) (R:=fun rr=>rr=dB (decide (a=b))) ?_ rfl (aI ⟨aE rfl,aE rfl,trivial⟩) (fun r hr=>hr▸h);clear h;refine UL rfl fun Q hQ=> ?_;unfold AT;repeat' first| (first|apply bn1|refine bpL (fun h=> ?_) fun h=> ?_|apply tP ha hb)<;>(simp only[go_sem])|fail
 all_goals first|with_reducible refine aZ hQ _ rfl rfl ?_|skip
 all_goals (obtain⟨az9,az2,aAD⟩:=a;obtain⟨b1,b2,boX⟩:=b;dsimp only at*;first|exact q9 (by simp_all)|exact j7 (by simp_all)|exact pD (by simp_all))
theorem VN{a b:Rsp} (ha:a.data.length<2^40) (hb:b.data.length<2^40) (h:K (dB (decide (a=b))) H nx):aB Tryz.prog qO [.one (.agg [cI a.id,cI a.code,.isl (a.data.map aJ)]),.one (.agg [cI b.id,cI b.code,.isl (b.data.map aJ)])] H nx K:=W9 ha hb h
theorem AL{a:List Job}{b:List Job} (ha:a.length<2^40) (hb:b.length<2^40) (hda: ∀j∈a,j.rsp.data.length<2^40) (hdb: ∀j∈b,j.rsp.data.length<2^40) (h:K (dB (decide (a=b))) H nx):aB Tryz.prog jN [dS (a.map aS),dS (b.map aS)] H nx K:=by
 refine aB.pure (args0:=[dS (a.map aS),dS (b.map aS)]) (R:=fun rr=>rr=dB (decide (a=b))) ?_ rfl (aI ⟨aE rfl,aE rfl,trivial⟩) (fun r hr=>hr▸h);clear h;refine RW rfl fun Q hQ=> ?_;unfold xT;by_cases hl:a.length=b.length
 ·repeat' first|apply bn1<;>(simp only[go_sem])|apply bn3 (by omega)|fail
  (refine aM.loop (α:={k:Nat//k≤a.length∧(∀i,i<k→a.getD i default=b.getD i default)}) (fun u=>en [(5,boP u.1),(1,dS (b.map aS)),(0,dS (a.map aS))]) (fun _=>.nil) _ (fun u=>a.length-u.1) ⟨0,by omega,(by intros;first|trivial|omega)⟩ (bU (m5 _) (by repeat' first|exact bo2|refine xqI rfl rfl ?_|fail)) ?_);(rintro⟨k,hk,hinv⟩ bpQ hKL);by_cases hlt:k<a.length
  ·have d1:=hda _ (cC (l:=a) (k:=k) hlt);have d2:=hdb _ (cC (l:=b) (k:=k) (by omega));have hne: ¬a.getD k default=b.getD k default→¬a=b:=fun h1 h2=>h1 (by rw[h2]);have heq:(a.getD k default).who=(b.getD k default).who→(a.getD k default).n=(b.getD k default).n→(a.getD k default).rsp=(b.getD k default).rsp→a.getD k default=b.getD k default:=(by generalize a.getD k default=x;generalize b.getD k default=y;obtain⟨x1,bpZ,aYM⟩:=x;obtain⟨y1,aHC,aHD⟩:=y;dsimp only;intro h1 h2 h3;subst h1;subst h2;subst h3;rfl);repeat' first| (first|apply bn1|refine bpL (fun h=> ?_) fun h=> ?_|apply VN (a:=(a.getD k default).rsp) (b:=(b.getD k default).rsp) d1 d2)<;>(simp only[go_sem];try simp (disch:=omega) only[Iw])|apply bn2 (by omega)|refine bnE (fun h=> ?_) fun h=> ?_|refine⟨by omega,?_⟩|fail
   ·refine aZ hQ _ rfl rfl (j7 (hne fun he=>absurd (congrArg Job.who he) (by assumption)))
   ·refine aZ hQ _ rfl rfl (j7 (hne fun he=>absurd (congrArg Job.n he) (by assumption)))
   ·refine aZ hQ _ rfl rfl (j7 (hne fun he=>absurd (congrArg Job.rsp he) (by assumption)))
   · (refine hKL _ _ _ ⟨k+1,by omega,iS hinv (heq (by omega) (by omega) (Classical.not_not.1 (by assumption)))⟩ (by omega) (by(try dsimp only);omega) (bU (m5 _) (by repeat' first|exact bo2|refine xqI rfl rfl ?_|fail)))
  ·repeat' first|apply bn1<;>(simp only[go_sem])|apply bn3 (by omega)|fail
   refine aZ hQ _ rfl rfl (q9 (yO hl fun i hi=>hinv i (by omega)))
 ·repeat' first|apply bn1<;>(simp only[go_sem])|apply bn2 (by omega)|fail
  refine aZ hQ _ rfl rfl (j7 fun he=>hl (by rw[he]))
theorem YN{a:List Int}{b:List Int}{u:List Int}{v:List Int} (ha:a.length<2^40) (hb:b.length<2^40) (hu:u.length<2^40) (hv:v.length<2^40) (h:K (dB (decide (a=u∧b=v))) H nx):aB Tryz.prog wK [.one (.agg [.isl (a.map aJ),.isl (b.map aJ)]),.one (.agg [.isl (u.map aJ),.isl (v.map aJ)])] H nx K:=by
 refine aB.pure (args0:=[.one (.agg [.isl (a.map aJ),.isl (b.map aJ)]),.one (.agg [.isl (u.map aJ),.isl (v.map aJ)])]) (R:=fun rr=>rr=dB (decide (a=u∧b=v))) ?_ rfl (aI ⟨aE rfl,aE rfl,trivial⟩) (fun r hr=>hr▸h);clear h;refine UZ rfl fun Q hQ=> ?_;unfold zY;repeat' first| (first|apply bn1|refine bpL (fun h=> ?_) fun h=> ?_|apply tP ha hu|apply tP hb hv)<;>(simp only[go_sem])|fail
 all_goals first|with_reducible refine aZ hQ _ rfl rfl ?_|skip
 all_goals first|exact q9 (by simp_all)|exact j7 (by simp_all)|exact pD (by simp_all)
end
def bsO:AC:= (boG [dO 2 boD] [0] (.seq (boG [RM 7 0,f1 8 7,dI 9 .gtr 8 (ki 1048576)] [0,9] (.cond 9 (boG [dO 2 boE] [2] .ret) .skip)) (boG [RM 11 0,f6 12 bsQ [11],RM 10 12,rq 13 (.ext 10 0),rq 14 (.ext 10 1),f7 3 [OZ,OZ,OZ],f7 4 [OZ,OZ,OZ,OZ,OZ],g0 3 true 3 13,g0 5 true 4 14] [3,4] (boG [f8 15 3 3,f8 16 5 4,f6 17 xJ [15,16],RM 5 17] [3,4,5] (.seq (boG [RM 18 5,f8 19 3 3,f8 20 5 4,f6 21 aIO [19,20],rq 22 (.beq true 18 21)] [3,4,5,22] (.cond 22 (boG [dO 2 boD] [2] .ret) .skip)) (.seq (boG [RM 23 5,f4 24 23] [3,4,24] (.cond 24 (boG [f6 25 E2 [],RM 2 25] [2] .ret) .skip)) (.seq (boG [dO 6 (ki 0)] [3,4,6] (.block 0 (.loop (.seq (boG [RM 26 6,RF 27 2 4,RL 28 27,f1 29 28,dI 30 .lss 26 29] [3,4,6,30] (.cond 30 .skip (.exit 0))) (.seq (.block 1 (boG [RF 33 2 4,RL 34 33,RM 35 6,e0 36 4 34 35,RF 37 1 36,RL 38 37,f1 39 38,RF 40 2 4,RL 41 40,RM 42 6,e0 43 4 41 42,RF 44 2 43,RL 45 44,f1 46 45,dI 47 .add 39 46,dI 48 .gtr 47 (ki 0),RM 49 48,g9 50 2 4 49 false,hD 51 50 49 false,hG 52 6 49 false,j0 53 4 51 52 49 false,g9 54 0 53 49 false,hD 55 54 49 false,g9 56 2 3 49 false,hD 57 56 49 false,hG 58 6 49 false,j0 59 1 57 58 49 false,hD 60 59 49 false,GQ 61 (.len false 60) 49 false,hO 62 .neq 55 61 49 false,f3 63 49 boE 62] [3,4,6,63] (.cond 63 (boG [dO 2 boD] [2] .ret) .skip))) (m2 [RM 31 6,dI 32 .add 31 (ki 1),RM 6 32] [3,4,6])))))) (.seq (.region [boF 64 (.load 3 true 3) [] [] true 0,boF 65 (.load 5 true 4) [] [] true 1,boF 68 (.load 5 true 4) [] [] true 4,boF 66 (.call DB []) [] [0,1,4] false 2,boF 67 (.call FO [64,65,66]) [] [4] false 3,f6 69 C6 [67,68] 5,RM 2 69 6] 7 [2]) .ret))))))))
def bsT:List aW:=[.tm 2]
theorem bs0:aO Tryz.prog Tryz.f12 (bnD bsO)=some (bsO,bsT):=by kernel_rfl
end Go.Proofs.YtmccpdapaccnoaaGreat
namespace Go.AM
open Go.RowKit
def asV (k:IntKind) (w:World) (a:Option Addr) (len cap:Nat) (zs:List Int):Prop:=
 (a=none∧len=0∧cap=0∧zs=[])∨
 ∃x,a=some x∧len≤cap∧cap≤maxLen∧zs.length=cap∧(∀i,i<zs.length→w.cell? (x.add i)=some (.int k (zs.getD i 0)))∧ ∀n∈zs,(Lit.int k n).wf=true
theorem abA {P:Program} {f:FuncId} {l:List Int} {w:World} {v:Value} {I:Nat→Prop} (h:aB P f [dS (l.map eU8)] .nil 0 fun rr _ _=>rr.plain=true∧rr=dB true) (hI: ∀b,I b→b<w.heap.size) (hv:Imm I w (.isl (l.map eU8)) v):
 Calls P f #[v] w fun e w'=>e= .returned (.bool true)∧Below w.heap.size w w':=by
 have hno: ∀b,¬uG ⟨fun _=>(0,0),fun _=>False,I,w⟩ .nil b:=by rintro b ⟨id,o,h,_⟩;cases h
 have hst:St ⟨fun _=>(0,0),fun _=>False,I,w⟩ .nil:=⟨fun id o h=>(by cases h),fun id o h=>(by cases h),fun id o h=>(by cases h),fun id o i j r d h=>(by cases h),fun id id' o o' h=>(by cases h),fun id o h=>(by cases h),hI⟩
 refine(h.2 ⟨fun _=>(0,0),fun _=>False,I,w⟩ [v] hst (fun i hi=>hi.elim) rfl (fun i d u h1 h2=> ?_)).mono ?_
 ·match i with
  |0=>simp at h1 h2;subst h1;subst h2;exact hv
  |i+1=>simp at h1
 ·rintro x w' ⟨u,c',r,H',nx',rfl,rfl,p1,p2,p3,p4,p5,p6,rfl⟩;have hu:u= .bool true:=by simp only[fD,jZ,Rel,bY] at p5;cases p5;rfl
  subst hu;exact⟨rfl,p2.os,p2.tape,p2.output,p2.size,fun k hk=>p2.frame k hk (hno k)⟩
theorem atQ {P:Program} {f:FuncId} (h: ∀l:List Int,(∀x∈l,0≤x∧x<256)→aB P f [dS (l.map eU8)] .nil 0 fun rr _ _=>rr.plain=true∧rr=dB true) (az5:Option Addr) (len0 cap0:Nat) (blY:List Int) (w:World) (bk1:asV .u8 w az5 len0 cap0 blY):
 Calls P f #[.slice az5 len0 cap0] w fun e w'=>e= .returned (.bool true)∧Below w.heap.size w w':=by
 rcases bk1 with⟨rfl,rfl,rfl,rfl⟩|⟨x,rfl,hl,hm,hz,hc,hw⟩
 ·refine abA (I:=fun _=>False) (h [] (fun x hx=>by cases hx)) (fun b hb=>hb.elim) ?_;exact .isl [] none 0 1 0 0 (fun _ _=>.int .u8 0) (fun h=>absurd rfl h) (m5 _) (fun i r h=>by simp at h) (fun i j r d h=>by simp at h) (fun i j r d h=>by simp at h)
 ·have hlt:(blY.take len0).length=len0:=by simp;omega
  have hby: ∀y∈blY.take len0,0≤y∧y<256:=fun y hy=>by have:=bounds_u8 (hw y (List.take_subset _ _ hy));omega
  refine abA (I:=fun b=>b=x.block∧0<len0) (h (blY.take len0) hby) (fun b hb=> ?_) ?_;·obtain⟨rfl,h0⟩:=hb;have:=World.block_lt_of_cell? w _ (hc 0 (by omega));simpa [Addr.add] using this
  ·have key:=Imm.isl (I:=fun b=>b=x.block∧0<len0) (w:=w) ((blY.take len0).map eU8) (some x) cap0 1 x.block x.off (fun i _=>.int .u8 (blY.getD i 0)) (fun hne=> ?_) (by simp;omega) (fun i r hr=> ?_) (fun i j r d hr hd=> ?_) (fun i j r d hr hd=> ?_);·rw[bqW,hlt] at key;exact key
   ·have h0:0<len0:=by
     rcases CR len0 with h0|h0
     ·subst h0;exact absurd (by simp) hne
     ·exact h0
    have hsp:=World.cell?_spot (hc 0 (by omega))
    refine⟨?_,rfl,h0⟩
    obtain⟨b,o,s⟩:=x
    simp only[Addr.add,if_true] at hsp
    subst hsp
    rfl
   ·obtain⟨y,_,rfl⟩:=CF.1 (s3 hr);rfl
   ·rw[p0] at hr;obtain⟨y,hy,rfl⟩:=m4.1 hr
    match j with
    |0=>
     have hi:i<len0:=(by have:=(m3.1 hy).1;omega);have h1:=hc i (by omega);have hsp:=World.cell?_spot (hc 0 (by omega));obtain⟨b,o,s⟩:=x;simp only[Addr.add,if_true] at hsp;subst hsp
     have e:(Addr.mk b o none).add i=⟨b,o+(i*1+0),none⟩:=by
      unfold Addr.add;split;·rename_i h;subst h;simp
      ·simp
     rw[e] at h1;exact h1
    |j+1=>simp[eU8] at hd
   ·rw[p0] at hr;obtain⟨y,hy,rfl⟩:=m4.1 hr
    match j with
    |0=>
     simp only[eU8,List.getElem?_cons_zero,Option.some.injEq] at hd;subst hd
     have hyz:y=blY.getD i 0:=by
      rw[s4] at hy;split at hy;·simp[List.getD,hy]
      ·cases hy
     subst hyz;exact .v _ rfl
    |j+1=>simp[eU8] at hd
end Go.AM
