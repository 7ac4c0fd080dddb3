/- Texts laid together by a program: rules, contracts and the walk that leads to the law. -/
import Derived.Test.YtmccpdapaccnoaaGreatPD12
import Derived.Test.YtmccpdapaccnoaaGreatPD11
set_option linter.unusedVariables false
set_option linter.unusedSimpArgs false
set_option linter.unusedSectionVars false
set_option maxRecDepth 100000
set_option maxHeartbeats 8000000
namespace Go.Proofs.YtmccpdapaccnoaaGreat
open Go Go.AM
attribute [local irreducible] aM wv aB vd wvH
section
variable {H : aA} {nx : Nat} {K : D → aA → Nat → Prop}
def oSt (i0 i1 i2 i3 wc hc ac tc:Nat) (s:TSt):List D1:=[.osl 1 i0 0 64 wc,.osl 1 i1 0 6 hc,.osl 1 i2 0 3 ac,.isl (s.wait.map aS),.isl (s.done.map aS),.osl 5 i3 0 s.told.length tc]
theorem aR1 {l:List Job} {a b:Int} (hl:l.length<2^21) (h:K (dS ((BM l ⟨a,b,oW⟩).map aS)) H nx):aB Tryz.prog aJS [dS (l.map aS),boR [cI a,cI b,cI 0,cI 0,.osl 0 0 0 0 0]] H nx K:=(aPM l ⟨a,b,oW⟩ hl).azZ rfl ⟨aE rfl,aH (bB rfl) (aH (bB rfl) (aH (bB rfl) (aH (bB rfl) (aH xG eP)))),trivial⟩ fun r hr=>hr▸h
theorem aoT {i0 i1 i2 i3 wc hc ac tc:Nat} {s:TSt}:(oSt i0 i1 i2 i3 wc hc ac tc s).length=6:=rfl
theorem ak4 {i0 i1 i2 i3 wc hc ac tc:Nat} {s:TSt}:(oSt i0 i1 i2 i3 wc hc ac tc s).take 6=oSt i0 i1 i2 i3 wc hc ac tc s:=rfl
theorem ajY {i0 i1 i2 i3 wc hc ac tc k:Nat} {s:TSt} {cs:List D1}:iA cs (k+1) (oSt i0 i1 i2 i3 wc hc ac tc s)=iA cs (k+1) [.osl 1 i0 0 64 wc,.osl 1 i1 0 6 hc,.osl 1 i2 0 3 ac,.isl (s.wait.map aS),.isl (s.done.map aS),.osl 5 i3 0 s.told.length tc]:=rfl
attribute [go_sem] aoT ak4 ajY
theorem aM8 {j:Job}:cI j.who::cI j.n::tG j.rsp=aS j:=rfl
theorem aRZ:aB Tryz.prog v8 [] (hp []) 0
 fun r H' n'=>n'=1∧H'=hp [(0,⟨1,64,(List.replicate 64 (0:Int)).map aJ⟩)]∧r=boR [.osl 1 0 0 64 64]:=by
 refine aQI rfl fun Q hQ=> ?_
 unfold aNN
 repeat' first|apply bn1<;>(simp only[go_sem])|fail
 (refine hQ _ _ _ _ _ 1 (boR [.osl 1 0 0 64 64]) (hp [(0,⟨1,64,(List.replicate 64 (0:Int)).map aJ⟩)]) _ _ (.inr rfl) rfl (fU [1] (by omega) (by repeat' first|exact bo2| ((with_reducible apply bo0);exact bpB (by omega) rfl rfl (by rfl) rfl)| ((with_reducible apply bo1);apply bo6)|exact bo4|apply bo5|fail) ⟨⟨by simp,by simp[sgL],_,rfl,bP (aG bF _) rfl rfl⟩,trivial⟩ (by simp[sgL])) ?_)
 exact⟨rfl,rfl,rfl⟩
theorem aSB (h:K (boR [.osl 1 nx 0 64 64]) (H.set nx ⟨1,64,(List.replicate 64 (0:Int)).map aJ⟩) (nx+1)):aB Tryz.prog v8 [] H nx K:=by
 refine aRZ.AF (l0:=[]) [] rfl trivial trivial (by simp) (by simp) (by simp) fun r H' n' _ ⟨q1,q2,q3⟩=> ?_;subst q1;subst q2;subst q3;have e1:back (tau 0 nx (nth [])) (hp [(0,⟨1,64,(List.replicate 64 (0:Int)).map aJ⟩)]) 1 H=H.set nx ⟨1,64,(List.replicate 64 (0:Int)).map aJ⟩:=by simp only[back,hp,aA.set,tau,bq2,if_true,if_false,Nat.sub_zero,Nat.add_zero,Option.map_some,uB,aA.eL]
 rw[←e1] at h;exact h
theorem aSG:aB Tryz.prog v7 [] (hp []) 0
 fun r H' n'=>∃hc,6≤hc∧n'=2∧H'=hp [(0,⟨1,64,(List.replicate 64 (0:Int)).map aJ⟩),(1,⟨1,hc,(List.replicate 6 (-1:Int)).map aJ⟩)]∧r=boR [.osl 1 0 0 64 64,.osl 1 1 0 6 hc]:=by
 refine aQ1 rfl fun Q hQ=> ?_
 unfold aNO
 generalize hw0:List.replicate 64 (0:Int)=bk1
 have hmn: ∀{H:aA} {nx:Nat} {K:D→aA→Nat→Prop},K (boR [.osl 1 nx 0 64 64]) (H.set nx ⟨1,64,bk1.map aJ⟩) (nx+1)→aB Tryz.prog v8 [] H nx K:=fun h=>by subst hw0;exact aSB h
 repeat' first| (first|apply bn1|apply hmn)<;>(simp only[go_sem])|fail
 apply aM.EJ 1
 refine aM.sG 4 (β:=Nat×Nat) (fun b u=>en [(2,boP u.1),(1,bkP 2 (b+1)),(0,bkP 2 b)])
  (fun b u=>hp [(b,⟨2,1,[[.osl 0 0 0 0 0,.osl 0 0 0 0 0]]⟩),(b+1,⟨2,1,[[.osl 1 (b+2) 0 64 64,.osl 1 (b+3) 0 u.1 u.2]]⟩),(b+2,⟨1,64,bk1.map aJ⟩),(b+3,⟨1,u.2,(List.replicate u.1 (-1:Int)).map aJ⟩)]) (fun u=>u.1≤6∧u.1≤u.2) (fun u=>6-u.1) (0,0)
  ?_ ⟨by dsimp only;omega,by dsimp only;omega⟩ ?_
 · (refine cR [0,3,5,7] (by omega) (by repeat' first|exact bo2|refine xqI rfl rfl ?_|refine xqP (by omega) rfl rfl ?_|fail) ⟨⟨by simp,by simp[sgL],_,rfl,aP (by repeat' first| (with_reducible first|exact bo4|apply bo5)| ((with_reducible apply bo0);exact bpA)|fail)⟩,⟨by simp,by simp[sgL],_,rfl,aP (by repeat' first|exact bo2| (with_reducible first|exact bo4|apply bo5)| ((with_reducible apply bo0);first|exact bpA|exact bpB (by omega) rfl rfl (by rfl) rfl)|fail)⟩,⟨by simp,by simp[sgL],_,rfl,bP (aG bF _) rfl rfl⟩,⟨by simp,by simp[sgL],_,rfl,bP (aG bF _) rfl rfl⟩,trivial⟩ (by simp[sgL]))
 ·rintro⟨k,cap⟩ ⟨hk,hc⟩ bpQ hKL;dsimp only at hk hc;have hrep:List.replicate (k+1) (-1:Int)=List.replicate k (-1)++[-1]:=List.replicate_succ';by_cases hlt:k<6
  ·repeat' first|apply bn1<;>(simp only[go_sem];try simp (disch:=omega) only[Iw])|apply bn2 (by omega)| (with_reducible first|refine fun(cap:Nat) (hcap:_≤cap)=> ?_|refine fun(hcp:_≤cap)=> ?_)|refine⟨by omega,?_⟩|fail
   exact hKL _ _ _ (k+1,cap) (by omega) (by(refine cR [8,9,10,17] (by omega) (by repeat' first|exact bo2|refine xqI rfl rfl ?_|refine xqP (by omega) rfl rfl ?_|fail) ⟨⟨by simp,by simp[sgL],_,rfl,aP (by repeat' first|exact bo2| (with_reducible first|exact bo4|apply bo5)| ((with_reducible apply bo0);exact bpA)|fail)⟩,⟨by simp,by simp[sgL],_,rfl,aP (by repeat' first|exact bo2| (with_reducible first|exact bo4|apply bo5)| ((with_reducible apply bo0);exact bpB (by omega) rfl rfl (by rfl) rfl)|fail)⟩,⟨by simp,by simp[sgL],_,rfl,bP (aG bF _) rfl rfl⟩,⟨by simp,by simp[sgL],_,rfl,bP (aG bF _) (congrArg _ hrep) rfl⟩,trivial⟩ (by simp[sgL]))) ⟨by dsimp only;omega,by dsimp only;omega⟩ (by dsimp only;omega)
  ·repeat' first|apply bn1<;>(simp only[go_sem])|apply bn3 (by omega)|fail
   have hk2:k=6:=(by omega);subst hk2;(refine hQ _ _ _ _ _ 2 (boR [.osl 1 0 0 64 64,.osl 1 1 0 6 cap]) (hp [(0,⟨1,64,bk1.map aJ⟩),(1,⟨1,cap,(List.replicate 6 (-1:Int)).map aJ⟩)]) _ _ (.inr rfl) rfl (fU [10,11] (by omega) (by repeat' first|exact bo2| ((with_reducible apply bo0);exact bpB (by omega) rfl rfl (by rfl) rfl)| ((with_reducible apply bo1);apply bo6)|exact bo4|apply bo5|fail) ⟨⟨by simp,by simp[sgL],_,rfl,bP (aG bF _) rfl rfl⟩,⟨by simp,by simp[sgL],_,rfl,bP (aG bF _) rfl rfl⟩,trivial⟩ (by simp[sgL])) ?_);exact⟨cap,hc,rfl,by rw[hw0],rfl⟩
theorem aR5 (h: ∀hc,6≤hc→K (boR [.osl 1 nx 0 64 64,.osl 1 (nx+1) 0 6 hc]) ((H.set nx ⟨1,64,(List.replicate 64 (0:Int)).map aJ⟩).set (nx+1) ⟨1,hc,(List.replicate 6 (-1:Int)).map aJ⟩) (nx+2)):aB Tryz.prog v7 [] H nx K:=by
 refine aSG.AF (l0:=[]) [] rfl trivial trivial (by simp) (by simp) (by simp) fun r H' n' _ ⟨hc,bqB,q1,q2,q3⟩=> ?_;have h:=h hc bqB;subst q1;subst q2;subst q3;generalize List.replicate 64 (0:Int)=bk1 at*;generalize List.replicate 6 (-1:Int)=bqH at*;have e1:back (tau 0 nx (nth [])) (hp [(0,⟨1,64,bk1.map aJ⟩),(1,⟨1,hc,bqH.map aJ⟩)]) 2 H=(H.set nx ⟨1,64,bk1.map aJ⟩).set (nx+1) ⟨1,hc,bqH.map aJ⟩:=by simp only[asR,hp,aA.set,tau,bq2,if_true,if_false,Nat.sub_zero,Nat.add_zero,Option.map_some,uB,aA.eL,Nat.zero_ne_one,brN]
 rw[←e1] at h;exact h
theorem aMB {w:List Int} (hl:w.length<2^21) (h:K (boR [.isl (w.map aJ)]) H nx):aB Tryz.prog aIW [boR [.isl (w.map aJ)]] H nx K:=by
 refine aB.fresh (R:=fun rr=>rr=boR [.isl (w.map aJ)]) ?_ rfl (fun r hr=>hr▸h);clear h;refine aKY rfl fun Q hQ=> ?_;unfold aJE;repeat' first|apply bn1<;>(simp only[go_sem])| (with_reducible first|refine fun(cap:Nat) (hcap:_≤cap)=> ?_|refine fun(hcp:_≤cap)=> ?_)|refine⟨by omega,?_⟩|fail
 all_goals exact V4 hQ (boR [.isl (w.map aJ)]) _ rfl (aH (bW bF rfl rfl (by omega) trivial) eP) rfl rfl
theorem aKA {w:List Int} {u:List Int} (hl:w.length<2^21) (hu:u.length<2^21) (h:K (boR [.isl (w.map aJ),.isl (u.map aJ)]) H nx):aB Tryz.prog aIR [boR [.isl (w.map aJ),.isl (u.map aJ)]] H nx K:=by
 refine aB.fresh (R:=fun rr=>rr=boR [.isl (w.map aJ),.isl (u.map aJ)]) ?_ rfl (fun r hr=>hr▸h);clear h;refine aKW rfl fun Q hQ=> ?_;unfold aJH;repeat' first| (first|apply bn1|apply aMB hl)<;>(simp only[go_sem])| (with_reducible first|refine fun(cap:Nat) (hcap:_≤cap)=> ?_|refine fun(hcp:_≤cap)=> ?_)|refine⟨by omega,?_⟩|fail
 all_goals exact V4 hQ (boR [.isl (w.map aJ),.isl (u.map aJ)]) _ rfl (aH (bB rfl) (aH (bW bF rfl rfl (by omega) trivial) eP)) rfl rfl
theorem aMW {r:Rsp} (hl:r.data.length<2^21) (h:K (boR (tG r)) H nx):aB Tryz.prog aI8 [boR (tG r)] H nx K:=by
 refine aB.fresh (R:=fun rr=>rr=boR (tG r)) ?_ rfl (fun r hr=>hr▸h);clear h;refine aLO rfl fun Q hQ=> ?_;unfold aJN;repeat' first|apply bn1<;>(simp only[go_sem])| (with_reducible first|refine fun(cap:Nat) (hcap:_≤cap)=> ?_|refine fun(hcp:_≤cap)=> ?_)|refine⟨by omega,?_⟩|fail
 all_goals exact V4 hQ (boR (tG r)) _ rfl (aH (bB rfl) (aH (bB rfl) (aH (bW bF rfl rfl (by omega) trivial) eP))) rfl rfl
theorem aI1 {l:List Job} (hl:l.length<2^21) (hd: ∀j∈l,j.rsp.data.length<2^21) (h:K (dS (l.map aS)) H nx):aB Tryz.prog aIM [dS (l.map aS)] H nx K:=by
 refine aB.fresh (R:=fun rr=>rr=dS (l.map aS)) ?_ rfl (fun r hr=>hr▸h);clear h;refine aLL rfl fun Q hQ=> ?_;unfold aJF;repeat' first|apply bn1<;>(simp only[go_sem])|fail
 refine aM.sG 1 (β:=Nat×Nat) (fun b u=>en [(4,boP u.1),(3,boQ 5 b u.1 u.2),(0,dS (l.map aS))])
  (fun b u=>hp [(b,⟨5,u.2,(l.take u.1).map aS⟩)]) (fun u=>u.1≤l.length∧u.1≤u.2) (fun u=>l.length-u.1) (0,0) (by(refine cR [1] (by omega) (by repeat' first|exact bo2|refine xqI rfl rfl ?_|refine xqO (by omega) rfl rfl (by rfl) ?_|fail) ⟨⟨by simp,by simp[sgL],_,rfl,bP (aG dZ _) rfl rfl⟩,trivial⟩ (by simp[sgL]))) ⟨by omega,by omega⟩ ?_
 rintro⟨k,cap⟩ ⟨hk,hc⟩ bpQ hKL;dsimp only at hk hc;have htt:(l.take k).take k=l.take k:=boL (by simp;omega);by_cases hlt:k<l.length
 ·have hm:=hd _ (cC hlt);repeat' first| (first|apply bn1|apply aMW hm)<;>(simp only[go_sem,htt,aM8];try simp (disch:=omega) only[Iw])|apply bn2 (by omega)| (with_reducible first|refine fun(cap:Nat) (hcap:_≤cap)=> ?_|refine fun(hcp:_≤cap)=> ?_)|refine⟨by omega,?_⟩| (refine⟨by(rw[CG];omega),?_⟩)|fail
  all_goals exact hKL _ _ _ (k+1,cap) (by omega) (by(refine cR [28] (by omega) (by repeat' first|exact bo2|refine xqI rfl rfl ?_|refine xqO (by omega) rfl rfl (by rfl) ?_|fail) ⟨⟨by simp,by simp[sgL],_,rfl,bP (aG dZ _) (by rw[nK hlt]) rfl⟩,trivial⟩ (by simp[sgL]))) ⟨by dsimp only;omega,by dsimp only;omega⟩ (by dsimp only;omega)
 ·repeat' first|apply bn1<;>(simp only[go_sem])|apply bn3 (by omega)|fail
  have hk2:k=l.length:=by omega
  subst hk2;exact V4 hQ (dS (l.map aS)) _ rfl (DJ (rows:=l.map aS) (aG dZ _) (by simp) trivial rfl rfl (by simp[boL]) (by simp;omega)) rfl rfl
end
end Go.Proofs.YtmccpdapaccnoaaGreat
