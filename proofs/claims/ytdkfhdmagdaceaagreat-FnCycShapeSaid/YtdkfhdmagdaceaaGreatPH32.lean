/- Texts laid together by a program: rules, contracts and the walk that leads to the law. -/
import Derived.Test.YtdkfhdmagdaceaaGreatPH6
import Derived.Test.YtdkfhdmagdaceaaGreatPH30
set_option linter.unusedVariables false
set_option linter.unusedSimpArgs false
set_option linter.unusedSectionVars false
set_option maxRecDepth 100000
set_option maxHeartbeats 8000000
namespace Go.Proofs.YtdkfhdmagdaceaaGreat
open Go Go.AM
attribute [local irreducible] aM wv aB vd wvH
section
variable {H : aA} {nx : Nat} {K : D → aA → Nat → Prop}
theorem bwE:cJ Tryz.prog bv4 Tryz.f28 bv1 bv6:=cJ.mk Tryz.func28 (by kernel_rfl) bwD
theorem bwF {l:List Int} (hl:kZ l) (h: ∀H' nx' c s i,nx≤nx'→jO c→beL s→bdV s→bm3 i→(∀id,id<nx→H' id=H id)→K (.tup [.agg (cU c),.agg (eI s),.agg (eIn i)]) H' nx'):aB Tryz.prog bv4 [dS (l.map eU8)] H nx K:=by
 refine bwE rfl fun Q k=> ?_;unfold bv1;repeat' first| (first|apply bn1|refine bmH hl (fun H1 e c s i m f n o hi a=> ?_))<;>(simp only[go_sem,boC])|fail
 have bqB:H1 nx=some ⟨3,1,[[.osl 0 0 0 0 0,.osl 0 0 0 0 0,.osl 0 0 0 0 0]]⟩:=by rw[a _ (by omega)];simp (disch:=omega) only[aA.aC,aA.bH]
 have g:H1 (nx+1)=some ⟨5,1,[[.osl 0 0 0 0 0,.osl 0 0 0 0 0,.osl 0 0 0 0 0,.osl 0 0 0 0 0,.osl 0 0 0 0 0]]⟩:=by rw[a _ (by omega)];simp (disch:=omega) only[aA.aC,aA.bH]
 have j:H1 (nx+2)=some ⟨3,1,[[.osl 0 0 0 0 0,.osl 0 0 0 0 0,.osl 0 0 0 0 0]]⟩:=by rw[a _ (by omega)];simp (disch:=omega) only[aA.aC,aA.bH]
 have p: ∀id,id<nx→H1 id=H id:=fun id d=>by rw[a _ (by omega)];simp (disch:=omega) only[aA.aC]
 clear a;have b:bQ e [nx,nx+1,nx+2]:=AM.apart (by simp) (by simp;omega);simp only[bQ,eZ] at b;(try simp only[go_sem,boC,bqB,g,j,b,boC]);repeat' first|apply bn1<;>(simp only[go_sem,boC,bqB,g,j,b,boC])|fail
 exact k _ _ _ _ _ (.inr rfl) (bm4 rfl ((aA.aC (by omega)).trans ((aA.aC (by omega)).trans aA.bH)) rfl rfl ((aA.aC (by omega)).trans aA.bH) rfl rfl aA.bH rfl) (h _ _ c s i (by omega) f n o hi fun id d=>by rw[aA.aC (by omega),aA.aC (by omega),aA.aC (by omega)];exact p id d)
end
end Go.Proofs.YtdkfhdmagdaceaaGreat
