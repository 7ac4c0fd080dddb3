/- Texts laid together by a program: rules, contracts and the walk that leads to the law. -/
import Derived.Test.YtdkfhdmagdaceaaGreatPJ10
import Derived.Test.YtdkfhdmagdaceaaGreatPJ13
import Derived.Test.YtdkfhdmagdaceaaGreatPJ8
import Derived.Test.YtdkfhdmagdaceaaGreatPJ15
import Derived.Test.YtdkfhdmagdaceaaGreatPJ14
import Derived.Test.YtdkfhdmagdaceaaGreatPJ3
import Derived.Test.YtdkfhdmagdaceaaGreatPJ4
set_option linter.unusedVariables false
set_option linter.unusedSimpArgs false
set_option linter.unusedSectionVars false
set_option maxRecDepth 100000
set_option maxHeartbeats 8000000
namespace Go.Proofs.YtdkfhdmagdaceaaGreat
open Go Go.AM
attribute [local irreducible] aM wv aB vd wvH
theorem fZ {H:aA} {e:Env} {t n id m:Nat} {cs:List D1} (he:e t= .one (.c (.ptr n id 0 0))) (a:H id=some ⟨n,m,[cs]⟩) (hl:cs.length=n):yT H e [.cell t n true]=some (boR cs):=by subst hl;simp[yT,VP,he,tT,a,mkV]
section
variable {H : aA} {nx : Nat} {K : D → aA → Nat → Prop}
end
theorem akB {i0 i1 a b c d ac e:Nat} {s:TSt}:(oSt i0 i1 a b c d ac e s).drop 6=[]:=rfl
theorem WQ {s:TSt}:(eSt s).drop 6=[]:=rfl
attribute [go_sem] akB
section
variable {H : aA} {nx : Nat} {K : D → aA → Nat → Prop}
end
end Go.Proofs.YtdkfhdmagdaceaaGreat
