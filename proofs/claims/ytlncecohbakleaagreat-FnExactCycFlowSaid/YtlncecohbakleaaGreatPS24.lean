/- Texts laid together by a program: rules, contracts and the walk that leads to the law. -/
import Derived.Test.YtlncecohbakleaaGreatPS21
set_option linter.unusedVariables false
set_option linter.unusedSimpArgs false
set_option linter.unusedSectionVars false
set_option maxRecDepth 100000
set_option maxHeartbeats 8000000
namespace Go.Proofs.YtlncecohbakleaaGreat
open Go Go.AM
attribute [local irreducible] aM wv aB vd wvH
section
variable{H:aA}{nx:Nat}{K:bNX}
theorem bJ5{x:Cfg}(a:aZW (2^21) x)(h:K (boR (cU x)) H nx):bNW aZL [boR (cU x)] H nx K:=aB.fresh (R:=fun r=>r=boR (cU x)) (aB.forget (bD4 a fun _ _ r F _ boS _ _=>⟨boR (cU x),lY (bEJ _ _ _ _ boS).2.cvL,rfl,rfl,rfl⟩)) rfl fun r hr=>hr▸h
theorem bJS{x:CSt}(a:w5 (2^21) x)(h:K (boR (eI x)) H nx):bNW B7 [boR (eI x)] H nx K:=aB.fresh (R:=fun r=>r=boR (eI x)) (aB.forget (bKG a fun _ _ r F _ boS _ _=>⟨boR (eI x),lY (bJ4 _ _ _ _ boS).2.cvL,rfl,rfl,rfl⟩)) rfl fun r hr=>hr▸h
theorem bKC{x:CIn}(a:bJB (2^21) x)(h:K (boR (eIn x)) H nx):bNW bIS [boR (eIn x)] H nx K:=aB.fresh (R:=fun r=>r=boR (eIn x)) (aB.forget (bLC a fun _ _ r F _ boS _ _=>⟨boR (eIn x),lY (bML _ _ _ _ boS).2.cvL,rfl,rfl,rfl⟩)) rfl fun r hr=>hr▸h
theorem bOO{l:List CIn}(a:aZT (bJB (2^21)) (2^21) l)(h:K (dS (l.map eIn)) H nx):bNW bN2 [dS (l.map eIn)] H nx K:=aB.fresh (R:=fun r=>r=dS (l.map eIn)) (aB.forget (bOI a fun _ _ d F _ boS _ _=>⟨dS (l.map eIn),apS (.frz (boS.frz bML)),rfl,rfl,rfl⟩)) rfl fun r hr=>hr▸h
end
end Go.Proofs.YtlncecohbakleaaGreat
