/- Texts laid together by a program: rules, contracts and the walk that leads to the law. -/
import Derived.Test.YtlncecohbakleaaGreatPB21
set_option linter.unusedVariables false
set_option linter.unusedSimpArgs false
set_option linter.unusedSectionVars false
set_option maxRecDepth 100000
set_option maxHeartbeats 8000000
namespace Go.Proofs.YtlncecohbakleaaGreat
open Go Go.AM
attribute [local irreducible] aH wv aC vd wvH
section
variable{H:aA}{nx:Nat}{K:an4}
theorem Wd{x:Cfg}(a:pS (2^21) x)(h:K (dA (cD x)) H nx):an3 FD [dA (cD x)] H nx K:=aC.fresh (R:=fun r=>r=dA (cD x)) (aC.forget (oy a fun _ _ r F _ b _ _=>⟨dA (cD x),sR (Dg _ _ _ _ b).2.cvL,rfl,rfl,rfl⟩)) rfl fun r hr=>hr▸h
theorem Qq{x:CSt}(a:jE (2^21) x)(h:K (dA (dY x)) H nx):an3 zB [dA (dY x)] H nx K:=aC.fresh (R:=fun r=>r=dA (dY x)) (aC.forget (bz a fun _ _ r F _ b _ _=>⟨dA (dY x),sR (ml _ _ _ _ b).2.cvL,rfl,rfl,rfl⟩)) rfl fun r hr=>hr▸h
theorem Zd{x:CIn}(a:kW (2^21) x)(h:K (dA (eIn x)) H nx):an3 z7 [dA (eIn x)] H nx K:=aC.fresh (R:=fun r=>r=dA (eIn x)) (aC.forget (SO a fun _ _ r F _ b _ _=>⟨dA (eIn x),sR (LX _ _ _ _ b).2.cvL,rfl,rfl,rfl⟩)) rfl fun r hr=>hr▸h
theorem Wc{l:List CIn}(a:oM (kW (2^21)) (2^21) l)(h:K (dS (l.map eIn)) H nx):an3 EL [dS (l.map eIn)] H nx K:=aC.fresh (R:=fun r=>r=dS (l.map eIn)) (aC.forget (pz a fun _ _ d F _ b _ _=>⟨dS (l.map eIn),lM (.frz (b.frz LX)),rfl,rfl,rfl⟩)) rfl fun r hr=>hr▸h
end
end Go.Proofs.YtlncecohbakleaaGreat
