/- Texts laid together by a program: rules, contracts and the walk that leads to the law. -/
import Derived.Test.YtlncecohbakleaaGreatPB20
import Derived.Test.YtlncecohbakleaaGreatPB21
set_option linter.unusedVariables false
set_option linter.unusedSimpArgs false
set_option linter.unusedSectionVars false
set_option maxRecDepth 100000
set_option maxHeartbeats 8000000
namespace Go.AM
end Go.AM
namespace Go.Proofs.YtlncecohbakleaaGreat
open Go Go.AM
attribute [local irreducible] aH wv aC vd wvH
section
variable{H:aA}{nx:Nat}{K:an4}
theorem af8{x:Cfg}{r:List D1}{F:Nat->Prop}(a:pS (2^21) x)(b:TG H r x F)(h:K (dB true) H nx):an3 E7 [.one (.agg r),dA (cD x)] H nx K:=(oi x a).pure rfl (aE (lT (su Dg b) (lT (TB rfl) LY))) fun r hr=>hr▸h
theorem ad8{x:CSt}{r:List D1}{F:Nat->Prop}(a:jE (2^21) x)(b:G6 H r x F)(h:K (dB true) H nx):an3 zM [.one (.agg r),dA (dY x)] H nx K:=(cb x a).pure rfl (aE (lT (su ml b) (lT (TB rfl) LY))) fun r hr=>hr▸h
theorem ahO{x:CIn}{r:List D1}{F:Nat->Prop}(a:kW (2^21) x)(b:E4 H r x F)(h:K (dB true) H nx):an3 rC [.one (.agg r),dA (eIn x)] H nx K:=(S9 x a).pure rfl (aE (lT (su LX b) (lT (TB rfl) LY))) fun r hr=>hr▸h
theorem af7{l:List CIn}{d:D1}{F:Nat->Prop}(a:oM (kW (2^21)) (2^21) l)(b:SlS 3 E4 H d l F)(h:K (dB true) H nx):an3 EY [.one (.c d),dS (l.map eIn)] H nx K:=(qd l a).pure rfl (aE (lT (lM (.frz (b.frz LX))) (lT (TB rfl) LY))) fun r hr=>hr▸h
theorem abT{l:List Ev}{d:D1}{F:Nat->Prop}(a:l.length<2^21)(b:SlS 3 (cY eEv) H d l F)(h:K (dB true) H nx):an3 oF [.one (.c d),dS (l.map eEv)] H nx K:=(IV l a).pure rfl (aE (lT (lM (.frz (b.frz lr))) (lT (TB rfl) LY))) fun r hr=>hr▸h
theorem We{l:List Ev}{b:Int}{d:D1}{F:Nat->Prop}(a:l.length<2^21)(e:0<=b)(f:b+total eB l<2^62)(g:SlS 3 (cY eEv) H d (marks eB rG b l) F)(h:K (dI (b+total eB l)) H nx):an3 rO [.one (.c d),dI b] H nx K:=(SZ l b a e f).pure rfl (aE (lT (lM (.frz (g.frz lr))) (lT (TB rfl) LY))) fun r hr=>hr▸h
end
end Go.Proofs.YtlncecohbakleaaGreat
