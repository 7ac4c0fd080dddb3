/- Texts laid together by a program: rules, contracts and the walk that leads to the law. -/
import Derived.Test.YtlncecohbakleaaGreatPS21
import Derived.Test.YtlncecohbakleaaGreatPS20
set_option linter.unusedVariables false
set_option linter.unusedSimpArgs false
set_option linter.unusedSectionVars false
set_option maxRecDepth 100000
set_option maxHeartbeats 8000000
namespace Go.AM
theorem bzW{H:aA}{a d:D}{l0 l:List D}(h:CvD H (fun _=>True) id 0 a d)(b:ap5 H l0 l):ap5 H (a::l0) (d::l):=⟨h,b⟩
theorem bDI{H:aA}:ap5 H [] []:=trivial
theorem bEB{H:aA}{d:D}(h:d.imm=true):CvD H (fun _=>True) id 0 d d:=aE h
theorem bB8{α:Type}{n:Nat}{e:α->List D1}{RowP:bAT α}(a:Fzb n e RowP){H:aA}{r:List D1}{x:α}{F:Nat->Prop}(h:RowP H r x F):CvD H (fun _=>True) id 0 (boR (e x)) (.one (.agg r)):=lY (a _ _ _ _ h).2.cvL
theorem bNN{b k:Nat}{o:bA}{H:aA}:dT b [k] (H.set (b+k) o) (msk b [k] H)=H.set (b+k) o:=by
 funext j;by_cases h:j=b+k;·subst h;rw[aH6]
 ·rw[um1 h,mk1 h,aA.aC h]
end Go.AM
namespace Go.Proofs.YtlncecohbakleaaGreat
open Go Go.AM
attribute [local irreducible] aM wv aB vd wvH
section
variable{H:aA}{nx:Nat}{K:bNX}
theorem bEY{x:Cfg}{r:List D1}{F:Nat->Prop}(a:aZW (2^21) x)(boS:bBO H r x F)(h:K (dB true) H nx):bNW a1B [.one (.agg r),boR (cU x)] H nx K:=(bcV x a).pure rfl (aI (bzW (bB8 bEJ boS) (bzW (bEB rfl) bDI))) fun r hr=>hr▸h
theorem bKL{x:CSt}{r:List D1}{F:Nat->Prop}(a:w5 (2^21) x)(boS:bIO H r x F)(h:K (dB true) H nx):bNW a0D [.one (.agg r),boR (eI x)] H nx K:=(a97 x a).pure rfl (aI (bzW (bB8 bJ4 boS) (bzW (bEB rfl) bDI))) fun r hr=>hr▸h
theorem bNA{x:CIn}{r:List D1}{F:Nat->Prop}(a:bJB (2^21) x)(boS:bLP H r x F)(h:K (dB true) H nx):bNW bJT [.one (.agg r),boR (eIn x)] H nx K:=(bMP x a).pure rfl (aI (bzW (bB8 bML boS) (bzW (bEB rfl) bDI))) fun r hr=>hr▸h
theorem bOS{l:List CIn}{d:D1}{F:Nat->Prop}(a:aZT (bJB (2^21)) (2^21) l)(boS:SlS 3 bLP H d l F)(h:K (dB true) H nx):bNW bN3 [.one (.c d),dS (l.map eIn)] H nx K:=(bOJ l a).pure rfl (aI (bzW (apS (.frz (boS.frz bML))) (bzW (bEB rfl) bDI))) fun r hr=>hr▸h
theorem bK9{x:CSt}{b:Int}{r:List D1}{F:Nat->Prop}(a:w5 (2^21) x)(c:0<=b)(d:b+bIP x<2^62)(boS:bIO H r (bKM b x) F)(h:K (boP (b+bIP x)) H nx):bNW bIQ [.one (.agg r),boP b] H nx K:=(bLI x b a c d).pure rfl (aI (bzW (bB8 bJ4 boS) (bzW (bEB rfl) bDI))) fun r hr=>hr▸h
end
end Go.Proofs.YtlncecohbakleaaGreat
