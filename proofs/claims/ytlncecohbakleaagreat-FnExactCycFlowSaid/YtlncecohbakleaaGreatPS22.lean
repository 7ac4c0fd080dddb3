/- Texts laid together by a program: rules, contracts and the walk that leads to the law. -/
import Derived.Test.YtlncecohbakleaaGreatPS21
set_option linter.unusedVariables false
set_option linter.unusedSimpArgs false
set_option linter.unusedSectionVars false
set_option maxRecDepth 100000
set_option maxHeartbeats 8000000
namespace Go.AM
theorem a9N.at_{a:List D1}(h:a9N a)(i:Nat){d:D1}(b:a[i]?=some d):Big d:=h d (s3 b)
theorem Big.bdS{α:Type}{enc:α->List D1}{l:List α}(h:Big (.isl (l.map enc))):l.length<2^63:=by have:=h.len;simpa using this
theorem Big.elem{α:Type}{enc:α->List D1}{l:List α}(h:Big (.isl (l.map enc))): ∀x∈l,a9N (enc x):=fun x a d b=>h.row _ (brI a) d b
theorem Big.apP{α:Type}{enc:α->List D1}{P:α->Prop}{l:List α}(h:Big (.isl (l.map enc)))(boS: ∀x,a9N (enc x)->P x):aZT P (2^63) l:=⟨h.bdS,fun x a=>boS x (h.elem x a)⟩
theorem be9(q:Req)(h:a9N (eB q)):w3 (2^63) q:=⟨(h.at_ 5 rfl).bdS,(h.at_ 6 rfl).bdS⟩
theorem be3(p:List Req)(h:a9N (jR p)):aZ7 (2^63) p:=(h.at_ 0 rfl).apP be9
theorem bfU(c:Cfg)(h:a9N (cU c)):aZW (2^63) c:=⟨(h.at_ 0 rfl).bdS,(h.at_ 1 rfl).bdS,(h.at_ 2 rfl).apP be3⟩
theorem be4(p:fR)(h:a9N (cD p)):f9 (2^63) p:=⟨(h.at_ 1 rfl).bdS,(h.at_ 2 rfl).bdS⟩
theorem beQ(j:Job)(h:a9N (aS j)):e9 (2^63) j:=(h.at_ 4 rfl).bdS
theorem be8(v:nY)(h:a9N (gF v)):dP (2^63) v:=⟨(h.at_ 0 rfl).bdS,(h.at_ 1 rfl).apP beQ⟩
theorem bfV(s:CSt)(h:a9N (eI s)):w5 (2^63) s:=⟨⟨(h.at_ 0 rfl).bdS,(h.at_ 1 rfl).bdS⟩,(h.at_ 2 rfl).apP be4,(h.at_ 3 rfl).apP be8,(h.at_ 4 rfl).apP beQ⟩
theorem bNO(i:CIn)(h:a9N (eIn i)):bJB (2^63) i:=⟨(h.at_ 0 rfl).bdS,(h.at_ 1 rfl).bdS,(h.at_ 2 rfl).bdS⟩
end Go.AM
