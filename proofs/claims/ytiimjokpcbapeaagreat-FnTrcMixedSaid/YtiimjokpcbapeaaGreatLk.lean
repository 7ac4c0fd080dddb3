/- Small contracts that the laws share. -/
import Derived.Test.YtiimjokpcbapeaaGreatTo
import Derived.Test.YtiimjokpcbapeaaGreatTx
set_option linter.unusedVariables false
set_option linter.unusedSimpArgs false
set_option linter.unusedSectionVars false
namespace Go.Proofs.YtiimjokpcbapeaaGreat
open Go Go.AM
set_option maxRecDepth 100000
set_option maxHeartbeats 8000000
section
variable {H : Heap} {nx : Nat} {K : D → Heap → Nat → Prop}
theorem c_laws_crOk  : ACall Tryz.prog n_laws_crOk [] .nil 0 fun rr _ _ => rr.plain = true ∧ rr = dB true := by
  refine en_laws_crOk rfl fun Q hQ => ?_
  unfold ac_laws_crOk
  repeat' (first | (with_reducible first | (refine hK _ _ _ ?_; clear hK K) | refine Z1 ?_) | (first | (with_reducible refine Y2 fun K hK => ?_) | (with_reducible refine a_impl_AdrOk ?_)) <;> (simp only [go_sem]) | ((with_reducible refine Y8 ?_); try simp only [AQ.then, AQ.blk, reduceIte, Nat.reduceEqDiff]) | fail)
  all_goals first | with_reducible refine exitP hQ _ rfl rfl ?_ | skip
  all_goals exact (dB_t (by decide)).symm
theorem a_laws_crOk    (h : K (dB true) H nx) : ACall Tryz.prog n_laws_crOk [] H nx K :=
  (c_laws_crOk ).pure rfl (lentL_args trivial) (fun r hr => hr ▸ h)
end
end Go.Proofs.YtiimjokpcbapeaaGreat
