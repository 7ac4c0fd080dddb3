/- The walk of FnTrcPart. -/
import Derived.Test.YtiimjokpcbapeaaGreatAcLFnTrcPart
import Derived.Test.YtiimjokpcbapeaaGreatLk
import Derived.Test.YtiimjokpcbapeaaGreatUf
import Derived.Test.YtiimjokpcbapeaaGreatMx
set_option linter.unusedVariables false
set_option linter.unusedSimpArgs false
set_option linter.unusedSectionVars false
namespace Go.Proofs.YtiimjokpcbapeaaGreat
open Go Go.AM
set_option maxRecDepth 100000
set_option maxHeartbeats 8000000
section
variable {H : Heap} {nx : Nat} {K : D → Heap → Nat → Prop}
theorem c_laws_FnTrcPart (l : List Int) (hby : ∀ x ∈ l, 0 ≤ x ∧ x < 256) : ACall Tryz.prog n_laws_FnTrcPart [dS (l.map eU8)] .nil 0 fun rr _ _ => rr.plain = true ∧ rr = dB true := by
  refine en_laws_FnTrcPart rfl fun Q hQ => ?_
  unfold ac_laws_FnTrcPart
  by_cases hbig : l.length ≤ 1048576
  case neg =>
    repeat' (first | (with_reducible first | (refine hK _ _ _ ?_; clear hK K) | (refine hA ?_; clear hA hB A B) | refine Z1 ?_ | refine Z4 (by omega) ?_) | (with_reducible first | refine Y2 fun K hK => ?_ | refine Y3 fun A B hA hB => ?_) <;> (simp only [go_sem]) | ((with_reducible refine Y8 ?_); try simp only [AQ.then, AQ.blk, reduceIte, Nat.reduceEqDiff]) | fail)
    exact exitP hQ (dB true) rfl rfl rfl
  have hl : CodeOk l := ⟨by omega, hby⟩
  generalize hs0 : st0 = s0
  have htn : ∀ {H : Heap} {nx : Nat} {K : D → Heap → Nat → Prop}, K (dA (eSt s0)) H nx → ACall Tryz.prog n_impl_TlmNew [] H nx K := fun h => by subst hs0; exact a_impl_TlmNew h
  have htr : ∀ {H : Heap} {nx : Nat} {K : D → Heap → Nat → Prop} {c : Cfg} {es : List Ev} {k : Nat}, BusOkP c → CfgFit c → es.length ≤ 200 → Plays c st0 es → k ≤ es.length → K (.tup [.agg (eSt (runM c st0 (es.take k))), .c (cI k)]) H nx → ACall Tryz.prog n_impl_TlmRun [dA (eCfg c), dA (eSt s0), dS ((es.take k).map eEv)] H nx K := fun {H nx K c es k} h1 h2 h3 h4 h5 h6 => by
    subst hs0
    have hl : (es.take k).length = k := by rw [List.length_take]; omega
    exact a_impl_TlmRun0 h1 h2 (by omega) (plays_left (b := es.drop k) (by rw [List.take_append_drop]; exact h4)) (by rw [hl]; exact h6)
  repeat' (first | (with_reducible first | (refine hK _ _ _ ?_; clear hK K) | (refine hB ?_; clear hA hB A B) | refine Z1 ?_ | refine Z2 ?_ | refine Z3 fun KB hKB => ?_ | refine Z5 (by omega) ?_) | (first | (with_reducible first | refine Y2 fun K hK => ?_ | refine Y3 fun A B hA hB => ?_) | (refine a_spec_DrawTlmPlay hl (fun c es hb hf hp hlen => ?_))) <;> (simp only [go_sem]) | fail)
  (have hKX := hKB; clear hKB)
  refine AWPL.loopP 0 (β := Nat) (fun b k => en [(5, dI k), (4, dS (es.map eEv)), (3, .one (.c (.iptr (eCfg c))))]) (fun b k => .nil) (fun k => k ≤ 1000) (fun k => es.length + 1 - k) 0 (cv_nilT (Nat.le_refl _) (by repeat' (first | (with_reducible first | exact C1 | refine C2 ?_ ?_) | ((with_reducible refine D0 ?_); first | exact CA rfl | exact CI rfl (by simp) rfl rfl rfl) | fail))) (by omega) ?_
  intro k hk KL hKL
  by_cases hlt : k ≤ es.length
  · have htl : (es.take k).length = k := by rw [List.length_take]; omega
    have hpk := plays_left (c := c) (s := st0) (a := es.take k) (b := es.drop k) (by rw [List.take_append_drop]; exact hp)
    repeat' (first | (with_reducible first | (refine hK _ _ _ ?_; clear hK K) | (refine hA ?_; clear hA hB A B) | (refine hB ?_; clear hA hB A B) | refine Z1 ?_ | refine Z2 ?_ | refine Z3 fun KB hKB => ?_ | refine Z4 (by omega) ?_) | (first | (with_reducible first | refine Y2 fun K hK => ?_ | refine Y3 fun A B hA hB => ?_) | (refine a_impl_TrcCheck hb hf (by omega) hpk ?_) | (refine htn ?_) | (refine htr hb hf (by omega) hp hlt ?_)) <;> (simp only [go_sem]; try simp (disch := omega) only [Iw]) | ((with_reducible refine Y0 ?_); simp only [AQ.then, AQ.blk]) | refine ⟨by omega, ?_⟩ | (with_reducible refine hKB _ _ _ ?_) | fail)
    have hq : IntKind.i64.wrap ((k : Int) + 1 + IntKind.i64.wrap ((es.length : Int).tdiv 9)) = ((k + 1 + es.length / 9 : Nat) : Int) := by
      have h9 : (es.length : Int).tdiv 9 = ((es.length / 9 : Nat) : Int) := by rw [Int.tdiv_eq_ediv_of_nonneg (by omega)]; omega
      rw [h9, IntWalk.i64_in ((es.length / 9 : Nat) : Int) (by omega), IntWalk.i64_in _ (by omega)]; omega
    rw [hq]
    exact hKL _ _ _ (k + 1 + es.length / 9) (by omega) (cv_nilT (by omega) (by repeat' (first | (with_reducible first | exact C1 | refine C2 ?_ ?_) | ((with_reducible refine D0 ?_); exact CA rfl) | fail))) (by omega) (by omega)
  · repeat' (first | (with_reducible first | (refine hK _ _ _ ?_; clear hK K) | (refine hB ?_; clear hA hB A B) | refine Z1 ?_ | refine Z5 (by omega) ?_ | refine hKX _ _ _ ?_) | (first | (with_reducible first | refine Y2 fun K hK => ?_ | refine Y3 fun A B hA hB => ?_) | (with_reducible refine a_laws_crOk ?_)) <;> (simp only [go_sem]) | ((with_reducible first | refine Y8 ?_ | refine Y9 ?_); try simp only [AQ.then, AQ.blk, reduceIte, Nat.reduceEqDiff]) | fail)
    exact exitP hQ (dB true) rfl rfl rfl
end
end Go.Proofs.YtiimjokpcbapeaaGreat
