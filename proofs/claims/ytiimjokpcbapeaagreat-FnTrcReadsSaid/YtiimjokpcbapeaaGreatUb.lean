/- Contracts: what one was told, out of lists. -/
import Derived.Test.YtiimjokpcbapeaaGreatAcLToldOf
import Derived.Test.YtiimjokpcbapeaaGreatUa
import Derived.Test.YtiimjokpcbapeaaGreatMy
set_option linter.unusedVariables false
set_option linter.unusedSimpArgs false
set_option linter.unusedSectionVars false
namespace Go.Proofs.YtiimjokpcbapeaaGreat
open Go Go.AM
set_option maxRecDepth 100000
set_option maxHeartbeats 8000000
section
variable {H : Heap} {nx : Nat} {K : D → Heap → Nat → Prop}
theorem c_impl_ToldOf (l : List Job) (who : Int) (hl : l.length < 2 ^ 20) (hd : ∀ j ∈ l, j.rsp.data.length < 2 ^ 20) : ACall Tryz.prog n_impl_ToldOf [dS (l.map eJob), dI who] .nil 0 fun r _ n => n = 0 ∧ r.imm = true ∧ r = dS ((mineJ l who).map eJob) := by
  refine en_impl_ToldOf rfl fun Q hQ => ?_
  unfold ac_impl_ToldOf
  have hmd := fun j (hj : j ∈ mineJ l who) => hd j (mineJ_sub j hj)
  have hmL := mineJ_len (l := l) (who := who)
  repeat' (first | (with_reducible first | (refine hK _ _ _ ?_; clear hK K) | refine Z1 ?_ | refine Z3 fun KB hKB => ?_) | (with_reducible refine Y2 fun K hK => ?_) <;> (simp only [go_sem]) | fail)
  (have hQX := hKB; clear hKB)
  refine AWPL.loopP 1 (β := Nat × Nat) (fun b u => en [(10, dI u.1), (9, dI l.length), (8, dS (l.map eJob)), (5, oslN 5 b (mineJ (l.take u.1) who).length u.2), (1, dI who)])
    (fun b u => hpN b (mineJ (l.take u.1) who).length ⟨5, u.2, (mineJ (l.take u.1) who).map eJob⟩) (fun u => u.1 ≤ l.length ∧ (mineJ (l.take u.1) who).length ≤ u.2) (fun u => l.length - u.1) (0, 0) (cv_nilT (by omega) (by simp only [mineJ, List.take_zero, List.filter_nil, List.length_nil, oslN, if_true]; unfold D1.nil; repeat' (first | (with_reducible first | exact C1 | refine C2 ?_ ?_) | ((with_reducible refine C0 ?_); exact CC) | ((with_reducible refine D0 ?_); first | exact CA rfl | refine CJ ?_) | fail))) ⟨by omega, by simp [mineJ]⟩ ?_
  rintro ⟨k, cap⟩ ⟨hk, hc⟩ KL hKL
  dsimp only at hk hc
  have hml := mineJ_len (l := l.take k) (who := who)
  have htl : (l.take k).length = k := by simp; omega
  rcases Nat.eq_zero_or_pos (mineJ (l.take k) who).length with h0 | h0
  · simp only [oslN, hpN, h0, if_true]
    unfold D1.nil
    by_cases hlt : k < l.length
    · by_cases hw : (l.getD k default).who = who
      · have hy := mineJ_yes hlt hw
        have hz := List.length_eq_zero_iff.1 h0
        rw [hz, List.nil_append] at hy
        have hyl := congrArg List.length hy
        rw [List.length_singleton] at hyl
        repeat' (first | (with_reducible first | (refine hK _ _ _ ?_; clear hK K) | (refine hA ?_; clear hA hB A B) | refine Z1 ?_ | refine Z2 ?_ | refine Z3 fun KB hKB => ?_ | refine Z4 (by omega) ?_ | refine fun (cap : Nat) (hcap : _ ≤ cap) => ?_ | refine fun (hcp : _ ≤ cap) => ?_) | (with_reducible first | refine Y2 fun K hK => ?_ | refine Y3 fun A B hA hB => ?_) <;> (simp only [go_sem]; try simp (disch := omega) only [Iw]) | ((with_reducible refine Y0 ?_); simp only [AQ.then, AQ.blk]) | refine ⟨by omega, ?_⟩ | (with_reducible refine hKB _ _ _ ?_) | fail)
        exact hKL _ _ _ (k + 1, cap) (by omega) (by dsimp only; simp only [oslN, hpN, hyl, hy, Nat.one_ne_zero, if_false]; (refine cv_hp [18] (by omega) (by repeat' (first | (with_reducible first | exact C1 | refine C2 ?_ ?_) | ((with_reducible refine C0 ?_); exact CQ (by omega) rfl rfl (by rfl) rfl) | ((with_reducible refine D0 ?_); first | exact CA rfl | refine CJ ?_) | fail)) ⟨⟨by simp, by simp [sgL], _, rfl, cvO_E (immR_map eJob_ok _) rfl rfl⟩, trivial⟩ (by simp [sgL]))) ⟨by dsimp only; omega, by dsimp only; omega⟩ (by dsimp only; omega)
      · have hn := mineJ_no hlt hw
        repeat' (first | (with_reducible first | (refine hK _ _ _ ?_; clear hK K) | (refine hA ?_; clear hA hB A B) | (refine hB ?_; clear hA hB A B) | refine Z1 ?_ | refine Z2 ?_ | refine Z3 fun KB hKB => ?_ | refine Z4 (by omega) ?_ | refine Z5 (by omega) ?_) | (with_reducible first | refine Y2 fun K hK => ?_ | refine Y3 fun A B hA hB => ?_) <;> (simp only [go_sem]; try simp (disch := omega) only [Iw]) | ((with_reducible refine Y0 ?_); simp only [AQ.then, AQ.blk]) | refine ⟨by omega, ?_⟩ | (with_reducible refine hKB _ _ _ ?_) | fail)
        exact hKL _ _ _ (k + 1, cap) (by omega) (by simp only [oslN, hpN, hn, h0, if_true]; unfold D1.nil; exact cv_nilT (by omega) (by repeat' (first | (with_reducible first | exact C1 | refine C2 ?_ ?_) | ((with_reducible refine C0 ?_); exact CC) | ((with_reducible refine D0 ?_); first | exact CA rfl | refine CJ ?_) | fail))) ⟨by dsimp only; omega, by dsimp only; rw [hn]; omega⟩ (by dsimp only; omega)
    · have hk2 : k = l.length := by omega
      subst hk2
      rw [List.take_length] at h0
      have hz := List.length_eq_zero_iff.1 h0
      rw [hz] at hQ
      repeat' (first | (with_reducible first | (refine hK _ _ _ ?_; clear hK K) | (refine hB ?_; clear hA hB A B) | refine Z1 ?_ | refine Z5 (by omega) ?_) | (with_reducible first | refine Y2 fun K hK => ?_ | refine Y3 fun A B hA hB => ?_) <;> (simp only [go_sem]) | ((with_reducible refine Y9 ?_); try simp only [AQ.then, AQ.blk, reduceIte, Nat.reduceEqDiff]) | fail)
      refine hQX _ _ _ ?_
      refine AWPL.convL 0 (en [(5, dS (([] : List Job).map eJob))]) .nil (cv_nilT (by omega) (cvE_cons cvE_enil cv1_frz0)) ?_
      repeat' (first | (with_reducible first | (refine hK _ _ _ ?_; clear hK K) | refine Z1 ?_) | (first | (with_reducible refine Y2 fun K hK => ?_) | (refine a_impl_copyJobs (l := []) (by simp) (by simp) (fun m hm => ?_))) <;> (simp only [go_sem]) | ((with_reducible refine Y8 ?_); try simp only [AQ.then, AQ.blk, reduceIte, Nat.reduceEqDiff]) | fail)
      exact exitF hQ (dS _) _ rfl (cvD_frzM (l := []) eJob_ok rfl rfl (Nat.le_refl _) trivial) rfl rfl
  · simp only [oslN, hpN, show ¬ (mineJ (l.take k) who).length = 0 by omega, if_false]
    by_cases hlt : k < l.length
    · by_cases hw : (l.getD k default).who = who
      · have hy := mineJ_yes hlt hw
        have hyl := congrArg List.length hy
        simp only [List.length_append, List.length_cons, List.length_nil] at hyl
        have hy2 := congrArg (List.map eJob) hy
        repeat' (first | (with_reducible first | (refine hK _ _ _ ?_; clear hK K) | (refine hA ?_; clear hA hB A B) | refine Z1 ?_ | refine Z2 ?_ | refine Z3 fun KB hKB => ?_ | refine Z4 (by omega) ?_ | refine fun (cap : Nat) (hcap : _ ≤ cap) => ?_ | refine fun (hcp : _ ≤ cap) => ?_) | (with_reducible first | refine Y2 fun K hK => ?_ | refine Y3 fun A B hA hB => ?_) <;> (simp only [go_sem]; try simp (disch := omega) only [Iw]) | ((with_reducible refine Y0 ?_); simp only [AQ.then, AQ.blk]) | refine ⟨by omega, ?_⟩ | (with_reducible refine hKB _ _ _ ?_) | fail)
        exact hKL _ _ _ (k + 1, cap) (by omega) (by simp only [oslN, hpN, show ¬ (mineJ (l.take (k + 1)) who).length = 0 by omega, if_false]; (refine cv_hp [18] (by omega) (by repeat' (first | (with_reducible first | exact C1 | refine C2 ?_ ?_) | ((with_reducible refine C0 ?_); exact CQ (by omega) rfl rfl (by omega) rfl) | ((with_reducible refine D0 ?_); first | exact CA rfl | refine CJ ?_) | fail)) ⟨⟨by simp, by simp [sgL], _, rfl, cvO_E (immR_map eJob_ok _) hy2 rfl⟩, trivial⟩ (by simp [sgL]))) ⟨by dsimp only; omega, by dsimp only; omega⟩ (by dsimp only; omega)
      · have hn := mineJ_no hlt hw
        repeat' (first | (with_reducible first | (refine hK _ _ _ ?_; clear hK K) | (refine hA ?_; clear hA hB A B) | (refine hB ?_; clear hA hB A B) | refine Z1 ?_ | refine Z2 ?_ | refine Z3 fun KB hKB => ?_ | refine Z4 (by omega) ?_ | refine Z5 (by omega) ?_) | (with_reducible first | refine Y2 fun K hK => ?_ | refine Y3 fun A B hA hB => ?_) <;> (simp only [go_sem]; try simp (disch := omega) only [Iw]) | ((with_reducible refine Y0 ?_); simp only [AQ.then, AQ.blk]) | refine ⟨by omega, ?_⟩ | (with_reducible refine hKB _ _ _ ?_) | fail)
        exact hKL _ _ _ (k + 1, cap) (by omega) (by simp only [oslN, hpN, hn, show ¬ (mineJ (l.take k) who).length = 0 by omega, if_false]; (refine cv_hp [5] (by omega) (by repeat' (first | (with_reducible first | exact C1 | refine C2 ?_ ?_) | ((with_reducible refine C0 ?_); exact CQ (by omega) rfl rfl (by rfl) rfl) | ((with_reducible refine D0 ?_); first | exact CA rfl | refine CJ ?_) | fail)) ⟨⟨by simp, by simp [sgL], _, rfl, cvO_E (immR_map eJob_ok _) rfl rfl⟩, trivial⟩ (by simp [sgL]))) ⟨by dsimp only; omega, by dsimp only; rw [hn]; omega⟩ (by dsimp only; omega)
    · have hk2 : k = l.length := by omega
      subst hk2
      rw [List.take_length] at *
      repeat' (first | (with_reducible first | (refine hK _ _ _ ?_; clear hK K) | (refine hB ?_; clear hA hB A B) | refine Z1 ?_ | refine Z5 (by omega) ?_) | (with_reducible first | refine Y2 fun K hK => ?_ | refine Y3 fun A B hA hB => ?_) <;> (simp only [go_sem]) | ((with_reducible refine Y9 ?_); try simp only [AQ.then, AQ.blk, reduceIte, Nat.reduceEqDiff]) | fail)
      refine hQX _ _ _ ?_
      refine AWPL.convL 0 (en [(5, dS ((mineJ l who).map eJob))]) .nil (cv_nilT (by omega) (cvE_cons cvE_enil (cvD_frzM eJob_ok rfl rfl (by omega) trivial))) ?_
      repeat' (first | (with_reducible first | (refine hK _ _ _ ?_; clear hK K) | refine Z1 ?_) | (first | (with_reducible refine Y2 fun K hK => ?_) | (refine a_impl_copyJobs (l := mineJ l who) (by omega) hmd (fun m hm => ?_))) <;> (simp only [go_sem]) | ((with_reducible refine Y8 ?_); try simp only [AQ.then, AQ.blk, reduceIte, Nat.reduceEqDiff]) | fail)
      exact exitF hQ (dS _) _ rfl (cvD_frzM eJob_ok rfl rfl (Nat.le_refl _) trivial) rfl rfl
theorem a_impl_ToldOf {l : List Job} {who : Int} (hl : l.length < 2 ^ 20) (hd : ∀ j ∈ l, j.rsp.data.length < 2 ^ 20) (h : K (dS ((mineJ l who).map eJob)) H nx) : ACall Tryz.prog n_impl_ToldOf [dS (l.map eJob), dI who] H nx K :=
  (c_impl_ToldOf l who hl hd).fresh rfl fun r hr => hr ▸ h
end
end Go.Proofs.YtiimjokpcbapeaaGreat
