/- Contracts: what is one's own of lists. -/
import Derived.Test.YtiimjokpcbapeaaGreatAcLTrcOf
import Derived.Test.YtiimjokpcbapeaaGreatTw
import Derived.Test.YtiimjokpcbapeaaGreatMx
set_option linter.unusedVariables false
set_option linter.unusedSimpArgs false
set_option linter.unusedSectionVars false
namespace Go.Proofs.YtiimjokpcbapeaaGreat
open Go Go.AM
set_option maxRecDepth 100000
set_option maxHeartbeats 8000000
section
variable {H : Heap} {nx : Nat} {K : D → Heap → Nat → Prop}
def oslN (n b len cap : Nat) : D := if len = 0 then .one (.c .nil) else dO n b len cap
def hpN (b len : Nat) (o : AObj) : Heap := if len = 0 then .nil else hp [(b, o)]
theorem c_slices_Clip_Ev (l : List Ev) (cap m : Nat) (hl : l.length < 2 ^ 20) (hc : l.length ≤ cap) : ACall Tryz.prog n_slices_Clip_ZTlmEvent_TlmEvent [dO 3 0 l.length cap] (hp [(0, ⟨3, m, l.map eEv⟩)]) 1
    fun r H' n' => n' = 1 ∧ ∃ o', H' = hp [(0, o')] ∧ immO o' ∧ o' = ⟨3, m, l.map eEv⟩ ∧ r = dO 3 0 l.length l.length := by
  refine en_slices_Clip_ZTlmEvent_TlmEvent rfl fun Q hQ => ?_
  unfold ac_slices_Clip_ZTlmEvent_TlmEvent
  repeat' (first | (with_reducible first | (refine hK _ _ _ ?_; clear hK K) | refine Z1 ?_) | (with_reducible refine Y2 fun K hK => ?_) <;> (simp only [go_sem]) | ((with_reducible refine Y8 ?_); try simp only [AQ.then, AQ.blk, reduceIte, Nat.reduceEqDiff]) | refine ⟨by omega, ?_⟩ | fail)
  exact exitM1 hQ (dO 3 0 l.length l.length) _ _ rfl (by repeat' (first | ((with_reducible refine C0 ?_); exact CQ (by omega) rfl rfl (by rfl) rfl) | ((with_reducible refine D0 ?_); refine CJ ?_) | fail)) rfl (immO_map eEv_ok _) ⟨rfl, rfl⟩
theorem a_slices_Clip_Ev {l : List Ev} {cap m i : Nat} (hl : l.length < 2 ^ 20) (hc : l.length ≤ cap) (hi : i < nx) (ho : H i = some ⟨3, m, l.map eEv⟩) (h : K (dO 3 i l.length l.length) (H.set i ⟨3, m, l.map eEv⟩) nx) :
    ACall Tryz.prog n_slices_Clip_ZTlmEvent_TlmEvent [dO 3 i l.length cap] H nx K :=
  (c_slices_Clip_Ev l cap m hl hc).mut1 i rfl (argL_args ⟨cvD_oslE (by omega) rfl rfl rfl rfl, trivial⟩) hi ho (immO_map eEv_ok _) fun r o' ⟨h1, h2⟩ => by
    subst h1; subst h2; exact h
theorem c_slices_Clip_Ev0 : ACall Tryz.prog n_slices_Clip_ZTlmEvent_TlmEvent [.one (.c (.osl 0 0 0 0 0))] .nil 0 fun r _ n => n = 0 ∧ r.imm = true ∧ r = dS [] := by
  refine en_slices_Clip_ZTlmEvent_TlmEvent rfl fun Q hQ => ?_
  unfold ac_slices_Clip_ZTlmEvent_TlmEvent
  repeat' (first | (with_reducible first | (refine hK _ _ _ ?_; clear hK K) | refine Z1 ?_) | (with_reducible refine Y2 fun K hK => ?_) <;> (simp only [go_sem]) | ((with_reducible refine Y8 ?_); try simp only [AQ.then, AQ.blk, reduceIte, Nat.reduceEqDiff]) | refine ⟨by omega, ?_⟩ | fail)
  exact exitF hQ (dS []) _ rfl cv1_frz0 rfl rfl
theorem a_slices_Clip_Ev0 (h : K (dS []) H nx) : ACall Tryz.prog n_slices_Clip_ZTlmEvent_TlmEvent [.one (.c (.osl 0 0 0 0 0))] H nx K :=
  c_slices_Clip_Ev0.freshA rfl ⟨cv1_nil, trivial⟩ fun r hr => hr ▸ h
theorem c_impl_TrcOf (l : List Ev) (who : Int) (hl : l.length < 2 ^ 20) : ACall Tryz.prog n_impl_TrcOf [dS (l.map eEv), dI who] .nil 0 fun r _ n => n = 0 ∧ r.imm = true ∧ r = dS ((mineE l who).map eEv) := by
  refine en_impl_TrcOf rfl fun Q hQ => ?_
  unfold ac_impl_TrcOf
  repeat' (first | (with_reducible first | (refine hK _ _ _ ?_; clear hK K) | refine Z1 ?_ | refine Z3 fun KB hKB => ?_) | (with_reducible refine Y2 fun K hK => ?_) <;> (simp only [go_sem]) | fail)
  (have hKX := hKB; clear hKB)
  refine AWPL.loopP 1 (β := Nat × Nat) (fun b u => en [(10, dI u.1), (9, dI l.length), (8, dS (l.map eEv)), (5, oslN 3 b (mineE (l.take u.1) who).length u.2), (1, dI who)])
    (fun b u => hpN b (mineE (l.take u.1) who).length ⟨3, u.2, (mineE (l.take u.1) who).map eEv⟩) (fun u => u.1 ≤ l.length ∧ (mineE (l.take u.1) who).length ≤ u.2) (fun u => l.length - u.1) (0, 0) (cv_nilT (by omega) (by simp only [mineE, List.take_zero, List.filter_nil, List.length_nil, oslN, if_true]; unfold D1.nil; repeat' (first | (with_reducible first | exact C1 | refine C2 ?_ ?_) | ((with_reducible refine C0 ?_); exact CC) | ((with_reducible refine D0 ?_); first | exact CA rfl | refine CJ ?_) | fail))) ⟨by omega, by simp [mineE]⟩ ?_
  rintro ⟨k, cap⟩ ⟨hk, hc⟩ KL hKL
  dsimp only at hk hc
  have hml := mine_len (l := l.take k) (who := who)
  have htl : (l.take k).length = k := by simp; omega
  rcases Nat.eq_zero_or_pos (mineE (l.take k) who).length with h0 | h0
  · simp only [oslN, hpN, h0, if_true]
    unfold D1.nil
    by_cases hlt : k < l.length
    · by_cases hw : (l.getD k default).who = who
      · have hy := mine_yes hlt hw
        have hz := List.length_eq_zero_iff.1 h0
        rw [hz, List.nil_append] at hy
        have hyl := congrArg List.length hy
        rw [List.length_singleton] at hyl
        repeat' (first | (with_reducible first | (refine hK _ _ _ ?_; clear hK K) | (refine hA ?_; clear hA hB A B) | refine Z1 ?_ | refine Z2 ?_ | refine Z3 fun KB hKB => ?_ | refine Z4 (by omega) ?_ | refine fun (cap : Nat) (hcap : _ ≤ cap) => ?_ | refine fun (hcp : _ ≤ cap) => ?_) | (with_reducible first | refine Y2 fun K hK => ?_ | refine Y3 fun A B hA hB => ?_) <;> (simp only [go_sem]; try simp (disch := omega) only [Iw]) | ((with_reducible refine Y0 ?_); simp only [AQ.then, AQ.blk]) | refine ⟨by omega, ?_⟩ | (with_reducible refine hKB _ _ _ ?_) | fail)
        exact hKL _ _ _ (k + 1, cap) (by omega) (by dsimp only; simp only [oslN, hpN, hyl, hy, Nat.one_ne_zero, if_false]; (refine cv_hp [18] (by omega) (by repeat' (first | (with_reducible first | exact C1 | refine C2 ?_ ?_) | ((with_reducible refine C0 ?_); exact CQ (by omega) rfl rfl (by rfl) rfl) | ((with_reducible refine D0 ?_); first | exact CA rfl | refine CJ ?_) | fail)) ⟨⟨by simp, by simp [sgL], _, rfl, cvO_E (immR_map eEv_ok _) rfl rfl⟩, trivial⟩ (by simp [sgL]))) ⟨by dsimp only; omega, by dsimp only; omega⟩ (by dsimp only; omega)
      · have hn := mine_no hlt hw
        repeat' (first | (with_reducible first | (refine hK _ _ _ ?_; clear hK K) | (refine hA ?_; clear hA hB A B) | (refine hB ?_; clear hA hB A B) | refine Z1 ?_ | refine Z2 ?_ | refine Z3 fun KB hKB => ?_ | refine Z4 (by omega) ?_ | refine Z5 (by omega) ?_) | (with_reducible first | refine Y2 fun K hK => ?_ | refine Y3 fun A B hA hB => ?_) <;> (simp only [go_sem]; try simp (disch := omega) only [Iw]) | ((with_reducible refine Y0 ?_); simp only [AQ.then, AQ.blk]) | refine ⟨by omega, ?_⟩ | (with_reducible refine hKB _ _ _ ?_) | fail)
        exact hKL _ _ _ (k + 1, cap) (by omega) (by simp only [oslN, hpN, hn, h0, if_true]; unfold D1.nil; exact cv_nilT (by omega) (by repeat' (first | (with_reducible first | exact C1 | refine C2 ?_ ?_) | ((with_reducible refine C0 ?_); exact CC) | ((with_reducible refine D0 ?_); first | exact CA rfl | refine CJ ?_) | fail))) ⟨by dsimp only; omega, by dsimp only; rw [hn]; omega⟩ (by dsimp only; omega)
    · have hk2 : k = l.length := by omega
      subst hk2
      rw [List.take_length] at h0
      repeat' (first | (with_reducible first | (refine hK _ _ _ ?_; clear hK K) | (refine hB ?_; clear hA hB A B) | refine Z1 ?_ | refine Z5 (by omega) ?_ | refine hKX _ _ _ ?_) | (first | (with_reducible first | refine Y2 fun K hK => ?_ | refine Y3 fun A B hA hB => ?_) | (with_reducible refine a_slices_Clip_Ev0 ?_)) <;> (simp only [go_sem]) | ((with_reducible first | refine Y8 ?_ | refine Y9 ?_); try simp only [AQ.then, AQ.blk, reduceIte, Nat.reduceEqDiff]) | fail)
      exact exitF hQ (dS []) (dS []) rfl (cvD_im rfl) rfl (by rw [List.length_eq_zero_iff.1 h0]; rfl)
  · simp only [oslN, hpN, show ¬ (mineE (l.take k) who).length = 0 by omega, if_false]
    by_cases hlt : k < l.length
    · by_cases hw : (l.getD k default).who = who
      · have hy := mine_yes hlt hw
        have hyl := congrArg List.length hy
        simp only [List.length_append, List.length_cons, List.length_nil] at hyl
        have hy2 := congrArg (List.map eEv) hy
        repeat' (first | (with_reducible first | (refine hK _ _ _ ?_; clear hK K) | (refine hA ?_; clear hA hB A B) | refine Z1 ?_ | refine Z2 ?_ | refine Z3 fun KB hKB => ?_ | refine Z4 (by omega) ?_ | refine fun (cap : Nat) (hcap : _ ≤ cap) => ?_ | refine fun (hcp : _ ≤ cap) => ?_) | (with_reducible first | refine Y2 fun K hK => ?_ | refine Y3 fun A B hA hB => ?_) <;> (simp only [go_sem]; try simp (disch := omega) only [Iw]) | ((with_reducible refine Y0 ?_); simp only [AQ.then, AQ.blk]) | refine ⟨by omega, ?_⟩ | (with_reducible refine hKB _ _ _ ?_) | fail)
        exact hKL _ _ _ (k + 1, cap) (by omega) (by simp only [oslN, hpN, show ¬ (mineE (l.take (k + 1)) who).length = 0 by omega, if_false]; (refine cv_hp [18] (by omega) (by repeat' (first | (with_reducible first | exact C1 | refine C2 ?_ ?_) | ((with_reducible refine C0 ?_); exact CQ (by omega) rfl rfl (by omega) rfl) | ((with_reducible refine D0 ?_); first | exact CA rfl | refine CJ ?_) | fail)) ⟨⟨by simp, by simp [sgL], _, rfl, cvO_E (immR_map eEv_ok _) hy2 rfl⟩, trivial⟩ (by simp [sgL]))) ⟨by dsimp only; omega, by dsimp only; omega⟩ (by dsimp only; omega)
      · have hn := mine_no hlt hw
        repeat' (first | (with_reducible first | (refine hK _ _ _ ?_; clear hK K) | (refine hA ?_; clear hA hB A B) | (refine hB ?_; clear hA hB A B) | refine Z1 ?_ | refine Z2 ?_ | refine Z3 fun KB hKB => ?_ | refine Z4 (by omega) ?_ | refine Z5 (by omega) ?_) | (with_reducible first | refine Y2 fun K hK => ?_ | refine Y3 fun A B hA hB => ?_) <;> (simp only [go_sem]; try simp (disch := omega) only [Iw]) | ((with_reducible refine Y0 ?_); simp only [AQ.then, AQ.blk]) | refine ⟨by omega, ?_⟩ | (with_reducible refine hKB _ _ _ ?_) | fail)
        exact hKL _ _ _ (k + 1, cap) (by omega) (by simp only [oslN, hpN, hn, show ¬ (mineE (l.take k) who).length = 0 by omega, if_false]; (refine cv_hp [5] (by omega) (by repeat' (first | (with_reducible first | exact C1 | refine C2 ?_ ?_) | ((with_reducible refine C0 ?_); exact CQ (by omega) rfl rfl (by rfl) rfl) | ((with_reducible refine D0 ?_); first | exact CA rfl | refine CJ ?_) | fail)) ⟨⟨by simp, by simp [sgL], _, rfl, cvO_E (immR_map eEv_ok _) rfl rfl⟩, trivial⟩ (by simp [sgL]))) ⟨by dsimp only; omega, by dsimp only; rw [hn]; omega⟩ (by dsimp only; omega)
    · have hk2 : k = l.length := by omega
      subst hk2
      rw [List.take_length] at *
      repeat' (first | (with_reducible first | (refine hK _ _ _ ?_; clear hK K) | (refine hB ?_; clear hA hB A B) | refine Z1 ?_ | refine Z5 (by omega) ?_ | refine hKX _ _ _ ?_) | (first | (with_reducible first | refine Y2 fun K hK => ?_ | refine Y3 fun A B hA hB => ?_) | (refine a_slices_Clip_Ev (l := mineE l who) (by omega) (by omega) (by omega) rfl ?_)) <;> (simp only [go_sem]) | ((with_reducible first | refine Y8 ?_ | refine Y9 ?_); try simp only [AQ.then, AQ.blk, reduceIte, Nat.reduceEqDiff]) | fail)
      exact exitF hQ (dS _) _ rfl (cvD_frzM eEv_ok rfl rfl (Nat.le_refl _) trivial) rfl rfl
theorem a_impl_TrcOf {l : List Ev} {who : Int} (hl : l.length < 2 ^ 20) (h : K (dS ((mineE l who).map eEv)) H nx) : ACall Tryz.prog n_impl_TrcOf [dS (l.map eEv), dI who] H nx K :=
  (c_impl_TrcOf l who hl).fresh rfl fun r hr => hr ▸ h
end
end Go.Proofs.YtiimjokpcbapeaaGreat
