/- The walk of FnTlmMay. -/
import Derived.Test.YtiimjokpcbapeaaGreatAcLFnTlmMay
import Derived.Test.YtiimjokpcbapeaaGreatLk
import Derived.Test.YtiimjokpcbapeaaGreatTy
import Derived.Test.YtiimjokpcbapeaaGreatMx
set_option linter.unusedVariables false
set_option linter.unusedSimpArgs false
set_option linter.unusedSectionVars false
namespace Go.Proofs.YtiimjokpcbapeaaGreat
open Go Go.AM
set_option maxRecDepth 100000
set_option maxHeartbeats 8000000
section
variable {H : Heap} {nx : Nat} {K : D → Heap → Nat → Prop}
theorem a_impl_TlmStepE {c : Cfg} {s : TSt} {kd w n : Int} (hb : BusOkP c) (hcf : CfgFit c) (hs : StOk c s) (h : K (.tup [.agg (eSt (if whyM c s ⟨kd, w, n⟩ = 0 then stepM c s ⟨kd, w, n⟩ else s)), .c (cB (decide (whyM c s ⟨kd, w, n⟩ = 0)))]) H nx) : ACall Tryz.prog n_impl_TlmStep [.one (.agg (eCfg c)), .one (.agg (eSt s)), .one (.agg [cI kd, cI w, cI n])] H nx K :=
  a_impl_TlmStep (e := ⟨kd, w, n⟩) hb hcf hs h
theorem c_laws_FnTlmMay (l : List Int) (hby : ∀ x ∈ l, 0 ≤ x ∧ x < 256) : ACall Tryz.prog n_laws_FnTlmMay [dS (l.map eU8)] .nil 0 fun rr _ _ => rr.plain = true ∧ rr = dB true := by
  refine en_laws_FnTlmMay rfl fun Q hQ => ?_
  unfold ac_laws_FnTlmMay
  by_cases hbig : l.length ≤ 1048576
  case neg =>
    repeat' (first | (with_reducible first | (refine hK _ _ _ ?_; clear hK K) | (refine hA ?_; clear hA hB A B) | refine Z1 ?_ | refine Z4 (by omega) ?_) | (with_reducible first | refine Y2 fun K hK => ?_ | refine Y3 fun A B hA hB => ?_) <;> (simp only [go_sem]) | ((with_reducible refine Y8 ?_); try simp only [AQ.then, AQ.blk, reduceIte, Nat.reduceEqDiff]) | fail)
    exact exitP hQ (dB true) rfl rfl rfl
  have hl : CodeOk l := ⟨by omega, hby⟩
  generalize hs0 : st0 = s0
  have htn : ∀ {H : Heap} {nx : Nat} {K : D → Heap → Nat → Prop}, K (dA (eSt s0)) H nx → ACall Tryz.prog n_impl_TlmNew [] H nx K := fun h => by subst hs0; exact a_impl_TlmNew h
  have htr : ∀ {H : Heap} {nx : Nat} {K : D → Heap → Nat → Prop} {c : Cfg} {es : List Ev}, BusOkP c → CfgFit c → es.length ≤ 200 → Plays c st0 es → K (.tup [.agg (eSt (runM c st0 es)), .c (cI es.length)]) H nx → ACall Tryz.prog n_impl_TlmRun [dA (eCfg c), dA (eSt s0), dS (es.map eEv)] H nx K := fun h1 h2 h3 h4 h5 => by subst hs0; exact a_impl_TlmRun0 h1 h2 h3 h4 h5
  repeat' (first | (with_reducible first | (refine hK _ _ _ ?_; clear hK K) | (refine hB ?_; clear hA hB A B) | refine Z1 ?_ | refine Z2 ?_ | refine Z3 fun KB hKB => ?_ | refine Z5 (by omega) ?_) | (first | (with_reducible first | refine Y2 fun K hK => ?_ | refine Y3 fun A B hA hB => ?_) | (refine a_spec_DrawTlmPlay hl (fun c es hb hf hp hlen => ?_)) | (refine htn ?_) | (refine htr (by assumption) (by assumption) (by omega) (by assumption) ?_)) <;> (simp only [go_sem]) | fail)
  (have hKX := hKB; clear hKB)
  have hs := plays_end hb (st0_ok c) hp
  have hal := hs.askedL
  have har := hs.askedR
  obtain ⟨hp3, hp12⟩ := busOk_prog hb
  generalize runM c st0 es = s at *
  obtain ⟨w, hw⟩ : ∃ w : Nat, w = l.length % 3 := ⟨_, rfl⟩
  have hw3 : w < 3 := by omega
  have hwe : (l.length : Int).tmod 3 = (w : Int) := by rw [Int.tmod_eq_emod_of_nonneg (by omega)]; omega
  refine AWPL.loopP 0 (β := Nat) (fun b k => en [(8, dI k), (7, dI w), (5, .one (.c (.iptr (eSt s)))), (3, .one (.c (.iptr (eCfg c))))]) (fun b k => .nil) (fun k => 1 ≤ k ∧ k ≤ 3) (fun k => 3 - k) 1 (cv_nilT (Nat.le_refl _) (by rw [hwe]; repeat' (first | (with_reducible first | exact C1 | refine C2 ?_ ?_) | ((with_reducible refine D0 ?_); first | exact CA rfl | exact CI rfl (by simp) rfl rfl rfl) | fail))) ⟨by omega, by omega⟩ ?_
  rintro k ⟨hk1, hk3⟩ KL hKL
  by_cases hlt : k < 3
  · obtain ⟨q, hq⟩ : ∃ q : Nat, q = (w + k) % 3 := ⟨_, rfl⟩
    have hq3 : q < 3 := by omega
    have hqw : ¬ (q : Int) = w := by omega
    have hqe : ((w : Int) + k).tmod 3 = (q : Int) := by rw [Int.tmod_eq_emod_of_nonneg (by omega)]; omega
    have haq := har q hq3
    by_cases hy : whyM c s ⟨1, q, s.asked.getD q default⟩ = 0
    · have hsy := step_ok hb hs hy
      have hsam := sam_other (k := (w : Int)) hs hy (by omega) hqw
      generalize hye : stepM c s ⟨1, q, s.asked.getD q default⟩ = y at *
      repeat' (first | (with_reducible first | (refine hK _ _ _ ?_; clear hK K) | (refine hA ?_; clear hA hB A B) | (refine hB ?_; clear hA hB A B) | refine Z1 ?_ | refine Z2 ?_ | refine Z3 fun KB hKB => ?_ | refine Z4 (by omega) ?_) | (first | (with_reducible first | refine Y2 fun K hK => ?_ | refine Y3 fun A B hA hB => ?_) | (refine a_impl_TlmStepE hb hf hs ?_)) <;> (simp only [go_sem, hqe, hye, eq_true hy]; try simp (disch := omega) only [Iw]) | refine ⟨by omega, ?_⟩ | fail)
      (have hKY := hKB; clear hKB)
      refine AWPL.loopP 0 (β := Nat) (fun b kd => en [(12, dI kd), (10, .one (.c (.iptr (eSt y)))), (8, dI k), (7, dI w), (5, .one (.c (.iptr (eSt s)))), (3, .one (.c (.iptr (eCfg c))))]) (fun b kd => .nil) (fun kd => 1 ≤ kd ∧ kd ≤ 4) (fun kd => 4 - kd) 1 (cv_nilT (Nat.le_refl _) (by repeat' (first | (with_reducible first | exact C1 | refine C2 ?_ ?_) | ((with_reducible refine D0 ?_); first | exact CA rfl | exact CI rfl (by simp) rfl rfl rfl) | fail))) ⟨by omega, by omega⟩ ?_
      rintro kd ⟨hkd1, hkd4⟩ KM hKM
      by_cases hkl : kd < 4
      · repeat' (first | (with_reducible first | (refine hK _ _ _ ?_; clear hK K) | (refine hA ?_; clear hA hB A B) | refine Z1 ?_ | refine Z2 ?_ | refine Z3 fun KB hKB => ?_ | refine Z4 (by omega) ?_) | (with_reducible first | refine Y2 fun K hK => ?_ | refine Y3 fun A B hA hB => ?_) <;> (simp only [go_sem]) | fail)
        (have hKZ := hKB; clear hKB)
        have hpw := hp12 w
        have hcp := hf.prog
        refine AWPL.loopP 0 (β := Nat) (fun b j => en [(13, dI j), (12, dI kd), (10, .one (.c (.iptr (eSt y)))), (8, dI k), (7, dI w), (5, .one (.c (.iptr (eSt s)))), (3, .one (.c (.iptr (eCfg c))))]) (fun b j => .nil) (fun j => j ≤ (c.progs.getD w default).length) (fun j => (c.progs.getD w default).length - j) 0 (cv_nilT (Nat.le_refl _) (by repeat' (first | (with_reducible first | exact C1 | refine C2 ?_ ?_) | ((with_reducible refine D0 ?_); exact CA rfl) | fail))) (by omega) ?_
        intro j hj KN hKN
        by_cases hjl : j < (c.progs.getD w default).length
        · have hsj : whyM c y ⟨kd, w, j⟩ = whyM c s ⟨kd, w, j⟩ := whyM_sam hsam
          by_cases hwj : whyM c s ⟨kd, w, j⟩ = 0
          · repeat' (first | (with_reducible first | (refine hK _ _ _ ?_; clear hK K) | (refine hA ?_; clear hA hB A B) | (refine hB ?_; clear hA hB A B) | refine Z1 ?_ | refine Z2 ?_ | refine Z3 fun KB hKB => ?_ | refine Z4 (by omega) ?_) | (first | (with_reducible first | refine Y2 fun K hK => ?_ | refine Y3 fun A B hA hB => ?_) | (refine a_impl_TlmStepE (s := s) hb hf hs ?_) | (refine a_impl_TlmStepE (s := y) hb hf hsy ?_)) <;> (simp only [go_sem, hsj, eq_true hwj]; try simp (disch := omega) only [Iw]) | ((with_reducible refine Y8 ?_); try simp only [AQ.then, AQ.blk, reduceIte, Nat.reduceEqDiff]) | ((with_reducible refine Y0 ?_); simp only [AQ.then, AQ.blk]) | ((with_reducible refine Z8 (fun h => ?_) (fun h => ?_)) <;> try subst h) | refine ⟨by omega, ?_⟩ | (with_reducible refine hKB _ _ _ ?_) | fail)
            · exfalso; rename_i h; simp at h
            · exact hKN _ _ _ (j + 1) (by omega) (cv_nilT (by omega) (by repeat' (first | (with_reducible first | exact C1 | refine C2 ?_ ?_) | ((with_reducible refine D0 ?_); exact CA rfl) | fail))) (by omega) (by omega)
          · repeat' (first | (with_reducible first | (refine hK _ _ _ ?_; clear hK K) | (refine hA ?_; clear hA hB A B) | (refine hB ?_; clear hA hB A B) | refine Z1 ?_ | refine Z2 ?_ | refine Z3 fun KB hKB => ?_ | refine Z4 (by omega) ?_) | (first | (with_reducible first | refine Y2 fun K hK => ?_ | refine Y3 fun A B hA hB => ?_) | (refine a_impl_TlmStepE (s := s) hb hf hs ?_) | (refine a_impl_TlmStepE (s := y) hb hf hsy ?_)) <;> (simp only [go_sem, hsj, eq_false hwj]; try simp (disch := omega) only [Iw]) | ((with_reducible refine Y8 ?_); try simp only [AQ.then, AQ.blk, reduceIte, Nat.reduceEqDiff]) | ((with_reducible refine Y0 ?_); simp only [AQ.then, AQ.blk]) | ((with_reducible refine Z8 (fun h => ?_) (fun h => ?_)) <;> try subst h) | refine ⟨by omega, ?_⟩ | (with_reducible refine hKB _ _ _ ?_) | fail)
            · exfalso; rename_i h; simp at h
            · exact hKN _ _ _ (j + 1) (by omega) (cv_nilT (by omega) (by repeat' (first | (with_reducible first | exact C1 | refine C2 ?_ ?_) | ((with_reducible refine D0 ?_); exact CA rfl) | fail))) (by omega) (by omega)
        · repeat' (first | (with_reducible first | (refine hK _ _ _ ?_; clear hK K) | (refine hB ?_; clear hA hB A B) | refine Z1 ?_ | refine Z5 (by omega) ?_ | refine hKZ _ _ _ ?_) | (with_reducible first | refine Y2 fun K hK => ?_ | refine Y3 fun A B hA hB => ?_) <;> (simp only [go_sem]; try simp (disch := omega) only [Iw]) | ((with_reducible refine Y9 ?_); try simp only [AQ.then, AQ.blk, reduceIte, Nat.reduceEqDiff]) | ((with_reducible refine Y0 ?_); simp only [AQ.then, AQ.blk]) | refine ⟨by omega, ?_⟩ | (with_reducible refine hKB _ _ _ ?_) | fail)
          exact hKM _ _ _ (kd + 1) (by omega) (cv_nilT (by omega) (by repeat' (first | (with_reducible first | exact C1 | refine C2 ?_ ?_) | ((with_reducible refine D0 ?_); exact CA rfl) | fail))) ⟨by omega, by omega⟩ (by omega)
      · repeat' (first | (with_reducible first | (refine hK _ _ _ ?_; clear hK K) | (refine hB ?_; clear hA hB A B) | refine Z1 ?_ | refine Z5 (by omega) ?_ | refine hKY _ _ _ ?_) | (with_reducible first | refine Y2 fun K hK => ?_ | refine Y3 fun A B hA hB => ?_) <;> (simp only [go_sem]; try simp (disch := omega) only [Iw]) | ((with_reducible refine Y9 ?_); try simp only [AQ.then, AQ.blk, reduceIte, Nat.reduceEqDiff]) | ((with_reducible refine Y0 ?_); simp only [AQ.then, AQ.blk]) | (with_reducible refine hKB _ _ _ ?_) | fail)
        exact hKL _ _ _ (k + 1) (by omega) (cv_nilT (by omega) (by repeat' (first | (with_reducible first | exact C1 | refine C2 ?_ ?_) | ((with_reducible refine D0 ?_); exact CA rfl) | fail))) ⟨by omega, by omega⟩ (by omega)
    · repeat' (first | (with_reducible first | (refine hK _ _ _ ?_; clear hK K) | (refine hA ?_; clear hA hB A B) | refine Z1 ?_ | refine Z2 ?_ | refine Z3 fun KB hKB => ?_ | refine Z4 (by omega) ?_) | (first | (with_reducible first | refine Y2 fun K hK => ?_ | refine Y3 fun A B hA hB => ?_) | (refine a_impl_TlmStepE hb hf hs ?_)) <;> (simp only [go_sem, hqe, eq_false hy]; try simp (disch := omega) only [Iw]) | ((with_reducible refine Y9 ?_); try simp only [AQ.then, AQ.blk, reduceIte, Nat.reduceEqDiff]) | ((with_reducible refine Y0 ?_); simp only [AQ.then, AQ.blk]) | refine ⟨by omega, ?_⟩ | (with_reducible refine hKB _ _ _ ?_) | fail)
      exact hKL _ _ _ (k + 1) (by omega) (cv_nilT (by omega) (by repeat' (first | (with_reducible first | exact C1 | refine C2 ?_ ?_) | ((with_reducible refine D0 ?_); exact CA rfl) | fail))) ⟨by omega, by omega⟩ (by omega)
  · repeat' (first | (with_reducible first | (refine hK _ _ _ ?_; clear hK K) | (refine hB ?_; clear hA hB A B) | refine Z1 ?_ | refine Z5 (by omega) ?_ | refine hKX _ _ _ ?_) | (first | (with_reducible first | refine Y2 fun K hK => ?_ | refine Y3 fun A B hA hB => ?_) | (with_reducible refine a_laws_crOk ?_)) <;> (simp only [go_sem]) | ((with_reducible first | refine Y8 ?_ | refine Y9 ?_); try simp only [AQ.then, AQ.blk, reduceIte, Nat.reduceEqDiff]) | fail)
    exact exitP hQ (dB true) rfl rfl rfl
end
end Go.Proofs.YtiimjokpcbapeaaGreat
