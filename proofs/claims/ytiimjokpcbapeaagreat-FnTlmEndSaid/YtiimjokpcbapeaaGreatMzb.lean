/- What is asked comes to its end: a plain law. -/
import Derived.Test.YtiimjokpcbapeaaGreatMw
set_option linter.unusedVariables false
set_option linter.unusedSimpArgs false
set_option linter.unusedSectionVars false
namespace Go.AM
theorem end_meas {c : Cfg} {s : TSt} {e : Ev} (h : whyM c s e = 0) (hk : e.kind = 2 ∨ e.kind = 3) : 2 * (stepM c s e).wait.length + (stepM c s e).done.length + 1 = 2 * s.wait.length + s.done.length := by
  obtain ⟨_, hcase⟩ := whyM_zero h
  rcases hcase with ⟨hk1, _⟩ | ⟨hk2, hi⟩ | ⟨hk3, hi⟩
  · omega
  · rw [step_do hk2]
    have := (outJ_perm (idxM_at_key hi).1).length_eq
    dsimp only; rw [putJ_len]; rw [List.length_cons] at this; omega
  · rw [step_tell hk3]
    have := (outJ_perm (idxM_at_key hi).1).length_eq
    dsimp only; rw [List.length_cons] at this; omega
theorem idx_head {l : List Job} {j : Job} : ¬ idxM (isJob j.who j.n) (j :: l) < 0 := by
  have : 0 ≤ idxM (isJob j.who j.n) (j :: l) := idxM_nonneg.2 ⟨j, by simp, by simp [isJob]⟩
  omega
theorem ahead_head {c : Cfg} {kd : Int} {l : List Job} {j : Job} (h : Sorted (j :: l)) : ¬ 0 ≤ idxM (aheadJ c ⟨kd, j.who, j.n⟩) (j :: l) := by
  rw [idxM_nonneg]
  rintro ⟨x, hx, hp⟩
  simp only [aheadJ, decide_eq_true_eq] at hp
  rcases List.mem_cons.1 hx with rfl | hx
  · omega
  · have := (List.pairwise_cons.1 h).1 x hx
    rw [befJ_iff] at this
    omega
theorem end_some {c : Cfg} {s : TSt} (hs : StOk c s) (h : 0 < s.wait.length + s.done.length) : ∃ i, i < (s.wait ++ s.done).length ∧ ∃ kd : Int, (kd = 2 ∨ kd = 3) ∧ whyM c s ⟨kd, ((s.wait ++ s.done).getD i default).who, ((s.wait ++ s.done).getD i default).n⟩ = 0 := by
  refine ⟨0, by simp; omega, ?_⟩
  have hm := fun {j : Job} (hj : j ∈ s.wait ++ s.done ++ s.told) => hs.mem hj
  have h1 := hs.waitS
  have h2 := hs.doneS
  cases hw : s.wait with
  | cons j l =>
    rw [hw] at h1
    have ha := hm (j := j) (by simp [hw])
    refine ⟨2, .inl rfl, ?_⟩
    simp only [List.cons_append, List.getD_cons_zero]
    unfold whyM
    simp only [ha, true_and]
    rw [if_neg (by decide), if_neg (by decide)]
    simp only [if_true]
    rw [hw, if_neg idx_head, if_neg (ahead_head h1)]
  | nil =>
    cases hd : s.done with
    | nil => simp [hw, hd] at h
    | cons j l =>
      rw [hd] at h2
      have ha := hm (j := j) (by simp [hd])
      refine ⟨3, .inr rfl, ?_⟩
      simp only [List.nil_append, List.getD_cons_zero]
      unfold whyM
      simp only [ha, true_and]
      rw [if_neg (by decide), if_neg (by decide), if_neg (by decide), hw, hd, if_neg idx_head, if_neg]
      rintro (hx | hx)
      · rw [idxM_nonneg] at hx; obtain ⟨x, hx, _⟩ := hx; cases hx
      · exact ahead_head h2 hx
end Go.AM
