/- What came of all that was done, in the order in which it was done: a plain law. -/
import Derived.Test.YtiimjokpcbapeaaGreatMw
set_option linter.unusedVariables false
set_option linter.unusedSimpArgs false
set_option linter.unusedSectionVars false
namespace Go.AM
def doJ (c : Cfg) (s : TSt) (e : Ev) : Job := ⟨e.who, e.n, (doM c.map s.words s.holds e.who (reqAt c e.who e.n)).2⟩
def outM (c : Cfg) (es : List Ev) (k : Nat) : List Job := (List.range k).flatMap fun i => if (es.getD i default).kind = 2 then [doJ c (runM c st0 (es.take i)) (es.getD i default)] else []
theorem outM_succ {c : Cfg} {es : List Ev} {k : Nat} : outM c es (k + 1) = outM c es k ++ if (es.getD k default).kind = 2 then [doJ c (runM c st0 (es.take k)) (es.getD k default)] else [] := by
  simp [outM, List.range_succ]
theorem outM_yes {c : Cfg} {es : List Ev} {k : Nat} (h : (es.getD k default).kind = 2) : outM c es (k + 1) = outM c es k ++ [doJ c (runM c st0 (es.take k)) (es.getD k default)] := by rw [outM_succ, if_pos h]
theorem outM_no {c : Cfg} {es : List Ev} {k : Nat} (h : ¬ (es.getD k default).kind = 2) : outM c es (k + 1) = outM c es k := by rw [outM_succ, if_neg h, List.append_nil]
theorem outM_le {c : Cfg} {es : List Ev} : ∀ k, (outM c es k).length ≤ k := by
  intro k
  induction k with
  | zero => simp [outM]
  | succ k ih =>
    by_cases h : (es.getD k default).kind = 2
    · rw [outM_yes h]; simp; omega
    · rw [outM_no h]; omega
theorem out_perm {c : Cfg} {es : List Ev} (hp : Plays c st0 es) : ∀ k, k ≤ es.length → (outM c es k).Perm ((runM c st0 (es.take k)).done ++ (runM c st0 (es.take k)).told) := by
  intro k
  induction k with
  | zero => intro _; simp [outM, runM, st0]
  | succ k ih =>
    intro hk
    have h := ih (by omega)
    have hw := hp k (by omega)
    obtain ⟨_, hcase⟩ := whyM_zero hw
    rw [runM_take (by omega)]
    rcases hcase with ⟨hk1, _⟩ | ⟨hk2, hi⟩ | ⟨hk3, hi⟩
    · rw [outM_no (by omega), step_ask hk1]; exact h
    · rw [outM_yes hk2, step_do hk2]
      refine List.perm_append_comm.trans ?_
      refine (h.cons _).trans ?_
      exact ((putJ_perm _ _).append_right _).symm
    · rw [outM_no (by omega), step_tell hk3]
      obtain ⟨i1, _⟩ := idxM_at_key hi
      refine h.trans (((outJ_perm i1).append_right _).trans ?_)
      rw [List.cons_append, ← List.append_assoc]
      exact (List.perm_append_singleton _ _).symm
theorem at_step {c : Cfg} {s : TSt} {e : Ev} (h : whyM c s e = 0) : (stepM c s e).words = (if e.kind = 2 then (doM c.map s.words s.holds e.who (reqAt c e.who e.n)).1.1 else s.words) ∧ (stepM c s e).holds = (if e.kind = 2 then (doM c.map s.words s.holds e.who (reqAt c e.who e.n)).1.2 else s.holds) := by
  obtain ⟨_, hcase⟩ := whyM_zero h
  rcases hcase with ⟨hk1, _⟩ | ⟨hk2, hi⟩ | ⟨hk3, hi⟩
  · rw [step_ask hk1]; simp [hk1]
  · rw [step_do hk2]; simp [hk2]
  · rw [step_tell hk3]; simp [hk3]
theorem len_eq {c : Cfg} {es : List Ev} (hp : Plays c st0 es) : ∀ k, k ≤ es.length → k = (runM c st0 (es.take k)).wait.length + 2 * (runM c st0 (es.take k)).done.length + 3 * (runM c st0 (es.take k)).told.length := by
  intro k
  induction k with
  | zero => intro _; simp [runM, st0]
  | succ k ih =>
    intro hk
    have h := ih (by omega)
    have hw := hp k (by omega)
    obtain ⟨_, hcase⟩ := whyM_zero hw
    rw [runM_take (by omega)]
    rcases hcase with ⟨hk1, _⟩ | ⟨hk2, hi⟩ | ⟨hk3, hi⟩
    · rw [step_ask hk1]; dsimp only; rw [putJ_len]; omega
    · rw [step_do hk2]
      have := (outJ_perm (idxM_at_key hi).1).length_eq
      dsimp only; rw [putJ_len]; rw [List.length_cons] at this; omega
    · rw [step_tell hk3]
      have := (outJ_perm (idxM_at_key hi).1).length_eq
      dsimp only; rw [List.length_append, List.length_singleton]; rw [List.length_cons] at this; omega
theorem len_plays {c : Cfg} {es : List Ev} (hb : BusOkP c) (hp : Plays c st0 es) : es.length ≤ 108 := by
  have h := len_eq hp es.length (Nat.le_refl _)
  have hl := (plays_end hb (st0_ok c) hp).lens hb
  rw [List.take_length] at h
  omega
end Go.AM
