/- Turned about, time and again, all comes to the same: a plain law. -/
import Derived.Test.YtiimjokpcbapeaaGreatMzc
set_option linter.unusedVariables false
set_option linter.unusedSimpArgs false
set_option linter.unusedSectionVars false
namespace Go.AM
theorem runM_cons {c : Cfg} {s : TSt} {e : Ev} {l : List Ev} : runM c s (e :: l) = runM c (stepM c s e) l := rfl
theorem runM_app {c : Cfg} {s : TSt} {a b : List Ev} : runM c s (a ++ b) = runM c (runM c s a) b := by simp [runM]
theorem plays_cons {c : Cfg} {s : TSt} {e : Ev} {l : List Ev} : Plays c s (e :: l) ↔ whyM c s e = 0 ∧ Plays c (stepM c s e) l := by
  constructor
  · intro h
    refine ⟨h 0 (by simp), fun k hk => ?_⟩
    have := h (k + 1) (by simpa using hk)
    rwa [List.take_succ_cons, runM_cons, List.getD_cons_succ] at this
  · rintro ⟨h1, h2⟩ k hk
    match k with
    | 0 => exact h1
    | k + 1 =>
      rw [List.take_succ_cons, runM_cons, List.getD_cons_succ]
      exact h2 k (by simpa using hk)
theorem plays_app {c : Cfg} {s : TSt} {a b : List Ev} : Plays c s (a ++ b) ↔ Plays c s a ∧ Plays c (runM c s a) b := by
  induction a generalizing s with
  | nil => simp [runM, plays_nil]
  | cons e a ih => rw [List.cons_append, plays_cons, plays_cons, ih, runM_cons, and_assoc]
inductive Swaps (c : Cfg) (l : List Ev) : List Ev → Prop where
  | refl : Swaps c l l
  | step {pre post : List Ev} {a b : Ev} (h : Swaps c l (pre ++ a :: b :: post)) (ha : apartE c a b) : Swaps c l (pre ++ b :: a :: post)
theorem swaps_plays {c : Cfg} {l l' : List Ev} (hb : BusOkP c) (h : Swaps c l l') (hp : Plays c st0 l) : Plays c st0 l' ∧ runM c st0 l' = runM c st0 l := by
  induction h with
  | refl => exact ⟨hp, rfl⟩
  | @step pre post a b h ha ih =>
    obtain ⟨h1, h2⟩ := ih
    rw [plays_app] at h1
    obtain ⟨p1, p2⟩ := h1
    rw [plays_cons, plays_cons] at p2
    obtain ⟨w1, w2, p3⟩ := p2
    have hs := plays_end hb (st0_ok c) p1
    obtain ⟨g1, g2, g3⟩ := swap_step hb hs w1 w2 ha
    refine ⟨?_, ?_⟩
    · rw [plays_app, plays_cons, plays_cons]
      exact ⟨p1, g1, g2, by rw [g3]; exact p3⟩
    · rw [← h2, runM_app, runM_app, runM_cons, runM_cons, runM_cons, runM_cons, g3]
theorem swaps_perm {c : Cfg} {l l' : List Ev} (h : Swaps c l l') : l'.Perm l := by
  induction h with
  | refl => exact .refl _
  | step h ha ih => exact (List.Perm.append_left _ (List.Perm.swap _ _ _)).trans ih
/-- One is ahead of another. -/
def Bef (l : List Ev) (f e : Ev) : Prop := ∃ i j : Nat, i < j ∧ l[i]? = some f ∧ l[j]? = some e
theorem bef_asym {l : List Ev} (hn : l.Nodup) {f e : Ev} (h : Bef l f e) : ¬ Bef l e f := by
  rintro ⟨i, j, h1, h2, h3⟩
  obtain ⟨p, q, k1, k2, k3⟩ := h
  have inj : ∀ {i j : Nat} {x : Ev}, l[i]? = some x → l[j]? = some x → i = j := fun {i j x} hi hj => by
    obtain ⟨hi1, hi2⟩ := List.getElem?_eq_some_iff.1 hi
    obtain ⟨hj1, hj2⟩ := List.getElem?_eq_some_iff.1 hj
    exact (List.getElem_inj hn).1 (hi2.trans hj2.symm)
  have := inj h2 k3
  have := inj h3 k2
  omega
theorem swaps_order {c : Cfg} {l l' : List Ev} (hn : l.Nodup) (h : Swaps c l l') : l'.Pairwise fun x y => ¬ (Bef l y x ∧ ¬ apartE c y x) := by
  induction h with
  | refl =>
    rw [List.pairwise_iff_getElem]
    rintro i j hi hj hij ⟨h1, _⟩
    exact bef_asym hn h1 ⟨i, j, hij, List.getElem?_eq_getElem hi, List.getElem?_eq_getElem hj⟩
  | @step pre post a b h ha ih =>
    rw [List.pairwise_append] at ih ⊢
    obtain ⟨h1, h2, h3⟩ := ih
    rw [List.pairwise_cons, List.pairwise_cons] at h2
    obtain ⟨h4, h5, h6⟩ := h2
    refine ⟨h1, ?_, fun x hx y hy => h3 x hx y (by simp only [List.mem_cons] at hy ⊢; rcases hy with h | h | h <;> simp [h])⟩
    rw [List.pairwise_cons, List.pairwise_cons]
    refine ⟨fun y hy => ?_, fun y hy => h4 y (by simp [hy]), h6⟩
    rcases List.mem_cons.1 hy with rfl | hy
    · exact fun hx => hx.2 ha
    · exact h5 y hy
end Go.AM
