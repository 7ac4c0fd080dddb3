/- What may happen of one does not hang on others: plain laws. -/
import Derived.Test.YtiimjokpcbapeaaGreatMw
set_option linter.unusedVariables false
set_option linter.unusedSimpArgs false
set_option linter.unusedSectionVars false
namespace Go.AM
def mineE (l : List Ev) (who : Int) : List Ev := l.filter fun e => decide (e.who = who)
theorem mine_yes {l : List Ev} {who : Int} {k : Nat} (hk : k < l.length) (h : (l.getD k default).who = who) : mineE (l.take (k + 1)) who = mineE (l.take k) who ++ [l.getD k default] := by
  rw [take_snocE hk]; simp only [mineE, List.filter_append, List.filter_cons, h, decide_true, if_true, List.filter_nil]
theorem mine_no {l : List Ev} {who : Int} {k : Nat} (hk : k < l.length) (h : ¬ (l.getD k default).who = who) : mineE (l.take (k + 1)) who = mineE (l.take k) who := by
  rw [take_snocE hk]; simp only [mineE, List.filter_append, List.filter_cons, decide_eq_false h, Bool.false_eq_true, if_false, List.filter_nil, List.append_nil]
theorem mine_len {l : List Ev} {who : Int} : (mineE l who).length ≤ l.length := List.length_filter_le _ _
theorem idx_lt {l : List Job} {who n : Int} : idxM (isJob who n) l < 0 ↔ (who, n) ∉ l.map key :=
  ⟨idxM_in, fun h => Classical.byContradiction fun hc => by
    obtain ⟨h1, h2⟩ := idxM_at_key hc
    exact h (h2 ▸ List.mem_map_of_mem (getD_mem h1))⟩
theorem idx_ahead {c : Cfg} {e : Ev} {l : List Job} : 0 ≤ idxM (aheadJ c e) l ↔ ∃ n, (e.who, n) ∈ l.map key ∧ n < e.n ∧ (reqAt c e.who n).id = (reqAt c e.who e.n).id := by
  rw [idxM_nonneg]
  constructor
  · rintro ⟨x, hx, hp⟩
    simp only [aheadJ, decide_eq_true_eq] at hp
    obtain ⟨⟨h1, h2⟩, h3⟩ := hp
    exact ⟨x.n, List.mem_map.2 ⟨x, hx, by simp [key, h1]⟩, h2, by rw [← h1] at h3 ⊢; exact h3⟩
  · rintro ⟨n, hn, h2, h3⟩
    obtain ⟨x, hx, he⟩ := List.mem_map.1 hn
    simp only [key, Prod.mk.injEq] at he
    refine ⟨x, hx, ?_⟩
    simp only [aheadJ, decide_eq_true_eq, he.1, he.2]
    exact ⟨⟨trivial, h2⟩, h3⟩
/-- Two ways a bus may stand, the same for one who asks. -/
structure Sam (k : Int) (s s' : TSt) : Prop where
  asked : s'.asked.getD k.toNat default = s.asked.getD k.toNat default
  wait : ∀ n, (k, n) ∈ s'.wait.map key ↔ (k, n) ∈ s.wait.map key
  done : ∀ n, (k, n) ∈ s'.done.map key ↔ (k, n) ∈ s.done.map key
theorem Sam.refl {k : Int} {s : TSt} : Sam k s s := ⟨rfl, fun _ => .rfl, fun _ => .rfl⟩
theorem Sam.symm {k : Int} {s s' : TSt} (h : Sam k s s') : Sam k s' s := ⟨h.asked.symm, fun n => (h.wait n).symm, fun n => (h.done n).symm⟩
theorem Sam.trans {k : Int} {s s' s2 : TSt} (h : Sam k s s') (h2 : Sam k s' s2) : Sam k s s2 := ⟨h2.asked.trans h.asked, fun n => (h2.wait n).trans (h.wait n), fun n => (h2.done n).trans (h.done n)⟩
theorem whyM_sam {c : Cfg} {s s' : TSt} {e : Ev} (h : Sam e.who s s') : whyM c s' e = whyM c s e := by
  have a1 : idxM (isJob e.who e.n) s'.wait < 0 ↔ idxM (isJob e.who e.n) s.wait < 0 := by rw [idx_lt, idx_lt, h.wait]
  have a2 : idxM (isJob e.who e.n) s'.done < 0 ↔ idxM (isJob e.who e.n) s.done < 0 := by rw [idx_lt, idx_lt, h.done]
  have a3 : 0 ≤ idxM (aheadJ c e) s'.wait ↔ 0 ≤ idxM (aheadJ c e) s.wait := by rw [idx_ahead, idx_ahead]; simp only [h.wait]
  have a4 : 0 ≤ idxM (aheadJ c e) s'.done ↔ 0 ≤ idxM (aheadJ c e) s.done := by rw [idx_ahead, idx_ahead]; simp only [h.done]
  unfold whyM
  simp only [h.asked, a1, a2, a3, a4]
theorem put_key {l : List Job} {j : Job} {p : Int × Int} : p ∈ (putJ l j).map key ↔ p = key j ∨ p ∈ l.map key := by
  rw [((putJ_perm l j).map key).mem_iff]; simp only [List.map_cons, List.mem_cons]
theorem out_key {l : List Job} {k : Nat} {p : Int × Int} (hk : k < l.length) (hn : (l.map key).Nodup) : p ∈ (outJ l k).map key ↔ p ∈ l.map key ∧ p ≠ key (l.getD k default) := by
  have h1 := (outJ_perm hk).map key
  rw [h1.mem_iff]
  have h2 := h1.nodup_iff.1 hn
  simp only [List.map_cons, List.nodup_cons, List.mem_cons] at h2 ⊢
  constructor
  · intro h; exact ⟨.inr h, fun he => h2.1 (he ▸ h)⟩
  · rintro ⟨h3 | h3, h4⟩
    · exact absurd h3 h4
    · exact h3
theorem pair_ne {k w n m : Int} (h : w ≠ k) : ¬ (k, n) = (w, m) := fun he => h (by simp only [Prod.mk.injEq] at he; exact he.1.symm)
theorem sam_other {c : Cfg} {s : TSt} {e : Ev} {k : Int} (hs : StOk c s) (h : whyM c s e = 0) (hk0 : 0 ≤ k) (hne : e.who ≠ k) : Sam k s (stepM c s e) := by
  obtain ⟨hask, hcase⟩ := whyM_zero h
  obtain ⟨hwho, hn⟩ := hask
  obtain ⟨n1, n2, n3, n4, n5⟩ := nodup_parts hs.nodup
  rcases hcase with ⟨hk, hi⟩ | ⟨hk, hi⟩ | ⟨hk, hi⟩
  · rw [step_ask hk]
    refine ⟨?_, fun n => ?_, fun n => .rfl⟩
    · dsimp only; rw [getD_setI (by rw [hs.askedL]; omega), if_neg (by omega)]
    · rw [put_key]; simp only [key, pair_ne hne, false_or]
  · rw [step_do hk]
    obtain ⟨i1, i2⟩ := idxM_at_key hi
    refine ⟨rfl, fun n => ?_, fun n => ?_⟩
    · dsimp only; rw [out_key i1 n1, i2]; simp only [ne_eq, pair_ne hne, not_false_eq_true, and_true]
    · rw [put_key]; simp only [key, pair_ne hne, false_or]
  · rw [step_tell hk]
    obtain ⟨i1, i2⟩ := idxM_at_key hi
    refine ⟨rfl, fun n => .rfl, fun n => ?_⟩
    dsimp only; rw [out_key i1 n2, i2]; simp only [ne_eq, pair_ne hne, not_false_eq_true, and_true]
theorem sam_both {c : Cfg} {s s' : TSt} {e : Ev} (hs : StOk c s) (hs' : StOk c s') (h : whyM c s e = 0) (h' : whyM c s' e = 0) (hS : Sam e.who s s') : Sam e.who (stepM c s e) (stepM c s' e) := by
  obtain ⟨hask, hcase⟩ := whyM_zero h
  obtain ⟨-, hcase'⟩ := whyM_zero h'
  obtain ⟨hwho, hn⟩ := hask
  obtain ⟨n1, n2, n3, n4, n5⟩ := nodup_parts hs.nodup
  obtain ⟨m1, m2, m3, m4, m5⟩ := nodup_parts hs'.nodup
  rcases hcase with ⟨hk, hi⟩ | ⟨hk, hi⟩ | ⟨hk, hi⟩
  · rw [step_ask hk, step_ask hk]
    refine ⟨?_, fun n => ?_, fun n => hS.done n⟩
    · dsimp only; have a1 := hs.askedL; have a2 := hs'.askedL; rw [getD_setI (by omega), getD_setI (by omega), if_pos rfl, if_pos rfl]
    · rw [put_key, put_key, hS.wait]
  · have hi' : ¬ idxM (isJob e.who e.n) s'.wait < 0 := by rw [idx_lt] at hi ⊢; rw [hS.wait]; exact hi
    rw [step_do hk, step_do hk]
    obtain ⟨i1, i2⟩ := idxM_at_key hi
    obtain ⟨j1, j2⟩ := idxM_at_key hi'
    refine ⟨hS.asked, fun n => ?_, fun n => ?_⟩
    · dsimp only; rw [out_key i1 n1, out_key j1 m1, i2, j2, hS.wait]
    · rw [put_key, put_key, hS.done]; simp only [key]
  · have hi' : ¬ idxM (isJob e.who e.n) s'.done < 0 := by rw [idx_lt] at hi ⊢; rw [hS.done]; exact hi
    rw [step_tell hk, step_tell hk]
    obtain ⟨i1, i2⟩ := idxM_at_key hi
    obtain ⟨j1, j2⟩ := idxM_at_key hi'
    refine ⟨hS.asked, fun n => hS.wait n, fun n => ?_⟩
    dsimp only; rw [out_key i1 n2, out_key j1 m2, i2, j2, hS.done]
theorem proj_plays {c : Cfg} {es : List Ev} {w : Int} (hb : BusOkP c) (h : Plays c st0 es) (hw : 0 ≤ w) : ∀ k, k ≤ es.length →
    Plays c st0 (mineE (es.take k) w) ∧ Sam w (runM c st0 (es.take k)) (runM c st0 (mineE (es.take k) w)) := by
  intro k
  induction k with
  | zero => intro _; exact ⟨plays_nil, Sam.refl⟩
  | succ k ih =>
    intro hk
    obtain ⟨i1, i2⟩ := ih (by omega)
    have hs := plays_ok hb (st0_ok c) h k (by omega)
    have hw0 := h k (by omega)
    rw [runM_take (by omega)]
    by_cases he : (es.getD k default).who = w
    · rw [mine_yes (by omega) he]
      have hw1 : whyM c (runM c st0 (mineE (es.take k) w)) (es.getD k default) = 0 := by rw [whyM_sam (s := runM c st0 (es.take k)) (by rw [he]; exact i2)]; exact hw0
      refine ⟨plays_snoc i1 hw1, ?_⟩
      rw [runM_snoc]
      have := sam_both hs (plays_end hb (st0_ok c) i1) hw0 hw1 (by rw [he]; exact i2)
      rw [he] at this; exact this
    · rw [mine_no (by omega) he]
      exact ⟨i1, (sam_other hs hw0 hw he).symm.trans i2⟩
theorem proj_end {c : Cfg} {es : List Ev} {w : Int} (hb : BusOkP c) (h : Plays c st0 es) (hw : 0 ≤ w) : Plays c st0 (mineE es w) ∧ Sam w (runM c st0 es) (runM c st0 (mineE es w)) := by
  have := proj_plays hb h hw _ (Nat.le_refl _)
  rwa [List.take_length] at this
theorem mine_mem {l : List Ev} {w : Int} : ∀ e ∈ mineE l w, e.who = w := fun e he => by simpa using (List.mem_filter.1 he).2
theorem mine_other {l : List Ev} {w k : Int} (h : k ≠ w) : mineE (mineE l w) k = [] := by
  refine List.filter_eq_nil_iff.2 fun e he => ?_
  rw [mine_mem e he]; simp [Ne.symm h]
theorem st0_asked (k : Nat) : st0.asked.getD k default = 0 := by
  match k with
  | 0 => rfl
  | 1 => rfl
  | 2 => rfl
  | k + 3 => rfl
/-- Of one alone all that was asked is one's own. -/
theorem alone_count {c : Cfg} {es : List Ev} {w : Int} (hb : BusOkP c) (h : Plays c st0 es) (hw : 0 ≤ w ∧ w ≤ 2) :
    ((runM c st0 (mineE es w)).wait.length : Int) + (runM c st0 (mineE es w)).done.length + (runM c st0 (mineE es w)).told.length = (runM c st0 (mineE es w)).asked.getD w.toNat default := by
  obtain ⟨h1, -⟩ := proj_end hb h hw.1
  have hz : ∀ k : Int, 0 ≤ k → k ≠ w → (runM c st0 (mineE es w)).asked.getD k.toNat default = 0 := fun k hk hne => by
    obtain ⟨-, h3⟩ := proj_end hb h1 hk
    rw [mine_other hne] at h3
    rw [← h3.asked]; exact st0_asked _
  have hc := (plays_end hb (st0_ok c) h1).count
  rw [hc]
  have h0 := hz 0 (by omega); have h2 := hz 1 (by omega); have h3 := hz 2 (by omega)
  rcases (show w = 0 ∨ w = 1 ∨ w = 2 by omega) with rfl | rfl | rfl
  · have a := h2 (by omega); have b := h3 (by omega); simp only [Int.reduceToNat] at *; omega
  · have a := h0 (by omega); have b := h3 (by omega); simp only [Int.reduceToNat] at *; omega
  · have a := h0 (by omega); have b := h2 (by omega); simp only [Int.reduceToNat] at *; omega
theorem plays_left {c : Cfg} {s : TSt} {a b : List Ev} (h : Plays c s (a ++ b)) : Plays c s a := by
  intro k hk
  have := h k (by rw [List.length_append]; omega)
  rw [List.take_append_of_le_length (by omega)] at this
  simpa [List.getD, List.getElem?_append, hk] using this
theorem plays_last {c : Cfg} {s : TSt} {a : List Ev} {e : Ev} (h : Plays c s (a ++ [e])) : whyM c (runM c s a) e = 0 := by
  have := h a.length (by simp)
  simpa [List.getD] using this
theorem mine_app {a b : List Ev} {w : Int} : mineE (a ++ b) w = mineE a w ++ mineE b w := List.filter_append ..
/-- What may happen of each alone may happen, however it is mixed. -/
theorem weave_plays {c : Cfg} {l : List Ev} (hb : BusOkP c) (hw : ∀ e ∈ l, 0 ≤ e.who) (h : ∀ w, 0 ≤ w → Plays c st0 (mineE l w)) : ∀ k, k ≤ l.length → Plays c st0 (l.take k) := by
  intro k
  induction k with
  | zero => intro _; exact plays_nil
  | succ k ih =>
    intro hk
    have hp := ih (by omega)
    rw [take_snocE (by omega)]
    have hwk := hw _ (getD_mem (l := l) (k := k) (by omega))
    refine plays_snoc hp ?_
    obtain ⟨-, h3⟩ := proj_end hb hp hwk
    rw [← whyM_sam h3]
    have h4 := h _ hwk
    rw [← List.take_append_drop (k + 1) l, mine_app, mine_yes (by omega) (by rw [List.take_append_drop])] at h4
    rw [List.take_append_drop] at h4
    exact plays_last (plays_left h4)
/-- What was told, by name. -/
theorem told_keys {c : Cfg} {es : List Ev} (h : Plays c st0 es) : ∀ k, k ≤ es.length → (runM c st0 (es.take k)).told.map key = ((es.take k).filter fun e => decide (e.kind = 3)).map fun e => (e.who, e.n) := by
  intro k
  induction k with
  | zero => intro _; rfl
  | succ k ih =>
    intro hk
    have i1 := ih (by omega)
    have hw := h k (by omega)
    rw [runM_take (by omega), take_snocE (by omega)]
    generalize runM c st0 (es.take k) = s at *
    generalize es.getD k default = e at *
    obtain ⟨hask, hcase⟩ := whyM_zero hw
    rw [List.filter_append, List.map_append, ← i1]
    rcases hcase with ⟨hk, hi⟩ | ⟨hk, hi⟩ | ⟨hk, hi⟩
    · rw [step_ask hk]; simp [hk]
    · rw [step_do hk]; simp [hk]
    · rw [step_tell hk]
      have h2 := (idxM_at_key hi).2
      dsimp only
      rw [List.map_append]
      simp only [List.map_cons, List.map_nil, h2, List.filter_cons, hk, decide_true, if_true, List.filter_nil]
end Go.AM
