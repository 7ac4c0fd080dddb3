/- One behind the other: plain laws. -/
import Derived.Test.YtiimjokpcbapeaaGreatMx
set_option linter.unusedVariables false
set_option linter.unusedSimpArgs false
set_option linter.unusedSectionVars false
namespace Go.AM
def mineJ (l : List Job) (who : Int) : List Job := l.filter fun e => decide (e.who = who)
theorem take_snocJ {l : List Job} {k : Nat} (h : k < l.length) : l.take (k + 1) = l.take k ++ [l.getD k default] := take_snoc h
theorem mineJ_yes {l : List Job} {who : Int} {k : Nat} (hk : k < l.length) (h : (l.getD k default).who = who) : mineJ (l.take (k + 1)) who = mineJ (l.take k) who ++ [l.getD k default] := by
  rw [take_snocJ hk]; simp only [mineJ, List.filter_append, List.filter_cons, h, decide_true, if_true, List.filter_nil]
theorem mineJ_no {l : List Job} {who : Int} {k : Nat} (hk : k < l.length) (h : ¬ (l.getD k default).who = who) : mineJ (l.take (k + 1)) who = mineJ (l.take k) who := by
  rw [take_snocJ hk]; simp only [mineJ, List.filter_append, List.filter_cons, decide_eq_false h, Bool.false_eq_true, if_false, List.filter_nil, List.append_nil]
theorem mineJ_len {l : List Job} {who : Int} : (mineJ l who).length ≤ l.length := List.length_filter_le _ _
theorem mineJ_sub {l : List Job} {who : Int} : ∀ j ∈ mineJ l who, j ∈ l := fun _ h => (List.mem_filter.1 h).1
def tellE (l : List Ev) : List Ev := l.filter fun e => decide (e.kind = 3)
theorem told_mine {c : Cfg} {es : List Ev} {w : Int} (h : Plays c st0 es) : (mineJ (runM c st0 es).told w).map key = (tellE (mineE es w)).map fun e => (e.who, e.n) := by
  have h1 := told_keys h _ (Nat.le_refl _)
  rw [List.take_length] at h1
  have h2 := congrArg (List.filter fun p : Int × Int => decide (p.1 = w)) h1
  rw [List.filter_map, List.filter_map] at h2
  have e1 : ((fun p : Int × Int => decide (p.1 = w)) ∘ key) = fun j : Job => decide (j.who = w) := rfl
  have e2 : ((fun p : Int × Int => decide (p.1 = w)) ∘ fun e : Ev => (e.who, e.n)) = fun e : Ev => decide (e.who = w) := rfl
  rw [e1, e2, List.filter_filter] at h2
  unfold mineJ tellE mineE
  rw [h2, List.filter_filter]
  congr 1
  congr 1
  funext e
  rw [Bool.and_comm]
def lineM (es : List Ev) (k : Nat) : List Ev := (List.range k).flatMap fun i : Nat => mineE es (i : Int)
theorem line_succ {es : List Ev} {k : Nat} : lineM es (k + 1) = lineM es k ++ mineE es (k : Int) := by
  simp [lineM, List.range_succ, List.flatMap_append]
theorem mine_line {es : List Ev} {w : Int} : ∀ k : Nat, mineE (lineM es k) w = if 0 ≤ w ∧ w < k then mineE es w else []
  | 0 => by rw [if_neg (by omega)]; rfl
  | k + 1 => by
    rw [line_succ, mine_app, mine_line k]
    by_cases h : w = k
    · subst h
      rw [if_neg (by omega), if_pos (by omega), List.nil_append]
      exact List.filter_eq_self.2 fun e he => by simp [mine_mem e he]
    · rw [mine_other h, List.append_nil]
      by_cases h2 : 0 ≤ w ∧ w < k
      · rw [if_pos h2, if_pos (by omega)]
      · rw [if_neg h2, if_neg (by omega)]
theorem line_mem {es : List Ev} {k : Nat} : ∀ e ∈ lineM es k, 0 ≤ e.who := fun e he => by
  obtain ⟨i, hi, h2⟩ := List.mem_flatMap.1 he
  have := mine_mem e h2
  omega
theorem line_le {es : List Ev} : ∀ k : Nat, (lineM es k).length ≤ k * es.length
  | 0 => by simp [lineM]
  | k + 1 => by
    rw [line_succ, List.length_append, Nat.succ_mul]
    have := line_le (es := es) k; have := mine_len (l := es) (who := (k : Int)); omega
theorem three_len {es : List Ev} (h : ∀ e ∈ es, 0 ≤ e.who ∧ e.who ≤ 2) : (mineE es 0).length + (mineE es 1).length + (mineE es 2).length = es.length := by
  induction es with
  | nil => rfl
  | cons e l ih =>
    have i1 := ih fun x hx => h x (List.mem_cons_of_mem _ hx)
    have h1 := h e (List.mem_cons_self ..)
    unfold mineE at *
    simp only [List.filter_cons, List.length_cons]
    rcases (show e.who = 0 ∨ e.who = 1 ∨ e.who = 2 by omega) with h2 | h2 | h2 <;> simp [h2] <;> omega
theorem plays_who {c : Cfg} {s : TSt} {es : List Ev} (h : Plays c s es) : ∀ e ∈ es, 0 ≤ e.who ∧ e.who ≤ 2 := fun e he => by
  obtain ⟨k, hk, rfl⟩ := List.mem_iff_getElem.1 he
  have := (whyM_zero (h k hk)).1.1
  simpa [List.getD, hk] using this
theorem line_len {c : Cfg} {s : TSt} {es : List Ev} (h : Plays c s es) : (lineM es 3).length = es.length := by
  rw [← three_len (plays_who h)]
  simp [line_succ, lineM, List.range_succ]
  omega
theorem line_plays {c : Cfg} {es : List Ev} (hb : BusOkP c) (h : Plays c st0 es) : Plays c st0 (lineM es 3) := by
  have := weave_plays hb (l := lineM es 3) line_mem (fun w hw => by
    rw [mine_line]
    split
    · exact (proj_end hb h hw).1
    · exact plays_nil) _ (Nat.le_refl _)
  rwa [List.take_length] at this
theorem line_asked {c : Cfg} {es : List Ev} {w : Nat} (hb : BusOkP c) (h : Plays c st0 es) (hw : w < 3) : (runM c st0 (lineM es 3)).asked.getD w default = (runM c st0 es).asked.getD w default := by
  have h1 := (proj_end hb (line_plays hb h) (w := w) (by omega)).2.asked
  have h2 := (proj_end hb h (w := w) (by omega)).2.asked
  rw [mine_line, if_pos (by omega)] at h1
  simp only [Int.toNat_natCast] at h1 h2
  rw [← h1, ← h2]
theorem line_told {c : Cfg} {es : List Ev} {w : Nat} (hb : BusOkP c) (h : Plays c st0 es) (hw : w < 3) : (mineJ (runM c st0 (lineM es 3)).told w).map key = (mineJ (runM c st0 es).told w).map key := by
  rw [told_mine (line_plays hb h), told_mine h, mine_line, if_pos (by omega)]
theorem keys_at {a b : List Job} (h : a.map key = b.map key) : a.length = b.length ∧ ∀ j, (a.getD j default).n = (b.getD j default).n := by
  have hl : a.length = b.length := by simpa using congrArg List.length h
  refine ⟨hl, fun j => ?_⟩
  by_cases hj : j < a.length
  · have h1 := congrArg (fun l => l[j]?) h
    simp only [List.getElem?_map, List.getElem?_eq_getElem hj, List.getElem?_eq_getElem (show j < b.length by omega), Option.map_some, Option.some.injEq, key, Prod.mk.injEq] at h1
    simp [List.getD, hj, show j < b.length by omega, h1.2]
  · simp [List.getD, List.getElem?_eq_none (show a.length ≤ j by omega), List.getElem?_eq_none (show b.length ≤ j by omega)]
end Go.AM
