/- Texts of one part, laid together: each keeps its own remark. -/
import Derived.Test.YtiimjokpcbapeaaGreatEC
import Derived.Lib.Overlaps
set_option linter.unusedVariables false
set_option linter.unusedSimpArgs false
set_option linter.unusedSectionVars false
section
/- The engine, part Z: conditions as formulas, ends of functions, names anew: for walks by program. -/
namespace Go.AM
open Go.RowKit

def tD : D := .one (.c (.v (.bool true)))
def cK (A B : Prop) : D → Prop
  | .one (.c (.v (.bool t))) => (t = true → A) ∧ (t = false → B)
  | _ => False

section
variable {P : Program} {T : Nat} {b : Nat} {live : List Nat} {K : Env → Heap → Nat → Prop} {L : List AOper} {dst : Option Nat} {e : Env} {H : Heap} {nx : Nat} {S : Looks} {Q : AQ} {x y z : AC} {zs : List AC}

theorem AWPL.condK {c : Opnd} (h : ∀ A B : Prop, (AWPL P T (x :: zs) e H nx Q → A) → (AWPL P T (y :: zs) e H nx Q → B) → cK A B (c.ev e)) : AWPL P T (.cond c x y :: zs) e H nx Q := by
  have h := h _ _ id id
  unfold cK at h
  split at h
  · rename_i t ht
    exact AWPL.cond ht h.1 h.2
  · exact h.elim

theorem cK_t {A B : Prop} : cK A B (.one (.c (.v (.bool true)))) = A := by simp [cK]
theorem cK_f {A B : Prop} : cK A B (.one (.c (.v (.bool false)))) = B := by simp [cK]
theorem cK_b {A B : Prop} {t : Bool} (h1 : t = true → A) (h2 : t = false → B) : cK A B (.one (.c (.v (.bool t)))) := ⟨h1, h2⟩
theorem cK_dT {A B : Prop} {p : Prop} [Decidable p] (h : p) (h1 : A) : cK A B (.one (.c (.v (.bool (decide p))))) := ⟨fun _ => h1, fun h2 => by simp [h] at h2⟩
theorem cK_dF {A B : Prop} {p : Prop} [Decidable p] (h : ¬ p) (h1 : B) : cK A B (.one (.c (.v (.bool (decide p))))) := ⟨fun h2 => by simp [h] at h2, fun _ => h1⟩
theorem cK_d {A B : Prop} {p : Prop} [Decidable p] (h1 : p → A) (h2 : ¬ p → B) : cK A B (.one (.c (.v (.bool (decide p))))) := ⟨fun h => h1 (by simpa using h), fun h => h2 (by simpa using h)⟩

/-- A guard, by its slot. -/
def wvH (P : Program) (b : Nat) (live : List Nat) (K : Env → Heap → Nat → Prop) (o : AOper) (L : List AOper) (t : Nat) (w : Bool) (e : Env) (H : Heap) (nx : Nat) (S : Looks) : D → Prop
  | .one (.c (.v (.bool x))) => if x = w then wv P b live K (o :: L) (e.set t (.one (.c (.v (.bool x))))) H nx S else wv P b live K L ((e.set t (.one (.c (.v (.bool x))))).put o.dst (.tup [])) H nx S
  | .tup [] => wv P b live K L (e.put o.dst (.tup [])) H nx S
  | _ => False

theorem Env.set_same {e : Env} {t : Nat} {d : D} (h : e t = d) : e.set t d = e := by
  funext i; simp only [Env.set]; split
  · rename_i hi; rw [hi, h]
  · rfl

theorem wv_h {ix t : Nat} {w : Bool} {op : AOp} {m s : List Nat} {k : Bool} : wv P b live K (⟨ix, dst, op, some (t, w), m, s, k⟩ :: L) e H nx S = wvH P b live K ⟨ix, dst, op, none, m, s, k⟩ L t w e H nx S (e t) := by
  rw [wv_g]
  generalize he : e t = d
  by_cases hd : ∃ x, d = .one (.c (.v (.bool x)))
  · obtain ⟨x, rfl⟩ := hd
    simp only [wvG, wvH]
    rw [Env.set_same he]
  · by_cases hu : d = .tup []
    · subst hu; rfl
    · unfold wvG wvH
      split
      · exact absurd ⟨_, rfl⟩ hd
      · exact absurd rfl hu
      · split
        · exact absurd ⟨_, rfl⟩ hd
        · exact absurd rfl hu
        · rfl

theorem wvH_u {o : AOper} {t : Nat} {w : Bool} : wvH P b live K o L t w e H nx S (.tup []) = wv P b live K L (e.put o.dst (.tup [])) H nx S := rfl
theorem wvH_tt {o : AOper} {t : Nat} : wvH P b live K o L t true e H nx S (.one (.c (.v (.bool true)))) = wv P b live K (o :: L) (e.set t (.one (.c (.v (.bool true))))) H nx S := rfl
theorem wvH_tf {o : AOper} {t : Nat} : wvH P b live K o L t true e H nx S (.one (.c (.v (.bool false)))) = wv P b live K L ((e.set t (.one (.c (.v (.bool false))))).put o.dst (.tup [])) H nx S := rfl
theorem wvH_ft {o : AOper} {t : Nat} : wvH P b live K o L t false e H nx S (.one (.c (.v (.bool true)))) = wv P b live K L ((e.set t (.one (.c (.v (.bool true))))).put o.dst (.tup [])) H nx S := rfl
theorem wvH_ff {o : AOper} {t : Nat} : wvH P b live K o L t false e H nx S (.one (.c (.v (.bool false)))) = wv P b live K (o :: L) (e.set t (.one (.c (.v (.bool false))))) H nx S := rfl
theorem wvH_b {o : AOper} {t : Nat} {w u : Bool} (h1 : u = true → wvH P b live K o L t w e H nx S (.one (.c (.v (.bool true))))) (h2 : u = false → wvH P b live K o L t w e H nx S (.one (.c (.v (.bool false))))) :
    wvH P b live K o L t w e H nx S (.one (.c (.v (.bool u)))) := by
  cases u with
  | true => exact h1 rfl
  | false => exact h2 rfl
theorem wvH_dT {o : AOper} {t : Nat} {w : Bool} {p : Prop} [Decidable p] (h : p) (h1 : wvH P b live K o L t w e H nx S (.one (.c (.v (.bool true))))) : wvH P b live K o L t w e H nx S (.one (.c (.v (.bool (decide p))))) := by
  rw [decide_eq_true h]; exact h1
theorem wvH_dF {o : AOper} {t : Nat} {w : Bool} {p : Prop} [Decidable p] (h : ¬ p) (h1 : wvH P b live K o L t w e H nx S (.one (.c (.v (.bool false))))) : wvH P b live K o L t w e H nx S (.one (.c (.v (.bool (decide p))))) := by
  rw [decide_eq_false h]; exact h1
theorem wvH_d {o : AOper} {t : Nat} {w : Bool} {p : Prop} [Decidable p] (h1 : p → wvH P b live K o L t w e H nx S (.one (.c (.v (.bool true))))) (h2 : ¬ p → wvH P b live K o L t w e H nx S (.one (.c (.v (.bool false))))) :
    wvH P b live K o L t w e H nx S (.one (.c (.v (.bool (decide p))))) :=
  wvH_b (fun h => h1 (by simpa using h)) (fun h => h2 (by simpa using h))

theorem wv_alloc {ix : Nat} {z : List D1} {m s : List Nat} {k : Bool} : wv P b live K (⟨ix, dst, .alloc z, none, m, s, k⟩ :: L) e H nx S = wvA P b live K L dst (b + ix) e H nx S (evalA (b + ix) e (.alloc z)) := wv_a rfl
theorem wv_box {ix : Nat} {g : Bool} {x : Opnd} {m s : List Nat} {k : Bool} : wv P b live K (⟨ix, dst, .box g x, none, m, s, k⟩ :: L) e H nx S = wvA P b live K L dst (b + ix) e H nx S (evalA (b + ix) e (.box g x)) := wv_a rfl
theorem wv_bslice {ix n len : Nat} {z : List D1} {ps : List (Nat × Nat × Opnd)} {m s : List Nat} {k : Bool} : wv P b live K (⟨ix, dst, .bslice n len z ps, none, m, s, k⟩ :: L) e H nx S = wvA P b live K L dst (b + ix) e H nx S (evalA (b + ix) e (.bslice n len z ps)) := wv_a rfl
theorem wv_mkslice {ix n : Nat} {z : List D1} {x y : Opnd} {m s : List Nat} {k : Bool} : wv P b live K (⟨ix, dst, .mkslice n z x y, none, m, s, k⟩ :: L) e H nx S = wvA P b live K L dst (b + ix) e H nx S (evalA (b + ix) e (.mkslice n z x y)) := wv_a rfl
theorem wvP_ite {id : Nat} {m st : List Nat} {c : Prop} [Decidable c] {kc : Nat} {x : Option (Option Nat × Nat × Nat × List (List D1))} : wvP P b live K L dst id m st e H nx S kc (if c then x else none) = (c ∧ wvP P b live K L dst id m st e H nx S kc x) := by
  split <;> rename_i h <;> simp [h, wvP]
theorem capN_o {n i off len cap : Nat} : capN (.one (.c (.osl n i off len cap))) = cap := rfl
theorem looksOk_nilS {st : List Nat} : looksOk [] st H = True := by simp [looksOk]
theorem looksOk_cons {p : Nat} {g : Heap → Prop} {st : List Nat} : looksOk ((p, g) :: S) st H = ((p ∈ st → g H) ∧ looksOk S st H) := by
  simp [looksOk]
theorem evalQ_xop {k : XK} {l : List Opnd} : evalQ H e (.xop k l) = xq k (l.map (·.ev e)) := rfl
/-- A call of a closure. -/
def vcall (P : Program) (args : List D) (H : Heap) (nx : Nat) (R : D → Heap → Nat → Prop) : D → Prop
  | .one (.c (.clo f caps)) => ACall P f (args ++ caps.map fun d => .one (.c d)) H nx R
  | _ => False
theorem wv_callv {ix : Nat} {f : Opnd} {xs : List Opnd} {m s : List Nat} {k : Bool} : wv P b live K (⟨ix, dst, .callv f xs, none, m, s, k⟩ :: L) e H nx S = vcall P (xs.map (·.ev e)) (msk b m H) nx (callK P b live K L dst m s e H S) (f.ev e) := by
  unfold wv
  simp only [avc, aopG, gval, aop, AOp.kind, loud]
  generalize f.ev e = d
  unfold vcall
  split
  · simp only [D.one.injEq, DV.c.injEq, D1.clo.injEq, eq_iff_iff]
    exact ⟨by rintro ⟨_, _, ⟨rfl, rfl⟩, h⟩; exact h, fun h => ⟨_, _, ⟨rfl, rfl⟩, h⟩⟩
  · rename_i hne
    simp only [eq_iff_iff, iff_false]
    rintro ⟨f, caps, rfl, _⟩
    exact hne f caps rfl
section
variable {id i kn : Nat} {bl ok : Bool} {R : D → Heap → Nat → Prop} {m : MapC} {l : List Int} {n : Int} {k v : D}
theorem xl_mkmap : xl P id H nx R (.mkmap kn bl) [] = R (.one (.c (.omap id))) (H.set id (mobj ⟨kn, bl, []⟩)) nx := rfl
theorem xl_maplen : xl P id H nx R .maplen [.one (.c (.omap i))] = xlL H nx R (mapAt H i) := rfl
theorem xl_maplenI : xl P id H nx R .maplen [.one (.c (.imap m))] = xlL H nx R (some m) := rfl
theorem xl_mapgetI : xl P id H nx R (.mapget kn bl ok) [.one (.c (.imap m)), k] = xlG H nx R kn bl ok (some m) (keyI kn k) := rfl
theorem xl_mapget : xl P id H nx R (.mapget kn bl ok) [.one (.c (.omap i)), k] = xlG H nx R kn bl ok (mapAt H i) (keyI kn k) := rfl
theorem xl_mapset : xl P id H nx R (.mapset kn bl) [.one (.c (.omap i)), k, v] = xlS H nx R kn bl i (mapAt H i) (keyI kn k) (elemI bl v) := rfl
theorem xlL_some : xlL H nx R (some m) = R (.one (.c (.v (.int .i64 m.m.length)))) H nx := rfl
theorem xlG_t : xlG H nx R kn bl true (some m) (some l) = ((m.kn = kn ∧ m.bl = bl ∧ l.length = klen kn) ∧ R (.tup [.c (.v (elemV bl ((getM' m.m l).getD 0))), .c (.v (.bool (getM' m.m l).isSome))]) H nx) := rfl
theorem xlG_f : xlG H nx R kn bl false (some m) (some l) = ((m.kn = kn ∧ m.bl = bl ∧ l.length = klen kn) ∧ R (.one (.c (.v (elemV bl ((getM' m.m l).getD 0))))) H nx) := rfl
theorem xlS_some : xlS H nx R kn bl i (some m) (some l) (some n) = ((m.kn = kn ∧ m.bl = bl ∧ l.length = klen kn) ∧ R .dead (H.set i (mobj ⟨kn, bl, setM m.m l n⟩)) nx) := rfl
theorem mapAt_eq : mapAt H i = (H i).bind mapO := rfl
theorem keyI_agg {cs : List D1} : keyI kn (.one (.agg cs)) = if kn = 0 then none else intsD cs := rfl
theorem keyI_v : keyI kn (.one (.c (.v (.int .i64 n)))) = if kn = 0 then some [n] else none := rfl
theorem elemI_b {b : Bool} : elemI bl (.one (.c (.v (.bool b)))) = if bl then some (if b then 1 else 0) else none := rfl
theorem elemI_v : elemI bl (.one (.c (.v (.int .i64 n)))) = if bl then none else some n := rfl
theorem elemV_t : elemV true n = .bool (decide (n ≠ 0)) := rfl
theorem elemV_f : elemV false n = .int .i64 n := rfl
theorem intsD_nil : intsD [] = some [] := rfl
theorem intsD_cons {r : List D1} : intsD (.v (.int .i64 n) :: r) = (intsD r).map (n :: ·) := rfl
theorem xq_aeq {xs ys : List D1} {q : Nat} : xq (.aeq q) [.one (.agg xs), .one (.agg ys)] = eqD q xs ys (intsD xs) (intsD ys) := rfl
theorem eqD_some {xs ys : List D1} {q : Nat} {a b : List Int} : eqD q xs ys (some a) (some b) = if xs.length = q ∧ ys.length = q then some (.one (.c (.v (.bool (decide (a = b)))))) else none := rfl
theorem klen_eq : klen kn = if kn = 0 then 1 else kn := rfl
end
theorem rn_mobj {τ : Nat → Nat} {x : MapC} : AObj.rn τ (mobj x) = mobj x := rfl
theorem cvO_mobj {F : Nat → Prop} {σ : Nat → Nat} {nh : Nat} {x x' : MapC} (h : x' = x) : CvO H F σ nh (mobj x') (mobj x) := by
  subst h; exact cvO_imm fun r hr => by cases hr
theorem vcall_clo {f : FuncId} {caps : List D1} {args : List D} {R : D → Heap → Nat → Prop} : vcall P args H nx R (.one (.c (.clo f caps))) = ACall P f (args ++ caps.map fun d => .one (.c d)) H nx R := rfl
theorem beqI {a b : Int} : (a == b) = decide (a = b) := by by_cases h : a = b <;> simp [h]
theorem bneI {a b : Int} : (a != b) = decide (¬ a = b) := by by_cases h : a = b <;> simp [h]
theorem notD {p : Prop} [Decidable p] : (!decide p) = decide (¬ p) := by by_cases h : p <;> simp [h]

/-- A store into rows, an append to rows, by what they stand for. -/
theorem set_map {α : Type} {enc : α → List D1} {l : List α} {i : Nat} {x : α} : (l.map enc).set i (enc x) = (l.set i x).map enc := (List.map_set).symm
theorem snoc_map {α : Type} {enc : α → List D1} {l : List α} {x : α} : l.map enc ++ [enc x] = (l ++ [x]).map enc := by simp
theorem app_map {α : Type} {enc : α → List D1} {l l' : List α} : l.map enc ++ l'.map enc = (l ++ l').map enc := by simp
theorem take_map_len {α : Type} {enc : α → List D1} {l : List α} : (l.map enc).take l.length = l.map enc := List.take_of_length_le (by simp)
theorem take_map {α : Type} {enc : α → List D1} {l : List α} {k : Nat} : (l.map enc).take k = (l.take k).map enc := (List.map_take).symm
theorem drop_map {α : Type} {enc : α → List D1} {l : List α} {k : Nat} : (l.map enc).drop k = (l.drop k).map enc := (List.map_drop).symm
end

abbrev dI (n : Int) : D := .one (.c (.v (.int .i64 n)))
abbrev dB (b : Bool) : D := .one (.c (.v (.bool b)))
abbrev dS (rows : List (List D1)) : D := .one (.c (.isl rows))
abbrev dO (n id len cap : Nat) : D := .one (.c (.osl n id 0 len cap))
abbrev dP (n id : Nat) : D := .one (.c (.ptr n id 0 0))
abbrev dU : D := .tup []
abbrev dA (cs : List D1) : D := .one (.agg cs)
abbrev cI (n : Int) : D1 := .v (.int .i64 n)
abbrev cB (b : Bool) : D1 := .v (.bool b)
def eInt (x : Int) : List D1 := [.v (.int .i64 x)]

theorem dB_t {p : Prop} [Decidable p] (h : p) : dB true = dB (decide p) := by rw [decide_eq_true h]
theorem dB_f {p : Prop} [Decidable p] (h : ¬ p) : dB false = dB (decide p) := by rw [decide_eq_false h]
theorem dB_e {p q : Prop} [Decidable p] [Decidable q] (h : p ↔ q) : dB (decide p) = dB (decide q) := by rw [decide_eq_decide.2 h]
theorem dI_e {a b : Int} (h : a = b) : dI a = dI b := by rw [h]

theorem snoc_int {l : List Int} {x : Int} : l.map eInt ++ [[.v (.int .i64 x)]] = (l ++ [x]).map eInt := by simp [eInt]
theorem set_int {l : List Int} {i : Nat} {x : Int} : (l.map eInt).set i [.v (.int .i64 x)] = (l.set i x).map eInt := by rw [List.map_set]; rfl
attribute [go_sem] snoc_int set_int
section
variable {rows : List (List D1)} {k k' k'' : IntKind} {a b c : Int} {n m id off len cap : Nat}
theorem optD_i {d : Nat} : optD d (some (.one (.c (.v (.int k a))))) = if 0 ≤ a then some a.toNat else none := rfl
theorem slc_i0 : slcDD n (.one (.c (.isl rows))) none none none = if (∀ r ∈ rows, r.length = n) then some (.one (.c (.isl rows))) else none := by
  by_cases hP : ∀ r ∈ rows, r.length = n
  · simp only [slcDD, optD, eq_true hP, if_true, if_false, reduceIte, and_true, and_false, true_and, false_and] <;> (repeat' split) <;> first | rfl | (exfalso; omega) | (simp only [List.drop_zero, Nat.sub_zero, Option.some.injEq, D.one.injEq, DV.c.injEq, D1.isl.injEq]; first | rfl | exact List.take_of_length_le (by simp) | exact List.take_of_length_le (Nat.le_refl _))
  · simp only [slcDD, optD, eq_false hP, if_true, if_false, reduceIte, and_true, and_false, true_and, false_and] <;> (repeat' split) <;> first | rfl | (exfalso; omega) | (simp only [List.drop_zero, Nat.sub_zero, Option.some.injEq, D.one.injEq, DV.c.injEq, D1.isl.injEq]; first | rfl | exact List.take_of_length_le (by simp) | exact List.take_of_length_le (Nat.le_refl _))
theorem slc_iH : slcDD n (.one (.c (.isl rows))) none (some (.one (.c (.v (.int k a))))) none = if (0 ≤ a ∧ a ≤ rows.length) ∧ (∀ r ∈ rows, r.length = n) then some (.one (.c (.isl (rows.take a.toNat)))) else none := by
  by_cases hP : ∀ r ∈ rows, r.length = n
  · by_cases ha : 0 ≤ a <;> simp only [slcDD, optD, ha, eq_true hP, if_true, if_false, reduceIte, and_true, and_false, true_and, false_and] <;> (repeat' split) <;> first | rfl | (exfalso; omega) | (simp only [List.drop_zero, Nat.sub_zero, Option.some.injEq, D.one.injEq, DV.c.injEq, D1.isl.injEq]; first | rfl | exact List.take_of_length_le (by simp) | exact List.take_of_length_le (Nat.le_refl _))
  · by_cases ha : 0 ≤ a <;> simp only [slcDD, optD, ha, eq_false hP, if_true, if_false, reduceIte, and_true, and_false, true_and, false_and] <;> (repeat' split) <;> first | rfl | (exfalso; omega) | (simp only [List.drop_zero, Nat.sub_zero, Option.some.injEq, D.one.injEq, DV.c.injEq, D1.isl.injEq]; first | rfl | exact List.take_of_length_le (by simp) | exact List.take_of_length_le (Nat.le_refl _))
theorem slc_iL : slcDD n (.one (.c (.isl rows))) (some (.one (.c (.v (.int k a))))) none none = if (0 ≤ a ∧ a ≤ rows.length) ∧ (∀ r ∈ rows, r.length = n) then some (.one (.c (.isl (rows.drop a.toNat)))) else none := by
  by_cases hP : ∀ r ∈ rows, r.length = n
  · by_cases ha : 0 ≤ a <;> simp only [slcDD, optD, ha, eq_true hP, if_true, if_false, reduceIte, and_true, and_false, true_and, false_and] <;> (repeat' split) <;> first | rfl | (exfalso; omega) | (simp only [List.drop_zero, Nat.sub_zero, Option.some.injEq, D.one.injEq, DV.c.injEq, D1.isl.injEq]; first | rfl | exact List.take_of_length_le (by simp) | exact List.take_of_length_le (Nat.le_refl _))
  · by_cases ha : 0 ≤ a <;> simp only [slcDD, optD, ha, eq_false hP, if_true, if_false, reduceIte, and_true, and_false, true_and, false_and] <;> (repeat' split) <;> first | rfl | (exfalso; omega) | (simp only [List.drop_zero, Nat.sub_zero, Option.some.injEq, D.one.injEq, DV.c.injEq, D1.isl.injEq]; first | rfl | exact List.take_of_length_le (by simp) | exact List.take_of_length_le (Nat.le_refl _))
theorem slc_iLH : slcDD n (.one (.c (.isl rows))) (some (.one (.c (.v (.int k a))))) (some (.one (.c (.v (.int k' b))))) none = if (0 ≤ a ∧ a ≤ b ∧ b ≤ rows.length) ∧ (∀ r ∈ rows, r.length = n) then some (.one (.c (.isl ((rows.drop a.toNat).take (b.toNat - a.toNat))))) else none := by
  by_cases hP : ∀ r ∈ rows, r.length = n
  · by_cases ha : 0 ≤ a <;> by_cases hb : 0 ≤ b <;> simp only [slcDD, optD, ha, hb, eq_true hP, if_true, if_false, reduceIte, and_true, and_false, true_and, false_and] <;> (repeat' split) <;> first | rfl | (exfalso; omega) | (simp only [List.drop_zero, Nat.sub_zero, Option.some.injEq, D.one.injEq, DV.c.injEq, D1.isl.injEq]; first | rfl | exact List.take_of_length_le (by simp) | exact List.take_of_length_le (Nat.le_refl _))
  · by_cases ha : 0 ≤ a <;> by_cases hb : 0 ≤ b <;> simp only [slcDD, optD, ha, hb, eq_false hP, if_true, if_false, reduceIte, and_true, and_false, true_and, false_and] <;> (repeat' split) <;> first | rfl | (exfalso; omega) | (simp only [List.drop_zero, Nat.sub_zero, Option.some.injEq, D.one.injEq, DV.c.injEq, D1.isl.injEq]; first | rfl | exact List.take_of_length_le (by simp) | exact List.take_of_length_le (Nat.le_refl _))
theorem slc_o0 : slcDD n (.one (.c (.osl m id off len cap))) none none none = if (m = n ∨ cap = 0) ∧ len ≤ cap then some (.one (.c (.osl n id off len cap))) else none := by
  simp only [slcDD, optD, slcD, if_true, if_false, reduceIte, and_true, true_and, and_false, false_and] <;> (repeat' split) <;> first | (exfalso; omega) | (simp; done) | (simp; omega)
theorem slc_oH : slcDD n (.one (.c (.osl m id off len cap))) none (some (.one (.c (.v (.int k a))))) none = if (m = n ∨ cap = 0) ∧ 0 ≤ a ∧ a ≤ cap then some (.one (.c (.osl n id off a.toNat cap))) else none := by
  by_cases ha : 0 ≤ a <;> simp only [slcDD, optD, slcD, ha, if_true, if_false, reduceIte, and_true, true_and, and_false, false_and] <;> (repeat' split) <;> first | (exfalso; omega) | (simp; done) | (simp; omega)
theorem slc_oL : slcDD n (.one (.c (.osl m id off len cap))) (some (.one (.c (.v (.int k a))))) none none = if (m = n ∨ cap = 0) ∧ 0 ≤ a ∧ a ≤ len ∧ len ≤ cap then some (.one (.c (.osl n id (off + a.toNat) (len - a.toNat) (cap - a.toNat)))) else none := by
  by_cases ha : 0 ≤ a <;> simp only [slcDD, optD, slcD, ha, if_true, if_false, reduceIte, and_true, true_and, and_false, false_and] <;> (repeat' split) <;> first | (exfalso; omega) | (simp; done) | (simp; omega)
theorem slc_oLH : slcDD n (.one (.c (.osl m id off len cap))) (some (.one (.c (.v (.int k a))))) (some (.one (.c (.v (.int k' b))))) none = if (m = n ∨ cap = 0) ∧ 0 ≤ a ∧ a ≤ b ∧ b ≤ cap then some (.one (.c (.osl n id (off + a.toNat) (b.toNat - a.toNat) (cap - a.toNat)))) else none := by
  by_cases ha : 0 ≤ a <;> by_cases hb : 0 ≤ b <;> simp only [slcDD, optD, slcD, ha, hb, if_true, if_false, reduceIte, and_true, true_and, and_false, false_and] <;> (repeat' split) <;> first | (exfalso; omega) | (simp; done) | (simp; omega)
theorem slc_oHM : slcDD n (.one (.c (.osl m id off len cap))) none (some (.one (.c (.v (.int k a))))) (some (.one (.c (.v (.int k' b))))) = if (m = n ∨ cap = 0) ∧ 0 ≤ a ∧ a ≤ b ∧ b ≤ cap then some (.one (.c (.osl n id off a.toNat b.toNat))) else none := by
  by_cases ha : 0 ≤ a <;> by_cases hb : 0 ≤ b <;> simp only [slcDD, optD, slcD, ha, hb, if_true, if_false, reduceIte, and_true, true_and, and_false, false_and] <;> (repeat' split) <;> first | (exfalso; omega) | (simp; done) | (simp; omega)
theorem slc_oLHM : slcDD n (.one (.c (.osl m id off len cap))) (some (.one (.c (.v (.int k a))))) (some (.one (.c (.v (.int k' b))))) (some (.one (.c (.v (.int k'' c))))) = if (m = n ∨ cap = 0) ∧ 0 ≤ a ∧ a ≤ b ∧ b ≤ c ∧ c ≤ cap then some (.one (.c (.osl n id (off + a.toNat) (b.toNat - a.toNat) (c.toNat - a.toNat)))) else none := by
  by_cases ha : 0 ≤ a <;> by_cases hb : 0 ≤ b <;> by_cases hc : 0 ≤ c <;> simp only [slcDD, optD, slcD, ha, hb, hc, if_true, if_false, reduceIte, and_true, true_and, and_false, false_and] <;> (repeat' split) <;> first | (exfalso; omega) | (simp; done) | (simp; omega)
end
attribute [go_sem] slc_i0 slc_iH slc_iL slc_iLH slc_o0 slc_oH slc_oL slc_oLH slc_oHM slc_oLHM true_or or_true
/-- Environments by lists. -/
def en : List (Nat × D) → Env
  | [] => Env.nil
  | (t, d) :: l => (en l).set t d
theorem en_nil : en [] = Env.nil := rfl
theorem en_cons {t : Nat} {d : D} {l : List (Nat × D)} : en ((t, d) :: l) = (en l).set t d := rfl

/-- Heaps by lists. -/
def hp : List (Nat × AObj) → Heap
  | [] => Heap.nil
  | (i, o) :: l => (hp l).set i o
theorem hp_nil : hp [] = Heap.nil := rfl
theorem hp_cons {i : Nat} {o : AObj} {l : List (Nat × AObj)} : hp ((i, o) :: l) = (hp l).set i o := rfl

def DV.imm : DV → Bool
  | .c d => d.immB
  | .agg ds => ds.all D1.immB
def D.imm : D → Bool
  | .one x => x.imm
  | .tup xs => xs.all DV.imm
  | .dead => false

section
variable {P : Program} {H G : Heap} {F : Nat → Prop} {σ : Nat → Nat} {nx nh : Nat} {e e' : Env}

theorem rn0_imm {τ : Nat → Nat} {d : D1} (h : d.immB = true) : rn1 τ d = d := by cases d <;> first | rfl | cases h
theorem rnV_imm {τ : Nat → Nat} {d : DV} (h : d.imm = true) : rnV τ d = d := by
  cases d with
  | c d => simp only [rnV]; rw [rn0_imm h]
  | agg ds =>
    simp only [rnV]
    congr 1
    have h2 := List.all_eq_true.1 h
    conv => rhs; rw [← List.map_id ds]
    exact List.map_congr_left fun x hx => rn0_imm (h2 x hx)
theorem rnD_imm {τ : Nat → Nat} {d : D} (h : d.imm = true) : rnD τ d = d := by
  cases d with
  | one x => simp only [rnD]; rw [rnV_imm h]
  | dead => rfl
  | tup xs =>
    simp only [rnD]
    congr 1
    have h2 := List.all_eq_true.1 h
    conv => rhs; rw [← List.map_id xs]
    exact List.map_congr_left fun x hx => rnV_imm (h2 x hx)
theorem cvV_im {d : DV} (h : d.imm = true) : CvV H F σ nh d d := by
  cases d with
  | c d => exact cv1_imm h
  | agg ds => exact cvL_imm fun x hx => List.all_eq_true.1 h x hx
theorem cvD_im {d : D} (h : d.imm = true) : CvD H F σ nh d d := by
  cases d with
  | one x => exact cvV_im h
  | dead => trivial
  | tup xs =>
    refine ⟨rfl, fun i a b ha hb => ?_⟩
    rw [ha] at hb; cases hb
    exact cvV_im (List.all_eq_true.1 h a (List.mem_of_getElem? ha))

/-- A call that makes data that nobody writes any more, of the like. -/
theorem ACall.fresh {f : FuncId} {args : List D} {K : D → Heap → Nat → Prop} {R : D → Prop} (h : ACall P f args .nil 0 fun r _ n => n = 0 ∧ r.imm = true ∧ R r) (hargs : args.all D.imm = true) (hK : ∀ r, R r → K r H nx) : ACall P f args H nx K := by
  refine ACall.lift h id rfl (fun i d0 d h1 h2 => ?_) cvH_nil (fun i hi => absurd hi (Nat.not_lt_zero i)) (fun i j hi => absurd hi (Nat.not_lt_zero i)) fun r H' n' _ ⟨h1, h2, h3⟩ => ?_
  · rw [h1] at h2; cases h2
    exact cvD_im (List.all_eq_true.1 hargs d0 (List.mem_of_getElem? h1))
  · subst h1
    rw [rnD_imm h2]
    exact hK r h3

theorem exitF {Q : AQ} {rs : List ResV} {R : D → Prop} (hQ : ∀ ex e2 H2 nx2 d nh d2 H3 F σ, ex = AEx.normal ∨ ex = AEx.ret → resD H2 e2 rs = some d → CvR 0 d H2 nh d2 H3 F σ → (nh = 0 ∧ d2.imm = true ∧ R d2) → Q ex e2 H2 nx2)
    {e2 : Env} {H2 : Heap} {nx2 : Nat} (d' d : D) (h1 : resD H2 e2 rs = some d) (h2 : CvD H2 (fun _ => True) id 0 d' d) (h3 : d'.imm = true) (h4 : R d') : Q .ret e2 H2 nx2 :=
  hQ _ _ _ _ d 0 d' .nil (fun _ => True) id (.inr rfl) h1 ⟨Nat.le_refl _, fun _ _ => rfl, h2, cvH_nil⟩ ⟨rfl, h3, h4⟩

def ImmR (n : Nat) (rows : List (List D1)) : Prop := ∀ r ∈ rows, r.length = n ∧ ∀ x ∈ r, x.immB = true
theorem immR_map {α : Type} {n : Nat} {enc : α → List D1} (h : ∀ x, (enc x).length = n ∧ (enc x).all D1.immB = true) (l : List α) : ImmR n (l.map enc) := by
  intro r hr
  obtain ⟨x, _, rfl⟩ := List.mem_map.1 hr
  exact ⟨(h x).1, List.all_eq_true.1 (h x).2⟩

theorem cv1_frz {rows : List (List D1)} {n id len cap : Nat} {o : AObj} (hi : ImmR n rows) (hl : len = rows.length) (hF : F id) (ho : H id = some o) (hn : o.n = n) (hr : o.rows.take rows.length = rows) (hc : rows.length ≤ cap) : Cv1 H F σ nh (.isl rows) (.osl n id 0 len cap) := by
  subst hl
  have hle : rows.length ≤ o.rows.length := by
    have := congrArg List.length hr
    rw [List.length_take] at this; omega
  have hg : ∀ i : Nat, ∀ r', rows[i]? = some r' → o.rows[i]? = some r' := by
    intro i r' h
    rw [← hr, List.getElem?_take] at h
    split at h
    · exact h
    · cases h
  refine .frz (.frz rows n id 0 cap o (fun i j => ((rows[i]?.getD [])[j]?).getD .dead) hF ho hn (by omega) hc (fun i r' h => (hi r' (List.mem_of_getElem? h)).1) (fun i j r' d' h1 h2 => ⟨r', by rw [Nat.zero_add]; exact hg i r' h1, by rw [h1]; simp [h2]⟩) fun i j r' d' h1 h2 => ?_)
  rw [h1]
  simp only [Option.getD_some, h2]
  exact .same d' ((hi r' (List.mem_of_getElem? h1)).2 d' (List.mem_of_getElem? h2))
theorem cv1_frz0 {n id off : Nat} : Cv1 H F σ nh (.isl []) (.osl n id off 0 0) := .frz (.nil n id off)
theorem cv1_oslE {n id id' off off' len len' cap cap' : Nat} (h : id' < nh) (hs : σ id' = id) (h1 : off' = off) (h2 : len' = len) (h3 : cap' = cap) : Cv1 H F σ nh (.osl n id' off' len' cap') (.osl n id off len cap) := by
  subst h1; subst h2; subst h3; exact cv1_osl h hs
theorem cvD_frz {rows : List (List D1)} {n id len cap : Nat} {o : AObj} (hi : ImmR n rows) (hl : len = rows.length) (hF : F id) (ho : H id = some o) (hn : o.n = n) (hr : o.rows.take rows.length = rows) (hc : rows.length ≤ cap) : CvD H F σ nh (dS rows) (.one (.c (.osl n id 0 len cap))) :=
  cv1_frz hi hl hF ho hn hr hc
theorem cvD_oslE {n id id' off off' len len' cap cap' : Nat} (h : id' < nh) (hs : σ id' = id) (h1 : off' = off) (h2 : len' = len) (h3 : cap' = cap) : CvD H F σ nh (.one (.c (.osl n id' off' len' cap'))) (.one (.c (.osl n id off len cap))) :=
  cv1_oslE h hs h1 h2 h3
theorem cvD_nilE {n id off off' n' id' : Nat} : CvD H F σ nh (.one (.c (.osl n id off 0 0))) (.one (.c (.osl n' id' off' 0 0))) := cv1_nil
theorem cvD_e {d d' : D} (h : d' = d) (hi : d'.imm = true) : CvD H F σ nh d' d := h ▸ cvD_im hi
theorem cvD_ptr {n id id' row col : Nat} (h : id' < nh) (hs : σ id' = id) : CvD H F σ nh (.one (.c (.ptr n id' row col))) (.one (.c (.ptr n id row col))) := cv1_ptr h hs
theorem cv1_cloI {f : FuncId} {caps : List D1} (h : caps.all D1.immB = true) : Cv1 H F σ nh (.clo f caps) (.clo f caps) :=
  .clo f caps caps rfl fun i x y hx hy => by
    rw [hx] at hy; cases hy
    have := List.all_eq_true.1 h x (List.mem_of_getElem? hx)
    exact .inl ⟨this, .same x this⟩
theorem cvD_cloI {f : FuncId} {caps : List D1} (h : caps.all D1.immB = true) : CvD H F σ nh (.one (.c (.clo f caps))) (.one (.c (.clo f caps))) := cv1_cloI h
def CapsL (H : Heap) (F : Nat → Prop) : List D1 → List D1 → Prop
  | [], [] => True
  | x :: xs, y :: ys => (x.immB = true ∧ Frz H F x y) ∧ CapsL H F xs ys
  | _, _ => False
theorem capsL_spec : ∀ {xs ys : List D1}, CapsL H F xs ys → xs.length = ys.length ∧ ∀ (i : Nat) (x y : D1), xs[i]? = some x → ys[i]? = some y → x.immB = true ∧ Frz H F x y
  | [], [], _ => ⟨rfl, fun i x y h => by simp at h⟩
  | a :: xs, b :: ys, h => ⟨by simp [(capsL_spec h.2).1], fun i x y hx hy => by
    match i with
    | 0 => simp at hx hy; subst hx; subst hy; exact h.1
    | i + 1 => exact (capsL_spec h.2).2 i x y (by simpa using hx) (by simpa using hy)⟩
  | [], _ :: _, h => h.elim
  | _ :: _, [], h => h.elim
theorem cvD_clo {f : FuncId} {caps0 caps : List D1} (h : CapsL H F caps0 caps) : CvD H F σ nh (.one (.c (.clo f caps0))) (.one (.c (.clo f caps))) :=
  .clo f caps caps0 (capsL_spec h).1 fun i x y hx hy => .inl ((capsL_spec h).2 i x y hx hy)
theorem frz_ptr_map {id i : Nat} {o : AObj} {x : MapC} (hF : F id) (hi : F i) (ho : H id = some o) (hn : o.n = 1) (hr : o.rows[0]? = some [.omap i]) (hx : H i = some (mobj x)) : (D1.iptr [.imap x]).immB = true ∧ Frz H F (.iptr [.imap x]) (.ptr 1 id 0 0) :=
  ⟨rfl, .ptr _ 1 id 0 0 o [.omap i] (fun _ => .omap i) hF ho hn hr (fun j d' h => by match j with | 0 => rfl | j + 1 => cases h) (fun j d' h => by match j with | 0 => cases h; exact .omap x i hi hx | j + 1 => cases h)⟩
theorem frz_ptr {cells : List D1} {n id : Nat} {o : AObj} (hi : cells.all D1.immB = true) (hF : F id) (ho : H id = some o) (hn : o.n = n) (hr : o.rows[0]? = some cells) : (D1.iptr cells).immB = true ∧ Frz H F (.iptr cells) (.ptr n id 0 0) :=
  ⟨rfl, .ptr cells n id 0 0 o cells (fun j => (cells[j]?).getD .dead) hF ho hn hr (fun j d' h => by simp [h]) (fun j d' h => by
    simp only [h, Option.getD_some]
    exact .same d' (List.all_eq_true.1 hi d' (List.mem_of_getElem? h)))⟩
theorem cvD_frzptr {cells : List D1} {n id : Nat} {o : AObj} (hi : cells.all D1.immB = true) (hF : F id) (ho : H id = some o) (hn : o.n = n) (hr : o.rows[0]? = some cells) : CvD H F σ nh (.one (.c (.iptr cells))) (.one (.c (.ptr n id 0 0))) :=
  .frz (frz_ptr hi hF ho hn hr).2
theorem cv_nilT (hle : nx ≤ nh) (h : CvE H (fun _ => True) id nh e' e) : ∃ F σ, Cv nx e H nh e' .nil F σ := ⟨fun _ => True, id, hle, fun _ _ => rfl, h, cvH_nil⟩
/-- What is lent. -/
def LentL (H : Heap) : List D → List D → Prop
  | [], [] => True
  | d0 :: l0, d :: l => CvD H (fun _ => True) id 0 d0 d ∧ LentL H l0 l
  | _, _ => False
theorem lentL_args : ∀ {l0 l : List D}, LentL H l0 l → ∀ (i : Nat) (d0 d : D), l0[i]? = some d0 → l[i]? = some d → CvD H (fun _ => True) id 0 d0 d
  | [], [], _, i, d0, d, h1, _ => by simp at h1
  | a :: l0, b :: l, h, i, d0, d, h1, h2 => by
    match i with
    | 0 => simp at h1 h2; subst h1; subst h2; exact h.1
    | i + 1 => exact lentL_args h.2 i d0 d (by simpa using h1) (by simpa using h2)
  | [], _ :: _, h, _, _, _, _, _ => h.elim
  | _ :: _, [], h, _, _, _, _, _ => h.elim
theorem cvD_frzM {α : Type} {enc : α → List D1} {l : List α} {n id len cap m : Nat} (he : ∀ x, (enc x).length = n ∧ (enc x).all D1.immB = true) (ho : H id = some ⟨n, m, l.map enc⟩) (hl : len = l.length) (hc : l.length ≤ cap) (hF : F id) : CvD H F σ nh (dS (l.map enc)) (.one (.c (.osl n id 0 len cap))) :=
  cvD_frz (immR_map he l) (by simp [hl]) hF ho rfl (List.take_of_length_le (Nat.le_refl _)) (by simp; omega)
theorem cvE_cons {t : Nat} {d : D} {l : List (Nat × D)} (h : CvE H F σ nh (en l) e) (hd : CvD H F σ nh d (e t)) : CvE H F σ nh (en ((t, d) :: l)) e := cvE_set h hd
theorem cvE_enil : CvE H F σ nh (en []) e := fun _ => trivial

/-- New names, by the list of the elder ones. -/
def sgL (nx : Nat) (s : List Nat) (i : Nat) : Nat := if i < nx then i else (s[i - nx]?).getD i

def OkO (H : Heap) (F : Nat → Prop) (σ : Nat → Nat) (nh : Nat) : List (Nat × AObj) → Prop
  | [] => True
  | p :: l => (p.1 < nh ∧ ¬ F (σ p.1) ∧ ∃ o, H (σ p.1) = some o ∧ CvO H F σ nh p.2 o) ∧ OkO H F σ nh l

theorem hp_mem : ∀ {l : List (Nat × AObj)} {i : Nat} {o : AObj}, hp l i = some o → (i, o) ∈ l
  | [], i, o, h => by simp [hp, Heap.nil] at h
  | (j, p) :: l, i, o, h => by
    simp only [hp, Heap.set] at h
    split at h
    · rename_i hi; cases h; subst hi; simp
    · exact List.mem_cons_of_mem _ (hp_mem h)

theorem okO_mem : ∀ {l : List (Nat × AObj)}, OkO H F σ nh l → ∀ p ∈ l, p.1 < nh ∧ ¬ F (σ p.1) ∧ ∃ o, H (σ p.1) = some o ∧ CvO H F σ nh p.2 o
  | [], _, p, hp => by simp at hp
  | q :: l, h, p, hp => by
    rcases List.mem_cons.1 hp with rfl | hp
    · exact h.1
    · exact okO_mem h.2 p hp

theorem nodup_inj {l : List (Nat × AObj)} (h : (l.map fun p => σ p.1).Nodup) {p q : Nat × AObj} (h1 : p ∈ l) (h2 : q ∈ l) (he : σ p.1 = σ q.1) : p = q := by
  induction l with
  | nil => simp at h1
  | cons a l ih =>
    simp only [List.map_cons, List.nodup_cons] at h
    rcases List.mem_cons.1 h1 with h3 | h3 <;> rcases List.mem_cons.1 h2 with h4 | h4
    · rw [h3, h4]
    · subst h3; exact absurd (List.mem_map.2 ⟨q, h4, he.symm⟩ : σ p.1 ∈ l.map fun p => σ p.1) h.1
    · subst h4; exact absurd (List.mem_map.2 ⟨p, h3, he⟩ : σ q.1 ∈ l.map fun p => σ p.1) h.1
    · exact ih h.2 h3 h4

theorem cvH_hp {l : List (Nat × AObj)} (h : OkO H F σ nh l) (hn : (l.map fun p => σ p.1).Nodup) : CvH H F σ nh (hp l) :=
  ⟨fun id o' hid => okO_mem h _ (hp_mem hid), fun i j o o' hi hj he => congrArg Prod.fst (nodup_inj hn (hp_mem hi) (hp_mem hj) he)⟩

theorem cv_hp {l : List (Nat × AObj)} (s : List Nat) (hle : nx ≤ nh) (hE : CvE H (· ∉ s) (sgL nx s) nh e' e) (hO : OkO H (· ∉ s) (sgL nx s) nh l) (hn : (l.map fun p => sgL nx s p.1).Nodup) : ∃ F σ, Cv nx e H nh e' (hp l) F σ :=
  ⟨_, _, hle, fun i hi => by simp [sgL, hi], hE, cvH_hp hO hn⟩
theorem cvR_hp {d d' : D} {l : List (Nat × AObj)} (s : List Nat) (hle : nx ≤ nh) (hd : CvD H (· ∉ s) (sgL nx s) nh d' d) (hO : OkO H (· ∉ s) (sgL nx s) nh l) (hn : (l.map fun p => sgL nx s p.1).Nodup) : CvR nx d H nh d' (hp l) (· ∉ s) (sgL nx s) :=
  ⟨hle, fun i hi => by simp [sgL, hi], hd, cvH_hp hO hn⟩
theorem cvO_map {α : Type} {enc : α → List D1} {l l' : List α} {n m m' : Nat} (he : ∀ x, (enc x).length = n ∧ (enc x).all D1.immB = true) (hl : l' = l) (hm : m' = m) : CvO H F σ nh ⟨n, m', l'.map enc⟩ ⟨n, m, l.map enc⟩ := by
  subst hl; subst hm
  exact cvO_imm fun r hr => (immR_map he l' r hr).2

theorem cvO_E {n m m' : Nat} {rows rows' : List (List D1)} (hi : ImmR n rows') (h : rows' = rows) (hm : m' = m) : CvO H F σ nh ⟨n, m', rows'⟩ ⟨n, m, rows⟩ := by
  subst h; subst hm
  exact cvO_imm fun r hr => (hi r hr).2

/-- A loop in which m blocks have names of their own. -/
theorem AWPL.loopN {P : Program} {T : Nat} {e : Env} {H : Heap} {nx : Nat} {Q : AQ} {x : AC} {zs : List AC} {α : Type} (m : Nat) (E : Nat → α → Env) (G : Nat → α → Heap) (μ : α → Nat) (x0 : α) (h0 : ∃ F σ, Cv nx e H (nx + m) (E nx x0) (G nx x0) F σ)
    (h : ∀ u, ∀ K : Env → Heap → Nat → Prop, (∀ e' H' nx' u', nx + m ≤ nx' → μ u' < μ u → (∃ F σ, Cv nx e' H' (nx + m) (E nx u') (G nx u') F σ) → K e' H' nx') → AWPL P T [x] (E nx u) (G nx u) (nx + m) (AQ.then K Q)) : AWPL P T (.loop x :: zs) e H nx Q :=
  AWPL.loop (E nx) (G nx) (nx + m) μ x0 h0 h

/-- Blocks that are kept as they stand. -/
theorem cvO_same {n m m' : Nat} {rows rows' : List (List D1)} (hm : m' = m) (hi : ∀ r ∈ rows', ∀ x ∈ r, x.immB = true) (h : rows' = rows) : CvO H F σ nh ⟨n, m', rows'⟩ ⟨n, m, rows⟩ := by
  subst h; subst hm; exact cvO_imm hi
end
attribute [go_sem] capN_o xl_mkmap xl_maplen xl_maplenI xl_mapget xl_mapgetI xl_mapset xlL_some xlG_t xlG_f xlS_some mapAt_eq mapO_mobj keyI_agg keyI_v elemI_b elemI_v elemV_t elemV_f intsD_nil intsD_cons xq_aeq eqD_some klen_eq looksOk_nilS looksOk_cons List.mem_cons List.not_mem_nil or_false false_or or_self evalQ_xop wv_callv vcall_clo take_map drop_map wvP_ite List.take_of_length_le List.length_range List.length_replicate wv_alloc wv_box wv_bslice wv_mkslice wv_h wvH_u wvH_tt wvH_tf wvH_ft wvH_ff cK_t cK_f beqI bneI notD set_map snoc_map take_map_len en_nil en_cons hp_nil hp_cons eInt gt_iff_lt ge_iff_le Int.reduceEq Int.reduceNe Int.reduceLT Int.reduceLE Int.reduceAdd Int.reduceSub Int.reduceMul Int.reduceNeg decide_true decide_false Int.toNat_natCast Bool.not_true Bool.not_false not_true_eq_false not_false_eq_true List.drop_drop List.length_append Nat.reduceMul Nat.reduceSub Nat.reduceLT Int.reduceToNat
end Go.AM
end

section
/- The engine, part Za: calls to which blocks are handed. -/
namespace Go.AM
open Go.RowKit
section
variable {P : Program} {H G : Heap} {F : Nat → Prop} {σ : Nat → Nat} {nx nh : Nat} {e e' : Env}

def immO (o : AObj) : Prop := ∀ r ∈ o.rows, ∀ x ∈ r, x.immB = true
theorem rnO_imm {τ : Nat → Nat} {o : AObj} (h : immO o) : o.rn τ = o := by
  unfold AObj.rn
  congr 1
  conv => rhs; rw [← List.map_id o.rows]
  refine List.map_congr_left fun r hr => ?_
  conv => rhs; rw [← List.map_id r]
  exact List.map_congr_left fun x hx => rn0_imm (h r hr x hx)
theorem Heap.upd_eq {i : Nat} {o : AObj} : H.upd i (some o) = H.set i o := rfl

/-- A call to which one block is handed, by its name. -/
theorem ACall.mut1 {f : FuncId} {args0 args : List D} {K : D → Heap → Nat → Prop} {o : AObj} {R : D → AObj → Prop} (i : Nat) (h : ACall P f args0 (hp [(0, o)]) 1 fun r H' n' => n' = 1 ∧ ∃ o', H' = hp [(0, o')] ∧ immO o' ∧ R r o') (hlen : args.length = args0.length)
    (hargs : ∀ (j : Nat) (d0 d : D), args0[j]? = some d0 → args[j]? = some d → CvD H (fun _ => False) (fun _ => i) 1 d0 d) (hi : i < nx) (ho : H i = some o) (himm : immO o) (hK : ∀ r o', R r o' → K (rnD (tau 1 nx fun _ => i) r) (H.set i o') nx) : ACall P f args H nx K := by
  refine ACall.lift h (fun _ => i) hlen hargs (cvH_hp ⟨⟨Nat.zero_lt_one, fun h => h, o, ho, cvO_imm himm⟩, trivial⟩ (by simp)) (fun j _ => hi) (fun j k hj hk _ => by omega) fun r H' n' hle ⟨h1, o', h2, h3, h4⟩ => ?_
  subst h1; subst h2
  have e : back (tau 1 nx fun _ => i) (hp [(0, o')]) 1 H = H.set i o' := by
    simp only [back, hp, Heap.set, Option.map_some, rnO_imm h3, Heap.upd_eq, if_true]
    have : tau 1 nx (fun _ => i) 0 = i := by simp [tau]
    rw [this]
  rw [e]
  exact hK r o' h4

theorem ACall.mut2 {f : FuncId} {args0 args : List D} {K : D → Heap → Nat → Prop} {o1 o2 : AObj} {R : D → AObj → AObj → Prop} (i j : Nat) (h : ACall P f args0 (hp [(0, o1), (1, o2)]) 2 fun r H' n' => n' = 2 ∧ ∃ o1' o2', H' = hp [(0, o1'), (1, o2')] ∧ immO o1' ∧ immO o2' ∧ R r o1' o2') (hlen : args.length = args0.length)
    (hargs : ∀ (k : Nat) (d0 d : D), args0[k]? = some d0 → args[k]? = some d → CvD H (fun _ => False) (fun k => if k = 0 then i else j) 2 d0 d) (hi : i < nx) (hj : j < nx) (hij : i ≠ j) (ho1 : H i = some o1) (ho2 : H j = some o2) (h1 : immO o1) (h2 : immO o2)
    (hK : ∀ r o1' o2', R r o1' o2' → K (rnD (tau 2 nx fun k => if k = 0 then i else j) r) ((H.set i o1').set j o2') nx) : ACall P f args H nx K := by
  refine ACall.lift h (fun k => if k = 0 then i else j) hlen hargs (cvH_hp ⟨⟨by simp, fun h => h, o1, by simpa using ho1, cvO_imm h1⟩, ⟨by simp, fun h => h, o2, by simpa using ho2, cvO_imm h2⟩, trivial⟩ (by simpa using hij)) (fun k _ => by split <;> assumption) (fun a b ha hb he => ?_) fun r H' n' hle ⟨k1, o1', o2', k2, k3, k4, k5⟩ => ?_
  · split at he <;> split at he <;> omega
  subst k1; subst k2
  have e : back (tau 2 nx fun k => if k = 0 then i else j) (hp [(0, o1'), (1, o2')]) 2 H = (H.set i o1').set j o2' := by
    have e0 : tau 2 nx (fun k => if k = 0 then i else j) 0 = i := by simp [tau]
    have e1 : tau 2 nx (fun k => if k = 0 then i else j) 1 = j := by simp [tau]
    simp only [back, hp, Heap.set, e0, e1, Option.map_some, rnO_imm k3, rnO_imm k4, if_true, Nat.zero_add]
    simp only [Nat.zero_ne_one, Nat.one_ne_zero, if_false, Option.map_some, rnO_imm k3, rnO_imm k4]
    rfl
  rw [e]
  exact hK r o1' o2' k5

/-- The end of a function to which one block was handed. -/
theorem exitM1 {Q : AQ} {rs : List ResV} {R : D → AObj → Prop} (hQ : ∀ ex e2 H2 nx2 d nh d2 H3 F σ, ex = AEx.normal ∨ ex = AEx.ret → resD H2 e2 rs = some d → CvR 1 d H2 nh d2 H3 F σ → (nh = 1 ∧ ∃ o', H3 = hp [(0, o')] ∧ immO o' ∧ R d2 o') → Q ex e2 H2 nx2)
    {e2 : Env} {H2 : Heap} {nx2 : Nat} (d' d : D) (o' : AObj) (h1 : resD H2 e2 rs = some d) (h2 : CvD H2 (fun i => i ≠ 0) id 1 d' d) (h3 : H2 0 = some o') (h4 : immO o') (h5 : R d' o') : Q .ret e2 H2 nx2 :=
  hQ _ _ _ _ d 1 d' (hp [(0, o')]) (fun i => i ≠ 0) id (.inr rfl) h1 ⟨Nat.le_refl _, fun _ _ => rfl, h2, cvH_hp ⟨⟨Nat.zero_lt_one, fun h => h rfl, o', h3, cvO_imm h4⟩, trivial⟩ (by simp)⟩ ⟨rfl, o', rfl, h4, h5⟩
theorem exitM2 {Q : AQ} {rs : List ResV} {R : D → AObj → AObj → Prop} (hQ : ∀ ex e2 H2 nx2 d nh d2 H3 F σ, ex = AEx.normal ∨ ex = AEx.ret → resD H2 e2 rs = some d → CvR 2 d H2 nh d2 H3 F σ → (nh = 2 ∧ ∃ o1' o2', H3 = hp [(0, o1'), (1, o2')] ∧ immO o1' ∧ immO o2' ∧ R d2 o1' o2') → Q ex e2 H2 nx2)
    {e2 : Env} {H2 : Heap} {nx2 : Nat} (d' d : D) (o1 o2 : AObj) (h1 : resD H2 e2 rs = some d) (h2 : CvD H2 (fun i => 2 ≤ i) id 2 d' d) (h3 : H2 0 = some o1) (h4 : H2 1 = some o2) (h5 : immO o1) (h6 : immO o2) (h7 : R d' o1 o2) : Q .ret e2 H2 nx2 :=
  hQ _ _ _ _ d 2 d' (hp [(0, o1), (1, o2)]) (fun i => 2 ≤ i) id (.inr rfl) h1 ⟨Nat.le_refl _, fun _ _ => rfl, h2, cvH_hp ⟨⟨by simp, by simp, o1, h3, cvO_imm h5⟩, ⟨by simp, by simp, o2, h4, cvO_imm h6⟩, trivial⟩ (by simp)⟩ ⟨rfl, o1, o2, rfl, h5, h6, h7⟩
theorem immO_map {α : Type} {enc : α → List D1} {n m : Nat} (h : ∀ x, (enc x).length = n ∧ (enc x).all D1.immB = true) (l : List α) : immO ⟨n, m, l.map enc⟩ := fun r hr => (immR_map h l r hr).2
theorem rnD_imm' {τ : Nat → Nat} {d : D} {A : D → Prop} (h : d.imm = true) (hA : A d) : A (rnD τ d) := by rw [rnD_imm h]; exact hA
/-- What is lent to a call to which blocks are handed. -/
def ArgL (H : Heap) (τ : Nat → Nat) (n : Nat) : List D → List D → Prop
  | [], [] => True
  | d0 :: l0, d :: l => CvD H (fun _ => False) τ n d0 d ∧ ArgL H τ n l0 l
  | _, _ => False
theorem argL_args {τ : Nat → Nat} {n : Nat} : ∀ {l0 l : List D}, ArgL H τ n l0 l → ∀ (i : Nat) (d0 d : D), l0[i]? = some d0 → l[i]? = some d → CvD H (fun _ => False) τ n d0 d
  | [], [], _, i, d0, d, h1, _ => by simp at h1
  | a :: l0, b :: l, h, i, d0, d, h1, h2 => by
    match i with
    | 0 => simp at h1 h2; subst h1; subst h2; exact h.1
    | i + 1 => exact argL_args h.2 i d0 d (by simpa using h1) (by simpa using h2)
  | [], _ :: _, h, _, _, _, _, _ => h.elim
  | _ :: _, [], h, _, _, _, _, _ => h.elim
end
end Go.AM
end

section
/- The engine, part Zb: where ways meet again. -/
namespace Go.AM
open Go.RowKit
section
variable {P : Program} {T : Nat} {e : Env} {H : Heap} {nx : Nat} {Q : AQ}

theorem AWP.join {x y : AC} {α : Type} (nh : Nat) (E : α → Env) (G : α → Heap) (h1 : AWP P T x e H nx (AQ.then (fun e' H' _ => ∃ u, ∃ F σ, Cv nx e' H' nh (E u) (G u) F σ) Q)) (h2 : ∀ u, AWP P T y (E u) (G u) nh Q) : AWP P T (.seq x y) e H nx Q := by
  intro code hc c a hs he hN
  cases hc with
  | seq k1 k2 =>
    refine wp_seq (wp_mono (h1 _ k1 c a hs he hN) fun ex a' w' ⟨aex, e', H', nx', c', hp⟩ => ?_)
    obtain ⟨rfl, rfl, p1, p2, p3, p4, p5, p6⟩ := hp
    cases aex with
    | normal =>
      simp only [AQ.then] at p6
      obtain ⟨u, F, σ, q⟩ := p6
      obtain ⟨c2, r1, r2, r3, r4, r5⟩ := q.sound p1 p2 hN p3
      have h3 := h2 u _ k2 c2 a' r2 r3 fun i hi => by
        rcases r5 i hi with h | h
        · have := q.le; omega
        · exact h.2
      rw [r1] at h3
      refine wp_mono h3 fun ex a'' w'' hq => hq.lift r4 (fun i hi => ?_) q.le fun _ _ _ _ _ h => h
      rcases r5 i hi with h | h
      · rcases p4 i h.1 with h4 | h4
        · exact .inl h4
        · omega
      · exact .inr h
    | exit id => exact ⟨.exit id, e', H', nx', c', rfl, rfl, p1, p2, p3, p4, p5, p6⟩
    | ret => exact ⟨.ret, e', H', nx', c', rfl, rfl, p1, p2, p3, p4, p5, p6⟩

/-- Where ways meet again, m blocks have names of their own. -/
theorem AWPL.join {x y : AC} {zs : List AC} {α : Type} (m : Nat) (E : Nat → α → Env) (G : Nat → α → Heap)
    (h1 : ∀ K : Env → Heap → Nat → Prop, (∀ e' H' nx' u, (∃ F σ, Cv nx e' H' (nx + m) (E nx u) (G nx u) F σ) → K e' H' nx') → AWPL P T [x] e H nx (AQ.then K Q))
    (h2 : ∀ u, AWPL P T (y :: zs) (E nx u) (G nx u) (nx + m) Q) : AWPL P T (.seq x y :: zs) e H nx Q := by
  refine AWP.join (nx + m) (E nx) (G nx) (AWP.mono (h1 _ (fun e' H' nx' u h => (⟨u, h⟩ : ∃ u, ∃ F σ, Cv nx e' H' (nx + m) (E nx u) (G nx u) F σ))).run fun ex e' H' nx' _ hq => ?_) h2
  cases ex with
  | normal => exact hq
  | exit i => exact hq
  | ret => exact hq

/-- Where ways meet again; what is known, apart. -/
theorem AWPL.joinP {x y : AC} {zs : List AC} {β : Type} (m : Nat) (E : Nat → β → Env) (G : Nat → β → Heap) (I : β → Prop)
    (h1 : ∀ K : Env → Heap → Nat → Prop, (∀ e' H' nx' v, (∃ F σ, Cv nx e' H' (nx + m) (E nx v) (G nx v) F σ) → I v → K e' H' nx') → AWPL P T [x] e H nx (AQ.then K Q))
    (h2 : ∀ v, I v → AWPL P T (y :: zs) (E nx v) (G nx v) (nx + m) Q) : AWPL P T (.seq x y :: zs) e H nx Q :=
  AWPL.join (α := {v : β // I v}) m (fun b u => E b u.1) (fun b u => G b u.1) (fun K hK => h1 K fun e' H' nx' v h hi => hK e' H' nx' ⟨v, hi⟩ h) fun u => h2 u.1 u.2
theorem AWPL.loopP {x : AC} {zs : List AC} {β : Type} (m : Nat) (E : Nat → β → Env) (G : Nat → β → Heap) (I : β → Prop) (μ : β → Nat) (v0 : β) (h0 : ∃ F σ, Cv nx e H (nx + m) (E nx v0) (G nx v0) F σ) (hi : I v0)
    (h : ∀ v, I v → ∀ K : Env → Heap → Nat → Prop, (∀ e' H' nx' v', nx + m ≤ nx' → (∃ F σ, Cv nx e' H' (nx + m) (E nx v') (G nx v') F σ) → I v' → μ v' < μ v → K e' H' nx') → AWPL P T [x] (E nx v) (G nx v) (nx + m) (AQ.then K Q)) : AWPL P T (.loop x :: zs) e H nx Q :=
  AWPL.loopN (α := {v : β // I v}) m (fun b u => E b u.1) (fun b u => G b u.1) (fun u => μ u.1) ⟨v0, hi⟩ h0 fun u K hK => h u.1 u.2 K fun e' H' nx' v' h1 h2 h3 h4 => hK e' H' nx' ⟨v', h3⟩ h1 h4 h2
theorem cv1_id {H : Heap} {F : Nat → Prop} {σ : Nat → Nat} {nh : Nat} {a b : D1} (h : Cv1 H F σ nh a b) : Cv1 H F σ nh a b := h
theorem cvD_id {H : Heap} {F : Nat → Prop} {σ : Nat → Nat} {nh : Nat} {a b : D} (h : CvD H F σ nh a b) : CvD H F σ nh a b := h
theorem cv1_e {H : Heap} {F : Nat → Prop} {σ : Nat → Nat} {nh : Nat} {a b : D1} (h : a = b) (hi : a.immB = true) : Cv1 H F σ nh a b := h ▸ cv1_imm hi
theorem cv1_frzM {H : Heap} {F : Nat → Prop} {σ : Nat → Nat} {nh : Nat} {α : Type} {enc : α → List D1} {l : List α} {n id len cap m : Nat} (he : ∀ x, (enc x).length = n ∧ (enc x).all D1.immB = true) (ho : H id = some ⟨n, m, l.map enc⟩) (hl : len = l.length) (hc : l.length ≤ cap) (hF : F id) : Cv1 H F σ nh (.isl (l.map enc)) (.osl n id 0 len cap) :=
  cv1_frz (immR_map he l) (by simp [hl]) hF ho rfl (List.take_of_length_le (Nat.le_refl _)) (by simp; omega)
/-- The blocks that were masked. -/
def kpm (b : Nat) (l : List Nat) (H : Heap) : Heap := fun i => if i ∈ l.map (b + ·) then H i else none
variable {b i : Nat} {l : List Nat} {o : AObj} {G : Heap}
theorem mskS_set : msk b l (H.set i o) = if i ∈ l.map (b + ·) then msk b l H else (msk b l H).set i o := by
  split
  · rename_i h
    funext j; simp only [msk, Heap.set]
    by_cases hj : j = i
    · subst hj; simp only [h, if_true]
    · simp only [hj, if_false]
  · rename_i h
    funext j; simp only [msk, Heap.set]
    by_cases hj : j = i
    · subst hj; simp only [h, if_true, if_false]
    · simp only [hj, if_false]
theorem msk_hnil : msk b l Heap.nil = Heap.nil := by funext j; simp only [msk, Heap.nil]; split <;> rfl
theorem msk_del : msk b l (H.del i) = (msk b l H).del i := by
  funext j; simp only [msk, Heap.del]; split <;> split <;> rfl
theorem kpm_set : kpm b l (H.set i o) = if i ∈ l.map (b + ·) then (kpm b l H).set i o else kpm b l H := by
  split
  · rename_i h
    funext j; simp only [kpm, Heap.set]
    by_cases hj : j = i
    · subst hj; simp only [h, if_true]
    · simp only [hj, if_false]
  · rename_i h
    funext j; simp only [kpm, Heap.set]
    by_cases hj : j = i
    · subst hj; simp only [h, if_false]
    · simp only [hj, if_false]
theorem kpm_hnil : kpm b l Heap.nil = Heap.nil := by funext j; simp only [kpm, Heap.nil]; split <;> rfl
theorem kpm_del : kpm b l (H.del i) = (kpm b l H).del i := by
  funext j; simp only [kpm, Heap.del]; split <;> split <;> rfl
theorem unmsk_hnil : unmsk b l H Heap.nil = kpm b l H := by funext j; simp only [unmsk, kpm, Heap.nil]
theorem unmskS_set : unmsk b l H (G.set i o) = if i ∈ l.map (b + ·) then unmsk b l H G else (unmsk b l H G).set i o := by
  split
  · rename_i h
    funext j; simp only [unmsk, Heap.set]
    by_cases hj : j = i
    · subst hj; simp only [h, if_true]
    · simp only [hj, if_false]
  · rename_i h
    funext j; simp only [unmsk, Heap.set]
    by_cases hj : j = i
    · subst hj; simp only [h, if_true, if_false]
    · simp only [hj, if_false]
theorem unmsk_del : unmsk b l H (G.del i) = if i ∈ l.map (b + ·) then unmsk b l H G else (unmsk b l H G).del i := by
  split
  · rename_i h
    funext j; simp only [unmsk, Heap.del]
    by_cases hj : j = i
    · subst hj; simp only [h, if_true]
    · simp only [hj, if_false]
  · rename_i h
    funext j; simp only [unmsk, Heap.del]
    by_cases hj : j = i
    · subst hj; simp only [h, if_true, if_false]
    · simp only [hj, if_false]
theorem set_past {H : Heap} {i j : Nat} {a c : AObj} (h : ¬ i = j) : (H.set i a).set j c = (H.set j c).set i a := by
  funext k; simp only [Heap.set]
  by_cases h1 : k = j
  · subst h1; rw [if_pos rfl, if_neg (fun h2 => h h2.symm), if_pos rfl]
  · rw [if_neg h1]
    by_cases h2 : k = i
    · rw [if_pos h2, if_pos h2]
    · rw [if_neg h2, if_neg h2, if_neg h1]
theorem dedup1 {H : Heap} {i j0 : Nat} {a c b0 : AObj} (h0 : ¬ j0 = i) : ((H.set i a).set j0 b0).set i c = ((H.set i c).set j0 b0) := by rw [set_past h0, Heap.set_set]
theorem dedup2 {H : Heap} {i j0 j1 : Nat} {a c b0 b1 : AObj} (h0 : ¬ j0 = i) (h1 : ¬ j1 = i) : (((H.set i a).set j0 b0).set j1 b1).set i c = (((H.set i c).set j0 b0).set j1 b1) := by rw [set_past h1, dedup1 h0]
theorem dedup3 {H : Heap} {i j0 j1 j2 : Nat} {a c b0 b1 b2 : AObj} (h0 : ¬ j0 = i) (h1 : ¬ j1 = i) (h2 : ¬ j2 = i) : ((((H.set i a).set j0 b0).set j1 b1).set j2 b2).set i c = ((((H.set i c).set j0 b0).set j1 b1).set j2 b2) := by rw [set_past h2, dedup2 h0 h1]
theorem dedup4 {H : Heap} {i j0 j1 j2 j3 : Nat} {a c b0 b1 b2 b3 : AObj} (h0 : ¬ j0 = i) (h1 : ¬ j1 = i) (h2 : ¬ j2 = i) (h3 : ¬ j3 = i) : (((((H.set i a).set j0 b0).set j1 b1).set j2 b2).set j3 b3).set i c = (((((H.set i c).set j0 b0).set j1 b1).set j2 b2).set j3 b3) := by rw [set_past h3, dedup3 h0 h1 h2]
theorem dedup5 {H : Heap} {i j0 j1 j2 j3 j4 : Nat} {a c b0 b1 b2 b3 b4 : AObj} (h0 : ¬ j0 = i) (h1 : ¬ j1 = i) (h2 : ¬ j2 = i) (h3 : ¬ j3 = i) (h4 : ¬ j4 = i) : ((((((H.set i a).set j0 b0).set j1 b1).set j2 b2).set j3 b3).set j4 b4).set i c = ((((((H.set i c).set j0 b0).set j1 b1).set j2 b2).set j3 b3).set j4 b4) := by rw [set_past h4, dedup4 h0 h1 h2 h3]
theorem dedup6 {H : Heap} {i j0 j1 j2 j3 j4 j5 : Nat} {a c b0 b1 b2 b3 b4 b5 : AObj} (h0 : ¬ j0 = i) (h1 : ¬ j1 = i) (h2 : ¬ j2 = i) (h3 : ¬ j3 = i) (h4 : ¬ j4 = i) (h5 : ¬ j5 = i) : (((((((H.set i a).set j0 b0).set j1 b1).set j2 b2).set j3 b3).set j4 b4).set j5 b5).set i c = (((((((H.set i c).set j0 b0).set j1 b1).set j2 b2).set j3 b3).set j4 b4).set j5 b5) := by rw [set_past h5, dedup5 h0 h1 h2 h3 h4]
theorem dedup7 {H : Heap} {i j0 j1 j2 j3 j4 j5 j6 : Nat} {a c b0 b1 b2 b3 b4 b5 b6 : AObj} (h0 : ¬ j0 = i) (h1 : ¬ j1 = i) (h2 : ¬ j2 = i) (h3 : ¬ j3 = i) (h4 : ¬ j4 = i) (h5 : ¬ j5 = i) (h6 : ¬ j6 = i) : ((((((((H.set i a).set j0 b0).set j1 b1).set j2 b2).set j3 b3).set j4 b4).set j5 b5).set j6 b6).set i c = ((((((((H.set i c).set j0 b0).set j1 b1).set j2 b2).set j3 b3).set j4 b4).set j5 b5).set j6 b6) := by rw [set_past h6, dedup6 h0 h1 h2 h3 h4 h5]
theorem del_nil {i : Nat} : Heap.nil.del i = Heap.nil := by funext k; simp only [Heap.del, Heap.nil]; split <;> rfl
theorem del_set_eq {H : Heap} {i : Nat} {a : AObj} : (H.set i a).del i = H.del i := by
  funext k; simp only [Heap.set, Heap.del]; split <;> rfl
theorem del_set_ne {H : Heap} {i j : Nat} {a : AObj} (h : ¬ i = j) : (H.set j a).del i = (H.del i).set j a := by
  funext k; simp only [Heap.set, Heap.del]
  by_cases h1 : k = i
  · subst h1; simp [h]
  · simp [h1]
end
attribute [go_sem] dedup1 dedup2 dedup3 dedup4 dedup5 dedup6 dedup7 del_nil del_set_eq del_set_ne Nat.reduceLT mskS_set msk_hnil msk_del kpm_set kpm_hnil kpm_del unmsk_hnil unmskS_set unmsk_del
end Go.AM
end

section
/- The engine, part Zc: calls to which many blocks are handed, by lists of names. -/
namespace Go.AM
open Go.RowKit
def nth (s : List Nat) (i : Nat) : Nat := s[i]?.getD 0
section
variable {P : Program} {H : Heap} {nx : Nat} {τ : Nat → Nat} {H0 : Heap}

theorem ACall.mutL {f : FuncId} {args0 args : List D} {K : D → Heap → Nat → Prop} {l0 : List (Nat × AObj)} {R : D → Heap → Nat → Prop} (s : List Nat) (h : ACall P f args0 (hp l0) s.length R) (hlen : args.length = args0.length)
    (hargs : ArgL H (nth s) s.length args0 args) (hO : OkO H (fun _ => False) (nth s) s.length l0) (hn : (l0.map fun p => nth s p.1).Nodup) (hs : ∀ x ∈ s, x < nx) (hd : s.Nodup)
    (hK : ∀ r H' n', s.length ≤ n' → R r H' n' → K (rnD (tau s.length nx (nth s)) r) (back (tau s.length nx (nth s)) H' n' H) (nx + (n' - s.length))) : ACall P f args H nx K :=
  ACall.lift h (nth s) hlen (argL_args hargs) (cvH_hp hO hn) (fun i hi => by rw [nth, List.getElem?_eq_getElem hi]; exact hs _ (List.getElem_mem hi))
    (fun i j hi hj he => by
      rw [nth, nth, List.getElem?_eq_getElem hi, List.getElem?_eq_getElem hj, Option.getD_some, Option.getD_some] at he
      exact (List.getElem_inj hd).1 he) hK
/-- A call that makes data that nobody writes any more, of what is the like. -/
theorem ACall.freshA {f : FuncId} {args0 args : List D} {K : D → Heap → Nat → Prop} {R : D → Prop} (h : ACall P f args0 .nil 0 fun r _ n => n = 0 ∧ r.imm = true ∧ R r) (hlen : args.length = args0.length) (hargs : ArgL H (nth []) 0 args0 args) (hK : ∀ r, R r → K r H nx) : ACall P f args H nx K := by
  refine ACall.mutL (l0 := []) [] h hlen hargs trivial (by simp) (by simp) (by simp) fun r H' n' _ ⟨h1, h2, h3⟩ => ?_
  subst h1
  rw [rnD_imm h2]
  exact hK r h3
theorem rnO_eInt {n m : Nat} {l : List Int} : AObj.rn τ ⟨n, m, l.map eInt⟩ = ⟨n, m, l.map eInt⟩ := by
  refine rnO_imm fun r hr x hx => ?_
  obtain ⟨y, _, rfl⟩ := List.mem_map.1 hr
  simp only [eInt, List.mem_singleton] at hx; subst hx; rfl
theorem back0 : back τ H0 0 H = H := rfl
theorem back1 : back τ H0 1 H = H.upd (τ 0) ((H0 0).map (AObj.rn τ)) := rfl
theorem back2 : back τ H0 2 H = (H.upd (τ 0) ((H0 0).map (AObj.rn τ))).upd (τ 1) ((H0 1).map (AObj.rn τ)) := rfl
theorem back3 : back τ H0 3 H = (back τ H0 2 H).upd (τ 2) ((H0 2).map (AObj.rn τ)) := rfl
theorem back4 : back τ H0 4 H = (back τ H0 3 H).upd (τ 3) ((H0 3).map (AObj.rn τ)) := rfl
theorem back5 : back τ H0 5 H = (back τ H0 4 H).upd (τ 4) ((H0 4).map (AObj.rn τ)) := rfl
theorem back6 : back τ H0 6 H = (back τ H0 5 H).upd (τ 5) ((H0 5).map (AObj.rn τ)) := rfl
theorem back7 : back τ H0 7 H = (back τ H0 6 H).upd (τ 6) ((H0 6).map (AObj.rn τ)) := rfl
theorem back8 : back τ H0 8 H = (back τ H0 7 H).upd (τ 7) ((H0 7).map (AObj.rn τ)) := rfl
theorem back9 : back τ H0 9 H = (back τ H0 8 H).upd (τ 8) ((H0 8).map (AObj.rn τ)) := rfl
theorem back10 : back τ H0 10 H = (back τ H0 9 H).upd (τ 9) ((H0 9).map (AObj.rn τ)) := rfl
theorem cvV_agg {F : Nat → Prop} {σ : Nat → Nat} {nh : Nat} {xs ys : List D1} (h : CvL H F σ nh xs ys) : CvV H F σ nh (.agg xs) (.agg ys) := h
theorem cvV_c {F : Nat → Prop} {σ : Nat → Nat} {nh : Nat} {x y : D1} (h : Cv1 H F σ nh x y) : CvV H F σ nh (.c x) (.c y) := h
theorem cvD_t2 {F : Nat → Prop} {σ : Nat → Nat} {nh : Nat} {a b x y : DV} (h1 : CvV H F σ nh a x) (h2 : CvV H F σ nh b y) : CvD H F σ nh (.tup [a, b]) (.tup [x, y]) :=
  ⟨rfl, fun i u v hu hv => by
    match i with
    | 0 => simp at hu hv; subst hu; subst hv; exact h1
    | 1 => simp at hu hv; subst hu; subst hv; exact h2
    | i + 2 => simp at hu⟩
theorem cvD_t3 {F : Nat → Prop} {σ : Nat → Nat} {nh : Nat} {a b c x y z : DV} (h1 : CvV H F σ nh a x) (h2 : CvV H F σ nh b y) (h3 : CvV H F σ nh c z) : CvD H F σ nh (.tup [a, b, c]) (.tup [x, y, z]) :=
  ⟨rfl, fun i u v hu hv => by
    match i with
    | 0 => simp at hu hv; subst hu; subst hv; exact h1
    | 1 => simp at hu hv; subst hu; subst hv; exact h2
    | 2 => simp at hu hv; subst hu; subst hv; exact h3
    | i + 3 => simp at hu⟩
theorem upd_none {i : Nat} : H.upd i none = H.del i := rfl
theorem tau_lt {n0 i : Nat} {s : List Nat} (h : i < n0) : tau n0 nx (nth s) i = nth s i := by simp [tau, h]
theorem tau_ge {n0 i : Nat} {s : List Nat} (h : ¬ i < n0) : tau n0 nx (nth s) i = nx + (i - n0) := by simp [tau, h]
end
end Go.AM
end

section
/- The engine, part Zd: further lemmas on names anew. -/
namespace Go.AM
open Go.RowKit
section
variable {P : Program} {H : Heap} {nx : Nat}
theorem cvO_snoc {F : Nat → Prop} {σ : Nat → Nat} {nh n m m' : Nat} {R rows' rows : List (List D1)} {r' r : List D1} (e' : rows' = R ++ [r']) (e : rows = R ++ [r]) (hR : ∀ r ∈ R, ∀ x ∈ r, x.immB = true) (hm : m' = m) (h : CvL H F σ nh r' r) : CvO H F σ nh ⟨n, m', rows'⟩ ⟨n, m, rows⟩ := by
  subst e'; subst e; subst hm
  refine ⟨rfl, rfl, by simp, fun _ h => by simp at h, fun i r1 h1 => ?_⟩
  simp only [List.getElem?_append] at h1 ⊢
  by_cases hi : i < R.length
  · rw [if_pos hi] at h1 ⊢
    exact ⟨r1, h1, cvL_imm fun x hx => hR r1 (List.mem_of_getElem? h1) x hx⟩
  · rw [if_neg hi] at h1 ⊢
    rw [List.getElem?_singleton] at h1 ⊢
    split at h1
    · rename_i h0; cases h1; exact ⟨r, if_pos h0, h⟩
    · cases h1
theorem frz_of_cv1 {F : Nat → Prop} {σ : Nat → Nat} {nh : Nat} {x y : D1} (hx : x.immB = true) (h : Cv1 H F σ nh x y) : Frz H F x y := by
  cases h with
  | frz h => exact h
  | osl => cases hx
  | osl0 => cases hx
  | ptr => cases hx
  | omap => cases hx
  | clo => cases hx
  | dead => cases hx
theorem cvD_frzptrC {F : Nat → Prop} {σ σ' : Nat → Nat} {nh nh' : Nat} {cells r : List D1} {n id : Nat} {o : AObj} (hi : cells.all D1.immB = true) (h : CvL H F σ nh cells r) (hF : F id) (ho : H id = some o) (hn : o.n = n) (hr : o.rows[0]? = some r) : CvD H F σ' nh' (.one (.c (.iptr cells))) (.one (.c (.ptr n id 0 0))) := by
  refine .frz (.ptr cells n id 0 0 o r (fun j => (r[j]?).getD .dead) hF ho hn hr (fun j d' hd => ?_) (fun j d' hd => ?_))
  · have hj : j < r.length := by rw [← h.1]; exact (List.getElem?_eq_some_iff.1 hd).1
    rw [Nat.zero_add, List.getElem?_eq_getElem hj]; rfl
  · have hj : j < r.length := by rw [← h.1]; exact (List.getElem?_eq_some_iff.1 hd).1
    have h2 := h.2 j d' r[j] hd (List.getElem?_eq_getElem hj)
    rw [List.getElem?_eq_getElem hj]
    exact frz_of_cv1 (List.all_eq_true.1 hi d' (List.mem_of_getElem? hd)) h2
/-- Names anew between two steps. -/
theorem AWPL.convL {T : Nat} {e : Env} {Q : AQ} {x : AC} {zs : List AC} (m : Nat) (e' : Env) (H' : Heap) (h0 : ∃ F σ, Cv nx e H (nx + m) e' H' F σ) (h : AWPL P T (x :: zs) e' H' (nx + m) Q) : AWPL P T (x :: zs) e H nx Q := by
  obtain ⟨F, σ, hcv⟩ := h0
  exact AWPL.conv hcv h
theorem wv_isnil {b : Nat} {live : List Nat} {K : Env → Heap → Nat → Prop} {L : List AOper} {dst : Option Nat} {e : Env} {S : Looks} {ix : Nat} {xs : List Opnd} {m s : List Nat} {lk : Bool} {neg : Bool} : wv P b live K (⟨ix, dst, .xop (.isnil neg) xs, none, m, s, lk⟩ :: L) e H nx S = xl P (b + ix) (msk b m H) nx (callK P b live K L dst m s e H S) (.isnil neg) (xs.map (·.ev e)) := wv_x rfl
theorem wv_copy {b : Nat} {live : List Nat} {K : Env → Heap → Nat → Prop} {L : List AOper} {dst : Option Nat} {e : Env} {S : Looks} {ix : Nat} {xs : List Opnd} {m s : List Nat} {lk : Bool} {n : Nat} : wv P b live K (⟨ix, dst, .xop (.copy n) xs, none, m, s, lk⟩ :: L) e H nx S = xl P (b + ix) (msk b m H) nx (callK P b live K L dst m s e H S) (.copy n) (xs.map (·.ev e)) := wv_x rfl
theorem wv_clear {b : Nat} {live : List Nat} {K : Env → Heap → Nat → Prop} {L : List AOper} {dst : Option Nat} {e : Env} {S : Looks} {ix : Nat} {xs : List Opnd} {m s : List Nat} {lk : Bool} {n : Nat} {z : List D1} : wv P b live K (⟨ix, dst, .xop (.clear n z) xs, none, m, s, lk⟩ :: L) e H nx S = xl P (b + ix) (msk b m H) nx (callK P b live K L dst m s e H S) (.clear n z) (xs.map (·.ev e)) := wv_x rfl
theorem wv_appz {b : Nat} {live : List Nat} {K : Env → Heap → Nat → Prop} {L : List AOper} {dst : Option Nat} {e : Env} {S : Looks} {ix : Nat} {xs : List Opnd} {m s : List Nat} {lk : Bool} {n : Nat} {z : List D1} : wv P b live K (⟨ix, dst, .xop (.appz n z) xs, none, m, s, lk⟩ :: L) e H nx S = xl P (b + ix) (msk b m H) nx (callK P b live K L dst m s e H S) (.appz n z) (xs.map (·.ev e)) := wv_x rfl
theorem wv_xext {b : Nat} {live : List Nat} {K : Env → Heap → Nat → Prop} {L : List AOper} {dst : Option Nat} {e : Env} {S : Looks} {ix : Nat} {xs : List Opnd} {m s : List Nat} {lk : Bool} {f : FuncId} : wv P b live K (⟨ix, dst, .xop (.xext f) xs, none, m, s, lk⟩ :: L) e H nx S = xl P (b + ix) (msk b m H) nx (callK P b live K L dst m s e H S) (.xext f) (xs.map (·.ev e)) := wv_x rfl
theorem wv_mkmap {b : Nat} {live : List Nat} {K : Env → Heap → Nat → Prop} {L : List AOper} {dst : Option Nat} {e : Env} {S : Looks} {ix : Nat} {xs : List Opnd} {m s : List Nat} {lk : Bool} {kn : Nat} {bl : Bool} : wv P b live K (⟨ix, dst, .xop (.mkmap kn bl) xs, none, m, s, lk⟩ :: L) e H nx S = xl P (b + ix) (msk b m H) nx (callK P b live K L dst m s e H S) (.mkmap kn bl) (xs.map (·.ev e)) := wv_x rfl
theorem wv_maplen {b : Nat} {live : List Nat} {K : Env → Heap → Nat → Prop} {L : List AOper} {dst : Option Nat} {e : Env} {S : Looks} {ix : Nat} {xs : List Opnd} {m s : List Nat} {lk : Bool}  : wv P b live K (⟨ix, dst, .xop .maplen xs, none, m, s, lk⟩ :: L) e H nx S = xl P (b + ix) (msk b m H) nx (callK P b live K L dst m s e H S) .maplen (xs.map (·.ev e)) := wv_x rfl
theorem wv_mapget {b : Nat} {live : List Nat} {K : Env → Heap → Nat → Prop} {L : List AOper} {dst : Option Nat} {e : Env} {S : Looks} {ix : Nat} {xs : List Opnd} {m s : List Nat} {lk : Bool} {kn : Nat} {bl ok : Bool} : wv P b live K (⟨ix, dst, .xop (.mapget kn bl ok) xs, none, m, s, lk⟩ :: L) e H nx S = xl P (b + ix) (msk b m H) nx (callK P b live K L dst m s e H S) (.mapget kn bl ok) (xs.map (·.ev e)) := wv_x rfl
theorem wv_mapset {b : Nat} {live : List Nat} {K : Env → Heap → Nat → Prop} {L : List AOper} {dst : Option Nat} {e : Env} {S : Looks} {ix : Nat} {xs : List Opnd} {m s : List Nat} {lk : Bool} {kn : Nat} {bl : Bool} : wv P b live K (⟨ix, dst, .xop (.mapset kn bl) xs, none, m, s, lk⟩ :: L) e H nx S = xl P (b + ix) (msk b m H) nx (callK P b live K L dst m s e H S) (.mapset kn bl) (xs.map (·.ev e)) := wv_x rfl
theorem cvO_setR {F : Nat → Prop} {σ : Nat → Nat} {nh n m m' : Nat} {R rows' rows : List (List D1)} {r' r : List D1} {i : Nat} (e' : rows' = R) (e : rows = R.set i r) (hi : R[i]? = some r') (hR : ∀ r ∈ R, ∀ x ∈ r, x.immB = true) (hm : m' = m) (h : CvL H F σ nh r' r) : CvO H F σ nh ⟨n, m', rows'⟩ ⟨n, m, rows⟩ := by
  subst e'; subst e; subst hm
  refine ⟨rfl, rfl, by simp, fun _ h => by dsimp only at h ⊢; rw [h]; rfl, fun j r1 h1 => ?_⟩
  simp only [List.getElem?_set]
  by_cases hj : i = j
  · subst hj
    have hlt : i < rows'.length := (List.getElem?_eq_some_iff.1 h1).1
    rw [if_pos rfl, if_pos hlt]
    rw [hi] at h1; cases h1
    exact ⟨r, rfl, h⟩
  · rw [if_neg hj]
    exact ⟨r1, h1, cvL_imm fun x hx => hR r1 (List.mem_of_getElem? h1) x hx⟩
theorem mapD {α : Type} [Inhabited α] {enc : α → List D1} {l : List α} {k : Nat} (h : k < l.length) : (l.map enc)[k]? = some (enc (l.getD k default)) := by
  simp [List.getD, h]
theorem iteP {c : Prop} [Decidable c] {A B : Prop} (h1 : c → A) (h2 : ¬ c → B) : if c then A else B := by
  split
  · exact h1 ‹_›
  · exact h2 ‹_›
attribute [go_sem] wv_isnil wv_copy wv_clear wv_appz wv_xext wv_mkmap wv_maplen wv_mapget wv_mapset
end
end Go.AM
end

section
/- The engine, part Ze: slices that lie apart. -/
namespace Go.AM
open Go.RowKit
theorem AExt_apart {P : Program} {f : FuncId} {fn : Func} (hf : P.funcs[f]? = some fn) (hname : (fn.name == "runtime.NumGoroutine") = false) (hb : fn.body.isNone = true) (hnx : Extern.findNext fn = none) {tS tR el : TypeId}
    (he : Extern.find fn = some (Extern.SlicesOverlaps.overlaps #[tS, tS] #[tR])) (ht : P.underlying tS = some (.slice el)) {size : Nat} (hz : ∀ w, (Go.sizeOf el).run P w = .ok size w)
    {H : Heap} {nx : Nat} {K : D → Heap → Nat → Prop} {n n' i j off off' len len' cap cap' : Nat} {oi oj : AObj} (hi : H i = some oi) (hj : H j = some oj) (hij : i ≠ j) (h1 : 0 < oi.ext) (h2 : 0 < oj.ext) (hn : 0 < oj.n) (hc : 0 < cap) (hc' : 0 < cap') (hoff : off * n < oi.ext * oi.n)
    (hK : K (bD false) H nx) : AExt P f [.one (.c (.osl n i off len cap)), .one (.c (.osl n' j off' len' cap'))] H nx K := by
  intro c vs hst hl hr
  match vs, hl with
  | [v1, v2], _ =>
    have r1 := hr 0 _ v1 rfl rfl
    have r2 := hr 1 _ v2 rfl rfl
    simp only [RelD, RelV, Rel, Rel0] at r1 r2
    obtain ⟨_, r1 | ⟨_, _, rfl⟩⟩ := r1
    · omega
    obtain ⟨_, r2 | ⟨_, _, rfl⟩⟩ := r2
    · omega
    have hni : 0 < oi.n := Nat.pos_of_ne_zero fun h => by rw [h, Nat.mul_zero] at hoff; exact absurd hoff (Nat.not_lt_zero _)
    obtain ⟨ai, Ti, b1, b2⟩ := (hst.blk i oi hi h1).cells (fun hm => by have := hm.1; omega)
    obtain ⟨aj, Tj, b3, b4⟩ := (hst.blk j oj hj h2).cells (fun hm => by have := hm.1; omega)
    have hne := hst.sep i j oi oj hi hj h1 h2 hij
    refine ⟨.bool false, bD false, ?_, .v _ rfl, hK⟩
    have hp : 0 < oj.ext * oj.n := Nat.mul_pos h2 hn
    rw [run_callFunc_extern hf hname hb hnx he]
    have := Lib.run_overlaps_apart c.w tS tR el ht size hz ⟨(c.ρ i).1, (c.ρ i).2 + off * n, none⟩ ⟨(c.ρ j).1, (c.ρ j).2 + off' * n', none⟩ len cap len' cap' hne Ti Tj ai.size aj.size (by simp [World.shape?, b1]) (by simp [World.shape?, b3]) (by omega) (by simp [World.frozen?, b1]) (by simp [World.frozen?, b1])
    rw [show ([(Value.slice (some ⟨(c.ρ i).1, (c.ρ i).2 + off * n, none⟩) len cap), (Value.slice (some ⟨(c.ρ j).1, (c.ρ j).2 + off' * n', none⟩) len' cap')] : List Value).toArray = #[.slice (some ⟨(c.ρ i).1, (c.ρ i).2 + off * n, none⟩) len cap, .slice (some ⟨(c.ρ j).1, (c.ρ j).2 + off' * n', none⟩) len' cap'] from rfl, this]
    rfl
theorem xlC_copy {H : Heap} {nx n id off len cap id' off' len' cap' : Nat} {R : D → Heap → Nat → Prop} {o o' : AObj} (k : Nat) (hk : k = min len' len) (h1 : H id = some o) (h2 : H id' = some o') (hn : o.n = n) (hn' : o'.n = n) (h0 : 0 < n) (hc : 0 < cap) (he : 0 < o.ext) (ho : off ≤ o.rows.length) (hoe : off + k ≤ o.ext)
    (h3 : off' + k ≤ o'.rows.length) (hr : R (.one (.c (.v (.int .i64 k)))) (H.set id ⟨n, o.ext, wr o.rows off ((o'.rows.drop off').take k)⟩) nx) : xlC H nx R (copyD H n (.one (.c (.osl n id off len cap))) (.one (.c (.osl n id' off' len' cap')))) := by
  subst hk
  have e : copyD H n (.one (.c (.osl n id off len cap))) (.one (.c (.osl n id' off' len' cap'))) = some (id, ⟨n, o.ext, wr o.rows off ((o'.rows.drop off').take (min len' len))⟩, min len' len) := by
    unfold copyD
    simp only [h1, lenS, takeS, srcRows, h2]
    simp [hn, hn', h0, hc, he, ho, hoe, h3, Nat.ne_of_gt h0]
  rw [e]
  exact hr
theorem cvO_pre {H : Heap} {F : Nat → Prop} {σ : Nat → Nat} {nh n m m' : Nat} {rows' rows junk : List (List D1)} (hi : ∀ r ∈ rows', ∀ x ∈ r, x.immB = true) (h : rows = rows' ++ junk) (hm : m' = m) (hn0 : n ≠ 0) : CvO H F σ nh ⟨n, m', rows'⟩ ⟨n, m, rows⟩ := by
  subst h; subst hm
  refine ⟨rfl, rfl, by simp, fun h0 _ => absurd h0 hn0, fun i r h1 => ?_⟩
  refine ⟨r, ?_, cvL_imm fun x hx => hi r (List.mem_of_getElem? h1) x hx⟩
  rw [List.getElem?_append_left (List.getElem?_eq_some_iff.1 h1).1]; exact h1
end Go.AM
end

section
/- The engine, part Zf: short words for printed code, and the entry of a function in one line. -/
namespace Go.AM
@[reducible, go_sem] def rq (i t : Nat) (o : AOp) : AOper := ⟨i, some t, o, none, [], [], false⟩
@[reducible, go_sem] def rn (i : Nat) (o : AOp) : AOper := ⟨i, none, o, none, [], [], false⟩
@[reducible, go_sem] def ki (n : Int) : Opnd := .kv (.int .i64 n)
@[reducible] def cz (i : Nat) : Nat × List Nat × List Nat × Bool := (i, [], [], false)
/-- The entry of a function: its printed code is what it does. -/
def EnTy (P : Program) (f : FuncId) (fn : Func) (ac : AC) (rs : List ResV) : Prop :=
  ∀ {args : List D} {H : Heap} {nx : Nat} {KK : D → Heap → Nat → Prop} (_hl : Nat.ble args.length fn.ntmps = true)
    (_h : ∀ Q : AQ, (∀ ex e2 H2 nx2 d nh d2 H3 F σ, ex = .normal ∨ ex = .ret → resD H2 e2 rs = some d → CvR nx d H2 nh d2 H3 F σ → KK d2 H3 nh → Q ex e2 H2 nx2) → AWPL P fn.ntmps [ac] (Env.args 0 args) H nx Q), ACall P f args H nx KK
theorem EnTy.mk {P : Program} {f : FuncId} {fn : Func} {ac : AC} {rs : List ResV} {cs : List Cert}
    (hf : P.funcs[f]? = some fn) (hok : okCallee P f = true) (hc : compF P fn cs = some (ac, rs)) : EnTy P f fn ac rs :=
  fun hl h => ACall.body hf hok hc (Nat.le_of_ble_eq_true hl) h
/- Short names for the steps that the printed walks take again and again. -/
theorem dbT {p : Prop} [Decidable p] (h : p) : D1.v (.bool (decide p)) = .v (.bool true) := by rw [decide_eq_true h]
theorem dbF {p : Prop} [Decidable p] (h : ¬ p) : D1.v (.bool (decide p)) = .v (.bool false) := by rw [decide_eq_false h]
theorem dbE {p q : Prop} [Decidable p] [Decidable q] (h : p ↔ q) : D1.v (.bool (decide p)) = .v (.bool (decide q)) := by rw [decide_eq_decide.2 h]
theorem diE {a b : Int} (h : a = b) : D1.v (.int .i64 a) = .v (.int .i64 b) := by rw [h]
abbrev C0 := @cv1_id
abbrev D0 := @cvD_id
abbrev C1 := @cvE_enil
abbrev C2 := @cvE_cons
abbrev C3 := @cvL_nil
abbrev C4 := @cvL_cons
abbrev C5 := @cvD_t2
abbrev C6 := @cvD_t3
abbrev C7 := @cvV_agg
abbrev C8 := @cvV_c
abbrev C9 := @cvD_agg
abbrev CJ := @cvD_c
abbrev CA := @cvD_im
abbrev CB := @cv1_imm
abbrev CC := @cv1_nil
abbrev CQ := @cv1_oslE
abbrev CE := @cv1_ptr
abbrev CR := @cv1_omap
abbrev CF := @cv1_frz0
abbrev CG := @cv1_e
abbrev CH := @cv1_cloI
abbrev CI := @cvD_frzptr
abbrev Z1 := @AWPL.seq
abbrev Z2 := @AWPL.skip
abbrev Z3 := @AWPL.block
abbrev Z4 := @cK_dT
abbrev Z5 := @cK_dF
abbrev Z6 := @cK_d
abbrev Z7 := @iteP
abbrev Z8 := @cK_b
abbrev Y1 := @AWPL.sreg
abbrev Y2 := @AWPL.reg
abbrev Y3 := @AWPL.condK
abbrev Y4 := @wvH_dT
abbrev Y5 := @wvH_dF
abbrev Y6 := @wvH_d
abbrev Y7 := @wvH_b
abbrev Y8 := @AWPL.ret
abbrev Y9 := @AWPL.exit
abbrev Y0 := @AWPL.nil
abbrev Iw := @IntWalk.i64_in
end Go.AM
end
