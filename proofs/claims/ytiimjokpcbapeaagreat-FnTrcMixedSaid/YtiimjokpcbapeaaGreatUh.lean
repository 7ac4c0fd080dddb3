/- Contract: whether two lists are the same but for the order of what is apart, of the program. -/
import Derived.Test.YtiimjokpcbapeaaGreatAcLTrcSame
import Derived.Test.YtiimjokpcbapeaaGreatUg
import Derived.Test.YtiimjokpcbapeaaGreatMzd
set_option linter.unusedVariables false
set_option linter.unusedSimpArgs false
set_option linter.unusedSectionVars false
namespace Go.Proofs.YtiimjokpcbapeaaGreat
open Go Go.AM
set_option maxRecDepth 100000
set_option maxHeartbeats 8000000
section
variable {H : Heap} {nx : Nat} {K : D → Heap → Nat → Prop}
def evOkP (c : Cfg) (e : Ev) : Prop := (1 ≤ e.kind ∧ e.kind ≤ 3) ∧ asksP c e.who e.n
instance {c : Cfg} {e : Ev} : Decidable (evOkP c e) := by unfold evOkP; infer_instance
theorem c_impl_BusCfg_traced_1 (c : Cfg) (e : Ev) (hc : CfgFit c) (hp : c.progs.length = 3) : ACall Tryz.prog n_impl_BusCfg_traced_1 [dA (eEv e), .one (.c (.iptr (eCfg c)))] .nil 0 fun rr _ _ => rr.plain = true ∧ rr = dB (decide (¬ evOkP c e)) := by
  refine en_impl_BusCfg_traced_1 rfl fun Q hQ => ?_
  unfold ac_impl_BusCfg_traced_1
  repeat' (first | (with_reducible first | (refine hK _ _ _ ?_; clear hK K) | refine Z1 ?_) | (first | (with_reducible refine Y2 fun K hK => ?_) | (with_reducible refine a_impl_BusCfg_kind (e := e) hc hp ?_)) <;> (simp only [go_sem]) | ((with_reducible refine Y8 ?_); try simp only [AQ.then, AQ.blk, reduceIte, Nat.reduceEqDiff]) | fail)
  all_goals first | with_reducible refine exitP hQ _ rfl rfl ?_ | skip
  all_goals first | exact dB_e (by omega) | exact dB_t (by omega) | exact dB_f (by omega) | rfl
theorem a_impl_BusCfg_traced_1 {c : Cfg} {e : Ev} (hc : CfgFit c) (hp : c.progs.length = 3)  (h : K (dB (decide (¬ evOkP c e))) H nx) : ACall Tryz.prog n_impl_BusCfg_traced_1 [dA (eEv e), .one (.c (.iptr (eCfg c)))] H nx K :=
  (c_impl_BusCfg_traced_1 c e hc hp).pure rfl (lentL_args ⟨cvD_im rfl, cvD_im rfl, trivial⟩) (fun r hr => hr ▸ h)
theorem c_impl_BusCfg_traced (c : Cfg) (l : List Ev) (hb : BusOkP c) (hc : CfgFit c) (hl : l.length ≤ 200) (hk : ∀ e ∈ l, evOkP c e) : ACall Tryz.prog n_impl_BusCfg_traced [dA (eCfg c), dS (l.map eEv)] .nil 0 fun rr _ _ => rr.plain = true ∧ rr = dB true := by
  refine en_impl_BusCfg_traced rfl fun Q hQ => ?_
  unfold ac_impl_BusCfg_traced
  obtain ⟨hp3, hp12⟩ := busOk_prog hb
  have hno : ¬ 0 ≤ idxM (fun e => decide (¬ evOkP c e)) l := by
    rw [idxM_nonneg]; rintro ⟨e, he, h⟩; exact of_decide_eq_true h (hk e he)
  repeat' (first | (with_reducible first | (refine hK _ _ _ ?_; clear hK K) | refine Z1 ?_) | (first | (with_reducible first | refine Y2 fun K hK => ?_ | refine Y4 (by omega) ?_) | (refine a_impl_BusOk hc ?_) | (refine a_slices_ContainsFunc_ZTlmEvent_TlmEvent (l := l) (caps := [.iptr (eCfg c)]) (p := fun e => decide (¬ evOkP c e)) (by omega) (by simp [(eCfg_ok c).2, D1.immB]) (cvD_im rfl) (cvD_clo ⟨frz_ptr (eCfg_ok c).2 trivial rfl rfl rfl, trivial⟩) (fun e _ H nx K h => a_impl_BusCfg_traced_1 hc hp3 h) ?_)) <;> (simp only [go_sem, eq_true hb, eq_false hno]) | ((with_reducible refine Y8 ?_); try simp only [AQ.then, AQ.blk, reduceIte, Nat.reduceEqDiff]) | fail)
  all_goals exact exitP hQ _ rfl rfl rfl
theorem a_impl_BusCfg_traced {c : Cfg} {l : List Ev} (hb : BusOkP c) (hc : CfgFit c) (hl : l.length ≤ 200) (hk : ∀ e ∈ l, evOkP c e)  (h : K (dB true) H nx) : ACall Tryz.prog n_impl_BusCfg_traced [dA (eCfg c), dS (l.map eEv)] H nx K :=
  (c_impl_BusCfg_traced c l hb hc hl hk).pure rfl (lentL_args ⟨cvD_im rfl, cvD_im rfl, trivial⟩) (fun r hr => hr ▸ h)
def keyE (e : Ev) : List Int := [e.kind, e.who, e.n]
theorem keyE_inj {a b : Ev} (h : keyE a = keyE b) : a = b := by
  obtain ⟨a1, a2, a3⟩ := a; obtain ⟨b1, b2, b3⟩ := b
  simp only [keyE, List.cons.injEq, and_true] at h
  obtain ⟨rfl, rfl, rfl⟩ := h; rfl
/-- Entries for the first so many. -/
def mapE (f : Nat → Int) (l : List Ev) : List (List Int × Int) := l.zipIdx.map fun p => (keyE p.1, f p.2)
theorem mapE_snoc {f : Nat → Int} {l : List Ev} {e : Ev} : mapE f (l ++ [e]) = mapE f l ++ [(keyE e, f l.length)] := by
  simp [mapE, List.zipIdx_append]
theorem mapE_mem {f : Nat → Int} {l : List Ev} {p : List Int × Int} : p ∈ mapE f l ↔ ∃ i e, l[i]? = some e ∧ p = (keyE e, f i) := by
  simp only [mapE, List.mem_map, List.mem_zipIdx_iff_getElem?, Prod.exists]
  constructor
  · rintro ⟨e, i, h1, h2⟩; exact ⟨i, e, h1, h2.symm⟩
  · rintro ⟨i, e, h1, h2⟩; exact ⟨e, i, h1, h2.symm⟩
theorem mapE_none {f : Nat → Int} {l : List Ev} {e : Ev} (h : e ∉ l) : getM' (mapE f l) (keyE e) = none := by
  unfold getM'
  rw [Option.map_eq_none_iff, List.find?_eq_none]
  intro p hp hx
  obtain ⟨i, e', h1, rfl⟩ := mapE_mem.1 hp
  have := keyE_inj (of_decide_eq_true hx)
  subst this
  exact h (List.mem_of_getElem? h1)
theorem mapE_get {f : Nat → Int} {l : List Ev} (hn : l.Nodup) {i : Nat} {e : Ev} (h : l[i]? = some e) : getM' (mapE f l) (keyE e) = some (f i) := by
  unfold getM'
  cases hf : (mapE f l).find? fun p => decide (keyE e = p.1) with
  | none =>
    rw [List.find?_eq_none] at hf
    exact absurd (decide_eq_true rfl) (hf (keyE e, f i) (mapE_mem.2 ⟨i, e, h, rfl⟩))
  | some p =>
    have h1 := List.mem_of_find?_eq_some hf
    have h2 := List.find?_some hf
    obtain ⟨j, e', h3, rfl⟩ := mapE_mem.1 h1
    have := keyE_inj (of_decide_eq_true h2)
    subst this
    obtain ⟨hi1, hi2⟩ := List.getElem?_eq_some_iff.1 h
    obtain ⟨hj1, hj2⟩ := List.getElem?_eq_some_iff.1 h3
    have hij : i = j := (List.getElem_inj hn).1 (hi2.trans hj2.symm)
    subst hij; rfl
theorem setM_new {m : List (List Int × Int)} {l : List Int} {n : Int} (h : getM' m l = none) : setM m l n = m ++ [(l, n)] := by
  induction m with
  | nil => rfl
  | cons p m ih =>
    unfold getM' at h
    rw [Option.map_eq_none_iff, List.find?_cons] at h
    by_cases hl : l = p.1
    · simp [hl] at h
    · simp only [hl, decide_false] at h
      simp only [setM, hl, if_false, List.cons_append]
      rw [ih (by unfold getM'; rw [h]; rfl)]
theorem c_impl_TrcSame_1 (c : Cfg) (e f : Ev) (b : List Ev) (k i : Nat) (hb : BusOkP c) (hc : CfgFit c) (hf : evOkP c f) (he : evOkP c e) (hn : b.Nodup) (hi : b[i]? = some f) : ACall Tryz.prog n_impl_TrcSame_1 [dA (eEv f), .one (.c (.iptr (eCfg c))), .one (.c (.iptr (eEv e))), .one (.c (.iptr [.imap ⟨3, false, mapE (fun i => (i : Int)) b⟩])), .one (.c (.iptr [cI k]))] .nil 0 fun rr _ _ => rr.plain = true ∧ rr = dB (decide (¬ apartE c f e ∧ k < i)) := by
  refine en_impl_TrcSame_1 rfl fun Q hQ => ?_
  unfold ac_impl_TrcSame_1
  have hg := mapE_get (f := fun i => (i : Int)) hn hi
  have hie : intsD (eEv f) = some (keyE f) := rfl
  have hlk : (keyE f).length = 3 := rfl
  by_cases hap : apartE c f e
  · repeat' (first | (with_reducible first | (refine hK _ _ _ ?_; clear hK K) | refine Z1 ?_) | (first | (with_reducible refine Y2 fun K hK => ?_) | (refine a_impl_BusCfg_apart hb hc hf.2 he.2 ?_)) <;> (simp only [go_sem, eq_true hap]) | ((with_reducible refine Y8 ?_); try simp only [AQ.then, AQ.blk, reduceIte, Nat.reduceEqDiff]) | fail)
    exact exitP hQ (dB false) rfl rfl (dB_f (by simp [hap]))
  · repeat' (first | (with_reducible first | (refine hK _ _ _ ?_; clear hK K) | refine Z1 ?_) | (first | (with_reducible refine Y2 fun K hK => ?_) | (refine a_impl_BusCfg_apart hb hc hf.2 he.2 ?_)) <;> (simp only [go_sem, eq_false hap, hie, hg, Option.getD_some, hlk]) | ((with_reducible refine Y8 ?_); try simp only [AQ.then, AQ.blk, reduceIte, Nat.reduceEqDiff]) | fail)
    exact exitP hQ (dB (decide ((k : Int) < i))) rfl rfl (by simp [hap])
theorem a_impl_TrcSame_1 {c : Cfg} {e : Ev} {f : Ev} {b : List Ev} {k : Nat} {i : Nat} (hb : BusOkP c) (hc : CfgFit c) (hf : evOkP c f) (he : evOkP c e) (hn : b.Nodup) (hi : b[i]? = some f)  (h : K (dB (decide (¬ apartE c f e ∧ k < i))) H nx) : ACall Tryz.prog n_impl_TrcSame_1 [dA (eEv f), .one (.c (.iptr (eCfg c))), .one (.c (.iptr (eEv e))), .one (.c (.iptr [.imap ⟨3, false, mapE (fun i => (i : Int)) b⟩])), .one (.c (.iptr [cI k]))] H nx K :=
  (c_impl_TrcSame_1 c e f b k i hb hc hf he hn hi).pure rfl (lentL_args ⟨cvD_im rfl, cvD_im rfl, cvD_im rfl, cvD_im rfl, cvD_im rfl, trivial⟩) (fun r hr => hr ▸ h)
theorem get_idxOf {l : List Ev} {x : Ev} (h : x ∈ l) : l[l.idxOf x]? = some x := by
  have hlt := List.idxOf_lt_length_of_mem h
  rw [List.getElem?_eq_getElem hlt, List.getElem_idxOf hlt]
theorem same_no {c : Cfg} {a b : List Ev} (hpm : b.Perm a) (hord : b.Pairwise fun x y => ¬ (Bef a y x ∧ ¬ apartE c y x)) {k : Nat} (hk : k < a.length) :
    ¬ 0 ≤ idxM (fun f => decide (¬ apartE c f (a.getD k default) ∧ b.idxOf (a.getD k default) < b.idxOf f)) (a.take k) := by
  rw [idxM_nonneg]
  rintro ⟨f, hf, h⟩
  obtain ⟨h1, h2⟩ := of_decide_eq_true h
  have hka : a[k]? = some (a.getD k default) := by simp [List.getD, hk]
  have hfa := List.mem_of_mem_take hf
  obtain ⟨i, hi, hif⟩ := List.getElem_of_mem hf
  rw [List.length_take] at hi
  rw [List.getElem_take] at hif
  have hx := get_idxOf (hpm.mem_iff.2 hfa)
  have hy := get_idxOf (hpm.mem_iff.2 (List.mem_of_getElem? hka))
  obtain ⟨hx1, hx2⟩ := List.getElem?_eq_some_iff.1 hx
  obtain ⟨hy1, hy2⟩ := List.getElem?_eq_some_iff.1 hy
  have := List.pairwise_iff_getElem.1 hord _ _ hy1 hx1 h2
  rw [hx2, hy2] at this
  exact this ⟨⟨i, k, by omega, by rw [List.getElem?_eq_getElem (by omega), hif], hka⟩, h1⟩
theorem c_impl_TrcSame (c : Cfg) (a b : List Ev) (hb : BusOkP c) (hc : CfgFit c) (hl : a.length ≤ 200) (hk : ∀ e ∈ a, evOkP c e) (hna : a.Nodup) (hpm : b.Perm a) (hord : b.Pairwise fun x y => ¬ (Bef a y x ∧ ¬ apartE c y x)) : ACall Tryz.prog n_impl_TrcSame [dA (eCfg c), dS (a.map eEv), dS (b.map eEv)] .nil 0 fun rr _ _ => rr.plain = true ∧ rr = dB true := by
  refine en_impl_TrcSame rfl fun Q hQ => ?_
  unfold ac_impl_TrcSame
  have hnb : b.Nodup := hpm.nodup_iff.2 hna
  have hlb : b.length = a.length := hpm.length_eq
  have hkb : ∀ e ∈ b, evOkP c e := fun e he => hk e (hpm.mem_iff.1 he)
  repeat' (first | (with_reducible first | (refine hK _ _ _ ?_; clear hK K) | (refine hB ?_; clear hA hB A B) | refine Z1 ?_ | refine Z2 ?_ | refine Z3 fun KB hKB => ?_ | refine Z5 (by omega) ?_) | (first | (with_reducible first | refine Y2 fun K hK => ?_ | refine Y3 fun A B hA hB => ?_) | (refine a_impl_BusCfg_traced hb hc hl hk ?_) | (refine a_impl_BusCfg_traced (l := b) hb hc (by omega) hkb ?_)) <;> (simp only [go_sem]) | fail)
  (have hKX := hKB; clear hKB)
  refine AWPL.loopP 2 (β := Nat) (fun q k => en [(35, dI k), (34, dI b.length), (33, dS (b.map eEv)), (7, dP 1 (q + 1)), (3, .one (.c (.iptr (eCfg c)))), (1, dS (a.map eEv))]) (fun q k => hp [(q, mobj ⟨3, false, mapE (fun i => (i : Int)) (b.take k)⟩), (q + 1, ⟨1, 1, [[.omap q]]⟩)]) (fun k => k ≤ b.length) (fun k => b.length - k) 0 (by (refine cv_hp [19, 20] (by omega) (by repeat' (first | (with_reducible first | exact C1 | refine C2 ?_ ?_) | ((with_reducible refine C0 ?_); exact CE (by omega) rfl) | ((with_reducible refine D0 ?_); first | exact CA rfl | exact CI rfl (by simp) rfl rfl rfl | refine CJ ?_) | fail)) ⟨⟨by simp, by simp [sgL], _, rfl, cvO_mobj (by simp [mapE])⟩, ⟨by simp, by simp [sgL], _, rfl, cvO_one (by repeat' (first | (with_reducible first | exact C3 | refine C4 ?_ ?_) | ((with_reducible refine C0 ?_); exact CR (by omega) rfl) | fail))⟩, trivial⟩ (by simp [sgL]))) (by omega) ?_
  rintro k hk0 KL hKL
  by_cases hlt : k < b.length
  · have hts : b.take (k + 1) = b.take k ++ [b.getD k default] := by rw [List.take_succ_eq_append_getElem hlt]; simp [List.getD, hlt]
    have hni : b.getD k default ∉ b.take k := fun hm => by
      have e := List.take_append_drop k b
      have hnb2 := hnb
      rw [← e] at hnb2
      refine (List.nodup_append.1 hnb2).2.2 _ hm _ ?_ rfl
      rw [show b.getD k default = b[k] by simp [List.getD, hlt], List.drop_eq_getElem_cons hlt]; exact List.mem_cons_self
    have hset := setM_new (n := (k : Int)) (mapE_none (f := fun i => (i : Int)) hni)
    have hm1 : mapE (fun i => (i : Int)) (b.take (k + 1)) = mapE (fun i => (i : Int)) (b.take k) ++ [(keyE (b.getD k default), (k : Int))] := by
      rw [hts, mapE_snoc, List.length_take, Nat.min_eq_left (by omega)]
    have hie : intsD (eEv (b.getD k default)) = some (keyE (b.getD k default)) := rfl
    have hlk : (keyE (b.getD k default)).length = 3 := rfl
    repeat' (first | (with_reducible first | (refine hK _ _ _ ?_; clear hK K) | (refine hA ?_; clear hA hB A B) | refine Z1 ?_ | refine Z2 ?_ | refine Z3 fun KB hKB => ?_ | refine Z4 (by omega) ?_) | (with_reducible first | refine Y2 fun K hK => ?_ | refine Y3 fun A B hA hB => ?_) <;> (simp only [go_sem, hie, hset, hlk]; try simp (disch := omega) only [Iw]) | ((with_reducible refine Y0 ?_); simp only [AQ.then, AQ.blk]) | refine ⟨by omega, ?_⟩ | (with_reducible refine hKB _ _ _ ?_) | fail)
    exact hKL _ _ _ (k + 1) (by omega) (by (refine cv_hp [25, 26] (by omega) (by repeat' (first | (with_reducible first | exact C1 | refine C2 ?_ ?_) | ((with_reducible refine C0 ?_); exact CE (by omega) rfl) | ((with_reducible refine D0 ?_); first | exact CA rfl | refine CJ ?_) | fail)) ⟨⟨by simp, by simp [sgL], _, rfl, cvO_mobj (by rw [hm1])⟩, ⟨by simp, by simp [sgL], _, rfl, cvO_one (by repeat' (first | (with_reducible first | exact C3 | refine C4 ?_ ?_) | ((with_reducible refine C0 ?_); exact CR (by omega) rfl) | fail))⟩, trivial⟩ (by simp [sgL]))) (by omega) (by omega)
  · have hke : k = b.length := by omega
    subst hke
    rw [List.take_length]
    repeat' (first | (with_reducible first | (refine hK _ _ _ ?_; clear hK K) | (refine hB ?_; clear hA hB A B) | refine Z1 ?_ | refine Z3 fun KB hKB => ?_ | refine Z5 (by omega) ?_ | refine hKX _ _ _ ?_) | (with_reducible first | refine Y2 fun K hK => ?_ | refine Y3 fun A B hA hB => ?_) <;> (simp only [go_sem]) | ((with_reducible refine Y9 ?_); try simp only [AQ.then, AQ.blk, reduceIte, Nat.reduceEqDiff]) | fail)
    (have hKY := hKB; clear hKB)
    refine AWPL.loopP 1 (β := Nat) (fun q k => en [(47, dI k), (46, dI a.length), (45, dS (a.map eEv)), (10, .one (.c (.omap q))), (7, .one (.c (.iptr [.imap ⟨3, false, mapE (fun i => (i : Int)) b⟩]))), (3, .one (.c (.iptr (eCfg c)))), (1, dS (a.map eEv))]) (fun q k => hp [(q, mobj ⟨3, true, mapE (fun _ => 1) (a.take k)⟩)]) (fun k => k ≤ a.length) (fun k => a.length - k) 0 ?_ (by omega) ?_
    · refine cv_hp [28] (by omega) ?_ ⟨⟨by simp, by simp [sgL], _, rfl, cvO_mobj (by simp [mapE])⟩, trivial⟩ (by simp [sgL])
      refine cvE_cons (cvE_cons (cvE_cons (cvE_cons (cvE_cons (cvE_cons (cvE_cons cvE_enil ?_) ?_) ?_) ?_) ?_) ?_) ?_
      all_goals first
        | exact cvD_c (cv1_omap (by omega) rfl)
        | exact .frz (frz_ptr_map (i := 25) (by simp) (by simp) rfl rfl rfl rfl).2
        | (repeat' ((with_reducible refine D0 ?_); exact CA rfl); done)
    have hno := fun k (hk : k < a.length) => same_no hpm hord hk
    clear hord
    rintro k hk1 KM hKM
    by_cases hlt : k < a.length
    · have hie : intsD (eEv (a.getD k default)) = some (keyE (a.getD k default)) := rfl
      have hlk : (keyE (a.getD k default)).length = 3 := rfl
      have hta : a.take (k + 1) = a.take k ++ [a.getD k default] := by rw [List.take_succ_eq_append_getElem hlt]; simp [List.getD, hlt]
      have hxb : ∀ e ∈ a, b[b.idxOf e]? = some e := fun e he => get_idxOf (hpm.mem_iff.2 he)
      have hgb := mapE_get (f := fun i => (i : Int)) hnb (hxb _ (getD_mem hlt))
      have hni : a.getD k default ∉ a.take k := fun hm => by
        have e := List.take_append_drop k a
        have hnb2 := hna
        rw [← e] at hnb2
        refine (List.nodup_append.1 hnb2).2.2 _ hm _ ?_ rfl
        rw [show a.getD k default = a[k] by simp [List.getD, hlt], List.drop_eq_getElem_cons hlt]; exact List.mem_cons_self
      have hgm := mapE_none (f := fun _ => 1) hni
      have hset := setM_new (n := 1) hgm
      have hm1 : mapE (fun _ => 1) (a.take (k + 1)) = mapE (fun _ => 1) (a.take k) ++ [(keyE (a.getD k default), 1)] := by
        rw [hta, mapE_snoc]
      have hnk := hno k hlt
      have hek := hk _ (getD_mem hlt)
      repeat' (first | (with_reducible first | (refine hK _ _ _ ?_; clear hK K) | (refine hA ?_; clear hA hB A B) | (refine hB ?_; clear hA hB A B) | refine Z1 ?_ | refine Z2 ?_ | refine Z3 fun KB hKB => ?_ | refine Z4 (by omega) ?_) | (first | (with_reducible first | refine Y2 fun K hK => ?_ | refine Y3 fun A B hA hB => ?_) | (refine a_slices_ContainsFunc_ZTlmEvent_TlmEvent (l := a.take k) (caps := [.iptr (eCfg c), .iptr (eEv (a.getD k default)), .iptr [.imap ⟨3, false, mapE (fun i => (i : Int)) b⟩], .iptr [cI (b.idxOf (a.getD k default))]]) (p := fun f => decide (¬ apartE c f (a.getD k default) ∧ b.idxOf (a.getD k default) < b.idxOf f)) (by simp; omega) rfl (cvD_im rfl) (cvD_clo ⟨⟨(eCfg_ok c).2, .same _ rfl⟩, frz_ptr rfl trivial rfl rfl rfl, ⟨rfl, .same _ rfl⟩, frz_ptr rfl trivial rfl rfl rfl, trivial⟩) (fun f hf H nx K h => a_impl_TrcSame_1 hb hc (hk f (List.mem_of_mem_take hf)) hek hnb (hxb f (List.mem_of_mem_take hf)) h) ?_)) <;> (simp only [go_sem, hie, hgb, hgm, hset, hlk, Option.getD_some, Option.isSome_some, Option.getD_none, eq_false hnk]; try simp (disch := omega) only [Iw]) | ((with_reducible refine Y0 ?_); simp only [AQ.then, AQ.blk]) | refine ⟨by omega, ?_⟩ | (with_reducible refine hKB _ _ _ ?_) | fail)
      exact hKM _ _ _ (k + 1) (by omega) (by (refine cv_hp [33] (by omega) (by repeat' (first | (with_reducible first | exact C1 | refine C2 ?_ ?_) | ((with_reducible refine C0 ?_); exact CR (by omega) rfl) | ((with_reducible refine D0 ?_); first | exact CA rfl | refine CJ ?_) | fail)) ⟨⟨by simp, by simp [sgL], _, rfl, cvO_mobj (by rw [hm1])⟩, trivial⟩ (by simp [sgL]))) (by omega) (by omega)
    · repeat' (first | (with_reducible first | (refine hK _ _ _ ?_; clear hK K) | (refine hB ?_; clear hA hB A B) | refine Z1 ?_ | refine Z5 (by omega) ?_ | refine hKY _ _ _ ?_) | (with_reducible first | refine Y2 fun K hK => ?_ | refine Y3 fun A B hA hB => ?_) <;> (simp only [go_sem]) | ((with_reducible first | refine Y8 ?_ | refine Y9 ?_); try simp only [AQ.then, AQ.blk, reduceIte, Nat.reduceEqDiff]) | fail)
      exact exitP hQ (dB true) rfl rfl rfl
theorem a_impl_TrcSame {c : Cfg} {a : List Ev} {b : List Ev} (hb : BusOkP c) (hc : CfgFit c) (hl : a.length ≤ 200) (hk : ∀ e ∈ a, evOkP c e) (hna : a.Nodup) (hpm : b.Perm a) (hord : b.Pairwise fun x y => ¬ (Bef a y x ∧ ¬ apartE c y x))  (h : K (dB true) H nx) : ACall Tryz.prog n_impl_TrcSame [dA (eCfg c), dS (a.map eEv), dS (b.map eEv)] H nx K :=
  (c_impl_TrcSame c a b hb hc hl hk hna hpm hord).pure rfl (lentL_args ⟨cvD_im rfl, cvD_im rfl, cvD_im rfl, trivial⟩) (fun r hr => hr ▸ h)
end
end Go.Proofs.YtiimjokpcbapeaaGreat
