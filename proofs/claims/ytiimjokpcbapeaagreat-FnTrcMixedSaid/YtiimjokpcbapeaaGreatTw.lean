/- Contracts: what happens, one behind the other, of the program. Printed by a program (run_gen.py). -/
import Derived.Test.YtiimjokpcbapeaaGreatTt
import Derived.Test.YtiimjokpcbapeaaGreatTf
set_option linter.unusedVariables false
set_option linter.unusedSimpArgs false
set_option linter.unusedSectionVars false
namespace Go.Proofs.YtiimjokpcbapeaaGreat
open Go Go.AM
set_option maxRecDepth 100000
set_option maxHeartbeats 8000000
section
variable {H : Heap} {nx : Nat} {K : D → Heap → Nat → Prop}
theorem a_impl_BusCfg_happen {c : Cfg} {s : TSt} {e : Ev} {c0 c1 c2 c3 c4 c5 m0 m1 m2 m3 m4 m5 i0 i1 i2 i3 i4 i5 i6 : Nat} (hb : BusOkP c) (hs : StOk c s) (hwhy : whyM c s e = 0) (hc : s.words.length ≤ c0 ∧ s.holds.length ≤ c1 ∧ s.asked.length ≤ c2 ∧ s.wait.length ≤ c3 ∧ s.done.length ≤ c4 ∧ s.told.length ≤ c5) (hm : c3 ≤ m3 ∧ c4 ≤ m4 ∧ c5 ≤ m5)
    (hlt : i0 < nx ∧ i1 < nx ∧ i2 < nx ∧ i3 < nx ∧ i4 < nx ∧ i5 < nx ∧ i6 < nx) (hd : [i0, i1, i2, i3, i4, i5, i6].Nodup) (h0 : H i0 = some ⟨6, 1, [oIm i1 i2 i3 i4 i5 i6 c0 c1 c2 c3 c4 c5 s]⟩) (h1 : H i1 = some ⟨1, m0, s.words.map eInt⟩) (h2 : H i2 = some ⟨1, m1, s.holds.map eInt⟩) (h3 : H i3 = some ⟨1, m2, s.asked.map eInt⟩) (h4 : H i4 = some ⟨5, m3, s.wait.map eJob⟩) (h5 : H i5 = some ⟨5, m4, s.done.map eJob⟩) (h6 : H i6 = some ⟨5, m5, s.told.map eJob⟩)
    (h : ∀ c3' c4' c5' m3' m4' m5', ((stepM c s e).wait.length ≤ c3' ∧ (stepM c s e).done.length ≤ c4' ∧ (stepM c s e).told.length ≤ c5') → (c3' ≤ m3' ∧ c4' ≤ m4' ∧ c5' ≤ m5') → K (.tup []) ((((((((((H.set i0 ⟨6, 1, [oIm i1 i2 i3 nx (nx + 1) (nx + 2) c0 c1 c2 c3' c4' c5' (stepM c s e)]⟩).set i1 ⟨1, m0, (stepM c s e).words.map eInt⟩).set i2 ⟨1, m1, (stepM c s e).holds.map eInt⟩).set i3 ⟨1, m2, (stepM c s e).asked.map eInt⟩).del i4).del i5).del i6).set nx ⟨5, m3', (stepM c s e).wait.map eJob⟩).set (nx + 1) ⟨5, m4', (stepM c s e).done.map eJob⟩).set (nx + 2) ⟨5, m5', (stepM c s e).told.map eJob⟩) (nx + 3)) :
    ACall Tryz.prog n_impl_BusCfg_happen [dA (eCfg c), dP 6 i0, dA (eEv e)] H nx K := by
  refine (c_impl_BusCfg_happen c s e c0 c1 c2 c3 c4 c5 m0 m1 m2 m3 m4 m5 hb hs hwhy hc hm).mutL [i0, i1, i2, i3, i4, i5, i6] rfl ⟨cvD_im rfl, cvD_ptr (by simp) rfl, cvD_im rfl, trivial⟩ ?_ ?_ ?_ hd fun r H' n' _ ⟨c3', c4', c5', m3', m4', m5', q1, q2, q3, q4, q5⟩ => ?_
  · refine ⟨⟨by simp, id, _, h0, cvO_one ?_⟩, ⟨by simp, id, _, h1, cvO_E (immR_map eInt_ok _) rfl rfl⟩, ⟨by simp, id, _, h2, cvO_E (immR_map eInt_ok _) rfl rfl⟩, ⟨by simp, id, _, h3, cvO_E (immR_map eInt_ok _) rfl rfl⟩, ⟨by simp, id, _, h4, cvO_E (immR_map eJob_ok _) rfl rfl⟩, ⟨by simp, id, _, h5, cvO_E (immR_map eJob_ok _) rfl rfl⟩, ⟨by simp, id, _, h6, cvO_E (immR_map eJob_ok _) rfl rfl⟩, trivial⟩
    unfold oIm
    exact cvL_cons (cv1_oslE (by simp) rfl rfl rfl rfl) (cvL_cons (cv1_oslE (by simp) rfl rfl rfl rfl) (cvL_cons (cv1_oslE (by simp) rfl rfl rfl rfl) (cvL_cons (cv1_oslE (by simp) rfl rfl rfl rfl) (cvL_cons (cv1_oslE (by simp) rfl rfl rfl rfl) (cvL_cons (cv1_oslE (by simp) rfl rfl rfl rfl) cvL_nil)))))
  · exact hd
  · intro x hx; simp only [List.mem_cons, List.not_mem_nil, or_false] at hx; omega
  · have h := h c3' c4' c5' m3' m4' m5' q1 q2
    subst q3; subst q4; subst q5
    generalize stepM c s e = S' at *
    have e0 : AObj.rn (tau 7 nx (nth [i0, i1, i2, i3, i4, i5, i6])) ⟨6, 1, [oIm 1 2 3 7 8 9 c0 c1 c2 c3' c4' c5' S']⟩ = ⟨6, 1, [oIm i1 i2 i3 nx (nx + 1) (nx + 2) c0 c1 c2 c3' c4' c5' S']⟩ := rfl
    have e1 : back (tau 7 nx (nth [i0, i1, i2, i3, i4, i5, i6])) (hp [(0, ⟨6, 1, [oIm 1 2 3 7 8 9 c0 c1 c2 c3' c4' c5' S']⟩), (1, ⟨1, m0, (S').words.map eInt⟩), (2, ⟨1, m1, (S').holds.map eInt⟩), (3, ⟨1, m2, (S').asked.map eInt⟩), (7, ⟨5, m3', (S').wait.map eJob⟩), (8, ⟨5, m4', (S').done.map eJob⟩), (9, ⟨5, m5', (S').told.map eJob⟩)]) 10 H = ((((((((((H.set i0 ⟨6, 1, [oIm i1 i2 i3 nx (nx + 1) (nx + 2) c0 c1 c2 c3' c4' c5' S']⟩).set i1 ⟨1, m0, S'.words.map eInt⟩).set i2 ⟨1, m1, S'.holds.map eInt⟩).set i3 ⟨1, m2, S'.asked.map eInt⟩).del i4).del i5).del i6).set nx ⟨5, m3', S'.wait.map eJob⟩).set (nx + 1) ⟨5, m4', S'.done.map eJob⟩).set (nx + 2) ⟨5, m5', S'.told.map eJob⟩) := by
      simp only [back, hp, Heap.set, Heap.nil, Option.map_some, Option.map_none, e0, rnO_eInt, rnO_eJob, Heap.upd_some, Heap.upd_none, if_true, Nat.reduceEqDiff, if_false, reduceIte]
      rfl
    rw [← e1] at h
    exact h
theorem cvL_st {s : TSt} {H : Heap} {F : Nat → Prop} {σ : Nat → Nat} {nh i1 i2 i3 i4 i5 i6 c0 c1 c2 c3 c4 c5 m0 m1 m2 m3 m4 m5 : Nat} (hc : s.words.length ≤ c0 ∧ s.holds.length ≤ c1 ∧ s.asked.length ≤ c2 ∧ s.wait.length ≤ c3 ∧ s.done.length ≤ c4 ∧ s.told.length ≤ c5) (h1 : H i1 = some ⟨1, m0, s.words.map eInt⟩) (h2 : H i2 = some ⟨1, m1, s.holds.map eInt⟩) (h3 : H i3 = some ⟨1, m2, s.asked.map eInt⟩) (h4 : H i4 = some ⟨5, m3, s.wait.map eJob⟩) (h5 : H i5 = some ⟨5, m4, s.done.map eJob⟩) (h6 : H i6 = some ⟨5, m5, s.told.map eJob⟩)
    (f1 : F i1) (f2 : F i2) (f3 : F i3) (f4 : F i4) (f5 : F i5) (f6 : F i6) : CvL H F σ nh (eSt s) (oIm i1 i2 i3 i4 i5 i6 c0 c1 c2 c3 c4 c5 s) := by
  obtain ⟨q1, q2, q3, q4, q5, q6⟩ := hc
  exact cvL_cons (cv1_frzM eInt_ok h1 rfl q1 f1) (cvL_cons (cv1_frzM eInt_ok h2 rfl q2 f2) (cvL_cons (cv1_frzM eInt_ok h3 rfl q3 f3) (cvL_cons (cv1_frzM eJob_ok h4 rfl q4 f4) (cvL_cons (cv1_frzM eJob_ok h5 rfl q5 f5) (cvL_cons (cv1_frzM eJob_ok h6 rfl q6 f6) cvL_nil)))))
theorem oIm_len {i0 i1 i2 i3 i4 i5 c0 c1 c2 c3 c4 c5 : Nat} {s : TSt} : (oIm i0 i1 i2 i3 i4 i5 c0 c1 c2 c3 c4 c5 s).length = 6 := rfl
theorem oIm_take {i0 i1 i2 i3 i4 i5 c0 c1 c2 c3 c4 c5 : Nat} {s : TSt} : (oIm i0 i1 i2 i3 i4 i5 c0 c1 c2 c3 c4 c5 s).take 6 = oIm i0 i1 i2 i3 i4 i5 c0 c1 c2 c3 c4 c5 s := rfl
theorem oIm_drop {i0 i1 i2 i3 i4 i5 c0 c1 c2 c3 c4 c5 : Nat} {s : TSt} : (oIm i0 i1 i2 i3 i4 i5 c0 c1 c2 c3 c4 c5 s).drop 6 = [] := rfl
theorem oIm_over {i0 i1 i2 i3 i4 i5 c0 c1 c2 c3 c4 c5 k : Nat} {s : TSt} {cs : List D1} : over cs (k + 1) (oIm i0 i1 i2 i3 i4 i5 c0 c1 c2 c3 c4 c5 s) = over cs (k + 1) [.osl 1 i0 0 s.words.length c0, .osl 1 i1 0 s.holds.length c1, .osl 1 i2 0 s.asked.length c2, .osl 5 i3 0 s.wait.length c3, .osl 5 i4 0 s.done.length c4, .osl 5 i5 0 s.told.length c5] := rfl
attribute [go_sem] oIm_len oIm_take oIm_drop oIm_over
theorem c_impl_TlmRun (c : Cfg) (es : List Ev) (hb : BusOkP c) (hcf : CfgFit c) (s0 : TSt) (hs0 : StOk c s0) (hok : ∀ {H : Heap} {nx : Nat} {K : D → Heap → Nat → Prop}, K (dB true) H nx → ACall Tryz.prog n_impl_TlmOk [dA (eCfg c), dA (eSt s0)] H nx K) (hlen : es.length ≤ 200) (hpl : Plays c s0 es) :
    ACall Tryz.prog n_impl_TlmRun [dA (eCfg c), dA (eSt s0), dS (es.map eEv)] .nil 0 fun r _ n => n = 0 ∧ r.imm = true ∧ r = .tup [.agg (eSt (runM c s0 es)), .c (cI es.length)] := by
  refine en_impl_TlmRun rfl fun Q hQ => ?_
  unfold ac_impl_TlmRun
  obtain ⟨hp3, hp12⟩ := busOk_prog hb
  repeat' (first | (with_reducible first | (refine hK _ _ _ ?_; clear hK K) | (refine hB ?_; clear hA hB A B) | refine Z1 ?_ | refine Z2 ?_ | refine Z3 fun KB hKB => ?_ | refine Z5 (by omega) ?_) | (first | (with_reducible first | refine Y2 fun K hK => ?_ | refine Y3 fun A B hA hB => ?_) | (refine hok ?_) | (refine a_impl_TlmState_copyOf hb hs0 (fun m0 m1 m2 m3 m4 m5 hm => ?_))) <;> (simp only [go_sem]) | fail)
  (have hQX := hKB; clear hKB)
  refine AWPL.loopP 3 (β := Nat × (Nat × Nat × Nat) × (Nat × Nat × Nat))
    (fun b u => en [(25, dI u.1), (24, dI es.length), (23, dS (es.map eEv)), (8, dP 6 15), (6, dP 6 2), (3, dP 3 0), (2, dS (es.map eEv))])
    (fun b u => hp [(0, ⟨3, 1, [eCfg c]⟩), (2, ⟨6, 1, [[.osl 0 0 0 0 0, .osl 0 0 0 0 0, .osl 0 0 0 0 0, .osl 0 0 0 0 0, .osl 0 0 0 0 0, .osl 0 0 0 0 0]]⟩), (15, ⟨6, 1, [oIm 17 18 19 b (b + 1) (b + 2) s0.words.length s0.holds.length s0.asked.length u.2.1.1 u.2.1.2.1 u.2.1.2.2 (runM c s0 (es.take u.1))]⟩), (17, ⟨1, m0, (runM c s0 (es.take u.1)).words.map eInt⟩), (18, ⟨1, m1, (runM c s0 (es.take u.1)).holds.map eInt⟩), (19, ⟨1, m2, (runM c s0 (es.take u.1)).asked.map eInt⟩), (b, ⟨5, u.2.2.1, (runM c s0 (es.take u.1)).wait.map eJob⟩), ((b + 1), ⟨5, u.2.2.2.1, (runM c s0 (es.take u.1)).done.map eJob⟩), ((b + 2), ⟨5, u.2.2.2.2, (runM c s0 (es.take u.1)).told.map eJob⟩)])
    (fun u => u.1 ≤ es.length ∧ ((runM c s0 (es.take u.1)).wait.length ≤ u.2.1.1 ∧ (runM c s0 (es.take u.1)).done.length ≤ u.2.1.2.1 ∧ (runM c s0 (es.take u.1)).told.length ≤ u.2.1.2.2) ∧ (u.2.1.1 ≤ u.2.2.1 ∧ u.2.1.2.1 ≤ u.2.2.2.1 ∧ u.2.1.2.2 ≤ u.2.2.2.2))
    (fun u => es.length - u.1) (0, (s0.wait.length, s0.done.length, s0.told.length), (m3, m4, m5))
    (by (refine cv_hp [20, 21, 22, 0, 2, 15, 17, 18, 19] (by omega) (by repeat' (first | (with_reducible first | exact C1 | refine C2 ?_ ?_) | ((with_reducible refine C0 ?_); exact CE (by omega) rfl) | ((with_reducible refine D0 ?_); first | exact CA rfl | refine CJ ?_) | fail)) ⟨⟨by simp, by simp [sgL], _, rfl, cvO_one (cvL_imm fun x hx => List.all_eq_true.1 (eCfg_ok c).2 x hx)⟩, ⟨by simp, by simp [sgL], _, rfl, cvO_one (by repeat' (first | (with_reducible first | exact C3 | refine C4 ?_ ?_) | ((with_reducible refine C0 ?_); exact CC) | fail))⟩, ⟨by simp, by simp [sgL], _, rfl, cvO_one (by unfold oIm; repeat' (first | (with_reducible first | exact C3 | refine C4 ?_ ?_) | ((with_reducible refine C0 ?_); exact CQ (by omega) rfl rfl (by rfl) rfl) | fail))⟩, ⟨by simp, by simp [sgL], _, rfl, cvO_E (immR_map eInt_ok _) rfl rfl⟩, ⟨by simp, by simp [sgL], _, rfl, cvO_E (immR_map eInt_ok _) rfl rfl⟩, ⟨by simp, by simp [sgL], _, rfl, cvO_E (immR_map eInt_ok _) rfl rfl⟩, ⟨by simp, by simp [sgL], _, rfl, cvO_E (immR_map eJob_ok _) rfl rfl⟩, ⟨by simp, by simp [sgL], _, rfl, cvO_E (immR_map eJob_ok _) rfl rfl⟩, ⟨by simp, by simp [sgL], _, rfl, cvO_E (immR_map eJob_ok _) rfl rfl⟩, trivial⟩ (by simp [sgL]))) ⟨Nat.zero_le _, ⟨Nat.le_refl _, Nat.le_refl _, Nat.le_refl _⟩, hm.2.2.2⟩ ?_
  rintro ⟨k, ⟨c3, c4, c5⟩, ⟨m3, m4, m5⟩⟩ ⟨hk, hcc, hmm⟩ KL hKL
  dsimp only at hk hcc hmm
  have hs := plays_ok hb hs0 hpl k hk
  have hstep := fun hlt => runM_take (c := c) (s := s0) (l := es) (k := k) hlt
  have hw0 := hpl k
  generalize hS : runM c s0 (es.take k) = s at *
  have hlens := hs.lens hb
  have hcl : s.words.length ≤ s0.words.length ∧ s.holds.length ≤ s0.holds.length ∧ s.asked.length ≤ s0.asked.length ∧ s.wait.length ≤ c3 ∧ s.done.length ≤ c4 ∧ s.told.length ≤ c5 := by
    rw [hs.atm.wl, hs0.atm.wl, hs.atm.hl, hs0.atm.hl, hs.askedL, hs0.askedL]; exact ⟨Nat.le_refl _, Nat.le_refl _, Nat.le_refl _, hcc⟩
  by_cases hlt : k < es.length
  · have hw1 := hw0 hlt
    have hs2 := hstep hlt
    have hsk := step_ok hb hs hw1
    repeat' (first | (with_reducible first | (refine hK _ _ _ ?_; clear hK K) | (refine hA ?_; clear hA hB A B) | (refine hB ?_; clear hA hB A B) | refine Z1 ?_ | refine Z2 ?_ | refine Z3 fun KB hKB => ?_ | refine Z4 (by omega) ?_) | (first | (with_reducible first | refine Y2 fun K hK => ?_ | refine Y3 fun A B hA hB => ?_) | (refine a_impl_BusCfg_why (c := c) (s := s) (e := es.getD k default) hcf hp3 (hs.fit hb) (cvL_st hcl rfl rfl rfl rfl rfl rfl trivial trivial trivial trivial trivial trivial) ?_) | (refine a_impl_BusCfg_happen hb hs hw1 hcl hmm (by omega) (by simp) rfl rfl rfl rfl rfl rfl rfl (fun c3' c4' c5' m3' m4' m5' q1 q2 => ?_))) <;> (simp only [go_sem, hw1]; try simp (disch := omega) only [Iw]) | ((with_reducible refine Y0 ?_); simp only [AQ.then, AQ.blk]) | refine ⟨by omega, ?_⟩ | (with_reducible refine hKB _ _ _ ?_) | fail)
    refine hKL _ _ _ (k + 1, (c3', c4', c5'), (m3', m4', m5')) (by omega) ?_ ⟨by dsimp only; omega, by dsimp only; rw [hs2]; exact q1, q2⟩ (by dsimp only; omega)
    dsimp only
    rw [hs2]
    have hl1 : (stepM c s (es.getD k default)).words.length = s.words.length := by rw [hs.atm.wl, hsk.atm.wl]
    have hl2 : (stepM c s (es.getD k default)).holds.length = s.holds.length := by rw [hs.atm.hl, hsk.atm.hl]
    have hl3 : (stepM c s (es.getD k default)).asked.length = s.asked.length := by rw [hs.askedL, hsk.askedL]
    (refine cv_hp [44, 45, 46, 0, 2, 15, 17, 18, 19] (by omega) (by repeat' (first | (with_reducible first | exact C1 | refine C2 ?_ ?_) | ((with_reducible refine C0 ?_); exact CE (by omega) rfl) | ((with_reducible refine D0 ?_); first | exact CA rfl | refine CJ ?_) | fail)) ⟨⟨by simp, by simp [sgL], _, rfl, cvO_one (cvL_imm fun x hx => List.all_eq_true.1 (eCfg_ok c).2 x hx)⟩, ⟨by simp, by simp [sgL], _, rfl, cvO_one (by repeat' (first | (with_reducible first | exact C3 | refine C4 ?_ ?_) | ((with_reducible refine C0 ?_); exact CC) | fail))⟩, ⟨by simp, by simp [sgL], _, rfl, cvO_one (by unfold oIm; repeat' (first | (with_reducible first | exact C3 | refine C4 ?_ ?_) | ((with_reducible refine C0 ?_); exact CQ (by omega) rfl rfl (by rfl) rfl) | fail))⟩, ⟨by simp, by simp [sgL], _, rfl, cvO_E (immR_map eInt_ok _) rfl rfl⟩, ⟨by simp, by simp [sgL], _, rfl, cvO_E (immR_map eInt_ok _) rfl rfl⟩, ⟨by simp, by simp [sgL], _, rfl, cvO_E (immR_map eInt_ok _) rfl rfl⟩, ⟨by simp, by simp [sgL], _, rfl, cvO_E (immR_map eJob_ok _) rfl rfl⟩, ⟨by simp, by simp [sgL], _, rfl, cvO_E (immR_map eJob_ok _) rfl rfl⟩, ⟨by simp, by simp [sgL], _, rfl, cvO_E (immR_map eJob_ok _) rfl rfl⟩, trivial⟩ (by simp [sgL]))
  · repeat' (first | (with_reducible first | (refine hK _ _ _ ?_; clear hK K) | (refine hB ?_; clear hA hB A B) | refine Z1 ?_ | refine Z5 (by omega) ?_) | (with_reducible first | refine Y2 fun K hK => ?_ | refine Y3 fun A B hA hB => ?_) <;> (simp only [go_sem]) | ((with_reducible refine Y9 ?_); try simp only [AQ.then, AQ.blk, reduceIte, Nat.reduceEqDiff]) | fail)
    refine hQX _ _ _ ?_
    refine AWPL.convL 0 (en [(8, .one (.c (.iptr (eSt s)))), (6, dP 6 2), (2, dS (es.map eEv))]) (hp [(2, ⟨6, 1, [[.osl 0 0 0 0 0, .osl 0 0 0 0 0, .osl 0 0 0 0 0, .osl 0 0 0 0 0, .osl 0 0 0 0 0, .osl 0 0 0 0 0]]⟩)]) ?_ ?_
    · refine cv_hp [2] (by omega) (cvE_cons (cvE_cons (cvE_cons cvE_enil (cvD_im rfl)) (cvD_ptr (by omega) rfl)) (cvD_frzptrC (σ := id) (nh := 0) (eSt_ok s).2 (cvL_st hcl rfl rfl rfl rfl rfl rfl (by simp) (by simp) (by simp) (by simp) (by simp) (by simp)) (by simp) rfl rfl rfl)) ?_ (by simp [sgL])
      exact ⟨⟨by omega, by simp [sgL], _, rfl, cvO_one (by repeat' (first | (with_reducible first | exact C3 | refine C4 ?_ ?_) | ((with_reducible refine C0 ?_); exact CC) | fail))⟩, trivial⟩
    have hk2 : k = es.length := by omega
    subst hk2
    rw [List.take_length] at hS
    repeat' (first | (with_reducible first | (refine hK _ _ _ ?_; clear hK K) | refine Z1 ?_) | (first | (with_reducible refine Y2 fun K hK => ?_) | (refine a_impl_TlmState_copyOf hb hs (fun n0 n1 n2 n3 n4 n5 hn => ?_))) <;> (simp only [go_sem]) | ((with_reducible refine Y8 ?_); try simp only [AQ.then, AQ.blk, reduceIte, Nat.reduceEqDiff]) | fail)
    exact exitF hQ (.tup [.agg (eSt s), .c (cI es.length)]) _ rfl (cvD_t2 (cvV_agg (cvL_st ⟨Nat.le_refl _, Nat.le_refl _, Nat.le_refl _, Nat.le_refl _, Nat.le_refl _, Nat.le_refl _⟩ rfl rfl rfl rfl rfl rfl trivial trivial trivial trivial trivial trivial)) (cvV_c (cv1_imm rfl))) rfl (by rw [hS])
end
end Go.Proofs.YtiimjokpcbapeaaGreat
