/- Contract: what is wrong first, where nothing is, of the program. -/
import Derived.Test.YtiimjokpcbapeaaGreatAcLTrcCheck
import Derived.Test.YtiimjokpcbapeaaGreatUc
import Derived.Test.YtiimjokpcbapeaaGreatTw
set_option linter.unusedVariables false
set_option linter.unusedSimpArgs false
set_option linter.unusedSectionVars false
namespace Go.Proofs.YtiimjokpcbapeaaGreat
open Go Go.AM
set_option maxRecDepth 100000
set_option maxHeartbeats 8000000
section
variable {H : Heap} {nx : Nat} {K : D → Heap → Nat → Prop}
theorem c_impl_TlmNewB : ACall Tryz.prog n_impl_TlmNew [] (hp []) 0
    fun r H' n' => n' = 6 ∧ H' = hp [(0, ⟨1, 64, st0.words.map eInt⟩), (1, ⟨1, 6, st0.holds.map eInt⟩), (2, ⟨1, 3, st0.asked.map eInt⟩), (3, ⟨5, 0, []⟩), (4, ⟨5, 0, []⟩), (5, ⟨5, 0, []⟩)] ∧ r = dA [.osl 1 0 0 64 64, .osl 1 1 0 6 6, .osl 1 2 0 3 3, .osl 5 3 0 0 0, .osl 5 4 0 0 0, .osl 5 5 0 0 0] := by
  refine en_impl_TlmNew rfl fun Q hQ => ?_
  unfold ac_impl_TlmNew
  have hmn : ∀ {H : Heap} {nx : Nat} {K : D → Heap → Nat → Prop}, K (dA [.osl 1 nx 0 64 64, .osl 1 (nx + 1) 0 6 6]) ((H.set nx ⟨1, 64, st0.words.map eInt⟩).set (nx + 1) ⟨1, 6, st0.holds.map eInt⟩) (nx + 2) → ACall Tryz.prog n_impl_AtmNew [] H nx K := fun h => a_impl_AtmNewB h
  have ha : [[D1.v (Value.int IntKind.i64 0)], [D1.v (Value.int IntKind.i64 0)], [D1.v (Value.int IntKind.i64 0)]] = st0.asked.map eInt := rfl
  generalize st0 = s0 at *
  refine AWPL.virt 5 ?_
  refine AWPL.virt 5 ?_
  refine AWPL.virt 5 ?_
  repeat' (first | (with_reducible first | (refine hK _ _ _ ?_; clear hK K) | refine Z1 ?_) | (first | (with_reducible refine Y2 fun K hK => ?_) | (refine hmn ?_)) <;> (simp only [go_sem, ha]) | ((with_reducible refine Y8 ?_); try simp only [AQ.then, AQ.blk, reduceIte, Nat.reduceEqDiff]) | fail)
  (refine hQ _ _ _ _ _ 6 (dA [.osl 1 0 0 64 64, .osl 1 1 0 6 6, .osl 1 2 0 3 3, .osl 5 3 0 0 0, .osl 5 4 0 0 0, .osl 5 5 0 0 0]) (hp [(0, ⟨1, 64, s0.words.map eInt⟩), (1, ⟨1, 6, s0.holds.map eInt⟩), (2, ⟨1, 3, s0.asked.map eInt⟩), (3, ⟨5, 0, []⟩), (4, ⟨5, 0, []⟩), (5, ⟨5, 0, []⟩)]) _ _ (.inr rfl) rfl (cvR_hp [8, 9, 5, 0, 1, 2] (by omega) (by repeat' (first | ((with_reducible refine C0 ?_); first | exact CC | exact CQ (by omega) rfl rfl (by rfl) rfl) | ((with_reducible refine D0 ?_); refine C9 ?_) | exact C3 | refine C4 ?_ ?_ | fail)) ⟨⟨by simp, by simp [sgL], _, rfl, cvO_E (immR_map eInt_ok _) rfl rfl⟩, ⟨by simp, by simp [sgL], _, rfl, cvO_E (immR_map eInt_ok _) rfl rfl⟩, ⟨by simp, by simp [sgL], _, rfl, cvO_E (immR_map eInt_ok _) rfl rfl⟩, ⟨by simp, by simp [sgL], _, rfl, cvO_imm (fun r hr => by simp at hr)⟩, ⟨by simp, by simp [sgL], _, rfl, cvO_imm (fun r hr => by simp at hr)⟩, ⟨by simp, by simp [sgL], _, rfl, cvO_imm (fun r hr => by simp at hr)⟩, trivial⟩ (by simp [sgL])) ?_)
  exact ⟨rfl, rfl, rfl⟩
theorem a_impl_TlmNewB (h : K (dA [.osl 1 nx 0 64 64, .osl 1 (nx + 1) 0 6 6, .osl 1 (nx + 2) 0 3 3, .osl 5 (nx + 3) 0 0 0, .osl 5 (nx + 4) 0 0 0, .osl 5 (nx + 5) 0 0 0]) ((((((H.set nx ⟨1, 64, st0.words.map eInt⟩).set (nx + 1) ⟨1, 6, st0.holds.map eInt⟩).set (nx + 2) ⟨1, 3, st0.asked.map eInt⟩).set (nx + 3) ⟨5, 0, []⟩).set (nx + 4) ⟨5, 0, []⟩).set (nx + 5) ⟨5, 0, []⟩) (nx + 6)) : ACall Tryz.prog n_impl_TlmNew [] H nx K := by
  refine c_impl_TlmNewB.mutL (l0 := []) [] rfl trivial trivial (by simp) (by simp) (by simp) fun r H' n' _ ⟨q1, q2, q3⟩ => ?_
  subst q1; subst q2; subst q3
  generalize st0 = s0 at *
  have e1 : back (tau 0 nx (nth [])) (hp [(0, ⟨1, 64, s0.words.map eInt⟩), (1, ⟨1, 6, s0.holds.map eInt⟩), (2, ⟨1, 3, s0.asked.map eInt⟩), (3, ⟨5, 0, []⟩), (4, ⟨5, 0, []⟩), (5, ⟨5, 0, []⟩)]) 6 H = (((((H.set nx ⟨1, 64, s0.words.map eInt⟩).set (nx + 1) ⟨1, 6, s0.holds.map eInt⟩).set (nx + 2) ⟨1, 3, s0.asked.map eInt⟩).set (nx + 3) ⟨5, 0, []⟩).set (nx + 4) ⟨5, 0, []⟩).set (nx + 5) ⟨5, 0, []⟩ := by
    have e0 : AObj.rn (tau 0 nx (nth [])) ⟨5, 0, []⟩ = ⟨5, 0, []⟩ := rfl
    simp [back, hp, Heap.set, Heap.nil, tau, nth, rnO_eInt, Heap.upd_some, Heap.upd_none]
    rfl
  rw [← e1] at h
  exact h
theorem c_impl_TrcCheck (c : Cfg) (es : List Ev) (hb : BusOkP c) (hcf : CfgFit c) (hlen : es.length ≤ 200) (hpl : Plays c st0 es) :
    ACall Tryz.prog n_impl_TrcCheck [dA (eCfg c), dS (es.map eEv)] .nil 0 fun r _ _ => r.plain = true ∧ r = .tup [.c (cI (-1)), .c (cI 0)] := by
  have hS0 : ∀ {H : Heap} {nx : Nat} {K : D → Heap → Nat → Prop}, K (dA [.osl 1 nx 0 64 64, .osl 1 (nx + 1) 0 6 6, .osl 1 (nx + 2) 0 3 3, .osl 5 (nx + 3) 0 0 0, .osl 5 (nx + 4) 0 0 0, .osl 5 (nx + 5) 0 0 0]) ((((((H.set nx ⟨1, 64, (runM c st0 (es.take 0)).words.map eInt⟩).set (nx + 1) ⟨1, 6, (runM c st0 (es.take 0)).holds.map eInt⟩).set (nx + 2) ⟨1, 3, (runM c st0 (es.take 0)).asked.map eInt⟩).set (nx + 3) ⟨5, 0, []⟩).set (nx + 4) ⟨5, 0, []⟩).set (nx + 5) ⟨5, 0, []⟩) (nx + 6) → ACall Tryz.prog n_impl_TlmNew [] H nx K := fun h => a_impl_TlmNewB h
  have hz3 : (runM c st0 (es.take 0)).wait = [] := rfl
  have hz4 : (runM c st0 (es.take 0)).done = [] := rfl
  have hz5 : (runM c st0 (es.take 0)).told = [] := rfl
  have hSok := plays_ok hb (st0_ok c) hpl
  have hSw := fun k (hk : k < es.length) => hpl k hk
  have hSt := fun k (hk : k < es.length) => runM_take (c := c) (s := st0) hk
  obtain ⟨S, hS⟩ : ∃ S : Nat → TSt, S = fun k => runM c st0 (es.take k) := ⟨_, rfl⟩
  have hSe : ∀ k, runM c st0 (es.take k) = S k := fun k => by rw [hS]
  simp only [hSe] at *
  clear hS hSe
  obtain ⟨hp3, hp12⟩ := busOk_prog hb
  have hl0 := (hSok 0 (by omega)).atm.wl
  have hl1 := (hSok 0 (by omega)).atm.hl
  have hl2 := (hSok 0 (by omega)).askedL
  refine en_impl_TrcCheck rfl fun Q hQ => ?_
  unfold ac_impl_TrcCheck
  repeat' (first | (with_reducible first | (refine hK _ _ _ ?_; clear hK K) | (refine hB ?_; clear hA hB A B) | refine Z1 ?_ | refine Z2 ?_ | refine Z3 fun KB hKB => ?_ | refine Z5 (by omega) ?_) | (first | (with_reducible first | refine Y2 fun K hK => ?_ | refine Y3 fun A B hA hB => ?_) | (refine a_impl_BusOk hcf ?_) | (refine hS0 ?_)) <;> (simp only [go_sem, eq_true hb]) | fail)
  (have hKX := hKB; clear hKB)
  refine AWPL.loopP 7 (β := Nat × (Nat × Nat × Nat) × (Nat × Nat × Nat))
    (fun b u => en [(21, dI u.1), (20, dI es.length), (19, dS (es.map eEv)), (6, dP 6 b), (2, .one (.c (.iptr (eCfg c))))])
    (fun b u => hp [(b, ⟨6, 1, [oIm (b + 1) (b + 2) (b + 3) (b + 4) (b + 5) (b + 6) 64 6 3 u.2.1.1 u.2.1.2.1 u.2.1.2.2 (S u.1)]⟩), (b + 1, ⟨1, 64, (S u.1).words.map eInt⟩), (b + 2, ⟨1, 6, (S u.1).holds.map eInt⟩), (b + 3, ⟨1, 3, (S u.1).asked.map eInt⟩), (b + 4, ⟨5, u.2.2.1, (S u.1).wait.map eJob⟩), (b + 5, ⟨5, u.2.2.2.1, (S u.1).done.map eJob⟩), (b + 6, ⟨5, u.2.2.2.2, (S u.1).told.map eJob⟩)])
    (fun u => u.1 ≤ es.length ∧ ((S u.1).wait.length ≤ u.2.1.1 ∧ (S u.1).done.length ≤ u.2.1.2.1 ∧ (S u.1).told.length ≤ u.2.1.2.2) ∧ (u.2.1.1 ≤ u.2.2.1 ∧ u.2.1.2.1 ≤ u.2.2.2.1 ∧ u.2.1.2.2 ≤ u.2.2.2.2))
    (fun u => es.length - u.1) (0, (0, 0, 0), (0, 0, 0))
    (by dsimp only; unfold oIm; rw [hz3, hz4, hz5, hl0, hl1, hl2]; (refine cv_hp [12, 14, 15, 16, 17, 18, 19] (by omega) (by repeat' (first | (with_reducible first | exact C1 | refine C2 ?_ ?_) | ((with_reducible refine C0 ?_); exact CE (by omega) rfl) | ((with_reducible refine D0 ?_); first | exact CA rfl | exact CI rfl (by simp) rfl rfl rfl | refine CJ ?_) | fail)) ⟨⟨by simp, by simp [sgL], _, rfl, cvO_one (by repeat' (first | (with_reducible first | exact C3 | refine C4 ?_ ?_) | ((with_reducible refine C0 ?_); first | exact CC | exact CQ (by omega) rfl rfl (by rfl) rfl) | fail))⟩, ⟨by simp, by simp [sgL], _, rfl, cvO_E (immR_map eInt_ok _) rfl rfl⟩, ⟨by simp, by simp [sgL], _, rfl, cvO_E (immR_map eInt_ok _) rfl rfl⟩, ⟨by simp, by simp [sgL], _, rfl, cvO_E (immR_map eInt_ok _) rfl rfl⟩, ⟨by simp, by simp [sgL], _, rfl, cvO_E (immR_map eJob_ok _) rfl rfl⟩, ⟨by simp, by simp [sgL], _, rfl, cvO_E (immR_map eJob_ok _) rfl rfl⟩, ⟨by simp, by simp [sgL], _, rfl, cvO_E (immR_map eJob_ok _) rfl rfl⟩, trivial⟩ (by simp [sgL]))) ⟨Nat.zero_le _, by rw [hz3, hz4, hz5]; exact ⟨Nat.le_refl _, Nat.le_refl _, Nat.le_refl _⟩, by decide⟩ ?_
  rintro ⟨k, ⟨c3, c4, c5⟩, ⟨m3, m4, m5⟩⟩ ⟨hk, hcc, hmm⟩ KL hKL
  dsimp only at hk hcc hmm
  have hs := hSok k hk
  have hstep := hSt k
  have hw0 := hSw k
  generalize hSk : S k = s at *
  have hlens := hs.lens hb
  have hcl : s.words.length ≤ 64 ∧ s.holds.length ≤ 6 ∧ s.asked.length ≤ 3 ∧ s.wait.length ≤ c3 ∧ s.done.length ≤ c4 ∧ s.told.length ≤ c5 := by
    rw [hs.atm.wl, hs.atm.hl, hs.askedL]; exact ⟨Nat.le_refl _, Nat.le_refl _, Nat.le_refl _, hcc⟩
  by_cases hlt : k < es.length
  · have hw1 := hw0 hlt
    have hs2 := hstep hlt
    have hsk := step_ok hb hs hw1
    repeat' (first | (with_reducible first | (refine hK _ _ _ ?_; clear hK K) | (refine hA ?_; clear hA hB A B) | (refine hB ?_; clear hA hB A B) | refine Z1 ?_ | refine Z2 ?_ | refine Z3 fun KB hKB => ?_ | refine Z4 (by omega) ?_) | (first | (with_reducible first | refine Y2 fun K hK => ?_ | refine Y3 fun A B hA hB => ?_) | (refine a_impl_BusCfg_why (c := c) (s := s) (e := es.getD k default) hcf hp3 (hs.fit hb) (cvL_st hcl rfl rfl rfl rfl rfl rfl trivial trivial trivial trivial trivial trivial) ?_) | (refine a_impl_BusCfg_happen hb hs hw1 hcl hmm (by omega) (by simp) rfl rfl rfl rfl rfl rfl rfl (fun c3' c4' c5' m3' m4' m5' q1 q2 => ?_))) <;> (simp only [go_sem, hw1]; try simp (disch := omega) only [Iw]) | ((with_reducible refine Y0 ?_); simp only [AQ.then, AQ.blk]) | refine ⟨by omega, ?_⟩ | (with_reducible refine hKB _ _ _ ?_) | fail)
    refine hKL _ _ _ (k + 1, (c3', c4', c5'), (m3', m4', m5')) (by omega) ?_ ⟨by dsimp only; omega, by dsimp only; rw [hs2]; exact q1, q2⟩ (by dsimp only; omega)
    dsimp only
    rw [hs2]
    have hl1 : (stepM c s (es.getD k default)).words.length = s.words.length := by rw [hs.atm.wl, hsk.atm.wl]
    have hl2 : (stepM c s (es.getD k default)).holds.length = s.holds.length := by rw [hs.atm.hl, hsk.atm.hl]
    have hl3 : (stepM c s (es.getD k default)).asked.length = s.asked.length := by rw [hs.askedL, hsk.askedL]
    (refine cv_hp [23, 24, 25, 26, 47, 48, 49] (by omega) (by repeat' (first | (with_reducible first | exact C1 | refine C2 ?_ ?_) | ((with_reducible refine C0 ?_); exact CE (by omega) rfl) | ((with_reducible refine D0 ?_); first | exact CA rfl | refine CJ ?_) | fail)) ⟨⟨by simp, by simp [sgL], _, rfl, cvO_one (by unfold oIm; repeat' (first | (with_reducible first | exact C3 | refine C4 ?_ ?_) | ((with_reducible refine C0 ?_); exact CQ (by omega) rfl rfl (by rfl) rfl) | fail))⟩, ⟨by simp, by simp [sgL], _, rfl, cvO_E (immR_map eInt_ok _) rfl rfl⟩, ⟨by simp, by simp [sgL], _, rfl, cvO_E (immR_map eInt_ok _) rfl rfl⟩, ⟨by simp, by simp [sgL], _, rfl, cvO_E (immR_map eInt_ok _) rfl rfl⟩, ⟨by simp, by simp [sgL], _, rfl, cvO_E (immR_map eJob_ok _) rfl rfl⟩, ⟨by simp, by simp [sgL], _, rfl, cvO_E (immR_map eJob_ok _) rfl rfl⟩, ⟨by simp, by simp [sgL], _, rfl, cvO_E (immR_map eJob_ok _) rfl rfl⟩, trivial⟩ (by simp [sgL]))
  · repeat' (first | (with_reducible first | (refine hK _ _ _ ?_; clear hK K) | (refine hB ?_; clear hA hB A B) | refine Z1 ?_ | refine Z5 (by omega) ?_ | refine hKX _ _ _ ?_) | (with_reducible first | refine Y2 fun K hK => ?_ | refine Y3 fun A B hA hB => ?_) <;> (simp only [go_sem]) | ((with_reducible first | refine Y8 ?_ | refine Y9 ?_); try simp only [AQ.then, AQ.blk, reduceIte, Nat.reduceEqDiff]) | fail)
    exact exitP hQ (.tup [.c (cI (-1)), .c (cI 0)]) rfl rfl rfl
theorem a_impl_TrcCheck {c : Cfg} {es : List Ev} (hb : BusOkP c) (hcf : CfgFit c) (hlen : es.length ≤ 200) (hpl : Plays c st0 es) (h : K (.tup [.c (cI (-1)), .c (cI 0)]) H nx) : ACall Tryz.prog n_impl_TrcCheck [dA (eCfg c), dS (es.map eEv)] H nx K :=
  (c_impl_TrcCheck c es hb hcf hlen hpl).pure rfl (lentL_args ⟨cvD_im rfl, cvD_im rfl, trivial⟩) fun r hr => hr ▸ h
end
end Go.Proofs.YtiimjokpcbapeaaGreat
