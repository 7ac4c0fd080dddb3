/- The walk of FnTlmCount. -/
import Derived.Test.YtiimjokpcbapeaaGreatAcLFnTlmCount
import Derived.Test.YtiimjokpcbapeaaGreatLk
import Derived.Test.YtiimjokpcbapeaaGreatTx
import Derived.Test.YtiimjokpcbapeaaGreatMA
set_option linter.unusedVariables false
set_option linter.unusedSimpArgs false
set_option linter.unusedSectionVars false
namespace Go.Proofs.YtiimjokpcbapeaaGreat
open Go Go.AM
set_option maxRecDepth 100000
set_option maxHeartbeats 8000000
section
variable {H : Heap} {nx : Nat} {K : D → Heap → Nat → Prop}
theorem ask_sum {s : TSt} (h : s.asked.length = 3) : (s.asked.take 3).sum = askSum s := by
  unfold askSum
  match hl : s.asked, h with
  | [a, b, c], _ => simp [List.getD]; omega
theorem c_laws_FnTlmCount (l : List Int) (hby : ∀ x ∈ l, 0 ≤ x ∧ x < 256) : ACall Tryz.prog n_laws_FnTlmCount [dS (l.map eU8)] .nil 0 fun rr _ _ => rr.plain = true ∧ rr = dB true := by
  refine en_laws_FnTlmCount rfl fun Q hQ => ?_
  unfold ac_laws_FnTlmCount
  by_cases hbig : l.length ≤ 1048576
  case neg =>
    repeat' (first | (with_reducible first | (refine hK _ _ _ ?_; clear hK K) | (refine hA ?_; clear hA hB A B) | refine Z1 ?_ | refine Z4 (by omega) ?_) | (with_reducible first | refine Y2 fun K hK => ?_ | refine Y3 fun A B hA hB => ?_) <;> (simp only [go_sem]) | ((with_reducible refine Y8 ?_); try simp only [AQ.then, AQ.blk, reduceIte, Nat.reduceEqDiff]) | fail)
    exact exitP hQ (dB true) rfl rfl rfl
  have hl : CodeOk l := ⟨by omega, hby⟩
  generalize hs0 : st0 = s0
  have htn : ∀ {H : Heap} {nx : Nat} {K : D → Heap → Nat → Prop}, K (dA (eSt s0)) H nx → ACall Tryz.prog n_impl_TlmNew [] H nx K := fun h => by subst hs0; exact a_impl_TlmNew h
  have htr : ∀ {H : Heap} {nx : Nat} {K : D → Heap → Nat → Prop} {c : Cfg} {es : List Ev}, BusOkP c → CfgFit c → es.length ≤ 200 → Plays c st0 es → K (.tup [.agg (eSt (runM c st0 es)), .c (cI es.length)]) H nx → ACall Tryz.prog n_impl_TlmRun [dA (eCfg c), dA (eSt s0), dS (es.map eEv)] H nx K := fun h1 h2 h3 h4 h5 => by subst hs0; exact a_impl_TlmRun0 h1 h2 h3 h4 h5
  repeat' (first | (with_reducible first | (refine hK _ _ _ ?_; clear hK K) | (refine hB ?_; clear hA hB A B) | refine Z1 ?_ | refine Z2 ?_ | refine Z3 fun KB hKB => ?_ | refine Z5 (by omega) ?_) | (first | (with_reducible first | refine Y2 fun K hK => ?_ | refine Y3 fun A B hA hB => ?_) | (refine a_spec_DrawTlmPlay hl (fun c es hb hf hp hlen => ?_)) | (refine htn ?_) | (refine htr (by assumption) (by assumption) (by omega) (by assumption) ?_)) <;> (simp only [go_sem]) | fail)
  have hs := plays_end hb (st0_ok c) hp
  obtain ⟨n1, n2, n3⟩ := plays_counts hb hp es.length (Nat.le_refl _)
  rw [List.take_length] at n1 n2 n3
  have hpk := fun k hk => plays_kind hp (k := k) hk
  generalize runM c st0 es = s at *
  (have hKX := hKB; clear hKB)
  refine AWPL.loopP 1 (β := Nat) (fun b k => en [(8, dI k), (7, dO 1 b 4 4), (5, .one (.c (.iptr (eSt s)))), (4, dS (es.map eEv))]) (fun b k => Go.AM.hp [(b, ⟨1, 4, (manyL (es.take k)).map eInt⟩)]) (fun k => k ≤ es.length) (fun k => es.length - k) 0
    (by (refine cv_hp [26] (by omega) (by repeat' (first | (with_reducible first | exact C1 | refine C2 ?_ ?_) | ((with_reducible refine C0 ?_); exact CQ (by omega) rfl rfl (by rfl) rfl) | ((with_reducible refine D0 ?_); first | exact CA rfl | exact CI rfl (by simp) rfl rfl rfl | refine CJ ?_) | fail)) ⟨⟨by simp, by simp [sgL], _, rfl, cvO_E (immR_map eInt_ok _) rfl rfl⟩, trivial⟩ (by simp [sgL]))) (by omega) ?_
  intro k hk KL hKL
  have hml := manyL_len (l := es.take k)
  by_cases hlt : k < es.length
  · have hpk1 := hpk k hlt
    have hin := manyL_in (l := es.take k) (k := (es.getD k default).kind.toNat) (by omega)
    have hsn := manyL_snoc (l := es.take k) hpk1
    rw [← take_snocE hlt] at hsn
    have htl : (es.take k).length = k := by simp; omega
    repeat' (first | (with_reducible first | (refine hK _ _ _ ?_; clear hK K) | (refine hA ?_; clear hA hB A B) | refine Z1 ?_ | refine Z2 ?_ | refine Z3 fun KB hKB => ?_ | refine Z4 (by omega) ?_) | (with_reducible first | refine Y2 fun K hK => ?_ | refine Y3 fun A B hA hB => ?_) <;> (simp only [go_sem]; try simp (disch := omega) only [Iw]) | ((with_reducible refine Y0 ?_); simp only [AQ.then, AQ.blk]) | refine ⟨by omega, ?_⟩ | (with_reducible refine hKB _ _ _ ?_) | fail)
    exact hKL _ _ _ (k + 1) (by omega) (by (refine cv_hp [29] (by omega) (by repeat' (first | (with_reducible first | exact C1 | refine C2 ?_ ?_) | ((with_reducible refine C0 ?_); exact CQ (by omega) rfl rfl (by rfl) rfl) | ((with_reducible refine D0 ?_); first | exact CA rfl | refine CJ ?_) | fail)) ⟨⟨by simp, by simp [sgL], _, rfl, cvO_E (immR_map eInt_ok _) (congrArg _ hsn.symm) rfl⟩, trivial⟩ (by simp [sgL]))) (by omega) (by omega)
  · have hk2 : k = es.length := by omega
    subst hk2
    repeat' (first | (with_reducible first | (refine hK _ _ _ ?_; clear hK K) | (refine hB ?_; clear hA hB A B) | refine Z1 ?_ | refine Z3 fun KB hKB => ?_ | refine Z5 (by omega) ?_ | refine hKX _ _ _ ?_) | (with_reducible first | refine Y2 fun K hK => ?_ | refine Y3 fun A B hA hB => ?_) <;> (simp only [go_sem]) | ((with_reducible refine Y9 ?_); try simp only [AQ.then, AQ.blk, reduceIte, Nat.reduceEqDiff]) | fail)
    (have hKY := hKB; clear hKB)
    have hal := hs.askedL
    have hp12 := (busOk_prog hb).2
    have hin := fun k => manyL_in (l := es) (k := k)
    have hml := manyL_len (l := es)
    refine AWPL.loopP 1 (β := Nat) (fun b k => en [(10, dI k), (9, dI (s.asked.take k).sum), (7, dO 1 b 4 4), (5, .one (.c (.iptr (eSt s))))]) (fun b k => Go.AM.hp [(b, ⟨1, 4, (manyL es).map eInt⟩)]) (fun k => k ≤ 3 ∧ 0 ≤ (s.asked.take k).sum ∧ (s.asked.take k).sum ≤ 12 * k) (fun k => 3 - k) 0
      (by (refine cv_hp [29] (by omega) (by repeat' (first | (with_reducible first | exact C1 | refine C2 ?_ ?_) | ((with_reducible refine C0 ?_); exact CQ (by omega) rfl rfl (by rfl) rfl) | ((with_reducible refine D0 ?_); first | exact CA rfl | refine CJ ?_) | fail)) ⟨⟨by simp, by simp [sgL], _, rfl, cvO_E (immR_map eInt_ok _) rfl rfl⟩, trivial⟩ (by simp [sgL]))) ⟨by omega, by simp, by simp⟩ ?_
    rintro k ⟨hk, h1, h2⟩ KM hKM
    by_cases hlt : k < 3
    · have hsum : (s.asked.take (k + 1)).sum = (s.asked.take k).sum + s.asked.getD k default := by rw [take_snocI (by omega), List.sum_append]; simp
      have har := hs.askedR k hlt
      have hpk := hp12 k
      repeat' (first | (with_reducible first | (refine hK _ _ _ ?_; clear hK K) | (refine hA ?_; clear hA hB A B) | refine Z1 ?_ | refine Z2 ?_ | refine Z3 fun KB hKB => ?_ | refine Z4 (by omega) ?_) | (with_reducible first | refine Y2 fun K hK => ?_ | refine Y3 fun A B hA hB => ?_) <;> (simp only [go_sem]; try simp (disch := omega) only [Iw]) | ((with_reducible refine Y0 ?_); simp only [AQ.then, AQ.blk]) | refine ⟨by omega, ?_⟩ | (with_reducible refine hKB _ _ _ ?_) | fail)
      exact hKM _ _ _ (k + 1) (by omega) (by rw [hsum]; (refine cv_hp [36] (by omega) (by repeat' (first | (with_reducible first | exact C1 | refine C2 ?_ ?_) | ((with_reducible refine C0 ?_); exact CQ (by omega) rfl rfl (by rfl) rfl) | ((with_reducible refine D0 ?_); first | exact CA rfl | refine CJ ?_) | fail)) ⟨⟨by simp, by simp [sgL], _, rfl, cvO_E (immR_map eInt_ok _) rfl rfl⟩, trivial⟩ (by simp [sgL]))) ⟨by omega, by rw [hsum]; omega, by rw [hsum]; omega⟩ (by omega)
    · have hk3 : k = 3 := by omega
      subst hk3
      have hs3 := ask_sum hal
      have c1 : (manyL es).getD 1 default = (s.asked.take 3).sum := by rw [hs3]; exact n1
      have c2 : (manyL es).getD 2 default = (s.done.length : Int) + s.told.length := n2
      have c3 : (manyL es).getD 3 default = (s.told.length : Int) := n3
      have hls := hs.lens hb
      repeat' (first | (with_reducible first | (refine hK _ _ _ ?_; clear hK K) | (refine hB ?_; clear hA hB A B) | refine Z1 ?_ | refine Z5 (by omega) ?_ | refine hKY _ _ _ ?_) | (first | (with_reducible first | refine Y2 fun K hK => ?_ | refine Y3 fun A B hA hB => ?_ | refine Y4 (by omega) ?_) | (with_reducible refine a_laws_crOk ?_)) <;> (simp only [go_sem]; try simp (disch := omega) only [Iw]) | ((with_reducible first | refine Y8 ?_ | refine Y9 ?_); try simp only [AQ.then, AQ.blk, reduceIte, Nat.reduceEqDiff]) | refine ⟨by omega, ?_⟩ | fail)
      exact exitP hQ (dB true) rfl rfl rfl
end
end Go.Proofs.YtiimjokpcbapeaaGreat
