/- Contracts: a bus at its beginning, of the program. -/
import Derived.Test.YtiimjokpcbapeaaGreatTp
import Derived.Test.YtiimjokpcbapeaaGreatED
import Derived.Test.YtiimjokpcbapeaaGreatTf
set_option linter.unusedVariables false
set_option linter.unusedSimpArgs false
set_option linter.unusedSectionVars false
namespace Go.Proofs.YtiimjokpcbapeaaGreat
open Go Go.AM
set_option maxRecDepth 100000
set_option maxHeartbeats 8000000
section
variable {H : Heap} {nx : Nat} {K : D → Heap → Nat → Prop}
abbrev dW (n : Int) : D := .one (.c (.v (.int .u64 n)))
theorem c_math_bits_Mul64  : ACall Tryz.prog n_math_bits_Mul64 [dW 1, dW 6] .nil 0 fun rr _ _ => rr.plain = true ∧ rr = .tup [.c (.v (.int .u64 0)), .c (.v (.int .u64 6))] := by
  refine en_math_bits_Mul64 rfl fun Q hQ => ?_
  unfold ac_math_bits_Mul64
  repeat' (first | (with_reducible first | (refine hK _ _ _ ?_; clear hK K) | refine Z1 ?_) | (with_reducible refine Y2 fun K hK => ?_) <;> (simp only [go_sem]) | ((with_reducible refine Y8 ?_); try simp only [AQ.then, AQ.blk, reduceIte, Nat.reduceEqDiff]) | fail)
  exact exitP hQ (.tup [.c (.v (.int .u64 0)), .c (.v (.int .u64 6))]) (by rfl) rfl rfl
theorem a_math_bits_Mul64    (h : K (.tup [.c (.v (.int .u64 0)), .c (.v (.int .u64 6))]) H nx) : ACall Tryz.prog n_math_bits_Mul64 [dW 1, dW 6] H nx K :=
  (c_math_bits_Mul64 ).pure rfl (lentL_args ⟨cvD_im rfl, cvD_im rfl, trivial⟩) (fun r hr => hr ▸ h)
theorem c_math_bits_Mul  : ACall Tryz.prog n_math_bits_Mul [dW 1, dW 6] .nil 0 fun rr _ _ => rr.plain = true ∧ rr = .tup [.c (.v (.int .u64 0)), .c (.v (.int .u64 6))] := by
  refine en_math_bits_Mul rfl fun Q hQ => ?_
  unfold ac_math_bits_Mul
  repeat' (first | (with_reducible first | (refine hK _ _ _ ?_; clear hK K) | (refine hB ?_; clear hA hB A B) | refine Z1 ?_ | refine Z2 ?_) | (first | (with_reducible first | refine Y2 fun K hK => ?_ | refine Y3 fun A B hA hB => ?_) | (with_reducible refine a_math_bits_Mul64 ?_)) <;> (simp only [go_sem]) | ((with_reducible refine Y8 ?_); try simp only [AQ.then, AQ.blk, reduceIte, Nat.reduceEqDiff]) | fail)
  all_goals first | with_reducible refine exitP hQ _ rfl rfl ?_ | skip
  all_goals rfl
theorem a_math_bits_Mul    (h : K (.tup [.c (.v (.int .u64 0)), .c (.v (.int .u64 6))]) H nx) : ACall Tryz.prog n_math_bits_Mul [dW 1, dW 6] H nx K :=
  (c_math_bits_Mul ).pure rfl (lentL_args ⟨cvD_im rfl, cvD_im rfl, trivial⟩) (fun r hr => hr ▸ h)
theorem c_slices_Repeat_Zint_int : ACall Tryz.prog n_slices_Repeat_Zint_int [dO 1 0 1 1, dI 6] (hp [(0, ⟨1, 1, [(-1 : Int)].map eInt⟩)]) 1
    fun r H' n' => n' = 2 ∧ H' = hp [(1, ⟨1, 6, (List.replicate 6 (-1 : Int)).map eInt⟩)] ∧ r = dO 1 1 6 6 := by
  refine en_slices_Repeat_Zint_int rfl fun Q hQ => ?_
  unfold ac_slices_Repeat_Zint_int
  have w1 : IntKind.u64.wrap 1 = 1 := by decide
  have w6 : IntKind.u64.wrap 6 = 6 := by decide
  have m16 : min 1 6 = 1 := rfl
  have h11 : ((1 : Nat) : Int) = 1 := rfl
  generalize hl0 : [(-1 : Int)] = l0 at *
  have hlen : l0.length = 1 := by subst hl0; rfl
  repeat' (first | (with_reducible first | (refine hK _ _ _ ?_; clear hK K) | (refine hB ?_; clear hA hB A B) | refine Z1 ?_ | refine Z2 ?_ | refine Z3 fun KB hKB => ?_) | (first | (with_reducible first | refine Y2 fun K hK => ?_ | refine Y3 fun A B hA hB => ?_) | (with_reducible refine a_math_bits_Mul ?_)) <;> (simp only [go_sem, hlen, w1, w6, h11, m16]; try simp (disch := omega) only [Iw]) | refine ⟨by omega, ?_⟩ | fail)
  (have hKX := hKB; clear hKB)
  obtain ⟨R, hR⟩ : ∃ R : Nat → List Int, R = fun n => List.replicate n (-1 : Int) ++ List.replicate (6 - n) 0 := ⟨_, rfl⟩
  refine AWPL.loopP 1 (β := Nat) (fun b n => en [(8, dI n), (7, dO 1 b 6 6)]) (fun b n => hp [(b, ⟨1, 6, (R n).map eInt⟩)]) (fun n => n = 1 ∨ n = 2 ∨ n = 4 ∨ n = 6) (fun n => 6 - n) 1
    (by (refine cv_hp [23] (by omega) (by repeat' (first | (with_reducible first | exact C1 | refine C2 ?_ ?_) | ((with_reducible refine C0 ?_); exact CQ (by omega) rfl rfl (by rfl) rfl) | ((with_reducible refine D0 ?_); first | exact CA rfl | refine CJ ?_) | fail)) ⟨⟨by simp, by simp [sgL], _, rfl, cvO_E (immR_map eInt_ok _) (by subst hR; subst hl0; rfl) rfl⟩, trivial⟩ (by simp [sgL]))) (.inl rfl) ?_
  intro n hn KL hKL
  have m15 : min 1 5 = 1 := rfl
  have m24 : min 2 4 = 2 := rfl
  have m42 : min 4 2 = 2 := rfl
  have hRl : ∀ n, n ≤ 6 → (R n).length = 6 := fun n hn => by subst hR; simp; omega
  have r1 := hRl 1 (by decide)
  have r2 := hRl 2 (by decide)
  have r4 := hRl 4 (by decide)
  rcases hn with rfl | rfl | rfl | rfl
  · repeat' (first | (with_reducible first | (refine hK _ _ _ ?_; clear hK K) | (refine hA ?_; clear hA hB A B) | refine Z1 ?_ | refine Z2 ?_ | refine Z3 fun KB hKB => ?_ | refine Z4 (by omega) ?_) | (with_reducible first | refine Y2 fun K hK => ?_ | refine Y3 fun A B hA hB => ?_) <;> (simp only [go_sem, r1, m15]; try simp (disch := omega) only [Iw]) | ((with_reducible refine Y0 ?_); simp only [AQ.then, AQ.blk]) | refine ⟨by omega, ?_⟩ | (with_reducible refine hKB _ _ _ ?_) | fail)
    exact hKL _ _ _ 2 (by omega) (by (refine cv_hp [29] (by omega) (by repeat' (first | (with_reducible first | exact C1 | refine C2 ?_ ?_) | ((with_reducible refine C0 ?_); exact CQ (by omega) rfl rfl (by rfl) rfl) | ((with_reducible refine D0 ?_); first | exact CA rfl | refine CJ ?_) | fail)) ⟨⟨by simp, by simp [sgL], _, rfl, cvO_E (immR_map eInt_ok _) (by subst hR; rfl) rfl⟩, trivial⟩ (by simp [sgL]))) (by omega) (by omega)
  · repeat' (first | (with_reducible first | (refine hK _ _ _ ?_; clear hK K) | (refine hA ?_; clear hA hB A B) | refine Z1 ?_ | refine Z2 ?_ | refine Z3 fun KB hKB => ?_ | refine Z4 (by omega) ?_) | (with_reducible first | refine Y2 fun K hK => ?_ | refine Y3 fun A B hA hB => ?_) <;> (simp only [go_sem, r2, m24]; try simp (disch := omega) only [Iw]) | ((with_reducible refine Y0 ?_); simp only [AQ.then, AQ.blk]) | refine ⟨by omega, ?_⟩ | (with_reducible refine hKB _ _ _ ?_) | fail)
    exact hKL _ _ _ 4 (by omega) (by (refine cv_hp [29] (by omega) (by repeat' (first | (with_reducible first | exact C1 | refine C2 ?_ ?_) | ((with_reducible refine C0 ?_); exact CQ (by omega) rfl rfl (by rfl) rfl) | ((with_reducible refine D0 ?_); first | exact CA rfl | refine CJ ?_) | fail)) ⟨⟨by simp, by simp [sgL], _, rfl, cvO_E (immR_map eInt_ok _) (by subst hR; rfl) rfl⟩, trivial⟩ (by simp [sgL]))) (by omega) (by omega)
  · repeat' (first | (with_reducible first | (refine hK _ _ _ ?_; clear hK K) | (refine hA ?_; clear hA hB A B) | refine Z1 ?_ | refine Z2 ?_ | refine Z3 fun KB hKB => ?_ | refine Z4 (by omega) ?_) | (with_reducible first | refine Y2 fun K hK => ?_ | refine Y3 fun A B hA hB => ?_) <;> (simp only [go_sem, r4, m42]; try simp (disch := omega) only [Iw]) | ((with_reducible refine Y0 ?_); simp only [AQ.then, AQ.blk]) | refine ⟨by omega, ?_⟩ | (with_reducible refine hKB _ _ _ ?_) | fail)
    exact hKL _ _ _ 6 (by omega) (by (refine cv_hp [29] (by omega) (by repeat' (first | (with_reducible first | exact C1 | refine C2 ?_ ?_) | ((with_reducible refine C0 ?_); exact CQ (by omega) rfl rfl (by rfl) rfl) | ((with_reducible refine D0 ?_); first | exact CA rfl | refine CJ ?_) | fail)) ⟨⟨by simp, by simp [sgL], _, rfl, cvO_E (immR_map eInt_ok _) (by subst hR; rfl) rfl⟩, trivial⟩ (by simp [sgL]))) (by omega) (by omega)
  · repeat' (first | (with_reducible first | (refine hK _ _ _ ?_; clear hK K) | (refine hB ?_; clear hA hB A B) | refine Z1 ?_ | refine Z5 (by omega) ?_ | refine hKX _ _ _ ?_) | (with_reducible first | refine Y2 fun K hK => ?_ | refine Y3 fun A B hA hB => ?_) <;> (simp only [go_sem]) | ((with_reducible first | refine Y8 ?_ | refine Y9 ?_); try simp only [AQ.then, AQ.blk, reduceIte, Nat.reduceEqDiff]) | fail)
    (refine hQ _ _ _ _ _ 2 (dO 1 1 6 6) (hp [(1, ⟨1, 6, (List.replicate 6 (-1 : Int)).map eInt⟩)]) _ _ (.inr rfl) rfl (cvR_hp [29] (by omega) (by repeat' (first | ((with_reducible refine C0 ?_); exact CQ (by omega) rfl rfl (by rfl) rfl) | ((with_reducible refine D0 ?_); refine CJ ?_) | fail)) ⟨⟨by simp, by simp [sgL], _, rfl, cvO_E (immR_map eInt_ok _) (by subst hR; rfl) rfl⟩, trivial⟩ (by simp [sgL])) ?_)
    exact ⟨rfl, rfl, rfl⟩
theorem a_slices_Repeat_Zint_int {i0 : Nat} (h0 : i0 < nx) (o0 : H i0 = some ⟨1, 1, [[cI (-1)]]⟩) (h : K (dO 1 nx 6 6) ((H.del i0).set nx ⟨1, 6, (List.replicate 6 (-1 : Int)).map eInt⟩) (nx + 1)) : ACall Tryz.prog n_slices_Repeat_Zint_int [dO 1 i0 1 1, dI 6] H nx K := by
  refine c_slices_Repeat_Zint_int.mutL [i0] rfl ⟨cvD_oslE (by simp) rfl rfl rfl rfl, cvD_im rfl, trivial⟩ ⟨⟨by simp, id, _, o0, cvO_E (immR_map eInt_ok _) rfl rfl⟩, trivial⟩ (by simp) (by simp; omega) (by simp) fun r H' n' _ ⟨q1, q2, q3⟩ => ?_
  subst q1; subst q2; subst q3
  generalize List.replicate 6 (-1 : Int) = w0 at *
  have e1 : back (tau 1 nx (nth [i0])) (hp [(1, ⟨1, 6, w0.map eInt⟩)]) 2 H = (H.del i0).set nx ⟨1, 6, w0.map eInt⟩ := by
    simp [back, hp, Heap.set, Heap.nil, tau, nth, rnO_eInt, Heap.upd_some, Heap.upd_none]
  rw [← e1] at h
  exact h
theorem c_impl_MemNew  : ACall Tryz.prog n_impl_MemNew [] .nil 0 fun rr _ nn => nn = 0 ∧ rr.imm = true ∧ rr = dA [.isl ((List.replicate 64 (0 : Int)).map eInt)] := by
  refine en_impl_MemNew rfl fun Q hQ => ?_
  unfold ac_impl_MemNew
  repeat' (first | (with_reducible first | (refine hK _ _ _ ?_; clear hK K) | refine Z1 ?_) | (with_reducible refine Y2 fun K hK => ?_) <;> (simp only [go_sem]) | ((with_reducible refine Y8 ?_); try simp only [AQ.then, AQ.blk, reduceIte, Nat.reduceEqDiff]) | fail)
  exact exitF hQ (dA [.isl ((List.replicate 64 (0 : Int)).map eInt)]) _ rfl (cvL_cons (cv1_frz (rows := (List.replicate 64 (0 : Int)).map eInt) (immR_map eInt_ok _) (by simp) trivial rfl rfl rfl (by simp)) cvL_nil) rfl rfl
theorem a_impl_MemNew   (h : K (dA [.isl ((List.replicate 64 (0 : Int)).map eInt)]) H nx) : ACall Tryz.prog n_impl_MemNew [] H nx K :=
  (c_impl_MemNew ).fresh rfl (fun r hr => hr ▸ h)
theorem c_impl_AtmNew  : ACall Tryz.prog n_impl_AtmNew [] .nil 0 fun rr _ nn => nn = 0 ∧ rr.imm = true ∧ rr = dA [.isl ((List.replicate 64 (0 : Int)).map eInt), .isl ((List.replicate 6 (-1 : Int)).map eInt)] := by
  refine en_impl_AtmNew rfl fun Q hQ => ?_
  unfold ac_impl_AtmNew
  generalize hw0 : List.replicate 64 (0 : Int) = w0 at *
  have hmn : ∀ {H : Heap} {nx : Nat} {K : D → Heap → Nat → Prop}, K (dA [.isl (w0.map eInt)]) H nx → ACall Tryz.prog n_impl_MemNew [] H nx K := fun h => by subst hw0; exact a_impl_MemNew h
  generalize hw1 : List.replicate 6 (-1 : Int) = w1 at *
  have hl1 : w1.length = 6 := by subst hw1; rfl
  have hrp : ∀ {H : Heap} {nx i0 : Nat} {K : D → Heap → Nat → Prop}, i0 < nx → H i0 = some ⟨1, 1, [[cI (-1)]]⟩ → K (dO 1 nx 6 6) ((H.del i0).set nx ⟨1, 6, w1.map eInt⟩) (nx + 1) → ACall Tryz.prog n_slices_Repeat_Zint_int [dO 1 i0 1 1, dI 6] H nx K := fun h0 o0 h => by subst hw1; exact a_slices_Repeat_Zint_int h0 o0 h
  repeat' (first | (with_reducible first | (refine hK _ _ _ ?_; clear hK K) | refine Z1 ?_) | (first | (with_reducible refine Y2 fun K hK => ?_) | (refine hmn ?_) | (refine hrp (by omega) rfl ?_)) <;> (simp only [go_sem]) | ((with_reducible refine Y8 ?_); try simp only [AQ.then, AQ.blk, reduceIte, Nat.reduceEqDiff]) | fail)
  exact exitF hQ (dA [.isl (w0.map eInt), .isl (w1.map eInt)]) _ rfl (cvL_cons (cv1_imm rfl) (cvL_cons (cv1_frzM eInt_ok rfl hl1.symm (by omega) trivial) cvL_nil)) rfl rfl
theorem a_impl_AtmNew   (h : K (dA [.isl ((List.replicate 64 (0 : Int)).map eInt), .isl ((List.replicate 6 (-1 : Int)).map eInt)]) H nx) : ACall Tryz.prog n_impl_AtmNew [] H nx K :=
  (c_impl_AtmNew ).fresh rfl (fun r hr => hr ▸ h)
theorem c_impl_TlmNew  : ACall Tryz.prog n_impl_TlmNew [] .nil 0 fun rr _ nn => nn = 0 ∧ rr.imm = true ∧ rr = dA (eSt st0) := by
  refine en_impl_TlmNew rfl fun Q hQ => ?_
  unfold ac_impl_TlmNew
  generalize hs0 : st0 = s0 at *
  have hmn : ∀ {H : Heap} {nx : Nat} {K : D → Heap → Nat → Prop}, K (dA [.isl (s0.words.map eInt), .isl (s0.holds.map eInt)]) H nx → ACall Tryz.prog n_impl_AtmNew [] H nx K := fun h => by subst hs0; exact a_impl_AtmNew h
  have ha : [[D1.v (Value.int IntKind.i64 0)], [D1.v (Value.int IntKind.i64 0)], [D1.v (Value.int IntKind.i64 0)]] = s0.asked.map eInt := by subst hs0; rfl
  have hal : s0.asked.length = 3 := by subst hs0; rfl
  have h1 : s0.wait = [] := by subst hs0; rfl
  have h2 : s0.done = [] := by subst hs0; rfl
  have h3 : s0.told = [] := by subst hs0; rfl
  obtain ⟨w0, h0, a0, l1, l2, l3⟩ := s0
  dsimp only at *
  subst h1; subst h2; subst h3
  repeat' (first | (with_reducible first | (refine hK _ _ _ ?_; clear hK K) | refine Z1 ?_) | (first | (with_reducible refine Y2 fun K hK => ?_) | (refine hmn ?_)) <;> (simp only [go_sem, ha]) | ((with_reducible refine Y8 ?_); try simp only [AQ.then, AQ.blk, reduceIte, Nat.reduceEqDiff]) | fail)
  exact exitF hQ (dA (eSt ⟨w0, h0, a0, [], [], []⟩)) _ rfl (cvL_cons (cv1_imm rfl) (cvL_cons (cv1_imm rfl) (cvL_cons (cv1_frzM eInt_ok rfl hal.symm (by dsimp only; omega) trivial) (cvL_cons cv1_frz0 (cvL_cons cv1_frz0 (cvL_cons cv1_frz0 cvL_nil)))))) rfl rfl
theorem a_impl_TlmNew   (h : K (dA (eSt st0)) H nx) : ACall Tryz.prog n_impl_TlmNew [] H nx K :=
  (c_impl_TlmNew ).fresh rfl (fun r hr => hr ▸ h)
end
end Go.Proofs.YtiimjokpcbapeaaGreat
