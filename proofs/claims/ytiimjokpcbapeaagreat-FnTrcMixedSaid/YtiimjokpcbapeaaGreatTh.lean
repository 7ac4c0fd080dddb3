/- Contracts: drawing. -/
import Derived.Test.YtiimjokpcbapeaaGreatTa
import Derived.Test.YtiimjokpcbapeaaGreatMA
set_option linter.unusedVariables false
set_option linter.unusedSimpArgs false
set_option linter.unusedSectionVars false
namespace Go.Proofs.YtiimjokpcbapeaaGreat
open Go Go.AM
set_option maxRecDepth 100000
set_option maxHeartbeats 4000000
section
variable {H : Heap} {nx : Nat} {K : D → Heap → Nat → Prop}

theorem c_spec_l20Rd_pick (l : List Int) (p : Nat) (n : Int) (hl : CodeOk l) (hp50 : p < 2 ^ 50) (hn : - 2 ^ 31 < n ∧ n < 2 ^ 31) : ACall Tryz.prog n_spec_l20Rd_pick [dP 2 0, dI n] (hp [(0, rdO l p)]) 1
    fun r H' n' => n' = 1 ∧ ∃ o', H' = hp [(0, o')] ∧ immO o' ∧ o' = rdO l (p + 1) ∧ ∃ x : Int, r = dI x ∧ 0 ≤ x ∧ (x < n ∨ x = 0) := by
  have hl2 := hl.len
  refine en_spec_l20Rd_pick rfl fun Q hQ => ?_
  unfold ac_spec_l20Rd_pick
  simp only [rdO]
  repeat' (first | (with_reducible first | (refine hK _ _ _ ?_; clear hK K) | (refine hA ?_; clear hA hB A B) | (refine hB ?_; clear hA hB A B) | refine Z1 ?_ | refine Z2 ?_ | refine Z6 (fun h => ?_) fun h => ?_) | (with_reducible first | refine Y2 fun K hK => ?_ | refine Y3 fun A B hA hB => ?_ | refine Y6 (fun h => ?_) fun h => ?_) <;> (simp only [go_sem]; try simp (disch := omega) only [Iw]) | ((with_reducible refine Y8 ?_); try simp only [AQ.then, AQ.blk, reduceIte, Nat.reduceEqDiff]) | refine ⟨by omega, ?_⟩ | fail)
  · exact exitM1 hQ (dI 0) _ _ rfl (cvD_im rfl) rfl (rdO_imm l (p + 1)) ⟨rfl, 0, rfl, by omega, by omega⟩
  · exact exitM1 hQ (dI 0) _ _ rfl (cvD_im rfl) rfl (rdO_imm l (p + 1)) ⟨rfl, 0, rfl, by omega, by omega⟩
  · have b1 := hl.at (p + 1 - 1 : Int).toNat
    rw [IntWalk.i64_in (l.getD _ _) (by omega)]
    exact exitM1 hQ (dI _) _ _ rfl (cvD_im rfl) rfl (rdO_imm l (p + 1)) ⟨rfl, _, rfl, Int.tmod_nonneg _ (by omega), .inl (Int.tmod_lt_of_pos _ (by omega))⟩
  · have e1 : (p : Int) + 1 - 1 = p := by omega
    rw [e1] at *
    have hl3 : (0 : Int) < l.length := by omega
    have t1 := Int.tmod_nonneg (l.length : Int) (show (0 : Int) ≤ p by omega)
    have t2 := Int.tmod_lt_of_pos (p : Int) hl3
    have t3 := Int.tmod_nonneg (l.length : Int) (show (0 : Int) ≤ p * 7 + 3 by omega)
    have t4 := Int.tmod_lt_of_pos ((p : Int) * 7 + 3) hl3
    refine ⟨⟨t1, t2⟩, by omega, ⟨t3, t4⟩, by omega, hK _ _ _ ?_⟩
    clear hK K
    have b1 := hl.at ((p : Int).tmod l.length).toNat
    have b2 := hl.at ((p * 7 + 3 : Int).tmod l.length).toNat
    generalize l.getD ((p : Int).tmod l.length).toNat default = x1 at *
    generalize l.getD ((p * 7 + 3 : Int).tmod l.length).toNat default = x2 at *
    have d1 : 0 ≤ (p : Int).tdiv l.length := Int.tdiv_nonneg (by omega) (by omega)
    have d2 : (p : Int).tdiv l.length ≤ p := Int.tdiv_le_self _ (by omega)
    generalize (p : Int).tdiv l.length = q at *
    simp (disch := omega) only [IntWalk.i64_in]
    have hx : 0 ≤ (x1 : Int) * 131 + x2 * 1117 + p * 29 + q * 53 ∧ (x1 : Int) * 131 + x2 * 1117 + p * 29 + q * 53 < 2 ^ 60 := by omega
    generalize (x1 : Int) * 131 + x2 * 1117 + p * 29 + q * 53 = X at *
    have d3 : 0 ≤ X.tdiv 64 := Int.tdiv_nonneg (by omega) (by omega)
    have d4 : X.tdiv 64 ≤ X := Int.tdiv_le_self _ (by omega)
    have hy := xor_in (a := X) (b := X.tdiv 64) (by omega) (by omega)
    repeat' (first | (with_reducible first | (refine hK _ _ _ ?_; clear hK K) | refine Z1 ?_) | (with_reducible refine Y2 fun K hK => ?_) <;> (simp only [go_sem]; try simp (disch := omega) only [Iw]) | ((with_reducible refine Y8 ?_); try simp only [AQ.then, AQ.blk, reduceIte, Nat.reduceEqDiff]) | refine ⟨by omega, ?_⟩ | fail)
    exact exitM1 hQ (dI _) _ _ rfl (cvD_im rfl) rfl (rdO_imm l (p + 1)) ⟨rfl, _, rfl, Int.tmod_nonneg _ hy, .inl (Int.tmod_lt_of_pos _ (by omega))⟩

theorem a_spec_l20Rd_pick {l : List Int} {p i : Nat} {n : Int} (hl : CodeOk l) (hp50 : p < 2 ^ 50) (hn : - 2 ^ 31 < n ∧ n < 2 ^ 31) (hi : i < nx) (ho : H i = some (rdO l p)) (h : ∀ x : Int, 0 ≤ x → (x < n ∨ x = 0) → K (dI x) (H.set i (rdO l (p + 1))) nx) :
    ACall Tryz.prog n_spec_l20Rd_pick [dP 2 i, dI n] H nx K :=
  (c_spec_l20Rd_pick l p n hl hp50 hn).mut1 i rfl (argL_args ⟨cvD_ptr (by omega) rfl, cvD_im rfl, trivial⟩) hi ho (rdO_imm l p) fun r o' ⟨h1, x, h2, h3, h4⟩ => by
    subst h1; subst h2; exact h x h3 h4

theorem c_spec_l20Rd_odd_big (l : List Int) (p : Nat) : ACall Tryz.prog n_spec_l20Rd_odd [dP 2 0, dI 99999] (hp [(0, rdO l p)]) 1
    fun r H' n' => n' = 1 ∧ ∃ o', H' = hp [(0, o')] ∧ immO o' ∧ o' = rdO l p ∧ r = dB false := by
  refine en_spec_l20Rd_odd rfl fun Q hQ => ?_
  unfold ac_spec_l20Rd_odd
  repeat' (first | (with_reducible first | (refine hK _ _ _ ?_; clear hK K) | refine Z1 ?_) | (with_reducible refine Y2 fun K hK => ?_) <;> (simp only [go_sem]) | ((with_reducible refine Y8 ?_); try simp only [AQ.then, AQ.blk, reduceIte, Nat.reduceEqDiff]) | fail)
  exact exitM1 hQ (dB false) _ _ rfl (cvD_im rfl) rfl (rdO_imm l p) ⟨rfl, rfl⟩
theorem a_spec_l20Rd_odd_big {l : List Int} {p i : Nat} (hi : i < nx) (ho : H i = some (rdO l p)) (h : K (dB false) (H.set i (rdO l p)) nx) : ACall Tryz.prog n_spec_l20Rd_odd [dP 2 i, dI 99999] H nx K :=
  (c_spec_l20Rd_odd_big l p).mut1 i rfl (argL_args ⟨cvD_ptr (by omega) rfl, cvD_im rfl, trivial⟩) hi ho (rdO_imm l p) fun r o' ⟨h1, h2⟩ => by
    subst h1; subst h2; exact h
end
end Go.Proofs.YtiimjokpcbapeaaGreat
