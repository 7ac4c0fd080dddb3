/- Contracts: drawing addresses, ranges. -/
import Derived.Test.YtiimjokpcbapeaaGreatTh
import Derived.Test.YtiimjokpcbapeaaGreatMA
set_option linter.unusedVariables false
set_option linter.unusedSimpArgs false
set_option linter.unusedSectionVars false
namespace Go.Proofs.YtiimjokpcbapeaaGreat
open Go Go.AM
set_option maxRecDepth 100000
set_option maxHeartbeats 4000000
section
variable {H : Heap} {nx : Nat} {K : D → Heap → Nat → Prop}

theorem c_spec_l20Addr (l : List Int) (p : Nat)  (hl : CodeOk l) (hp50 : p + 7 < 2 ^ 50) : ACall Tryz.prog n_spec_l20Addr [dP 2 0] (hp [(0, rdO l p)]) 1
    fun rr H' n' => n' = 1 ∧ ∃ o', H' = hp [(0, o')] ∧ immO o' ∧ ∃ (p' : Nat) (x : Int), o' = rdO l p' ∧ p ≤ p' ∧ p' ≤ p + 7 ∧ rr = dI x ∧ (0 ≤ x ∧ x ≤ 63) := by
  refine en_spec_l20Addr rfl fun Q hQ => ?_
  unfold ac_spec_l20Addr
  repeat' (first | (with_reducible first | (refine hK _ _ _ ?_; clear hK K) | refine Z1 ?_) | (first | (with_reducible refine Y2 fun K hK => ?_) | (refine a_spec_l20Rd_pick hl (by omega) (by omega) (by omega) rfl (fun x h1 h2 => ?_))) <;> (simp only [go_sem]; try simp (disch := omega) only [Iw]) | refine ⟨by omega, ?_⟩ | fail)
  have hx : x = 0 ∨ x = 1 ∨ x = 2 ∨ x = 3 ∨ x = 4 ∨ x = 5 ∨ x = 6 ∨ x = 7 := by omega
  rcases hx with rfl | rfl | rfl | rfl | rfl | rfl | rfl | rfl
  all_goals simp only [go_sem]; try simp (disch := omega) only [Iw]
  all_goals repeat' (first | (with_reducible (refine hK _ _ _ ?_; clear hK K)) | ((with_reducible refine Y8 ?_); try simp only [AQ.then, AQ.blk, reduceIte, Nat.reduceEqDiff]) | refine ⟨by omega, ?_⟩ | fail)
  all_goals exact exitM1 hQ (dI _) _ _ rfl (cvD_im rfl) rfl (rdO_imm _ _) ⟨_, _, rfl, by omega, by omega, rfl, by omega, by omega⟩
theorem a_spec_l20Addr {l : List Int} {p i : Nat}   (hl : CodeOk l) (hp50 : p + 7 < 2 ^ 50) (hi : i < nx) (ho : H i = some (rdO l p)) (h : ∀ (p' : Nat) (x : Int), p ≤ p' → p' ≤ p + 7 → (0 ≤ x ∧ x ≤ 63) → K (dI x) (H.set i (rdO l p')) nx) :
    ACall Tryz.prog n_spec_l20Addr [dP 2 i] H nx K :=
  (c_spec_l20Addr l p  hl hp50).mut1 i rfl (argL_args ⟨cvD_ptr (by omega) rfl, trivial⟩) hi ho (rdO_imm l p) fun r o' ⟨p', x, h1, h2, h3, h4, h5⟩ => by
    subst h1; subst h4; exact rnD_imm' (A := fun d => K d (H.set i (rdO l p')) nx) rfl (h p' x h2 h3 h5)
theorem c_spec_l20Map (l : List Int) (p : Nat)  (hl : CodeOk l) (hp50 : p + 8 < 2 ^ 50) : ACall Tryz.prog n_spec_l20Map [dP 2 0, dI 99999] (hp [(0, rdO l p)]) 1
    fun rr H' n' => n' = 1 ∧ ∃ o', H' = hp [(0, o')] ∧ immO o' ∧ ∃ (p' : Nat) (m : List Rng), o' = rdO l p' ∧ p ≤ p' ∧ p' ≤ p + 8 ∧ rr = dS (m.map eRng) ∧ (MapOkP m) := by
  refine en_spec_l20Map rfl fun Q hQ => ?_
  unfold ac_spec_l20Map
  repeat' (first | (with_reducible first | (refine hK _ _ _ ?_; clear hK K) | (refine hA ?_; clear hA hB A B) | (refine hB ?_; clear hA hB A B) | refine Z1 ?_ | refine Z2 ?_ | refine Z3 fun KB hKB => ?_ | refine Z6 (fun h => ?_) fun h => ?_) | (first | (with_reducible first | refine Y2 fun K hK => ?_ | refine Y3 fun A B hA hB => ?_) | (refine a_spec_l20Rd_pick hl (by omega) (by omega) (by omega) rfl (fun x h1 h2 => ?_)) | (refine a_spec_l20Rd_odd_big (by omega) rfl ?_)) <;> (simp only [go_sem]; try simp (disch := omega) only [Iw]) | ((with_reducible refine Y8 ?_); try simp only [AQ.then, AQ.blk, reduceIte, Nat.reduceEqDiff]) | ((with_reducible refine Y0 ?_); simp only [AQ.then, AQ.blk]) | refine ⟨by omega, ?_⟩ | (with_reducible refine hKB _ _ _ ?_) | fail)
  · exact exitM1 hQ (dS ((map4 _ _).map eRng)) _ _ rfl (cvD_frzM (l := map4 _ _) eRng_ok rfl rfl (by simp [map4]) (by decide)) rfl (rdO_imm _ _) ⟨_, map4 _ _, rfl, by omega, by omega, rfl, map4_ok _ _ (by omega)⟩
  · have hx : x = 0 ∨ x = 1 ∨ x = 2 := by omega
    rcases hx with rfl | rfl | rfl
    · exact exitM1 hQ (dS (((map3 false).take 1).map eRng)) _ _ rfl (cvD_frz (rows := ((map3 false).take 1).map eRng) (immR_map eRng_ok _) rfl (by decide) rfl rfl rfl (by simp [map3])) rfl (rdO_imm _ _) ⟨_, (map3 false).take 1, rfl, by omega, by omega, rfl, map3_ok _ 1 (by decide)⟩
    · exact exitM1 hQ (dS (((map3 false).take 2).map eRng)) _ _ rfl (cvD_frz (rows := ((map3 false).take 2).map eRng) (immR_map eRng_ok _) rfl (by decide) rfl rfl rfl (by simp [map3])) rfl (rdO_imm _ _) ⟨_, (map3 false).take 2, rfl, by omega, by omega, rfl, map3_ok _ 2 (by decide)⟩
    · exact exitM1 hQ (dS (((map3 _).take 3).map eRng)) _ _ rfl (cvD_frz (rows := ((map3 _).take 3).map eRng) (immR_map eRng_ok _) rfl (by decide) rfl rfl rfl (by simp [map3])) rfl (rdO_imm _ _) ⟨_, (map3 _).take 3, rfl, by omega, by omega, rfl, map3_ok _ 3 (by decide)⟩
  · exact exitM1 hQ (dS (((map3 _).take 3).map eRng)) _ _ rfl (cvD_frz (rows := ((map3 _).take 3).map eRng) (immR_map eRng_ok _) rfl (by decide) rfl rfl rfl (by simp [map3])) rfl (rdO_imm _ _) ⟨_, (map3 _).take 3, rfl, by omega, by omega, rfl, map3_ok _ 3 (by decide)⟩
theorem a_spec_l20Map {l : List Int} {p i : Nat}   (hl : CodeOk l) (hp50 : p + 8 < 2 ^ 50) (hi : i < nx) (ho : H i = some (rdO l p)) (h : ∀ (p' : Nat) (m : List Rng), p ≤ p' → p' ≤ p + 8 → (MapOkP m) → K (dS (m.map eRng)) (H.set i (rdO l p')) nx) :
    ACall Tryz.prog n_spec_l20Map [dP 2 i, dI 99999] H nx K :=
  (c_spec_l20Map l p  hl hp50).mut1 i rfl (argL_args ⟨cvD_ptr (by omega) rfl, cvD_im rfl, trivial⟩) hi ho (rdO_imm l p) fun r o' ⟨p', m, h1, h2, h3, h4, h5⟩ => by
    subst h1; subst h4; exact rnD_imm' (A := fun d => K d (H.set i (rdO l p')) nx) rfl (h p' m h2 h3 h5)
end
end Go.Proofs.YtiimjokpcbapeaaGreat
