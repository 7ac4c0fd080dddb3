/- The walk of FnTrcSwap. -/
import Derived.Test.YtiimjokpcbapeaaGreatAcLFnTrcSwap
import Derived.Test.YtiimjokpcbapeaaGreatLk
import Derived.Test.YtiimjokpcbapeaaGreatTy
import Derived.Test.YtiimjokpcbapeaaGreatUg
set_option linter.unusedVariables false
set_option linter.unusedSimpArgs false
set_option linter.unusedSectionVars false
namespace Go.Proofs.YtiimjokpcbapeaaGreat
open Go Go.AM
set_option maxRecDepth 100000
set_option maxHeartbeats 8000000
section
variable {H : Heap} {nx : Nat} {K : D → Heap → Nat → Prop}
theorem c_laws_FnTrcSwap (l : List Int) (hby : ∀ x ∈ l, 0 ≤ x ∧ x < 256) : ACall Tryz.prog n_laws_FnTrcSwap [dS (l.map eU8)] .nil 0 fun rr _ _ => rr.plain = true ∧ rr = dB true := by
  refine en_laws_FnTrcSwap rfl fun Q hQ => ?_
  unfold ac_laws_FnTrcSwap
  by_cases hbig : l.length ≤ 1048576
  case neg =>
    repeat' (first | (with_reducible first | (refine hK _ _ _ ?_; clear hK K) | (refine hA ?_; clear hA hB A B) | refine Z1 ?_ | refine Z4 (by omega) ?_) | (with_reducible first | refine Y2 fun K hK => ?_ | refine Y3 fun A B hA hB => ?_) <;> (simp only [go_sem]) | ((with_reducible refine Y8 ?_); try simp only [AQ.then, AQ.blk, reduceIte, Nat.reduceEqDiff]) | fail)
    exact exitP hQ (dB true) rfl rfl rfl
  have hl : CodeOk l := ⟨by omega, hby⟩
  generalize hs0 : st0 = s0
  have htn : ∀ {H : Heap} {nx : Nat} {K : D → Heap → Nat → Prop}, K (dA (eSt s0)) H nx → ACall Tryz.prog n_impl_TlmNew [] H nx K := fun h => by subst hs0; exact a_impl_TlmNew h
  have hz : ∀ c es, runM c st0 (List.take 0 es) = s0 := fun c es => by rw [hs0]; rfl
  repeat' (first | (with_reducible first | (refine hK _ _ _ ?_; clear hK K) | (refine hB ?_; clear hA hB A B) | refine Z1 ?_ | refine Z2 ?_ | refine Z3 fun KB hKB => ?_ | refine Z5 (by omega) ?_) | (first | (with_reducible first | refine Y2 fun K hK => ?_ | refine Y3 fun A B hA hB => ?_) | (refine a_spec_DrawTlmPlay hl (fun c es hb hf hp hlen => ?_)) | (refine htn ?_)) <;> (simp only [go_sem]) | fail)
  (have hKX := hKB; clear hKB)
  have hSok := plays_ok hb (st0_ok c) hp
  have hSw := fun k (hk : k < es.length) => hp k hk
  have hSt := fun k (hk : k < es.length) => runM_take (c := c) (s := st0) hk
  have hz := hz c es
  obtain ⟨S, hS⟩ : ∃ S : Nat → TSt, S = fun k => runM c st0 (es.take k) := ⟨_, rfl⟩
  have hSe : ∀ k, runM c st0 (es.take k) = S k := fun k => by rw [hS]
  simp only [hSe] at *
  clear hS hSe
  refine AWPL.loopP 1 (β := Nat) (fun b k => en [(6, dI k), (5, dP 6 b), (4, dS (es.map eEv)), (3, .one (.c (.iptr (eCfg c))))]) (fun b k => Go.AM.hp [(b, ⟨6, 1, [eSt (S k)]⟩)]) (fun k => k ≤ es.length) (fun k => es.length - k) 0
    (by rw [hz]; (refine cv_hp [13] (by omega) (by repeat' (first | (with_reducible first | exact C1 | refine C2 ?_ ?_) | ((with_reducible refine C0 ?_); exact CE (by omega) rfl) | ((with_reducible refine D0 ?_); first | exact CA rfl | exact CI rfl (by simp) rfl rfl rfl | refine CJ ?_) | fail)) ⟨⟨by simp, by simp [sgL], _, rfl, cvO_one (cvL_imm fun x hx => List.all_eq_true.1 (eSt_ok _).2 x hx)⟩, trivial⟩ (by simp [sgL]))) (by omega) ?_
  intro k hk KL hKL
  by_cases hlt : k + 1 < es.length
  · have hs := hSok k hk
    have hw1 := hSw k (by omega)
    have hw2 := hSw (k + 1) hlt
    have ht1 := hSt k (by omega)
    have hsx := hSok (k + 1) (by omega)
    have hsy := step_ok hb hsx hw2
    have hsw := fun h => swap_step (a := es.getD k default) (b := es.getD (k + 1) default) hb hs hw1 (by rw [← ht1]; exact hw2) h
    rw [← ht1] at hsw
    obtain ⟨hask1, hc1⟩ := whyM_zero hw1
    obtain ⟨hask2, hc2⟩ := whyM_zero hw2
    have hk1 : 1 ≤ (es.getD k default).kind ∧ (es.getD k default).kind ≤ 3 := by omega
    have hk2 : 1 ≤ (es.getD (k + 1) default).kind ∧ (es.getD (k + 1) default).kind ≤ 3 := by omega
    have hla := hsy.lens hb
    have hwl := hsy.atm.wl
    have hhl := hsy.atm.hl
    have hal := hsy.askedL
    have e1 : ((k : Int) + 1).toNat = k + 1 := by omega
    have hdy : ∀ j ∈ (stepM c (S (k + 1)) (es.getD (k + 1) default)).wait ++ (stepM c (S (k + 1)) (es.getD (k + 1) default)).done ++ (stepM c (S (k + 1)) (es.getD (k + 1) default)).told, j.rsp.data.length < 2 ^ 40 := fun j hj => by
      simp only [List.mem_append] at hj
      rcases hj with (hj | hj) | hj
      · rw [hsy.waitR j hj]; decide
      · have := (hsy.rspR j (List.mem_append_left _ hj)).1.2.2.1; omega
      · have := (hsy.rspR j (List.mem_append_right _ hj)).1.2.2.1; omega
    generalize hae : es.getD k default = a at *
    generalize hbe : es.getD (k + 1) default = b at *
    generalize S k = s at *
    generalize hx : S (k + 1) = x at *
    generalize hy : stepM c x b = y at *
    by_cases hap : apartE c a b
    · obtain ⟨hb1, ha1, hcom⟩ := hsw hap
      have hsu := step_ok hb hs hb1
      generalize hu : stepM c s b = u at *
      repeat' (first | (with_reducible first | (refine hK _ _ _ ?_; clear hK K) | (refine hA ?_; clear hA hB A B) | (refine hB ?_; clear hA hB A B) | refine Z1 ?_ | refine Z2 ?_ | refine Z3 fun KB hKB => ?_ | refine Z4 (by omega) ?_) | (first | (with_reducible first | refine Y2 fun K hK => ?_ | refine Y3 fun A B hA hB => ?_) | (refine a_impl_TlmStep (s := s) (e := a) hb hf hs ?_) | (refine a_impl_TlmStep (s := x) (e := es.getD ((k : Int) + 1).toNat default) hb hf hsx ?_) | (refine a_impl_TlmStep (s := s) (e := es.getD ((k : Int) + 1).toNat default) hb hf hs ?_) | (refine a_impl_TlmStep (s := u) (e := a) hb hf hsu ?_) | (refine a_impl_TrcApart (a := a) (b := es.getD ((k : Int) + 1).toNat default) hb hf hask1 (by rw [e1, hbe]; exact hask2) hk1 (by rw [e1, hbe]; exact hk2) ?_) | (refine a_laws_crTlm (s := y) (by omega) (by omega) (by omega) (by omega) (by omega) (by omega) hdy ?_)) <;> (simp only [go_sem, e1, hae, hbe, eq_true hw1, eq_true hw2, eq_true hb1, eq_true ha1, ht1.symm, hy, hu, hcom, eq_true hap]; try simp (disch := omega) only [Iw]) | ((with_reducible refine Y0 ?_); simp only [AQ.then, AQ.blk]) | refine ⟨by omega, ?_⟩ | (with_reducible refine hKB _ _ _ ?_) | fail)
      exact hKL _ _ _ (k + 1) (by omega) (by rw [hx]; (refine cv_hp [16] (by omega) (by repeat' (first | (with_reducible first | exact C1 | refine C2 ?_ ?_) | ((with_reducible refine C0 ?_); exact CE (by omega) rfl) | ((with_reducible refine D0 ?_); first | exact CA rfl | refine CJ ?_) | fail)) ⟨⟨by simp, by simp [sgL], _, rfl, cvO_one (cvL_imm fun x hx => List.all_eq_true.1 (eSt_ok _).2 x hx)⟩, trivial⟩ (by simp [sgL]))) (by omega) (by omega)
    · repeat' (first | (with_reducible first | (refine hK _ _ _ ?_; clear hK K) | (refine hA ?_; clear hA hB A B) | (refine hB ?_; clear hA hB A B) | refine Z1 ?_ | refine Z2 ?_ | refine Z3 fun KB hKB => ?_ | refine Z4 (by omega) ?_) | (first | (with_reducible first | refine Y2 fun K hK => ?_ | refine Y3 fun A B hA hB => ?_) | (refine a_impl_TlmStep (s := s) (e := a) hb hf hs ?_) | (refine a_impl_TlmStep (s := x) (e := es.getD ((k : Int) + 1).toNat default) hb hf hsx ?_) | (refine a_impl_TrcApart (a := a) (b := es.getD ((k : Int) + 1).toNat default) hb hf hask1 (by rw [e1, hbe]; exact hask2) hk1 (by rw [e1, hbe]; exact hk2) ?_)) <;> (simp only [go_sem, e1, hae, hbe, eq_true hw1, eq_true hw2, ht1.symm, hy, eq_false hap]; try simp (disch := omega) only [Iw]) | ((with_reducible refine Y0 ?_); simp only [AQ.then, AQ.blk]) | refine ⟨by omega, ?_⟩ | (with_reducible refine hKB _ _ _ ?_) | fail)
      exact hKL _ _ _ (k + 1) (by omega) (by rw [hx]; (refine cv_hp [16] (by omega) (by repeat' (first | (with_reducible first | exact C1 | refine C2 ?_ ?_) | ((with_reducible refine C0 ?_); exact CE (by omega) rfl) | ((with_reducible refine D0 ?_); first | exact CA rfl | refine CJ ?_) | fail)) ⟨⟨by simp, by simp [sgL], _, rfl, cvO_one (cvL_imm fun x hx => List.all_eq_true.1 (eSt_ok _).2 x hx)⟩, trivial⟩ (by simp [sgL]))) (by omega) (by omega)
  · repeat' (first | (with_reducible first | (refine hK _ _ _ ?_; clear hK K) | (refine hB ?_; clear hA hB A B) | refine Z1 ?_ | refine Z5 (by omega) ?_ | refine hKX _ _ _ ?_) | (first | (with_reducible first | refine Y2 fun K hK => ?_ | refine Y3 fun A B hA hB => ?_) | (with_reducible refine a_laws_crOk ?_)) <;> (simp only [go_sem]; try simp (disch := omega) only [Iw]) | ((with_reducible first | refine Y8 ?_ | refine Y9 ?_); try simp only [AQ.then, AQ.blk, reduceIte, Nat.reduceEqDiff]) | fail)
    exact exitP hQ (dB true) rfl rfl rfl
end
end Go.Proofs.YtiimjokpcbapeaaGreat
