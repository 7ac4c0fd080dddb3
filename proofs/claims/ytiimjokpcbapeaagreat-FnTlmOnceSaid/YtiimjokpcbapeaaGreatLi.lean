/- The walk of FnTlmOnce. -/
import Derived.Test.YtiimjokpcbapeaaGreatAcLFnTlmOnce
import Derived.Test.YtiimjokpcbapeaaGreatAcLcrOnce
import Derived.Test.YtiimjokpcbapeaaGreatLk
import Derived.Test.YtiimjokpcbapeaaGreatMw
set_option linter.unusedVariables false
set_option linter.unusedSimpArgs false
set_option linter.unusedSectionVars false
namespace Go.Proofs.YtiimjokpcbapeaaGreat
open Go Go.AM
set_option maxRecDepth 100000
set_option maxHeartbeats 8000000
section
variable {H : Heap} {nx : Nat} {K : D → Heap → Nat → Prop}
theorem intsD_eEv {e : Ev} : intsD (eEv e) = some [e.kind, e.who, e.n] := rfl
theorem ev_ints {a b : Ev} : [a.kind, a.who, a.n] = [b.kind, b.who, b.n] ↔ a = b := by
  obtain ⟨a1, a2, a3⟩ := a; obtain ⟨b1, b2, b3⟩ := b
  simp
theorem c_laws_crOnce (l : List Ev) (hl : l.length < 2 ^ 20) (hkind : ∀ k, k < l.length → 1 ≤ (l.getD k default).kind ∧ (l.getD k default).kind ≤ 3) (ho : ∀ k, k < l.length → (∀ j, j < k → ¬ l.getD j default = l.getD k default) ∧ ((l.getD k default).kind = 1 ∨ ∃ j, j < k ∧ l.getD j default = ⟨(l.getD k default).kind - 1, (l.getD k default).who, (l.getD k default).n⟩)) : ACall Tryz.prog n_laws_crOnce [dS (l.map eEv)] .nil 0 fun rr _ _ => rr.plain = true ∧ rr = dB true := by
  refine en_laws_crOnce rfl fun Q hQ => ?_
  unfold ac_laws_crOnce
  repeat' (first | (with_reducible first | (refine hK _ _ _ ?_; clear hK K) | refine Z1 ?_ | refine Z3 fun KB hKB => ?_) | (with_reducible refine Y2 fun K hK => ?_) <;> (simp only [go_sem]) | fail)
  (have hKX := hKB; clear hKB); (refine AWPL.loop (α := {k : Nat // k ≤ l.length ∧ (True)}) (fun u => en [(3, dI u.1), (0, dS (l.map eEv))]) (fun _ => .nil) _ (fun u => l.length - u.1) ⟨0, by omega, (by intros; first | trivial | omega)⟩ (cv_nilT (Nat.le_refl _) (by repeat' (first | (with_reducible first | exact C1 | refine C2 ?_ ?_) | ((with_reducible refine D0 ?_); exact CA rfl) | fail))) ?_); (rintro ⟨k, hk, hinv⟩ KL hKL)
  by_cases hlt : k < l.length
  · obtain ⟨h1, h2⟩ := ho k hlt
    have hk3 := hkind k hlt
    obtain ⟨e, he⟩ : ∃ e, e = l.getD k default := ⟨_, rfl⟩
    rw [← he] at h1 h2 hk3
    repeat' (first | (with_reducible first | (refine hK _ _ _ ?_; clear hK K) | (refine hA ?_; clear hA hB A B) | refine Z1 ?_ | refine Z2 ?_ | refine Z3 fun KB hKB => ?_ | refine Z4 (by omega) ?_) | (with_reducible first | refine Y2 fun K hK => ?_ | refine Y3 fun A B hA hB => ?_) <;> (simp only [go_sem, he.symm]) | refine ⟨by omega, ?_⟩ | fail)
    (have hKY := hKB; clear hKB)
    refine AWPL.loopP 0 (β := Nat × Bool) (fun _ u => en [(6, dI u.1), (5, dB u.2), (4, .one (.c (.iptr (eEv e)))), (3, dI k), (0, dS (l.map eEv))]) (fun _ _ => .nil) (fun u => u.1 ≤ k ∧ (e.kind = 1 → u.2 = true) ∧ (∀ j, j < u.1 → l.getD j default = ⟨e.kind - 1, e.who, e.n⟩ → u.2 = true)) (fun u => k - u.1) (0, decide (e.kind = 1)) (cv_nilT (Nat.le_refl _) (by repeat' (first | (with_reducible first | exact C1 | refine C2 ?_ ?_) | ((with_reducible refine D0 ?_); first | exact CA rfl | exact CI rfl (by simp) rfl rfl rfl) | fail))) ⟨by omega, fun h => by simpa using h, fun j hj => by dsimp only at hj; omega⟩ ?_
    rintro ⟨j, f⟩ ⟨hj, hf1, hf2⟩ KJ hKJ
    dsimp only at hj hf1 hf2
    by_cases hjl : j < k
    · have hne := h1 j hjl
      have hnd : ([(l.getD j default).kind, (l.getD j default).who, (l.getD j default).n] = [e.kind, e.who, e.n]) = False := eq_false fun h => hne (ev_ints.1 h)
      have hbd : ([(l.getD j default).kind, (l.getD j default).who, (l.getD j default).n] = [e.kind - 1, e.who, e.n]) = (l.getD j default = ⟨e.kind - 1, e.who, e.n⟩) := propext (ev_ints (b := ⟨e.kind - 1, e.who, e.n⟩))
      cases f
      · repeat' (first | (with_reducible first | (refine hK _ _ _ ?_; clear hK K) | (refine hA ?_; clear hA hB A B) | (refine hB ?_; clear hA hB A B) | refine Z1 ?_ | refine Z2 ?_ | refine Z3 fun KB hKB => ?_ | refine Z4 (by omega) ?_) | (with_reducible first | refine Y2 fun K hK => ?_ | refine Y3 fun A B hA hB => ?_) <;> (simp only [go_sem, intsD_eEv, hnd, hbd]; try simp (disch := omega) only [Iw]) | ((with_reducible refine Y0 ?_); simp only [AQ.then, AQ.blk]) | refine ⟨by omega, ?_⟩ | (with_reducible refine hKB _ _ _ ?_) | fail)
        exact hKJ _ _ _ (j + 1, decide (l.getD j default = ⟨e.kind - 1, e.who, e.n⟩)) (by omega) (cv_nilT (by omega) (by repeat' (first | (with_reducible first | exact C1 | refine C2 ?_ ?_) | ((with_reducible refine D0 ?_); exact CA rfl) | fail))) ⟨by dsimp only; omega, fun h => absurd (hf1 h) (by decide), fun i hi hl => by
          dsimp only at hi ⊢
          by_cases hij : i < j
          · exact absurd (hf2 i hij hl) (by decide)
          · have : i = j := by omega
            subst this; exact decide_eq_true hl⟩ (by dsimp only; omega)
      · repeat' (first | (with_reducible first | (refine hK _ _ _ ?_; clear hK K) | (refine hA ?_; clear hA hB A B) | (refine hB ?_; clear hA hB A B) | refine Z1 ?_ | refine Z2 ?_ | refine Z3 fun KB hKB => ?_ | refine Z4 (by omega) ?_) | (with_reducible first | refine Y2 fun K hK => ?_ | refine Y3 fun A B hA hB => ?_) <;> (simp only [go_sem, intsD_eEv, hnd, hbd]; try simp (disch := omega) only [Iw]) | ((with_reducible refine Y0 ?_); simp only [AQ.then, AQ.blk]) | refine ⟨by omega, ?_⟩ | (with_reducible refine hKB _ _ _ ?_) | fail)
        exact hKJ _ _ _ (j + 1, true) (by omega) (cv_nilT (by omega) (by repeat' (first | (with_reducible first | exact C1 | refine C2 ?_ ?_) | ((with_reducible refine D0 ?_); exact CA rfl) | fail))) ⟨by dsimp only; omega, fun _ => rfl, fun _ _ _ => rfl⟩ (by dsimp only; omega)
    · have hft : f = true := by
        rcases h2 with h2 | ⟨i, hi, h2⟩
        · exact hf1 h2
        · exact hf2 i (by omega) h2
      subst hft
      repeat' (first | (with_reducible first | (refine hK _ _ _ ?_; clear hK K) | (refine hB ?_; clear hA hB A B) | refine Z1 ?_ | refine Z2 ?_ | refine Z5 (by omega) ?_ | refine hKY _ _ _ ?_) | (with_reducible first | refine Y2 fun K hK => ?_ | refine Y3 fun A B hA hB => ?_) <;> (simp only [go_sem]; try simp (disch := omega) only [Iw]) | ((with_reducible refine Y9 ?_); try simp only [AQ.then, AQ.blk, reduceIte, Nat.reduceEqDiff]) | ((with_reducible refine Y0 ?_); simp only [AQ.then, AQ.blk]) | (with_reducible refine hKB _ _ _ ?_) | fail)
      (refine hKL _ _ _ ⟨k + 1, by omega, trivial⟩ (by omega) (by (try dsimp only); omega) (cv_nilT (Nat.le_refl _) (by repeat' (first | (with_reducible first | exact C1 | refine C2 ?_ ?_) | ((with_reducible refine D0 ?_); exact CA rfl) | fail))))
  · repeat' (first | (with_reducible first | (refine hK _ _ _ ?_; clear hK K) | (refine hB ?_; clear hA hB A B) | refine Z1 ?_ | refine Z5 (by omega) ?_ | refine hKX _ _ _ ?_) | (with_reducible first | refine Y2 fun K hK => ?_ | refine Y3 fun A B hA hB => ?_) <;> (simp only [go_sem]) | ((with_reducible first | refine Y8 ?_ | refine Y9 ?_); try simp only [AQ.then, AQ.blk, reduceIte, Nat.reduceEqDiff]) | fail)
    exact exitP hQ _ rfl rfl rfl
theorem a_laws_crOnce {l : List Ev} (hl : l.length < 2 ^ 20) (hkind : ∀ k, k < l.length → 1 ≤ (l.getD k default).kind ∧ (l.getD k default).kind ≤ 3) (ho : ∀ k, k < l.length → (∀ j, j < k → ¬ l.getD j default = l.getD k default) ∧ ((l.getD k default).kind = 1 ∨ ∃ j, j < k ∧ l.getD j default = ⟨(l.getD k default).kind - 1, (l.getD k default).who, (l.getD k default).n⟩))  (h : K (dB true) H nx) : ACall Tryz.prog n_laws_crOnce [dS (l.map eEv)] H nx K :=
  (c_laws_crOnce l hl hkind ho).pure rfl (lentL_args ⟨cvD_im rfl, trivial⟩) (fun r hr => hr ▸ h)
theorem c_laws_FnTlmOnce (l : List Int) (hby : ∀ x ∈ l, 0 ≤ x ∧ x < 256) : ACall Tryz.prog n_laws_FnTlmOnce [dS (l.map eU8)] .nil 0 fun rr _ _ => rr.plain = true ∧ rr = dB true := by
  refine en_laws_FnTlmOnce rfl fun Q hQ => ?_
  unfold ac_laws_FnTlmOnce
  by_cases hbig : l.length ≤ 1048576
  case neg =>
    repeat' (first | (with_reducible first | (refine hK _ _ _ ?_; clear hK K) | (refine hA ?_; clear hA hB A B) | refine Z1 ?_ | refine Z4 (by omega) ?_) | (with_reducible first | refine Y2 fun K hK => ?_ | refine Y3 fun A B hA hB => ?_) <;> (simp only [go_sem]) | ((with_reducible refine Y8 ?_); try simp only [AQ.then, AQ.blk, reduceIte, Nat.reduceEqDiff]) | fail)
    exact exitP hQ (dB true) rfl rfl rfl
  have hl : CodeOk l := ⟨by omega, hby⟩
  generalize hs0 : st0 = s0
  have htn : ∀ {H : Heap} {nx : Nat} {K : D → Heap → Nat → Prop}, K (dA (eSt s0)) H nx → ACall Tryz.prog n_impl_TlmNew [] H nx K := fun h => by subst hs0; exact a_impl_TlmNew h
  have htr : ∀ {H : Heap} {nx : Nat} {K : D → Heap → Nat → Prop} {c : Cfg} {es : List Ev}, BusOkP c → CfgFit c → es.length ≤ 200 → Plays c st0 es → K (.tup [.agg (eSt (runM c st0 es)), .c (cI es.length)]) H nx → ACall Tryz.prog n_impl_TlmRun [dA (eCfg c), dA (eSt s0), dS (es.map eEv)] H nx K := fun h1 h2 h3 h4 h5 => by subst hs0; exact a_impl_TlmRun0 h1 h2 h3 h4 h5
  have hon : ∀ {H : Heap} {nx : Nat} {K : D → Heap → Nat → Prop} {c : Cfg} {es : List Ev}, BusOkP c → es.length ≤ 200 → Plays c st0 es → K (dB true) H nx → ACall Tryz.prog n_laws_crOnce [dS (es.map eEv)] H nx K := fun {H nx K c es} hb hl hp h => by
    have hat : ∀ {x : Ev} {k : Nat}, k ≤ es.length → (x ∈ es.take k ↔ ∃ j, j < k ∧ es.getD j default = x) := fun {x k} hk => by
      rw [List.mem_iff_getElem]
      constructor
      · rintro ⟨j, hj, h⟩
        rw [List.length_take] at hj
        exact ⟨j, by omega, by rw [← h]; simp [List.getD, show j < es.length by omega]⟩
      · rintro ⟨j, hj, h⟩
        exact ⟨j, by rw [List.length_take]; omega, by rw [← h]; simp [List.getD, show j < es.length by omega]⟩
    refine a_laws_crOnce (by omega) (fun k hk => plays_kind hp hk) (fun k hk => ?_) h
    obtain ⟨h1, h2⟩ := once_plays hb hp hk
    rw [hat (by omega)] at h1
    rw [hat (by omega)] at h2
    exact ⟨fun j hj he => h1 ⟨j, hj, he⟩, h2⟩
  repeat' (first | (with_reducible first | (refine hK _ _ _ ?_; clear hK K) | (refine hB ?_; clear hA hB A B) | refine Z1 ?_ | refine Z2 ?_ | refine Z5 (by omega) ?_) | (first | (with_reducible first | refine Y2 fun K hK => ?_ | refine Y3 fun A B hA hB => ?_) | (refine a_spec_DrawTlmPlay hl (fun c es hb hf hp hlen => ?_)) | (refine htn ?_) | (refine htr (by assumption) (by assumption) (by omega) (by assumption) ?_) | (refine hon (by assumption) (by omega) (by assumption) ?_) | (with_reducible refine a_laws_crOk ?_)) <;> (simp only [go_sem]) | ((with_reducible refine Y8 ?_); try simp only [AQ.then, AQ.blk, reduceIte, Nat.reduceEqDiff]) | fail)
  all_goals exact exitP hQ (dB true) rfl rfl rfl
end
end Go.Proofs.YtiimjokpcbapeaaGreat
