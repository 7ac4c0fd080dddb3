/- The walk of FnTlmOrder. -/
import Derived.Test.YtiimjokpcbapeaaGreatAcLFnTlmOrder
import Derived.Test.YtiimjokpcbapeaaGreatAcLcrOrder
import Derived.Test.YtiimjokpcbapeaaGreatLk
import Derived.Test.YtiimjokpcbapeaaGreatMw
set_option linter.unusedVariables false
set_option linter.unusedSimpArgs false
set_option linter.unusedSectionVars false
namespace Go.Proofs.YtiimjokpcbapeaaGreat
open Go Go.AM
set_option maxRecDepth 100000
set_option maxHeartbeats 8000000
section
variable {H : Heap} {nx : Nat} {K : D → Heap → Nat → Prop}
theorem c_laws_crOrder (c : Cfg) (l : List Job) (hp : c.progs.length = 3) (hc : CfgFit c) (hl : l.length < 2 ^ 20) (hj : ∀ j ∈ l, asksP c j.who j.n) (ho : l.Pairwise fun a b => a.who = b.who → (reqAt c a.who a.n).id = (reqAt c b.who b.n).id → a.n < b.n) : ACall Tryz.prog n_laws_crOrder [dA (eCfg c), dS (l.map eJob)] .nil 0 fun rr _ _ => rr.plain = true ∧ rr = dB true := by
  refine en_laws_crOrder rfl fun Q hQ => ?_
  unfold ac_laws_crOrder
  repeat' (first | (with_reducible first | (refine hK _ _ _ ?_; clear hK K) | refine Z1 ?_ | refine Z3 fun KB hKB => ?_) | (with_reducible refine Y2 fun K hK => ?_) <;> (simp only [go_sem]) | fail)
  (have hKX := hKB; clear hKB); (refine AWPL.loop (α := {k : Nat // k ≤ l.length ∧ (True)}) (fun u => en [(5, dI u.1), (2, .one (.c (.iptr (eCfg c)))), (1, dS (l.map eJob))]) (fun _ => .nil) _ (fun u => l.length - u.1) ⟨0, by omega, (by intros; first | trivial | omega)⟩ (cv_nilT (Nat.le_refl _) (by repeat' (first | (with_reducible first | exact C1 | refine C2 ?_ ?_) | ((with_reducible refine D0 ?_); first | exact CA rfl | exact CI rfl (by simp) rfl rfl rfl) | fail))) ?_); (rintro ⟨k, hk, hinv⟩ KL hKL)
  by_cases hlt : k < l.length
  · repeat' (first | (with_reducible first | (refine hK _ _ _ ?_; clear hK K) | (refine hA ?_; clear hA hB A B) | refine Z1 ?_ | refine Z2 ?_ | refine Z3 fun KB hKB => ?_ | refine Z4 (by omega) ?_) | (with_reducible first | refine Y2 fun K hK => ?_ | refine Y3 fun A B hA hB => ?_) <;> (simp only [go_sem]) | fail)
    (have hKY := hKB; clear hKB); (refine AWPL.loop (α := {j : Nat // j ≤ k ∧ (True)}) (fun u => en [(6, dI u.1), (5, dI k), (2, .one (.c (.iptr (eCfg c)))), (1, dS (l.map eJob))]) (fun _ => .nil) _ (fun u => k - u.1) ⟨0, by omega, (by intros; first | trivial | omega)⟩ (cv_nilT (Nat.le_refl _) (by repeat' (first | (with_reducible first | exact C1 | refine C2 ?_ ?_) | ((with_reducible refine D0 ?_); exact CA rfl) | fail))) ?_); (rintro ⟨j, hkj, hinvj⟩ KLj hKLj)
    by_cases hlj : j < k
    · have h1 := hj _ (getD_mem (l := l) (k := j) (by omega))
      have h2 := hj _ (getD_mem (l := l) (k := k) (by omega))
      have h3 := List.pairwise_iff_getElem.1 ho j k (by omega) (by omega) hlj
      have g1 : l[j] = l.getD j default := by simp [List.getD, show j < l.length by omega]
      have g2 : l[k] = l.getD k default := by simp [List.getD, hlt]
      rw [g1, g2] at h3
      obtain ⟨a1, a2, a3⟩ := h1
      obtain ⟨b1, b2, b3⟩ := h2
      have hb1 := hc.at (l.getD j default).who.toNat
      have hb2 := hc.at (l.getD k default).who.toNat
      repeat' (first | (with_reducible first | (refine hK _ _ _ ?_; clear hK K) | (refine hA ?_; clear hA hB A B) | (refine hB ?_; clear hA hB A B) | refine Z1 ?_ | refine Z2 ?_ | refine Z3 fun KB hKB => ?_ | refine Z4 (by omega) ?_ | refine Z6 (fun h => ?_) fun h => ?_) | (with_reducible first | refine Y2 fun K hK => ?_ | refine Y3 fun A B hA hB => ?_ | refine Y6 (fun h => ?_) fun h => ?_) <;> (simp only [go_sem]; try simp (disch := omega) only [Iw]) | ((with_reducible refine Y8 ?_); try simp only [AQ.then, AQ.blk, reduceIte, Nat.reduceEqDiff]) | ((with_reducible refine Y0 ?_); simp only [AQ.then, AQ.blk]) | refine ⟨by omega, ?_⟩ | (with_reducible refine hKB _ _ _ ?_) | fail)
      · exfalso; unfold reqAt at h3; grind
      all_goals (refine hKLj _ _ _ ⟨j + 1, by omega, trivial⟩ (by omega) (by (try dsimp only); omega) (cv_nilT (Nat.le_refl _) (by repeat' (first | (with_reducible first | exact C1 | refine C2 ?_ ?_) | ((with_reducible refine D0 ?_); exact CA rfl) | fail))))
    · have hj2 : j = k := by omega
      subst hj2
      repeat' (first | (with_reducible first | (refine hK _ _ _ ?_; clear hK K) | (refine hB ?_; clear hA hB A B) | refine Z1 ?_ | refine Z5 (by omega) ?_ | refine hKY _ _ _ ?_) | (with_reducible first | refine Y2 fun K hK => ?_ | refine Y3 fun A B hA hB => ?_) <;> (simp only [go_sem]; try simp (disch := omega) only [Iw]) | ((with_reducible refine Y9 ?_); try simp only [AQ.then, AQ.blk, reduceIte, Nat.reduceEqDiff]) | ((with_reducible refine Y0 ?_); simp only [AQ.then, AQ.blk]) | (with_reducible refine hKB _ _ _ ?_) | fail)
      (refine hKL _ _ _ ⟨j + 1, by omega, trivial⟩ (by omega) (by (try dsimp only); omega) (cv_nilT (Nat.le_refl _) (by repeat' (first | (with_reducible first | exact C1 | refine C2 ?_ ?_) | ((with_reducible refine D0 ?_); exact CA rfl) | fail))))
  · repeat' (first | (with_reducible first | (refine hK _ _ _ ?_; clear hK K) | (refine hB ?_; clear hA hB A B) | refine Z1 ?_ | refine Z5 (by omega) ?_ | refine hKX _ _ _ ?_) | (with_reducible first | refine Y2 fun K hK => ?_ | refine Y3 fun A B hA hB => ?_) <;> (simp only [go_sem]) | ((with_reducible first | refine Y8 ?_ | refine Y9 ?_); try simp only [AQ.then, AQ.blk, reduceIte, Nat.reduceEqDiff]) | fail)
    exact exitP hQ _ rfl rfl rfl
theorem a_laws_crOrder {c : Cfg} {l : List Job} (hp : c.progs.length = 3) (hc : CfgFit c) (hl : l.length < 2 ^ 20) (hj : ∀ j ∈ l, asksP c j.who j.n) (ho : l.Pairwise fun a b => a.who = b.who → (reqAt c a.who a.n).id = (reqAt c b.who b.n).id → a.n < b.n)  (h : K (dB true) H nx) : ACall Tryz.prog n_laws_crOrder [dA (eCfg c), dS (l.map eJob)] H nx K :=
  (c_laws_crOrder c l hp hc hl hj ho).pure rfl (lentL_args ⟨cvD_im rfl, cvD_im rfl, trivial⟩) (fun r hr => hr ▸ h)
theorem c_laws_FnTlmOrder (l : List Int) (hby : ∀ x ∈ l, 0 ≤ x ∧ x < 256) : ACall Tryz.prog n_laws_FnTlmOrder [dS (l.map eU8)] .nil 0 fun rr _ _ => rr.plain = true ∧ rr = dB true := by
  refine en_laws_FnTlmOrder rfl fun Q hQ => ?_
  unfold ac_laws_FnTlmOrder
  by_cases hbig : l.length ≤ 1048576
  case neg =>
    repeat' (first | (with_reducible first | (refine hK _ _ _ ?_; clear hK K) | (refine hA ?_; clear hA hB A B) | refine Z1 ?_ | refine Z4 (by omega) ?_) | (with_reducible first | refine Y2 fun K hK => ?_ | refine Y3 fun A B hA hB => ?_) <;> (simp only [go_sem]) | ((with_reducible refine Y8 ?_); try simp only [AQ.then, AQ.blk, reduceIte, Nat.reduceEqDiff]) | fail)
    exact exitP hQ (dB true) rfl rfl rfl
  have hl : CodeOk l := ⟨by omega, hby⟩
  generalize hs0 : st0 = s0
  have htn : ∀ {H : Heap} {nx : Nat} {K : D → Heap → Nat → Prop}, K (dA (eSt s0)) H nx → ACall Tryz.prog n_impl_TlmNew [] H nx K := fun h => by subst hs0; exact a_impl_TlmNew h
  have htr : ∀ {H : Heap} {nx : Nat} {K : D → Heap → Nat → Prop} {c : Cfg} {es : List Ev}, BusOkP c → CfgFit c → es.length ≤ 200 → Plays c st0 es → K (.tup [.agg (eSt (runM c st0 es)), .c (cI es.length)]) H nx → ACall Tryz.prog n_impl_TlmRun [dA (eCfg c), dA (eSt s0), dS (es.map eEv)] H nx K := fun h1 h2 h3 h4 h5 => by subst hs0; exact a_impl_TlmRun0 h1 h2 h3 h4 h5
  have hord : ∀ {H : Heap} {nx : Nat} {K : D → Heap → Nat → Prop} {c : Cfg} {es : List Ev}, BusOkP c → CfgFit c → Plays c st0 es → K (dB true) H nx → ACall Tryz.prog n_laws_crOrder [dA (eCfg c), dS ((runM c st0 es).told.map eJob)] H nx K := fun hb hf hp h => by
    have hs := plays_end hb (st0_ok _) hp
    have hls := hs.lens hb
    have ho := ord_plays hb hp _ (Nat.le_refl _)
    rw [List.take_length] at ho
    exact a_laws_crOrder (busOk_prog hb).1 hf (by omega) (fun j hj => hs.mem (List.mem_append_right _ hj)) ho.told h
  repeat' (first | (with_reducible first | (refine hK _ _ _ ?_; clear hK K) | (refine hB ?_; clear hA hB A B) | refine Z1 ?_ | refine Z2 ?_ | refine Z5 (by omega) ?_) | (first | (with_reducible first | refine Y2 fun K hK => ?_ | refine Y3 fun A B hA hB => ?_) | (refine a_spec_DrawTlmPlay hl (fun c es hb hf hp hlen => ?_)) | (refine htn ?_) | (refine htr (by assumption) (by assumption) (by omega) (by assumption) ?_) | (refine hord (by assumption) (by assumption) (by assumption) ?_) | (with_reducible refine a_laws_crOk ?_)) <;> (simp only [go_sem]) | ((with_reducible refine Y8 ?_); try simp only [AQ.then, AQ.blk, reduceIte, Nat.reduceEqDiff]) | fail)
  all_goals exact exitP hQ (dB true) rfl rfl rfl
end
end Go.Proofs.YtiimjokpcbapeaaGreat
