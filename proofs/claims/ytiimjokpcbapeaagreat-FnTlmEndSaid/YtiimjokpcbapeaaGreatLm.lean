/- The walk of FnTlmEnd. -/
import Derived.Test.YtiimjokpcbapeaaGreatAcLFnTlmEnd
import Derived.Test.YtiimjokpcbapeaaGreatLk
import Derived.Test.YtiimjokpcbapeaaGreatTy
import Derived.Test.YtiimjokpcbapeaaGreatMzb
set_option linter.unusedVariables false
set_option linter.unusedSimpArgs false
set_option linter.unusedSectionVars false
namespace Go.Proofs.YtiimjokpcbapeaaGreat
open Go Go.AM
set_option maxRecDepth 100000
set_option maxHeartbeats 8000000
section
variable {H : Heap} {nx : Nat} {K : D → Heap → Nat → Prop}
theorem a_impl_TlmStepE {c : Cfg} {s : TSt} {kd w n : Int} (hb : BusOkP c) (hcf : CfgFit c) (hs : StOk c s) (h : K (.tup [.agg (eSt (if whyM c s ⟨kd, w, n⟩ = 0 then stepM c s ⟨kd, w, n⟩ else s)), .c (cB (decide (whyM c s ⟨kd, w, n⟩ = 0)))]) H nx) : ACall Tryz.prog n_impl_TlmStep [.one (.agg (eCfg c)), .one (.agg (eSt s)), .one (.agg [cI kd, cI w, cI n])] H nx K :=
  a_impl_TlmStep (e := ⟨kd, w, n⟩) hb hcf hs h
theorem c_laws_FnTlmEnd (l : List Int) (hby : ∀ x ∈ l, 0 ≤ x ∧ x < 256) : ACall Tryz.prog n_laws_FnTlmEnd [dS (l.map eU8)] .nil 0 fun rr _ _ => rr.plain = true ∧ rr = dB true := by
  refine en_laws_FnTlmEnd rfl fun Q hQ => ?_
  unfold ac_laws_FnTlmEnd
  by_cases hbig : l.length ≤ 1048576
  case neg =>
    repeat' (first | (with_reducible first | (refine hK _ _ _ ?_; clear hK K) | (refine hA ?_; clear hA hB A B) | refine Z1 ?_ | refine Z4 (by omega) ?_) | (with_reducible first | refine Y2 fun K hK => ?_ | refine Y3 fun A B hA hB => ?_) <;> (simp only [go_sem]) | ((with_reducible refine Y8 ?_); try simp only [AQ.then, AQ.blk, reduceIte, Nat.reduceEqDiff]) | fail)
    exact exitP hQ (dB true) rfl rfl rfl
  have hl : CodeOk l := ⟨by omega, hby⟩
  generalize hs0 : st0 = s0
  have htn : ∀ {H : Heap} {nx : Nat} {K : D → Heap → Nat → Prop}, K (dA (eSt s0)) H nx → ACall Tryz.prog n_impl_TlmNew [] H nx K := fun h => by subst hs0; exact a_impl_TlmNew h
  have htr : ∀ {H : Heap} {nx : Nat} {K : D → Heap → Nat → Prop} {c : Cfg} {es : List Ev}, BusOkP c → CfgFit c → es.length ≤ 200 → Plays c st0 es → K (.tup [.agg (eSt (runM c st0 es)), .c (cI es.length)]) H nx → ACall Tryz.prog n_impl_TlmRun [dA (eCfg c), dA (eSt s0), dS (es.map eEv)] H nx K := fun h1 h2 h3 h4 h5 => by subst hs0; exact a_impl_TlmRun0 h1 h2 h3 h4 h5
  repeat' (first | (with_reducible first | (refine hK _ _ _ ?_; clear hK K) | (refine hB ?_; clear hA hB A B) | refine Z1 ?_ | refine Z2 ?_ | refine Z3 fun KB hKB => ?_ | refine Z5 (by omega) ?_) | (first | (with_reducible first | refine Y2 fun K hK => ?_ | refine Y3 fun A B hA hB => ?_) | (refine a_spec_DrawTlmPlay hl (fun c es hb hf hp hlen => ?_)) | (refine htn ?_) | (refine htr (by assumption) (by assumption) (by omega) (by assumption) ?_)) <;> (simp only [go_sem]) | fail)
  (have hKX := hKB; clear hKB)
  have hz0 := plays_end hb (st0_ok c) hp
  have hl0 := hz0.lens hb
  generalize runM c st0 es = z0 at *
  refine AWPL.loopP 1 (β := Nat × TSt) (fun b u => en [(7, dI u.1), (5, dP 6 b), (3, .one (.c (.iptr (eCfg c))))]) (fun b u => Go.AM.hp [(b, ⟨6, 1, [eSt u.2]⟩)]) (fun u => StOk c u.2 ∧ u.1 + 2 * u.2.wait.length + u.2.done.length ≤ 72) (fun u => 72 - u.1) (0, z0)
    (by (refine cv_hp [19] (by omega) (by repeat' (first | (with_reducible first | exact C1 | refine C2 ?_ ?_) | ((with_reducible refine C0 ?_); exact CE (by omega) rfl) | ((with_reducible refine D0 ?_); first | exact CA rfl | exact CI rfl (by simp) rfl rfl rfl | refine CJ ?_) | fail)) ⟨⟨by simp, by simp [sgL], _, rfl, cvO_one (cvL_imm fun x hx => List.all_eq_true.1 (eSt_ok _).2 x hx)⟩, trivial⟩ (by simp [sgL]))) ⟨hz0, by dsimp only; omega⟩ ?_
  rintro ⟨k, s⟩ ⟨hs, hk⟩ KL hKL
  dsimp only at hs hk
  have hls := hs.lens hb
  by_cases hlt : 0 < s.wait.length + s.done.length
  · obtain ⟨i0, hi0, kd0, hkd0, hwhy0⟩ := end_some hs hlt
    have hal : (s.wait ++ s.done).length = s.wait.length + s.done.length := List.length_append
    repeat' (first | (with_reducible first | (refine hK _ _ _ ?_; clear hK K) | (refine hA ?_; clear hA hB A B) | refine Z1 ?_ | refine Z2 ?_ | refine Z3 fun KB hKB => ?_ | refine Z4 (by omega) ?_ | refine fun (cap : Nat) (hcap : _ ≤ cap) => ?_ | refine fun (hcp : _ ≤ cap) => ?_) | (with_reducible first | refine Y2 fun K hK => ?_ | refine Y3 fun A B hA hB => ?_ | refine Y4 (by omega) ?_) <;> (simp only [go_sem]; try simp (disch := omega) only [Iw]) | refine ⟨by omega, ?_⟩ | fail)
    (have hKY := hKB; clear hKB)
    rw [← List.map_append, ← hal]
    generalize hall : s.wait ++ s.done = all at *
    refine AWPL.loopP 1 (β := Nat × Bool × TSt) (fun b u => en [(10, dI u.1), (9, dS (all.map eJob)), (8, dB u.2.1), (7, dI k), (5, dP 6 b), (3, .one (.c (.iptr (eCfg c))))]) (fun b u => Go.AM.hp [(b, ⟨6, 1, [eSt u.2.2]⟩)])
      (fun u => u.1 ≤ all.length ∧ (u.2.1 = false → u.2.2 = s ∧ ∀ i, i < u.1 → ∀ kd : Int, (kd = 2 ∨ kd = 3) → ¬ whyM c s ⟨kd, (all.getD i default).who, (all.getD i default).n⟩ = 0) ∧ (u.2.1 = true → ∃ e : Ev, (e.kind = 2 ∨ e.kind = 3) ∧ whyM c s e = 0 ∧ u.2.2 = stepM c s e)) (fun u => all.length - u.1) (0, false, s)
      ?_ ⟨by omega, fun _ => ⟨rfl, fun i hi => by dsimp only at hi; omega⟩, fun h => by cases h⟩ ?_
    · refine cv_hp [27] (by omega) ?_ ⟨⟨by simp, by simp [sgL], _, rfl, cvO_one (cvL_imm fun x hx => List.all_eq_true.1 (eSt_ok _).2 x hx)⟩, trivial⟩ (by simp [sgL])
      refine cvE_cons (cvE_cons (cvE_cons (cvE_cons (cvE_cons (cvE_cons cvE_enil ?_) ?_) ?_) ?_) ?_) ?_
      all_goals first
        | exact cvD_frzM (l := all) eJob_ok rfl rfl (by omega) (by simp)
        | exact cvD_ptr (by omega) rfl
        | (repeat' ((with_reducible refine D0 ?_); exact CA rfl); done)
    rintro ⟨j, mv, x⟩ ⟨hj, hm1, hm2⟩ KM hKM
    dsimp only at hj hm1 hm2
    by_cases hjl : j < all.length ∧ mv = false
    · obtain ⟨hjl, rfl⟩ := hjl
      obtain ⟨rfl, hno⟩ := hm1 rfl
      repeat' (first | (with_reducible first | (refine hK _ _ _ ?_; clear hK K) | (refine hA ?_; clear hA hB A B) | refine Z1 ?_ | refine Z2 ?_ | refine Z3 fun KB hKB => ?_) | (with_reducible first | refine Y2 fun K hK => ?_ | refine Y3 fun A B hA hB => ?_ | refine Y4 (by omega) ?_) <;> (simp only [go_sem]) | fail)
      (have hKZ := hKB; clear hKB)
      refine AWPL.loopP 1 (β := Nat × Bool × TSt) (fun b u => en [(11, dI u.1), (10, dI j), (9, dS (all.map eJob)), (8, dB u.2.1), (7, dI k), (5, dP 6 b), (3, .one (.c (.iptr (eCfg c))))]) (fun b u => Go.AM.hp [(b, ⟨6, 1, [eSt u.2.2]⟩)])
        (fun u => (2 ≤ u.1 ∧ u.1 ≤ 4) ∧ (u.2.1 = false → u.2.2 = x ∧ ∀ kd : Nat, 2 ≤ kd → kd < u.1 → ¬ whyM c x ⟨kd, (all.getD j default).who, (all.getD j default).n⟩ = 0) ∧ (u.2.1 = true → ∃ e : Ev, (e.kind = 2 ∨ e.kind = 3) ∧ whyM c x e = 0 ∧ u.2.2 = stepM c x e)) (fun u => 4 - u.1) (2, false, x)
        (by (refine cv_hp [50] (by omega) (by repeat' (first | (with_reducible first | exact C1 | refine C2 ?_ ?_) | ((with_reducible refine C0 ?_); exact CE (by omega) rfl) | ((with_reducible refine D0 ?_); first | exact CA rfl | refine CJ ?_) | fail)) ⟨⟨by simp, by simp [sgL], _, rfl, cvO_one (cvL_imm fun x hx => List.all_eq_true.1 (eSt_ok _).2 x hx)⟩, trivial⟩ (by simp [sgL]))) ⟨⟨by omega, by omega⟩, fun _ => ⟨rfl, fun kd h1 h2 => by dsimp only at h2; omega⟩, fun h => by cases h⟩ ?_
      rintro ⟨kd, mv, y⟩ ⟨⟨hkd1, hkd2⟩, hn1, hn2⟩ KN hKN
      dsimp only at hkd1 hkd2 hn1 hn2
      cases mv
      · obtain ⟨rfl, hno2⟩ := hn1 rfl
        by_cases hkl : kd < 4
        · by_cases hw : whyM c y ⟨kd, (all.getD j default).who, (all.getD j default).n⟩ = 0
          · repeat' (first | (with_reducible first | (refine hK _ _ _ ?_; clear hK K) | (refine hA ?_; clear hA hB A B) | refine Z1 ?_ | refine Z2 ?_ | refine Z3 fun KB hKB => ?_) | (first | (with_reducible first | refine Y2 fun K hK => ?_ | refine Y3 fun A B hA hB => ?_ | refine Y4 (by omega) ?_) | (refine a_impl_TlmStepE hb hf hs ?_)) <;> (simp only [go_sem, eq_true hw]; try simp (disch := omega) only [Iw]) | ((with_reducible refine Y0 ?_); simp only [AQ.then, AQ.blk]) | refine ⟨by omega, ?_⟩ | (with_reducible refine hKB _ _ _ ?_) | fail)
            exact hKN _ _ _ (kd + 1, true, stepM c y ⟨kd, (all.getD j default).who, (all.getD j default).n⟩) (by omega) (by (refine cv_hp [60] (by omega) (by repeat' (first | (with_reducible first | exact C1 | refine C2 ?_ ?_) | ((with_reducible refine C0 ?_); exact CE (by omega) rfl) | ((with_reducible refine D0 ?_); first | exact CA rfl | refine CJ ?_) | fail)) ⟨⟨by simp, by simp [sgL], _, rfl, cvO_one (cvL_imm fun x hx => List.all_eq_true.1 (eSt_ok _).2 x hx)⟩, trivial⟩ (by simp [sgL]))) ⟨⟨by dsimp only; omega, by dsimp only; omega⟩, (fun h => by cases h), fun _ => ⟨⟨kd, (all.getD j default).who, (all.getD j default).n⟩, by dsimp only; omega, hw, rfl⟩⟩ (by dsimp only; omega)
          · repeat' (first | (with_reducible first | (refine hK _ _ _ ?_; clear hK K) | (refine hA ?_; clear hA hB A B) | (refine hB ?_; clear hA hB A B) | refine Z1 ?_ | refine Z2 ?_ | refine Z3 fun KB hKB => ?_) | (first | (with_reducible first | refine Y2 fun K hK => ?_ | refine Y3 fun A B hA hB => ?_ | refine Y4 (by omega) ?_) | (refine a_impl_TlmStepE hb hf hs ?_)) <;> (simp only [go_sem, eq_false hw]; try simp (disch := omega) only [Iw]) | ((with_reducible refine Y0 ?_); simp only [AQ.then, AQ.blk]) | refine ⟨by omega, ?_⟩ | (with_reducible refine hKB _ _ _ ?_) | fail)
            exact hKN _ _ _ (kd + 1, false, y) (by omega) (by (refine cv_hp [60] (by omega) (by repeat' (first | (with_reducible first | exact C1 | refine C2 ?_ ?_) | ((with_reducible refine C0 ?_); exact CE (by omega) rfl) | ((with_reducible refine D0 ?_); first | exact CA rfl | refine CJ ?_) | fail)) ⟨⟨by simp, by simp [sgL], _, rfl, cvO_one (cvL_imm fun x hx => List.all_eq_true.1 (eSt_ok _).2 x hx)⟩, trivial⟩ (by simp [sgL]))) ⟨⟨by dsimp only; omega, by dsimp only; omega⟩, fun _ => ⟨rfl, fun q h1 h2 => by
              dsimp only at h2
              by_cases hq : q < kd
              · exact hno2 q h1 hq
              · have : q = kd := by omega
                subst this; exact hw⟩, fun h => by cases h⟩ (by dsimp only; omega)
        · repeat' (first | (with_reducible first | (refine hK _ _ _ ?_; clear hK K) | (refine hB ?_; clear hA hB A B) | refine Z1 ?_ | refine hKZ _ _ _ ?_) | (with_reducible first | refine Y2 fun K hK => ?_ | refine Y3 fun A B hA hB => ?_ | refine Y5 (by omega) ?_) <;> (simp only [go_sem]; try simp (disch := omega) only [Iw]) | ((with_reducible refine Y9 ?_); try simp only [AQ.then, AQ.blk, reduceIte, Nat.reduceEqDiff]) | ((with_reducible refine Y0 ?_); simp only [AQ.then, AQ.blk]) | (with_reducible refine hKB _ _ _ ?_) | fail)
          exact hKM _ _ _ (j + 1, false, y) (by omega) (by (refine cv_hp [60] (by omega) (by repeat' (first | (with_reducible first | exact C1 | refine C2 ?_ ?_) | ((with_reducible refine C0 ?_); exact CE (by omega) rfl) | ((with_reducible refine D0 ?_); first | exact CA rfl | refine CJ ?_) | fail)) ⟨⟨by simp, by simp [sgL], _, rfl, cvO_one (cvL_imm fun x hx => List.all_eq_true.1 (eSt_ok _).2 x hx)⟩, trivial⟩ (by simp [sgL]))) ⟨by dsimp only; omega, fun _ => ⟨rfl, fun i hi q hq => by
            dsimp only at hi
            by_cases hij : i < j
            · exact hno i hij q hq
            · have : i = j := by omega
              subst this
              rcases hq with rfl | rfl
              · exact hno2 2 (by omega) (by omega)
              · exact hno2 3 (by omega) (by omega)⟩, fun h => by cases h⟩ (by dsimp only; omega)
      · have hn3 := hn2 rfl
        repeat' (first | (with_reducible first | (refine hK _ _ _ ?_; clear hK K) | (refine hB ?_; clear hA hB A B) | refine Z1 ?_ | refine hKZ _ _ _ ?_) | (with_reducible first | refine Y2 fun K hK => ?_ | refine Y3 fun A B hA hB => ?_ | refine Y6 (fun h => ?_) fun h => ?_) <;> (simp only [go_sem]; try simp (disch := omega) only [Iw]) | ((with_reducible refine Y9 ?_); try simp only [AQ.then, AQ.blk, reduceIte, Nat.reduceEqDiff]) | ((with_reducible refine Y0 ?_); simp only [AQ.then, AQ.blk]) | (with_reducible refine hKB _ _ _ ?_) | fail)
        all_goals exact hKM _ _ _ (j + 1, true, y) (by omega) (by (refine cv_hp [60] (by omega) (by repeat' (first | (with_reducible first | exact C1 | refine C2 ?_ ?_) | ((with_reducible refine C0 ?_); exact CE (by omega) rfl) | ((with_reducible refine D0 ?_); first | exact CA rfl | refine CJ ?_) | fail)) ⟨⟨by simp, by simp [sgL], _, rfl, cvO_one (cvL_imm fun x hx => List.all_eq_true.1 (eSt_ok _).2 x hx)⟩, trivial⟩ (by simp [sgL]))) ⟨by dsimp only; omega, (fun h => by cases h), fun _ => hn3⟩ (by dsimp only; omega)
    · cases mv
      · exfalso
        obtain ⟨rfl, hno⟩ := hm1 rfl
        have hjn : ¬ j < all.length := fun h => hjl ⟨h, rfl⟩
        exact hno i0 (by omega) kd0 hkd0 hwhy0
      · obtain ⟨e, hek, hew, rfl⟩ := hm2 rfl
        have hst := step_ok hb hs hew
        have hme := end_meas hew hek
        repeat' (first | (with_reducible first | (refine hK _ _ _ ?_; clear hK K) | (refine hB ?_; clear hA hB A B) | refine Z1 ?_ | refine Z2 ?_ | refine hKY _ _ _ ?_) | (with_reducible first | refine Y2 fun K hK => ?_ | refine Y3 fun A B hA hB => ?_ | refine Y6 (fun h => ?_) fun h => ?_) <;> (simp only [go_sem]; try simp (disch := omega) only [Iw]) | ((with_reducible refine Y9 ?_); try simp only [AQ.then, AQ.blk, reduceIte, Nat.reduceEqDiff]) | ((with_reducible refine Y0 ?_); simp only [AQ.then, AQ.blk]) | (with_reducible refine hKB _ _ _ ?_) | fail)
        all_goals exact hKL _ _ _ (k + 1, stepM c s e) (by omega) (by (refine cv_hp [50] (by omega) (by repeat' (first | (with_reducible first | exact C1 | refine C2 ?_ ?_) | ((with_reducible refine C0 ?_); exact CE (by omega) rfl) | ((with_reducible refine D0 ?_); first | exact CA rfl | refine CJ ?_) | fail)) ⟨⟨by simp, by simp [sgL], _, rfl, cvO_one (cvL_imm fun x hx => List.all_eq_true.1 (eSt_ok _).2 x hx)⟩, trivial⟩ (by simp [sgL]))) ⟨hst, by dsimp only; omega⟩ (by dsimp only; omega)
  · repeat' (first | (with_reducible first | (refine hK _ _ _ ?_; clear hK K) | (refine hB ?_; clear hA hB A B) | refine Z1 ?_ | refine Z5 (by omega) ?_ | refine hKX _ _ _ ?_) | (first | (with_reducible first | refine Y2 fun K hK => ?_ | refine Y3 fun A B hA hB => ?_ | refine Y4 (by omega) ?_ | refine Y6 (fun h => ?_) fun h => ?_) | (with_reducible refine a_laws_crOk ?_)) <;> (simp only [go_sem]; try simp (disch := omega) only [Iw]) | ((with_reducible first | refine Y8 ?_ | refine Y9 ?_); try simp only [AQ.then, AQ.blk, reduceIte, Nat.reduceEqDiff]) | fail)
    all_goals exact exitP hQ (dB true) rfl rfl rfl
end
end Go.Proofs.YtiimjokpcbapeaaGreat
