/- Contracts: drawing what happens, one behind the other. -/
import Derived.Test.YtiimjokpcbapeaaGreatTn
set_option linter.unusedVariables false
set_option linter.unusedSimpArgs false
set_option linter.unusedSectionVars false
namespace Go.Proofs.YtiimjokpcbapeaaGreat
open Go Go.AM
set_option maxRecDepth 100000
set_option maxHeartbeats 4000000
theorem oSt_drop {i0 i1 i2 i3 wc hc ac tc : Nat} {s : TSt} : (oSt i0 i1 i2 i3 wc hc ac tc s).drop 6 = [] := rfl
theorem eSt_drop6 {s : TSt} : (eSt s).drop 6 = [] := rfl
attribute [go_sem] oSt_drop
section
variable {H : Heap} {nx : Nat} {K : D → Heap → Nat → Prop}

theorem c_spec_l20Tlm (l : List Int) (hl : CodeOk l) (n : Int) (hn : 0 ≤ n ∧ n ≤ 1000) :
    ACall Tryz.prog n_spec_l20Tlm [dP 2 0, dI n] (hp [(0, rdO l 0)]) 1
    fun r H' n' => n' = 1 ∧ ∃ o', H' = hp [(0, o')] ∧ immO o' ∧ ∃ (p' : Nat) (c : Cfg) (es : List Ev), o' = rdO l p' ∧ p' ≤ 10000 ∧ BusOkP c ∧ CfgFit c ∧ Plays c st0 es ∧ (es.length = 0 ∨ (es.length : Int) < n) ∧ r = .tup [.agg (eCfg c), .agg (eSt (runM c st0 es)), .c (.isl (es.map eEv))] := by
  refine en_spec_l20Tlm rfl fun Q hQ => ?_
  unfold ac_spec_l20Tlm
  generalize hs0 : st0 = s0
  have htn : ∀ {H : Heap} {nx : Nat} {K : D → Heap → Nat → Prop}, (∀ hc, 6 ≤ hc → K (dA (oSt nx (nx + 1) (nx + 2) (nx + 3) 64 hc 3 0 s0)) ((((H.set nx ⟨1, 64, s0.words.map eInt⟩).set (nx + 1) ⟨1, hc, s0.holds.map eInt⟩).set (nx + 2) ⟨1, 3, s0.asked.map eInt⟩).set (nx + 3) ⟨5, 0, s0.told.map eJob⟩) (nx + 4)) → ACall Tryz.prog n_spec_TlmNew [] H nx K := fun h => by subst hs0; exact a_spec_TlmNew h
  have hst0 : ∀ c, StOk c s0 := fun c => by subst hs0; exact st0_ok c
  have htold : s0.told = [] := by subst hs0; rfl
  repeat' (first | (with_reducible first | (refine hK _ _ _ ?_; clear hK K) | refine Z1 ?_ | refine Z3 fun KB hKB => ?_) | (first | (with_reducible refine Y2 fun K hK => ?_) | (refine a_spec_l20Bus hl (by omega) (by omega) rfl (fun pb c hb1 hb2 ⟨hbok, hbfit⟩ => ?_)) | (refine htn fun hc hhc => ?_) | (refine a_spec_l20Rd_pick hl (by omega) (by omega) (by omega) rfl (fun x h1 h2 => ?_))) <;> (simp only [go_sem]) | fail)
  (have hQX := hKB; clear hKB)
  refine AWPL.loopP 2 (β := Nat × Nat × List Ev × Nat × Nat × Nat)
    (fun b u => en [(10, dI u.1), (9, dO 3 (b + 1) u.2.2.1.length u.2.2.2.1), (8, dP 6 9), (7, dP 3 6), (5, dP 6 2), (4, dP 3 1), (0, dP 2 0)])
    (fun b u => hp [(0, rdO l u.2.1), (1, ⟨3, 1, [[.osl 0 0 0 0 0, .osl 0 0 0 0 0, .osl 0 0 0 0 0]]⟩), (2, ⟨6, 1, [[.osl 0 0 0 0 0, .osl 0 0 0 0 0, .osl 0 0 0 0 0, .osl 0 0 0 0 0, .osl 0 0 0 0 0, .osl 0 0 0 0 0]]⟩), (6, ⟨3, 1, [eCfg c]⟩), (9, ⟨6, 1, [oSt 11 12 13 b 64 hc 3 u.2.2.2.2.1 (runM c s0 u.2.2.1)]⟩), (11, ⟨1, 64, (runM c s0 u.2.2.1).words.map eInt⟩), (12, ⟨1, hc, (runM c s0 u.2.2.1).holds.map eInt⟩), (13, ⟨1, 3, (runM c s0 u.2.2.1).asked.map eInt⟩), (b, ⟨5, u.2.2.2.2.2, (runM c s0 u.2.2.1).told.map eJob⟩), (b + 1, ⟨3, u.2.2.2.1, u.2.2.1.map eEv⟩)])
    (fun u => (u.1 + u.2.2.1.length ≤ x.toNat ∧ u.2.1 + 5 * u.1 ≤ pb + 1 + 5 * x.toNat) ∧ Plays c s0 u.2.2.1 ∧ (runM c s0 u.2.2.1).told.length ≤ u.2.2.2.2.1 ∧ u.2.2.2.2.1 ≤ u.2.2.2.2.2 ∧ u.2.2.1.length ≤ u.2.2.2.1)
    (fun u => u.1) (x.toNat, pb + 1, [], 0, 0, 0) ?_ ⟨⟨by simp, by dsimp only; omega⟩, plays_nil, by simp [runM, htold], by simp, by simp⟩ ?_
  · (refine cv_hp [14, 15, 0, 1, 2, 6, 9, 11, 12, 13] (by omega) (by repeat' (first | (with_reducible first | exact C1 | refine C2 ?_ ?_) | ((with_reducible refine C0 ?_); first | exact CC | exact CE (by omega) rfl | (exact CG (by (congr 2; omega)) rfl)) | ((with_reducible refine D0 ?_); refine CJ ?_) | fail)) ⟨⟨by simp, by simp [sgL], _, rfl, cvO_imm (rdO_imm _ _)⟩, ⟨by simp, by simp [sgL], _, rfl, cvO_one (by repeat' (first | (with_reducible first | exact C3 | refine C4 ?_ ?_) | ((with_reducible refine C0 ?_); exact CC) | fail))⟩, ⟨by simp, by simp [sgL], _, rfl, cvO_one (by repeat' (first | (with_reducible first | exact C3 | refine C4 ?_ ?_) | ((with_reducible refine C0 ?_); exact CC) | fail))⟩, ⟨by simp, by simp [sgL], _, rfl, cvO_one (cvL_imm fun x hx => List.all_eq_true.1 (eCfg_ok c).2 x hx)⟩, ⟨by simp, by simp [sgL], _, rfl, cvO_one (by repeat' (first | (with_reducible first | exact C3 | refine C4 ?_ ?_) | ((with_reducible refine C0 ?_); first | exact CB rfl | exact CQ (by omega) rfl rfl (by rfl) rfl) | refine C4 ?_ ?_ | fail))⟩, ⟨by simp, by simp [sgL], _, rfl, cvO_E (immR_map eInt_ok _) rfl rfl⟩, ⟨by simp, by simp [sgL], _, rfl, cvO_E (immR_map eInt_ok _) rfl rfl⟩, ⟨by simp, by simp [sgL], _, rfl, cvO_E (immR_map eInt_ok _) rfl rfl⟩, ⟨by simp, by simp [sgL], _, rfl, cvO_E (immR_map eJob_ok _) rfl rfl⟩, ⟨by simp, by simp [sgL], _, rfl, cvO_E (immR_map eEv_ok _) rfl rfl⟩, trivial⟩ (by simp [sgL]))
  rintro ⟨j, pj, es, ce, tc, tm⟩ ⟨⟨f1, f2⟩, f3, f4, f5, f6⟩ KL hKL
  dsimp only at f1 f2 f3 f4 f5 f6
  have hs := plays_end hbok (hst0 c) f3
  have hpe := fun e => plays_snoc (e := e) f3
  have hre := fun e => runM_snoc (c := c) (s := s0) (l := es) (e := e)
  generalize hrun : runM c s0 es = s at *
  have hlen := hs.lens hbok
  have hte : es.take es.length = es := List.take_length
  by_cases hj : 0 < j
  · repeat' (first | (with_reducible first | (refine hK _ _ _ ?_; clear hK K) | (refine hA ?_; clear hA hB A B) | (refine hB ?_; clear hA hB A B) | refine Z1 ?_ | refine Z2 ?_ | refine Z3 fun KB hKB => ?_ | refine Z4 (by omega) ?_ | refine fun (cap : Nat) (hcap : _ ≤ cap) => ?_ | refine fun (hcp : _ ≤ cap) => ?_) | (first | (with_reducible first | refine Y2 fun K hK => ?_ | refine Y3 fun A B hA hB => ?_) | (refine a_spec_l20TlmEvent hl (by omega) hs.askedL (by omega) (by omega) (by omega) (by omega) (by omega) rfl rfl (fun pe e he1 he2 => ?_)) | (refine a_spec_l5Step hbok hs (by omega) (by omega) (by omega) f4 f5 (by omega) (by omega) (by omega) (by omega) (by decide) rfl rfl rfl rfl (fun hw tc' tm' ht1 ht2 => ?_) (fun hw => ?_))) <;> (simp only [go_sem, hte]; try simp (disch := omega) only [Iw]) | ((with_reducible refine Y0 ?_); simp only [AQ.then, AQ.blk]) | refine ⟨by omega, ?_⟩ | (with_reducible refine hKB _ _ _ ?_) | fail)
    · have hst := hre e
      exact hKL _ _ _ (j - 1, pe, es ++ [e], cap, tc', tm') (by omega) (by rw [hre e]; (refine cv_hp [41, 46, 0, 1, 2, 6, 9, 11, 12, 13] (by omega) (by repeat' (first | (with_reducible first | exact C1 | refine C2 ?_ ?_) | ((with_reducible refine C0 ?_); first | (exact CQ (by omega) rfl rfl (by first | rfl | (simp; done)) rfl) | exact CE (by omega) rfl | (exact CG (by (congr 2; omega)) rfl)) | ((with_reducible refine D0 ?_); refine CJ ?_) | fail)) ⟨⟨by simp, by simp [sgL], _, rfl, cvO_imm (rdO_imm _ _)⟩, ⟨by simp, by simp [sgL], _, rfl, cvO_one (by repeat' (first | (with_reducible first | exact C3 | refine C4 ?_ ?_) | ((with_reducible refine C0 ?_); exact CC) | fail))⟩, ⟨by simp, by simp [sgL], _, rfl, cvO_one (by repeat' (first | (with_reducible first | exact C3 | refine C4 ?_ ?_) | ((with_reducible refine C0 ?_); exact CC) | fail))⟩, ⟨by simp, by simp [sgL], _, rfl, cvO_one (cvL_imm fun x hx => List.all_eq_true.1 (eCfg_ok c).2 x hx)⟩, ⟨by simp, by simp [sgL], _, rfl, cvO_one (by repeat' (first | (with_reducible first | exact C3 | refine C4 ?_ ?_) | ((with_reducible refine C0 ?_); first | exact CB rfl | exact CQ (by omega) rfl rfl (by rfl) rfl) | refine C4 ?_ ?_ | fail))⟩, ⟨by simp, by simp [sgL], _, rfl, cvO_E (immR_map eInt_ok _) rfl rfl⟩, ⟨by simp, by simp [sgL], _, rfl, cvO_E (immR_map eInt_ok _) rfl rfl⟩, ⟨by simp, by simp [sgL], _, rfl, cvO_E (immR_map eInt_ok _) rfl rfl⟩, ⟨by simp, by simp [sgL], _, rfl, cvO_E (immR_map eJob_ok _) rfl rfl⟩, ⟨by simp, by simp [sgL], _, rfl, cvO_E (immR_map eEv_ok _) rfl rfl⟩, trivial⟩ (by simp [sgL]))) ⟨⟨by simp; omega, by dsimp only; omega⟩, hpe e hw, by rw [hre e]; exact ht1, ht2, by simpa using hcap⟩ (by dsimp only; omega)
    · exact hKL _ _ _ (j - 1, pe, es, ce, tc, tm) (by omega) (by rw [hrun]; (refine cv_hp [21, 22, 0, 1, 2, 6, 9, 11, 12, 13] (by omega) (by repeat' (first | (with_reducible first | exact C1 | refine C2 ?_ ?_) | ((with_reducible refine C0 ?_); first | exact CQ (by omega) rfl rfl (by rfl) rfl | exact CE (by omega) rfl | (exact CG (by (congr 2; omega)) rfl)) | ((with_reducible refine D0 ?_); refine CJ ?_) | fail)) ⟨⟨by simp, by simp [sgL], _, rfl, cvO_imm (rdO_imm _ _)⟩, ⟨by simp, by simp [sgL], _, rfl, cvO_one (by repeat' (first | (with_reducible first | exact C3 | refine C4 ?_ ?_) | ((with_reducible refine C0 ?_); exact CC) | fail))⟩, ⟨by simp, by simp [sgL], _, rfl, cvO_one (by repeat' (first | (with_reducible first | exact C3 | refine C4 ?_ ?_) | ((with_reducible refine C0 ?_); exact CC) | fail))⟩, ⟨by simp, by simp [sgL], _, rfl, cvO_one (cvL_imm fun x hx => List.all_eq_true.1 (eCfg_ok c).2 x hx)⟩, ⟨by simp, by simp [sgL], _, rfl, cvO_one (by repeat' (first | (with_reducible first | exact C3 | refine C4 ?_ ?_) | ((with_reducible refine C0 ?_); first | exact CB rfl | exact CQ (by omega) rfl rfl (by rfl) rfl) | refine C4 ?_ ?_ | fail))⟩, ⟨by simp, by simp [sgL], _, rfl, cvO_E (immR_map eInt_ok _) rfl rfl⟩, ⟨by simp, by simp [sgL], _, rfl, cvO_E (immR_map eInt_ok _) rfl rfl⟩, ⟨by simp, by simp [sgL], _, rfl, cvO_E (immR_map eInt_ok _) rfl rfl⟩, ⟨by simp, by simp [sgL], _, rfl, cvO_E (immR_map eJob_ok _) rfl rfl⟩, ⟨by simp, by simp [sgL], _, rfl, cvO_E (immR_map eEv_ok _) rfl rfl⟩, trivial⟩ (by simp [sgL]))) ⟨⟨by dsimp only; omega, by dsimp only; omega⟩, f3, by rw [hrun]; exact f4, f5, f6⟩ (by dsimp only; omega)
  · repeat' (first | (with_reducible first | (refine hK _ _ _ ?_; clear hK K) | (refine hB ?_; clear hA hB A B) | refine Z1 ?_ | refine Z5 (by omega) ?_) | (with_reducible first | refine Y2 fun K hK => ?_ | refine Y3 fun A B hA hB => ?_) <;> (simp only [go_sem]) | ((with_reducible refine Y9 ?_); try simp only [AQ.then, AQ.blk, reduceIte, Nat.reduceEqDiff]) | fail)
    refine hQX _ _ _ ?_
    have hwl := hs.atm.wl
    have hhl := hs.atm.hl
    have hal := hs.askedL
    have hcst : ∀ (H : Heap) (F : Nat → Prop) (σ : Nat → Nat) (nh : Nat), F 11 → F 12 → F 13 → F 21 → H 11 = some ⟨1, 64, s.words.map eInt⟩ → H 12 = some ⟨1, hc, s.holds.map eInt⟩ → H 13 = some ⟨1, 3, s.asked.map eInt⟩ → H 21 = some ⟨5, tm, s.told.map eJob⟩ → CvL H F σ nh (eSt s) (oSt 11 12 13 21 64 hc 3 tc s) := fun H F σ nh q1 q2 q3 q4 o1 o2 o3 o4 =>
      cvL_cons (cv1_frzM eInt_ok o1 (by omega) (by omega) q1) (cvL_cons (cv1_frzM eInt_ok o2 (by omega) (by omega) q2) (cvL_cons (cv1_frzM eInt_ok o3 (by omega) (by omega) q3) (cvL_cons (cv1_imm rfl) (cvL_cons (cv1_imm rfl) (cvL_cons (cv1_frzM eJob_ok o4 (by omega) (by omega) q4) cvL_nil)))))
    refine AWPL.convL 0 (en [(9, dS (es.map eEv)), (8, .one (.c (.iptr (eSt s)))), (7, .one (.c (.iptr (eCfg c)))), (5, dP 6 2), (4, dP 3 1)]) (hp [(0, rdO l pj), (1, ⟨3, 1, [[.osl 0 0 0 0 0, .osl 0 0 0 0 0, .osl 0 0 0 0 0]]⟩), (2, ⟨6, 1, [[.osl 0 0 0 0 0, .osl 0 0 0 0 0, .osl 0 0 0 0 0, .osl 0 0 0 0 0, .osl 0 0 0 0 0, .osl 0 0 0 0 0]]⟩)]) ?_ ?_
    · refine cv_hp [0, 1, 2] (by omega) (cvE_cons (cvE_cons (cvE_cons (cvE_cons (cvE_cons cvE_enil (cvD_ptr (by omega) rfl)) (cvD_ptr (by omega) rfl)) (cvD_frzptr (eCfg_ok c).2 (by simp) rfl rfl rfl)) (cvD_frzptrC (eSt_ok s).2 (hcst _ _ id 0 (by simp) (by simp) (by simp) (by simp) rfl rfl rfl rfl) (by simp) rfl rfl rfl)) (cvD_frzM eEv_ok rfl rfl (by omega) (by simp))) ?_ (by simp [sgL])
      exact ⟨⟨by omega, by simp [sgL], _, rfl, cvO_imm (rdO_imm _ _)⟩, ⟨by omega, by simp [sgL], _, rfl, cvO_one (by repeat' (first | (with_reducible first | exact C3 | refine C4 ?_ ?_) | ((with_reducible refine C0 ?_); exact CC) | fail))⟩, ⟨by omega, by simp [sgL], _, rfl, cvO_one (by repeat' (first | (with_reducible first | exact C3 | refine C4 ?_ ?_) | ((with_reducible refine C0 ?_); exact CC) | fail))⟩, trivial⟩
    repeat' (first | (with_reducible first | (refine hK _ _ _ ?_; clear hK K) | refine Z1 ?_) | (first | (with_reducible refine Y2 fun K hK => ?_) | (with_reducible refine a_spec_l5Copy hbok hs hs.dataL ?_)) <;> (simp only [go_sem]) | ((with_reducible refine Y8 ?_); try simp only [AQ.then, AQ.blk, reduceIte, Nat.reduceEqDiff]) | fail)
    exact exitM1 hQ (.tup [.agg (eCfg c), .agg (eSt s), .c (.isl (es.map eEv))]) _ _ rfl (cvD_im rfl) rfl (rdO_imm _ _) ⟨pj, c, es, rfl, by omega, hbok, hbfit, by rw [hs0]; exact f3, by omega, by rw [hs0, hrun]⟩
theorem c_spec_l20Open (l : List Int) : ACall Tryz.prog n_spec_l20Open [dS (l.map eU8)] (hp []) 0 fun r H' n' => n' = 1 ∧ H' = hp [(0, rdO (l.take 2000) 0)] ∧ r = dP 2 0 := by
  refine en_spec_l20Open rfl fun Q hQ => ?_
  unfold ac_spec_l20Open
  repeat' (first | (with_reducible first | (refine hK _ _ _ ?_; clear hK K) | (refine hA ?_; clear hA hB A B) | (refine hB ?_; clear hA hB A B) | refine Z1 ?_ | refine Z2 ?_ | refine Z6 (fun h => ?_) fun h => ?_) | (with_reducible first | refine Y2 fun K hK => ?_ | refine Y3 fun A B hA hB => ?_) <;> (simp only [go_sem]) | ((with_reducible refine Y8 ?_); try simp only [AQ.then, AQ.blk, reduceIte, Nat.reduceEqDiff]) | refine ⟨by omega, ?_⟩ | fail)
  · have e : l.take 2000 = (l.take 2000).take 2000 := by rw [List.take_take]; simp
    (refine hQ _ _ _ _ _ 1 (dP 2 0) (hp [(0, rdO (l.take 2000) 0)]) _ _ (.inr rfl) rfl (cvR_hp [9] (by omega) (by repeat' (first | ((with_reducible refine C0 ?_); exact CE (by omega) rfl) | ((with_reducible refine D0 ?_); refine CJ ?_) | fail)) ⟨⟨by simp, by simp [sgL], _, rfl, cvO_imm (rdO_imm _ _)⟩, trivial⟩ (by simp [sgL])) ?_)
    exact ⟨rfl, rfl, rfl⟩
  · (refine hQ _ _ _ _ _ 1 (dP 2 0) (hp [(0, rdO l 0)]) _ _ (.inr rfl) rfl (cvR_hp [6] (by omega) (by repeat' (first | ((with_reducible refine C0 ?_); exact CE (by omega) rfl) | ((with_reducible refine D0 ?_); refine CJ ?_) | fail)) ⟨⟨by simp, by simp [sgL], _, rfl, cvO_imm (rdO_imm _ _)⟩, trivial⟩ (by simp [sgL])) ?_)
    exact ⟨rfl, by rw [List.take_of_length_le (by omega)], rfl⟩
theorem a_spec_l20Open {l : List Int} (h : K (dP 2 nx) (H.set nx (rdO (l.take 2000) 0)) (nx + 1)) : ACall Tryz.prog n_spec_l20Open [dS (l.map eU8)] H nx K := by
  refine (c_spec_l20Open l).mutL (l0 := []) [] rfl ⟨cvD_im rfl, trivial⟩ trivial (by simp) (by simp) (by simp) fun r H' n' _ ⟨q1, q2, q3⟩ => ?_
  subst q1; subst q2; subst q3
  have e1 : back (tau 0 nx (nth [])) (hp [(0, rdO (l.take 2000) 0)]) 1 H = H.set nx (rdO (l.take 2000) 0) := by
    simp only [back, hp, Heap.set, tau, Nat.not_lt_zero, if_true, if_false, Nat.sub_zero, Nat.add_zero, Option.map_some, rnO_imm (rdO_imm _ _), Heap.upd_some]
  rw [← e1] at h
  exact h
theorem a_spec_l20Tlm {l : List Int} {n : Int} {i : Nat} (hl : CodeOk l) (hn : 0 ≤ n ∧ n ≤ 1000) (hi : i < nx) (ho : H i = some (rdO l 0)) (h : ∀ p' c es, BusOkP c → CfgFit c → Plays c st0 es → (es.length = 0 ∨ (es.length : Int) < n) → K (.tup [.agg (eCfg c), .agg (eSt (runM c st0 es)), .c (.isl (es.map eEv))]) (H.set i (rdO l p')) nx) :
    ACall Tryz.prog n_spec_l20Tlm [dP 2 i, dI n] H nx K :=
  (c_spec_l20Tlm l hl n hn).mut1 i rfl (argL_args ⟨cvD_ptr (by omega) rfl, cvD_im rfl, trivial⟩) hi ho (rdO_imm l 0) fun r o' ⟨p', c, es, q1, q2, q3, q4, q5, q6, q7⟩ => by
    subst q1; subst q7; exact rnD_imm' (A := fun d => K d (H.set i (rdO l p')) nx) rfl (h p' c es q3 q4 q5 q6)
theorem c_spec_DrawTlmPlay (l : List Int) (hl : CodeOk l) : ACall Tryz.prog n_spec_DrawTlmPlay [dS (l.map eU8)] .nil 0
    fun r _ n => n = 0 ∧ r.imm = true ∧ ∃ c es, BusOkP c ∧ CfgFit c ∧ Plays c st0 es ∧ es.length < 130 ∧ r = .tup [.agg (eCfg c), .c (.isl (es.map eEv))] := by
  have hl2 : CodeOk (l.take 2000) := ⟨by simp; omega, fun x hx => hl.byte x (List.take_subset _ _ hx)⟩
  refine en_spec_DrawTlmPlay rfl fun Q hQ => ?_
  unfold ac_spec_DrawTlmPlay
  repeat' (first | (with_reducible first | (refine hK _ _ _ ?_; clear hK K) | refine Z1 ?_) | (first | (with_reducible refine Y2 fun K hK => ?_) | (refine a_spec_l20Open ?_) | (refine a_spec_l20Tlm hl2 (by omega) (by omega) rfl (fun p' c es hb hf hp he => ?_))) <;> (simp only [go_sem]) | ((with_reducible refine Y8 ?_); try simp only [AQ.then, AQ.blk, reduceIte, Nat.reduceEqDiff]) | fail)
  exact exitF hQ (.tup [.agg (eCfg c), .c (.isl (es.map eEv))]) _ rfl (cvD_im rfl) rfl ⟨c, es, hb, hf, hp, by omega, rfl⟩
theorem a_spec_DrawTlmPlay {l : List Int} (hl : CodeOk l) (h : ∀ c es, BusOkP c → CfgFit c → Plays c st0 es → es.length < 130 → K (.tup [.agg (eCfg c), .c (.isl (es.map eEv))]) H nx) : ACall Tryz.prog n_spec_DrawTlmPlay [dS (l.map eU8)] H nx K :=
  (c_spec_DrawTlmPlay l hl).fresh rfl fun r ⟨c, es, q1, q2, q3, q4, q5⟩ => q5 ▸ h c es q1 q2 q3 q4
end
end Go.Proofs.YtiimjokpcbapeaaGreat
