/- Contracts: a bus that may stand so, and one thing that may happen, of the program. -/
import Derived.Test.YtiimjokpcbapeaaGreatAcLTlmStep
import Derived.Test.YtiimjokpcbapeaaGreatTx
set_option linter.unusedVariables false
set_option linter.unusedSimpArgs false
set_option linter.unusedSectionVars false
namespace Go.Proofs.YtiimjokpcbapeaaGreat
open Go Go.AM
set_option maxRecDepth 100000
set_option maxHeartbeats 8000000
section
variable {H : Heap} {nx : Nat} {K : D → Heap → Nat → Prop}
theorem c_impl_TlmOk (c : Cfg) (s : TSt) (hb : BusOkP c) (hcf : CfgFit c) (hs : StOk c s) : ACall Tryz.prog n_impl_TlmOk [dA (eCfg c), dA (eSt s)] .nil 0 fun rr _ _ => rr.plain = true ∧ rr = dB true := by
  refine en_impl_TlmOk rfl fun Q hQ => ?_
  unfold ac_impl_TlmOk
  repeat' (first | (with_reducible first | (refine hK _ _ _ ?_; clear hK K) | refine Z1 ?_) | (first | (with_reducible refine Y2 fun K hK => ?_) | (refine a_impl_BusOk hcf ?_) | (refine a_impl_BusCfg_tlmOk hb hs ?_)) <;> (simp only [go_sem, eq_true hb]) | ((with_reducible refine Y8 ?_); try simp only [AQ.then, AQ.blk, reduceIte, Nat.reduceEqDiff]) | fail)
  exact exitP hQ (dB true) rfl rfl rfl
theorem a_impl_TlmOk {c : Cfg} {s : TSt} (hb : BusOkP c) (hcf : CfgFit c) (hs : StOk c s) (h : K (dB true) H nx) : ACall Tryz.prog n_impl_TlmOk [dA (eCfg c), dA (eSt s)] H nx K :=
  (c_impl_TlmOk c s hb hcf hs).pure rfl (lentL_args ⟨cvD_im rfl, cvD_im rfl, trivial⟩) fun r hr => hr ▸ h
theorem c_impl_TlmStep (c : Cfg) (s : TSt) (e : Ev) (hb : BusOkP c) (hcf : CfgFit c) (hs : StOk c s) : ACall Tryz.prog n_impl_TlmStep [dA (eCfg c), dA (eSt s), dA (eEv e)] .nil 0
    fun r _ n => n = 0 ∧ r.imm = true ∧ r = .tup [.agg (eSt (if whyM c s e = 0 then stepM c s e else s)), .c (cB (decide (whyM c s e = 0)))] := by
  refine en_impl_TlmStep rfl fun Q hQ => ?_
  unfold ac_impl_TlmStep
  obtain ⟨hp3, hp12⟩ := busOk_prog hb
  have hcl : s.words.length ≤ s.words.length ∧ s.holds.length ≤ s.holds.length ∧ s.asked.length ≤ s.asked.length ∧ s.wait.length ≤ s.wait.length ∧ s.done.length ≤ s.done.length ∧ s.told.length ≤ s.told.length := ⟨Nat.le_refl _, Nat.le_refl _, Nat.le_refl _, Nat.le_refl _, Nat.le_refl _, Nat.le_refl _⟩
  by_cases hw : whyM c s e = 0
  · have hsk := step_ok hb hs hw
    refine AWPL.seq ?_
    repeat' (first | (with_reducible (refine hK _ _ _ ?_; clear hK K)) | (with_reducible refine Y2 fun K hK => ?_) <;> (simp only [go_sem]) | fail)
    refine AWPL.seq ?_
    repeat' (first | (with_reducible first | (refine hK _ _ _ ?_; clear hK K) | (refine hB ?_; clear hA hB A B) | refine Z2 ?_) | (first | (with_reducible first | refine Y1 fun K hK => ?_ | refine Y3 fun A B hA hB => ?_) | (refine a_impl_TlmOk hb hcf hs ?_) | (refine a_impl_TlmState_copyOf hb hs (fun m0 m1 m2 m3 m4 m5 hm => ?_))) <;> (simp only [go_sem]) | fail)
    refine AWPL.joinP 0 (β := Unit) (fun _ _ => en [(8, dP 6 11), (6, dP 6 3), (5, .one (.c (.iptr (eEv e)))), (3, .one (.c (.iptr (eCfg c))))])
      (fun _ _ => hp [(3, ⟨6, 1, [[.osl 0 0 0 0 0, .osl 0 0 0 0 0, .osl 0 0 0 0 0, .osl 0 0 0 0 0, .osl 0 0 0 0 0, .osl 0 0 0 0 0]]⟩), (11, ⟨6, 1, [oIm 13 14 15 16 17 18 s.words.length s.holds.length s.asked.length s.wait.length s.done.length s.told.length s]⟩), (13, ⟨1, m0, s.words.map eInt⟩), (14, ⟨1, m1, s.holds.map eInt⟩), (15, ⟨1, m2, s.asked.map eInt⟩), (16, ⟨5, m3, s.wait.map eJob⟩), (17, ⟨5, m4, s.done.map eJob⟩), (18, ⟨5, m5, s.told.map eJob⟩)]) (fun _ => True) (fun KJ hKJ => ?_) ?_
    · repeat' (first | (with_reducible first | (refine hK _ _ _ ?_; clear hK K) | (refine hB ?_; clear hA hB A B) | refine Z1 ?_ | refine Z2 ?_) | (first | (with_reducible first | refine Y2 fun K hK => ?_ | refine Y3 fun A B hA hB => ?_) | (refine a_impl_BusCfg_why (c := c) (s := s) (e := e) hcf hp3 (hs.fit hb) (cvL_imm fun x hx => List.all_eq_true.1 (eSt_ok s).2 x hx) ?_)) <;> (simp only [go_sem, hw]) | ((with_reducible refine Y0 ?_); simp only [AQ.then, AQ.blk]) | fail)
      exact hKJ _ _ _ () (by (refine cv_hp [3, 11, 13, 14, 15, 16, 17, 18] (by omega) (by repeat' (first | (with_reducible first | exact C1 | refine C2 ?_ ?_) | ((with_reducible refine C0 ?_); exact CE (by omega) rfl) | ((with_reducible refine D0 ?_); first | exact CI rfl (by simp) rfl rfl rfl | refine CJ ?_) | fail)) ⟨⟨by simp, by simp [sgL], _, rfl, cvO_one (by repeat' (first | (with_reducible first | exact C3 | refine C4 ?_ ?_) | ((with_reducible refine C0 ?_); exact CC) | fail))⟩, ⟨by simp, by simp [sgL], _, rfl, cvO_one (by unfold oIm; repeat' (first | (with_reducible first | exact C3 | refine C4 ?_ ?_) | ((with_reducible refine C0 ?_); exact CQ (by omega) rfl rfl (by rfl) rfl) | fail))⟩, ⟨by simp, by simp [sgL], _, rfl, cvO_E (immR_map eInt_ok _) rfl rfl⟩, ⟨by simp, by simp [sgL], _, rfl, cvO_E (immR_map eInt_ok _) rfl rfl⟩, ⟨by simp, by simp [sgL], _, rfl, cvO_E (immR_map eInt_ok _) rfl rfl⟩, ⟨by simp, by simp [sgL], _, rfl, cvO_E (immR_map eJob_ok _) rfl rfl⟩, ⟨by simp, by simp [sgL], _, rfl, cvO_E (immR_map eJob_ok _) rfl rfl⟩, ⟨by simp, by simp [sgL], _, rfl, cvO_E (immR_map eJob_ok _) rfl rfl⟩, trivial⟩ (by simp [sgL]))) trivial
    intro _ _
    refine AWPL.joinP 0 (β := Unit) (fun _ _ => en [(8, .one (.c (.iptr (eSt (stepM c s e))))), (6, dP 6 3)]) (fun _ _ => hp [(3, ⟨6, 1, [[.osl 0 0 0 0 0, .osl 0 0 0 0 0, .osl 0 0 0 0 0, .osl 0 0 0 0 0, .osl 0 0 0 0 0, .osl 0 0 0 0 0]]⟩)]) (fun _ => True) (fun KJ hKJ => ?_) ?_
    · repeat' (first | (with_reducible (refine hK _ _ _ ?_; clear hK K)) | (first | (with_reducible refine Y2 fun K hK => ?_) | (refine a_impl_BusCfg_happen hb hs hw hcl hm.2.2.2 (by omega) (by simp) rfl rfl rfl rfl rfl rfl rfl (fun c3' c4' c5' m3' m4' m5' q1 q2 => ?_))) <;> (simp only [go_sem]) | ((with_reducible refine Y0 ?_); simp only [AQ.then, AQ.blk]) | fail)
      refine hKJ _ _ _ () ?_ trivial
      have hcl2 : (stepM c s e).words.length ≤ s.words.length ∧ (stepM c s e).holds.length ≤ s.holds.length ∧ (stepM c s e).asked.length ≤ s.asked.length ∧ (stepM c s e).wait.length ≤ c3' ∧ (stepM c s e).done.length ≤ c4' ∧ (stepM c s e).told.length ≤ c5' := by
        rw [hs.atm.wl, hsk.atm.wl, hs.atm.hl, hsk.atm.hl, hs.askedL, hsk.askedL]; exact ⟨Nat.le_refl _, Nat.le_refl _, Nat.le_refl _, q1⟩
      refine cv_hp [3] (by omega) (cvE_cons (cvE_cons cvE_enil (cvD_ptr (by omega) rfl)) (cvD_frzptrC (σ := id) (nh := 0) (eSt_ok _).2 (cvL_st hcl2 rfl rfl rfl rfl rfl rfl (by simp) (by simp) (by simp) (by simp) (by simp) (by simp)) (by simp) rfl rfl rfl)) ?_ (by simp [sgL])
      exact ⟨⟨by omega, by simp [sgL], _, rfl, cvO_one (by repeat' (first | (with_reducible first | exact C3 | refine C4 ?_ ?_) | ((with_reducible refine C0 ?_); exact CC) | fail))⟩, trivial⟩
    intro _ _
    have hcl3 : ∀ s : TSt, s.words.length ≤ s.words.length ∧ s.holds.length ≤ s.holds.length ∧ s.asked.length ≤ s.asked.length ∧ s.wait.length ≤ s.wait.length ∧ s.done.length ≤ s.done.length ∧ s.told.length ≤ s.told.length := fun s => ⟨Nat.le_refl _, Nat.le_refl _, Nat.le_refl _, Nat.le_refl _, Nat.le_refl _, Nat.le_refl _⟩
    repeat' (first | (with_reducible first | (refine hK _ _ _ ?_; clear hK K) | refine Z1 ?_) | (first | (with_reducible refine Y2 fun K hK => ?_) | (refine a_impl_TlmState_copyOf hb hsk (fun n0 n1 n2 n3 n4 n5 hn => ?_))) <;> (simp only [go_sem]) | ((with_reducible refine Y8 ?_); try simp only [AQ.then, AQ.blk, reduceIte, Nat.reduceEqDiff]) | fail)
    refine exitF hQ (.tup [.agg (eSt (stepM c s e)), .c (cB true)]) _ rfl (cvD_t2 (cvV_agg (cvL_st (hcl3 _) rfl rfl rfl rfl rfl rfl trivial trivial trivial trivial trivial trivial)) (cvV_c (cv1_imm rfl))) rfl ?_
    simp only [hw, if_true, decide_true]
  · repeat' (first | (with_reducible first | (refine hK _ _ _ ?_; clear hK K) | (refine hA ?_; clear hA hB A B) | (refine hB ?_; clear hA hB A B) | refine Z1 ?_ | refine Z2 ?_ | refine Z4 (by omega) ?_) | (first | (with_reducible first | refine Y2 fun K hK => ?_ | refine Y3 fun A B hA hB => ?_) | (refine a_impl_TlmOk hb hcf hs ?_) | (refine a_impl_TlmState_copyOf hb hs (fun m0 m1 m2 m3 m4 m5 hm => ?_)) | (refine a_impl_BusCfg_why (c := c) (s := s) (e := e) hcf hp3 (hs.fit hb) (cvL_imm fun x hx => List.all_eq_true.1 (eSt_ok s).2 x hx) ?_)) <;> (simp only [go_sem]) | ((with_reducible refine Y8 ?_); try simp only [AQ.then, AQ.blk, reduceIte, Nat.reduceEqDiff]) | fail)
    refine exitF hQ (.tup [.agg (eSt s), .c (cB false)]) _ rfl (cvD_t2 (cvV_agg (cvL_st hcl rfl rfl rfl rfl rfl rfl trivial trivial trivial trivial trivial trivial)) (cvV_c (cv1_imm rfl))) rfl ?_
    simp only [hw, if_false, decide_false]
theorem a_impl_TlmStep {c : Cfg} {s : TSt} {e : Ev} (hb : BusOkP c) (hcf : CfgFit c) (hs : StOk c s) (h : K (.tup [.agg (eSt (if whyM c s e = 0 then stepM c s e else s)), .c (cB (decide (whyM c s e = 0)))]) H nx) : ACall Tryz.prog n_impl_TlmStep [dA (eCfg c), dA (eSt s), dA (eEv e)] H nx K :=
  (c_impl_TlmStep c s e hb hcf hs).fresh rfl fun r hr => hr ▸ h
end
end Go.Proofs.YtiimjokpcbapeaaGreat
