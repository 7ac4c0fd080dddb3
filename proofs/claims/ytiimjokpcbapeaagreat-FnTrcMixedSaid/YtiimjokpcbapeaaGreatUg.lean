/- Contracts: what is apart, of the program; whether buses stand the same, of the laws. -/
import Derived.Test.YtiimjokpcbapeaaGreatAcLTrcApart
import Derived.Test.YtiimjokpcbapeaaGreatAcLcrTlm
import Derived.Test.YtiimjokpcbapeaaGreatUe
import Derived.Test.YtiimjokpcbapeaaGreatTx
import Derived.Test.YtiimjokpcbapeaaGreatMzc
set_option linter.unusedVariables false
set_option linter.unusedSimpArgs false
set_option linter.unusedSectionVars false
namespace Go.Proofs.YtiimjokpcbapeaaGreat
open Go Go.AM
set_option maxRecDepth 100000
set_option maxHeartbeats 8000000
section
variable {H : Heap} {nx : Nat} {K : D → Heap → Nat → Prop}
theorem c_impl_BusCfg_kind (c : Cfg) (e : Ev) (hc : CfgFit c) (hp : c.progs.length = 3) : ACall Tryz.prog n_impl_BusCfg_kind [dA (eCfg c), dA (eEv e)] .nil 0 fun rr _ _ => rr.plain = true ∧ rr = dB (decide ((1 ≤ e.kind ∧ e.kind ≤ 3) ∧ asksP c e.who e.n)) := by
  refine en_impl_BusCfg_kind rfl fun Q hQ => ?_
  unfold ac_impl_BusCfg_kind
  repeat' (first | (with_reducible first | (refine hK _ _ _ ?_; clear hK K) | refine Z1 ?_) | (first | (with_reducible first | refine Y2 fun K hK => ?_ | refine Y6 (fun h => ?_) fun h => ?_) | (with_reducible refine a_impl_in ?_) | (with_reducible refine a_impl_BusCfg_asks hc hp ?_)) <;> (simp only [go_sem]) | ((with_reducible refine Y8 ?_); try simp only [AQ.then, AQ.blk, reduceIte, Nat.reduceEqDiff]) | fail)
  all_goals first | with_reducible refine exitP hQ _ rfl rfl ?_ | skip
  all_goals first | exact dB_f (by grind) | exact dB_e (by grind) | exact dB_t (by grind)
theorem a_impl_BusCfg_kind {c : Cfg} {e : Ev} (hc : CfgFit c) (hp : c.progs.length = 3)  (h : K (dB (decide ((1 ≤ e.kind ∧ e.kind ≤ 3) ∧ asksP c e.who e.n))) H nx) : ACall Tryz.prog n_impl_BusCfg_kind [dA (eCfg c), dA (eEv e)] H nx K :=
  (c_impl_BusCfg_kind c e hc hp).pure rfl (lentL_args ⟨cvD_im rfl, cvD_im rfl, trivial⟩) (fun r hr => hr ▸ h)
theorem c_impl_BusCfg_apart_1 (x : Int) (all : List Int) (hl : all.length < 2 ^ 20) : ACall Tryz.prog n_impl_BusCfg_apart_1 [dI x, .one (.c (.iptr [.isl (all.map eInt)]))] .nil 0 fun rr _ _ => rr.plain = true ∧ rr = dB (decide (x ∈ all)) := by
  refine en_impl_BusCfg_apart_1 rfl fun Q hQ => ?_
  unfold ac_impl_BusCfg_apart_1
  repeat' (first | (with_reducible first | (refine hK _ _ _ ?_; clear hK K) | refine Z1 ?_) | (first | (with_reducible refine Y2 fun K hK => ?_) | (refine a_slices_Contains_Zint_int (by omega) (cvD_im rfl) ?_)) <;> (simp only [go_sem]) | ((with_reducible refine Y8 ?_); try simp only [AQ.then, AQ.blk, reduceIte, Nat.reduceEqDiff]) | fail)
  all_goals first | with_reducible refine exitP hQ _ rfl rfl ?_ | skip
  all_goals first | exact dB_e (by omega) | exact dB_t (by omega) | exact dB_f (by omega) | rfl
theorem a_impl_BusCfg_apart_1 {x : Int} {all : List Int} (hl : all.length < 2 ^ 20)  (h : K (dB (decide (x ∈ all))) H nx) : ACall Tryz.prog n_impl_BusCfg_apart_1 [dI x, .one (.c (.iptr [.isl (all.map eInt)]))] H nx K :=
  (c_impl_BusCfg_apart_1 x all hl).pure rfl (lentL_args ⟨cvD_im rfl, cvD_im rfl, trivial⟩) (fun r hr => hr ▸ h)
theorem c_impl_BusCfg_apart (c : Cfg) (a b : Ev) (hb : BusOkP c) (hc : CfgFit c) (ha : asksP c a.who a.n) (hbb : asksP c b.who b.n) : ACall Tryz.prog n_impl_BusCfg_apart [dA (eCfg c), dA (eEv a), dA (eEv b)] .nil 0 fun rr _ _ => rr.plain = true ∧ rr = dB (decide (apartE c a b)) := by
  refine en_impl_BusCfg_apart rfl fun Q hQ => ?_
  unfold ac_impl_BusCfg_apart
  obtain ⟨hp3, hp12⟩ := busOk_prog hb
  have hba := hp12 a.who.toNat
  have hb2 := hp12 b.who.toNat
  obtain ⟨ha1, ha2⟩ := ha
  obtain ⟨hb1, hb3⟩ := hbb
  have hla := burstM_le (addr := (reqAt c a.who a.n).addr) (many := (reqAt c a.who a.n).many) (wrap := (reqAt c a.who a.n).wrap)
  have hlb := burstM_le (addr := (reqAt c b.who b.n).addr) (many := (reqAt c b.who b.n).many) (wrap := (reqAt c b.who b.n).wrap)
  by_cases h1 : a.who = b.who ∨ (a.kind = 3 ∧ b.kind = 3)
  · repeat' (first | (with_reducible first | (refine hK _ _ _ ?_; clear hK K) | (refine hA ?_; clear hA hB A B) | refine Z1 ?_ | refine Z4 (by omega) ?_) | (with_reducible first | refine Y2 fun K hK => ?_ | refine Y3 fun A B hA hB => ?_ | refine Y4 (by omega) ?_ | refine Y6 (fun h => ?_) fun h => ?_) <;> (simp only [go_sem]) | ((with_reducible refine Y8 ?_); try simp only [AQ.then, AQ.blk, reduceIte, Nat.reduceEqDiff]) | fail)
    all_goals exact exitP hQ _ rfl rfl (dB_f fun hap => h1.elim hap.1 hap.2.1)
  · by_cases h2 : a.kind = 2 ∧ b.kind = 2
    · have hcf := fun {H : Heap} {nx : Nat} {K : D → Heap → Nat → Prop} {d : D} {caps : List D1} => a_slices_ContainsFunc_Zint_int (H := H) (nx := nx) (K := K) (d := d) (f := n_impl_BusCfg_apart_1) (caps0 := caps) (l := allQ (reqAt c a.who a.n)) (caps := [.iptr [.isl ((allQ (reqAt c b.who b.n)).map eInt)]]) (p := fun x => decide (x ∈ allQ (reqAt c b.who b.n))) (by unfold allQ; omega) rfl
      repeat' (first | (with_reducible first | (refine hK _ _ _ ?_; clear hK K) | (refine hB ?_; clear hA hB A B) | refine Z1 ?_ | refine Z2 ?_ | refine Z5 (by omega) ?_) | (first | (with_reducible first | refine Y2 fun K hK => ?_ | refine Y3 fun A B hA hB => ?_ | refine Y5 (by omega) ?_) | (with_reducible refine a_impl_ReqReq_burst ?_) | (refine hcf (cvD_im rfl) (cvD_clo ⟨frz_ptr rfl trivial rfl rfl rfl, trivial⟩) (fun x _ H nx K h => a_impl_BusCfg_apart_1 (by unfold allQ; omega) h) ?_)) <;> (simp only [go_sem]) | ((with_reducible refine Y8 ?_); try simp only [AQ.then, AQ.blk, reduceIte, Nat.reduceEqDiff]) | refine ⟨by omega, ?_⟩ | fail)
      refine exitP hQ (dB (decide (¬ 0 ≤ idxM (fun x => decide (x ∈ allQ (reqAt c b.who b.n))) (allQ (reqAt c a.who a.n))))) rfl rfl (dB_e ?_)
      rw [idxM_nonneg]
      constructor
      · intro h
        exact ⟨fun he => h1 (.inl he), fun he => h1 (.inr he), fun _ _ x hx hy => h ⟨x, hx, decide_eq_true hy⟩⟩
      · rintro ⟨_, _, h3⟩ ⟨x, hx, hy⟩
        exact h3 h2.1 h2.2 x hx (of_decide_eq_true hy)
    · repeat' (first | (with_reducible first | (refine hK _ _ _ ?_; clear hK K) | (refine hA ?_; clear hA hB A B) | (refine hB ?_; clear hA hB A B) | refine Z1 ?_ | refine Z2 ?_ | refine Z4 (by omega) ?_ | refine Z5 (by omega) ?_) | (with_reducible first | refine Y2 fun K hK => ?_ | refine Y3 fun A B hA hB => ?_ | refine Y4 (by omega) ?_ | refine Y5 (by omega) ?_ | refine Y6 (fun h => ?_) fun h => ?_) <;> (simp only [go_sem]) | ((with_reducible refine Y8 ?_); try simp only [AQ.then, AQ.blk, reduceIte, Nat.reduceEqDiff]) | fail)
      all_goals exact exitP hQ _ rfl rfl (dB_t ⟨fun he => h1 (.inl he), fun he => h1 (.inr he), fun e1 e2 => absurd ⟨e1, e2⟩ h2⟩)
theorem a_impl_BusCfg_apart {c : Cfg} {a : Ev} {b : Ev} (hb : BusOkP c) (hc : CfgFit c) (ha : asksP c a.who a.n) (hbb : asksP c b.who b.n)  (h : K (dB (decide (apartE c a b))) H nx) : ACall Tryz.prog n_impl_BusCfg_apart [dA (eCfg c), dA (eEv a), dA (eEv b)] H nx K :=
  (c_impl_BusCfg_apart c a b hb hc ha hbb).pure rfl (lentL_args ⟨cvD_im rfl, cvD_im rfl, cvD_im rfl, trivial⟩) (fun r hr => hr ▸ h)
theorem c_impl_TrcApart (c : Cfg) (a b : Ev) (hb : BusOkP c) (hc : CfgFit c) (ha : asksP c a.who a.n) (hbb : asksP c b.who b.n) (hka : 1 ≤ a.kind ∧ a.kind ≤ 3) (hkb : 1 ≤ b.kind ∧ b.kind ≤ 3) : ACall Tryz.prog n_impl_TrcApart [dA (eCfg c), dA (eEv a), dA (eEv b)] .nil 0 fun rr _ _ => rr.plain = true ∧ rr = dB (decide (apartE c a b)) := by
  refine en_impl_TrcApart rfl fun Q hQ => ?_
  unfold ac_impl_TrcApart
  obtain ⟨hp3, hp12⟩ := busOk_prog hb
  repeat' (first | (with_reducible first | (refine hK _ _ _ ?_; clear hK K) | refine Z1 ?_) | (first | (with_reducible refine Y2 fun K hK => ?_) | (refine a_impl_BusOk hc ?_) | (refine a_impl_BusCfg_kind (e := a) hc hp3 ?_) | (refine a_impl_BusCfg_kind (e := b) hc hp3 ?_) | (refine a_impl_BusCfg_apart hb hc ha hbb ?_)) <;> (simp only [go_sem, eq_true hb, eq_true (And.intro hka ha), eq_true (And.intro hkb hbb)]) | ((with_reducible refine Y8 ?_); try simp only [AQ.then, AQ.blk, reduceIte, Nat.reduceEqDiff]) | fail)
  all_goals exact exitP hQ _ rfl rfl rfl
theorem a_impl_TrcApart {c : Cfg} {a : Ev} {b : Ev} (hb : BusOkP c) (hc : CfgFit c) (ha : asksP c a.who a.n) (hbb : asksP c b.who b.n) (hka : 1 ≤ a.kind ∧ a.kind ≤ 3) (hkb : 1 ≤ b.kind ∧ b.kind ≤ 3)  (h : K (dB (decide (apartE c a b))) H nx) : ACall Tryz.prog n_impl_TrcApart [dA (eCfg c), dA (eEv a), dA (eEv b)] H nx K :=
  (c_impl_TrcApart c a b hb hc ha hbb hka hkb).pure rfl (lentL_args ⟨cvD_im rfl, cvD_im rfl, cvD_im rfl, trivial⟩) (fun r hr => hr ▸ h)
theorem c_laws_crTlm (s : TSt) (hw : s.words.length < 2 ^ 40) (hh : s.holds.length < 2 ^ 40) (ha : s.asked.length < 2 ^ 40) (h1 : s.wait.length < 2 ^ 40) (h2 : s.done.length < 2 ^ 40) (h3 : s.told.length < 2 ^ 40) (hd : ∀ j ∈ s.wait ++ s.done ++ s.told, j.rsp.data.length < 2 ^ 40) : ACall Tryz.prog n_laws_crTlm [dA (eSt s), dA (eSt s)] .nil 0 fun rr _ _ => rr.plain = true ∧ rr = dB true := by
  refine en_laws_crTlm rfl fun Q hQ => ?_
  unfold ac_laws_crTlm
  have hd1 := fun j (hj : j ∈ s.wait) => hd j (by simp [hj])
  have hd2 := fun j (hj : j ∈ s.done) => hd j (by simp [hj])
  have hd3 := fun j (hj : j ∈ s.told) => hd j (by simp [hj])
  repeat' (first | (with_reducible first | (refine hK _ _ _ ?_; clear hK K) | refine Z1 ?_) | (first | (with_reducible refine Y2 fun K hK => ?_) | (refine a_laws_crAtm (a := s.words) (b := s.holds) (u := s.words) (v := s.holds) hw hh hw hh ?_) | (refine a_laws_crInts ha ha ?_) | (refine a_laws_crJobs h1 h1 hd1 hd1 ?_) | (refine a_laws_crJobs h2 h2 hd2 hd2 ?_) | (refine a_laws_crJobs h3 h3 hd3 hd3 ?_)) <;> (simp only [go_sem]) | ((with_reducible refine Y8 ?_); try simp only [AQ.then, AQ.blk, reduceIte, Nat.reduceEqDiff]) | fail)
  all_goals exact exitP hQ _ rfl rfl rfl
theorem a_laws_crTlm {s : TSt} (hw : s.words.length < 2 ^ 40) (hh : s.holds.length < 2 ^ 40) (ha : s.asked.length < 2 ^ 40) (h1 : s.wait.length < 2 ^ 40) (h2 : s.done.length < 2 ^ 40) (h3 : s.told.length < 2 ^ 40) (hd : ∀ j ∈ s.wait ++ s.done ++ s.told, j.rsp.data.length < 2 ^ 40)  (h : K (dB true) H nx) : ACall Tryz.prog n_laws_crTlm [dA (eSt s), dA (eSt s)] H nx K :=
  (c_laws_crTlm s hw hh ha h1 h2 h3 hd).pure rfl (lentL_args ⟨cvD_im rfl, cvD_im rfl, trivial⟩) (fun r hr => hr ▸ h)
end
end Go.Proofs.YtiimjokpcbapeaaGreat
