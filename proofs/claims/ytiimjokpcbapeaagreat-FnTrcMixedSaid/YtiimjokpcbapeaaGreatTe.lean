/- Contracts: why something may not happen. -/
import Derived.Test.YtiimjokpcbapeaaGreatTd
set_option linter.unusedVariables false
set_option linter.unusedSimpArgs false
set_option linter.unusedSectionVars false
namespace Go.Proofs.YtiimjokpcbapeaaGreat
open Go Go.AM
set_option maxRecDepth 100000
set_option maxHeartbeats 4000000
section
variable {H : Heap} {nx : Nat} {K : D → Heap → Nat → Prop}

theorem c_impl_BusCfg_asks (c : Cfg) (who n : Int) (hc : CfgFit c) (hp : c.progs.length = 3) : ACall Tryz.prog n_impl_BusCfg_asks [dA (eCfg c), dI who, dI n] .nil 0 fun rr _ _ => rr.plain = true ∧ rr = dB (decide (asksP c who n)) := by
  refine en_impl_BusCfg_asks rfl fun Q hQ => ?_
  unfold ac_impl_BusCfg_asks
  have hb := hc.at who.toNat
  repeat' (first | (with_reducible first | (refine hK _ _ _ ?_; clear hK K) | refine Z1 ?_) | (first | (with_reducible first | refine Y2 fun K hK => ?_ | refine Y6 (fun h => ?_) fun h => ?_) | (with_reducible refine a_impl_isMaster ?_) | (with_reducible refine a_impl_in ?_)) <;> (simp only [go_sem]; try simp (disch := omega) only [Iw]) | ((with_reducible refine Y8 ?_); try simp only [AQ.then, AQ.blk, reduceIte, Nat.reduceEqDiff]) | refine ⟨by omega, ?_⟩ | fail)
  all_goals first | with_reducible refine exitP hQ _ rfl rfl ?_ | skip
  all_goals first | exact dB_e (by unfold asksP; omega) | exact dB_f (by unfold asksP; omega)
theorem a_impl_BusCfg_asks {c : Cfg} {who : Int} {n : Int} (hc : CfgFit c) (hp : c.progs.length = 3)  (h : K (dB (decide (asksP c who n))) H nx) : ACall Tryz.prog n_impl_BusCfg_asks [dA (eCfg c), dI who, dI n] H nx K :=
  (c_impl_BusCfg_asks c who n hc hp).pure rfl (lentL_args ⟨cvD_im rfl, cvD_im rfl, cvD_im rfl, trivial⟩) (fun r hr => hr ▸ h)
theorem c_impl_BusCfg_id (c : Cfg) (who n : Int) (hp : c.progs.length = 3) (ha : asksP c who n) : ACall Tryz.prog n_impl_BusCfg_id [dA (eCfg c), dI who, dI n] .nil 0 fun rr _ _ => rr.plain = true ∧ rr = dI (reqAt c who n).id := by
  refine en_impl_BusCfg_id rfl fun Q hQ => ?_
  unfold ac_impl_BusCfg_id
  obtain ⟨ha1, ha2, ha3⟩ := ha
  repeat' (first | (with_reducible first | (refine hK _ _ _ ?_; clear hK K) | refine Z1 ?_) | (with_reducible refine Y2 fun K hK => ?_) <;> (simp only [go_sem]) | ((with_reducible refine Y8 ?_); try simp only [AQ.then, AQ.blk, reduceIte, Nat.reduceEqDiff]) | refine ⟨by omega, ?_⟩ | fail)
  all_goals first | with_reducible refine exitP hQ _ rfl rfl ?_ | skip
  all_goals first | rfl | exact dI_e (by omega)
theorem a_impl_BusCfg_id {c : Cfg} {who : Int} {n : Int} (hp : c.progs.length = 3) (ha : asksP c who n)  (h : K (dI (reqAt c who n).id) H nx) : ACall Tryz.prog n_impl_BusCfg_id [dA (eCfg c), dI who, dI n] H nx K :=
  (c_impl_BusCfg_id c who n hp ha).pure rfl (lentL_args ⟨cvD_im rfl, cvD_im rfl, cvD_im rfl, trivial⟩) (fun r hr => hr ▸ h)
theorem c_impl_jobAt_1 (j : Job) (who n : Int) : ACall Tryz.prog n_impl_jobAt_1 [dA (eJob j), .one (.c (.iptr [cI who])), .one (.c (.iptr [cI n]))] .nil 0 fun rr _ _ => rr.plain = true ∧ rr = dB (isJob who n j) := by
  refine en_impl_jobAt_1 rfl fun Q hQ => ?_
  unfold ac_impl_jobAt_1
  repeat' (first | (with_reducible first | (refine hK _ _ _ ?_; clear hK K) | refine Z1 ?_) | (with_reducible first | refine Y2 fun K hK => ?_ | refine Y6 (fun h => ?_) fun h => ?_) <;> (simp only [go_sem]) | ((with_reducible refine Y8 ?_); try simp only [AQ.then, AQ.blk, reduceIte, Nat.reduceEqDiff]) | fail)
  all_goals first | with_reducible refine exitP hQ _ rfl rfl ?_ | skip
  all_goals first | exact dB_t (by grind) | exact dB_f (by grind) | exact dB_e (by grind)
theorem a_impl_jobAt_1 {j : Job} {who : Int} {n : Int}   (h : K (dB (isJob who n j)) H nx) : ACall Tryz.prog n_impl_jobAt_1 [dA (eJob j), .one (.c (.iptr [cI who])), .one (.c (.iptr [cI n]))] H nx K :=
  (c_impl_jobAt_1 j who n).pure rfl (lentL_args ⟨cvD_im rfl, cvD_im rfl, cvD_im rfl, trivial⟩) (fun r hr => hr ▸ h)
theorem c_impl_jobAt (l : List Job) (who n : Int) (hl : l.length < 2 ^ 40) : ACall Tryz.prog n_impl_jobAt [dS (l.map eJob), dI who, dI n] .nil 0 fun rr _ _ => rr.plain = true ∧ rr = dI (idxM (isJob who n) l) := by
  refine en_impl_jobAt rfl fun Q hQ => ?_
  unfold ac_impl_jobAt
  repeat' (first | (with_reducible first | (refine hK _ _ _ ?_; clear hK K) | refine Z1 ?_) | (first | (with_reducible refine Y2 fun K hK => ?_) | (refine a_slices_IndexFunc_ZTlmJob_TlmJob (l := l) (caps := [.iptr [cI who], .iptr [cI n]]) (p := isJob who n) hl rfl (cvD_im rfl) (cvD_clo ⟨frz_ptr rfl trivial rfl rfl rfl, frz_ptr rfl trivial rfl rfl rfl, trivial⟩) (fun x _ H nx K h => a_impl_jobAt_1 h) ?_)) <;> (simp only [go_sem]) | ((with_reducible refine Y8 ?_); try simp only [AQ.then, AQ.blk, reduceIte, Nat.reduceEqDiff]) | fail)
  all_goals first | with_reducible refine exitP hQ _ rfl rfl ?_ | skip
  all_goals first | rfl | exact dI_e (by omega)
theorem a_impl_jobAt {l : List Job} {who : Int} {n : Int} (hl : l.length < 2 ^ 40) {d0 : D} (hd0 : CvD H (fun _ => True) id 0 (dS (l.map eJob)) d0) (h : K (dI (idxM (isJob who n) l)) H nx) : ACall Tryz.prog n_impl_jobAt [d0, dI who, dI n] H nx K :=
  (c_impl_jobAt l who n hl).pure rfl (lentL_args ⟨hd0, cvD_im rfl, cvD_im rfl, trivial⟩) (fun r hr => hr ▸ h)
theorem c_impl_BusCfg_ahead_1 (c : Cfg) (e : Ev) (j : Job) (hp : c.progs.length = 3) (ha : asksP c e.who e.n) (hj : j.who = e.who → j.n < e.n → asksP c j.who j.n) : ACall Tryz.prog n_impl_BusCfg_ahead_1 [dA (eJob j), .one (.c (.iptr (eEv e))), .one (.c (.iptr (eCfg c)))] .nil 0 fun rr _ _ => rr.plain = true ∧ rr = dB (aheadJ c e j) := by
  refine en_impl_BusCfg_ahead_1 rfl fun Q hQ => ?_
  unfold ac_impl_BusCfg_ahead_1
  repeat' (first | (with_reducible first | (refine hK _ _ _ ?_; clear hK K) | refine Z1 ?_) | (first | (with_reducible first | refine Y2 fun K hK => ?_ | refine Y6 (fun h => ?_) fun h => ?_) | (with_reducible refine a_impl_BusCfg_id hp ha ?_) | (with_reducible refine a_impl_BusCfg_id hp (hj (by omega) (by omega)) ?_)) <;> (simp only [go_sem]) | ((with_reducible refine Y8 ?_); try simp only [AQ.then, AQ.blk, reduceIte, Nat.reduceEqDiff]) | fail)
  all_goals first | with_reducible refine exitP hQ _ rfl rfl ?_ | skip
  all_goals first | exact dB_f (by grind) | exact dB_e (by grind)
theorem a_impl_BusCfg_ahead_1 {c : Cfg} {e : Ev} {j : Job} (hp : c.progs.length = 3) (ha : asksP c e.who e.n) (hj : j.who = e.who → j.n < e.n → asksP c j.who j.n)  (h : K (dB (aheadJ c e j)) H nx) : ACall Tryz.prog n_impl_BusCfg_ahead_1 [dA (eJob j), .one (.c (.iptr (eEv e))), .one (.c (.iptr (eCfg c)))] H nx K :=
  (c_impl_BusCfg_ahead_1 c e j hp ha hj).pure rfl (lentL_args ⟨cvD_im rfl, cvD_im rfl, cvD_im rfl, trivial⟩) (fun r hr => hr ▸ h)
theorem c_impl_BusCfg_ahead (c : Cfg) (e : Ev) (l : List Job) (hl : l.length < 2 ^ 40) (hp : c.progs.length = 3) (ha : asksP c e.who e.n) (hj : ∀ j ∈ l, j.who = e.who → j.n < e.n → asksP c j.who j.n) : ACall Tryz.prog n_impl_BusCfg_ahead [dA (eCfg c), dS (l.map eJob), dA (eEv e)] .nil 0 fun rr _ _ => rr.plain = true ∧ rr = dB (decide (0 ≤ idxM (aheadJ c e) l)) := by
  refine en_impl_BusCfg_ahead rfl fun Q hQ => ?_
  unfold ac_impl_BusCfg_ahead
  repeat' (first | (with_reducible first | (refine hK _ _ _ ?_; clear hK K) | refine Z1 ?_) | (first | (with_reducible refine Y2 fun K hK => ?_) | (refine a_slices_ContainsFunc_ZTlmJob_TlmJob (l := l) (caps := [.iptr (eEv e), .iptr (eCfg c)]) (p := aheadJ c e) hl rfl (cvD_im rfl) (cvD_clo ⟨frz_ptr rfl trivial rfl rfl rfl, frz_ptr rfl trivial rfl rfl rfl, trivial⟩) (fun x hx H nx K h => a_impl_BusCfg_ahead_1 hp ha (hj x hx) h) ?_)) <;> (simp only [go_sem]) | ((with_reducible refine Y8 ?_); try simp only [AQ.then, AQ.blk, reduceIte, Nat.reduceEqDiff]) | fail)
  all_goals first | with_reducible refine exitP hQ _ rfl rfl ?_ | skip
  all_goals first | exact dB_e (by omega) | exact dB_t (by omega) | exact dB_f (by omega) | rfl
theorem a_impl_BusCfg_ahead {c : Cfg} {e : Ev} {l : List Job} (hl : l.length < 2 ^ 40) (hp : c.progs.length = 3) (ha : asksP c e.who e.n) (hj : ∀ j ∈ l, j.who = e.who → j.n < e.n → asksP c j.who j.n) {d1 : D} (hd1 : CvD H (fun _ => True) id 0 (dS (l.map eJob)) d1) (h : K (dB (decide (0 ≤ idxM (aheadJ c e) l))) H nx) : ACall Tryz.prog n_impl_BusCfg_ahead [dA (eCfg c), d1, dA (eEv e)] H nx K :=
  (c_impl_BusCfg_ahead c e l hl hp ha hj).pure rfl (lentL_args ⟨cvD_im rfl, hd1, cvD_im rfl, trivial⟩) (fun r hr => hr ▸ h)
end
end Go.Proofs.YtiimjokpcbapeaaGreat
