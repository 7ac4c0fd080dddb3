/- Contracts: whether what is asked is ok, and a bus. -/
import Derived.Test.YtiimjokpcbapeaaGreatTc
set_option linter.unusedVariables false
set_option linter.unusedSimpArgs false
set_option linter.unusedSectionVars false
namespace Go.Proofs.YtiimjokpcbapeaaGreat
open Go Go.AM
set_option maxRecDepth 100000
set_option maxHeartbeats 4000000
section
variable {H : Heap} {nx : Nat} {K : D → Heap → Nat → Prop}

theorem c_impl_MemOk (l : List Int) (hl : l.length < 2 ^ 40) : ACall Tryz.prog n_impl_MemOk [dA [.isl (l.map eInt)]] .nil 0 fun rr _ _ => rr.plain = true ∧ rr = dB (decide ((l.length : Int) = 64 ∧ All l 0 65535)) := by
  refine en_impl_MemOk rfl fun Q hQ => ?_
  unfold ac_impl_MemOk
  repeat' (first | (with_reducible first | (refine hK _ _ _ ?_; clear hK K) | refine Z1 ?_) | (first | (with_reducible first | refine Y2 fun K hK => ?_ | refine Y6 (fun h => ?_) fun h => ?_) | (refine a_impl_areWords hl (cvD_im rfl) ?_)) <;> (simp only [go_sem]) | ((with_reducible refine Y8 ?_); try simp only [AQ.then, AQ.blk, reduceIte, Nat.reduceEqDiff]) | fail)
  all_goals first | with_reducible refine exitP hQ _ rfl rfl ?_ | skip
  all_goals first | exact dB_f (by grind) | exact dB_e (by grind)
theorem a_impl_MemOk {l : List Int} (hl : l.length < 2 ^ 40) {d0 : D} (hd0 : CvD H (fun _ => True) id 0 (dA [.isl (l.map eInt)]) d0) (h : K (dB (decide ((l.length : Int) = 64 ∧ All l 0 65535))) H nx) : ACall Tryz.prog n_impl_MemOk [d0] H nx K :=
  (c_impl_MemOk l hl).pure rfl (lentL_args ⟨hd0, trivial⟩) (fun r hr => hr ▸ h)
theorem c_impl_AtmOk (w u : List Int) (hw : w.length < 2 ^ 40) (hu : u.length < 2 ^ 40) : ACall Tryz.prog n_impl_AtmOk [dA [.isl (w.map eInt), .isl (u.map eInt)]] .nil 0 fun rr _ _ => rr.plain = true ∧ rr = dB (decide (AtmOkP w u)) := by
  refine en_impl_AtmOk rfl fun Q hQ => ?_
  unfold ac_impl_AtmOk
  repeat' (first | (with_reducible first | (refine hK _ _ _ ?_; clear hK K) | refine Z1 ?_) | (first | (with_reducible first | refine Y2 fun K hK => ?_ | refine Y6 (fun h => ?_) fun h => ?_) | (refine a_impl_MemOk hw (cvD_im rfl) ?_) | (refine a_slices_ContainsFunc_Zint_int (l := u) (caps := []) (p := fun x => decide (¬ (-1 ≤ x ∧ x ≤ 63))) hu rfl (cvD_im rfl) (cvD_cloI rfl) (fun x _ H nx K h => a_impl_AtmOk_1 h) ?_)) <;> (simp only [go_sem]) | ((with_reducible refine Y8 ?_); try simp only [AQ.then, AQ.blk, reduceIte, Nat.reduceEqDiff]) | fail)
  all_goals first | with_reducible refine exitP hQ _ rfl rfl ?_ | skip
  all_goals first | exact dB_f (by unfold AtmOkP; rw [all_idx (lo := -1)]; grind) | exact dB_e (by unfold AtmOkP; rw [all_idx (lo := -1)]; grind)
theorem a_impl_AtmOk {w : List Int} {u : List Int} (hw : w.length < 2 ^ 40) (hu : u.length < 2 ^ 40) {d0 : D} (hd0 : CvD H (fun _ => True) id 0 (dA [.isl (w.map eInt), .isl (u.map eInt)]) d0) (h : K (dB (decide (AtmOkP w u))) H nx) : ACall Tryz.prog n_impl_AtmOk [d0] H nx K :=
  (c_impl_AtmOk w u hw hu).pure rfl (lentL_args ⟨hd0, trivial⟩) (fun r hr => hr ▸ h)
theorem c_impl_ReqOk (q : Req) (hd : q.data.length < 2 ^ 40) (hl : q.lanes.length < 2 ^ 40) : ACall Tryz.prog n_impl_ReqOk [dA (eReq q)] .nil 0 fun rr _ _ => rr.plain = true ∧ rr = dB (decide (ReqOkP q)) := by
  refine en_impl_ReqOk rfl fun Q hQ => ?_
  unfold ac_impl_ReqOk
  repeat' (first | (with_reducible first | (refine hK _ _ _ ?_; clear hK K) | (refine hA ?_; clear hA hB A B) | (refine hB ?_; clear hA hB A B) | refine Z1 ?_ | refine Z2 ?_) | (first | (with_reducible first | refine Y2 fun K hK => ?_ | refine Y3 fun A B hA hB => ?_ | refine Y6 (fun h => ?_) fun h => ?_) | (with_reducible refine a_impl_in ?_) | (with_reducible refine a_impl_ReqReq_writes ?_) | (with_reducible refine a_impl_AdrOk ?_) | (refine a_impl_areWords hd (cvD_im rfl) ?_) | (refine a_slices_ContainsFunc_Zint_int (l := q.lanes) (caps := []) (p := fun x => decide (¬ (0 ≤ x ∧ x ≤ 3))) hl rfl (cvD_im rfl) (cvD_cloI rfl) (fun x _ H nx K h => a_impl_ReqOk_1 h) ?_)) <;> (simp only [go_sem]) | ((with_reducible refine Y8 ?_); try simp only [AQ.then, AQ.blk, reduceIte, Nat.reduceEqDiff]) | ((with_reducible refine Z8 (fun h => ?_) (fun h => ?_)) <;> try subst h) | fail)
  all_goals first | with_reducible refine exitP hQ _ rfl rfl ?_ | skip
  all_goals
    have e := @all_idx q.lanes 0 3
    have e2 : wrM q = true ↔ (q.kind = 2 ∨ q.kind = 4) := by simp [wrM]
    clear hQ
    first | exact dB_f (by unfold ReqOkP manyOf; grind) | exact dB_t (by unfold ReqOkP manyOf; grind) | exact dB_e (by unfold ReqOkP manyOf; grind)
theorem a_impl_ReqOk {q : Req} (hd : q.data.length < 2 ^ 40) (hl : q.lanes.length < 2 ^ 40)  (h : K (dB (decide (ReqOkP q))) H nx) : ACall Tryz.prog n_impl_ReqOk [dA (eReq q)] H nx K :=
  (c_impl_ReqOk q hd hl).pure rfl (lentL_args ⟨cvD_im rfl, trivial⟩) (fun r hr => hr ▸ h)
theorem c_impl_BusOk_2_1 (q : Req) (hd : q.data.length < 2 ^ 40) (hl : q.lanes.length < 2 ^ 40) : ACall Tryz.prog n_impl_BusOk_2_1 [dA (eReq q)] .nil 0 fun rr _ _ => rr.plain = true ∧ rr = dB (decide (¬ ReqOkP q)) := by
  refine en_impl_BusOk_2_1 rfl fun Q hQ => ?_
  unfold ac_impl_BusOk_2_1
  repeat' (first | (with_reducible first | (refine hK _ _ _ ?_; clear hK K) | refine Z1 ?_) | (first | (with_reducible refine Y2 fun K hK => ?_) | (with_reducible refine a_impl_ReqOk hd hl ?_)) <;> (simp only [go_sem]) | ((with_reducible refine Y8 ?_); try simp only [AQ.then, AQ.blk, reduceIte, Nat.reduceEqDiff]) | fail)
  all_goals first | with_reducible refine exitP hQ _ rfl rfl ?_ | skip
  all_goals first | exact dB_e (by omega) | exact dB_t (by omega) | exact dB_f (by omega) | rfl
theorem a_impl_BusOk_2_1 {q : Req} (hd : q.data.length < 2 ^ 40) (hl : q.lanes.length < 2 ^ 40)  (h : K (dB (decide (¬ ReqOkP q))) H nx) : ACall Tryz.prog n_impl_BusOk_2_1 [dA (eReq q)] H nx K :=
  (c_impl_BusOk_2_1 q hd hl).pure rfl (lentL_args ⟨cvD_im rfl, trivial⟩) (fun r hr => hr ▸ h)
theorem c_impl_BusOk_2 (p : Prog) (hp : p.length < 2 ^ 40) (hq : ∀ q ∈ p, q.data.length < 2 ^ 40 ∧ q.lanes.length < 2 ^ 40) : ACall Tryz.prog n_impl_BusOk_2 [dS (p.map eReq)] .nil 0 fun rr _ _ => rr.plain = true ∧ rr = dB (decide (¬ ProgOkP p)) := by
  refine en_impl_BusOk_2 rfl fun Q hQ => ?_
  unfold ac_impl_BusOk_2
  repeat' (first | (with_reducible first | (refine hK _ _ _ ?_; clear hK K) | refine Z1 ?_) | (first | (with_reducible first | refine Y2 fun K hK => ?_ | refine Y6 (fun h => ?_) fun h => ?_) | (refine a_slices_ContainsFunc_ZReqReq_ReqReq (l := p) (caps := []) (p := fun q => decide (¬ ReqOkP q)) hp rfl (cvD_im rfl) (cvD_cloI rfl) (fun x hx H nx K h => a_impl_BusOk_2_1 (hq x hx).1 (hq x hx).2 h) ?_)) <;> (simp only [go_sem]) | ((with_reducible refine Y8 ?_); try simp only [AQ.then, AQ.blk, reduceIte, Nat.reduceEqDiff]) | fail)
  all_goals first | with_reducible refine exitP hQ _ rfl rfl ?_ | skip
  all_goals first | exact dB_t (by unfold ProgOkP; grind) | exact dB_f (by unfold ProgOkP; grind) | exact dB_e (by unfold ProgOkP; grind)
theorem a_impl_BusOk_2 {p : Prog} (hp : p.length < 2 ^ 40) (hq : ∀ q ∈ p, q.data.length < 2 ^ 40 ∧ q.lanes.length < 2 ^ 40)  (h : K (dB (decide (¬ ProgOkP p))) H nx) : ACall Tryz.prog n_impl_BusOk_2 [dS (p.map eReq)] H nx K :=
  (c_impl_BusOk_2 p hp hq).pure rfl (lentL_args ⟨cvD_im rfl, trivial⟩) (fun r hr => hr ▸ h)
theorem c_impl_BusOk (c : Cfg) (hc : CfgFit c) : ACall Tryz.prog n_impl_BusOk [dA (eCfg c)] .nil 0 fun rr _ _ => rr.plain = true ∧ rr = dB (decide (BusOkP c)) := by
  refine en_impl_BusOk rfl fun Q hQ => ?_
  unfold ac_impl_BusOk
  repeat' (first | (with_reducible first | (refine hK _ _ _ ?_; clear hK K) | refine Z1 ?_) | (first | (with_reducible first | refine Y2 fun K hK => ?_ | refine Y6 (fun h => ?_) fun h => ?_) | (with_reducible refine a_impl_MapOk hc.map ?_) | (refine a_slices_ContainsFunc_Zint_int (l := c.lat) (caps := []) (p := fun x => decide (¬ (0 ≤ x ∧ x ≤ 3))) hc.lat rfl (cvD_im rfl) (cvD_cloI rfl) (fun x _ H nx K h => a_impl_BusOk_1 h) ?_) | (refine a_slices_ContainsFunc_ZZReqReq_ZReqReq (l := c.progs) (caps := []) (p := fun q => decide (¬ ProgOkP q)) hc.progs rfl (cvD_im rfl) (cvD_cloI rfl) (fun x hx H nx K h => a_impl_BusOk_2 (hc.prog x hx) (hc.req x hx) h) ?_)) <;> (simp only [go_sem]) | ((with_reducible refine Y8 ?_); try simp only [AQ.then, AQ.blk, reduceIte, Nat.reduceEqDiff]) | fail)
  all_goals first | with_reducible refine exitP hQ _ rfl rfl ?_ | skip
  all_goals
    have e := @all_idx c.lat 0 3
    first | exact dB_t (by unfold BusOkP; grind) | exact dB_f (by unfold BusOkP; grind) | exact dB_e (by unfold BusOkP; grind)
theorem a_impl_BusOk {c : Cfg} (hc : CfgFit c)  (h : K (dB (decide (BusOkP c))) H nx) : ACall Tryz.prog n_impl_BusOk [dA (eCfg c)] H nx K :=
  (c_impl_BusOk c hc).pure rfl (lentL_args ⟨cvD_im rfl, trivial⟩) (fun r hr => hr ▸ h)
end
end Go.Proofs.YtiimjokpcbapeaaGreat
