/- Contracts: why something may not happen. -/
import Derived.Test.YtiimjokpcbapeaaGreatTe
import Derived.Test.YtiimjokpcbapeaaGreatMA
set_option linter.unusedVariables false
set_option linter.unusedSimpArgs false
set_option linter.unusedSectionVars false
namespace Go.Proofs.YtiimjokpcbapeaaGreat
open Go Go.AM
set_option maxRecDepth 100000
set_option maxHeartbeats 4000000
section
variable {H : Heap} {nx : Nat} {K : D → Heap → Nat → Prop}

theorem c_impl_BusCfg_why (c : Cfg) (s : TSt) (e : Ev) (hc : CfgFit c) (hp : c.progs.length = 3) (hs : StFit c s) : ACall Tryz.prog n_impl_BusCfg_why [dA (eCfg c), dA (eSt s), dA (eEv e)] .nil 0 fun rr _ _ => rr.plain = true ∧ rr = dI (whyM c s e) := by
  refine en_impl_BusCfg_why rfl fun Q hQ => ?_
  unfold ac_impl_BusCfg_why
  have hl := hs.asked
  by_cases hok : asksP c e.who e.n
  · have hb := hok.1
    repeat' (first | (with_reducible first | (refine hK _ _ _ ?_; clear hK K) | (refine hA ?_; clear hA hB A B) | (refine hB ?_; clear hA hB A B) | refine Z1 ?_ | refine Z2 ?_ | refine Z3 fun KB hKB => ?_ | refine Z4 (by omega) ?_ | refine Z6 (fun h => ?_) fun h => ?_) | (first | (with_reducible first | refine Y2 fun K hK => ?_ | refine Y3 fun A B hA hB => ?_ | refine Y6 (fun h => ?_) fun h => ?_) | (with_reducible refine a_impl_BusCfg_asks hc hp ?_) | (with_reducible refine a_impl_in ?_) | (refine a_impl_jobAt (l := s.wait) (Nat.lt_trans hs.waitL (by decide)) (cvD_im rfl) ?_) | (refine a_impl_jobAt (l := s.done) (Nat.lt_trans hs.doneL (by decide)) (cvD_im rfl) ?_) | (refine a_impl_BusCfg_ahead (l := s.wait) (Nat.lt_trans hs.waitL (by decide)) hp hok (fun j hj _ _ => hs.wait j hj) (cvD_im rfl) ?_) | (refine a_impl_BusCfg_ahead (l := s.done) (Nat.lt_trans hs.doneL (by decide)) hp hok (fun j hj _ _ => hs.done j hj) (cvD_im rfl) ?_)) <;> (simp only [go_sem]) | ((with_reducible refine Y8 ?_); try simp only [AQ.then, AQ.blk, reduceIte, Nat.reduceEqDiff]) | ((with_reducible refine Y0 ?_); simp only [AQ.then, AQ.blk]) | refine ⟨by omega, ?_⟩ | (with_reducible first | refine hKB _ _ _ ?_ | (clear hKB KB; refine hKB _ _ _ ?_)) | fail)
    all_goals
      refine exitP hQ _ rfl rfl (dI_e ?_)
      unfold whyM
      grind
  · repeat' (first | (with_reducible first | (refine hK _ _ _ ?_; clear hK K) | (refine hA ?_; clear hA hB A B) | refine Z1 ?_) | (first | (with_reducible first | refine Y2 fun K hK => ?_ | refine Y3 fun A B hA hB => ?_ | refine Y4 (by omega) ?_) | (with_reducible refine a_impl_BusCfg_asks hc hp ?_)) <;> (simp only [go_sem]) | ((with_reducible refine Y8 ?_); try simp only [AQ.then, AQ.blk, reduceIte, Nat.reduceEqDiff]) | fail)
    all_goals
      refine exitP hQ _ rfl rfl (dI_e ?_)
      unfold whyM
      grind
theorem a_impl_BusCfg_why {c : Cfg} {s : TSt} {e : Ev} (hc : CfgFit c) (hp : c.progs.length = 3) (hs : StFit c s) {d1 : D} (hd1 : CvD H (fun _ => True) id 0 (dA (eSt s)) d1) (h : K (dI (whyM c s e)) H nx) : ACall Tryz.prog n_impl_BusCfg_why [dA (eCfg c), d1, dA (eEv e)] H nx K :=
  (c_impl_BusCfg_why c s e hc hp hs).pure rfl (lentL_args ⟨cvD_im rfl, hd1, cvD_im rfl, trivial⟩) (fun r hr => hr ▸ h)
end
end Go.Proofs.YtiimjokpcbapeaaGreat
