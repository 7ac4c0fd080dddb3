/- Contracts: a bus at its beginning is ok. -/
import Derived.Test.YtiimjokpcbapeaaGreatTv
import Derived.Test.YtiimjokpcbapeaaGreatTw
set_option linter.unusedVariables false
set_option linter.unusedSimpArgs false
set_option linter.unusedSectionVars false
namespace Go.AM
abbrev JobsL := List Job
def eJobs (l : JobsL) : List D1 := [.isl (l.map eJob)]
theorem eJobs_len {l : JobsL} : (eJobs l).length = 1 := rfl
theorem eJobs_take1 {l : JobsL} : (eJobs l).take 1 = [.isl (l.map eJob)] := rfl
theorem eJobs_drop1 {l : JobsL} : (eJobs l).drop 1 = [] := rfl
theorem eJobs_over {l : JobsL} {cs : List D1} {k : Nat} : over cs (k + 1) (eJobs l) = over cs (k + 1) [.isl (l.map eJob)] := rfl
theorem eJobs_app {l : JobsL} {x : D1} {cs : List D1} : x :: cs ++ eJobs l = x :: cs ++ [.isl (l.map eJob)] := rfl
theorem eJobs_ok (l : JobsL) : (eJobs l).length = 1 ∧ (eJobs l).all D1.immB = true := ⟨rfl, rfl⟩
attribute [go_sem] eJobs_len eJobs_take1 eJobs_drop1 eJobs_over
end Go.AM
namespace Go.Proofs.YtiimjokpcbapeaaGreat
open Go Go.AM
set_option maxRecDepth 100000
set_option maxHeartbeats 8000000
section
variable {H : Heap} {nx : Nat} {K : D → Heap → Nat → Prop}
theorem sorted_adj {l : List Job} (h : ∀ i, i < l.length → 1 ≤ i → cmpJ (l.getD (i - 1) default) (l.getD i default) < 0) : Sorted l := by
  have h2 : ∀ (d i : Nat) (hi : i + d + 1 < l.length), befJ (l.getD i default) (l.getD (i + d + 1) default) = true := by
    intro d
    induction d with
    | zero => intro i hi; have := h (i + 1) (by omega) (by omega); rw [cmpJ_neg] at this; simpa using this
    | succ d ih =>
      intro i hi
      have h3 := ih i (by omega)
      have h4 := h (i + d + 2) (by omega) (by omega)
      rw [cmpJ_neg, show i + d + 2 - 1 = i + d + 1 by omega] at h4
      rw [show i + (d + 1) + 1 = i + d + 2 by omega]
      rw [befJ_iff] at *
      omega
  refine List.pairwise_iff_getElem.2 fun i j hi hj hij => ?_
  have := h2 (j - i - 1) i (by omega)
  rw [show i + (j - i - 1) + 1 = j by omega] at this
  simpa [List.getD, hi, hj] using this
theorem c_impl_rising (l : List Job) (hl : l.length < 2 ^ 20) : ACall Tryz.prog n_impl_rising [dS (l.map eJob)] .nil 0 fun rr _ _ => rr.plain = true ∧ rr = dB (decide (Sorted l)) := by
  refine en_impl_rising rfl fun Q hQ => ?_
  unfold ac_impl_rising
  repeat' (first | (with_reducible first | (refine hK _ _ _ ?_; clear hK K) | refine Z1 ?_ | refine Z3 fun KB hKB => ?_) | (with_reducible refine Y2 fun K hK => ?_) <;> (simp only [go_sem]) | fail)
  (have hKX := hKB; clear hKB)
  refine AWPL.loopP 0 (β := Nat) (fun b k => en [(3, dI k), (0, dS (l.map eJob))]) (fun b k => hp []) (fun k => (1 ≤ k ∧ (k ≤ l.length ∨ k = 1)) ∧ ∀ i, i < k → i < l.length → 1 ≤ i → cmpJ (l.getD (i - 1) default) (l.getD i default) < 0) (fun k => l.length - k) 1 (cv_nilT (Nat.le_refl _) (by repeat' (first | (with_reducible first | exact C1 | refine C2 ?_ ?_) | ((with_reducible refine D0 ?_); exact CA rfl) | fail))) ⟨by omega, fun i hi _ _ => by omega⟩ ?_
  rintro k ⟨hk, hinv⟩ KL hKL
  by_cases hlt : k < l.length
  · have e1 : ((k : Int) - 1).toNat = k - 1 := by omega
    repeat' (first | (with_reducible first | (refine hK _ _ _ ?_; clear hK K) | (refine hA ?_; clear hA hB A B) | (refine hB ?_; clear hA hB A B) | refine Z1 ?_ | refine Z2 ?_ | refine Z3 fun KB hKB => ?_ | refine Z4 (by omega) ?_ | refine Z6 (fun h => ?_) fun h => ?_) | (first | (with_reducible first | refine Y2 fun K hK => ?_ | refine Y3 fun A B hA hB => ?_) | (with_reducible refine a_impl_compareJobs ?_)) <;> (simp only [go_sem, e1]; try simp (disch := omega) only [Iw]) | ((with_reducible refine Y8 ?_); try simp only [AQ.then, AQ.blk, reduceIte, Nat.reduceEqDiff]) | ((with_reducible refine Y0 ?_); simp only [AQ.then, AQ.blk]) | refine ⟨by omega, ?_⟩ | (with_reducible refine hKB _ _ _ ?_) | fail)
    · refine exitP hQ (dB false) rfl rfl (dB_f fun hs => ?_)
      have h5 := List.pairwise_iff_getElem.1 hs (k - 1) k (by omega) hlt (by omega)
      have h6 : cmpJ (l.getD (k - 1) default) (l.getD k default) < 0 := by rw [cmpJ_neg]; simpa [List.getD, hlt, show k - 1 < l.length by omega] using h5
      omega
    · exact hKL _ _ _ (k + 1) (by omega) (cv_nilT (Nat.le_refl _) (by repeat' (first | (with_reducible first | exact C1 | refine C2 ?_ ?_) | ((with_reducible refine D0 ?_); exact CA rfl) | fail))) ⟨by omega, fun i hi hl2 h1 => by
        rcases Nat.lt_succ_iff_lt_or_eq.1 hi with h2 | h2
        · exact hinv i h2 hl2 h1
        · subst h2; omega⟩ (by omega)
  · repeat' (first | (with_reducible first | (refine hK _ _ _ ?_; clear hK K) | (refine hB ?_; clear hA hB A B) | refine Z1 ?_ | refine Z5 (by omega) ?_ | refine hKX _ _ _ ?_) | (with_reducible first | refine Y2 fun K hK => ?_ | refine Y3 fun A B hA hB => ?_) <;> (simp only [go_sem]) | ((with_reducible first | refine Y8 ?_ | refine Y9 ?_); try simp only [AQ.then, AQ.blk, reduceIte, Nat.reduceEqDiff]) | fail)
    exact exitP hQ (dB true) rfl rfl (dB_t (sorted_adj fun i hi h1 => hinv i (by omega) hi h1))
theorem a_impl_rising {l : List Job} (hl : l.length < 2 ^ 20) {d0 : D} (hd0 : CvD H (fun _ => True) id 0 (dS (l.map eJob)) d0) (h : K (dB (decide (Sorted l))) H nx) : ACall Tryz.prog n_impl_rising [d0] H nx K :=
  (c_impl_rising l hl).pure rfl (lentL_args ⟨hd0, trivial⟩) (fun r hr => hr ▸ h)
theorem c_impl_BusCfg_tlmOk0 (c : Cfg) (hb : BusOkP c) : ACall Tryz.prog n_impl_BusCfg_tlmOk [dA (eCfg c), dA (eSt st0)] .nil 0 fun rr _ _ => rr.plain = true ∧ rr = dB true := by
  refine en_impl_BusCfg_tlmOk rfl fun Q hQ => ?_
  unfold ac_impl_BusCfg_tlmOk
  obtain ⟨hp3, hp12⟩ := busOk_prog hb
  have hatm : AtmOkP st0.words st0.holds := by decide
  have hwl : st0.words.length = 64 := rfl
  have hhl : st0.holds.length = 6 := rfl
  have hal : st0.asked.length = 3 := rfl
  have hag : ∀ k, k < 3 → st0.asked.getD k default = 0 := fun k hk => by
    have : k = 0 ∨ k = 1 ∨ k = 2 := by omega
    rcases this with rfl | rfl | rfl <;> rfl
  have hs : Sorted ([] : List Job) := List.Pairwise.nil
  have h1 : st0.wait = [] := rfl
  have h2 : st0.done = [] := rfl
  have h3 : st0.told = [] := rfl
  generalize st0 = s0 at *
  obtain ⟨w0, h0, a0, l1, l2, l3⟩ := s0
  dsimp only at *
  subst h1; subst h2; subst h3
  repeat' (first | (with_reducible first | (refine hK _ _ _ ?_; clear hK K) | (refine hB ?_; clear hA hB A B) | refine Z1 ?_ | refine Z2 ?_ | refine Z3 fun KB hKB => ?_) | (first | (with_reducible first | refine Y2 fun K hK => ?_ | refine Y3 fun A B hA hB => ?_ | refine Y5 (by omega) ?_) | (refine a_impl_AtmOk (w := w0) (u := h0) (by omega) (by omega) (cvD_im rfl) ?_) | (refine a_impl_rising (l := []) (by simp) (cvD_im rfl) ?_)) <;> (simp only [go_sem, eq_true hatm, eq_true hs]) | fail)
  (have hKX := hKB; clear hKB)
  refine AWPL.loopP 0 (β := Nat) (fun b k => en [(38, dI k), (37, dI 3), (36, dS (a0.map eInt)), (5, dI 0), (3, .one (.c (.iptr (eSt ⟨w0, h0, a0, [], [], []⟩)))), (2, .one (.c (.iptr (eCfg c))))]) (fun b k => hp []) (fun k => k ≤ 3) (fun k => 3 - k) 0 (cv_nilT (Nat.le_refl _) (by repeat' (first | (with_reducible first | exact C1 | refine C2 ?_ ?_) | ((with_reducible refine C0 ?_); (exact CG (by (congr 2; omega)) rfl)) | ((with_reducible refine D0 ?_); first | exact CA rfl | exact CI rfl (by simp) rfl rfl rfl | refine CJ ?_) | fail))) (by omega) ?_
  intro k hk KL hKL
  by_cases hlt : k < 3
  · have hg := hag k hlt
    repeat' (first | (with_reducible first | (refine hK _ _ _ ?_; clear hK K) | (refine hA ?_; clear hA hB A B) | (refine hB ?_; clear hA hB A B) | refine Z1 ?_ | refine Z2 ?_ | refine Z3 fun KB hKB => ?_ | refine Z4 (by omega) ?_ | refine Z5 (by omega) ?_) | (first | (with_reducible first | refine Y2 fun K hK => ?_ | refine Y3 fun A B hA hB => ?_) | (with_reducible refine a_impl_in ?_)) <;> (simp only [go_sem, hg]; try simp (disch := omega) only [Iw]) | ((with_reducible refine Y0 ?_); simp only [AQ.then, AQ.blk]) | refine ⟨by omega, ?_⟩ | (with_reducible refine hKB _ _ _ ?_) | fail)
    exact hKL _ _ _ (k + 1) (by omega) (cv_nilT (Nat.le_refl _) (by repeat' (first | (with_reducible first | exact C1 | refine C2 ?_ ?_) | ((with_reducible refine D0 ?_); exact CA rfl) | fail))) (by omega) (by omega)
  repeat' (first | (with_reducible first | (refine hK _ _ _ ?_; clear hK K) | (refine hB ?_; clear hA hB A B) | refine Z1 ?_ | refine Z3 fun KB hKB => ?_ | refine Z5 (by omega) ?_ | refine hKX _ _ _ ?_) | (with_reducible first | refine Y2 fun K hK => ?_ | refine Y3 fun A B hA hB => ?_) <;> (simp only [go_sem]) | ((with_reducible refine Y9 ?_); try simp only [AQ.then, AQ.blk, reduceIte, Nat.reduceEqDiff]) | fail)
  (have hKY := hKB; clear hKB)
  obtain ⟨LL, hLL⟩ : ∃ LL : List JobsL, LL = [[], [], []] := ⟨_, rfl⟩
  have hLl : LL.length = 3 := by subst hLL; rfl
  have hLg : ∀ k, LL.getD k default = [] := fun k => by subst hLL; match k with
    | 0 => rfl
    | 1 => rfl
    | 2 => rfl
    | k + 3 => rfl
  have hLr : [[D1.isl []], [D1.isl []], [D1.isl []]] = LL.map eJobs := by subst hLL; rfl
  refine AWPL.loopP 0 (β := Nat) (fun b k => en [(65, dI k), (64, dI 3), (63, dS (LL.map eJobs)), (8, .one (.c .emap)), (5, dI 0), (3, .one (.c (.iptr (eSt ⟨w0, h0, a0, [], [], []⟩)))), (2, .one (.c (.iptr (eCfg c))))]) (fun b k => hp []) (fun k => k ≤ 3) (fun k => 3 - k) 0 ?_ (by omega) ?_
  · refine cv_nilT (Nat.le_refl _) (cvE_cons (cvE_cons (cvE_cons (cvE_cons (cvE_cons (cvE_cons (cvE_cons cvE_enil ?_) ?_) ?_) ?_) ?_) ?_) ?_)
    all_goals first
      | exact cvD_frz (rows := LL.map eJobs) (immR_map eJobs_ok LL) (by simp; omega) trivial rfl rfl (by subst hLL; rfl) (by simp; omega)
      | (repeat' ((with_reducible refine D0 ?_); exact CA rfl); done)
  intro k hk KM hKM
  by_cases hlt : k < 3
  · have hg := hLg k
    repeat' (first | (with_reducible first | (refine hK _ _ _ ?_; clear hK K) | (refine hA ?_; clear hA hB A B) | refine Z1 ?_ | refine Z2 ?_ | refine Z3 fun KB hKB => ?_ | refine Z4 (by omega) ?_) | (with_reducible first | refine Y2 fun K hK => ?_ | refine Y3 fun A B hA hB => ?_) <;> (simp only [go_sem, hg]) | refine ⟨by omega, ?_⟩ | fail)
    (have hKZ := hKB; clear hKB)
    refine AWPL.loopP 0 (β := Unit) (fun _ _ => en [(72, dI 0), (71, dI 0), (65, dI k), (64, dI 3), (63, dS (LL.map eJobs)), (9, dI k), (8, .one (.c .emap)), (5, dI 0), (3, .one (.c (.iptr (eSt ⟨w0, h0, a0, [], [], []⟩)))), (2, .one (.c (.iptr (eCfg c))))]) (fun _ _ => hp []) (fun _ => True) (fun _ => 0) () (cv_nilT (Nat.le_refl _) (by repeat' (first | (with_reducible first | exact C1 | refine C2 ?_ ?_) | ((with_reducible refine D0 ?_); exact CA rfl) | fail))) trivial ?_
    intro _ _ KN hKN
    repeat' (first | (with_reducible first | (refine hK _ _ _ ?_; clear hK K) | (refine hB ?_; clear hA hB A B) | refine Z1 ?_ | refine hKZ _ _ _ ?_) | (with_reducible first | refine Y2 fun K hK => ?_ | refine Y3 fun A B hA hB => ?_) <;> (simp only [go_sem]; try simp (disch := omega) only [Iw]) | ((with_reducible refine Y9 ?_); try simp only [AQ.then, AQ.blk, reduceIte, Nat.reduceEqDiff]) | ((with_reducible refine Y0 ?_); simp only [AQ.then, AQ.blk]) | (with_reducible refine hKB _ _ _ ?_) | fail)
    exact hKM _ _ _ (k + 1) (by omega) (cv_nilT (Nat.le_refl _) (by repeat' (first | (with_reducible first | exact C1 | refine C2 ?_ ?_) | ((with_reducible refine D0 ?_); exact CA rfl) | fail))) (by omega) (by omega)
  · repeat' (first | (with_reducible first | (refine hK _ _ _ ?_; clear hK K) | (refine hB ?_; clear hA hB A B) | refine Z1 ?_ | refine Z5 (by omega) ?_ | refine hKY _ _ _ ?_) | (with_reducible first | refine Y2 fun K hK => ?_ | refine Y3 fun A B hA hB => ?_) <;> (simp only [go_sem]) | ((with_reducible first | refine Y8 ?_ | refine Y9 ?_); try simp only [AQ.then, AQ.blk, reduceIte, Nat.reduceEqDiff]) | fail)
    exact exitP hQ (dB true) rfl rfl rfl
theorem a_impl_BusCfg_tlmOk0 {c : Cfg} (hb : BusOkP c)  (h : K (dB true) H nx) : ACall Tryz.prog n_impl_BusCfg_tlmOk [dA (eCfg c), dA (eSt st0)] H nx K :=
  (c_impl_BusCfg_tlmOk0 c hb).pure rfl (lentL_args ⟨cvD_im rfl, cvD_im rfl, trivial⟩) (fun r hr => hr ▸ h)
theorem c_impl_TlmOk0 (c : Cfg) (hb : BusOkP c) (hcf : CfgFit c) : ACall Tryz.prog n_impl_TlmOk [dA (eCfg c), dA (eSt st0)] .nil 0 fun rr _ _ => rr.plain = true ∧ rr = dB true := by
  refine en_impl_TlmOk rfl fun Q hQ => ?_
  unfold ac_impl_TlmOk
  generalize hs0 : st0 = s0 at *
  have hok : ∀ {H : Heap} {nx : Nat} {K : D → Heap → Nat → Prop}, K (dB true) H nx → ACall Tryz.prog n_impl_BusCfg_tlmOk [dA (eCfg c), dA (eSt s0)] H nx K := fun h => by subst hs0; exact a_impl_BusCfg_tlmOk0 hb h
  repeat' (first | (with_reducible first | (refine hK _ _ _ ?_; clear hK K) | refine Z1 ?_) | (first | (with_reducible refine Y2 fun K hK => ?_) | (refine a_impl_BusOk hcf ?_) | (refine hok ?_)) <;> (simp only [go_sem, eq_true hb]) | ((with_reducible refine Y8 ?_); try simp only [AQ.then, AQ.blk, reduceIte, Nat.reduceEqDiff]) | fail)
  exact exitP hQ (dB true) rfl rfl rfl
theorem a_impl_TlmOk0 {c : Cfg} (hb : BusOkP c) (hcf : CfgFit c) (h : K (dB true) H nx) : ACall Tryz.prog n_impl_TlmOk [dA (eCfg c), dA (eSt st0)] H nx K :=
  (c_impl_TlmOk0 c hb hcf).pure rfl (lentL_args ⟨cvD_im rfl, cvD_im rfl, trivial⟩) fun r hr => hr ▸ h
theorem a_impl_TlmRun0 {c : Cfg} {es : List Ev} (hb : BusOkP c) (hcf : CfgFit c) (hlen : es.length ≤ 200) (hpl : Plays c st0 es) (h : K (.tup [.agg (eSt (runM c st0 es)), .c (cI es.length)]) H nx) : ACall Tryz.prog n_impl_TlmRun [dA (eCfg c), dA (eSt st0), dS (es.map eEv)] H nx K :=
  (c_impl_TlmRun c es hb hcf st0 (st0_ok c) (fun h => a_impl_TlmOk0 hb hcf h) hlen hpl).fresh rfl fun r hr => hr ▸ h
end
end Go.Proofs.YtiimjokpcbapeaaGreat
