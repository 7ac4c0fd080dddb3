/- Contracts: a bus at its beginning is ok. -/
import Derived.Test.YtiimjokpcbapeaaGreatTv
import Derived.Test.YtiimjokpcbapeaaGreatTw
set_option linter.unusedVariables false
set_option linter.unusedSimpArgs false
set_option linter.unusedSectionVars false
namespace Go.AM
abbrev JobsL := List Job
def eJobs (l : JobsL) : List D1 := [.isl (l.map eJob)]
theorem eJobs_len {l : JobsL} : (eJobs l).length = 1 := rfl
theorem eJobs_take1 {l : JobsL} : (eJobs l).take 1 = [.isl (l.map eJob)] := rfl
theorem eJobs_drop1 {l : JobsL} : (eJobs l).drop 1 = [] := rfl
theorem eJobs_over {l : JobsL} {cs : List D1} {k : Nat} : over cs (k + 1) (eJobs l) = over cs (k + 1) [.isl (l.map eJob)] := rfl
theorem eJobs_app {l : JobsL} {x : D1} {cs : List D1} : x :: cs ++ eJobs l = x :: cs ++ [.isl (l.map eJob)] := rfl
theorem eJobs_ok (l : JobsL) : (eJobs l).length = 1 ∧ (eJobs l).all D1.immB = true := ⟨rfl, rfl⟩
attribute [go_sem] eJobs_len eJobs_take1 eJobs_drop1 eJobs_over
end Go.AM
namespace Go.Proofs.YtiimjokpcbapeaaGreat
open Go Go.AM
set_option maxRecDepth 100000
set_option maxHeartbeats 8000000
section
variable {H : Heap} {nx : Nat} {K : D → Heap → Nat → Prop}
theorem sorted_adj {l : List Job} (h : ∀ i, i < l.length → 1 ≤ i → cmpJ (l.getD (i - 1) default) (l.getD i default) < 0) : Sorted l := by
  have h2 : ∀ (d i : Nat) (hi : i + d + 1 < l.length), befJ (l.getD i default) (l.getD (i + d + 1) default) = true := by
    intro d
    induction d with
    | zero => intro i hi; have := h (i + 1) (by omega) (by omega); rw [cmpJ_neg] at this; simpa using this
    | succ d ih =>
      intro i hi
      have h3 := ih i (by omega)
      have h4 := h (i + d + 2) (by omega) (by omega)
      rw [cmpJ_neg, show i + d + 2 - 1 = i + d + 1 by omega] at h4
      rw [show i + (d + 1) + 1 = i + d + 2 by omega]
      rw [befJ_iff] at *
      omega
  refine List.pairwise_iff_getElem.2 fun i j hi hj hij => ?_
  have := h2 (j - i - 1) i (by omega)
  rw [show i + (j - i - 1) + 1 = j by omega] at this
  simpa [List.getD, hi, hj] using this
theorem c_impl_rising (l : List Job) (hl : l.length < 2 ^ 20) : ACall Tryz.prog n_impl_rising [dS (l.map eJob)] .nil 0 fun rr _ _ => rr.plain = true ∧ rr = dB (decide (Sorted l)) := by
  refine en_impl_rising rfl fun Q hQ => ?_
  unfold ac_impl_rising
  repeat' (first | (with_reducible first | (refine hK _ _ _ ?_; clear hK K) | refine Z1 ?_ | refine Z3 fun KB hKB => ?_) | (with_reducible refine Y2 fun K hK => ?_) <;> (simp only [go_sem]) | fail)
  (have hKX := hKB; clear hKB)
  refine AWPL.loopP 0 (β := Nat) (fun b k => en [(3, dI k), (0, dS (l.map eJob))]) (fun b k => hp []) (fun k => (1 ≤ k ∧ (k ≤ l.length ∨ k = 1)) ∧ ∀ i, i < k → i < l.length → 1 ≤ i → cmpJ (l.getD (i - 1) default) (l.getD i default) < 0) (fun k => l.length - k) 1 (cv_nilT (Nat.le_refl _) (by repeat' (first | (with_reducible first | exact C1 | refine C2 ?_ ?_) | ((with_reducible refine D0 ?_); exact CA rfl) | fail))) ⟨by omega, fun i hi _ _ => by omega⟩ ?_
  rintro k ⟨hk, hinv⟩ KL hKL
  by_cases hlt : k < l.length
  · have e1 : ((k : Int) - 1).toNat = k - 1 := by omega
    repeat' (first | (with_reducible first | (refine hK _ _ _ ?_; clear hK K) | (refine hA ?_; clear hA hB A B) | (refine hB ?_; clear hA hB A B) | refine Z1 ?_ | refine Z2 ?_ | refine Z3 fun KB hKB => ?_ | refine Z4 (by omega) ?_ | refine Z6 (fun h => ?_) fun h => ?_) | (first | (with_reducible first | refine Y2 fun K hK => ?_ | refine Y3 fun A B hA hB => ?_) | (with_reducible refine a_impl_compareJobs ?_)) <;> (simp only [go_sem, e1]; try simp (disch := omega) only [Iw]) | ((with_reducible refine Y8 ?_); try simp only [AQ.then, AQ.blk, reduceIte, Nat.reduceEqDiff]) | ((with_reducible refine Y0 ?_); simp only [AQ.then, AQ.blk]) | refine ⟨by omega, ?_⟩ | (with_reducible refine hKB _ _ _ ?_) | fail)
    · refine exitP hQ (dB false) rfl rfl (dB_f fun hs => ?_)
      have h5 := List.pairwise_iff_getElem.1 hs (k - 1) k (by omega) hlt (by omega)
      have h6 : cmpJ (l.getD (k - 1) default) (l.getD k default) < 0 := by rw [cmpJ_neg]; simpa [List.getD, hlt, show k - 1 < l.length by omega] using h5
      omega
    · exact hKL _ _ _ (k + 1) (by omega) (cv_nilT (Nat.le_refl _) (by repeat' (first | (with_reducible first | exact C1 | refine C2 ?_ ?_) | ((with_reducible refine D0 ?_); exact CA rfl) | fail))) ⟨by omega, fun i hi hl2 h1 => by
        rcases Nat.lt_succ_iff_lt_or_eq.1 hi with h2 | h2
        · exact hinv i h2 hl2 h1
        · subst h2; omega⟩ (by omega)
  · repeat' (first | (with_reducible first | (refine hK _ _ _ ?_; clear hK K) | (refine hB ?_; clear hA hB A B) | refine Z1 ?_ | refine Z5 (by omega) ?_ | refine hKX _ _ _ ?_) | (with_reducible first | refine Y2 fun K hK => ?_ | refine Y3 fun A B hA hB => ?_) <;> (simp only [go_sem]) | ((with_reducible first | refine Y8 ?_ | refine Y9 ?_); try simp only [AQ.then, AQ.blk, reduceIte, Nat.reduceEqDiff]) | fail)
    exact exitP hQ (dB true) rfl rfl (dB_t (sorted_adj fun i hi h1 => hinv i (by omega) hi h1))
theorem a_impl_rising {l : List Job} (hl : l.length < 2 ^ 20) {d0 : D} (hd0 : CvD H (fun _ => True) id 0 (dS (l.map eJob)) d0) (h : K (dB (decide (Sorted l))) H nx) : ACall Tryz.prog n_impl_rising [d0] H nx K :=
  (c_impl_rising l hl).pure rfl (lentL_args ⟨hd0, trivial⟩) (fun r hr => hr ▸ h)
theorem c_impl_RspRsp_none (r : Rsp) (hr : r.data.length < 2 ^ 40) : ACall Tryz.prog n_impl_RspRsp_none [dA (eRsp r)] .nil 0 fun rr _ _ => rr.plain = true ∧ rr = dB (decide (r = rsp0)) := by
  refine en_impl_RspRsp_none rfl fun Q hQ => ?_
  unfold ac_impl_RspRsp_none
  repeat' (first | (with_reducible first | (refine hK _ _ _ ?_; clear hK K) | refine Z1 ?_) | (with_reducible first | refine Y2 fun K hK => ?_ | refine Y6 (fun h => ?_) fun h => ?_) <;> (simp only [go_sem]) | ((with_reducible refine Y8 ?_); try simp only [AQ.then, AQ.blk, reduceIte, Nat.reduceEqDiff]) | fail)
  all_goals first | with_reducible refine exitP hQ _ rfl rfl ?_ | skip
  all_goals (obtain ⟨r1, r2, r3⟩ := r; unfold rsp0; dsimp only at *; first | exact dB_t (by simp_all) | exact dB_f (by simp_all) | exact dB_e (by simp_all) | exact dB_e (by simp only [Rsp.mk.injEq]; rw [← List.length_eq_zero_iff]; omega))
theorem a_impl_RspRsp_none {r : Rsp} (hr : r.data.length < 2 ^ 40)  (h : K (dB (decide (r = rsp0))) H nx) : ACall Tryz.prog n_impl_RspRsp_none [dA (eRsp r)] H nx K :=
  (c_impl_RspRsp_none r hr).pure rfl (lentL_args ⟨cvD_im rfl, trivial⟩) (fun r hr => hr ▸ h)
theorem c_impl_RspOk (r : Rsp) (hr : r.data.length < 2 ^ 40) : ACall Tryz.prog n_impl_RspOk [dA (eRsp r)] .nil 0 fun rr _ _ => rr.plain = true ∧ rr = dB (decide (RspOkP r)) := by
  refine en_impl_RspOk rfl fun Q hQ => ?_
  unfold ac_impl_RspOk
  repeat' (first | (with_reducible first | (refine hK _ _ _ ?_; clear hK K) | refine Z1 ?_) | (first | (with_reducible first | refine Y2 fun K hK => ?_ | refine Y6 (fun h => ?_) fun h => ?_) | (with_reducible refine a_impl_in ?_) | (refine a_impl_areWords hr (cvD_im rfl) ?_)) <;> (simp only [go_sem]) | ((with_reducible refine Y8 ?_); try simp only [AQ.then, AQ.blk, reduceIte, Nat.reduceEqDiff]) | fail)
  all_goals first | with_reducible refine exitP hQ _ rfl rfl ?_ | skip
  all_goals first | exact dB_f (by unfold RspOkP; grind) | exact dB_e (by unfold RspOkP; grind) | exact dB_t (by unfold RspOkP; grind)
theorem a_impl_RspOk {r : Rsp} (hr : r.data.length < 2 ^ 40)  (h : K (dB (decide (RspOkP r))) H nx) : ACall Tryz.prog n_impl_RspOk [dA (eRsp r)] H nx K :=
  (c_impl_RspOk r hr).pure rfl (lentL_args ⟨cvD_im rfl, trivial⟩) (fun r hr => hr ▸ h)
theorem a_impl_RspRsp_noneE {r : Rsp} (hr : r.data.length < 2 ^ 40) (h : K (dB (decide (r = rsp0))) H nx) : ACall Tryz.prog n_impl_RspRsp_none [.one (.agg [cI r.id, cI r.code, .isl (r.data.map eInt)])] H nx K := a_impl_RspRsp_none hr h
theorem a_impl_RspOkE {r : Rsp} (hr : r.data.length < 2 ^ 40) (h : K (dB (decide (RspOkP r))) H nx) : ACall Tryz.prog n_impl_RspOk [.one (.agg [cI r.id, cI r.code, .isl (r.data.map eInt)])] H nx K := a_impl_RspOk hr h
def metM (l : List Job) : List (List Int × Int) := l.map fun j => ([j.who, j.n], 1)
theorem metM_get {l : List Job} {j : Job} (h : key j ∉ l.map key) : getM' (metM l) [j.who, j.n] = none := by
  unfold getM' metM
  rw [Option.map_eq_none_iff, List.find?_eq_none]
  intro p hp
  obtain ⟨x, hx, rfl⟩ := List.mem_map.1 hp
  simp only [List.cons.injEq, and_true, decide_eq_true_eq]
  intro he
  exact h (List.mem_map.2 ⟨x, hx, by simp [key, he.1, he.2]⟩)
theorem metM_set {l : List Job} {j : Job} (h : key j ∉ l.map key) : setM (metM l) [j.who, j.n] 1 = metM (l ++ [j]) := by
  induction l with
  | nil => rfl
  | cons x l ih =>
    simp only [List.map_cons, List.mem_cons, not_or] at h
    have hne : ¬ [j.who, j.n] = [x.who, x.n] := fun he => h.1 (by simp only [List.cons.injEq, and_true] at he; simp [key, he.1, he.2])
    show setM (([x.who, x.n], 1) :: metM l) _ _ = _
    simp only [setM, hne, if_false, ih h.2]
    rfl
theorem metM_len {l : List Job} : (metM l).length = l.length := by simp [metM]
theorem sum_step {l : List Int} {k : Nat} (h : k < l.length) : (l.take (k + 1)).sum = (l.take k).sum + l.getD k default := by
  rw [List.take_succ_eq_append_getElem h, List.sum_append]; simp [List.getD, h]
theorem sum_three {l : List Int} (h : l.length = 3) : (l.take 3).sum = l.getD 0 default + l.getD 1 default + l.getD 2 default := by
  match l, h with
  | [a, b, c], _ => simp [List.getD]; omega
theorem atm_fitP {w u : List Int} (h : AtFit w u) : AtmOkP w u := ⟨⟨by rw [h.wl]; rfl, h.wr⟩, by rw [h.hl]; rfl, h.hr⟩
theorem c_impl_BusCfg_tlmOk (c : Cfg) (s : TSt) (hb : BusOkP c) (hs : StOk c s) : ACall Tryz.prog n_impl_BusCfg_tlmOk [dA (eCfg c), dA (eSt s)] .nil 0 fun rr _ _ => rr.plain = true ∧ rr = dB true := by
  refine en_impl_BusCfg_tlmOk rfl fun Q hQ => ?_
  unfold ac_impl_BusCfg_tlmOk
  obtain ⟨hp3, hp12⟩ := busOk_prog hb
  have hatm := atm_fitP hs.atm
  have hwl := hs.atm.wl
  have hhl := hs.atm.hl
  have hal := hs.askedL
  have hls := hs.lens hb
  have hag := hs.askedR
  have hsum3 := sum_three hal
  have hcnt := hs.count
  have hd : ∀ j ∈ s.wait ++ s.done ++ s.told, j.rsp.data.length < 2 ^ 40 := fun j hj => by
    simp only [List.mem_append] at hj
    rcases hj with (hj | hj) | hj
    · rw [hs.waitR j hj]; decide
    · have := (hs.rspR j (by simp [hj])).1.2.2.1; omega
    · have := (hs.rspR j (by simp [hj])).1.2.2.1; omega
  repeat' (first | (with_reducible first | (refine hK _ _ _ ?_; clear hK K) | (refine hB ?_; clear hA hB A B) | refine Z1 ?_ | refine Z2 ?_ | refine Z3 fun KB hKB => ?_) | (first | (with_reducible first | refine Y2 fun K hK => ?_ | refine Y3 fun A B hA hB => ?_ | refine Y5 (by omega) ?_) | (refine a_impl_AtmOk (w := s.words) (u := s.holds) (by omega) (by omega) (cvD_im rfl) ?_) | (refine a_impl_rising (l := s.wait) (by omega) (cvD_im rfl) ?_) | (refine a_impl_rising (l := s.done) (by omega) (cvD_im rfl) ?_)) <;> (simp only [go_sem, eq_true hatm, eq_true hs.waitS, eq_true hs.doneS]) | fail)
  (have hKX := hKB; clear hKB)
  refine AWPL.loopP 0 (β := Nat) (fun b k => en [(38, dI k), (37, dI s.asked.length), (36, dS (s.asked.map eInt)), (5, dI (s.asked.take k).sum), (3, .one (.c (.iptr (eSt s)))), (2, .one (.c (.iptr (eCfg c))))]) (fun b k => .nil) (fun k => k ≤ 3 ∧ 0 ≤ (s.asked.take k).sum ∧ (s.asked.take k).sum ≤ 12 * k) (fun k => 3 - k) 0 (cv_nilT (Nat.le_refl _) (by repeat' (first | (with_reducible first | exact C1 | refine C2 ?_ ?_) | ((with_reducible refine D0 ?_); first | exact CA rfl | exact CI rfl (by simp) rfl rfl rfl) | fail))) ⟨by omega, by simp, by simp⟩ ?_
  rintro k ⟨hk, h1, h2⟩ KL hKL
  by_cases hlt : k < 3
  · have hg := hag k hlt
    have hst := sum_step (l := s.asked) (k := k) (by omega)
    have hpk := hp12 k
    repeat' (first | (with_reducible first | (refine hK _ _ _ ?_; clear hK K) | (refine hA ?_; clear hA hB A B) | (refine hB ?_; clear hA hB A B) | refine Z1 ?_ | refine Z2 ?_ | refine Z3 fun KB hKB => ?_ | refine Z4 (by omega) ?_ | refine Z5 (by omega) ?_) | (first | (with_reducible first | refine Y2 fun K hK => ?_ | refine Y3 fun A B hA hB => ?_) | (with_reducible refine a_impl_in ?_)) <;> (simp only [go_sem]; try simp (disch := omega) only [Iw]) | ((with_reducible refine Y0 ?_); simp only [AQ.then, AQ.blk]) | refine ⟨by omega, ?_⟩ | (with_reducible refine hKB _ _ _ ?_) | fail)
    exact hKL _ _ _ (k + 1) (by omega) (by rw [hst]; exact cv_nilT (by omega) (by repeat' (first | (with_reducible first | exact C1 | refine C2 ?_ ?_) | ((with_reducible refine D0 ?_); exact CA rfl) | fail))) ⟨by omega, by rw [hst]; omega, by rw [hst]; omega⟩ (by omega)
  have hk3 : k = 3 := by omega
  subst hk3
  repeat' (first | (with_reducible first | (refine hK _ _ _ ?_; clear hK K) | (refine hB ?_; clear hA hB A B) | refine Z1 ?_ | refine Z3 fun KB hKB => ?_ | refine Z5 (by omega) ?_ | refine hKX _ _ _ ?_) | (with_reducible first | refine Y2 fun K hK => ?_ | refine Y3 fun A B hA hB => ?_) <;> (simp only [go_sem]) | ((with_reducible refine Y9 ?_); try simp only [AQ.then, AQ.blk, reduceIte, Nat.reduceEqDiff]) | fail)
  (have hKY := hKB; clear hKB)
  obtain ⟨LL, hLL⟩ : ∃ LL : List JobsL, LL = [s.wait, s.done, s.told] := ⟨_, rfl⟩
  have hLl : LL.length = 3 := by subst hLL; rfl
  have hLr : [[D1.isl (s.wait.map eJob)], [D1.isl (s.done.map eJob)], [D1.isl (s.told.map eJob)]] = LL.map eJobs := by subst hLL; rfl
  obtain ⟨seen, hse⟩ : ∃ seen : Nat → List Job, seen = fun k => (LL.take k).flatten := ⟨_, rfl⟩
  have hs0 : seen 0 = [] := by subst hse; rfl
  have hs3 : (seen 3).length = s.wait.length + s.done.length + s.told.length := by subst hse; subst hLL; simp; omega
  have hss : ∀ k, k < 3 → seen (k + 1) = seen k ++ LL.getD k default := fun k hk => by
    subst hse
    simp only
    rw [List.take_succ_eq_append_getElem (by omega), List.flatten_append]
    simp [List.getD, show k < LL.length by omega]
  have hnd : ∀ k, k < 3 → ((seen k ++ LL.getD k default).map key).Nodup := fun k hk => by
    have hn := hs.nodup
    unfold keys at hn
    have : k = 0 ∨ k = 1 ∨ k = 2 := by omega
    subst hse; subst hLL
    rcases this with rfl | rfl | rfl
    · have : (s.wait.map key).Nodup := by
        simp only [List.map_append, List.append_assoc] at hn; exact (List.nodup_append.1 hn).1
      simpa [List.getD] using this
    · have : ((s.wait ++ s.done).map key).Nodup := by
        rw [List.map_append] at hn; exact (List.nodup_append.1 hn).1
      simpa [List.getD] using this
    · simpa [List.getD] using hn
  have hmem : ∀ k, k < 3 → ∀ j ∈ LL.getD k default, j ∈ s.wait ++ s.done ++ s.told := fun k hk j hj => by
    have : k = 0 ∨ k = 1 ∨ k = 2 := by omega
    subst hLL
    rcases this with rfl | rfl | rfl <;> (simp [List.getD] at hj; simp [hj])
  have hL0 : ∀ j ∈ LL.getD 0 default, j.rsp = rsp0 := fun j hj => by
    subst hLL; simp [List.getD] at hj; exact hs.waitR j hj
  have hL1 : ∀ k, k < 3 → 0 < k → ∀ j ∈ LL.getD k default, RspOkP j.rsp ∧ j.rsp.id = (reqAt c j.who j.n).id := fun k hk h0 j hj => by
    have : k = 1 ∨ k = 2 := by omega
    subst hLL
    rcases this with rfl | rfl <;> (simp [List.getD] at hj; exact hs.rspR j (by simp [hj]))
  have hLs : ∀ k, k < 3 → (LL.getD k default).length ≤ 36 := fun k hk => by
    have : k = 0 ∨ k = 1 ∨ k = 2 := by omega
    subst hLL
    rcases this with rfl | rfl | rfl <;> (simp [List.getD]; omega)
  rw [hLr]
  clear hLr hLL hse
  refine AWPL.loopP 1 (β := Nat) (fun b k => en [(65, dI k), (64, dI 3), (63, dS (LL.map eJobs)), (8, .one (.c (.omap b))), (5, dI (s.asked.take 3).sum), (3, .one (.c (.iptr (eSt s)))), (2, .one (.c (.iptr (eCfg c))))]) (fun b k => hp [(b, mobj ⟨2, true, metM (seen k)⟩)]) (fun k => k ≤ 3) (fun k => 3 - k) 0 ?_ (by omega) ?_
  · refine cv_hp [31] (by omega) ?_ ⟨⟨by simp, by simp [sgL], _, rfl, cvO_mobj (by rw [hs0]; rfl)⟩, trivial⟩ (by simp [sgL])
    refine cvE_cons (cvE_cons (cvE_cons (cvE_cons (cvE_cons (cvE_cons (cvE_cons cvE_enil ?_) ?_) ?_) ?_) ?_) ?_) ?_
    all_goals first
      | exact cvD_frz (rows := LL.map eJobs) (immR_map eJobs_ok LL) (by simp; omega) (by simp) rfl rfl (List.take_of_length_le (by simp)) (by simp; omega)
      | exact cvD_c (cv1_omap (by omega) rfl)
      | (repeat' ((with_reducible refine D0 ?_); exact CA rfl); done)
  intro k hk KM hKM
  by_cases hlt : k < 3
  · have hss1 := hss k hlt
    have hnd1 := hnd k hlt
    have hmm := hmem k hlt
    have hr0 : k = 0 → ∀ j ∈ LL.getD k default, j.rsp = rsp0 := fun h => by subst h; exact hL0
    have hr1 := hL1 k hlt
    have hlk := hLs k hlt
    generalize hcur : LL.getD k default = cur at hss1 hnd1 hmm hr0 hr1 hlk
    repeat' (first | (with_reducible first | (refine hK _ _ _ ?_; clear hK K) | (refine hA ?_; clear hA hB A B) | refine Z1 ?_ | refine Z2 ?_ | refine Z3 fun KB hKB => ?_ | refine Z4 (by omega) ?_) | (with_reducible first | refine Y2 fun K hK => ?_ | refine Y3 fun A B hA hB => ?_) <;> (simp only [go_sem, hcur]) | refine ⟨by omega, ?_⟩ | fail)
    (have hKZ := hKB; clear hKB)
    refine AWPL.loopP 1 (β := Nat) (fun b i => en [(72, dI i), (71, dI cur.length), (70, dS (cur.map eJob)), (65, dI k), (64, dI 3), (63, dS (LL.map eJobs)), (9, dI k), (8, .one (.c (.omap b))), (5, dI (s.asked.take 3).sum), (3, .one (.c (.iptr (eSt s)))), (2, .one (.c (.iptr (eCfg c))))]) (fun b i => hp [(b, mobj ⟨2, true, metM (seen k ++ cur.take i)⟩)]) (fun i => i ≤ cur.length) (fun i => cur.length - i) 0 (by (refine cv_hp [42] (by omega) (by repeat' (first | (with_reducible first | exact C1 | refine C2 ?_ ?_) | ((with_reducible refine C0 ?_); exact CR (by omega) rfl) | ((with_reducible refine D0 ?_); first | exact CA rfl | refine CJ ?_) | fail)) ⟨⟨by simp, by simp [sgL], _, rfl, cvO_mobj (by simp)⟩, trivial⟩ (by simp [sgL]))) (by omega) ?_
    intro i hi KN hKN
    by_cases hil : i < cur.length
    · have hjm := hmm _ (getD_mem hil)
      have hjd := hd _ hjm
      have hja := hs.mem hjm
      have hjj := hs.jobs (key (cur.getD i default)) (List.mem_map_of_mem hjm)
      have hj0 := fun h => hr0 h _ (getD_mem hil)
      have hj1 := fun h => hr1 h _ (getD_mem hil)
      have hts : cur.take (i + 1) = cur.take i ++ [cur.getD i default] := by rw [List.take_succ_eq_append_getElem hil]; simp [List.getD, hil]
      have hni : key (cur.getD i default) ∉ (seen k ++ cur.take i).map key := fun hm => by
        have e : seen k ++ cur = (seen k ++ cur.take i) ++ (cur.getD i default :: cur.drop (i + 1)) := by
          rw [List.append_assoc]; congr 1
          have : cur.getD i default = cur[i] := by simp [List.getD, hil]
          rw [this, ← List.drop_eq_getElem_cons hil, List.take_append_drop]
        rw [e, List.map_append] at hnd1
        exact (List.nodup_append.1 hnd1).2.2 _ hm _ (by simp) rfl
      have hget := metM_get hni
      have hset := metM_set hni
      simp only [key] at hjj
      have har := hs.askedR (cur.getD i default).who.toNat (by omega)
      have hpk := hp12 (cur.getD i default).who.toNat
      by_cases hk0 : k = 0
      · have hjr := hj0 hk0
        repeat' (first | (with_reducible first | (refine hK _ _ _ ?_; clear hK K) | (refine hA ?_; clear hA hB A B) | (refine hB ?_; clear hA hB A B) | refine Z1 ?_ | refine Z2 ?_ | refine Z3 fun KB hKB => ?_ | refine Z4 (by omega) ?_) | (first | (with_reducible first | refine Y2 fun K hK => ?_ | refine Y3 fun A B hA hB => ?_ | refine Y4 (by omega) ?_ | refine Y5 (by omega) ?_) | (with_reducible refine a_impl_isMaster ?_) | (with_reducible refine a_impl_in ?_) | (with_reducible refine a_impl_RspRsp_noneE hjd ?_)) <;> (simp only [go_sem, hget, hset, Option.getD_none, eq_true hjr]; try simp (disch := omega) only [Iw]) | ((with_reducible refine Y0 ?_); simp only [AQ.then, AQ.blk]) | refine ⟨by omega, ?_⟩ | (with_reducible refine hKB _ _ _ ?_) | fail)
        exact hKN _ _ _ (i + 1) (by omega) (by (refine cv_hp [52] (by omega) (by repeat' (first | (with_reducible first | exact C1 | refine C2 ?_ ?_) | ((with_reducible refine C0 ?_); exact CR (by omega) rfl) | ((with_reducible refine D0 ?_); first | exact CA rfl | refine CJ ?_) | fail)) ⟨⟨by simp, by simp [sgL], _, rfl, cvO_mobj (by rw [hts, List.append_assoc])⟩, trivial⟩ (by simp [sgL]))) (by omega) (by omega)
      · obtain ⟨hjr1, hjr2⟩ := hj1 (by omega)
        repeat' (first | (with_reducible first | (refine hK _ _ _ ?_; clear hK K) | (refine hA ?_; clear hA hB A B) | (refine hB ?_; clear hA hB A B) | refine Z1 ?_ | refine Z2 ?_ | refine Z3 fun KB hKB => ?_ | refine Z4 (by omega) ?_ | refine Z5 (by omega) ?_) | (first | (with_reducible first | refine Y2 fun K hK => ?_ | refine Y3 fun A B hA hB => ?_ | refine Y4 (by omega) ?_ | refine Y5 (by omega) ?_) | (with_reducible refine a_impl_isMaster ?_) | (with_reducible refine a_impl_in ?_) | (with_reducible refine a_impl_RspOkE hjd ?_) | (with_reducible refine a_impl_BusCfg_id hp3 hja ?_)) <;> (simp only [go_sem, hget, hset, Option.getD_none, eq_true hjr1]; try simp (disch := omega) only [Iw]) | ((with_reducible refine Y0 ?_); simp only [AQ.then, AQ.blk]) | refine ⟨by omega, ?_⟩ | (with_reducible refine hKB _ _ _ ?_) | fail)
        exact hKN _ _ _ (i + 1) (by omega) (by (refine cv_hp [52] (by omega) (by repeat' (first | (with_reducible first | exact C1 | refine C2 ?_ ?_) | ((with_reducible refine C0 ?_); exact CR (by omega) rfl) | ((with_reducible refine D0 ?_); first | exact CA rfl | refine CJ ?_) | fail)) ⟨⟨by simp, by simp [sgL], _, rfl, cvO_mobj (by rw [hts, List.append_assoc])⟩, trivial⟩ (by simp [sgL]))) (by omega) (by omega)
    · have hi2 : i = cur.length := by omega
      subst hi2
      rw [List.take_length, ← hss1]
      repeat' (first | (with_reducible first | (refine hK _ _ _ ?_; clear hK K) | (refine hB ?_; clear hA hB A B) | refine Z1 ?_ | refine Z5 (by omega) ?_ | refine hKZ _ _ _ ?_) | (with_reducible first | refine Y2 fun K hK => ?_ | refine Y3 fun A B hA hB => ?_) <;> (simp only [go_sem]; try simp (disch := omega) only [Iw]) | ((with_reducible refine Y9 ?_); try simp only [AQ.then, AQ.blk, reduceIte, Nat.reduceEqDiff]) | ((with_reducible refine Y0 ?_); simp only [AQ.then, AQ.blk]) | (with_reducible refine hKB _ _ _ ?_) | fail)
      exact hKM _ _ _ (k + 1) (by omega) (by (refine cv_hp [52] (by omega) (by repeat' (first | (with_reducible first | exact C1 | refine C2 ?_ ?_) | ((with_reducible refine C0 ?_); exact CR (by omega) rfl) | ((with_reducible refine D0 ?_); first | exact CA rfl | refine CJ ?_) | fail)) ⟨⟨by simp, by simp [sgL], _, rfl, cvO_mobj rfl⟩, trivial⟩ (by simp [sgL]))) (by omega) (by omega)
  · have hk3 : k = 3 := by omega
    subst hk3
    repeat' (first | (with_reducible first | (refine hK _ _ _ ?_; clear hK K) | (refine hB ?_; clear hA hB A B) | refine Z1 ?_ | refine Z5 (by omega) ?_ | refine hKY _ _ _ ?_) | (with_reducible first | refine Y2 fun K hK => ?_ | refine Y3 fun A B hA hB => ?_) <;> (simp only [go_sem]) | ((with_reducible first | refine Y8 ?_ | refine Y9 ?_); try simp only [AQ.then, AQ.blk, reduceIte, Nat.reduceEqDiff]) | fail)
    refine exitP hQ (dB (decide (((metM (seen 3)).length : Int) = (s.asked.take 3).sum))) rfl rfl (congrArg dB (decide_eq_true ?_))
    rw [metM_len, hs3]; omega
theorem a_impl_BusCfg_tlmOk {c : Cfg} {s : TSt} (hb : BusOkP c) (hs : StOk c s)  (h : K (dB true) H nx) : ACall Tryz.prog n_impl_BusCfg_tlmOk [dA (eCfg c), dA (eSt s)] H nx K :=
  (c_impl_BusCfg_tlmOk c s hb hs).pure rfl (lentL_args ⟨cvD_im rfl, cvD_im rfl, trivial⟩) (fun r hr => hr ▸ h)
theorem c_impl_TlmOk0 (c : Cfg) (hb : BusOkP c) (hcf : CfgFit c) : ACall Tryz.prog n_impl_TlmOk [dA (eCfg c), dA (eSt st0)] .nil 0 fun rr _ _ => rr.plain = true ∧ rr = dB true := by
  refine en_impl_TlmOk rfl fun Q hQ => ?_
  unfold ac_impl_TlmOk
  generalize hs0 : st0 = s0 at *
  have hok : ∀ {H : Heap} {nx : Nat} {K : D → Heap → Nat → Prop}, K (dB true) H nx → ACall Tryz.prog n_impl_BusCfg_tlmOk [dA (eCfg c), dA (eSt s0)] H nx K := fun h => by subst hs0; exact a_impl_BusCfg_tlmOk hb (st0_ok c) h
  repeat' (first | (with_reducible first | (refine hK _ _ _ ?_; clear hK K) | refine Z1 ?_) | (first | (with_reducible refine Y2 fun K hK => ?_) | (refine a_impl_BusOk hcf ?_) | (refine hok ?_)) <;> (simp only [go_sem, eq_true hb]) | ((with_reducible refine Y8 ?_); try simp only [AQ.then, AQ.blk, reduceIte, Nat.reduceEqDiff]) | fail)
  exact exitP hQ (dB true) rfl rfl rfl
theorem a_impl_TlmOk0 {c : Cfg} (hb : BusOkP c) (hcf : CfgFit c) (h : K (dB true) H nx) : ACall Tryz.prog n_impl_TlmOk [dA (eCfg c), dA (eSt st0)] H nx K :=
  (c_impl_TlmOk0 c hb hcf).pure rfl (lentL_args ⟨cvD_im rfl, cvD_im rfl, trivial⟩) fun r hr => hr ▸ h
theorem a_impl_TlmRun0 {c : Cfg} {es : List Ev} (hb : BusOkP c) (hcf : CfgFit c) (hlen : es.length ≤ 200) (hpl : Plays c st0 es) (h : K (.tup [.agg (eSt (runM c st0 es)), .c (cI es.length)]) H nx) : ACall Tryz.prog n_impl_TlmRun [dA (eCfg c), dA (eSt st0), dS (es.map eEv)] H nx K :=
  (c_impl_TlmRun c es hb hcf st0 (st0_ok c) (fun h => a_impl_TlmOk0 hb hcf h) hlen hpl).fresh rfl fun r hr => hr ▸ h
end
end Go.Proofs.YtiimjokpcbapeaaGreat
