/- Contracts: jobs in order, of the reference. -/
import Derived.Test.YtiimjokpcbapeaaGreatTe
import Derived.Test.YtiimjokpcbapeaaGreatMA
set_option linter.unusedVariables false
set_option linter.unusedSimpArgs false
set_option linter.unusedSectionVars false
namespace Go.Proofs.YtiimjokpcbapeaaGreat
open Go Go.AM
set_option maxRecDepth 100000
set_option maxHeartbeats 4000000
attribute [go_sem] eJob_fold eRsp_fold
section
variable {H : Heap} {nx : Nat} {K : D → Heap → Nat → Prop}

theorem c_spec_l5Before (a b : Job) : ACall Tryz.prog n_spec_l5Before [dA (eJob a), dA (eJob b)] .nil 0 fun rr _ _ => rr.plain = true ∧ rr = dB (befJ a b) := by
  refine en_spec_l5Before rfl fun Q hQ => ?_
  unfold ac_spec_l5Before
  repeat' (first | (with_reducible first | (refine hK _ _ _ ?_; clear hK K) | refine Z1 ?_) | (with_reducible first | refine Y2 fun K hK => ?_ | refine Y6 (fun h => ?_) fun h => ?_) <;> (simp only [go_sem]) | ((with_reducible refine Y8 ?_); try simp only [AQ.then, AQ.blk, reduceIte, Nat.reduceEqDiff]) | fail)
  all_goals first | with_reducible refine exitP hQ _ rfl rfl ?_ | skip
  all_goals first | exact dB_t (by grind) | exact dB_f (by grind) | exact dB_e (by grind)
theorem a_spec_l5Before {a : Job} {b : Job}   (h : K (dB (befJ a b)) H nx) : ACall Tryz.prog n_spec_l5Before [dA (eJob a), dA (eJob b)] H nx K :=
  (c_spec_l5Before a b).pure rfl (lentL_args ⟨cvD_im rfl, cvD_im rfl, trivial⟩) (fun r hr => hr ▸ h)
theorem c_spec_l5At (l : List Job) (who n : Int) (hl : l.length < 2 ^ 40) : ACall Tryz.prog n_spec_l5At [dS (l.map eJob), dI who, dI n] .nil 0 fun rr _ _ => rr.plain = true ∧ rr = dI (idxM (isJob who n) l) := by
  refine en_spec_l5At rfl fun Q hQ => ?_
  unfold ac_spec_l5At
  repeat' (first | (with_reducible first | (refine hK _ _ _ ?_; clear hK K) | refine Z1 ?_ | refine Z3 fun KB hKB => ?_) | (with_reducible refine Y2 fun K hK => ?_) <;> (simp only [go_sem]) | fail)
  (have hKX := hKB; clear hKB); (refine AWPL.loop (α := {k : Nat // k ≤ l.length ∧ (∀ i, i < k → isJob who n (l.getD i default) = false)}) (fun u => en [(7, dI u.1), (2, dI n), (1, dI who), (0, dS (l.map eJob))]) (fun _ => .nil) _ (fun u => l.length - u.1) ⟨0, by omega, (by intros; first | trivial | omega)⟩ (cv_nilT (Nat.le_refl _) (by repeat' (first | (with_reducible first | exact C1 | refine C2 ?_ ?_) | ((with_reducible refine D0 ?_); exact CA rfl) | fail))) ?_); (rintro ⟨k, hk, hinv⟩ KL hKL)
  repeat' (first | (with_reducible first | (refine hK _ _ _ ?_; clear hK K) | (refine hA ?_; clear hA hB A B) | (refine hB ?_; clear hA hB A B) | refine Z1 ?_ | refine Z2 ?_ | refine Z3 fun KB hKB => ?_ | refine Z6 (fun h => ?_) fun h => ?_ | refine hKX _ _ _ ?_) | (with_reducible first | refine Y2 fun K hK => ?_ | refine Y3 fun A B hA hB => ?_ | refine Y6 (fun h => ?_) fun h => ?_) <;> (simp only [go_sem]; try simp (disch := omega) only [Iw]) | ((with_reducible first | refine Y8 ?_ | refine Y9 ?_); try simp only [AQ.then, AQ.blk, reduceIte, Nat.reduceEqDiff]) | ((with_reducible refine Y0 ?_); simp only [AQ.then, AQ.blk]) | refine ⟨by omega, ?_⟩ | (with_reducible refine hKB _ _ _ ?_) | fail)
  · refine exitP hQ _ rfl rfl (dI_e (Eq.symm (idxM_at (by omega) (decide_eq_true (by omega)) hinv)))
  · (refine hKL _ _ _ ⟨k + 1, by omega, inv_succ hinv (decide_eq_false (by omega))⟩ (by omega) (by (try dsimp only); omega) (cv_nilT (Nat.le_refl _) (by repeat' (first | (with_reducible first | exact C1 | refine C2 ?_ ?_) | ((with_reducible refine D0 ?_); exact CA rfl) | fail))))
  · (refine hKL _ _ _ ⟨k + 1, by omega, inv_succ hinv (decide_eq_false (by omega))⟩ (by omega) (by (try dsimp only); omega) (cv_nilT (Nat.le_refl _) (by repeat' (first | (with_reducible first | exact C1 | refine C2 ?_ ?_) | ((with_reducible refine D0 ?_); exact CA rfl) | fail))))
  · refine exitP hQ _ rfl rfl (dI_e (Eq.symm (idxM_none fun i hi => hinv i (by omega))))
theorem a_spec_l5At {l : List Job} {who : Int} {n : Int} (hl : l.length < 2 ^ 40)  (h : K (dI (idxM (isJob who n) l)) H nx) : ACall Tryz.prog n_spec_l5At [dS (l.map eJob), dI who, dI n] H nx K :=
  (c_spec_l5At l who n hl).pure rfl (lentL_args ⟨cvD_im rfl, cvD_im rfl, cvD_im rfl, trivial⟩) (fun r hr => hr ▸ h)
theorem c_spec_l5First (c : Cfg) (l : List Job) (e : Ev) (hl : l.length < 2 ^ 40) (hp : c.progs.length = 3) (ha : asksP c e.who e.n) (hj : ∀ j ∈ l, j.who = e.who → j.n < e.n → asksP c j.who j.n) : ACall Tryz.prog n_spec_l5First [dA (eCfg c), dS (l.map eJob), dI e.who, dI e.n] .nil 0 fun rr _ _ => rr.plain = true ∧ rr = dB (decide (¬ 0 ≤ idxM (aheadJ c e) l)) := by
  refine en_spec_l5First rfl fun Q hQ => ?_
  unfold ac_spec_l5First
  obtain ⟨ha1, ha2, ha3⟩ := ha
  repeat' (first | (with_reducible first | (refine hK _ _ _ ?_; clear hK K) | refine Z1 ?_ | refine Z3 fun KB hKB => ?_) | (with_reducible refine Y2 fun K hK => ?_) <;> (simp only [go_sem]) | fail)
  (have hKX := hKB; clear hKB); (refine AWPL.loop (α := {k : Nat // k ≤ l.length ∧ (∀ i, i < k → aheadJ c e (l.getD i default) = false)}) (fun u => en [(9, dI u.1), (4, .one (.c (.iptr (eCfg c)))), (3, dI e.n), (2, dI e.who), (1, dS (l.map eJob))]) (fun _ => .nil) _ (fun u => l.length - u.1) ⟨0, by omega, (by intros; first | trivial | omega)⟩ (cv_nilT (Nat.le_refl _) (by repeat' (first | (with_reducible first | exact C1 | refine C2 ?_ ?_) | ((with_reducible refine D0 ?_); first | exact CA rfl | exact CI rfl (by simp) rfl rfl rfl) | fail))) ?_); (rintro ⟨k, hk, hinv⟩ KL hKL)
  by_cases hlt : k < l.length
  · by_cases hcond : (l.getD k default).who = e.who ∧ (l.getD k default).n < e.n
    · obtain ⟨hj1, hj2, hj3⟩ := hj (l.getD k default) (by simp [List.getD, hlt]) hcond.1 hcond.2
      rw [hcond.1] at hj3
      repeat' (first | (with_reducible first | (refine hK _ _ _ ?_; clear hK K) | (refine hA ?_; clear hA hB A B) | (refine hB ?_; clear hA hB A B) | refine Z1 ?_ | refine Z2 ?_ | refine Z3 fun KB hKB => ?_ | refine Z4 (by omega) ?_ | refine Z6 (fun h => ?_) fun h => ?_) | (with_reducible first | refine Y2 fun K hK => ?_ | refine Y3 fun A B hA hB => ?_ | refine Y4 (by omega) ?_) <;> (simp only [go_sem]; try simp (disch := omega) only [Iw]) | ((with_reducible refine Y8 ?_); try simp only [AQ.then, AQ.blk, reduceIte, Nat.reduceEqDiff]) | ((with_reducible refine Y0 ?_); simp only [AQ.then, AQ.blk]) | refine ⟨by omega, ?_⟩ | (with_reducible refine hKB _ _ _ ?_) | fail)
      · refine exitP hQ _ rfl rfl (dB_f (fun hm => hm (idxM_nonneg.2 ⟨l.getD k default, by simp [List.getD, hlt], decide_eq_true (by unfold reqAt; grind)⟩)))
      · (refine hKL _ _ _ ⟨k + 1, by omega, inv_succ hinv (decide_eq_false (by unfold reqAt; grind))⟩ (by omega) (by (try dsimp only); omega) (cv_nilT (Nat.le_refl _) (by repeat' (first | (with_reducible first | exact C1 | refine C2 ?_ ?_) | ((with_reducible refine D0 ?_); exact CA rfl) | fail))))
    · repeat' (first | (with_reducible first | (refine hK _ _ _ ?_; clear hK K) | (refine hA ?_; clear hA hB A B) | (refine hB ?_; clear hA hB A B) | refine Z1 ?_ | refine Z2 ?_ | refine Z3 fun KB hKB => ?_ | refine Z4 (by omega) ?_) | (with_reducible first | refine Y2 fun K hK => ?_ | refine Y3 fun A B hA hB => ?_ | refine Y5 (by omega) ?_ | refine Y6 (fun h => ?_) fun h => ?_) <;> (simp only [go_sem]; try simp (disch := omega) only [Iw]) | ((with_reducible refine Y0 ?_); simp only [AQ.then, AQ.blk]) | refine ⟨by omega, ?_⟩ | (with_reducible refine hKB _ _ _ ?_) | fail)
      · (refine hKL _ _ _ ⟨k + 1, by omega, inv_succ hinv (decide_eq_false (by grind))⟩ (by omega) (by (try dsimp only); omega) (cv_nilT (Nat.le_refl _) (by repeat' (first | (with_reducible first | exact C1 | refine C2 ?_ ?_) | ((with_reducible refine D0 ?_); exact CA rfl) | fail))))
      · (refine hKL _ _ _ ⟨k + 1, by omega, inv_succ hinv (decide_eq_false (by grind))⟩ (by omega) (by (try dsimp only); omega) (cv_nilT (Nat.le_refl _) (by repeat' (first | (with_reducible first | exact C1 | refine C2 ?_ ?_) | ((with_reducible refine D0 ?_); exact CA rfl) | fail))))
  · repeat' (first | (with_reducible first | (refine hK _ _ _ ?_; clear hK K) | (refine hB ?_; clear hA hB A B) | refine Z1 ?_ | refine Z5 (by omega) ?_ | refine hKX _ _ _ ?_) | (with_reducible first | refine Y2 fun K hK => ?_ | refine Y3 fun A B hA hB => ?_) <;> (simp only [go_sem]) | ((with_reducible first | refine Y8 ?_ | refine Y9 ?_); try simp only [AQ.then, AQ.blk, reduceIte, Nat.reduceEqDiff]) | fail)
    · refine exitP hQ _ rfl rfl (dB_t (by rw [idxM_none fun i hi => hinv i (by omega)]; omega))
theorem a_spec_l5First {c : Cfg} {l : List Job} {e : Ev} (hl : l.length < 2 ^ 40) (hp : c.progs.length = 3) (ha : asksP c e.who e.n) (hj : ∀ j ∈ l, j.who = e.who → j.n < e.n → asksP c j.who j.n)  (h : K (dB (decide (¬ 0 ≤ idxM (aheadJ c e) l))) H nx) : ACall Tryz.prog n_spec_l5First [dA (eCfg c), dS (l.map eJob), dI e.who, dI e.n] H nx K :=
  (c_spec_l5First c l e hl hp ha hj).pure rfl (lentL_args ⟨cvD_im rfl, cvD_im rfl, cvD_im rfl, cvD_im rfl, trivial⟩) (fun r hr => hr ▸ h)
theorem c_spec_l5Put (l : List Job) (j : Job) (hl : l.length < 2 ^ 20) : ACall Tryz.prog n_spec_l5Put [dS (l.map eJob), dA (eJob j)] .nil 0 fun rr _ nn => nn = 0 ∧ rr.imm = true ∧ rr = dS ((putJ l j).map eJob) := by
  refine en_spec_l5Put rfl fun Q hQ => ?_
  unfold ac_spec_l5Put
  generalize hf : l.findIdx (befJ j) = f
  repeat' (first | (with_reducible first | (refine hK _ _ _ ?_; clear hK K) | refine Z1 ?_ | refine Z3 fun KB hKB => ?_) | (with_reducible refine Y2 fun K hK => ?_) <;> (simp only [go_sem]) | fail)
  (have hKX := hKB; clear hKB)
  refine AWPL.loopN 1 (α := {p : Nat × Nat // p.1 ≤ l.length ∧ (putK l j f p.1).length ≤ p.2}) (fun b u => en [(7, dI u.1.1), (6, dB (decide (f < u.1.1))), (5, dO 5 b (putK l j f u.1.1).length u.1.2), (3, .one (.c (.iptr (eJob j)))), (0, dS (l.map eJob))])
    (fun b u => hp [(b, ⟨5, u.1.2, (putK l j f u.1.1).map eJob⟩)]) (fun u => l.length - u.1.1) ⟨(0, 0), by omega, by simp [putK]⟩ (by (refine cv_hp [2] (by omega) (by repeat' (first | (with_reducible first | exact C1 | refine C2 ?_ ?_) | ((with_reducible refine C0 ?_); exact CC) | ((with_reducible refine D0 ?_); first | exact CA rfl | exact CI rfl (by simp) rfl rfl rfl | refine CJ ?_) | fail)) ⟨⟨by simp, by simp [sgL], _, rfl, cvO_E (immR_map eJob_ok _) rfl rfl⟩, trivial⟩ (by simp [sgL]))) ?_
  rintro ⟨⟨k, cap⟩, hk, hc⟩ KL hKL
  dsimp only at hk hc
  have hlen := putK_len (j := j) (f := f) hk
  by_cases hlt : k < l.length
  · have hb := fun hkf : k ≤ f => befJ_at (j := j) hlt (hf ▸ hkf)
    rw [hf] at hb
    repeat' (first | (with_reducible first | (refine hK _ _ _ ?_; clear hK K) | (refine hA ?_; clear hA hB A B) | (refine hB ?_; clear hA hB A B) | refine Z1 ?_ | refine Z2 ?_ | refine Z3 fun KB hKB => ?_ | refine Z4 (by omega) ?_ | refine fun (cap : Nat) (hcap : _ ≤ cap) => ?_ | refine fun (hcp : _ ≤ cap) => ?_) | (first | (with_reducible first | refine Y2 fun K hK => ?_ | refine Y3 fun A B hA hB => ?_ | refine Y6 (fun h => ?_) fun h => ?_) | (with_reducible refine a_spec_l5Before ?_)) <;> (simp only [go_sem]; try simp (disch := omega) only [Iw]) | ((with_reducible refine Y0 ?_); simp only [AQ.then, AQ.blk]) | ((with_reducible refine Z8 (fun h => ?_) (fun h => ?_)) <;> try subst h) | refine ⟨by omega, ?_⟩ | (with_reducible refine hKB _ _ _ ?_) | fail)
    · have H := putK_eq (j := j) hlt (show k = f from (hb (by omega)).1 (by assumption))
      have HL := congrArg List.length H
      simp only [List.length_append, List.length_cons, List.length_nil] at HL
      have hkf := (hb (by omega)).1 (by assumption)
      (refine hKL _ _ _ ⟨(k + 1, cap), by omega, by dsimp only; omega⟩ (by omega) (by (try dsimp only); omega) (by (refine cv_hp [33] (by omega) (by repeat' (first | (with_reducible first | exact C1 | refine C2 ?_ ?_) | ((with_reducible refine C0 ?_); first | exact CQ (by omega) rfl rfl (by first | rfl | omega) rfl | (exact CG (by ((try dsimp only); exact dbT (by omega))) rfl)) | ((with_reducible refine D0 ?_); first | exact CA rfl | refine CJ ?_) | fail)) ⟨⟨by simp, by simp [sgL], _, rfl, cvO_E (immR_map eJob_ok _) (congrArg _ H) rfl⟩, trivial⟩ (by simp [sgL]))))
    · have hne : ¬ k = f := fun he => by have := (hb (by omega)).2 he; simp_all
      have H := putK_lt (j := j) hlt (show k < f by omega)
      have HL := congrArg List.length H
      simp only [List.length_append, List.length_cons, List.length_nil] at HL
      (refine hKL _ _ _ ⟨(k + 1, cap), by omega, by dsimp only; omega⟩ (by omega) (by (try dsimp only); omega) (by (refine cv_hp [27] (by omega) (by repeat' (first | (with_reducible first | exact C1 | refine C2 ?_ ?_) | ((with_reducible refine C0 ?_); first | exact CQ (by omega) rfl rfl (by first | rfl | omega) rfl | (exact CG (by ((try dsimp only); exact dbE (by omega))) rfl)) | ((with_reducible refine D0 ?_); first | exact CA rfl | refine CJ ?_) | fail)) ⟨⟨by simp, by simp [sgL], _, rfl, cvO_E (immR_map eJob_ok _) (congrArg _ H) rfl⟩, trivial⟩ (by simp [sgL]))))
    · have H := putK_gt (j := j) hlt (show f < k by omega)
      have HL := congrArg List.length H
      simp only [List.length_append, List.length_cons, List.length_nil] at HL
      (refine hKL _ _ _ ⟨(k + 1, cap), by omega, by dsimp only; omega⟩ (by omega) (by (try dsimp only); omega) (by (refine cv_hp [27] (by omega) (by repeat' (first | (with_reducible first | exact C1 | refine C2 ?_ ?_) | ((with_reducible refine C0 ?_); first | exact CQ (by omega) rfl rfl (by first | rfl | omega) rfl | (exact CG (by ((try dsimp only); exact dbE (by omega))) rfl)) | ((with_reducible refine D0 ?_); first | exact CA rfl | refine CJ ?_) | fail)) ⟨⟨by simp, by simp [sgL], _, rfl, cvO_E (immR_map eJob_ok _) (congrArg _ H) rfl⟩, trivial⟩ (by simp [sgL]))))
  · have hk2 : k = l.length := by omega
    subst hk2
    subst hf
    repeat' (first | (with_reducible first | (refine hK _ _ _ ?_; clear hK K) | (refine hA ?_; clear hA hB A B) | (refine hB ?_; clear hA hB A B) | refine Z1 ?_ | refine Z2 ?_ | refine Z5 (by omega) ?_ | refine Z6 (fun h => ?_) fun h => ?_ | refine fun (cap : Nat) (hcap : _ ≤ cap) => ?_ | refine fun (hcp : _ ≤ cap) => ?_ | refine hKX _ _ _ ?_) | (with_reducible first | refine Y2 fun K hK => ?_ | refine Y3 fun A B hA hB => ?_) <;> (simp only [go_sem]) | ((with_reducible first | refine Y8 ?_ | refine Y9 ?_); try simp only [AQ.then, AQ.blk, reduceIte, Nat.reduceEqDiff]) | refine ⟨by omega, ?_⟩ | fail)
    · exact exitF hQ (dS _) _ rfl (cvD_frzM (l := putK l j _ l.length ++ [j]) eJob_ok rfl (by simp) (by simp; omega) trivial) rfl (by rw [putK_end' (by omega)])
    · exact exitF hQ (dS _) _ rfl (cvD_frzM (l := putK l j _ l.length) eJob_ok rfl (by simp) (by omega) trivial) rfl (by rw [putK_end (by omega)])
theorem a_spec_l5Put {l : List Job} {j : Job} (hl : l.length < 2 ^ 20) (h : K (dS ((putJ l j).map eJob)) H nx) : ACall Tryz.prog n_spec_l5Put [dS (l.map eJob), dA (eJob j)] H nx K :=
  (c_spec_l5Put l j hl).fresh rfl (fun r hr => hr ▸ h)
end
end Go.Proofs.YtiimjokpcbapeaaGreat
