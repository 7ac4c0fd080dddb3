/- Contracts of small functions. -/
import Derived.Test.YtiimjokpcbapeaaGreatAcA
import Derived.Test.YtiimjokpcbapeaaGreatAcB
import Derived.Test.YtiimjokpcbapeaaGreatAcC
import Derived.Test.YtiimjokpcbapeaaGreatAcD
import Derived.Test.YtiimjokpcbapeaaGreatMA
set_option linter.unusedVariables false
set_option linter.unusedSimpArgs false
set_option linter.unusedSectionVars false
namespace Go.Proofs.YtiimjokpcbapeaaGreat
open Go Go.AM
set_option maxRecDepth 100000
section
variable {H : Heap} {nx : Nat} {K : D → Heap → Nat → Prop}

theorem c_impl_in (n lo up : Int) : ACall Tryz.prog n_impl_in [dI n, dI lo, dI up] .nil 0 fun rr _ _ => rr.plain = true ∧ rr = dB (decide (lo ≤ n ∧ n ≤ up)) := by
  refine en_impl_in rfl fun Q hQ => ?_
  unfold ac_impl_in
  repeat' (first | (with_reducible first | (refine hK _ _ _ ?_; clear hK K) | refine Z1 ?_) | (with_reducible first | refine Y2 fun K hK => ?_ | refine Y6 (fun h => ?_) fun h => ?_) <;> (simp only [go_sem]) | ((with_reducible refine Y8 ?_); try simp only [AQ.then, AQ.blk, reduceIte, Nat.reduceEqDiff]) | fail)
  all_goals first | with_reducible refine exitP hQ _ rfl rfl ?_ | skip
  all_goals first | exact dB_e (by omega) | exact dB_t (by omega) | exact dB_f (by omega) | rfl
theorem a_impl_in {n : Int} {lo : Int} {up : Int}   (h : K (dB (decide (lo ≤ n ∧ n ≤ up))) H nx) : ACall Tryz.prog n_impl_in [dI n, dI lo, dI up] H nx K :=
  (c_impl_in n lo up).pure rfl (lentL_args ⟨cvD_im rfl, cvD_im rfl, cvD_im rfl, trivial⟩) (fun r hr => hr ▸ h)
theorem c_spec_l1In (n lo up : Int) : ACall Tryz.prog n_spec_l1In [dI n, dI lo, dI up] .nil 0 fun rr _ _ => rr.plain = true ∧ rr = dB (decide (lo ≤ n ∧ n ≤ up)) := by
  refine en_spec_l1In rfl fun Q hQ => ?_
  unfold ac_spec_l1In
  repeat' (first | (with_reducible first | (refine hK _ _ _ ?_; clear hK K) | refine Z1 ?_) | (with_reducible first | refine Y2 fun K hK => ?_ | refine Y6 (fun h => ?_) fun h => ?_) <;> (simp only [go_sem]) | ((with_reducible refine Y8 ?_); try simp only [AQ.then, AQ.blk, reduceIte, Nat.reduceEqDiff]) | fail)
  all_goals first | with_reducible refine exitP hQ _ rfl rfl ?_ | skip
  all_goals first | exact dB_e (by omega) | exact dB_t (by omega) | exact dB_f (by omega) | rfl
theorem a_spec_l1In {n : Int} {lo : Int} {up : Int}   (h : K (dB (decide (lo ≤ n ∧ n ≤ up))) H nx) : ACall Tryz.prog n_spec_l1In [dI n, dI lo, dI up] H nx K :=
  (c_spec_l1In n lo up).pure rfl (lentL_args ⟨cvD_im rfl, cvD_im rfl, cvD_im rfl, trivial⟩) (fun r hr => hr ▸ h)
theorem c_impl_isMaster (n : Int) : ACall Tryz.prog n_impl_isMaster [dI n] .nil 0 fun rr _ _ => rr.plain = true ∧ rr = dB (decide (0 ≤ n ∧ n ≤ 2)) := by
  refine en_impl_isMaster rfl fun Q hQ => ?_
  unfold ac_impl_isMaster
  repeat' (first | (with_reducible first | (refine hK _ _ _ ?_; clear hK K) | refine Z1 ?_) | (first | (with_reducible refine Y2 fun K hK => ?_) | (with_reducible refine a_impl_in ?_)) <;> (simp only [go_sem]) | ((with_reducible refine Y8 ?_); try simp only [AQ.then, AQ.blk, reduceIte, Nat.reduceEqDiff]) | fail)
  all_goals first | with_reducible refine exitP hQ _ rfl rfl ?_ | skip
  all_goals first | exact dB_e (by omega) | exact dB_t (by omega) | exact dB_f (by omega) | rfl
theorem a_impl_isMaster {n : Int}   (h : K (dB (decide (0 ≤ n ∧ n ≤ 2))) H nx) : ACall Tryz.prog n_impl_isMaster [dI n] H nx K :=
  (c_impl_isMaster n).pure rfl (lentL_args ⟨cvD_im rfl, trivial⟩) (fun r hr => hr ▸ h)
theorem c_impl_isWord (n : Int) : ACall Tryz.prog n_impl_isWord [dI n] .nil 0 fun rr _ _ => rr.plain = true ∧ rr = dB (decide (0 ≤ n ∧ n ≤ 65535)) := by
  refine en_impl_isWord rfl fun Q hQ => ?_
  unfold ac_impl_isWord
  repeat' (first | (with_reducible first | (refine hK _ _ _ ?_; clear hK K) | refine Z1 ?_) | (first | (with_reducible refine Y2 fun K hK => ?_) | (with_reducible refine a_impl_in ?_)) <;> (simp only [go_sem]) | ((with_reducible refine Y8 ?_); try simp only [AQ.then, AQ.blk, reduceIte, Nat.reduceEqDiff]) | fail)
  all_goals first | with_reducible refine exitP hQ _ rfl rfl ?_ | skip
  all_goals first | exact dB_e (by omega) | exact dB_t (by omega) | exact dB_f (by omega) | rfl
theorem a_impl_isWord {n : Int}   (h : K (dB (decide (0 ≤ n ∧ n ≤ 65535))) H nx) : ACall Tryz.prog n_impl_isWord [dI n] H nx K :=
  (c_impl_isWord n).pure rfl (lentL_args ⟨cvD_im rfl, trivial⟩) (fun r hr => hr ▸ h)
theorem c_impl_AdrOk (addr many : Int) (wrap : Bool) : ACall Tryz.prog n_impl_AdrOk [dI addr, dI many, dB wrap] .nil 0 fun rr _ _ => rr.plain = true ∧ rr = dB (decide (AdrOkP addr many wrap)) := by
  refine en_impl_AdrOk rfl fun Q hQ => ?_
  unfold ac_impl_AdrOk
  repeat' (first | (with_reducible first | (refine hK _ _ _ ?_; clear hK K) | refine Z1 ?_) | (first | (with_reducible first | refine Y2 fun K hK => ?_ | refine Y6 (fun h => ?_) fun h => ?_ | (refine Y7 (fun h => ?_) (fun h => ?_) <;> try subst h)) | (with_reducible refine a_impl_in ?_)) <;> (simp only [go_sem]; try simp (disch := omega) only [Iw]) | ((with_reducible refine Y8 ?_); try simp only [AQ.then, AQ.blk, reduceIte, Nat.reduceEqDiff]) | fail)
  all_goals first | with_reducible refine exitP hQ _ rfl rfl ?_ | skip
  all_goals unfold AdrOkP
  all_goals first | exact dB_e (by simp; omega) | exact dB_t (by simp; omega) | exact dB_f (by simp; omega)
theorem a_impl_AdrOk {addr : Int} {many : Int} {wrap : Bool}   (h : K (dB (decide (AdrOkP addr many wrap))) H nx) : ACall Tryz.prog n_impl_AdrOk [dI addr, dI many, dB wrap] H nx K :=
  (c_impl_AdrOk addr many wrap).pure rfl (lentL_args ⟨cvD_im rfl, cvD_im rfl, cvD_im rfl, trivial⟩) (fun r hr => hr ▸ h)
theorem c_spec_AdrOk (addr many : Int) (wrap : Bool) : ACall Tryz.prog n_spec_AdrOk [dI addr, dI many, dB wrap] .nil 0 fun rr _ _ => rr.plain = true ∧ rr = dB (decide (AdrOkP addr many wrap)) := by
  refine en_spec_AdrOk rfl fun Q hQ => ?_
  unfold ac_spec_AdrOk
  repeat' (first | (with_reducible first | (refine hK _ _ _ ?_; clear hK K) | (refine hA ?_; clear hA hB A B) | (refine hB ?_; clear hA hB A B) | refine Z1 ?_ | refine Z2 ?_ | refine Z6 (fun h => ?_) fun h => ?_) | (first | (with_reducible first | refine Y2 fun K hK => ?_ | refine Y3 fun A B hA hB => ?_ | refine Y6 (fun h => ?_) fun h => ?_ | (refine Y7 (fun h => ?_) (fun h => ?_) <;> try subst h)) | (with_reducible refine a_spec_l1In ?_)) <;> (simp only [go_sem]; try simp (disch := omega) only [Iw]) | ((with_reducible refine Y8 ?_); try simp only [AQ.then, AQ.blk, reduceIte, Nat.reduceEqDiff]) | fail)
  all_goals first | with_reducible refine exitP hQ _ rfl rfl ?_ | skip
  all_goals unfold AdrOkP
  all_goals first | exact dB_e (by simp; omega) | exact dB_t (by simp; omega) | exact dB_f (by simp; omega)
theorem a_spec_AdrOk {addr : Int} {many : Int} {wrap : Bool}   (h : K (dB (decide (AdrOkP addr many wrap))) H nx) : ACall Tryz.prog n_spec_AdrOk [dI addr, dI many, dB wrap] H nx K :=
  (c_spec_AdrOk addr many wrap).pure rfl (lentL_args ⟨cvD_im rfl, cvD_im rfl, cvD_im rfl, trivial⟩) (fun r hr => hr ▸ h)
theorem c_spec_l1Find (l : List Rng) (addr : Int) (hl : l.length < 2 ^ 40) : ACall Tryz.prog n_spec_l1Find [dS (l.map eRng), dI addr] .nil 0 fun rr _ _ => rr.plain = true ∧ rr = dI (idxM (inR · addr) l) := by
  refine en_spec_l1Find rfl fun Q hQ => ?_
  unfold ac_spec_l1Find
  repeat' (first | (with_reducible first | (refine hK _ _ _ ?_; clear hK K) | refine Z1 ?_ | refine Z3 fun KB hKB => ?_) | (with_reducible refine Y2 fun K hK => ?_) <;> (simp only [go_sem]) | fail)
  (have hKX := hKB; clear hKB); (refine AWPL.loop (α := {k : Nat // k ≤ l.length ∧ (∀ i, i < k → inR (l.getD i default) addr = false)}) (fun u => en [(5, dI u.1), (1, dI addr), (0, dS (l.map eRng))]) (fun _ => .nil) _ (fun u => l.length - u.1) ⟨0, by omega, (by intros; first | trivial | omega)⟩ (cv_nilT (Nat.le_refl _) (by repeat' (first | (with_reducible first | exact C1 | refine C2 ?_ ?_) | ((with_reducible refine D0 ?_); exact CA rfl) | fail))) ?_); (rintro ⟨k, hk, hinv⟩ KL hKL)
  repeat' (first | (with_reducible first | (refine hK _ _ _ ?_; clear hK K) | (refine hA ?_; clear hA hB A B) | (refine hB ?_; clear hA hB A B) | refine Z1 ?_ | refine Z2 ?_ | refine Z3 fun KB hKB => ?_ | refine Z6 (fun h => ?_) fun h => ?_ | refine hKX _ _ _ ?_) | (first | (with_reducible first | refine Y2 fun K hK => ?_ | refine Y3 fun A B hA hB => ?_) | (with_reducible refine a_spec_l1In ?_)) <;> (simp only [go_sem]; try simp (disch := omega) only [Iw]) | ((with_reducible first | refine Y8 ?_ | refine Y9 ?_); try simp only [AQ.then, AQ.blk, reduceIte, Nat.reduceEqDiff]) | ((with_reducible refine Y0 ?_); simp only [AQ.then, AQ.blk]) | refine ⟨by omega, ?_⟩ | (with_reducible refine hKB _ _ _ ?_) | fail)
  · refine exitP hQ _ rfl rfl (dI_e (Eq.symm (idxM_at (by omega) (decide_eq_true (by omega)) hinv)))
  · (refine hKL _ _ _ ⟨k + 1, by omega, inv_succ hinv (decide_eq_false (by omega))⟩ (by omega) (by (try dsimp only); omega) (cv_nilT (Nat.le_refl _) (by repeat' (first | (with_reducible first | exact C1 | refine C2 ?_ ?_) | ((with_reducible refine D0 ?_); exact CA rfl) | fail))))
  · refine exitP hQ _ rfl rfl (dI_e (Eq.symm (idxM_none fun i hi => hinv i (by omega))))
theorem a_spec_l1Find {l : List Rng} {addr : Int} (hl : l.length < 2 ^ 40)  (h : K (dI (idxM (inR · addr) l)) H nx) : ACall Tryz.prog n_spec_l1Find [dS (l.map eRng), dI addr] H nx K :=
  (c_spec_l1Find l addr hl).pure rfl (lentL_args ⟨cvD_im rfl, cvD_im rfl, trivial⟩) (fun r hr => hr ▸ h)
theorem c_spec_l1Whole (l : List Rng) (all : List Int) (hl : l.length < 2 ^ 40) (ha : all.length < 2 ^ 40) : ACall Tryz.prog n_spec_l1Whole [dS (l.map eRng), dS (all.map eInt)] .nil 0 fun rr _ _ => rr.plain = true ∧ rr = dI (wholeM l all) := by
  refine en_spec_l1Whole rfl fun Q hQ => ?_
  unfold ac_spec_l1Whole
  repeat' (first | (with_reducible first | (refine hK _ _ _ ?_; clear hK K) | (refine hA ?_; clear hA hB A B) | (refine hB ?_; clear hA hB A B) | refine Z1 ?_ | refine Z2 ?_ | refine Z3 fun KB hKB => ?_ | refine Z6 (fun h => ?_) fun h => ?_) | (first | (with_reducible first | refine Y2 fun K hK => ?_ | refine Y3 fun A B hA hB => ?_) | (with_reducible refine a_spec_l1Find hl ?_)) <;> (simp only [go_sem]) | ((with_reducible refine Y8 ?_); try simp only [AQ.then, AQ.blk, reduceIte, Nat.reduceEqDiff]) | refine ⟨by omega, ?_⟩ | fail)
  · exact exitP hQ _ rfl rfl (dI_e (wholeM_nil (by omega)).symm)
  (have hKX := hKB; clear hKB); (refine AWPL.loop (α := {k : Nat // k ≤ all.length ∧ (∀ i, i < k → 1 ≤ i → idxM (inR · (all.getD i default)) l = idxM (inR · (all.getD 0 default)) l)}) (fun u => en [(6, dI u.1), (5, dI (idxM (inR · (all.getD 0 default)) l)), (1, dS (all.map eInt)), (0, dS (l.map eRng))]) (fun _ => .nil) _ (fun u => all.length - u.1) ⟨1, by omega, (by intros; first | trivial | omega)⟩ (cv_nilT (Nat.le_refl _) (by repeat' (first | (with_reducible first | exact C1 | refine C2 ?_ ?_) | ((with_reducible refine D0 ?_); exact CA rfl) | fail))) ?_); (rintro ⟨k, hk, hinv⟩ KL hKL)
  repeat' (first | (with_reducible first | (refine hK _ _ _ ?_; clear hK K) | (refine hA ?_; clear hA hB A B) | (refine hB ?_; clear hA hB A B) | refine Z1 ?_ | refine Z2 ?_ | refine Z3 fun KB hKB => ?_ | refine Z6 (fun h => ?_) fun h => ?_ | refine hKX _ _ _ ?_) | (first | (with_reducible first | refine Y2 fun K hK => ?_ | refine Y3 fun A B hA hB => ?_) | (with_reducible refine a_spec_l1Find hl ?_)) <;> (simp only [go_sem]; try simp (disch := omega) only [Iw]) | ((with_reducible first | refine Y8 ?_ | refine Y9 ?_); try simp only [AQ.then, AQ.blk, reduceIte, Nat.reduceEqDiff]) | ((with_reducible refine Y0 ?_); simp only [AQ.then, AQ.blk]) | refine ⟨by omega, ?_⟩ | (with_reducible refine hKB _ _ _ ?_) | fail)
  · exact exitP hQ _ rfl rfl (dI_e (wholeM_no (i := k) (by omega) (by omega)).symm)
  · (refine hKL _ _ _ ⟨k + 1, by omega, inv_succ hinv (fun _ => by omega)⟩ (by omega) (by (try dsimp only); omega) (cv_nilT (Nat.le_refl _) (by repeat' (first | (with_reducible first | exact C1 | refine C2 ?_ ?_) | ((with_reducible refine D0 ?_); exact CA rfl) | fail))))
  · exact exitP hQ _ rfl rfl (dI_e (wholeM_yes (by omega) (fun i hi => hinv i (by omega))).symm)
theorem a_spec_l1Whole {l : List Rng} {all : List Int} (hl : l.length < 2 ^ 40) (ha : all.length < 2 ^ 40)  (h : K (dI (wholeM l all)) H nx) : ACall Tryz.prog n_spec_l1Whole [dS (l.map eRng), dS (all.map eInt)] H nx K :=
  (c_spec_l1Whole l all hl ha).pure rfl (lentL_args ⟨cvD_im rfl, cvD_im rfl, trivial⟩) (fun r hr => hr ▸ h)
theorem c_spec_l3Writes (q : Req) : ACall Tryz.prog n_spec_l3Writes [dA (eReq q)] .nil 0 fun rr _ _ => rr.plain = true ∧ rr = dB (wrM q) := by
  refine en_spec_l3Writes rfl fun Q hQ => ?_
  unfold ac_spec_l3Writes
  repeat' (first | (with_reducible first | (refine hK _ _ _ ?_; clear hK K) | refine Z1 ?_) | (with_reducible first | refine Y2 fun K hK => ?_ | refine Y6 (fun h => ?_) fun h => ?_) <;> (simp only [go_sem]) | ((with_reducible refine Y8 ?_); try simp only [AQ.then, AQ.blk, reduceIte, Nat.reduceEqDiff]) | fail)
  all_goals first | with_reducible refine exitP hQ _ rfl rfl ?_ | skip
  all_goals unfold wrM
  all_goals first | exact dB_e (by omega) | exact dB_t (by omega) | exact dB_f (by omega) | rfl
theorem a_spec_l3Writes {q : Req}   (h : K (dB (wrM q)) H nx) : ACall Tryz.prog n_spec_l3Writes [dA (eReq q)] H nx K :=
  (c_spec_l3Writes q).pure rfl (lentL_args ⟨cvD_im rfl, trivial⟩) (fun r hr => hr ▸ h)
theorem c_spec_AdrBurst (addr many : Int) (wrap : Bool) : ACall Tryz.prog n_spec_AdrBurst [dI addr, dI many, dB wrap] .nil 0 fun rr _ nn => nn = 0 ∧ rr.imm = true ∧ rr = dS ((burstM addr many wrap).map eInt) := by
  refine en_spec_AdrBurst rfl fun Q hQ => ?_
  unfold ac_spec_AdrBurst
  repeat' (first | (with_reducible first | (refine hK _ _ _ ?_; clear hK K) | (refine hA ?_; clear hA hB A B) | (refine hB ?_; clear hA hB A B) | refine Z1 ?_ | refine Z2 ?_ | refine Z6 (fun h => ?_) fun h => ?_) | (first | (with_reducible first | refine Y2 fun K hK => ?_ | refine Y3 fun A B hA hB => ?_) | (with_reducible refine a_spec_AdrOk ?_)) <;> (simp only [go_sem]) | ((with_reducible refine Y8 ?_); try simp only [AQ.then, AQ.blk, reduceIte, Nat.reduceEqDiff]) | fail)
  · exact exitF hQ (dS []) _ rfl cv1_frz0 rfl (by simp [burstM, h])
  have hok := Classical.not_not.1 h
  obtain ⟨f1, f2, f3, f4, f5, f6, f7, f8⟩ := adrOk_facts hok
  clear h
  rw [f6]
  refine ⟨f1, ?_⟩
  rw [IntWalk.i64_in (addr - _) (by omega)]
  repeat' (first | (with_reducible first | (refine hK _ _ _ ?_; clear hK K) | refine Z1 ?_ | refine Z3 fun KB hKB => ?_) | (with_reducible refine Y2 fun K hK => ?_) <;> (simp only [go_sem]) | fail)
  (have hKX := hKB; clear hKB)
  refine AWPL.loopN 1 (α := {p : Nat × Nat // p.1 ≤ many.toNat ∧ p.1 ≤ p.2}) (fun b u => en [(9, dI u.1.1), (8, dI (addr - addr % many)), (7, dO 1 b u.1.1 u.1.2), (2, dB wrap), (1, dI many), (0, dI addr)])
    (fun b u => hp [(b, ⟨1, u.1.2, ((List.range u.1.1).map (bAt addr many wrap)).map eInt⟩)]) (fun u => many.toNat - u.1.1) ⟨(0, 0), by omega, by omega⟩ (by (refine cv_hp [1] (by omega) (by repeat' (first | (with_reducible first | exact C1 | refine C2 ?_ ?_) | ((with_reducible refine C0 ?_); exact CC) | ((with_reducible refine D0 ?_); first | exact CA rfl | refine CJ ?_) | fail)) ⟨⟨by simp, by simp [sgL], _, rfl, cvO_E (immR_map eInt_ok _) rfl rfl⟩, trivial⟩ (by simp [sgL]))) ?_
  rintro ⟨⟨k, cap⟩, hk, hc⟩ KL hKL
  dsimp only at hk hc
  by_cases hlt : k < many.toNat
  · obtain ⟨g1, g2, g3⟩ := bAt_facts hok k hlt
    repeat' (first | (with_reducible first | (refine hK _ _ _ ?_; clear hK K) | (refine hA ?_; clear hA hB A B) | (refine hB ?_; clear hA hB A B) | refine Z1 ?_ | refine Z2 ?_ | refine Z3 fun KB hKB => ?_ | refine Z4 (by omega) ?_ | refine fun (cap : Nat) (hcap : _ ≤ cap) => ?_ | refine fun (hcp : _ ≤ cap) => ?_) | (with_reducible first | refine Y2 fun K hK => ?_ | refine Y3 fun A B hA hB => ?_) <;> (simp only [go_sem]; try simp (disch := omega) only [Iw]) | ((with_reducible refine Y0 ?_); simp only [AQ.then, AQ.blk]) | ((with_reducible refine Z8 (fun h => ?_) (fun h => ?_)) <;> try subst h) | refine ⟨by omega, ?_⟩ | (with_reducible refine hKB _ _ _ ?_) | fail)
    · refine hKL _ _ _ ⟨(k + 1, cap), by omega, by omega⟩ (by omega) (by dsimp only; omega) (by (refine cv_hp [31] (by omega) (by repeat' (first | (with_reducible first | exact C1 | refine C2 ?_ ?_) | ((with_reducible refine C0 ?_); exact CQ (by omega) rfl rfl (by rfl) rfl) | ((with_reducible refine D0 ?_); first | exact CA rfl | refine CJ ?_) | fail)) ⟨⟨by simp, by simp [sgL], _, rfl, cvO_E (immR_map eInt_ok _) (congrArg _ (burst_snoc (by simp only [bAt, if_true]; exact g3))) rfl⟩, trivial⟩ (by simp [sgL])))
    · refine hKL _ _ _ ⟨(k + 1, cap), by omega, by omega⟩ (by omega) (by dsimp only; omega) (by (refine cv_hp [25] (by omega) (by repeat' (first | (with_reducible first | exact C1 | refine C2 ?_ ?_) | ((with_reducible refine C0 ?_); exact CQ (by omega) rfl rfl (by rfl) rfl) | ((with_reducible refine D0 ?_); first | exact CA rfl | refine CJ ?_) | fail)) ⟨⟨by simp, by simp [sgL], _, rfl, cvO_E (immR_map eInt_ok _) (congrArg _ (burst_snoc rfl)) rfl⟩, trivial⟩ (by simp [sgL])))
  · repeat' (first | (with_reducible first | (refine hK _ _ _ ?_; clear hK K) | (refine hB ?_; clear hA hB A B) | refine Z1 ?_ | refine Z5 (by omega) ?_ | refine hKX _ _ _ ?_) | (with_reducible first | refine Y2 fun K hK => ?_ | refine Y3 fun A B hA hB => ?_) <;> (simp only [go_sem]) | ((with_reducible first | refine Y8 ?_ | refine Y9 ?_); try simp only [AQ.then, AQ.blk, reduceIte, Nat.reduceEqDiff]) | fail)
    · refine exitF hQ (dS _) _ rfl (cvD_frzM eInt_ok rfl (by simp) (by simpa using hc) trivial) rfl ?_
      have : k = many.toNat := by omega
      subst this
      simp [burstM, hok]
theorem a_spec_AdrBurst {addr : Int} {many : Int} {wrap : Bool}  (h : K (dS ((burstM addr many wrap).map eInt)) H nx) : ACall Tryz.prog n_spec_AdrBurst [dI addr, dI many, dB wrap] H nx K :=
  (c_spec_AdrBurst addr many wrap).fresh rfl (fun r hr => hr ▸ h)
end
end Go.Proofs.YtiimjokpcbapeaaGreat
