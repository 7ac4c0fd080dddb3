/- Contracts: whether things are ok. -/
import Derived.Test.YtiimjokpcbapeaaGreatTb
set_option linter.unusedVariables false
set_option linter.unusedSimpArgs false
set_option linter.unusedSectionVars false
namespace Go.Proofs.YtiimjokpcbapeaaGreat
open Go Go.AM
set_option maxRecDepth 100000
section
variable {H : Heap} {nx : Nat} {K : D → Heap → Nat → Prop}

theorem c_impl_rangeOf_1 (r : Rng) (addr : Int) : ACall Tryz.prog n_impl_rangeOf_1 [dA (eRng r), .one (.c (.iptr [cI addr]))] .nil 0 fun rr _ _ => rr.plain = true ∧ rr = dB (inR r addr) := by
  refine en_impl_rangeOf_1 rfl fun Q hQ => ?_
  unfold ac_impl_rangeOf_1
  repeat' (first | (with_reducible first | (refine hK _ _ _ ?_; clear hK K) | refine Z1 ?_) | (first | (with_reducible refine Y2 fun K hK => ?_) | (with_reducible refine a_impl_in ?_)) <;> (simp only [go_sem]) | ((with_reducible refine Y8 ?_); try simp only [AQ.then, AQ.blk, reduceIte, Nat.reduceEqDiff]) | fail)
  all_goals first | with_reducible refine exitP hQ _ rfl rfl ?_ | skip
  all_goals exact dB_e Iff.rfl
theorem a_impl_rangeOf_1 {r : Rng} {addr : Int}   (h : K (dB (inR r addr)) H nx) : ACall Tryz.prog n_impl_rangeOf_1 [dA (eRng r), .one (.c (.iptr [cI addr]))] H nx K :=
  (c_impl_rangeOf_1 r addr).pure rfl (lentL_args ⟨cvD_im rfl, cvD_im rfl, trivial⟩) (fun r hr => hr ▸ h)
theorem c_impl_rangeOf (l : List Rng) (addr : Int) (hl : l.length < 2 ^ 40) : ACall Tryz.prog n_impl_rangeOf [dS (l.map eRng), dI addr] .nil 0 fun rr _ _ => rr.plain = true ∧ rr = dI (idxM (inR · addr) l) := by
  refine en_impl_rangeOf rfl fun Q hQ => ?_
  unfold ac_impl_rangeOf
  repeat' (first | (with_reducible first | (refine hK _ _ _ ?_; clear hK K) | refine Z1 ?_) | (first | (with_reducible refine Y2 fun K hK => ?_) | (refine a_slices_IndexFunc_ZMapRange_MapRange (caps := [.iptr [cI addr]]) (p := (inR · addr)) hl rfl (cvD_im rfl) (cvD_clo ⟨frz_ptr rfl trivial rfl rfl rfl, trivial⟩) (fun x _ H nx K h => a_impl_rangeOf_1 h) ?_)) <;> (simp only [go_sem]) | ((with_reducible refine Y8 ?_); try simp only [AQ.then, AQ.blk, reduceIte, Nat.reduceEqDiff]) | fail)
  all_goals first | with_reducible refine exitP hQ _ rfl rfl ?_ | skip
  all_goals first | rfl | exact dI_e (by omega)
theorem a_impl_rangeOf {l : List Rng} {addr : Int} (hl : l.length < 2 ^ 40)  (h : K (dI (idxM (inR · addr) l)) H nx) : ACall Tryz.prog n_impl_rangeOf [dS (l.map eRng), dI addr] H nx K :=
  (c_impl_rangeOf l addr hl).pure rfl (lentL_args ⟨cvD_im rfl, cvD_im rfl, trivial⟩) (fun r hr => hr ▸ h)
theorem c_impl_MapOk_1 (q r : Rng) : ACall Tryz.prog n_impl_MapOk_1 [dA (eRng q), .one (.c (.iptr (eRng r)))] .nil 0 fun rr _ _ => rr.plain = true ∧ rr = dB (overR q r) := by
  refine en_impl_MapOk_1 rfl fun Q hQ => ?_
  unfold ac_impl_MapOk_1
  repeat' (first | (with_reducible first | (refine hK _ _ _ ?_; clear hK K) | refine Z1 ?_) | (with_reducible first | refine Y2 fun K hK => ?_ | refine Y6 (fun h => ?_) fun h => ?_) <;> (simp only [go_sem]) | ((with_reducible refine Y8 ?_); try simp only [AQ.then, AQ.blk, reduceIte, Nat.reduceEqDiff]) | fail)
  all_goals first | with_reducible refine exitP hQ _ rfl rfl ?_ | skip
  all_goals unfold overR
  all_goals first | exact dB_e (by omega) | exact dB_t (by omega) | exact dB_f (by omega)
theorem a_impl_MapOk_1 {q : Rng} {r : Rng}   (h : K (dB (overR q r)) H nx) : ACall Tryz.prog n_impl_MapOk_1 [dA (eRng q), .one (.c (.iptr (eRng r)))] H nx K :=
  (c_impl_MapOk_1 q r).pure rfl (lentL_args ⟨cvD_im rfl, cvD_im rfl, trivial⟩) (fun r hr => hr ▸ h)
theorem c_impl_MapOk (l : List Rng) (hl : l.length < 2 ^ 40) : ACall Tryz.prog n_impl_MapOk [dS (l.map eRng)] .nil 0 fun rr _ _ => rr.plain = true ∧ rr = dB (decide (MapOkP l)) := by
  refine en_impl_MapOk rfl fun Q hQ => ?_
  unfold ac_impl_MapOk
  repeat' (first | (with_reducible first | (refine hK _ _ _ ?_; clear hK K) | refine Z1 ?_ | refine Z3 fun KB hKB => ?_) | (with_reducible refine Y2 fun K hK => ?_) <;> (simp only [go_sem]) | fail)
  (have hKX := hKB; clear hKB); (refine AWPL.loop (α := {k : Nat // k ≤ l.length ∧ (∀ i, i < k → MapAt l i)}) (fun u => en [(7, dI u.1), (6, dI l.length), (5, dS (l.map eRng)), (0, dS (l.map eRng))]) (fun _ => .nil) _ (fun u => l.length - u.1) ⟨0, by omega, (by intros; first | trivial | omega)⟩ (cv_nilT (Nat.le_refl _) (by repeat' (first | (with_reducible first | exact C1 | refine C2 ?_ ?_) | ((with_reducible refine D0 ?_); exact CA rfl) | fail))) ?_); (rintro ⟨k, hk, hinv⟩ KL hKL)
  by_cases hlt : k < l.length
  · repeat' (first | (with_reducible first | (refine hK _ _ _ ?_; clear hK K) | (refine hA ?_; clear hA hB A B) | (refine hB ?_; clear hA hB A B) | refine Z1 ?_ | refine Z2 ?_ | refine Z3 fun KB hKB => ?_ | refine Z4 (by omega) ?_ | refine Z6 (fun h => ?_) fun h => ?_) | (first | (with_reducible first | refine Y2 fun K hK => ?_ | refine Y3 fun A B hA hB => ?_ | refine Y6 (fun h => ?_) fun h => ?_) | (with_reducible refine a_impl_in ?_) | (refine a_slices_ContainsFunc_ZMapRange_MapRange (l := l.take k) (caps := [.iptr (eRng (l.getD k default))]) (p := fun q => overR q (l.getD k default)) (by simp; omega) rfl (cvD_im rfl) (cvD_clo ⟨frz_ptr rfl trivial rfl rfl rfl, trivial⟩) (fun x _ H nx K h => a_impl_MapOk_1 h) ?_)) <;> (simp only [go_sem]; try simp (disch := omega) only [Iw]) | ((with_reducible refine Y8 ?_); try simp only [AQ.then, AQ.blk, reduceIte, Nat.reduceEqDiff]) | ((with_reducible refine Y0 ?_); simp only [AQ.then, AQ.blk]) | refine ⟨by omega, ?_⟩ | (with_reducible refine hKB _ _ _ ?_) | fail)
    all_goals first
      | (refine exitP hQ _ rfl rfl (dB_f fun hm => ?_); have := (hm.2 k hlt); unfold MapAt RngOkP at this; omega)
      | (refine hKL _ _ _ ⟨k + 1, by omega, inv_succ hinv (by unfold MapAt RngOkP; omega)⟩ (by omega) (by (try dsimp only); omega) (cv_nilT (Nat.le_refl _) (by repeat' (first | (with_reducible first | exact C1 | refine C2 ?_ ?_) | ((with_reducible refine D0 ?_); exact CA rfl) | fail))))
  · repeat' (first | (with_reducible first | (refine hK _ _ _ ?_; clear hK K) | (refine hB ?_; clear hA hB A B) | refine Z1 ?_ | refine Z5 (by omega) ?_ | refine hKX _ _ _ ?_) | (with_reducible first | refine Y2 fun K hK => ?_ | refine Y3 fun A B hA hB => ?_) <;> (simp only [go_sem]) | ((with_reducible first | refine Y8 ?_ | refine Y9 ?_); try simp only [AQ.then, AQ.blk, reduceIte, Nat.reduceEqDiff]) | fail)
    have hk2 : k = l.length := by omega
    subst hk2
    exact exitP hQ _ rfl rfl (dB_e ⟨fun h => ⟨h, hinv⟩, fun h => h.1⟩)
theorem a_impl_MapOk {l : List Rng} (hl : l.length < 2 ^ 40)  (h : K (dB (decide (MapOkP l))) H nx) : ACall Tryz.prog n_impl_MapOk [dS (l.map eRng)] H nx K :=
  (c_impl_MapOk l hl).pure rfl (lentL_args ⟨cvD_im rfl, trivial⟩) (fun r hr => hr ▸ h)
theorem c_impl_ReqReq_writes (q : Req) : ACall Tryz.prog n_impl_ReqReq_writes [dA (eReq q)] .nil 0 fun rr _ _ => rr.plain = true ∧ rr = dB (wrM q) := by
  refine en_impl_ReqReq_writes rfl fun Q hQ => ?_
  unfold ac_impl_ReqReq_writes
  repeat' (first | (with_reducible first | (refine hK _ _ _ ?_; clear hK K) | refine Z1 ?_) | (with_reducible first | refine Y2 fun K hK => ?_ | refine Y6 (fun h => ?_) fun h => ?_) <;> (simp only [go_sem]) | ((with_reducible refine Y8 ?_); try simp only [AQ.then, AQ.blk, reduceIte, Nat.reduceEqDiff]) | fail)
  all_goals first | with_reducible refine exitP hQ _ rfl rfl ?_ | skip
  all_goals unfold wrM
  all_goals first | exact dB_e (by omega) | exact dB_t (by omega) | exact dB_f (by omega) | rfl
theorem a_impl_ReqReq_writes {q : Req}   (h : K (dB (wrM q)) H nx) : ACall Tryz.prog n_impl_ReqReq_writes [dA (eReq q)] H nx K :=
  (c_impl_ReqReq_writes q).pure rfl (lentL_args ⟨cvD_im rfl, trivial⟩) (fun r hr => hr ▸ h)
theorem c_impl_areWords_1 (n : Int) : ACall Tryz.prog n_impl_areWords_1 [dI n] .nil 0 fun rr _ _ => rr.plain = true ∧ rr = dB (decide (¬ (0 ≤ n ∧ n ≤ 65535))) := by
  refine en_impl_areWords_1 rfl fun Q hQ => ?_
  unfold ac_impl_areWords_1
  repeat' (first | (with_reducible first | (refine hK _ _ _ ?_; clear hK K) | refine Z1 ?_) | (first | (with_reducible refine Y2 fun K hK => ?_) | (with_reducible refine a_impl_isWord ?_)) <;> (simp only [go_sem]) | ((with_reducible refine Y8 ?_); try simp only [AQ.then, AQ.blk, reduceIte, Nat.reduceEqDiff]) | fail)
  all_goals first | with_reducible refine exitP hQ _ rfl rfl ?_ | skip
  all_goals first | exact dB_e (by omega) | exact dB_t (by omega) | exact dB_f (by omega) | rfl
theorem a_impl_areWords_1 {n : Int}   (h : K (dB (decide (¬ (0 ≤ n ∧ n ≤ 65535)))) H nx) : ACall Tryz.prog n_impl_areWords_1 [dI n] H nx K :=
  (c_impl_areWords_1 n).pure rfl (lentL_args ⟨cvD_im rfl, trivial⟩) (fun r hr => hr ▸ h)
theorem c_impl_AtmOk_1 (n : Int) : ACall Tryz.prog n_impl_AtmOk_1 [dI n] .nil 0 fun rr _ _ => rr.plain = true ∧ rr = dB (decide (¬ (-1 ≤ n ∧ n ≤ 63))) := by
  refine en_impl_AtmOk_1 rfl fun Q hQ => ?_
  unfold ac_impl_AtmOk_1
  repeat' (first | (with_reducible first | (refine hK _ _ _ ?_; clear hK K) | refine Z1 ?_) | (first | (with_reducible refine Y2 fun K hK => ?_) | (with_reducible refine a_impl_in ?_)) <;> (simp only [go_sem]) | ((with_reducible refine Y8 ?_); try simp only [AQ.then, AQ.blk, reduceIte, Nat.reduceEqDiff]) | fail)
  all_goals first | with_reducible refine exitP hQ _ rfl rfl ?_ | skip
  all_goals first | exact dB_e (by omega) | exact dB_t (by omega) | exact dB_f (by omega) | rfl
theorem a_impl_AtmOk_1 {n : Int}   (h : K (dB (decide (¬ (-1 ≤ n ∧ n ≤ 63)))) H nx) : ACall Tryz.prog n_impl_AtmOk_1 [dI n] H nx K :=
  (c_impl_AtmOk_1 n).pure rfl (lentL_args ⟨cvD_im rfl, trivial⟩) (fun r hr => hr ▸ h)
theorem c_impl_BusOk_1 (n : Int) : ACall Tryz.prog n_impl_BusOk_1 [dI n] .nil 0 fun rr _ _ => rr.plain = true ∧ rr = dB (decide (¬ (0 ≤ n ∧ n ≤ 3))) := by
  refine en_impl_BusOk_1 rfl fun Q hQ => ?_
  unfold ac_impl_BusOk_1
  repeat' (first | (with_reducible first | (refine hK _ _ _ ?_; clear hK K) | refine Z1 ?_) | (first | (with_reducible refine Y2 fun K hK => ?_) | (with_reducible refine a_impl_in ?_)) <;> (simp only [go_sem]) | ((with_reducible refine Y8 ?_); try simp only [AQ.then, AQ.blk, reduceIte, Nat.reduceEqDiff]) | fail)
  all_goals first | with_reducible refine exitP hQ _ rfl rfl ?_ | skip
  all_goals first | exact dB_e (by omega) | exact dB_t (by omega) | exact dB_f (by omega) | rfl
theorem a_impl_BusOk_1 {n : Int}   (h : K (dB (decide (¬ (0 ≤ n ∧ n ≤ 3)))) H nx) : ACall Tryz.prog n_impl_BusOk_1 [dI n] H nx K :=
  (c_impl_BusOk_1 n).pure rfl (lentL_args ⟨cvD_im rfl, trivial⟩) (fun r hr => hr ▸ h)
theorem c_impl_ReqOk_1 (n : Int) : ACall Tryz.prog n_impl_ReqOk_1 [dI n] .nil 0 fun rr _ _ => rr.plain = true ∧ rr = dB (decide (¬ (0 ≤ n ∧ n ≤ 3))) := by
  refine en_impl_ReqOk_1 rfl fun Q hQ => ?_
  unfold ac_impl_ReqOk_1
  repeat' (first | (with_reducible first | (refine hK _ _ _ ?_; clear hK K) | refine Z1 ?_) | (first | (with_reducible refine Y2 fun K hK => ?_) | (with_reducible refine a_impl_in ?_)) <;> (simp only [go_sem]) | ((with_reducible refine Y8 ?_); try simp only [AQ.then, AQ.blk, reduceIte, Nat.reduceEqDiff]) | fail)
  all_goals first | with_reducible refine exitP hQ _ rfl rfl ?_ | skip
  all_goals first | exact dB_e (by omega) | exact dB_t (by omega) | exact dB_f (by omega) | rfl
theorem a_impl_ReqOk_1 {n : Int}   (h : K (dB (decide (¬ (0 ≤ n ∧ n ≤ 3)))) H nx) : ACall Tryz.prog n_impl_ReqOk_1 [dI n] H nx K :=
  (c_impl_ReqOk_1 n).pure rfl (lentL_args ⟨cvD_im rfl, trivial⟩) (fun r hr => hr ▸ h)
theorem c_impl_areWords (l : List Int) (hl : l.length < 2 ^ 40) : ACall Tryz.prog n_impl_areWords [dS (l.map eInt)] .nil 0 fun rr _ _ => rr.plain = true ∧ rr = dB (decide (All l 0 65535)) := by
  refine en_impl_areWords rfl fun Q hQ => ?_
  unfold ac_impl_areWords
  repeat' (first | (with_reducible first | (refine hK _ _ _ ?_; clear hK K) | refine Z1 ?_) | (first | (with_reducible refine Y2 fun K hK => ?_) | (refine a_slices_ContainsFunc_Zint_int (caps := []) (p := fun x => decide (¬ (0 ≤ x ∧ x ≤ 65535))) hl rfl (cvD_im rfl) (cvD_cloI rfl) (fun x _ H nx K h => a_impl_areWords_1 h) ?_)) <;> (simp only [go_sem]) | ((with_reducible refine Y8 ?_); try simp only [AQ.then, AQ.blk, reduceIte, Nat.reduceEqDiff]) | fail)
  all_goals first | with_reducible refine exitP hQ _ rfl rfl ?_ | skip
  all_goals exact dB_e all_idx.symm
theorem a_impl_areWords {l : List Int} (hl : l.length < 2 ^ 40) {d0 : D} (hd0 : CvD H (fun _ => True) id 0 (dS (l.map eInt)) d0) (h : K (dB (decide (All l 0 65535))) H nx) : ACall Tryz.prog n_impl_areWords [d0] H nx K :=
  (c_impl_areWords l hl).pure rfl (lentL_args ⟨hd0, trivial⟩) (fun r hr => hr ▸ h)
end
end Go.Proofs.YtiimjokpcbapeaaGreat
