/- Contracts: a job put in order, of the program. -/
import Derived.Test.YtiimjokpcbapeaaGreatTp
import Derived.Test.YtiimjokpcbapeaaGreatED
set_option linter.unusedVariables false
set_option linter.unusedSimpArgs false
set_option linter.unusedSectionVars false
namespace Go.Proofs.YtiimjokpcbapeaaGreat
open Go Go.AM
set_option maxRecDepth 100000
set_option maxHeartbeats 4000000
section
variable {H : Heap} {nx : Nat} {K : D → Heap → Nat → Prop}
theorem ov_size : ∀ w, (Go.sizeOf (Tryz.f143.targs.getD 0 0)).run Tryz.prog w = .ok (Tryz.prog.cellsOf (Tryz.f143.targs.getD 0 0)) w := fun w => by
  have h : (Tryz.prog.info? (Tryz.f143.targs.getD 0 0)).isSome = true := by kernel_rfl
  exact run_sizeOf w (i := (Tryz.prog.info? (Tryz.f143.targs.getD 0 0)).get h) (by simp)
theorem a_slices_overlaps_TlmJob {i j off off' len len' cap cap' : Nat} {oi oj : AObj} (hi : H i = some oi) (hj : H j = some oj) (hij : i ≠ j) (h1 : 0 < oi.ext) (h2 : 0 < oj.ext) (hn : 0 < oj.n) (hc : 0 < cap) (hc' : 0 < cap') (hoff : off * 5 < oi.ext * oi.n)
    (h : K (dB false) H nx) : AExt Tryz.prog n_slices_overlaps_TlmJob [.one (.c (.osl 5 i off len cap)), .one (.c (.osl 5 j off' len' cap'))] H nx K :=
  AExt_apart (fn := Tryz.f143) Tryz.func143 (by kernel_rfl) (by kernel_rfl) (by kernel_rfl) (tS := Tryz.f143.params.getD 0 0) (tR := Tryz.f143.resultTypes.getD 0 0) (el := Tryz.f143.targs.getD 0 0) (by kernel_rfl) (by kernel_rfl) ov_size hi hj hij h1 h2 hn hc hc' hoff h

/-- In a list in order, what is ahead of a job that is not in it. -/
theorem befJ_lt {l : List Job} {j : Job} (hs : Sorted l) (hn : key j ∉ l.map key) {k : Nat} (hk : k < l.length) : cmpJ (l.getD k default) j < 0 ↔ k < l.findIdx (befJ j) := by
  rw [cmpJ_neg]
  have hg : l.getD k default = l[k] := by simp [List.getD, hk]
  have hne : key l[k] ≠ key j := fun he => hn (he ▸ List.mem_map_of_mem (List.getElem_mem hk))
  rw [hg]
  constructor
  · intro hb
    refine Classical.byContradiction fun hc => ?_
    have hf : l.findIdx (befJ j) < l.length := by omega
    have h1 : befJ j l[l.findIdx (befJ j)] = true := List.findIdx_getElem (w := hf)
    rcases Nat.lt_or_eq_of_le (Nat.le_of_not_lt hc) with hlt | he
    · have h2 := List.pairwise_iff_getElem.1 hs _ _ hf hk hlt
      rw [befJ_iff] at h1 h2 hb
      omega
    · simp only [he] at h1
      rw [befJ_iff] at h1 hb
      omega
  · intro hlt
    have hb := List.not_of_lt_findIdx hlt
    simp only [key, ne_eq, Prod.mk.injEq] at hne
    simp only [befJ, decide_eq_true_eq, decide_eq_false_iff_not] at hb ⊢
    omega
theorem c_slices_BinarySearchFunc_ZTlmJob_TlmJob_TlmJob (l : List Job) (j : Job) (hl : l.length < 2 ^ 20) (hs : Sorted l) (hn : key j ∉ l.map key) : ACall Tryz.prog n_slices_BinarySearchFunc_ZTlmJob_TlmJob_TlmJob [dS (l.map eJob), dA (eJob j), .one (.c (.clo n_impl_compareJobs []))] .nil 0
    fun rr _ _ => rr.plain = true ∧ ∃ b, rr = .tup [.c (cI (l.findIdx (befJ j) : Nat)), .c (cB b)] := by
  have hf := List.findIdx_le_length (p := befJ j) (xs := l)
  have hbl := fun k hk => befJ_lt hs hn (k := k) hk
  generalize l.findIdx (befJ j) = f at *
  refine en_slices_BinarySearchFunc_ZTlmJob_TlmJob_TlmJob rfl fun Q hQ => ?_
  unfold ac_slices_BinarySearchFunc_ZTlmJob_TlmJob_TlmJob
  repeat' (first | (with_reducible first | (refine hK _ _ _ ?_; clear hK K) | refine Z1 ?_ | refine Z3 fun KB hKB => ?_) | (with_reducible refine Y2 fun K hK => ?_) <;> (simp only [go_sem]) | fail)
  (have hKX := hKB; clear hKB)
  refine AWPL.loopP 0 (β := Nat × Nat) (fun b u => en [(10, dI u.2), (9, dI u.1), (8, dI l.length), (4, .one (.c (.iptr (eJob j)))), (2, .one (.c (.clo n_impl_compareJobs []))), (0, dS (l.map eJob))])
    (fun b u => hp []) (fun u => u.1 ≤ f ∧ f ≤ u.2 ∧ u.2 ≤ l.length) (fun u => u.2 - u.1) (0, l.length) ?_ ⟨by omega, by dsimp only; omega, by dsimp only; omega⟩ ?_
  · exact cv_nilT (Nat.le_refl _) (by repeat' (first | (with_reducible first | exact C1 | refine C2 ?_ ?_) | ((with_reducible refine C0 ?_); exact CH (by rfl)) | ((with_reducible refine D0 ?_); first | exact CA rfl | exact CI rfl (by simp) rfl rfl rfl | refine CJ ?_) | fail))
  rintro ⟨a, b⟩ ⟨g1, g2, g3⟩ KL hKL
  dsimp only at g1 g2 g3
  by_cases hlt : a < b
  · have hm : IntKind.i64.wrap ((IntKind.u64.wrap ((a : Int) + b)).fdiv (2 ^ min 1 64)) = ((a + b) / 2 : Nat) := by
      rw [IntWalk.u64_in _ (by omega), Int.fdiv_eq_ediv_of_nonneg _ (by decide), IntWalk.i64_in _ (by simp; omega)]
      simp
    generalize hmm : (a + b) / 2 = mid at hm
    have hb := hbl mid (by omega)
    repeat' (first | (with_reducible first | (refine hK _ _ _ ?_; clear hK K) | (refine hA ?_; clear hA hB A B) | (refine hB ?_; clear hA hB A B) | refine Z1 ?_ | refine Z2 ?_ | refine Z3 fun KB hKB => ?_ | refine Z4 (by omega) ?_ | refine Z6 (fun h => ?_) fun h => ?_) | (first | (with_reducible first | refine Y2 fun K hK => ?_ | refine Y3 fun A B hA hB => ?_) | (refine a_impl_compareJobs ?_)) <;> (simp only [go_sem, hm]; try simp (disch := omega) only [Iw]) | ((with_reducible refine Y0 ?_); simp only [AQ.then, AQ.blk]) | refine ⟨by omega, ?_⟩ | (with_reducible refine hKB _ _ _ ?_) | fail)
    · exact hKL _ _ _ (mid + 1, b) (by omega) (cv_nilT (Nat.le_refl _) (by repeat' (first | (with_reducible first | exact C1 | refine C2 ?_ ?_) | ((with_reducible refine C0 ?_); exact CH (by rfl)) | ((with_reducible refine D0 ?_); first | exact CA rfl | refine CJ ?_) | fail))) ⟨by dsimp only; omega, by dsimp only; omega, by dsimp only; omega⟩ (by dsimp only; omega)
    · exact hKL _ _ _ (a, mid) (by omega) (cv_nilT (Nat.le_refl _) (by repeat' (first | (with_reducible first | exact C1 | refine C2 ?_ ?_) | ((with_reducible refine C0 ?_); exact CH (by rfl)) | ((with_reducible refine D0 ?_); first | exact CA rfl | refine CJ ?_) | fail))) ⟨by dsimp only; omega, by dsimp only; omega, by dsimp only; omega⟩ (by dsimp only; omega)
  · repeat' (first | (with_reducible first | (refine hK _ _ _ ?_; clear hK K) | (refine hB ?_; clear hA hB A B) | refine Z1 ?_ | refine Z5 (by omega) ?_ | refine hKX _ _ _ ?_) | (first | (with_reducible first | refine Y2 fun K hK => ?_ | refine Y3 fun A B hA hB => ?_ | refine Y6 (fun h => ?_) fun h => ?_) | (refine a_impl_compareJobs ?_)) <;> (simp only [go_sem]) | ((with_reducible first | refine Y8 ?_ | refine Y9 ?_); try simp only [AQ.then, AQ.blk, reduceIte, Nat.reduceEqDiff]) | refine ⟨by omega, ?_⟩ | fail)
    all_goals
      have ha : a = f := by omega
      subst ha
      exact hQ _ _ _ _ _ 0 (.tup [.c (cI _), .c (cB _)]) .nil _ _ (.inr rfl) rfl (cvR_plain (cvD_im rfl)) ⟨rfl, _, rfl⟩
theorem a_slices_BinarySearchFunc_ZTlmJob_TlmJob_TlmJob {l : List Job} {j : Job} {d : D} (hl : l.length < 2 ^ 20) (hs : Sorted l) (hn : key j ∉ l.map key) (hd : CvD H (fun _ => True) id 0 (dS (l.map eJob)) d) (h : ∀ b, K (.tup [.c (cI (l.findIdx (befJ j) : Nat)), .c (cB b)]) H nx) :
    ACall Tryz.prog n_slices_BinarySearchFunc_ZTlmJob_TlmJob_TlmJob [d, dA (eJob j), .one (.c (.clo n_impl_compareJobs []))] H nx K :=
  (c_slices_BinarySearchFunc_ZTlmJob_TlmJob_TlmJob l j hl hs hn).pure rfl (lentL_args ⟨hd, cvD_im rfl, cvD_cloI rfl, trivial⟩) fun r ⟨b, hr⟩ => hr ▸ h b

theorem ins_new {l : List Job} {j : Job} {i : Nat} {z : List D1} (hi : i ≤ l.length) : wr (wr ((l.take i).map eJob ++ List.replicate (l.length + 1 - i) z) i [eJob j]) (i + 1) (((l.drop i).take (l.length - i)).map eJob) = (l.take i ++ j :: l.drop i).map eJob := by
  have h1 : ((l.take i).map eJob).length = i := by simp; omega
  have h2 : (l.drop i).take (l.length - i) = l.drop i := List.take_of_length_le (by simp)
  have h3 : wr ((l.take i).map eJob ++ List.replicate (l.length + 1 - i) z) i [eJob j] = (l.take i).map eJob ++ [eJob j] ++ List.replicate (l.length - i) z := by
    unfold wr
    rw [List.take_append_of_le_length (by omega), List.take_of_length_le (by omega), List.drop_append, List.drop_of_length_le (by simp; omega), h1]
    simp only [List.length_cons, List.length_nil, List.nil_append, List.drop_replicate]
    congr 2; omega
  rw [h3, h2]
  have h4 : ((l.take i).map eJob ++ [eJob j]).length = i + 1 := by simp; omega
  unfold wr
  have h5 : List.drop (i + 1 + ((l.drop i).map eJob).length) ((l.take i).map eJob ++ [eJob j] ++ List.replicate (l.length - i) z) = [] := List.drop_of_length_le (by simp; omega)
  rw [h5, List.take_append_of_le_length (by omega), List.take_of_length_le (by omega)]
  simp
theorem ins_old {l : List Job} {j : Job} {i : Nat} (hi : i < l.length) : wr (wr (l.map eJob) (i + 1) (((l.drop i).take (l.length - i)).map eJob)) i [eJob j] = (l.take i ++ j :: l.drop i).map eJob := by
  have h2 : (l.drop i).take (l.length - i) = l.drop i := List.take_of_length_le (by simp)
  rw [h2]
  have h3 : wr (l.map eJob) (i + 1) ((l.drop i).map eJob) = (l.take (i + 1)).map eJob ++ (l.drop i).map eJob := by
    unfold wr
    have h5 : List.drop (i + 1 + ((l.drop i).map eJob).length) (l.map eJob) = [] := List.drop_of_length_le (by simp; omega)
    rw [h5, List.append_nil, List.map_take]
  rw [h3]
  have h4 : ((l.take (i + 1)).map eJob).length = i + 1 := by simp; omega
  unfold wr
  have h6 : List.drop (i + [eJob j].length) ((l.take (i + 1)).map eJob) = [] := List.drop_of_length_le (by simp; omega)
  rw [List.take_append_of_le_length (by omega), List.drop_append_of_le_length (by simp; omega), h6, ← List.map_take, List.take_take]
  simp
theorem c_slices_Insert_ZTlmJob_TlmJob (l : List Job) (j : Job) (i cap m : Nat) (hl : l.length < 2 ^ 20) (hi : i ≤ l.length) (hc : l.length ≤ cap) (hcm : cap ≤ m) :
    ACall Tryz.prog n_slices_Insert_ZTlmJob_TlmJob [dO 5 0 l.length cap, dI i, dO 5 1 1 1] (hp [(0, ⟨5, m, l.map eJob⟩), (1, ⟨5, 1, [eJob j]⟩)]) 2
    fun r H' n' => ∃ cap' m', l.length + 1 ≤ cap' ∧ cap' ≤ m' ∧ n' = 3 ∧ H' = hp [(2, ⟨5, m', (l.take i ++ j :: l.drop i).map eJob⟩)] ∧ r = dO 5 2 (l.length + 1) cap' := by
  refine en_slices_Insert_ZTlmJob_TlmJob rfl fun Q hQ => ?_
  unfold ac_slices_Insert_ZTlmJob_TlmJob
  have e1 : ((l.length : Int) + ((1 : Nat) : Int) - (i : Int)).toNat = l.length + 1 - i := by omega
  have e2 : ((i : Int) + ((1 : Nat) : Int)).toNat = i + 1 := by omega
  have e3 : ((l.length : Int) + ((1 : Nat) : Int)).toNat = l.length + 1 := by omega
  have e4 : i + (l.length + 1 - i) = l.length + 1 := by omega
  have e5 : l.length + 1 - (i + 1) = l.length - i := by omega
  have e6 : min 1 (l.length + 1 - i) = 1 := by omega
  have e7 : (i + (l.length - i) ≤ l.length) = True := eq_true (by omega)
  have e8 : min (l.length + 1 - i) (l.length - i) = l.length - i := by omega
  have e9 : IntKind.i64.wrap ((i : Int) + ((1 : Nat) : Int)) = (i : Int) + ((1 : Nat) : Int) := IntWalk.i64_in _ (by omega)
  have e10 : List.take 1 [eJob j] = [eJob j] := rfl
  repeat' (first | (with_reducible first | (refine hK _ _ _ ?_; clear hK K) | (refine hA ?_; clear hA hB A B) | (refine hB ?_; clear hA hB A B) | refine Z1 ?_ | refine Z2 ?_ | refine Z5 (by omega) ?_ | refine Z6 (fun h => ?_) fun h => ?_ | refine fun (cap : Nat) (hcap : _ ≤ cap) => ?_ | refine fun (hcp : _ ≤ cap) => ?_) | (first | (with_reducible first | refine Y2 fun K hK => ?_ | refine Y3 fun A B hA hB => ?_) | (refine a_slices_overlaps_TlmJob rfl rfl (by omega) (by simp) (by dsimp only; omega) (by simp) (by omega) (by omega) (by simp) ?_)) <;> (simp only [go_sem, e1, e2, e3, e4, e5, e6, e7, e8, e9, e10, Nat.min_self]; try simp (disch := omega) only [Iw]) | ((with_reducible refine Y8 ?_); try simp only [AQ.then, AQ.blk, reduceIte, Nat.reduceEqDiff]) | refine ⟨by omega, ?_⟩ | (refine ⟨by (rw [List.length_take]; omega), ?_⟩) | fail)
  · (refine hQ _ _ _ _ _ 3 (dO 5 2 (l.length + 1) cap) (hp [(2, ⟨5, cap, (l.take i ++ j :: l.drop i).map eJob⟩)]) _ _ (.inr rfl) rfl (cvR_hp [19] (by omega) (by repeat' (first | ((with_reducible refine C0 ?_); exact CQ (by omega) rfl rfl (by rfl) rfl) | ((with_reducible refine D0 ?_); refine CJ ?_) | fail)) ⟨⟨by simp, by simp [sgL], _, rfl, cvO_E (immR_map eJob_ok _) (by rw [List.take_of_length_le (by omega), List.drop_of_length_le (by omega)]) rfl⟩, trivial⟩ (by simp [sgL])) ?_)
    exact ⟨cap, cap, by omega, Nat.le_refl _, rfl, rfl, rfl⟩
  · refine ⟨⟨by omega, by omega, by simp [wr]; omega, by omega⟩, ?_⟩
    rw [ins_new hi]
    repeat' (first | (with_reducible first | (refine hK _ _ _ ?_; clear hK K) | refine Z1 ?_) | (with_reducible refine Y2 fun K hK => ?_) <;> (simp only [go_sem]) | ((with_reducible refine Y8 ?_); try simp only [AQ.then, AQ.blk, reduceIte, Nat.reduceEqDiff]) | fail)
    (refine hQ _ _ _ _ _ 3 (dO 5 2 (l.length + 1) cap) (hp [(2, ⟨5, cap, (l.take i ++ j :: l.drop i).map eJob⟩)]) _ _ (.inr rfl) rfl (cvR_hp [31] (by omega) (by repeat' (first | ((with_reducible refine C0 ?_); exact CQ (by omega) rfl rfl (by rfl) rfl) | ((with_reducible refine D0 ?_); refine CJ ?_) | fail)) ⟨⟨by simp, by simp [sgL], _, rfl, cvO_E (immR_map eJob_ok _) rfl rfl⟩, trivial⟩ (by simp [sgL])) ?_)
    exact ⟨cap, cap, by omega, Nat.le_refl _, rfl, rfl, rfl⟩
  · refine ⟨⟨by omega, by omega, by simp [wr]; omega, by omega⟩, ?_⟩
    rw [ins_old (by omega)]
    repeat' (first | (with_reducible first | (refine hK _ _ _ ?_; clear hK K) | refine Z1 ?_) | (with_reducible refine Y2 fun K hK => ?_) <;> (simp only [go_sem]) | ((with_reducible refine Y8 ?_); try simp only [AQ.then, AQ.blk, reduceIte, Nat.reduceEqDiff]) | fail)
    (refine hQ _ _ _ _ _ 3 (dO 5 2 (l.length + 1) cap) (hp [(2, ⟨5, m, (l.take i ++ j :: l.drop i).map eJob⟩)]) _ _ (.inr rfl) rfl (cvR_hp [0] (by omega) (by repeat' (first | ((with_reducible refine C0 ?_); exact CQ (by omega) rfl rfl (by rfl) rfl) | ((with_reducible refine D0 ?_); refine CJ ?_) | fail)) ⟨⟨by simp, by simp [sgL], _, rfl, cvO_E (immR_map eJob_ok _) rfl rfl⟩, trivial⟩ (by simp [sgL])) ?_)
    exact ⟨cap, m, by omega, hcm, rfl, rfl, rfl⟩
theorem a_slices_Insert_ZTlmJob_TlmJob {l : List Job} {j : Job} {i cap m i0 i1 : Nat} (hl : l.length < 2 ^ 20) (hi : i ≤ l.length) (hc : l.length ≤ cap) (hcm : cap ≤ m)
    (h0 : i0 < nx) (h1 : i1 < nx) (hne : i0 ≠ i1) (o0 : H i0 = some ⟨5, m, l.map eJob⟩) (o1 : H i1 = some ⟨5, 1, [eJob j]⟩)
    (h : ∀ cap' m', l.length + 1 ≤ cap' → cap' ≤ m' → K (dO 5 nx (l.length + 1) cap') (((H.del i0).del i1).set nx ⟨5, m', (l.take i ++ j :: l.drop i).map eJob⟩) (nx + 1)) :
    ACall Tryz.prog n_slices_Insert_ZTlmJob_TlmJob [dO 5 i0 l.length cap, dI i, dO 5 i1 1 1] H nx K := by
  refine (c_slices_Insert_ZTlmJob_TlmJob l j i cap m hl hi hc hcm).mutL [i0, i1] rfl ⟨cvD_oslE (by simp) rfl rfl rfl rfl, cvD_im rfl, cvD_oslE (by simp) rfl rfl rfl rfl, trivial⟩
    ⟨⟨by simp, id, _, o0, cvO_E (immR_map eJob_ok _) rfl rfl⟩, ⟨by simp, id, _, o1, cvO_E (immR_map (l := [j]) eJob_ok) rfl rfl⟩, trivial⟩ (by simpa [nth] using hne) (by simp; omega) (by simpa using hne) fun r H' n' _ ⟨cap', m', q0, q1, q2, q3, q4⟩ => ?_
  have h := h cap' m' q0 q1
  subst q2; subst q3; subst q4
  generalize l.take i ++ j :: l.drop i = l' at *
  have e1 : back (tau 2 nx (nth [i0, i1])) (hp [(2, ⟨5, m', l'.map eJob⟩)]) 3 H = ((H.del i0).del i1).set nx ⟨5, m', l'.map eJob⟩ := by
    simp [back, hp, Heap.set, Heap.nil, tau, nth, rnO_eInt, rnO_eJob, Heap.upd_some, Heap.upd_none]
  rw [← e1] at h
  exact h
theorem del_rows {l : List Job} {a : Nat} {z : List D1} (ha : a < l.length) : wr ((l.take a).map eJob ++ (l.drop (a + 1)).map eJob) (l.length - 1) (List.replicate (l.length - (l.length - 1)) z) = (outJ l a).map eJob ++ [z] := by
  have h1 : (l.take a).map eJob ++ (l.drop (a + 1)).map eJob = (outJ l a).map eJob := by simp [outJ]
  have h2 : ((outJ l a).map eJob).length = l.length - 1 := by have := outJ_len ha; simp; omega
  have h3 : l.length - (l.length - 1) = 1 := by omega
  rw [h1, h3, List.replicate_one]
  unfold wr
  have h4 : List.drop (l.length - 1 + [z].length) ((outJ l a).map eJob) = [] := List.drop_of_length_le (by simp at h2 ⊢; omega)
  rw [h4, List.take_of_length_le (by omega), List.append_nil]
theorem c_slices_Delete_ZTlmJob_TlmJob (l : List Job) (a cap m : Nat) (hl : l.length < 2 ^ 20) (ha : a < l.length) (hc : l.length ≤ cap) (hcm : cap ≤ m) :
    ACall Tryz.prog n_slices_Delete_ZTlmJob_TlmJob [dO 5 0 l.length cap, dI a, dI (a + 1)] (hp [(0, ⟨5, m, l.map eJob⟩)]) 1
    fun r H' n' => ∃ cap' m', (outJ l a).length ≤ cap' ∧ cap' ≤ m' ∧ n' = 2 ∧ H' = hp [(1, ⟨5, m', (outJ l a).map eJob⟩)] ∧ r = dO 5 1 (outJ l a).length cap' := by
  refine en_slices_Delete_ZTlmJob_TlmJob rfl fun Q hQ => ?_
  unfold ac_slices_Delete_ZTlmJob_TlmJob
  have e2 : ((a : Int) + 1).toNat = a + 1 := by omega
  have e3 : a + (l.length - (a + 1)) = l.length - 1 := by omega
  have e7 : (a + 1 + (l.length - (a + 1)) ≤ l.length) = True := eq_true (by omega)
  have e8 : List.take (l.length - (a + 1)) (List.drop (a + 1) l) = List.drop (a + 1) l := List.take_of_length_le (by simp)
  have e9 : (List.drop (a + 1) l).length = l.length - (a + 1) := List.length_drop
  have hol := outJ_len ha
  repeat' (first | (with_reducible first | (refine hK _ _ _ ?_; clear hK K) | (refine hB ?_; clear hA hB A B) | refine Z1 ?_ | refine Z2 ?_ | refine Z5 (by omega) ?_ | refine fun (cap : Nat) (hcap : _ ≤ cap) => ?_ | refine fun (hcp : _ ≤ cap) => ?_) | (with_reducible first | refine Y2 fun K hK => ?_ | refine Y3 fun A B hA hB => ?_) <;> (simp only [go_sem, e2, e3, e7, e8, e9]) | ((with_reducible refine Y8 ?_); try simp only [AQ.then, AQ.blk, reduceIte, Nat.reduceEqDiff]) | refine ⟨by omega, ?_⟩ | (refine ⟨by (rw [List.length_take]; omega), ?_⟩) | fail)
  (refine hQ _ _ _ _ _ 2 (dO 5 1 (outJ l a).length cap) (hp [(1, ⟨5, cap, (outJ l a).map eJob⟩)]) _ _ (.inr rfl) rfl (cvR_hp [20, 0] (by omega) (by repeat' (first | ((with_reducible refine C0 ?_); exact CQ (by omega) rfl rfl (by omega) rfl) | ((with_reducible refine D0 ?_); refine CJ ?_) | fail)) ⟨⟨by simp, by simp [sgL], _, rfl, cvO_pre (junk := [[cI 0, cI 0, cI 0, cI 0, .osl 0 0 0 0 0]]) (fun r hr => (immR_map eJob_ok _ r hr).2) (del_rows ha) rfl (by decide)⟩, trivial⟩ (by simp [sgL])) ?_)
  exact ⟨cap, cap, by omega, Nat.le_refl _, rfl, rfl, rfl⟩
theorem a_slices_Delete_ZTlmJob_TlmJob {l : List Job} {z : Int} {cap m i0 : Nat} (hl : l.length < 2 ^ 20) (hz : ¬ z < 0) (ha : z.toNat < l.length) (hc : l.length ≤ cap) (hcm : cap ≤ m) (h0 : i0 < nx) (o0 : H i0 = some ⟨5, m, l.map eJob⟩)
    (h : ∀ cap' m', (outJ l z.toNat).length ≤ cap' → cap' ≤ m' → K (dO 5 nx (outJ l z.toNat).length cap') ((H.del i0).set nx ⟨5, m', (outJ l z.toNat).map eJob⟩) (nx + 1)) :
    ACall Tryz.prog n_slices_Delete_ZTlmJob_TlmJob [dO 5 i0 l.length cap, dI z, dI (z + 1)] H nx K := by
  obtain ⟨a, rfl⟩ : ∃ a : Nat, z = a := ⟨z.toNat, by omega⟩
  refine (c_slices_Delete_ZTlmJob_TlmJob l a cap m hl ha hc hcm).mutL [i0] rfl ⟨cvD_oslE (by simp) rfl rfl rfl rfl, cvD_im rfl, cvD_im rfl, trivial⟩
    ⟨⟨by simp, id, _, o0, cvO_E (immR_map eJob_ok _) rfl rfl⟩, trivial⟩ (by simp) (by simp; omega) (by simp) fun r H' n' _ ⟨cap', m', q0, q1, q2, q3, q4⟩ => ?_
  simp only [Int.toNat_natCast] at h
  have h := h cap' m' q0 q1
  subst q2; subst q3; subst q4
  generalize outJ l a = l' at *
  have e1 : back (tau 1 nx (nth [i0])) (hp [(1, ⟨5, m', l'.map eJob⟩)]) 2 H = (H.del i0).set nx ⟨5, m', l'.map eJob⟩ := by
    simp [back, hp, Heap.set, Heap.nil, tau, nth, rnO_eInt, rnO_eJob, Heap.upd_some, Heap.upd_none]
  rw [← e1] at h
  exact h
theorem c_impl_insert (l : List Job) (j : Job) (cap m : Nat) (hl : l.length < 2 ^ 20) (hs : Sorted l) (hn : key j ∉ l.map key) (hc : l.length ≤ cap) (hcm : cap ≤ m) :
    ACall Tryz.prog n_impl_insert [dO 5 0 l.length cap, dA (eJob j)] (hp [(0, ⟨5, m, l.map eJob⟩)]) 1
    fun r H' n' => ∃ cap' m', (putJ l j).length ≤ cap' ∧ cap' ≤ m' ∧ n' = 2 ∧ H' = hp [(1, ⟨5, m', (putJ l j).map eJob⟩)] ∧ r = dO 5 1 (putJ l j).length cap' := by
  have hf := List.findIdx_le_length (p := befJ j) (xs := l)
  have hpl := putJ_len (l := l) (j := j)
  refine en_impl_insert rfl fun Q hQ => ?_
  unfold ac_impl_insert
  repeat' (first | (with_reducible first | (refine hK _ _ _ ?_; clear hK K) | refine Z1 ?_) | (first | (with_reducible refine Y2 fun K hK => ?_) | (refine a_slices_BinarySearchFunc_ZTlmJob_TlmJob_TlmJob hl hs hn (cvD_frzM eJob_ok rfl rfl hc trivial) (fun b => ?_)) | (refine a_slices_Insert_ZTlmJob_TlmJob hl hf hc hcm (by omega) (by omega) (by omega) rfl rfl (fun cap' m' h1 h2 => ?_))) <;> (simp only [go_sem]) | ((with_reducible refine Y8 ?_); try simp only [AQ.then, AQ.blk, reduceIte, Nat.reduceEqDiff]) | fail)
  (refine hQ _ _ _ _ _ 2 (dO 5 1 (putJ l j).length cap') (hp [(1, ⟨5, m', (putJ l j).map eJob⟩)]) _ _ (.inr rfl) rfl (cvR_hp [17, 0] (by omega) (by repeat' (first | ((with_reducible refine C0 ?_); exact CQ (by omega) rfl rfl (by omega) rfl) | ((with_reducible refine D0 ?_); refine CJ ?_) | fail)) ⟨⟨by simp, by simp [sgL], _, rfl, cvO_E (immR_map eJob_ok _) rfl rfl⟩, trivial⟩ (by simp [sgL])) ?_)
  exact ⟨cap', m', by omega, h2, rfl, rfl, rfl⟩
theorem a_impl_insertG {l : List Job} {j : Job} {cs : List D1} {cap m i0 : Nat} (hcs : CvL H (fun _ => False) (nth [i0]) 1 (eJob j) cs) (hl : l.length < 2 ^ 20) (hs : Sorted l) (hn : key j ∉ l.map key) (hc : l.length ≤ cap) (hcm : cap ≤ m) (h0 : i0 < nx) (o0 : H i0 = some ⟨5, m, l.map eJob⟩)
    (h : ∀ cap' m', (putJ l j).length ≤ cap' → cap' ≤ m' → K (dO 5 nx (putJ l j).length cap') ((H.del i0).set nx ⟨5, m', (putJ l j).map eJob⟩) (nx + 1)) :
    ACall Tryz.prog n_impl_insert [dO 5 i0 l.length cap, dA cs] H nx K := by
  refine (c_impl_insert l j cap m hl hs hn hc hcm).mutL [i0] rfl ⟨cvD_oslE (by simp) rfl rfl rfl rfl, hcs, trivial⟩
    ⟨⟨by simp, id, _, o0, cvO_E (immR_map eJob_ok _) rfl rfl⟩, trivial⟩ (by simp) (by simp; omega) (by simp) fun r H' n' _ ⟨cap', m', q0, q1, q2, q3, q4⟩ => ?_
  have h := h cap' m' q0 q1
  subst q2; subst q3; subst q4
  generalize putJ l j = l' at *
  have e1 : back (tau 1 nx (nth [i0])) (hp [(1, ⟨5, m', l'.map eJob⟩)]) 2 H = (H.del i0).set nx ⟨5, m', l'.map eJob⟩ := by
    simp [back, hp, Heap.set, Heap.nil, tau, nth, rnO_eInt, rnO_eJob, Heap.upd_some, Heap.upd_none]
  rw [← e1] at h
  exact h
theorem a_impl_insert0 {l : List Job} {a b : Int} {cap m i0 : Nat} (hl : l.length < 2 ^ 20) (hs : Sorted l) (hn : (a, b) ∉ l.map key) (hc : l.length ≤ cap) (hcm : cap ≤ m) (h0 : i0 < nx) (o0 : H i0 = some ⟨5, m, l.map eJob⟩)
    (h : ∀ cap' m', (putJ l ⟨a, b, rsp0⟩).length ≤ cap' → cap' ≤ m' → K (dO 5 nx (putJ l ⟨a, b, rsp0⟩).length cap') ((H.del i0).set nx ⟨5, m', (putJ l ⟨a, b, rsp0⟩).map eJob⟩) (nx + 1)) :
    ACall Tryz.prog n_impl_insert [dO 5 i0 l.length cap, dA [cI a, cI b, cI 0, cI 0, .osl 0 0 0 0 0]] H nx K :=
  a_impl_insertG (j := ⟨a, b, rsp0⟩) (cvL_cons (cv1_imm rfl) (cvL_cons (cv1_imm rfl) (cvL_cons (cv1_imm rfl) (cvL_cons (cv1_imm rfl) (cvL_cons cv1_frz0 cvL_nil))))) hl hs hn hc hcm h0 o0 h
theorem a_impl_insertR {l : List Job} {a b : Int} {r : Rsp} {cap m i0 : Nat} (hl : l.length < 2 ^ 20) (hs : Sorted l) (hn : (a, b) ∉ l.map key) (hc : l.length ≤ cap) (hcm : cap ≤ m) (h0 : i0 < nx) (o0 : H i0 = some ⟨5, m, l.map eJob⟩)
    (h : ∀ cap' m', (putJ l ⟨a, b, r⟩).length ≤ cap' → cap' ≤ m' → K (dO 5 nx (putJ l ⟨a, b, r⟩).length cap') ((H.del i0).set nx ⟨5, m', (putJ l ⟨a, b, r⟩).map eJob⟩) (nx + 1)) :
    ACall Tryz.prog n_impl_insert [dO 5 i0 l.length cap, dA (cI a :: cI b :: eRsp r)] H nx K :=
  a_impl_insertG (j := ⟨a, b, r⟩) (cvL_imm fun x hx => List.all_eq_true.1 (eJob_ok ⟨a, b, r⟩).2 x hx) hl hs hn hc hcm h0 o0 h
end
end Go.Proofs.YtiimjokpcbapeaaGreat
