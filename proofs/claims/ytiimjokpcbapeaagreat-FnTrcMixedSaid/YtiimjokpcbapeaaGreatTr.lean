/- Contracts: doing one thing, of the program. -/
import Derived.Test.YtiimjokpcbapeaaGreatTq
set_option linter.unusedVariables false
set_option linter.unusedSimpArgs false
set_option linter.unusedSectionVars false
namespace Go.Proofs.YtiimjokpcbapeaaGreat
open Go Go.AM
set_option maxRecDepth 100000
set_option maxHeartbeats 4000000
section
variable {H : Heap} {nx : Nat} {K : D → Heap → Nat → Prop}

theorem c_slices_Index_Zint_int (l : List Int) (x : Int) (hl : l.length < 2 ^ 40) : ACall Tryz.prog n_slices_Index_Zint_int [dS (l.map eInt), dI x] .nil 0 fun rr _ _ => rr.plain = true ∧ rr = dI (idxM (fun y => decide (x = y)) l) := by
  refine en_slices_Index_Zint_int rfl fun Q hQ => ?_
  unfold ac_slices_Index_Zint_int
  repeat' (first | (with_reducible first | (refine hK _ _ _ ?_; clear hK K) | refine Z1 ?_ | refine Z3 fun KB hKB => ?_) | (with_reducible refine Y2 fun K hK => ?_) <;> (simp only [go_sem]) | fail)
  (have hKX := hKB; clear hKB); (refine AWPL.loop (α := {k : Nat // k ≤ l.length ∧ (∀ i, i < k → (fun y => decide (x = y)) (l.getD i default) = false)}) (fun u => en [(8, dI u.1), (7, dI l.length), (1, dI x), (0, dS (l.map eInt))]) (fun _ => .nil) _ (fun u => l.length - u.1) ⟨0, by omega, (by intros; first | trivial | omega)⟩ (cv_nilT (Nat.le_refl _) (by repeat' (first | (with_reducible first | exact C1 | refine C2 ?_ ?_) | ((with_reducible refine D0 ?_); exact CA rfl) | fail))) ?_); (rintro ⟨k, hk, hinv⟩ KL hKL)
  by_cases hlt : k < l.length
  · repeat' (first | (with_reducible first | (refine hK _ _ _ ?_; clear hK K) | (refine hA ?_; clear hA hB A B) | (refine hB ?_; clear hA hB A B) | refine Z1 ?_ | refine Z2 ?_ | refine Z3 fun KB hKB => ?_ | refine Z4 (by omega) ?_ | refine Z6 (fun h => ?_) fun h => ?_) | (with_reducible first | refine Y2 fun K hK => ?_ | refine Y3 fun A B hA hB => ?_) <;> (simp only [go_sem]; try simp (disch := omega) only [Iw]) | ((with_reducible refine Y8 ?_); try simp only [AQ.then, AQ.blk, reduceIte, Nat.reduceEqDiff]) | ((with_reducible refine Y0 ?_); simp only [AQ.then, AQ.blk]) | refine ⟨by omega, ?_⟩ | (with_reducible refine hKB _ _ _ ?_) | fail)
    · refine exitP hQ _ rfl rfl (dI_e (Eq.symm (idxM_at (by omega) (decide_eq_true (by assumption)) hinv)))
    · (refine hKL _ _ _ ⟨k + 1, by omega, inv_succ hinv (decide_eq_false (by assumption))⟩ (by omega) (by (try dsimp only); omega) (cv_nilT (Nat.le_refl _) (by repeat' (first | (with_reducible first | exact C1 | refine C2 ?_ ?_) | ((with_reducible refine D0 ?_); exact CA rfl) | fail))))
  · repeat' (first | (with_reducible first | (refine hK _ _ _ ?_; clear hK K) | (refine hB ?_; clear hA hB A B) | refine Z1 ?_ | refine Z5 (by omega) ?_ | refine hKX _ _ _ ?_) | (with_reducible first | refine Y2 fun K hK => ?_ | refine Y3 fun A B hA hB => ?_) <;> (simp only [go_sem]) | ((with_reducible first | refine Y8 ?_ | refine Y9 ?_); try simp only [AQ.then, AQ.blk, reduceIte, Nat.reduceEqDiff]) | fail)
    refine exitP hQ (dI _) rfl rfl (dI_e (Eq.symm (idxM_none fun i hi => hinv i (by omega))))
theorem a_slices_Index_Zint_int {l : List Int} {x : Int} (hl : l.length < 2 ^ 40) {d0 : D} (hd0 : CvD H (fun _ => True) id 0 (dS (l.map eInt)) d0) (h : K (dI (idxM (fun y => decide (x = y)) l)) H nx) : ACall Tryz.prog n_slices_Index_Zint_int [d0, dI x] H nx K :=
  (c_slices_Index_Zint_int l x hl).pure rfl (lentL_args ⟨hd0, cvD_im rfl, trivial⟩) (fun r hr => hr ▸ h)
theorem c_slices_Contains_Zint_int (l : List Int) (x : Int) (hl : l.length < 2 ^ 40) : ACall Tryz.prog n_slices_Contains_Zint_int [dS (l.map eInt), dI x] .nil 0 fun rr _ _ => rr.plain = true ∧ rr = dB (decide (x ∈ l)) := by
  refine en_slices_Contains_Zint_int rfl fun Q hQ => ?_
  unfold ac_slices_Contains_Zint_int
  repeat' (first | (with_reducible first | (refine hK _ _ _ ?_; clear hK K) | refine Z1 ?_) | (first | (with_reducible refine Y2 fun K hK => ?_) | (refine a_slices_Index_Zint_int hl (cvD_im rfl) ?_)) <;> (simp only [go_sem]) | ((with_reducible refine Y8 ?_); try simp only [AQ.then, AQ.blk, reduceIte, Nat.reduceEqDiff]) | fail)
  all_goals first | with_reducible refine exitP hQ _ rfl rfl ?_ | skip
  all_goals refine dB_e (idxM_nonneg.trans ⟨fun ⟨y, hy, he⟩ => ?_, fun h => ⟨x, h, by simp⟩⟩)
  all_goals have := of_decide_eq_true he; subst this; exact hy
theorem a_slices_Contains_Zint_int {l : List Int} {x : Int} (hl : l.length < 2 ^ 40) {d0 : D} (hd0 : CvD H (fun _ => True) id 0 (dS (l.map eInt)) d0) (h : K (dB (decide (x ∈ l))) H nx) : ACall Tryz.prog n_slices_Contains_Zint_int [d0, dI x] H nx K :=
  (c_slices_Contains_Zint_int l x hl).pure rfl (lentL_args ⟨hd0, cvD_im rfl, trivial⟩) (fun r hr => hr ▸ h)
theorem brk_set {f : Nat → Int} {n k : Nat} {x : Int} (hk : k < n) (hx : x = f k) : ((List.range k).map f ++ List.replicate (n - k) (0 : Int)).set k x = (List.range (k + 1)).map f ++ List.replicate (n - (k + 1)) 0 := by
  have e : n - k = (n - (k + 1)) + 1 := by omega
  have h1 : ((List.range k).map f).length = k := by simp
  rw [List.set_append, h1, if_neg (Nat.lt_irrefl k), Nat.sub_self, e, List.replicate_succ, List.set_cons_zero, List.range_succ, List.map_append, List.append_assoc, hx]
  rfl
theorem c_impl_AdrBurst (addr many : Int) (wrap : Bool) : ACall Tryz.prog n_impl_AdrBurst [dI addr, dI many, dB wrap] .nil 0 fun rr _ nn => nn = 0 ∧ rr.imm = true ∧ rr = dS ((burstM addr many wrap).map eInt) := by
  refine en_impl_AdrBurst rfl fun Q hQ => ?_
  unfold ac_impl_AdrBurst
  by_cases hok : AdrOkP addr many wrap
  · obtain ⟨f1, f2, f3, f4, f5, f6, f7, f8⟩ := adrOk_facts hok
    repeat' (first | (with_reducible first | (refine hK _ _ _ ?_; clear hK K) | (refine hB ?_; clear hA hB A B) | refine Z1 ?_ | refine Z2 ?_ | refine Z3 fun KB hKB => ?_) | (first | (with_reducible first | refine Y2 fun K hK => ?_ | refine Y3 fun A B hA hB => ?_) | (with_reducible refine a_impl_AdrOk ?_)) <;> (simp only [go_sem, f6, eq_true hok]) | refine ⟨by omega, ?_⟩ | fail)
    (have hKX := hKB; clear hKB)
    refine AWPL.loopP 1 (β := Nat) (fun b k => en [(18, dI k), (17, dI many), (7, dO 1 b many.toNat many.toNat), (2, dB wrap), (1, dI many), (0, dI addr)])
      (fun b k => hp [(b, ⟨1, many.toNat, ((List.range k).map (bAt addr many wrap) ++ List.replicate (many.toNat - k) (0 : Int)).map eInt⟩)]) (fun k => k ≤ many.toNat) (fun k => many.toNat - k) 0 ?_ (by omega) ?_
    · (refine cv_hp [7] (by omega) (by repeat' (first | (with_reducible first | exact C1 | refine C2 ?_ ?_) | ((with_reducible refine C0 ?_); first | exact CQ (by omega) rfl rfl (by rfl) rfl | (exact CG (by (congr 2; omega)) rfl)) | ((with_reducible refine D0 ?_); first | exact CA rfl | refine CJ ?_) | fail)) ⟨⟨by simp, by simp [sgL], _, rfl, cvO_E (immR_map eInt_ok _) (by simp [eInt]) rfl⟩, trivial⟩ (by simp [sgL]))
    intro k hk KL hKL
    have hlen : ((List.range k).map (bAt addr many wrap) ++ List.replicate (many.toNat - k) (0 : Int)).length = many.toNat := by simp; omega
    by_cases hlt : k < many.toNat
    · obtain ⟨g1, g2, g3⟩ := bAt_facts hok k hlt
      have hmod : (addr + k).tmod many = (addr + k) % many := Int.tmod_eq_emod_of_nonneg (by omega)
      have hm2 := Int.emod_lt_of_pos (addr + k) f2
      have hm3 := Int.emod_nonneg (addr + k) f1
      repeat' (first | (with_reducible first | (refine hK _ _ _ ?_; clear hK K) | (refine hA ?_; clear hA hB A B) | (refine hB ?_; clear hA hB A B) | refine Z1 ?_ | refine Z2 ?_ | refine Z3 fun KB hKB => ?_ | refine Z4 (by omega) ?_) | (with_reducible first | refine Y2 fun K hK => ?_ | refine Y3 fun A B hA hB => ?_) <;> (simp only [go_sem, f6, hmod, List.set_set, hlen]; try simp (disch := omega) only [Iw]) | ((with_reducible refine Y0 ?_); simp only [AQ.then, AQ.blk]) | ((with_reducible refine Z8 (fun h => ?_) (fun h => ?_)) <;> try subst h) | refine ⟨by omega, ?_⟩ | (with_reducible refine hKB _ _ _ ?_) | fail)
      · exact hKL _ _ _ (k + 1) (by omega) (by (refine cv_hp [12] (by omega) (by repeat' (first | (with_reducible first | exact C1 | refine C2 ?_ ?_) | ((with_reducible refine C0 ?_); exact CQ (by omega) rfl rfl (by rfl) rfl) | ((with_reducible refine D0 ?_); first | exact CA rfl | refine CJ ?_) | fail)) ⟨⟨by simp, by simp [sgL], _, rfl, cvO_E (immR_map eInt_ok _) (congrArg _ (brk_set hlt (by simp only [bAt, if_true])).symm) rfl⟩, trivial⟩ (by simp [sgL]))) (by omega) (by omega)
      · exact hKL _ _ _ (k + 1) (by omega) (by (refine cv_hp [12] (by omega) (by repeat' (first | (with_reducible first | exact C1 | refine C2 ?_ ?_) | ((with_reducible refine C0 ?_); exact CQ (by omega) rfl rfl (by rfl) rfl) | ((with_reducible refine D0 ?_); first | exact CA rfl | refine CJ ?_) | fail)) ⟨⟨by simp, by simp [sgL], _, rfl, cvO_E (immR_map eInt_ok _) (congrArg _ (brk_set hlt (by simp [bAt])).symm) rfl⟩, trivial⟩ (by simp [sgL]))) (by omega) (by omega)
    · repeat' (first | (with_reducible first | (refine hK _ _ _ ?_; clear hK K) | (refine hB ?_; clear hA hB A B) | refine Z1 ?_ | refine Z5 (by omega) ?_ | refine hKX _ _ _ ?_) | (with_reducible first | refine Y2 fun K hK => ?_ | refine Y3 fun A B hA hB => ?_) <;> (simp only [go_sem]) | ((with_reducible first | refine Y8 ?_ | refine Y9 ?_); try simp only [AQ.then, AQ.blk, reduceIte, Nat.reduceEqDiff]) | fail)
      have hk2 : k = many.toNat := by omega
      subst hk2
      exact exitF hQ (dS ((burstM addr many wrap).map eInt)) _ rfl (cvD_frzM (l := burstM addr many wrap) eInt_ok (by simp [burstM, hok]; rfl) (burstM_len hok).symm (by rw [burstM_len hok]; omega) trivial) rfl rfl
  · repeat' (first | (with_reducible first | (refine hK _ _ _ ?_; clear hK K) | (refine hA ?_; clear hA hB A B) | refine Z1 ?_) | (first | (with_reducible first | refine Y2 fun K hK => ?_ | refine Y3 fun A B hA hB => ?_) | (with_reducible refine a_impl_AdrOk ?_)) <;> (simp only [go_sem, eq_false hok]) | ((with_reducible refine Y8 ?_); try simp only [AQ.then, AQ.blk, reduceIte, Nat.reduceEqDiff]) | fail)
    exact exitF hQ (dS []) _ rfl cv1_frz0 rfl (by simp [burstM, hok])
theorem a_impl_AdrBurst {addr : Int} {many : Int} {wrap : Bool}  (h : K (dS ((burstM addr many wrap).map eInt)) H nx) : ACall Tryz.prog n_impl_AdrBurst [dI addr, dI many, dB wrap] H nx K :=
  (c_impl_AdrBurst addr many wrap).fresh rfl (fun r hr => hr ▸ h)
theorem c_impl_ReqReq_burst (q : Req) : ACall Tryz.prog n_impl_ReqReq_burst [dA (eReq q)] .nil 0 fun rr _ nn => nn = 0 ∧ rr.imm = true ∧ rr = dS ((burstM q.addr q.many q.wrap).map eInt) := by
  refine en_impl_ReqReq_burst rfl fun Q hQ => ?_
  unfold ac_impl_ReqReq_burst
  repeat' (first | (with_reducible first | (refine hK _ _ _ ?_; clear hK K) | refine Z1 ?_) | (first | (with_reducible refine Y2 fun K hK => ?_) | (with_reducible refine a_impl_AdrBurst ?_)) <;> (simp only [go_sem]) | ((with_reducible refine Y8 ?_); try simp only [AQ.then, AQ.blk, reduceIte, Nat.reduceEqDiff]) | fail)
  all_goals exact exitF hQ (dS _) _ rfl (cvD_im rfl) rfl rfl
theorem a_impl_ReqReq_burst {q : Req}  (h : K (dS ((burstM q.addr q.many q.wrap).map eInt)) H nx) : ACall Tryz.prog n_impl_ReqReq_burst [dA (eReq q)] H nx K :=
  (c_impl_ReqReq_burst q).fresh rfl (fun r hr => hr ▸ h)
theorem c_impl_whole (l : List Rng) (q : Req) (hl : l.length < 2 ^ 40) : ACall Tryz.prog n_impl_whole [dS (l.map eRng), dA (eReq q)] .nil 0 fun rr _ _ => rr.plain = true ∧ rr = dI (wholeM l (burstM q.addr q.many q.wrap)) := by
  refine en_impl_whole rfl fun Q hQ => ?_
  unfold ac_impl_whole
  have hb4 := burstM_le (addr := q.addr) (many := q.many) (wrap := q.wrap)
  repeat' (first | (with_reducible first | (refine hK _ _ _ ?_; clear hK K) | refine Z1 ?_ | refine Z3 fun KB hKB => ?_) | (first | (with_reducible refine Y2 fun K hK => ?_) | (with_reducible refine a_impl_ReqReq_burst ?_)) <;> (simp only [go_sem]) | fail)
  generalize burstM q.addr q.many q.wrap = all at *
  (have hKX := hKB; clear hKB); (refine AWPL.loop (α := {k : Nat // k ≤ all.length ∧ (∀ i, i < k → ¬ idxM (inR · (all.getD i default)) l < 0 ∧ idxM (inR · (all.getD i default)) l = idxM (inR · (all.getD 0 default)) l)}) (fun u => en [(12, dI u.1), (11, dI all.length), (10, dS (all.map eInt)), (5, dI (if u.1 = 0 then -1 else idxM (inR · (all.getD 0 default)) l)), (0, dS (l.map eRng))]) (fun _ => .nil) _ (fun u => all.length - u.1) ⟨0, by omega, (by intros; first | trivial | omega)⟩ (cv_nilT (Nat.le_refl _) (by repeat' (first | (with_reducible first | exact C1 | refine C2 ?_ ?_) | ((with_reducible refine D0 ?_); exact CA rfl) | fail))) ?_); (rintro ⟨k, hk, hinv⟩ KL hKL)
  by_cases hlt : k < all.length
  · repeat' (first | (with_reducible first | (refine hK _ _ _ ?_; clear hK K) | (refine hA ?_; clear hA hB A B) | (refine hB ?_; clear hA hB A B) | refine Z1 ?_ | refine Z2 ?_ | refine Z3 fun KB hKB => ?_ | refine Z4 (by omega) ?_ | refine Z6 (fun h => ?_) fun h => ?_) | (first | (with_reducible first | refine Y2 fun K hK => ?_ | refine Y3 fun A B hA hB => ?_ | refine Y6 (fun h => ?_) fun h => ?_) | (with_reducible refine a_impl_rangeOf hl ?_)) <;> (simp only [go_sem]; try simp (disch := omega) only [Iw]) | ((with_reducible refine Y8 ?_); try simp only [AQ.then, AQ.blk, reduceIte, Nat.reduceEqDiff]) | ((with_reducible refine Y0 ?_); simp only [AQ.then, AQ.blk]) | refine ⟨by omega, ?_⟩ | (with_reducible refine hKB _ _ _ ?_) | fail)
    · refine exitP hQ (dI _) rfl rfl (dI_e ?_)
      rcases Nat.eq_zero_or_pos k with h0 | h0
      · subst h0
        have hg := idxM_ge (p := (inR · (all.getD 0 default))) (l := l)
        by_cases hy : ∀ i, i < all.length → 1 ≤ i → idxM (inR · (all.getD i default)) l = idxM (inR · (all.getD 0 default)) l
        · rw [wholeM_yes (by omega) hy]; omega
        · have : ∃ i, i < all.length ∧ ¬ idxM (inR · (all.getD i default)) l = idxM (inR · (all.getD 0 default)) l := Classical.byContradiction fun hc => hy fun i hi _ => Classical.byContradiction fun hn => hc ⟨i, hi, hn⟩
          obtain ⟨i, hi, hn⟩ := this
          rw [wholeM_no hi hn]
      · have := (hinv 0 h0).1
        exact (wholeM_no hlt (by omega)).symm
    · refine exitP hQ (dI _) rfl rfl (dI_e (wholeM_no hlt (fun he => ?_)).symm)
      grind
    all_goals
      have heq : idxM (inR · (all.getD k default)) l = idxM (inR · (all.getD 0 default)) l := by grind
      refine hKL _ _ _ ⟨k + 1, by omega, inv_succ hinv ⟨by omega, heq⟩⟩ (by omega) (by dsimp only; omega) (cv_nilT (Nat.le_refl _) ?_)
      dsimp only
      rw [if_neg (Nat.succ_ne_zero k), ← heq]
      repeat' (first | (with_reducible first | exact C1 | refine C2 ?_ ?_) | ((with_reducible refine D0 ?_); exact CA rfl) | fail)
  · repeat' (first | (with_reducible first | (refine hK _ _ _ ?_; clear hK K) | (refine hB ?_; clear hA hB A B) | refine Z1 ?_ | refine Z5 (by omega) ?_ | refine hKX _ _ _ ?_) | (with_reducible first | refine Y2 fun K hK => ?_ | refine Y3 fun A B hA hB => ?_) <;> (simp only [go_sem]) | ((with_reducible first | refine Y8 ?_ | refine Y9 ?_); try simp only [AQ.then, AQ.blk, reduceIte, Nat.reduceEqDiff]) | fail)
    refine exitP hQ (dI _) rfl rfl (dI_e ?_)
    by_cases h0 : k = 0
    · rw [if_pos h0, wholeM_nil (by omega)]
    · rw [if_neg h0, wholeM_yes (by omega) (fun i hi _ => (hinv i (by omega)).2)]
theorem a_impl_whole {l : List Rng} {q : Req} (hl : l.length < 2 ^ 40)  (h : K (dI (wholeM l (burstM q.addr q.many q.wrap))) H nx) : ACall Tryz.prog n_impl_whole [dS (l.map eRng), dA (eReq q)] H nx K :=
  (c_impl_whole l q hl).pure rfl (lentL_args ⟨cvD_im rfl, cvD_im rfl, trivial⟩) (fun r hr => hr ▸ h)
end
end Go.Proofs.YtiimjokpcbapeaaGreat
