/- Contracts: copies, and what comes first, of the program. -/
import Derived.Test.YtiimjokpcbapeaaGreatTe
import Derived.Test.YtiimjokpcbapeaaGreatMA
import Derived.Test.YtiimjokpcbapeaaGreatED
set_option linter.unusedVariables false
set_option linter.unusedSimpArgs false
set_option linter.unusedSectionVars false
namespace Go.Proofs.YtiimjokpcbapeaaGreat
open Go Go.AM
set_option maxRecDepth 100000
set_option maxHeartbeats 4000000
attribute [go_sem] List.length_set
section
variable {H : Heap} {nx : Nat} {K : D → Heap → Nat → Prop}

theorem c_cmp_isNaN_int (a : Int) : ACall Tryz.prog n_cmp_isNaN_int [dI a] .nil 0 fun rr _ _ => rr.plain = true ∧ rr = dB false := by
  refine en_cmp_isNaN_int rfl fun Q hQ => ?_
  unfold ac_cmp_isNaN_int
  repeat' (first | (with_reducible first | (refine hK _ _ _ ?_; clear hK K) | refine Z1 ?_) | (with_reducible refine Y2 fun K hK => ?_) <;> (simp only [go_sem]) | ((with_reducible refine Y8 ?_); try simp only [AQ.then, AQ.blk, reduceIte, Nat.reduceEqDiff]) | fail)
  all_goals first | with_reducible refine exitP hQ _ rfl rfl ?_ | skip
  all_goals first | rfl | simp
theorem a_cmp_isNaN_int {a : Int}   (h : K (dB false) H nx) : ACall Tryz.prog n_cmp_isNaN_int [dI a] H nx K :=
  (c_cmp_isNaN_int a).pure rfl (lentL_args ⟨cvD_im rfl, trivial⟩) (fun r hr => hr ▸ h)
def cmpI (a b : Int) : Int := if a < b then -1 else if a > b then 1 else 0
theorem c_cmp_Compare_int (a b : Int) : ACall Tryz.prog n_cmp_Compare_int [dI a, dI b] .nil 0 fun rr _ _ => rr.plain = true ∧ rr = dI (cmpI a b) := by
  refine en_cmp_Compare_int rfl fun Q hQ => ?_
  unfold ac_cmp_Compare_int
  repeat' (first | (with_reducible first | (refine hK _ _ _ ?_; clear hK K) | (refine hA ?_; clear hA hB A B) | (refine hB ?_; clear hA hB A B) | refine Z1 ?_ | refine Z2 ?_ | refine Z6 (fun h => ?_) fun h => ?_) | (first | (with_reducible first | refine Y2 fun K hK => ?_ | refine Y3 fun A B hA hB => ?_) | (with_reducible refine a_cmp_isNaN_int ?_)) <;> (simp only [go_sem]) | ((with_reducible refine Y8 ?_); try simp only [AQ.then, AQ.blk, reduceIte, Nat.reduceEqDiff]) | fail)
  all_goals first | with_reducible refine exitP hQ _ rfl rfl ?_ | skip
  all_goals exact dI_e (by unfold cmpI; grind)
theorem a_cmp_Compare_int {a : Int} {b : Int}   (h : K (dI (cmpI a b)) H nx) : ACall Tryz.prog n_cmp_Compare_int [dI a, dI b] H nx K :=
  (c_cmp_Compare_int a b).pure rfl (lentL_args ⟨cvD_im rfl, cvD_im rfl, trivial⟩) (fun r hr => hr ▸ h)
def orI (a b : Int) : Int := if a ≠ 0 then a else b
theorem c_cmp_Or_int (a b : Int) : ACall Tryz.prog n_cmp_Or_int [dS [eInt a, eInt b]] .nil 0 fun rr _ _ => rr.plain = true ∧ rr = dI (orI a b) := by
  refine en_cmp_Or_int rfl fun Q hQ => ?_
  unfold ac_cmp_Or_int
  obtain ⟨l, hl⟩ : ∃ l, l = [a, b] := ⟨_, rfl⟩
  have he : [eInt a, eInt b] = l.map eInt := by rw [hl]; rfl
  have hlen : l.length = 2 := by rw [hl]; rfl
  rw [he]
  repeat' (first | (with_reducible first | (refine hK _ _ _ ?_; clear hK K) | refine Z1 ?_ | refine Z3 fun KB hKB => ?_) | (with_reducible refine Y2 fun K hK => ?_) <;> (simp only [go_sem]) | fail)
  (have hKX := hKB; clear hKB); (refine AWPL.loop (α := {k : Nat // k ≤ 2 ∧ (∀ i, i < k → l.getD i default = 0)}) (fun u => en [(8, dI u.1), (7, dI 2), (6, dS (l.map eInt)), (3, dI 0)]) (fun _ => .nil) _ (fun u => 2 - u.1) ⟨0, by omega, (by intros; first | trivial | omega)⟩ (cv_nilT (Nat.le_refl _) (by repeat' (first | (with_reducible first | exact C1 | refine C2 ?_ ?_) | ((with_reducible refine C0 ?_); (exact CG (by (congr 2; omega)) rfl)) | ((with_reducible refine D0 ?_); first | exact CA rfl | refine CJ ?_) | fail))) ?_); (rintro ⟨k, hk, hinv⟩ KL hKL)
  by_cases hlt : k < 2
  · repeat' (first | (with_reducible first | (refine hK _ _ _ ?_; clear hK K) | (refine hA ?_; clear hA hB A B) | (refine hB ?_; clear hA hB A B) | refine Z1 ?_ | refine Z2 ?_ | refine Z3 fun KB hKB => ?_ | refine Z4 (by omega) ?_ | refine Z6 (fun h => ?_) fun h => ?_) | (with_reducible first | refine Y2 fun K hK => ?_ | refine Y3 fun A B hA hB => ?_) <;> (simp only [go_sem]; try simp (disch := omega) only [Iw]) | ((with_reducible refine Y8 ?_); try simp only [AQ.then, AQ.blk, reduceIte, Nat.reduceEqDiff]) | ((with_reducible refine Y0 ?_); simp only [AQ.then, AQ.blk]) | refine ⟨by omega, ?_⟩ | (with_reducible refine hKB _ _ _ ?_) | fail)
    · refine exitP hQ (dI _) rfl rfl (dI_e ?_)
      have hk : k = 0 ∨ k = 1 := by omega
      have h0 := hinv 0
      rcases hk with rfl | rfl <;> simp [hl, List.getD] at * <;> simp_all [orI]
    · (refine hKL _ _ _ ⟨k + 1, by omega, inv_succ hinv (by omega)⟩ (by omega) (by (try dsimp only); omega) (cv_nilT (Nat.le_refl _) (by repeat' (first | (with_reducible first | exact C1 | refine C2 ?_ ?_) | ((with_reducible refine D0 ?_); exact CA rfl) | fail))))
  · repeat' (first | (with_reducible first | (refine hK _ _ _ ?_; clear hK K) | (refine hB ?_; clear hA hB A B) | refine Z1 ?_ | refine Z5 (by omega) ?_ | refine hKX _ _ _ ?_) | (with_reducible first | refine Y2 fun K hK => ?_ | refine Y3 fun A B hA hB => ?_) <;> (simp only [go_sem]) | ((with_reducible first | refine Y8 ?_ | refine Y9 ?_); try simp only [AQ.then, AQ.blk, reduceIte, Nat.reduceEqDiff]) | fail)
    refine exitP hQ (dI _) rfl rfl (dI_e ?_)
    have h0 := hinv 0 (by omega)
    have h1 := hinv 1 (by omega)
    simp [hl, List.getD] at * <;> simp_all [orI]
theorem a_cmp_Or_int {a : Int} {b : Int}  {d0 : D} (hd0 : CvD H (fun _ => True) id 0 (dS [eInt a, eInt b]) d0) (h : K (dI (orI a b)) H nx) : ACall Tryz.prog n_cmp_Or_int [d0] H nx K :=
  (c_cmp_Or_int a b).pure rfl (lentL_args ⟨hd0, trivial⟩) (fun r hr => hr ▸ h)
def cmpJ (a b : Job) : Int := orI (cmpI a.who b.who) (cmpI a.n b.n)
theorem cmpJ_neg {a b : Job} : cmpJ a b < 0 ↔ befJ a b = true := by
  rw [befJ_iff]; unfold cmpJ orI cmpI; grind
theorem c_impl_compareJobs (a b : Job) : ACall Tryz.prog n_impl_compareJobs [dA (eJob a), dA (eJob b)] .nil 0 fun rr _ _ => rr.plain = true ∧ rr = dI (cmpJ a b) := by
  refine en_impl_compareJobs rfl fun Q hQ => ?_
  unfold ac_impl_compareJobs
  repeat' (first | (with_reducible first | (refine hK _ _ _ ?_; clear hK K) | refine Z1 ?_) | (first | (with_reducible refine Y2 fun K hK => ?_) | (with_reducible refine a_cmp_Compare_int ?_) | (refine a_cmp_Or_int (cvD_frz (rows := [eInt (cmpI a.who b.who), eInt (cmpI a.n b.n)]) (immR_map eInt_ok [cmpI a.who b.who, cmpI a.n b.n]) rfl trivial rfl rfl rfl (Nat.le_refl 2)) ?_)) <;> (simp only [go_sem]) | ((with_reducible refine Y8 ?_); try simp only [AQ.then, AQ.blk, reduceIte, Nat.reduceEqDiff]) | fail)
  all_goals first | with_reducible refine exitP hQ _ rfl rfl ?_ | skip
  all_goals first | rfl | exact dI_e (by omega)
theorem a_impl_compareJobs {a : Job} {b : Job}   (h : K (dI (cmpJ a b)) H nx) : ACall Tryz.prog n_impl_compareJobs [dA (eJob a), dA (eJob b)] H nx K :=
  (c_impl_compareJobs a b).pure rfl (lentL_args ⟨cvD_im rfl, cvD_im rfl, trivial⟩) (fun r hr => hr ▸ h)
theorem c_slices_Clone_Zint_int (l : List Int) (hl : l.length < 2 ^ 20) : ACall Tryz.prog n_slices_Clone_Zint_int [dS (l.map eInt)] (hp []) 0
    fun r H' n' => ∃ cap, l.length ≤ cap ∧ n' = 1 ∧ H' = hp [(0, ⟨1, cap, l.map eInt⟩)] ∧ r = dO 1 0 l.length cap := by
  refine en_slices_Clone_Zint_int rfl fun Q hQ => ?_
  unfold ac_slices_Clone_Zint_int
  refine AWPL.seq (AWPL.virt 1 ?_)
  repeat' (first | (with_reducible first | (refine hK _ _ _ ?_; clear hK K) | (refine hA ?_; clear hA hB A B) | (refine hB ?_; clear hA hB A B) | refine Z1 ?_ | refine Z2 ?_ | refine Z7 (fun h => ?_) fun h => ?_ | refine fun (cap : Nat) (hcap : _ ≤ cap) => ?_ | refine fun (hcp : _ ≤ cap) => ?_ | refine fun (b : Bool) => ?_) | (with_reducible first | refine Y2 fun K hK => ?_ | refine Y3 fun A B hA hB => ?_) <;> (simp only [go_sem]) | ((with_reducible refine Y8 ?_); try simp only [AQ.then, AQ.blk, reduceIte, Nat.reduceEqDiff]) | ((with_reducible refine Z8 (fun h => ?_) (fun h => ?_)) <;> try subst h) | refine ⟨by omega, ?_⟩ | fail)
  all_goals first
    | (have hcap' := Nat.le_refl cap
       (refine hQ _ _ _ _ _ 1 (dO 1 0 l.length cap) (hp [(0, ⟨1, cap, l.map eInt⟩)]) _ _ (.inr rfl) rfl (cvR_hp [6] (by omega) (by repeat' (first | ((with_reducible refine C0 ?_); exact CQ (by omega) rfl rfl (by rfl) rfl) | ((with_reducible refine D0 ?_); refine CJ ?_) | fail)) ⟨⟨by simp, by simp [sgL], _, rfl, cvO_E (immR_map eInt_ok _) rfl rfl⟩, trivial⟩ (by simp [sgL])) ?_)
       exact ⟨cap, by omega, rfl, rfl, rfl⟩)
    | (have h0 : l = [] := List.eq_nil_of_length_eq_zero (by omega)
       subst h0
       (refine hQ _ _ _ _ _ 1 (dO 1 0 0 0) (hp [(0, ⟨1, 0, ([] : List Int).map eInt⟩)]) _ _ (.inr rfl) rfl (cvR_hp [0] (by omega) (by repeat' (first | ((with_reducible refine C0 ?_); exact CC) | ((with_reducible refine D0 ?_); refine CJ ?_) | fail)) ⟨⟨by simp, by simp [sgL], _, rfl, cvO_E (immR_map eInt_ok _) rfl rfl⟩, trivial⟩ (by simp [sgL])) ?_)
       exact ⟨0, Nat.le_refl _, rfl, rfl, rfl⟩)
theorem a_slices_Clone_Zint_int {l : List Int} (hl : l.length < 2 ^ 20) (h : ∀ cap, l.length ≤ cap → K (dO 1 nx l.length cap) (H.set nx ⟨1, cap, l.map eInt⟩) (nx + 1)) : ACall Tryz.prog n_slices_Clone_Zint_int [dS (l.map eInt)] H nx K := by
  refine (c_slices_Clone_Zint_int l hl).mutL (l0 := []) [] rfl ⟨cvD_im rfl, trivial⟩ trivial (by simp) (by simp) (by simp) fun r H' n' _ ⟨cap, q0, q1, q2, q3⟩ => ?_
  have h := h cap q0
  subst q1; subst q2; subst q3
  have e1 : back (tau 0 nx (nth [])) (hp [(0, ⟨1, cap, l.map eInt⟩)]) 1 H = H.set nx ⟨1, cap, l.map eInt⟩ := by
    simp only [back, hp, Heap.set, tau, Nat.not_lt_zero, if_true, if_false, Nat.sub_zero, Nat.add_zero, Option.map_some, rnO_eInt, Heap.upd_some]
  rw [← e1] at h
  exact h
theorem c_slices_Clip_Zint_int (l : List Int) (cap m : Nat) (hl : l.length < 2 ^ 20) (hc : l.length ≤ cap) : ACall Tryz.prog n_slices_Clip_Zint_int [dO 1 0 l.length cap] (hp [(0, ⟨1, m, l.map eInt⟩)]) 1
    fun r H' n' => n' = 1 ∧ ∃ o', H' = hp [(0, o')] ∧ immO o' ∧ o' = ⟨1, m, l.map eInt⟩ ∧ r = dO 1 0 l.length l.length := by
  refine en_slices_Clip_Zint_int rfl fun Q hQ => ?_
  unfold ac_slices_Clip_Zint_int
  repeat' (first | (with_reducible first | (refine hK _ _ _ ?_; clear hK K) | refine Z1 ?_) | (with_reducible refine Y2 fun K hK => ?_) <;> (simp only [go_sem]) | ((with_reducible refine Y8 ?_); try simp only [AQ.then, AQ.blk, reduceIte, Nat.reduceEqDiff]) | refine ⟨by omega, ?_⟩ | fail)
  exact exitM1 hQ (dO 1 0 l.length l.length) _ _ rfl (by repeat' (first | ((with_reducible refine C0 ?_); exact CQ (by omega) rfl rfl (by rfl) rfl) | ((with_reducible refine D0 ?_); refine CJ ?_) | fail)) rfl (immO_map eInt_ok _) ⟨rfl, rfl⟩
theorem a_slices_Clip_Zint_int {l : List Int} {cap m i : Nat} (hl : l.length < 2 ^ 20) (hc : l.length ≤ cap) (hi : i < nx) (ho : H i = some ⟨1, m, l.map eInt⟩) (h : K (dO 1 i l.length l.length) (H.set i ⟨1, m, l.map eInt⟩) nx) :
    ACall Tryz.prog n_slices_Clip_Zint_int [dO 1 i l.length cap] H nx K :=
  (c_slices_Clip_Zint_int l cap m hl hc).mut1 i rfl (argL_args ⟨cvD_oslE (by omega) rfl rfl rfl rfl, trivial⟩) hi ho (immO_map eInt_ok _) fun r o' ⟨h1, h2⟩ => by
    subst h1; subst h2; exact h
theorem c_impl_clone_int (l : List Int) (hl : l.length < 2 ^ 20) : ACall Tryz.prog n_impl_clone_int [dS (l.map eInt)] (hp []) 0
    fun r H' n' => ∃ cap, l.length ≤ cap ∧ n' = 1 ∧ H' = hp [(0, ⟨1, cap, l.map eInt⟩)] ∧ r = dO 1 0 l.length l.length := by
  refine en_impl_clone_int rfl fun Q hQ => ?_
  unfold ac_impl_clone_int
  repeat' (first | (with_reducible first | (refine hK _ _ _ ?_; clear hK K) | refine Z1 ?_) | (first | (with_reducible refine Y2 fun K hK => ?_) | (refine a_slices_Clone_Zint_int hl (fun cap hcap => ?_)) | (refine a_slices_Clip_Zint_int hl hcap (by omega) rfl ?_)) <;> (simp only [go_sem]) | ((with_reducible refine Y8 ?_); try simp only [AQ.then, AQ.blk, reduceIte, Nat.reduceEqDiff]) | fail)
  (refine hQ _ _ _ _ _ 1 (dO 1 0 l.length l.length) (hp [(0, ⟨1, cap, l.map eInt⟩)]) _ _ (.inr rfl) rfl (cvR_hp [5] (by omega) (by repeat' (first | ((with_reducible refine C0 ?_); exact CQ (by omega) rfl rfl (by rfl) rfl) | ((with_reducible refine D0 ?_); refine CJ ?_) | fail)) ⟨⟨by simp, by simp [sgL], _, rfl, cvO_E (immR_map eInt_ok _) rfl rfl⟩, trivial⟩ (by simp [sgL])) ?_)
  exact ⟨cap, hcap, rfl, rfl, rfl⟩
theorem a_impl_clone_int {l : List Int} (hl : l.length < 2 ^ 20) (h : ∀ m, l.length ≤ m → K (dO 1 nx l.length l.length) (H.set nx ⟨1, m, l.map eInt⟩) (nx + 1)) : ACall Tryz.prog n_impl_clone_int [dS (l.map eInt)] H nx K := by
  refine (c_impl_clone_int l hl).mutL (l0 := []) [] rfl ⟨cvD_im rfl, trivial⟩ trivial (by simp) (by simp) (by simp) fun r H' n' _ ⟨cap, q0, q1, q2, q3⟩ => ?_
  have h := h cap q0
  subst q1; subst q2; subst q3
  have e1 : back (tau 0 nx (nth [])) (hp [(0, ⟨1, cap, l.map eInt⟩)]) 1 H = H.set nx ⟨1, cap, l.map eInt⟩ := by
    simp only [back, hp, Heap.set, tau, Nat.not_lt_zero, if_true, if_false, Nat.sub_zero, Nat.add_zero, Option.map_some, rnO_eInt, Heap.upd_some]
  rw [← e1] at h
  exact h
theorem rnO_eJob {τ : Nat → Nat} {n m : Nat} {l : List Job} : AObj.rn τ ⟨n, m, l.map eJob⟩ = ⟨n, m, l.map eJob⟩ := by
  refine rnO_imm fun r hr x hx => ?_
  obtain ⟨y, _, rfl⟩ := List.mem_map.1 hr
  exact List.all_eq_true.1 (eJob_ok y).2 x hx
theorem c_slices_Clone_ZTlmJob_TlmJob (l : List Job) (hl : l.length < 2 ^ 20) : ACall Tryz.prog n_slices_Clone_ZTlmJob_TlmJob [dS (l.map eJob)] (hp []) 0
    fun r H' n' => ∃ cap, l.length ≤ cap ∧ n' = 1 ∧ H' = hp [(0, ⟨5, cap, l.map eJob⟩)] ∧ r = dO 5 0 l.length cap := by
  refine en_slices_Clone_ZTlmJob_TlmJob rfl fun Q hQ => ?_
  unfold ac_slices_Clone_ZTlmJob_TlmJob
  refine AWPL.seq (AWPL.virt 5 ?_)
  repeat' (first | (with_reducible first | (refine hK _ _ _ ?_; clear hK K) | (refine hA ?_; clear hA hB A B) | (refine hB ?_; clear hA hB A B) | refine Z1 ?_ | refine Z2 ?_ | refine Z7 (fun h => ?_) fun h => ?_ | refine fun (cap : Nat) (hcap : _ ≤ cap) => ?_ | refine fun (hcp : _ ≤ cap) => ?_ | refine fun (b : Bool) => ?_) | (with_reducible first | refine Y2 fun K hK => ?_ | refine Y3 fun A B hA hB => ?_) <;> (simp only [go_sem]) | ((with_reducible refine Y8 ?_); try simp only [AQ.then, AQ.blk, reduceIte, Nat.reduceEqDiff]) | ((with_reducible refine Z8 (fun h => ?_) (fun h => ?_)) <;> try subst h) | refine ⟨by omega, ?_⟩ | fail)
  all_goals first
    | (have hcap' := Nat.le_refl cap
       (refine hQ _ _ _ _ _ 1 (dO 5 0 l.length cap) (hp [(0, ⟨5, cap, l.map eJob⟩)]) _ _ (.inr rfl) rfl (cvR_hp [6] (by omega) (by repeat' (first | ((with_reducible refine C0 ?_); exact CQ (by omega) rfl rfl (by rfl) rfl) | ((with_reducible refine D0 ?_); refine CJ ?_) | fail)) ⟨⟨by simp, by simp [sgL], _, rfl, cvO_E (immR_map eJob_ok _) rfl rfl⟩, trivial⟩ (by simp [sgL])) ?_)
       exact ⟨cap, by omega, rfl, rfl, rfl⟩)
    | (have h0 : l = [] := List.eq_nil_of_length_eq_zero (by omega)
       subst h0
       (refine hQ _ _ _ _ _ 1 (dO 5 0 0 0) (hp [(0, ⟨5, 0, ([] : List Job).map eJob⟩)]) _ _ (.inr rfl) rfl (cvR_hp [0] (by omega) (by repeat' (first | ((with_reducible refine C0 ?_); exact CC) | ((with_reducible refine D0 ?_); refine CJ ?_) | fail)) ⟨⟨by simp, by simp [sgL], _, rfl, cvO_E (immR_map eJob_ok _) rfl rfl⟩, trivial⟩ (by simp [sgL])) ?_)
       exact ⟨0, Nat.le_refl _, rfl, rfl, rfl⟩)
theorem a_slices_Clone_ZTlmJob_TlmJob {l : List Job} (hl : l.length < 2 ^ 20) (h : ∀ cap, l.length ≤ cap → K (dO 5 nx l.length cap) (H.set nx ⟨5, cap, l.map eJob⟩) (nx + 1)) : ACall Tryz.prog n_slices_Clone_ZTlmJob_TlmJob [dS (l.map eJob)] H nx K := by
  refine (c_slices_Clone_ZTlmJob_TlmJob l hl).mutL (l0 := []) [] rfl ⟨cvD_im rfl, trivial⟩ trivial (by simp) (by simp) (by simp) fun r H' n' _ ⟨cap, q0, q1, q2, q3⟩ => ?_
  have h := h cap q0
  subst q1; subst q2; subst q3
  have e1 : back (tau 0 nx (nth [])) (hp [(0, ⟨5, cap, l.map eJob⟩)]) 1 H = H.set nx ⟨5, cap, l.map eJob⟩ := by
    simp only [back, hp, Heap.set, tau, Nat.not_lt_zero, if_true, if_false, Nat.sub_zero, Nat.add_zero, Option.map_some, rnO_eJob, Heap.upd_some]
  rw [← e1] at h
  exact h
theorem c_slices_Clip_ZTlmJob_TlmJob (l : List Job) (cap m : Nat) (hl : l.length < 2 ^ 20) (hc : l.length ≤ cap) : ACall Tryz.prog n_slices_Clip_ZTlmJob_TlmJob [dO 5 0 l.length cap] (hp [(0, ⟨5, m, l.map eJob⟩)]) 1
    fun r H' n' => n' = 1 ∧ ∃ o', H' = hp [(0, o')] ∧ immO o' ∧ o' = ⟨5, m, l.map eJob⟩ ∧ r = dO 5 0 l.length l.length := by
  refine en_slices_Clip_ZTlmJob_TlmJob rfl fun Q hQ => ?_
  unfold ac_slices_Clip_ZTlmJob_TlmJob
  repeat' (first | (with_reducible first | (refine hK _ _ _ ?_; clear hK K) | refine Z1 ?_) | (with_reducible refine Y2 fun K hK => ?_) <;> (simp only [go_sem]) | ((with_reducible refine Y8 ?_); try simp only [AQ.then, AQ.blk, reduceIte, Nat.reduceEqDiff]) | refine ⟨by omega, ?_⟩ | fail)
  exact exitM1 hQ (dO 5 0 l.length l.length) _ _ rfl (by repeat' (first | ((with_reducible refine C0 ?_); exact CQ (by omega) rfl rfl (by rfl) rfl) | ((with_reducible refine D0 ?_); refine CJ ?_) | fail)) rfl (immO_map eJob_ok _) ⟨rfl, rfl⟩
theorem a_slices_Clip_ZTlmJob_TlmJob {l : List Job} {cap m i : Nat} (hl : l.length < 2 ^ 20) (hc : l.length ≤ cap) (hi : i < nx) (ho : H i = some ⟨5, m, l.map eJob⟩) (h : K (dO 5 i l.length l.length) (H.set i ⟨5, m, l.map eJob⟩) nx) :
    ACall Tryz.prog n_slices_Clip_ZTlmJob_TlmJob [dO 5 i l.length cap] H nx K :=
  (c_slices_Clip_ZTlmJob_TlmJob l cap m hl hc).mut1 i rfl (argL_args ⟨cvD_oslE (by omega) rfl rfl rfl rfl, trivial⟩) hi ho (immO_map eJob_ok _) fun r o' ⟨h1, h2⟩ => by
    subst h1; subst h2; exact h
theorem c_impl_clone_impl_TlmJob (l : List Job) (hl : l.length < 2 ^ 20) : ACall Tryz.prog n_impl_clone_impl_TlmJob [dS (l.map eJob)] (hp []) 0
    fun r H' n' => ∃ cap, l.length ≤ cap ∧ n' = 1 ∧ H' = hp [(0, ⟨5, cap, l.map eJob⟩)] ∧ r = dO 5 0 l.length l.length := by
  refine en_impl_clone_impl_TlmJob rfl fun Q hQ => ?_
  unfold ac_impl_clone_impl_TlmJob
  repeat' (first | (with_reducible first | (refine hK _ _ _ ?_; clear hK K) | refine Z1 ?_) | (first | (with_reducible refine Y2 fun K hK => ?_) | (refine a_slices_Clone_ZTlmJob_TlmJob hl (fun cap hcap => ?_)) | (refine a_slices_Clip_ZTlmJob_TlmJob hl hcap (by omega) rfl ?_)) <;> (simp only [go_sem]) | ((with_reducible refine Y8 ?_); try simp only [AQ.then, AQ.blk, reduceIte, Nat.reduceEqDiff]) | fail)
  (refine hQ _ _ _ _ _ 1 (dO 5 0 l.length l.length) (hp [(0, ⟨5, cap, l.map eJob⟩)]) _ _ (.inr rfl) rfl (cvR_hp [5] (by omega) (by repeat' (first | ((with_reducible refine C0 ?_); exact CQ (by omega) rfl rfl (by rfl) rfl) | ((with_reducible refine D0 ?_); refine CJ ?_) | fail)) ⟨⟨by simp, by simp [sgL], _, rfl, cvO_E (immR_map eJob_ok _) rfl rfl⟩, trivial⟩ (by simp [sgL])) ?_)
  exact ⟨cap, hcap, rfl, rfl, rfl⟩
theorem a_impl_clone_impl_TlmJob {l : List Job} (hl : l.length < 2 ^ 20) (h : ∀ m, l.length ≤ m → K (dO 5 nx l.length l.length) (H.set nx ⟨5, m, l.map eJob⟩) (nx + 1)) : ACall Tryz.prog n_impl_clone_impl_TlmJob [dS (l.map eJob)] H nx K := by
  refine (c_impl_clone_impl_TlmJob l hl).mutL (l0 := []) [] rfl ⟨cvD_im rfl, trivial⟩ trivial (by simp) (by simp) (by simp) fun r H' n' _ ⟨cap, q0, q1, q2, q3⟩ => ?_
  have h := h cap q0
  subst q1; subst q2; subst q3
  have e1 : back (tau 0 nx (nth [])) (hp [(0, ⟨5, cap, l.map eJob⟩)]) 1 H = H.set nx ⟨5, cap, l.map eJob⟩ := by
    simp only [back, hp, Heap.set, tau, Nat.not_lt_zero, if_true, if_false, Nat.sub_zero, Nat.add_zero, Option.map_some, rnO_eJob, Heap.upd_some]
  rw [← e1] at h
  exact h
theorem c_impl_copyJobs (l : List Job) (hl : l.length < 2 ^ 20) (hd : ∀ j ∈ l, j.rsp.data.length < 2 ^ 20) : ACall Tryz.prog n_impl_copyJobs [dS (l.map eJob)] (hp []) 0
    fun r H' n' => ∃ cap, l.length ≤ cap ∧ n' = 1 ∧ H' = hp [(0, ⟨5, cap, l.map eJob⟩)] ∧ r = dO 5 0 l.length l.length := by
  refine en_impl_copyJobs rfl fun Q hQ => ?_
  unfold ac_impl_copyJobs
  repeat' (first | (with_reducible first | (refine hK _ _ _ ?_; clear hK K) | refine Z1 ?_ | refine Z3 fun KB hKB => ?_) | (first | (with_reducible refine Y2 fun K hK => ?_) | (refine a_impl_clone_impl_TlmJob hl (fun m0 hm0 => ?_))) <;> (simp only [go_sem]) | fail)
  (have hKX := hKB; clear hKB)
  refine AWPL.loopP 1 (β := Nat) (fun b k => en [(10, dI k), (9, dI l.length), (8, dO 5 b l.length l.length), (3, dO 5 b l.length l.length)])
    (fun b k => hp [(b, ⟨5, m0, l.map eJob⟩)]) (fun k => k ≤ l.length) (fun k => l.length - k) 0 (by (refine cv_hp [4] (by omega) (by repeat' (first | (with_reducible first | exact C1 | refine C2 ?_ ?_) | ((with_reducible refine C0 ?_); exact CQ (by omega) rfl rfl (by rfl) rfl) | ((with_reducible refine D0 ?_); first | exact CA rfl | refine CJ ?_) | fail)) ⟨⟨by simp, by simp [sgL], _, rfl, cvO_E (immR_map eJob_ok _) rfl rfl⟩, trivial⟩ (by simp [sgL]))) (by omega) ?_
  rintro k hk KL hKL
  by_cases hlt : k < l.length
  · have hmd := hd _ (getD_mem hlt)
    repeat' (first | (with_reducible first | (refine hK _ _ _ ?_; clear hK K) | (refine hA ?_; clear hA hB A B) | refine Z1 ?_ | refine Z2 ?_ | refine Z3 fun KB hKB => ?_ | refine Z4 (by omega) ?_) | (first | (with_reducible first | refine Y2 fun K hK => ?_ | refine Y3 fun A B hA hB => ?_) | (refine a_impl_clone_int hmd (fun m hm => ?_))) <;> (simp only [go_sem]; try simp (disch := omega) only [Iw]) | ((with_reducible refine Y0 ?_); simp only [AQ.then, AQ.blk]) | refine ⟨by omega, ?_⟩ | (with_reducible refine hKB _ _ _ ?_) | fail)
    exact hKL _ _ _ (k + 1) (by omega) (by (refine cv_hp [8] (by omega) (by repeat' (first | (with_reducible first | exact C1 | refine C2 ?_ ?_) | ((with_reducible refine C0 ?_); exact CQ (by omega) rfl rfl (by rfl) rfl) | ((with_reducible refine D0 ?_); first | exact CA rfl | refine CJ ?_) | fail)) ⟨⟨by simp, by simp [sgL], _, rfl, cvO_setR (R := l.map eJob) (r' := eJob (l.getD k default)) rfl rfl (mapD hlt) (fun r hr => (immR_map eJob_ok l r hr).2) rfl (cvL_cons (cv1_imm rfl) (cvL_cons (cv1_imm rfl) (cvL_cons (cv1_imm rfl) (cvL_cons (cv1_imm rfl) (cvL_cons (cv1_frzM eInt_ok rfl rfl (Nat.le_refl _) (by simp)) cvL_nil)))))⟩, trivial⟩ (by simp [sgL]))) (by omega) (by omega)
  · repeat' (first | (with_reducible first | (refine hK _ _ _ ?_; clear hK K) | (refine hB ?_; clear hA hB A B) | refine Z1 ?_ | refine Z5 (by omega) ?_ | refine hKX _ _ _ ?_) | (with_reducible first | refine Y2 fun K hK => ?_ | refine Y3 fun A B hA hB => ?_) <;> (simp only [go_sem]) | ((with_reducible first | refine Y8 ?_ | refine Y9 ?_); try simp only [AQ.then, AQ.blk, reduceIte, Nat.reduceEqDiff]) | fail)
    (refine hQ _ _ _ _ _ 1 (dO 5 0 l.length l.length) (hp [(0, ⟨5, m0, l.map eJob⟩)]) _ _ (.inr rfl) rfl (cvR_hp [8] (by omega) (by repeat' (first | ((with_reducible refine C0 ?_); exact CQ (by omega) rfl rfl (by rfl) rfl) | ((with_reducible refine D0 ?_); refine CJ ?_) | fail)) ⟨⟨by simp, by simp [sgL], _, rfl, cvO_E (immR_map eJob_ok _) rfl rfl⟩, trivial⟩ (by simp [sgL])) ?_)
    exact ⟨m0, hm0, rfl, rfl, rfl⟩
theorem a_impl_copyJobs {l : List Job} (hl : l.length < 2 ^ 20) (hd : ∀ j ∈ l, j.rsp.data.length < 2 ^ 20) (h : ∀ m, l.length ≤ m → K (dO 5 nx l.length l.length) (H.set nx ⟨5, m, l.map eJob⟩) (nx + 1)) : ACall Tryz.prog n_impl_copyJobs [dS (l.map eJob)] H nx K := by
  refine (c_impl_copyJobs l hl hd).mutL (l0 := []) [] rfl ⟨cvD_im rfl, trivial⟩ trivial (by simp) (by simp) (by simp) fun r H' n' _ ⟨cap, q0, q1, q2, q3⟩ => ?_
  have h := h cap q0
  subst q1; subst q2; subst q3
  have e1 : back (tau 0 nx (nth [])) (hp [(0, ⟨5, cap, l.map eJob⟩)]) 1 H = H.set nx ⟨5, cap, l.map eJob⟩ := by
    simp only [back, hp, Heap.set, tau, Nat.not_lt_zero, if_true, if_false, Nat.sub_zero, Nat.add_zero, Option.map_some, rnO_eJob, Heap.upd_some]
  rw [← e1] at h
  exact h
theorem c_impl_AtmState_copyOf (w u : List Int) (hw : w.length < 2 ^ 20) (hu : u.length < 2 ^ 20) : ACall Tryz.prog n_impl_AtmState_copyOf [dA [.isl (w.map eInt), .isl (u.map eInt)]] (hp []) 0
    fun r H' n' => ∃ m0 m1, w.length ≤ m0 ∧ u.length ≤ m1 ∧ n' = 2 ∧ H' = hp [(0, ⟨1, m0, w.map eInt⟩), (1, ⟨1, m1, u.map eInt⟩)] ∧ r = dA [.osl 1 0 0 w.length w.length, .osl 1 1 0 u.length u.length] := by
  refine en_impl_AtmState_copyOf rfl fun Q hQ => ?_
  unfold ac_impl_AtmState_copyOf
  repeat' (first | (with_reducible first | (refine hK _ _ _ ?_; clear hK K) | refine Z1 ?_) | (first | (with_reducible refine Y2 fun K hK => ?_) | (refine a_impl_clone_int hw (fun m0 hm0 => ?_)) | (refine a_impl_clone_int hu (fun m1 hm1 => ?_))) <;> (simp only [go_sem]) | ((with_reducible refine Y8 ?_); try simp only [AQ.then, AQ.blk, reduceIte, Nat.reduceEqDiff]) | fail)
  (refine hQ _ _ _ _ _ 2 (dA [.osl 1 0 0 w.length w.length, .osl 1 1 0 u.length u.length]) (hp [(0, ⟨1, m0, w.map eInt⟩), (1, ⟨1, m1, u.map eInt⟩)]) _ _ (.inr rfl) rfl (cvR_hp [12, 13] (by omega) (by repeat' (first | ((with_reducible refine C0 ?_); exact CQ (by omega) rfl rfl (by rfl) rfl) | ((with_reducible refine D0 ?_); refine C9 ?_) | exact C3 | refine C4 ?_ ?_ | fail)) ⟨⟨by simp, by simp [sgL], _, rfl, cvO_E (immR_map eInt_ok _) rfl rfl⟩, ⟨by simp, by simp [sgL], _, rfl, cvO_E (immR_map eInt_ok _) rfl rfl⟩, trivial⟩ (by simp [sgL])) ?_)
  exact ⟨m0, m1, hm0, hm1, rfl, rfl, rfl⟩
theorem a_impl_AtmState_copyOf {w u : List Int} (hw : w.length < 2 ^ 20) (hu : u.length < 2 ^ 20) (h : ∀ m0 m1, w.length ≤ m0 → u.length ≤ m1 → K (dA [.osl 1 nx 0 w.length w.length, .osl 1 (nx + 1) 0 u.length u.length]) ((H.set nx ⟨1, m0, w.map eInt⟩).set (nx + 1) ⟨1, m1, u.map eInt⟩) (nx + 2)) : ACall Tryz.prog n_impl_AtmState_copyOf [dA [.isl (w.map eInt), .isl (u.map eInt)]] H nx K := by
  refine (c_impl_AtmState_copyOf w u hw hu).mutL (l0 := []) [] rfl ⟨cvD_im rfl, trivial⟩ trivial (by simp) (by simp) (by simp) fun r H' n' _ ⟨m0, m1, q0, q0', q1, q2, q3⟩ => ?_
  have h := h m0 m1 q0 q0'
  subst q1; subst q2; subst q3
  have e1 : back (tau 0 nx (nth [])) (hp [(0, ⟨1, m0, w.map eInt⟩), (1, ⟨1, m1, u.map eInt⟩)]) 2 H = (H.set nx ⟨1, m0, w.map eInt⟩).set (nx + 1) ⟨1, m1, u.map eInt⟩ := by
    simp [back, hp, Heap.set, Heap.nil, tau, nth, rnO_eInt, rnO_eJob, Heap.upd_some, Heap.upd_none]
  rw [← e1] at h
  exact h
def oIm (i0 i1 i2 i3 i4 i5 c0 c1 c2 c3 c4 c5 : Nat) (s : TSt) : List D1 := [.osl 1 i0 0 s.words.length c0, .osl 1 i1 0 s.holds.length c1, .osl 1 i2 0 s.asked.length c2, .osl 5 i3 0 s.wait.length c3, .osl 5 i4 0 s.done.length c4, .osl 5 i5 0 s.told.length c5]
theorem c_impl_TlmState_copyOf (c : Cfg) (s : TSt) (hb : BusOkP c) (hs : StOk c s) : ACall Tryz.prog n_impl_TlmState_copyOf [dA (eSt s)] (hp []) 0
    fun r H' n' => ∃ m0 m1 m2 m3 m4 m5, (s.words.length ≤ m0 ∧ s.holds.length ≤ m1 ∧ s.asked.length ≤ m2 ∧ s.wait.length ≤ m3 ∧ s.done.length ≤ m4 ∧ s.told.length ≤ m5) ∧ n' = 6 ∧ H' = hp [(0, ⟨1, m0, s.words.map eInt⟩), (1, ⟨1, m1, s.holds.map eInt⟩), (2, ⟨1, m2, s.asked.map eInt⟩), (3, ⟨5, m3, s.wait.map eJob⟩), (4, ⟨5, m4, s.done.map eJob⟩), (5, ⟨5, m5, s.told.map eJob⟩)] ∧
      r = dA (oIm 0 1 2 3 4 5 s.words.length s.holds.length s.asked.length s.wait.length s.done.length s.told.length s) := by
  have hl := hs.lens hb
  have hwl := hs.atm.wl
  have hhl := hs.atm.hl
  have hal := hs.askedL
  have hd := hs.dataL
  refine en_impl_TlmState_copyOf rfl fun Q hQ => ?_
  unfold ac_impl_TlmState_copyOf
  repeat' (first | (with_reducible first | (refine hK _ _ _ ?_; clear hK K) | refine Z1 ?_) | (first | (with_reducible refine Y2 fun K hK => ?_) | (refine a_impl_AtmState_copyOf (w := s.words) (u := s.holds) (by omega) (by omega) (fun m0 m1 hm0 hm1 => ?_)) | (refine a_impl_clone_int (l := s.asked) (by omega) (fun m2 hm2 => ?_)) | (refine a_impl_copyJobs (l := s.wait) (by omega) (fun j hj => hd j (by simp [hj])) (fun m3 hm3 => ?_)) | (refine a_impl_copyJobs (l := s.done) (by omega) (fun j hj => hd j (by simp [hj])) (fun m4 hm4 => ?_)) | (refine a_impl_copyJobs (l := s.told) (by omega) (fun j hj => hd j (by simp [hj])) (fun m5 hm5 => ?_))) <;> (simp only [go_sem]) | ((with_reducible refine Y8 ?_); try simp only [AQ.then, AQ.blk, reduceIte, Nat.reduceEqDiff]) | fail)
  (refine hQ _ _ _ _ _ 6 (dA (oIm 0 1 2 3 4 5 s.words.length s.holds.length s.asked.length s.wait.length s.done.length s.told.length s)) (hp [(0, ⟨1, m0, s.words.map eInt⟩), (1, ⟨1, m1, s.holds.map eInt⟩), (2, ⟨1, m2, s.asked.map eInt⟩), (3, ⟨5, m3, s.wait.map eJob⟩), (4, ⟨5, m4, s.done.map eJob⟩), (5, ⟨5, m5, s.told.map eJob⟩)]) _ _ (.inr rfl) rfl (cvR_hp [19, 20, 21, 22, 23, 24] (by omega) (by repeat' (first | ((with_reducible refine C0 ?_); exact CQ (by omega) rfl rfl (by rfl) rfl) | ((with_reducible refine D0 ?_); refine C9 ?_) | exact C3 | refine C4 ?_ ?_ | fail)) ⟨⟨by simp, by simp [sgL], _, rfl, cvO_E (immR_map eInt_ok _) rfl rfl⟩, ⟨by simp, by simp [sgL], _, rfl, cvO_E (immR_map eInt_ok _) rfl rfl⟩, ⟨by simp, by simp [sgL], _, rfl, cvO_E (immR_map eInt_ok _) rfl rfl⟩, ⟨by simp, by simp [sgL], _, rfl, cvO_E (immR_map eJob_ok _) rfl rfl⟩, ⟨by simp, by simp [sgL], _, rfl, cvO_E (immR_map eJob_ok _) rfl rfl⟩, ⟨by simp, by simp [sgL], _, rfl, cvO_E (immR_map eJob_ok _) rfl rfl⟩, trivial⟩ (by simp [sgL])) ?_)
  exact ⟨m0, m1, m2, m3, m4, m5, ⟨hm0, hm1, hm2, hm3, hm4, hm5⟩, rfl, rfl, rfl⟩
theorem a_impl_TlmState_copyOf {c : Cfg} {s : TSt} (hb : BusOkP c) (hs : StOk c s) (h : ∀ m0 m1 m2 m3 m4 m5, (s.words.length ≤ m0 ∧ s.holds.length ≤ m1 ∧ s.asked.length ≤ m2 ∧ s.wait.length ≤ m3 ∧ s.done.length ≤ m4 ∧ s.told.length ≤ m5) → K (dA (oIm nx (nx + 1) (nx + 2) (nx + 3) (nx + 4) (nx + 5) s.words.length s.holds.length s.asked.length s.wait.length s.done.length s.told.length s)) ((((((H.set nx ⟨1, m0, s.words.map eInt⟩).set (nx + 1) ⟨1, m1, s.holds.map eInt⟩).set (nx + 2) ⟨1, m2, s.asked.map eInt⟩).set (nx + 3) ⟨5, m3, s.wait.map eJob⟩).set (nx + 4) ⟨5, m4, s.done.map eJob⟩).set (nx + 5) ⟨5, m5, s.told.map eJob⟩) (nx + 6)) :
    ACall Tryz.prog n_impl_TlmState_copyOf [dA (eSt s)] H nx K := by
  refine (c_impl_TlmState_copyOf c s hb hs).mutL (l0 := []) [] rfl ⟨cvD_im rfl, trivial⟩ trivial (by simp) (by simp) (by simp) fun r H' n' _ ⟨m0, m1, m2, m3, m4, m5, q0, q1, q2, q3⟩ => ?_
  have h := h m0 m1 m2 m3 m4 m5 q0
  subst q1; subst q2; subst q3
  have e1 : back (tau 0 nx (nth [])) (hp [(0, ⟨1, m0, s.words.map eInt⟩), (1, ⟨1, m1, s.holds.map eInt⟩), (2, ⟨1, m2, s.asked.map eInt⟩), (3, ⟨5, m3, s.wait.map eJob⟩), (4, ⟨5, m4, s.done.map eJob⟩), (5, ⟨5, m5, s.told.map eJob⟩)]) 6 H = ((((((H.set nx ⟨1, m0, s.words.map eInt⟩).set (nx + 1) ⟨1, m1, s.holds.map eInt⟩).set (nx + 2) ⟨1, m2, s.asked.map eInt⟩).set (nx + 3) ⟨5, m3, s.wait.map eJob⟩).set (nx + 4) ⟨5, m4, s.done.map eJob⟩).set (nx + 5) ⟨5, m5, s.told.map eJob⟩) := by
    simp [back, hp, Heap.set, Heap.nil, tau, nth, rnO_eInt, rnO_eJob, Heap.upd_some, Heap.upd_none]
  rw [← e1] at h
  exact h
end
end Go.Proofs.YtiimjokpcbapeaaGreat
