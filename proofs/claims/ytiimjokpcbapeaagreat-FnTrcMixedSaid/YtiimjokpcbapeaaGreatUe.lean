/- Contracts: whether lists and jobs are the same, of the laws. -/
import Derived.Test.YtiimjokpcbapeaaGreatAcLcrInts
import Derived.Test.YtiimjokpcbapeaaGreatAcLcrRsp
import Derived.Test.YtiimjokpcbapeaaGreatAcLcrJobs
import Derived.Test.YtiimjokpcbapeaaGreatAcLcrFrom
import Derived.Test.YtiimjokpcbapeaaGreatAcLcrAtm
import Derived.Test.YtiimjokpcbapeaaGreatTp
set_option linter.unusedVariables false
set_option linter.unusedSimpArgs false
set_option linter.unusedSectionVars false
namespace Go.Proofs.YtiimjokpcbapeaaGreat
open Go Go.AM
set_option maxRecDepth 100000
set_option maxHeartbeats 8000000
section
variable {H : Heap} {nx : Nat} {K : D → Heap → Nat → Prop}
theorem eq_of_getD {α : Type} [Inhabited α] {a b : List α} (hl : a.length = b.length) (h : ∀ i, i < a.length → a.getD i default = b.getD i default) : a = b := by
  refine List.ext_getElem hl fun i h1 h2 => ?_
  have := h i h1
  simpa [List.getD, h1, h2] using this
theorem c_laws_crInts (a b : List Int) (ha : a.length < 2 ^ 40) (hb : b.length < 2 ^ 40) : ACall Tryz.prog n_laws_crInts [dS (a.map eInt), dS (b.map eInt)] .nil 0 fun rr _ _ => rr.plain = true ∧ rr = dB (decide (a = b)) := by
  refine en_laws_crInts rfl fun Q hQ => ?_
  unfold ac_laws_crInts
  by_cases hl : a.length = b.length
  · repeat' (first | (with_reducible first | (refine hK _ _ _ ?_; clear hK K) | (refine hB ?_; clear hA hB A B) | refine Z1 ?_ | refine Z2 ?_ | refine Z3 fun KB hKB => ?_ | refine Z5 (by omega) ?_) | (with_reducible first | refine Y2 fun K hK => ?_ | refine Y3 fun A B hA hB => ?_) <;> (simp only [go_sem]) | fail)
    (have hKX := hKB; clear hKB); (refine AWPL.loop (α := {k : Nat // k ≤ a.length ∧ (∀ i, i < k → a.getD i default = b.getD i default)}) (fun u => en [(5, dI u.1), (1, dS (b.map eInt)), (0, dS (a.map eInt))]) (fun _ => .nil) _ (fun u => a.length - u.1) ⟨0, by omega, (by intros; first | trivial | omega)⟩ (cv_nilT (Nat.le_refl _) (by repeat' (first | (with_reducible first | exact C1 | refine C2 ?_ ?_) | ((with_reducible refine D0 ?_); exact CA rfl) | fail))) ?_); (rintro ⟨k, hk, hinv⟩ KL hKL)
    by_cases hlt : k < a.length
    · repeat' (first | (with_reducible first | (refine hK _ _ _ ?_; clear hK K) | (refine hA ?_; clear hA hB A B) | (refine hB ?_; clear hA hB A B) | refine Z1 ?_ | refine Z2 ?_ | refine Z3 fun KB hKB => ?_ | refine Z4 (by omega) ?_ | refine Z6 (fun h => ?_) fun h => ?_) | (with_reducible first | refine Y2 fun K hK => ?_ | refine Y3 fun A B hA hB => ?_) <;> (simp only [go_sem]; try simp (disch := omega) only [Iw]) | ((with_reducible refine Y8 ?_); try simp only [AQ.then, AQ.blk, reduceIte, Nat.reduceEqDiff]) | ((with_reducible refine Y0 ?_); simp only [AQ.then, AQ.blk]) | refine ⟨by omega, ?_⟩ | (with_reducible refine hKB _ _ _ ?_) | fail)
      · refine exitP hQ _ rfl rfl (dB_f ?_)
        intro he; subst he; simp_all
      · (refine hKL _ _ _ ⟨k + 1, by omega, inv_succ hinv (by omega)⟩ (by omega) (by (try dsimp only); omega) (cv_nilT (Nat.le_refl _) (by repeat' (first | (with_reducible first | exact C1 | refine C2 ?_ ?_) | ((with_reducible refine D0 ?_); exact CA rfl) | fail))))
    · repeat' (first | (with_reducible first | (refine hK _ _ _ ?_; clear hK K) | (refine hB ?_; clear hA hB A B) | refine Z1 ?_ | refine Z5 (by omega) ?_ | refine hKX _ _ _ ?_) | (with_reducible first | refine Y2 fun K hK => ?_ | refine Y3 fun A B hA hB => ?_) <;> (simp only [go_sem]) | ((with_reducible first | refine Y8 ?_ | refine Y9 ?_); try simp only [AQ.then, AQ.blk, reduceIte, Nat.reduceEqDiff]) | fail)
      refine exitP hQ _ rfl rfl (dB_t (eq_of_getD hl fun i hi => hinv i (by omega)))
  · repeat' (first | (with_reducible first | (refine hK _ _ _ ?_; clear hK K) | (refine hA ?_; clear hA hB A B) | refine Z1 ?_ | refine Z4 (by omega) ?_) | (with_reducible first | refine Y2 fun K hK => ?_ | refine Y3 fun A B hA hB => ?_) <;> (simp only [go_sem]) | ((with_reducible refine Y8 ?_); try simp only [AQ.then, AQ.blk, reduceIte, Nat.reduceEqDiff]) | fail)
    refine exitP hQ _ rfl rfl (dB_f fun he => hl (by rw [he]))
theorem a_laws_crInts {a : List Int} {b : List Int} (ha : a.length < 2 ^ 40) (hb : b.length < 2 ^ 40)  (h : K (dB (decide (a = b))) H nx) : ACall Tryz.prog n_laws_crInts [dS (a.map eInt), dS (b.map eInt)] H nx K :=
  (c_laws_crInts a b ha hb).pure rfl (lentL_args ⟨cvD_im rfl, cvD_im rfl, trivial⟩) (fun r hr => hr ▸ h)
theorem c_laws_crRsp (a b : Rsp) (ha : a.data.length < 2 ^ 40) (hb : b.data.length < 2 ^ 40) : ACall Tryz.prog n_laws_crRsp [dA (eRsp a), dA (eRsp b)] .nil 0 fun rr _ _ => rr.plain = true ∧ rr = dB (decide (a = b)) := by
  refine en_laws_crRsp rfl fun Q hQ => ?_
  unfold ac_laws_crRsp
  repeat' (first | (with_reducible first | (refine hK _ _ _ ?_; clear hK K) | refine Z1 ?_) | (first | (with_reducible first | refine Y2 fun K hK => ?_ | refine Y6 (fun h => ?_) fun h => ?_) | (with_reducible refine a_laws_crInts ha hb ?_)) <;> (simp only [go_sem]) | ((with_reducible refine Y8 ?_); try simp only [AQ.then, AQ.blk, reduceIte, Nat.reduceEqDiff]) | fail)
  all_goals first | with_reducible refine exitP hQ _ rfl rfl ?_ | skip
  all_goals (obtain ⟨a1, a2, a3⟩ := a; obtain ⟨b1, b2, b3⟩ := b; dsimp only at *; first | exact dB_t (by simp_all) | exact dB_f (by simp_all) | exact dB_e (by simp_all))
theorem a_laws_crRsp {a : Rsp} {b : Rsp} (ha : a.data.length < 2 ^ 40) (hb : b.data.length < 2 ^ 40)  (h : K (dB (decide (a = b))) H nx) : ACall Tryz.prog n_laws_crRsp [dA (eRsp a), dA (eRsp b)] H nx K :=
  (c_laws_crRsp a b ha hb).pure rfl (lentL_args ⟨cvD_im rfl, cvD_im rfl, trivial⟩) (fun r hr => hr ▸ h)
theorem one_eq {l : List Job} {k : Nat} (h : k < l.length) : (l.drop k).take (((k : Int) + 1).toNat - k) = [l.getD k default] := by
  rw [show ((k : Int) + 1).toNat - k = 1 by omega, List.drop_eq_getElem_cons h, List.take_succ_cons, List.take_zero]
  simp [List.getD, h]
theorem a_laws_crRspE {a b : Rsp} (ha : a.data.length < 2 ^ 40) (hb : b.data.length < 2 ^ 40) (h : K (dB (decide (a = b))) H nx) : ACall Tryz.prog n_laws_crRsp [.one (.agg [cI a.id, cI a.code, .isl (a.data.map eInt)]), .one (.agg [cI b.id, cI b.code, .isl (b.data.map eInt)])] H nx K := a_laws_crRsp ha hb h
theorem c_laws_crJobs (a b : List Job) (ha : a.length < 2 ^ 40) (hb : b.length < 2 ^ 40) (hda : ∀ j ∈ a, j.rsp.data.length < 2 ^ 40) (hdb : ∀ j ∈ b, j.rsp.data.length < 2 ^ 40) : ACall Tryz.prog n_laws_crJobs [dS (a.map eJob), dS (b.map eJob)] .nil 0 fun rr _ _ => rr.plain = true ∧ rr = dB (decide (a = b)) := by
  refine en_laws_crJobs rfl fun Q hQ => ?_
  unfold ac_laws_crJobs
  by_cases hl : a.length = b.length
  · repeat' (first | (with_reducible first | (refine hK _ _ _ ?_; clear hK K) | (refine hB ?_; clear hA hB A B) | refine Z1 ?_ | refine Z2 ?_ | refine Z3 fun KB hKB => ?_ | refine Z5 (by omega) ?_) | (with_reducible first | refine Y2 fun K hK => ?_ | refine Y3 fun A B hA hB => ?_) <;> (simp only [go_sem]) | fail)
    (have hKX := hKB; clear hKB); (refine AWPL.loop (α := {k : Nat // k ≤ a.length ∧ (∀ i, i < k → a.getD i default = b.getD i default)}) (fun u => en [(5, dI u.1), (1, dS (b.map eJob)), (0, dS (a.map eJob))]) (fun _ => .nil) _ (fun u => a.length - u.1) ⟨0, by omega, (by intros; first | trivial | omega)⟩ (cv_nilT (Nat.le_refl _) (by repeat' (first | (with_reducible first | exact C1 | refine C2 ?_ ?_) | ((with_reducible refine D0 ?_); exact CA rfl) | fail))) ?_); (rintro ⟨k, hk, hinv⟩ KL hKL)
    by_cases hlt : k < a.length
    · have d1 := hda _ (getD_mem (l := a) (k := k) hlt)
      have d2 := hdb _ (getD_mem (l := b) (k := k) (by omega))
      have hne : ¬ a.getD k default = b.getD k default → ¬ a = b := fun h1 h2 => h1 (by rw [h2])
      have heq : (a.getD k default).who = (b.getD k default).who → (a.getD k default).n = (b.getD k default).n → (a.getD k default).rsp = (b.getD k default).rsp → a.getD k default = b.getD k default := by
        generalize a.getD k default = x
        generalize b.getD k default = y
        obtain ⟨x1, x2, x3⟩ := x; obtain ⟨y1, y2, y3⟩ := y
        dsimp only; intro h1 h2 h3; subst h1; subst h2; subst h3; rfl
      repeat' (first | (with_reducible first | (refine hK _ _ _ ?_; clear hK K) | (refine hA ?_; clear hA hB A B) | (refine hB ?_; clear hA hB A B) | refine Z1 ?_ | refine Z2 ?_ | refine Z3 fun KB hKB => ?_ | refine Z4 (by omega) ?_ | refine Z6 (fun h => ?_) fun h => ?_) | (first | (with_reducible first | refine Y2 fun K hK => ?_ | refine Y3 fun A B hA hB => ?_ | refine Y6 (fun h => ?_) fun h => ?_) | (with_reducible refine a_laws_crRspE (a := (a.getD k default).rsp) (b := (b.getD k default).rsp) d1 d2 ?_)) <;> (simp only [go_sem]; try simp (disch := omega) only [Iw]) | ((with_reducible refine Y8 ?_); try simp only [AQ.then, AQ.blk, reduceIte, Nat.reduceEqDiff]) | ((with_reducible refine Y0 ?_); simp only [AQ.then, AQ.blk]) | refine ⟨by omega, ?_⟩ | (with_reducible refine hKB _ _ _ ?_) | fail)
      · refine exitP hQ _ rfl rfl (dB_f (hne fun he => absurd (congrArg Job.who he) (by assumption)))
      · refine exitP hQ _ rfl rfl (dB_f (hne fun he => absurd (congrArg Job.n he) (by assumption)))
      · refine exitP hQ _ rfl rfl (dB_f (hne fun he => absurd (congrArg Job.rsp he) (by assumption)))
      · (refine hKL _ _ _ ⟨k + 1, by omega, inv_succ hinv (heq (by omega) (by omega) (Classical.not_not.1 (by assumption)))⟩ (by omega) (by (try dsimp only); omega) (cv_nilT (Nat.le_refl _) (by repeat' (first | (with_reducible first | exact C1 | refine C2 ?_ ?_) | ((with_reducible refine D0 ?_); exact CA rfl) | fail))))
    · repeat' (first | (with_reducible first | (refine hK _ _ _ ?_; clear hK K) | (refine hB ?_; clear hA hB A B) | refine Z1 ?_ | refine Z5 (by omega) ?_ | refine hKX _ _ _ ?_) | (with_reducible first | refine Y2 fun K hK => ?_ | refine Y3 fun A B hA hB => ?_) <;> (simp only [go_sem]) | ((with_reducible first | refine Y8 ?_ | refine Y9 ?_); try simp only [AQ.then, AQ.blk, reduceIte, Nat.reduceEqDiff]) | fail)
      refine exitP hQ _ rfl rfl (dB_t (eq_of_getD hl fun i hi => hinv i (by omega)))
  · repeat' (first | (with_reducible first | (refine hK _ _ _ ?_; clear hK K) | (refine hA ?_; clear hA hB A B) | refine Z1 ?_ | refine Z4 (by omega) ?_) | (with_reducible first | refine Y2 fun K hK => ?_ | refine Y3 fun A B hA hB => ?_) <;> (simp only [go_sem]) | ((with_reducible refine Y8 ?_); try simp only [AQ.then, AQ.blk, reduceIte, Nat.reduceEqDiff]) | fail)
    refine exitP hQ _ rfl rfl (dB_f fun he => hl (by rw [he]))
theorem a_laws_crJobs {a : List Job} {b : List Job} (ha : a.length < 2 ^ 40) (hb : b.length < 2 ^ 40) (hda : ∀ j ∈ a, j.rsp.data.length < 2 ^ 40) (hdb : ∀ j ∈ b, j.rsp.data.length < 2 ^ 40)  (h : K (dB (decide (a = b))) H nx) : ACall Tryz.prog n_laws_crJobs [dS (a.map eJob), dS (b.map eJob)] H nx K :=
  (c_laws_crJobs a b ha hb hda hdb).pure rfl (lentL_args ⟨cvD_im rfl, cvD_im rfl, trivial⟩) (fun r hr => hr ▸ h)
theorem c_laws_crFrom (a b : List Job) (ha : a.length < 2 ^ 40) (hb : b.length < 2 ^ 40) (hda : ∀ j ∈ a, j.rsp.data.length < 2 ^ 40) (hsub : ∀ j ∈ b, j ∈ a) : ACall Tryz.prog n_laws_crFrom [dS (a.map eJob), dS (b.map eJob)] .nil 0 fun rr _ _ => rr.plain = true ∧ rr = dB true := by
  refine en_laws_crFrom rfl fun Q hQ => ?_
  unfold ac_laws_crFrom
  repeat' (first | (with_reducible first | (refine hK _ _ _ ?_; clear hK K) | refine Z1 ?_ | refine Z3 fun KB hKB => ?_) | (with_reducible refine Y2 fun K hK => ?_) <;> (simp only [go_sem]) | fail)
  (have hKX := hKB; clear hKB); (refine AWPL.loop (α := {k : Nat // k ≤ b.length ∧ (True)}) (fun u => en [(5, dI u.1), (1, dS (b.map eJob)), (0, dS (a.map eJob))]) (fun _ => .nil) _ (fun u => b.length - u.1) ⟨0, by omega, (by intros; first | trivial | omega)⟩ (cv_nilT (Nat.le_refl _) (by repeat' (first | (with_reducible first | exact C1 | refine C2 ?_ ?_) | ((with_reducible refine D0 ?_); exact CA rfl) | fail))) ?_); (rintro ⟨k, hk, hinv⟩ KL hKL)
  by_cases hlt : k < b.length
  · have hm := hsub _ (getD_mem (l := b) (k := k) hlt)
    have d2 := hda _ hm
    have o2 := one_eq hlt
    obtain ⟨i, hi, hia⟩ : ∃ i, i < a.length ∧ a.getD i default = b.getD k default := by
      obtain ⟨i, hi, h⟩ := List.getElem_of_mem hm
      exact ⟨i, hi, by simpa [List.getD, hi] using h⟩
    generalize b.getD k default = x at *
    have cj : ∀ {H : Heap} {nx : Nat} {K : D → Heap → Nat → Prop} {j : Nat}, j < a.length → K (dB (decide (a.getD j default = x))) H nx → ACall Tryz.prog n_laws_crJobs [dS (((a.drop j).take (((j : Int) + 1).toNat - j)).map eJob), dS (((b.drop k).take (((k : Int) + 1).toNat - k)).map eJob)] H nx K := fun {H nx K j} hj h => by
      rw [one_eq hj, o2]
      have d1 := hda _ (getD_mem (l := a) (k := j) hj)
      refine a_laws_crJobs (a := [a.getD j default]) (b := [x]) (by simp) (by simp) (by simpa using d1) (by simpa using d2) ?_
      simpa using h
    repeat' (first | (with_reducible first | (refine hK _ _ _ ?_; clear hK K) | (refine hA ?_; clear hA hB A B) | refine Z1 ?_ | refine Z2 ?_ | refine Z3 fun KB hKB => ?_ | refine Z4 (by omega) ?_) | (with_reducible first | refine Y2 fun K hK => ?_ | refine Y3 fun A B hA hB => ?_) <;> (simp only [go_sem]) | fail)
    (have hKY := hKB; clear hKB)
    refine AWPL.loopP 0 (β := Nat × Bool) (fun _ u => en [(7, dI u.1), (6, dB u.2), (5, dI k), (1, dS (b.map eJob)), (0, dS (a.map eJob))]) (fun _ _ => .nil) (fun u => u.1 ≤ a.length ∧ (i < u.1 → u.2 = true)) (fun u => a.length - u.1) (0, false) (cv_nilT (Nat.le_refl _) (by repeat' (first | (with_reducible first | exact C1 | refine C2 ?_ ?_) | ((with_reducible refine D0 ?_); exact CA rfl) | fail))) ⟨by omega, by intro h; dsimp only at h; omega⟩ ?_
    rintro ⟨j, f⟩ ⟨hj, hf⟩ KJ hKJ
    dsimp only at hj hf
    by_cases hlj : j < a.length
    · cases f
      · repeat' (first | (with_reducible first | (refine hK _ _ _ ?_; clear hK K) | (refine hA ?_; clear hA hB A B) | refine Z1 ?_ | refine Z2 ?_ | refine Z3 fun KB hKB => ?_ | refine Z4 (by omega) ?_) | (first | (with_reducible first | refine Y2 fun K hK => ?_ | refine Y3 fun A B hA hB => ?_) | (refine cj hlj ?_)) <;> (simp only [go_sem]; try simp (disch := omega) only [Iw]) | ((with_reducible refine Y0 ?_); simp only [AQ.then, AQ.blk]) | refine ⟨by omega, ?_⟩ | (with_reducible refine hKB _ _ _ ?_) | fail)
        refine hKJ _ _ _ (j + 1, decide (a.getD j default = x)) (by omega) (cv_nilT (by omega) (by repeat' (first | (with_reducible first | exact C1 | refine C2 ?_ ?_) | ((with_reducible refine D0 ?_); exact CA rfl) | fail))) ⟨by dsimp only; omega, fun h => ?_⟩ (by dsimp only; omega)
        dsimp only at h ⊢
        have : i = j := by by_cases h2 : i < j; exact absurd (hf h2) (by decide); omega
        subst this; simpa using hia
      · repeat' (first | (with_reducible first | (refine hK _ _ _ ?_; clear hK K) | (refine hA ?_; clear hA hB A B) | refine Z1 ?_ | refine Z2 ?_ | refine Z3 fun KB hKB => ?_ | refine Z4 (by omega) ?_) | (with_reducible first | refine Y2 fun K hK => ?_ | refine Y3 fun A B hA hB => ?_) <;> (simp only [go_sem]; try simp (disch := omega) only [Iw]) | ((with_reducible refine Y0 ?_); simp only [AQ.then, AQ.blk]) | (with_reducible refine hKB _ _ _ ?_) | fail)
        exact hKJ _ _ _ (j + 1, true) (by omega) (cv_nilT (by omega) (by repeat' (first | (with_reducible first | exact C1 | refine C2 ?_ ?_) | ((with_reducible refine D0 ?_); exact CA rfl) | fail))) ⟨by dsimp only; omega, fun _ => rfl⟩ (by dsimp only; omega)
    · have := hf (by omega)
      subst this
      repeat' (first | (with_reducible first | (refine hK _ _ _ ?_; clear hK K) | (refine hB ?_; clear hA hB A B) | refine Z1 ?_ | refine Z2 ?_ | refine Z5 (by omega) ?_ | refine hKY _ _ _ ?_) | (with_reducible first | refine Y2 fun K hK => ?_ | refine Y3 fun A B hA hB => ?_) <;> (simp only [go_sem]; try simp (disch := omega) only [Iw]) | ((with_reducible refine Y9 ?_); try simp only [AQ.then, AQ.blk, reduceIte, Nat.reduceEqDiff]) | ((with_reducible refine Y0 ?_); simp only [AQ.then, AQ.blk]) | (with_reducible refine hKB _ _ _ ?_) | fail)
      (refine hKL _ _ _ ⟨k + 1, by omega, trivial⟩ (by omega) (by (try dsimp only); omega) (cv_nilT (Nat.le_refl _) (by repeat' (first | (with_reducible first | exact C1 | refine C2 ?_ ?_) | ((with_reducible refine D0 ?_); exact CA rfl) | fail))))
  · repeat' (first | (with_reducible first | (refine hK _ _ _ ?_; clear hK K) | (refine hB ?_; clear hA hB A B) | refine Z1 ?_ | refine Z5 (by omega) ?_ | refine hKX _ _ _ ?_) | (with_reducible first | refine Y2 fun K hK => ?_ | refine Y3 fun A B hA hB => ?_) <;> (simp only [go_sem]) | ((with_reducible first | refine Y8 ?_ | refine Y9 ?_); try simp only [AQ.then, AQ.blk, reduceIte, Nat.reduceEqDiff]) | fail)
    exact exitP hQ _ rfl rfl rfl
theorem a_laws_crFrom {a : List Job} {b : List Job} (ha : a.length < 2 ^ 40) (hb : b.length < 2 ^ 40) (hda : ∀ j ∈ a, j.rsp.data.length < 2 ^ 40) (hsub : ∀ j ∈ b, j ∈ a)  (h : K (dB true) H nx) : ACall Tryz.prog n_laws_crFrom [dS (a.map eJob), dS (b.map eJob)] H nx K :=
  (c_laws_crFrom a b ha hb hda hsub).pure rfl (lentL_args ⟨cvD_im rfl, cvD_im rfl, trivial⟩) (fun r hr => hr ▸ h)
theorem c_laws_crAtm (a b u v : List Int) (ha : a.length < 2 ^ 40) (hb : b.length < 2 ^ 40) (hu : u.length < 2 ^ 40) (hv : v.length < 2 ^ 40) : ACall Tryz.prog n_laws_crAtm [.one (.agg [.isl (a.map eInt), .isl (b.map eInt)]), .one (.agg [.isl (u.map eInt), .isl (v.map eInt)])] .nil 0 fun rr _ _ => rr.plain = true ∧ rr = dB (decide (a = u ∧ b = v)) := by
  refine en_laws_crAtm rfl fun Q hQ => ?_
  unfold ac_laws_crAtm
  repeat' (first | (with_reducible first | (refine hK _ _ _ ?_; clear hK K) | refine Z1 ?_) | (first | (with_reducible first | refine Y2 fun K hK => ?_ | refine Y6 (fun h => ?_) fun h => ?_) | (with_reducible refine a_laws_crInts ha hu ?_) | (with_reducible refine a_laws_crInts hb hv ?_)) <;> (simp only [go_sem]) | ((with_reducible refine Y8 ?_); try simp only [AQ.then, AQ.blk, reduceIte, Nat.reduceEqDiff]) | fail)
  all_goals first | with_reducible refine exitP hQ _ rfl rfl ?_ | skip
  all_goals first | exact dB_t (by simp_all) | exact dB_f (by simp_all) | exact dB_e (by simp_all)
theorem a_laws_crAtm {a : List Int} {b : List Int} {u : List Int} {v : List Int} (ha : a.length < 2 ^ 40) (hb : b.length < 2 ^ 40) (hu : u.length < 2 ^ 40) (hv : v.length < 2 ^ 40)  (h : K (dB (decide (a = u ∧ b = v))) H nx) : ACall Tryz.prog n_laws_crAtm [.one (.agg [.isl (a.map eInt), .isl (b.map eInt)]), .one (.agg [.isl (u.map eInt), .isl (v.map eInt)])] H nx K :=
  (c_laws_crAtm a b u v ha hb hu hv).pure rfl (lentL_args ⟨cvD_im rfl, cvD_im rfl, trivial⟩) (fun r hr => hr ▸ h)
end
end Go.Proofs.YtiimjokpcbapeaaGreat
