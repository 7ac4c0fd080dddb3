/- Contracts: a bus at its beginning, and copies, of the reference. -/
import Derived.Test.YtiimjokpcbapeaaGreatTl
set_option linter.unusedVariables false
set_option linter.unusedSimpArgs false
set_option linter.unusedSectionVars false
namespace Go.Proofs.YtiimjokpcbapeaaGreat
open Go Go.AM
set_option maxRecDepth 100000
set_option maxHeartbeats 4000000
section
variable {H : Heap} {nx : Nat} {K : D → Heap → Nat → Prop}

theorem eJob_c {j : Job} : cI j.who :: cI j.n :: eRsp j.rsp = eJob j := rfl
theorem c_spec_MemNew : ACall Tryz.prog n_spec_MemNew [] (hp []) 0
    fun r H' n' => n' = 1 ∧ H' = hp [(0, ⟨1, 64, (List.replicate 64 (0 : Int)).map eInt⟩)] ∧ r = dA [.osl 1 0 0 64 64] := by
  refine en_spec_MemNew rfl fun Q hQ => ?_
  unfold ac_spec_MemNew
  repeat' (first | (with_reducible first | (refine hK _ _ _ ?_; clear hK K) | refine Z1 ?_) | (with_reducible refine Y2 fun K hK => ?_) <;> (simp only [go_sem]) | ((with_reducible refine Y8 ?_); try simp only [AQ.then, AQ.blk, reduceIte, Nat.reduceEqDiff]) | fail)
  (refine hQ _ _ _ _ _ 1 (dA [.osl 1 0 0 64 64]) (hp [(0, ⟨1, 64, (List.replicate 64 (0 : Int)).map eInt⟩)]) _ _ (.inr rfl) rfl (cvR_hp [1] (by omega) (by repeat' (first | ((with_reducible refine C0 ?_); exact CQ (by omega) rfl rfl (by rfl) rfl) | ((with_reducible refine D0 ?_); refine C9 ?_) | exact C3 | refine C4 ?_ ?_ | fail)) ⟨⟨by simp, by simp [sgL], _, rfl, cvO_E (immR_map eInt_ok _) rfl rfl⟩, trivial⟩ (by simp [sgL])) ?_)
  exact ⟨rfl, rfl, rfl⟩
theorem a_spec_MemNew (h : K (dA [.osl 1 nx 0 64 64]) (H.set nx ⟨1, 64, (List.replicate 64 (0 : Int)).map eInt⟩) (nx + 1)) : ACall Tryz.prog n_spec_MemNew [] H nx K := by
  refine c_spec_MemNew.mutL (l0 := []) [] rfl trivial trivial (by simp) (by simp) (by simp) fun r H' n' _ ⟨q1, q2, q3⟩ => ?_
  subst q1; subst q2; subst q3
  have e1 : back (tau 0 nx (nth [])) (hp [(0, ⟨1, 64, (List.replicate 64 (0 : Int)).map eInt⟩)]) 1 H = H.set nx ⟨1, 64, (List.replicate 64 (0 : Int)).map eInt⟩ := by
    simp only [back, hp, Heap.set, tau, Nat.not_lt_zero, if_true, if_false, Nat.sub_zero, Nat.add_zero, Option.map_some, rnO_eInt, Heap.upd_some]
  rw [← e1] at h
  exact h
theorem c_spec_AtmNew : ACall Tryz.prog n_spec_AtmNew [] (hp []) 0
    fun r H' n' => ∃ hc, 6 ≤ hc ∧ n' = 2 ∧ H' = hp [(0, ⟨1, 64, (List.replicate 64 (0 : Int)).map eInt⟩), (1, ⟨1, hc, (List.replicate 6 (-1 : Int)).map eInt⟩)] ∧ r = dA [.osl 1 0 0 64 64, .osl 1 1 0 6 hc] := by
  refine en_spec_AtmNew rfl fun Q hQ => ?_
  unfold ac_spec_AtmNew
  generalize hw0 : List.replicate 64 (0 : Int) = w0
  have hmn : ∀ {H : Heap} {nx : Nat} {K : D → Heap → Nat → Prop}, K (dA [.osl 1 nx 0 64 64]) (H.set nx ⟨1, 64, w0.map eInt⟩) (nx + 1) → ACall Tryz.prog n_spec_MemNew [] H nx K := fun h => by subst hw0; exact a_spec_MemNew h
  repeat' (first | (with_reducible first | (refine hK _ _ _ ?_; clear hK K) | refine Z1 ?_ | refine Z3 fun KB hKB => ?_) | (first | (with_reducible refine Y2 fun K hK => ?_) | (refine hmn ?_)) <;> (simp only [go_sem]) | fail)
  (have hKX := hKB; clear hKB)
  refine AWPL.virt 1 ?_
  refine AWPL.loopP 4 (β := Nat × Nat) (fun b u => en [(2, dI u.1), (1, dP 2 (b + 1)), (0, dP 2 b)])
    (fun b u => hp [(b, ⟨2, 1, [[.osl 0 0 0 0 0, .osl 0 0 0 0 0]]⟩), (b + 1, ⟨2, 1, [[.osl 1 (b + 2) 0 64 64, .osl 1 (b + 3) 0 u.1 u.2]]⟩), (b + 2, ⟨1, 64, w0.map eInt⟩), (b + 3, ⟨1, u.2, (List.replicate u.1 (-1 : Int)).map eInt⟩)]) (fun u => u.1 ≤ 6 ∧ u.1 ≤ u.2) (fun u => 6 - u.1) (0, 0)
    ?_ ⟨by dsimp only; omega, by dsimp only; omega⟩ ?_
  · (refine cv_hp [0, 3, 5, 7] (by omega) (by repeat' (first | (with_reducible first | exact C1 | refine C2 ?_ ?_) | ((with_reducible refine C0 ?_); exact CE (by omega) rfl) | ((with_reducible refine D0 ?_); first | exact CA rfl | refine CJ ?_) | fail)) ⟨⟨by simp, by simp [sgL], _, rfl, cvO_one (by repeat' (first | (with_reducible first | exact C3 | refine C4 ?_ ?_) | ((with_reducible refine C0 ?_); exact CC) | fail))⟩, ⟨by simp, by simp [sgL], _, rfl, cvO_one (by repeat' (first | (with_reducible first | exact C3 | refine C4 ?_ ?_) | ((with_reducible refine C0 ?_); first | exact CC | exact CQ (by omega) rfl rfl (by rfl) rfl) | fail))⟩, ⟨by simp, by simp [sgL], _, rfl, cvO_E (immR_map eInt_ok _) rfl rfl⟩, ⟨by simp, by simp [sgL], _, rfl, cvO_E (immR_map eInt_ok _) rfl rfl⟩, trivial⟩ (by simp [sgL]))
  · rintro ⟨k, cap⟩ ⟨hk, hc⟩ KL hKL
    dsimp only at hk hc
    have hrep : List.replicate (k + 1) (-1 : Int) = List.replicate k (-1) ++ [-1] := List.replicate_succ'
    by_cases hlt : k < 6
    · repeat' (first | (with_reducible first | (refine hK _ _ _ ?_; clear hK K) | (refine hA ?_; clear hA hB A B) | refine Z1 ?_ | refine Z2 ?_ | refine Z3 fun KB hKB => ?_ | refine Z4 (by omega) ?_ | refine fun (cap : Nat) (hcap : _ ≤ cap) => ?_ | refine fun (hcp : _ ≤ cap) => ?_) | (with_reducible first | refine Y2 fun K hK => ?_ | refine Y3 fun A B hA hB => ?_) <;> (simp only [go_sem]; try simp (disch := omega) only [Iw]) | ((with_reducible refine Y0 ?_); simp only [AQ.then, AQ.blk]) | refine ⟨by omega, ?_⟩ | (with_reducible refine hKB _ _ _ ?_) | fail)
      exact hKL _ _ _ (k + 1, cap) (by omega) (by (refine cv_hp [8, 9, 10, 17] (by omega) (by repeat' (first | (with_reducible first | exact C1 | refine C2 ?_ ?_) | ((with_reducible refine C0 ?_); exact CE (by omega) rfl) | ((with_reducible refine D0 ?_); first | exact CA rfl | refine CJ ?_) | fail)) ⟨⟨by simp, by simp [sgL], _, rfl, cvO_one (by repeat' (first | (with_reducible first | exact C3 | refine C4 ?_ ?_) | ((with_reducible refine C0 ?_); exact CC) | fail))⟩, ⟨by simp, by simp [sgL], _, rfl, cvO_one (by repeat' (first | (with_reducible first | exact C3 | refine C4 ?_ ?_) | ((with_reducible refine C0 ?_); exact CQ (by omega) rfl rfl (by rfl) rfl) | fail))⟩, ⟨by simp, by simp [sgL], _, rfl, cvO_E (immR_map eInt_ok _) rfl rfl⟩, ⟨by simp, by simp [sgL], _, rfl, cvO_E (immR_map eInt_ok _) (congrArg _ hrep) rfl⟩, trivial⟩ (by simp [sgL]))) ⟨by dsimp only; omega, by dsimp only; omega⟩ (by dsimp only; omega)
    · repeat' (first | (with_reducible first | (refine hK _ _ _ ?_; clear hK K) | (refine hB ?_; clear hA hB A B) | refine Z1 ?_ | refine Z5 (by omega) ?_ | refine hKX _ _ _ ?_) | (with_reducible first | refine Y2 fun K hK => ?_ | refine Y3 fun A B hA hB => ?_) <;> (simp only [go_sem]) | ((with_reducible first | refine Y8 ?_ | refine Y9 ?_); try simp only [AQ.then, AQ.blk, reduceIte, Nat.reduceEqDiff]) | fail)
      have hk2 : k = 6 := by omega
      subst hk2
      (refine hQ _ _ _ _ _ 2 (dA [.osl 1 0 0 64 64, .osl 1 1 0 6 cap]) (hp [(0, ⟨1, 64, w0.map eInt⟩), (1, ⟨1, cap, (List.replicate 6 (-1 : Int)).map eInt⟩)]) _ _ (.inr rfl) rfl (cvR_hp [10, 11] (by omega) (by repeat' (first | ((with_reducible refine C0 ?_); exact CQ (by omega) rfl rfl (by rfl) rfl) | ((with_reducible refine D0 ?_); refine C9 ?_) | exact C3 | refine C4 ?_ ?_ | fail)) ⟨⟨by simp, by simp [sgL], _, rfl, cvO_E (immR_map eInt_ok _) rfl rfl⟩, ⟨by simp, by simp [sgL], _, rfl, cvO_E (immR_map eInt_ok _) rfl rfl⟩, trivial⟩ (by simp [sgL])) ?_)
      exact ⟨cap, hc, rfl, by rw [hw0], rfl⟩
theorem a_spec_AtmNew (h : ∀ hc, 6 ≤ hc → K (dA [.osl 1 nx 0 64 64, .osl 1 (nx + 1) 0 6 hc]) ((H.set nx ⟨1, 64, (List.replicate 64 (0 : Int)).map eInt⟩).set (nx + 1) ⟨1, hc, (List.replicate 6 (-1 : Int)).map eInt⟩) (nx + 2)) : ACall Tryz.prog n_spec_AtmNew [] H nx K := by
  refine c_spec_AtmNew.mutL (l0 := []) [] rfl trivial trivial (by simp) (by simp) (by simp) fun r H' n' _ ⟨hc, q0, q1, q2, q3⟩ => ?_
  have h := h hc q0
  subst q1; subst q2; subst q3
  generalize List.replicate 64 (0 : Int) = w0 at *
  generalize List.replicate 6 (-1 : Int) = w1 at *
  have e1 : back (tau 0 nx (nth [])) (hp [(0, ⟨1, 64, w0.map eInt⟩), (1, ⟨1, hc, w1.map eInt⟩)]) 2 H = (H.set nx ⟨1, 64, w0.map eInt⟩).set (nx + 1) ⟨1, hc, w1.map eInt⟩ := by
    simp only [back2, hp, Heap.set, tau, Nat.not_lt_zero, if_true, if_false, Nat.sub_zero, Nat.add_zero, Option.map_some, rnO_eInt, Heap.upd_some, Nat.zero_ne_one, Nat.one_ne_zero]
  rw [← e1] at h
  exact h
theorem c_spec_TlmNew : ACall Tryz.prog n_spec_TlmNew [] (hp []) 0
    fun r H' n' => ∃ hc, 6 ≤ hc ∧ n' = 4 ∧ H' = hp [(0, ⟨1, 64, st0.words.map eInt⟩), (1, ⟨1, hc, st0.holds.map eInt⟩), (2, ⟨1, 3, st0.asked.map eInt⟩), (3, ⟨5, 0, st0.told.map eJob⟩)] ∧ r = dA (oSt 0 1 2 3 64 hc 3 0 st0) := by
  refine en_spec_TlmNew rfl fun Q hQ => ?_
  unfold ac_spec_TlmNew
  generalize hs0 : st0 = s0 at *
  have hw : st0.words = List.replicate 64 0 := rfl
  have hh : st0.holds = List.replicate 6 (-1) := rfl
  have ha : [[D1.v (Value.int IntKind.i64 0)], [D1.v (Value.int IntKind.i64 0)], [D1.v (Value.int IntKind.i64 0)]] = st0.asked.map eInt := rfl
  have h1 : st0.wait = [] := rfl
  have h2 : st0.done = [] := rfl
  have h3 : st0.told = [] := rfl
  rw [hs0] at hw hh ha h1 h2 h3
  have hmn : ∀ {H : Heap} {nx : Nat} {K : D → Heap → Nat → Prop}, (∀ hc, 6 ≤ hc → K (dA [.osl 1 nx 0 64 64, .osl 1 (nx + 1) 0 6 hc]) ((H.set nx ⟨1, 64, s0.words.map eInt⟩).set (nx + 1) ⟨1, hc, s0.holds.map eInt⟩) (nx + 2)) → ACall Tryz.prog n_spec_AtmNew [] H nx K := fun h => by rw [hw, hh] at h; exact a_spec_AtmNew h
  clear hw hh
  obtain ⟨w0, h0, a0, l1, l2, l3⟩ := s0
  dsimp only at *
  subst h1; subst h2; subst h3
  refine AWPL.seq (AWPL.virt 5 ?_)
  repeat' (first | (with_reducible first | (refine hK _ _ _ ?_; clear hK K) | refine Z1 ?_) | (first | (with_reducible refine Y2 fun K hK => ?_) | (refine hmn fun hc hhc => ?_)) <;> (simp only [go_sem, ha]) | ((with_reducible refine Y8 ?_); try simp only [AQ.then, AQ.blk, reduceIte, Nat.reduceEqDiff]) | fail)
  (refine hQ _ _ _ _ _ 4 (dA (oSt 0 1 2 3 64 hc 3 0 ⟨w0, h0, a0, [], [], []⟩)) (hp [(0, ⟨1, 64, w0.map eInt⟩), (1, ⟨1, hc, h0.map eInt⟩), (2, ⟨1, 3, a0.map eInt⟩), (3, ⟨5, 0, ([] : List Job).map eJob⟩)]) _ _ (.inr rfl) rfl (cvR_hp [6, 7, 3, 0] (by omega) (by repeat' (first | ((with_reducible refine C0 ?_); first | exact CC | exact CQ (by omega) rfl rfl (by rfl) rfl | exact CF) | ((with_reducible refine D0 ?_); refine C9 ?_) | exact C3 | refine C4 ?_ ?_ | fail)) ⟨⟨by simp, by simp [sgL], _, rfl, cvO_E (immR_map eInt_ok _) rfl rfl⟩, ⟨by simp, by simp [sgL], _, rfl, cvO_E (immR_map eInt_ok _) rfl rfl⟩, ⟨by simp, by simp [sgL], _, rfl, cvO_E (immR_map eInt_ok _) rfl rfl⟩, ⟨by simp, by simp [sgL], _, rfl, cvO_E (immR_map eJob_ok _) rfl rfl⟩, trivial⟩ (by simp [sgL])) ?_)
  exact ⟨hc, hhc, rfl, rfl, rfl⟩
theorem a_spec_TlmNew (h : ∀ hc, 6 ≤ hc → K (dA (oSt nx (nx + 1) (nx + 2) (nx + 3) 64 hc 3 0 st0)) ((((H.set nx ⟨1, 64, st0.words.map eInt⟩).set (nx + 1) ⟨1, hc, st0.holds.map eInt⟩).set (nx + 2) ⟨1, 3, st0.asked.map eInt⟩).set (nx + 3) ⟨5, 0, st0.told.map eJob⟩) (nx + 4)) : ACall Tryz.prog n_spec_TlmNew [] H nx K := by
  refine c_spec_TlmNew.mutL (l0 := []) [] rfl trivial trivial (by simp) (by simp) (by simp) fun r H' n' _ ⟨hc, q0, q1, q2, q3⟩ => ?_
  have h := h hc q0
  subst q1; subst q2; subst q3
  generalize st0 = s0 at *
  have e1 : back (tau 0 nx (nth [])) (hp [(0, ⟨1, 64, s0.words.map eInt⟩), (1, ⟨1, hc, s0.holds.map eInt⟩), (2, ⟨1, 3, s0.asked.map eInt⟩), (3, ⟨5, 0, s0.told.map eJob⟩)]) 4 H = ((((H.set nx ⟨1, 64, s0.words.map eInt⟩).set (nx + 1) ⟨1, hc, s0.holds.map eInt⟩).set (nx + 2) ⟨1, 3, s0.asked.map eInt⟩).set (nx + 3) ⟨5, 0, s0.told.map eJob⟩) := by
    simp [back, hp, Heap.set, Heap.nil, tau, nth, rnO_eInt, rnO_eJob, Heap.upd_some, Heap.upd_none]
  rw [← e1] at h
  exact h
theorem c_spec_l2Copy (w : List Int) (hl : w.length < 2 ^ 20) : ACall Tryz.prog n_spec_l2Copy [dA [.isl (w.map eInt)]] .nil 0 fun rr _ nn => nn = 0 ∧ rr.imm = true ∧ rr = dA [.isl (w.map eInt)] := by
  refine en_spec_l2Copy rfl fun Q hQ => ?_
  unfold ac_spec_l2Copy
  repeat' (first | (with_reducible first | (refine hK _ _ _ ?_; clear hK K) | refine Z1 ?_ | refine fun (cap : Nat) (hcap : _ ≤ cap) => ?_ | refine fun (hcp : _ ≤ cap) => ?_) | (with_reducible refine Y2 fun K hK => ?_) <;> (simp only [go_sem]) | ((with_reducible refine Y8 ?_); try simp only [AQ.then, AQ.blk, reduceIte, Nat.reduceEqDiff]) | refine ⟨by omega, ?_⟩ | fail)
  all_goals exact exitF hQ (dA [.isl (w.map eInt)]) _ rfl (cvL_cons (cv1_frzM eInt_ok rfl rfl (by omega) trivial) cvL_nil) rfl rfl
theorem a_spec_l2Copy {w : List Int} (hl : w.length < 2 ^ 20) (h : K (dA [.isl (w.map eInt)]) H nx) : ACall Tryz.prog n_spec_l2Copy [dA [.isl (w.map eInt)]] H nx K :=
  (c_spec_l2Copy w hl).fresh rfl (fun r hr => hr ▸ h)
theorem c_spec_l4Copy (w u : List Int) (hl : w.length < 2 ^ 20) (hu : u.length < 2 ^ 20) : ACall Tryz.prog n_spec_l4Copy [dA [.isl (w.map eInt), .isl (u.map eInt)]] .nil 0 fun rr _ nn => nn = 0 ∧ rr.imm = true ∧ rr = dA [.isl (w.map eInt), .isl (u.map eInt)] := by
  refine en_spec_l4Copy rfl fun Q hQ => ?_
  unfold ac_spec_l4Copy
  repeat' (first | (with_reducible first | (refine hK _ _ _ ?_; clear hK K) | refine Z1 ?_ | refine fun (cap : Nat) (hcap : _ ≤ cap) => ?_ | refine fun (hcp : _ ≤ cap) => ?_) | (first | (with_reducible refine Y2 fun K hK => ?_) | (with_reducible refine a_spec_l2Copy hl ?_)) <;> (simp only [go_sem]) | ((with_reducible refine Y8 ?_); try simp only [AQ.then, AQ.blk, reduceIte, Nat.reduceEqDiff]) | refine ⟨by omega, ?_⟩ | fail)
  all_goals exact exitF hQ (dA [.isl (w.map eInt), .isl (u.map eInt)]) _ rfl (cvL_cons (cv1_imm rfl) (cvL_cons (cv1_frzM eInt_ok rfl rfl (by omega) trivial) cvL_nil)) rfl rfl
theorem a_spec_l4Copy {w : List Int} {u : List Int} (hl : w.length < 2 ^ 20) (hu : u.length < 2 ^ 20) (h : K (dA [.isl (w.map eInt), .isl (u.map eInt)]) H nx) : ACall Tryz.prog n_spec_l4Copy [dA [.isl (w.map eInt), .isl (u.map eInt)]] H nx K :=
  (c_spec_l4Copy w u hl hu).fresh rfl (fun r hr => hr ▸ h)
theorem c_spec_l5Rsp (r : Rsp) (hl : r.data.length < 2 ^ 20) : ACall Tryz.prog n_spec_l5Rsp [dA (eRsp r)] .nil 0 fun rr _ nn => nn = 0 ∧ rr.imm = true ∧ rr = dA (eRsp r) := by
  refine en_spec_l5Rsp rfl fun Q hQ => ?_
  unfold ac_spec_l5Rsp
  repeat' (first | (with_reducible first | (refine hK _ _ _ ?_; clear hK K) | refine Z1 ?_ | refine fun (cap : Nat) (hcap : _ ≤ cap) => ?_ | refine fun (hcp : _ ≤ cap) => ?_) | (with_reducible refine Y2 fun K hK => ?_) <;> (simp only [go_sem]) | ((with_reducible refine Y8 ?_); try simp only [AQ.then, AQ.blk, reduceIte, Nat.reduceEqDiff]) | refine ⟨by omega, ?_⟩ | fail)
  all_goals exact exitF hQ (dA (eRsp r)) _ rfl (cvL_cons (cv1_imm rfl) (cvL_cons (cv1_imm rfl) (cvL_cons (cv1_frzM eInt_ok rfl rfl (by omega) trivial) cvL_nil))) rfl rfl
theorem a_spec_l5Rsp {r : Rsp} (hl : r.data.length < 2 ^ 20) (h : K (dA (eRsp r)) H nx) : ACall Tryz.prog n_spec_l5Rsp [dA (eRsp r)] H nx K :=
  (c_spec_l5Rsp r hl).fresh rfl (fun r hr => hr ▸ h)
theorem c_spec_l5List (l : List Job) (hl : l.length < 2 ^ 20) (hd : ∀ j ∈ l, j.rsp.data.length < 2 ^ 20) : ACall Tryz.prog n_spec_l5List [dS (l.map eJob)] .nil 0 fun rr _ nn => nn = 0 ∧ rr.imm = true ∧ rr = dS (l.map eJob) := by
  refine en_spec_l5List rfl fun Q hQ => ?_
  unfold ac_spec_l5List
  repeat' (first | (with_reducible first | (refine hK _ _ _ ?_; clear hK K) | refine Z1 ?_ | refine Z3 fun KB hKB => ?_) | (with_reducible refine Y2 fun K hK => ?_) <;> (simp only [go_sem]) | fail)
  (have hKX := hKB; clear hKB)
  refine AWPL.loopP 1 (β := Nat × Nat) (fun b u => en [(4, dI u.1), (3, dO 5 b u.1 u.2), (0, dS (l.map eJob))])
    (fun b u => hp [(b, ⟨5, u.2, (l.take u.1).map eJob⟩)]) (fun u => u.1 ≤ l.length ∧ u.1 ≤ u.2) (fun u => l.length - u.1) (0, 0) (by (refine cv_hp [1] (by omega) (by repeat' (first | (with_reducible first | exact C1 | refine C2 ?_ ?_) | ((with_reducible refine C0 ?_); exact CC) | ((with_reducible refine D0 ?_); first | exact CA rfl | refine CJ ?_) | fail)) ⟨⟨by simp, by simp [sgL], _, rfl, cvO_E (immR_map eJob_ok _) rfl rfl⟩, trivial⟩ (by simp [sgL]))) ⟨by omega, by omega⟩ ?_
  rintro ⟨k, cap⟩ ⟨hk, hc⟩ KL hKL
  dsimp only at hk hc
  have htt : (l.take k).take k = l.take k := List.take_of_length_le (by simp; omega)
  by_cases hlt : k < l.length
  · have hm := hd _ (getD_mem hlt)
    repeat' (first | (with_reducible first | (refine hK _ _ _ ?_; clear hK K) | (refine hA ?_; clear hA hB A B) | refine Z1 ?_ | refine Z2 ?_ | refine Z3 fun KB hKB => ?_ | refine Z4 (by omega) ?_ | refine fun (cap : Nat) (hcap : _ ≤ cap) => ?_ | refine fun (hcp : _ ≤ cap) => ?_) | (first | (with_reducible first | refine Y2 fun K hK => ?_ | refine Y3 fun A B hA hB => ?_) | (with_reducible refine a_spec_l5Rsp hm ?_)) <;> (simp only [go_sem, htt, eJob_c]; try simp (disch := omega) only [Iw]) | ((with_reducible refine Y0 ?_); simp only [AQ.then, AQ.blk]) | refine ⟨by omega, ?_⟩ | (refine ⟨by (rw [List.length_take]; omega), ?_⟩) | (with_reducible refine hKB _ _ _ ?_) | fail)
    all_goals exact hKL _ _ _ (k + 1, cap) (by omega) (by (refine cv_hp [28] (by omega) (by repeat' (first | (with_reducible first | exact C1 | refine C2 ?_ ?_) | ((with_reducible refine C0 ?_); exact CQ (by omega) rfl rfl (by rfl) rfl) | ((with_reducible refine D0 ?_); first | exact CA rfl | refine CJ ?_) | fail)) ⟨⟨by simp, by simp [sgL], _, rfl, cvO_E (immR_map eJob_ok _) (by rw [take_snoc hlt]) rfl⟩, trivial⟩ (by simp [sgL]))) ⟨by dsimp only; omega, by dsimp only; omega⟩ (by dsimp only; omega)
  · repeat' (first | (with_reducible first | (refine hK _ _ _ ?_; clear hK K) | (refine hB ?_; clear hA hB A B) | refine Z1 ?_ | refine Z5 (by omega) ?_ | refine hKX _ _ _ ?_) | (with_reducible first | refine Y2 fun K hK => ?_ | refine Y3 fun A B hA hB => ?_) <;> (simp only [go_sem]) | ((with_reducible first | refine Y8 ?_ | refine Y9 ?_); try simp only [AQ.then, AQ.blk, reduceIte, Nat.reduceEqDiff]) | fail)
    have hk2 : k = l.length := by omega
    subst hk2
    exact exitF hQ (dS (l.map eJob)) _ rfl (cvD_frz (rows := l.map eJob) (immR_map eJob_ok _) (by simp) trivial rfl rfl (by simp [List.take_of_length_le]) (by simp; omega)) rfl rfl
theorem a_spec_l5List {l : List Job} (hl : l.length < 2 ^ 20) (hd : ∀ j ∈ l, j.rsp.data.length < 2 ^ 20) (h : K (dS (l.map eJob)) H nx) : ACall Tryz.prog n_spec_l5List [dS (l.map eJob)] H nx K :=
  (c_spec_l5List l hl hd).fresh rfl (fun r hr => hr ▸ h)
theorem c_spec_l5Copy (c : Cfg) (s : TSt) (hb : BusOkP c) (hs : StOk c s) (hd : ∀ j ∈ s.wait ++ s.done ++ s.told, j.rsp.data.length < 2 ^ 20) : ACall Tryz.prog n_spec_l5Copy [dA (eSt s)] .nil 0 fun rr _ nn => nn = 0 ∧ rr.imm = true ∧ rr = dA (eSt s) := by
  refine en_spec_l5Copy rfl fun Q hQ => ?_
  unfold ac_spec_l5Copy
  have hl := hs.lens hb
  have hwl := hs.atm.wl
  have hhl := hs.atm.hl
  have hal := hs.askedL
  repeat' (first | (with_reducible first | (refine hK _ _ _ ?_; clear hK K) | refine Z1 ?_ | refine fun (cap : Nat) (hcap : _ ≤ cap) => ?_ | refine fun (hcp : _ ≤ cap) => ?_) | (first | (with_reducible refine Y2 fun K hK => ?_) | (with_reducible refine a_spec_l4Copy (by omega) (by omega) ?_) | (with_reducible refine a_spec_l5List (l := s.wait) (by omega) (fun j hj => hd j (by simp [hj])) ?_) | (with_reducible refine a_spec_l5List (l := s.done) (by omega) (fun j hj => hd j (by simp [hj])) ?_) | (with_reducible refine a_spec_l5List (l := s.told) (by omega) (fun j hj => hd j (by simp [hj])) ?_)) <;> (simp only [go_sem]) | ((with_reducible refine Y8 ?_); try simp only [AQ.then, AQ.blk, reduceIte, Nat.reduceEqDiff]) | refine ⟨by omega, ?_⟩ | fail)
  all_goals exact exitF hQ (dA (eSt s)) _ rfl (cvL_cons (cv1_imm rfl) (cvL_cons (cv1_imm rfl) (cvL_cons (cv1_frzM eInt_ok rfl rfl (by omega) trivial) (cvL_cons (cv1_imm rfl) (cvL_cons (cv1_imm rfl) (cvL_cons (cv1_imm rfl) cvL_nil)))))) rfl rfl
theorem a_spec_l5Copy {c : Cfg} {s : TSt} (hb : BusOkP c) (hs : StOk c s) (hd : ∀ j ∈ s.wait ++ s.done ++ s.told, j.rsp.data.length < 2 ^ 20) (h : K (dA (eSt s)) H nx) : ACall Tryz.prog n_spec_l5Copy [dA (eSt s)] H nx K :=
  (c_spec_l5Copy c s hb hs hd).fresh rfl (fun r hr => hr ▸ h)
end
end Go.Proofs.YtiimjokpcbapeaaGreat
