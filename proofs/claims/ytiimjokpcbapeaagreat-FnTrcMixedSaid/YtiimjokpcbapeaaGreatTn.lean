/- Contracts: drawing a bus, and what happens. -/
import Derived.Test.YtiimjokpcbapeaaGreatTj
import Derived.Test.YtiimjokpcbapeaaGreatTm
import Derived.Test.YtiimjokpcbapeaaGreatED
set_option linter.unusedVariables false
set_option linter.unusedSimpArgs false
set_option linter.unusedSectionVars false
namespace Go.Proofs.YtiimjokpcbapeaaGreat
open Go Go.AM
set_option maxRecDepth 100000
set_option maxHeartbeats 4000000
section
variable {H : Heap} {nx : Nat} {K : D → Heap → Nat → Prop}

theorem c_spec_l20TlmEvent (l : List Int) (p : Nat) (c : Cfg) (s : TSt) (ac am : Nat) (hl : CodeOk l) (hp50 : p + 5 < 2 ^ 50) (hal : s.asked.length = 3) (hw : s.wait.length < 2 ^ 20) (hd : s.done.length < 2 ^ 20) :
    ACall Tryz.prog n_spec_l20TlmEvent [dP 2 0, dA (eCfg c), dA [.dead, .dead, .osl 1 1 0 3 ac, .isl (s.wait.map eJob), .isl (s.done.map eJob), .dead]] (hp [(0, rdO l p), (1, ⟨1, am, s.asked.map eInt⟩)]) 2
    fun r H' n' => n' = 2 ∧ ∃ o1' o2', H' = hp [(0, o1'), (1, o2')] ∧ immO o1' ∧ immO o2' ∧ ∃ (p' : Nat) (e : Ev), o1' = rdO l p' ∧ o2' = ⟨1, am, s.asked.map eInt⟩ ∧ p ≤ p' ∧ p' ≤ p + 5 ∧ r = dA (eEv e) := by
  refine en_spec_l20TlmEvent rfl fun Q hQ => ?_
  unfold ac_spec_l20TlmEvent
  repeat' (first | (with_reducible first | (refine hK _ _ _ ?_; clear hK K) | (refine hA ?_; clear hA hB A B) | (refine hB ?_; clear hA hB A B) | refine Z1 ?_ | refine Z2 ?_ | refine Z3 fun KB hKB => ?_ | refine Z6 (fun h => ?_) fun h => ?_) | (first | (with_reducible first | refine Y2 fun K hK => ?_ | refine Y3 fun A B hA hB => ?_) | (refine a_spec_l20Rd_pick hl (by omega) (by omega) (by omega) rfl (fun x h1 h2 => ?_))) <;> (simp only [go_sem]; try simp (disch := omega) only [Iw]) | ((with_reducible refine Y8 ?_); try simp only [AQ.then, AQ.blk, reduceIte, Nat.reduceEqDiff]) | ((with_reducible refine Y0 ?_); simp only [AQ.then, AQ.blk]) | refine ⟨by omega, ?_⟩ | (with_reducible refine hKB _ _ _ ?_) | fail)
  all_goals exact exitM2 hQ (dA (eEv ⟨_, _, _⟩)) _ _ _ rfl (cvL_cons (cv1_imm rfl) (cvL_cons (cv1_imm rfl) (cvL_cons (cv1_imm rfl) cvL_nil))) rfl rfl (rdO_imm _ _) (immO_map eInt_ok _) ⟨_, ⟨_, _, _⟩, rfl, rfl, by omega, by omega, rfl⟩
theorem a_spec_l20TlmEvent {l : List Int} {p : Nat} {c : Cfg} {s : TSt} {ac am i j i0 i1 i3 wc hc tc : Nat} (hl : CodeOk l) (hp50 : p + 5 < 2 ^ 50) (hal : s.asked.length = 3) (hw : s.wait.length < 2 ^ 20) (hd : s.done.length < 2 ^ 20)
    (hi : i < nx) (hj : j < nx) (hij : i ≠ j) (ho1 : H i = some (rdO l p)) (ho2 : H j = some ⟨1, am, s.asked.map eInt⟩) (h : ∀ p' e, p ≤ p' → p' ≤ p + 5 → K (dA (eEv e)) ((H.set i (rdO l p')).set j ⟨1, am, s.asked.map eInt⟩) nx) :
    ACall Tryz.prog n_spec_l20TlmEvent [dP 2 i, dA (eCfg c), dA (oSt i0 i1 j i3 wc hc ac tc s)] H nx K :=
  (c_spec_l20TlmEvent l p c s ac am hl hp50 hal hw hd).mut2 i j rfl (argL_args ⟨cvD_ptr (by omega) rfl, cvD_im rfl, cvL_cons (.dead _) (cvL_cons (.dead _) (cvL_cons (cv1_oslE (by omega) rfl rfl rfl rfl) (cvL_cons (cv1_imm rfl) (cvL_cons (cv1_imm rfl) (cvL_cons (.dead _) cvL_nil))))), trivial⟩) hi hj hij ho1 ho2 (rdO_imm l p) (immO_map eInt_ok _) fun r o1' o2' ⟨p', e, q1, q2, q3, q4, q5⟩ => by
    subst q1; subst q2; subst q5; exact h p' e q3 q4

theorem prog_hold {q : Req} (h : ReqOkP q) : ReqOkP ⟨q.id, 3, q.addr, 1, false, [], []⟩ := by
  obtain ⟨h1, h2, ⟨h3, h4, h5⟩, h6⟩ := h
  refine ⟨h1, by dsimp only; omega, ⟨by dsimp only; omega, h4, .inr (by dsimp only; omega)⟩, by simp [manyOf], by simp [manyOf], fun x hx => by simp at hx, fun x hx => by simp at hx, .inr (.inr rfl)⟩

theorem reqOk_len {q : Req} (h : ReqOkP q) : q.data.length < 2 ^ 40 ∧ q.lanes.length < 2 ^ 40 := by
  obtain ⟨h1, h2, ⟨h3, h4, h5⟩, h6, h7, h8⟩ := h
  unfold manyOf at h6 h7
  constructor
  · split at h6 <;> omega
  · split at h7 <;> omega
theorem c_spec_l20Bus (l : List Int) (p : Nat)  (hl : CodeOk l) (hp50 : p + 1000 < 2 ^ 50) : ACall Tryz.prog n_spec_l20Bus [dP 2 0, dI 6] (hp [(0, rdO l p)]) 1
    fun rr H' n' => n' = 1 ∧ ∃ o', H' = hp [(0, o')] ∧ immO o' ∧ ∃ (p' : Nat) (c : Cfg), o' = rdO l p' ∧ p ≤ p' ∧ p' ≤ p + 1000 ∧ rr = dA (eCfg c) ∧ (BusOkP c ∧ CfgFit c) := by
  refine en_spec_l20Bus rfl fun Q hQ => ?_
  unfold ac_spec_l20Bus
  repeat' (first | (with_reducible first | (refine hK _ _ _ ?_; clear hK K) | refine Z1 ?_ | refine Z3 fun KB hKB => ?_) | (first | (with_reducible refine Y2 fun K hK => ?_) | (refine a_spec_l20Map hl (by omega) (by omega) rfl (fun pm m hm1 hm2 hmok => ?_))) <;> (simp only [go_sem]) | fail)
  (have hKX := hKB; clear hKB)
  refine AWPL.virt 1 ?_
  refine AWPL.loopP 3 (β := Nat × Nat × List Int × Nat)
    (fun b u => en [(6, dI u.1), (5, dP 3 (b + 1)), (4, dP 3 b), (1, dI 6), (0, dP 2 0)])
    (fun b u => hp [(0, rdO l u.2.1), (b, ⟨3, 1, [[.osl 0 0 0 0 0, .osl 0 0 0 0 0, .osl 0 0 0 0 0]]⟩), (b + 1, ⟨3, 1, [[.isl (m.map eRng), .osl 1 (b + 2) 0 u.1 u.2.2.2, .osl 0 0 0 0 0]]⟩), (b + 2, ⟨1, u.2.2.2, u.2.2.1.map eInt⟩)])
    (fun u => u.1 ≤ 4 ∧ p ≤ u.2.1 ∧ u.2.1 ≤ p + 8 + u.1 ∧ u.2.2.1.length = u.1 ∧ All u.2.2.1 0 3 ∧ u.1 ≤ u.2.2.2)
    (fun u => 4 - u.1) (0, pm, [], 0) ?_ ⟨by dsimp only; omega, by dsimp only; omega, by dsimp only; omega, rfl, by simp [All], by dsimp only; omega⟩ ?_
  · (refine cv_hp [1, 5, 8, 0] (by omega) (by repeat' (first | (with_reducible first | exact C1 | refine C2 ?_ ?_) | ((with_reducible refine C0 ?_); exact CE (by omega) rfl) | ((with_reducible refine D0 ?_); first | exact CA rfl | refine CJ ?_) | fail)) ⟨⟨by simp, by simp [sgL], _, rfl, cvO_imm (rdO_imm _ _)⟩, ⟨by simp, by simp [sgL], _, rfl, cvO_one (by repeat' (first | (with_reducible first | exact C3 | refine C4 ?_ ?_) | ((with_reducible refine C0 ?_); exact CC) | fail))⟩, ⟨by simp, by simp [sgL], _, rfl, cvO_one (by repeat' (first | (with_reducible first | exact C3 | refine C4 ?_ ?_) | ((with_reducible refine C0 ?_); first | exact CB rfl | exact CC) | fail))⟩, ⟨by simp, by simp [sgL], _, rfl, cvO_E (immR_map eInt_ok _) rfl rfl⟩, trivial⟩ (by simp [sgL]))
  rintro ⟨k, pl, la, cl⟩ ⟨f1, f2, f3, f4, f5, f6⟩ KL hKL
  dsimp only at f1 f2 f3 f4 f5 f6
  have hta : la.take k = la := List.take_of_length_le (by omega)
  by_cases hlt : k < 4
  · repeat' (first | (with_reducible first | (refine hK _ _ _ ?_; clear hK K) | (refine hA ?_; clear hA hB A B) | refine Z1 ?_ | refine Z2 ?_ | refine Z3 fun KB hKB => ?_ | refine Z4 (by omega) ?_ | refine fun (cap : Nat) (hcap : _ ≤ cap) => ?_ | refine fun (hcp : _ ≤ cap) => ?_) | (first | (with_reducible first | refine Y2 fun K hK => ?_ | refine Y3 fun A B hA hB => ?_) | (refine a_spec_l20Rd_pick hl (by omega) (by omega) (by omega) rfl (fun x h1 h2 => ?_))) <;> (simp only [go_sem, hta]; try simp (disch := omega) only [Iw]) | ((with_reducible refine Y0 ?_); simp only [AQ.then, AQ.blk]) | refine ⟨by omega, ?_⟩ | (with_reducible refine hKB _ _ _ ?_) | fail)
    exact hKL _ _ _ (k + 1, pl + 1, la ++ [x], cap) (by omega) (by (refine cv_hp [9, 10, 19, 0] (by omega) (by repeat' (first | (with_reducible first | exact C1 | refine C2 ?_ ?_) | ((with_reducible refine C0 ?_); exact CE (by omega) rfl) | ((with_reducible refine D0 ?_); first | exact CA rfl | refine CJ ?_) | fail)) ⟨⟨by simp, by simp [sgL], _, rfl, cvO_imm (rdO_imm _ _)⟩, ⟨by simp, by simp [sgL], _, rfl, cvO_one (by repeat' (first | (with_reducible first | exact C3 | refine C4 ?_ ?_) | ((with_reducible refine C0 ?_); exact CC) | fail))⟩, ⟨by simp, by simp [sgL], _, rfl, cvO_one (by repeat' (first | (with_reducible first | exact C3 | refine C4 ?_ ?_) | ((with_reducible refine C0 ?_); first | exact CB rfl | exact CC | exact CQ (by omega) rfl rfl (by rfl) rfl) | fail))⟩, ⟨by simp, by simp [sgL], _, rfl, cvO_E (immR_map eInt_ok _) rfl rfl⟩, trivial⟩ (by simp [sgL]))) ⟨by dsimp only; omega, by dsimp only; omega, by dsimp only; omega, by simp; omega, all_snoc f5 (by omega) (by omega), by dsimp only; omega⟩ (by dsimp only; omega)
  have hk4 : k = 4 := by omega
  subst hk4
  repeat' (first | (with_reducible first | (refine hK _ _ _ ?_; clear hK K) | (refine hB ?_; clear hA hB A B) | refine Z1 ?_ | refine Z3 fun KB hKB => ?_ | refine Z5 (by omega) ?_ | refine hKX _ _ _ ?_) | (with_reducible first | refine Y2 fun K hK => ?_ | refine Y3 fun A B hA hB => ?_) <;> (simp only [go_sem]) | ((with_reducible refine Y9 ?_); try simp only [AQ.then, AQ.blk, reduceIte, Nat.reduceEqDiff]) | fail)
  (have hKY := hKB; clear hKB)
  refine AWPL.virt 1 ?_
  refine AWPL.loopP 3 (β := Nat × Nat × List Prog × Nat)
    (fun b u => en [(7, dI u.1), (5, dP 3 (b + 1)), (4, dP 3 b), (1, dI 6), (0, dP 2 0)])
    (fun b u => hp [(0, rdO l u.2.1), (b, ⟨3, 1, [[.osl 0 0 0 0 0, .osl 0 0 0 0 0, .osl 0 0 0 0 0]]⟩), (b + 1, ⟨3, 1, [[.isl (m.map eRng), .isl (la.map eInt), .osl 1 (b + 2) 0 u.1 u.2.2.2]]⟩), (b + 2, ⟨1, u.2.2.2, u.2.2.1.map eProg⟩)])
    (fun u => u.1 ≤ 3 ∧ p ≤ u.2.1 ∧ u.2.1 ≤ p + 12 + 300 * u.1 ∧ u.2.2.1.length = u.1 ∧ (∀ pr ∈ u.2.2.1, pr.length ≤ 12 ∧ ∀ q ∈ pr, ReqOkP q) ∧ u.1 ≤ u.2.2.2)
    (fun u => 3 - u.1) (0, pl, [], 0) ?_ ⟨by dsimp only; omega, by dsimp only; omega, by dsimp only; omega, rfl, fun pr hpr => by simp at hpr, by dsimp only; omega⟩ ?_
  · (refine cv_hp [9, 10, 15, 0] (by omega) (by repeat' (first | (with_reducible first | exact C1 | refine C2 ?_ ?_) | ((with_reducible refine C0 ?_); exact CE (by omega) rfl) | ((with_reducible refine D0 ?_); first | exact CA rfl | refine CJ ?_) | fail)) ⟨⟨by simp, by simp [sgL], _, rfl, cvO_imm (rdO_imm _ _)⟩, ⟨by simp, by simp [sgL], _, rfl, cvO_one (by repeat' (first | (with_reducible first | exact C3 | refine C4 ?_ ?_) | ((with_reducible refine C0 ?_); exact CC) | fail))⟩, ⟨by simp, by simp [sgL], _, rfl, cvO_one (cvL_cons (cv1_imm rfl) (cvL_cons (cv1_frzM eInt_ok rfl (by omega) (by omega) (by simp)) (cvL_cons (.osl0 _ _ _ _ _ _) cvL_nil)))⟩, ⟨by simp, by simp [sgL], _, rfl, cvO_E (immR_map eProg_ok _) rfl rfl⟩, trivial⟩ (by simp [sgL]))
  rintro ⟨k, pl, ps, cp⟩ ⟨g1, g2, g3, g4, g5, g6⟩ KM hKM
  dsimp only at g1 g2 g3 g4 g5 g6
  have htp : ps.take k = ps := List.take_of_length_le (by omega)
  by_cases hlt : k < 3
  · repeat' (first | (with_reducible first | (refine hK _ _ _ ?_; clear hK K) | (refine hA ?_; clear hA hB A B) | refine Z1 ?_ | refine Z2 ?_ | refine Z3 fun KB hKB => ?_ | refine Z4 (by omega) ?_) | (first | (with_reducible first | refine Y2 fun K hK => ?_ | refine Y3 fun A B hA hB => ?_) | (refine a_spec_l20Rd_pick hl (by omega) (by omega) (by omega) rfl (fun x h1 h2 => ?_))) <;> (simp only [go_sem]; try simp (disch := omega) only [Iw]) | fail)
    (have hKZ := hKB; clear hKB)
    rename_i x hx1 hx2
    refine AWPL.loopP 1 (β := Nat × Nat × List Req × Nat)
      (fun b u => en [(9, dI u.1), (8, dO 7 b u.2.2.1.length u.2.2.2), (7, dI k), (5, dP 3 17), (4, dP 3 16), (1, dI 6), (0, dP 2 0)])
      (fun b u => hp [(0, rdO l u.2.1), (16, ⟨3, 1, [[.osl 0 0 0 0 0, .osl 0 0 0 0 0, .osl 0 0 0 0 0]]⟩), (17, ⟨3, 1, [[.isl (m.map eRng), .isl (la.map eInt), .osl 1 18 0 k cp]]⟩), (18, ⟨1, cp, ps.map eProg⟩), (b, ⟨7, u.2.2.2, u.2.2.1.map eReq⟩)])
      (fun u => u.1 ≤ 6 ∧ p ≤ u.2.1 ∧ u.2.1 ≤ pl + 1 + 41 * (6 - u.1) ∧ (∀ q ∈ u.2.2.1, ReqOkP q) ∧ 2 * u.1 + u.2.2.1.length ≤ 12 ∧ u.2.2.1.length ≤ u.2.2.2)
      (fun u => u.1) (x.toNat, pl + 1, [], 0) ?_ ⟨by dsimp only; omega, by dsimp only; omega, by dsimp only; omega, fun q hq => by simp at hq, by simp; omega, by simp⟩ ?_
    · (refine cv_hp [21, 0, 16, 17, 18] (by omega) (by repeat' (first | (with_reducible first | exact C1 | refine C2 ?_ ?_) | ((with_reducible refine C0 ?_); first | exact CC | exact CE (by omega) rfl | (exact CG (by (congr 2; omega)) rfl)) | ((with_reducible refine D0 ?_); first | exact CA rfl | refine CJ ?_) | fail)) ⟨⟨by simp, by simp [sgL], _, rfl, cvO_imm (rdO_imm _ _)⟩, ⟨by simp, by simp [sgL], _, rfl, cvO_one (by repeat' (first | (with_reducible first | exact C3 | refine C4 ?_ ?_) | ((with_reducible refine C0 ?_); exact CC) | fail))⟩, ⟨by simp, by simp [sgL], _, rfl, cvO_one (by repeat' (first | (with_reducible first | exact C3 | refine C4 ?_ ?_) | ((with_reducible refine C0 ?_); first | exact CB rfl | exact CQ (by omega) rfl rfl (by rfl) rfl) | fail))⟩, ⟨by simp, by simp [sgL], _, rfl, cvO_E (immR_map eProg_ok _) rfl rfl⟩, ⟨by simp, by simp [sgL], _, rfl, cvO_E (immR_map eReq_ok _) rfl rfl⟩, trivial⟩ (by simp [sgL]))
    rintro ⟨j, pj, rs, cr⟩ ⟨e1, e2, e3, e4, e5, e6⟩ KN hKN
    dsimp only at e1 e2 e3 e4 e5 e6
    have htr : rs.take rs.length = rs := List.take_length
    by_cases hj : 0 < j
    · refine AWPL.seq ?_
      repeat' (first | (with_reducible first | (refine hK _ _ _ ?_; clear hK K) | (refine hA ?_; clear hA hB A B) | refine Z2 ?_ | refine Z4 (by omega) ?_) | (with_reducible first | refine Y1 fun K hK => ?_ | refine Y3 fun A B hA hB => ?_) <;> (simp only [go_sem]) | fail)
      refine AWPL.seq ?_
      repeat' (first | (with_reducible first | (refine hK _ _ _ ?_; clear hK K) | refine Z3 fun KB hKB => ?_) | (first | (with_reducible refine Y1 fun K hK => ?_) | (refine a_spec_l20Req hl (by omega) (by omega) rfl (fun pq q hq1 hq2 hq3 => ?_))) <;> (simp only [go_sem]) | fail)
      refine AWPL.joinP 2 (β := Nat × List Req × Nat)
        (fun b u => en [(10, dP 7 (b + 1)), (9, dI j), (8, dO 7 b u.2.1.length u.2.2), (7, dI k), (5, dP 3 17), (4, dP 3 16), (1, dI 6), (0, dP 2 0)])
        (fun b u => hp [(0, rdO l u.1), (16, ⟨3, 1, [[.osl 0 0 0 0 0, .osl 0 0 0 0 0, .osl 0 0 0 0 0]]⟩), (17, ⟨3, 1, [[.isl (m.map eRng), .isl (la.map eInt), .osl 1 18 0 k cp]]⟩), (18, ⟨1, cp, ps.map eProg⟩), (b, ⟨7, u.2.2, u.2.1.map eReq⟩), (b + 1, ⟨7, 1, [eReq q]⟩)])
        (fun u => p ≤ u.1 ∧ u.1 ≤ pj + 41 ∧ (∀ q ∈ u.2.1, ReqOkP q) ∧ u.2.1.length ≤ rs.length + 1 ∧ u.2.1.length ≤ u.2.2) (fun KJ hKJ => ?_) ?_
      · repeat' (first | (with_reducible first | (refine hK _ _ _ ?_; clear hK K) | (refine hA ?_; clear hA hB A B) | (refine hB ?_; clear hA hB A B) | refine Z1 ?_ | refine Z2 ?_ | refine Z6 (fun h => ?_) fun h => ?_ | refine fun (cap : Nat) (hcap : _ ≤ cap) => ?_ | refine fun (hcp : _ ≤ cap) => ?_) | (first | (with_reducible first | refine Y2 fun K hK => ?_ | refine Y3 fun A B hA hB => ?_ | refine Y6 (fun h => ?_) fun h => ?_) | (refine a_spec_l20Rd_pick hl (by omega) (by omega) (by omega) rfl (fun x h1 h2 => ?_))) <;> (simp only [go_sem, htr]) | ((with_reducible refine Y0 ?_); simp only [AQ.then, AQ.blk]) | refine ⟨by omega, ?_⟩ | fail)
        · refine hKJ _ _ _ (pq + 1, rs ++ [⟨q.id, 3, q.addr, 1, false, [], []⟩], cap) (by (refine cv_hp [55, 33, 0, 16, 17, 18] (by omega) (by repeat' (first | (with_reducible first | exact C1 | refine C2 ?_ ?_) | ((with_reducible refine C0 ?_); first | (exact CQ (by omega) rfl rfl (by first | rfl | (simp; done)) rfl) | exact CE (by omega) rfl) | ((with_reducible refine D0 ?_); first | exact CA rfl | refine CJ ?_) | fail)) ⟨⟨by simp, by simp [sgL], _, rfl, cvO_imm (rdO_imm _ _)⟩, ⟨by simp, by simp [sgL], _, rfl, cvO_one (by repeat' (first | (with_reducible first | exact C3 | refine C4 ?_ ?_) | ((with_reducible refine C0 ?_); exact CC) | fail))⟩, ⟨by simp, by simp [sgL], _, rfl, cvO_one (by repeat' (first | (with_reducible first | exact C3 | refine C4 ?_ ?_) | ((with_reducible refine C0 ?_); first | exact CB rfl | exact CQ (by omega) rfl rfl (by rfl) rfl) | fail))⟩, ⟨by simp, by simp [sgL], _, rfl, cvO_E (immR_map eProg_ok _) rfl rfl⟩, ⟨by simp, by simp [sgL], _, rfl, cvO_snoc (R := rs.map eReq) (r' := eReq ⟨q.id, 3, q.addr, 1, false, [], []⟩) (by simp) rfl (fun r hr => (immR_map eReq_ok rs r hr).2) rfl (cvL_cons (cv1_imm rfl) (cvL_cons (cv1_imm rfl) (cvL_cons (cv1_imm rfl) (cvL_cons (cv1_imm rfl) (cvL_cons (cv1_imm rfl) (cvL_cons cv1_frz0 (cvL_cons cv1_frz0 cvL_nil)))))))⟩, ⟨by simp, by simp [sgL], _, rfl, cvO_one (by repeat' (first | (with_reducible first | exact C3 | refine C4 ?_ ?_) | ((with_reducible refine C0 ?_); exact CB rfl) | refine C4 ?_ ?_ | fail))⟩, trivial⟩ (by simp [sgL]))) ⟨by dsimp only; omega, by dsimp only; omega, fun q' hq' => ?_, by simp, by simpa using hcap⟩
          rcases List.mem_append.1 hq' with hq' | hq'
          · exact e4 q' hq'
          · simp at hq'; subst hq'; exact prog_hold hq3
        all_goals refine hKJ _ _ _ (_, rs, cr) (by (refine cv_hp [28, 33, 0, 16, 17, 18] (by omega) (by repeat' (first | (with_reducible first | exact C1 | refine C2 ?_ ?_) | ((with_reducible refine C0 ?_); first | exact CQ (by omega) rfl rfl (by rfl) rfl | exact CE (by omega) rfl) | ((with_reducible refine D0 ?_); first | exact CA rfl | refine CJ ?_) | fail)) ⟨⟨by simp, by simp [sgL], _, rfl, cvO_imm (rdO_imm _ _)⟩, ⟨by simp, by simp [sgL], _, rfl, cvO_one (by repeat' (first | (with_reducible first | exact C3 | refine C4 ?_ ?_) | ((with_reducible refine C0 ?_); exact CC) | fail))⟩, ⟨by simp, by simp [sgL], _, rfl, cvO_one (by repeat' (first | (with_reducible first | exact C3 | refine C4 ?_ ?_) | ((with_reducible refine C0 ?_); first | exact CB rfl | exact CQ (by omega) rfl rfl (by rfl) rfl) | fail))⟩, ⟨by simp, by simp [sgL], _, rfl, cvO_E (immR_map eProg_ok _) rfl rfl⟩, ⟨by simp, by simp [sgL], _, rfl, cvO_E (immR_map eReq_ok _) rfl rfl⟩, ⟨by simp, by simp [sgL], _, rfl, cvO_one (by repeat' (first | (with_reducible first | exact C3 | refine C4 ?_ ?_) | ((with_reducible refine C0 ?_); exact CB rfl) | refine C4 ?_ ?_ | fail))⟩, trivial⟩ (by simp [sgL]))) ⟨by dsimp only; omega, by dsimp only; omega, e4, by dsimp only; omega, e6⟩
      rintro ⟨pk, rk, ck⟩ ⟨d1, d2, d3, d4, d5⟩
      dsimp only at d1 d2 d3 d4 d5
      have htk : rk.take rk.length = rk := List.take_length
      repeat' (first | (with_reducible first | (refine hK _ _ _ ?_; clear hK K) | refine fun (cap : Nat) (hcap : _ ≤ cap) => ?_ | refine fun (hcp : _ ≤ cap) => ?_) | (with_reducible refine Y2 fun K hK => ?_) <;> (simp only [go_sem, htk]; try simp (disch := omega) only [Iw]) | ((with_reducible refine Y0 ?_); simp only [AQ.then, AQ.blk]) | refine ⟨by omega, ?_⟩ | (with_reducible refine hKB _ _ _ ?_) | fail)
      refine hKN _ _ _ (j - 1, pk, rk ++ [q], cap) (by omega) (by (refine cv_hp [40, 0, 16, 17, 18] (by omega) (by repeat' (first | (with_reducible first | exact C1 | refine C2 ?_ ?_) | ((with_reducible refine C0 ?_); first | (exact CQ (by omega) rfl rfl (by first | rfl | (simp; done)) rfl) | exact CE (by omega) rfl | (exact CG (by (congr 2; omega)) rfl)) | ((with_reducible refine D0 ?_); first | exact CA rfl | refine CJ ?_) | fail)) ⟨⟨by simp, by simp [sgL], _, rfl, cvO_imm (rdO_imm _ _)⟩, ⟨by simp, by simp [sgL], _, rfl, cvO_one (by repeat' (first | (with_reducible first | exact C3 | refine C4 ?_ ?_) | ((with_reducible refine C0 ?_); exact CC) | fail))⟩, ⟨by simp, by simp [sgL], _, rfl, cvO_one (by repeat' (first | (with_reducible first | exact C3 | refine C4 ?_ ?_) | ((with_reducible refine C0 ?_); first | exact CB rfl | exact CQ (by omega) rfl rfl (by rfl) rfl) | fail))⟩, ⟨by simp, by simp [sgL], _, rfl, cvO_E (immR_map eProg_ok _) rfl rfl⟩, ⟨by simp, by simp [sgL], _, rfl, cvO_E (immR_map eReq_ok _) rfl rfl⟩, trivial⟩ (by simp [sgL]))) ⟨by dsimp only; omega, by dsimp only; omega, by dsimp only; omega, fun q' hq' => ?_, by simp; omega, by simpa using hcap⟩ (by dsimp only; omega)
      rcases List.mem_append.1 hq' with hq' | hq'
      · exact d3 q' hq'
      · simp at hq'; subst hq'; exact hq3
    · have hmin : (rs.length : Int) ≤ 12 := by omega
      repeat' (first | (with_reducible first | (refine hK _ _ _ ?_; clear hK K) | (refine hB ?_; clear hA hB A B) | refine Z1 ?_ | refine Z5 (by omega) ?_ | refine fun (cap : Nat) (hcap : _ ≤ cap) => ?_ | refine fun (hcp : _ ≤ cap) => ?_ | refine hKZ _ _ _ ?_) | (with_reducible first | refine Y2 fun K hK => ?_ | refine Y3 fun A B hA hB => ?_) <;> (simp only [go_sem, htp]; try simp (disch := omega) only [Iw]) | ((with_reducible refine Y9 ?_); try simp only [AQ.then, AQ.blk, reduceIte, Nat.reduceEqDiff]) | ((with_reducible refine Y0 ?_); simp only [AQ.then, AQ.blk]) | refine ⟨by omega, ?_⟩ | (with_reducible refine hKB _ _ _ ?_) | fail)
      refine hKM _ _ _ (k + 1, pj, ps ++ [rs], cap) (by omega) (by (refine cv_hp [16, 17, 39, 0] (by omega) (by repeat' (first | (with_reducible first | exact C1 | refine C2 ?_ ?_) | ((with_reducible refine C0 ?_); exact CE (by omega) rfl) | ((with_reducible refine D0 ?_); first | exact CA rfl | refine CJ ?_) | fail)) ⟨⟨by simp, by simp [sgL], _, rfl, cvO_imm (rdO_imm _ _)⟩, ⟨by simp, by simp [sgL], _, rfl, cvO_one (by repeat' (first | (with_reducible first | exact C3 | refine C4 ?_ ?_) | ((with_reducible refine C0 ?_); exact CC) | fail))⟩, ⟨by simp, by simp [sgL], _, rfl, cvO_one (by repeat' (first | (with_reducible first | exact C3 | refine C4 ?_ ?_) | ((with_reducible refine C0 ?_); first | exact CB rfl | exact CQ (by omega) rfl rfl (by rfl) rfl) | fail))⟩, ⟨by simp, by simp [sgL], _, rfl, cvO_snoc (R := ps.map eProg) (r' := eProg rs) (by simp) rfl (fun r hr => (immR_map eProg_ok ps r hr).2) rfl (cvL_cons (cv1_frzM eReq_ok rfl (by rw [if_neg (by omega)]; omega) (by omega) (by simp)) cvL_nil)⟩, trivial⟩ (by simp [sgL]))) ⟨by dsimp only; omega, by dsimp only; omega, by dsimp only; omega, by simp; omega, fun pr hpr => ?_, by dsimp only; omega⟩ (by dsimp only; omega)
      rcases List.mem_append.1 hpr with hpr | hpr
      · exact g5 pr hpr
      · simp at hpr; subst hpr; exact ⟨by omega, e4⟩
  · repeat' (first | (with_reducible first | (refine hK _ _ _ ?_; clear hK K) | (refine hB ?_; clear hA hB A B) | refine Z1 ?_ | refine Z5 (by omega) ?_ | refine hKY _ _ _ ?_) | (with_reducible first | refine Y2 fun K hK => ?_ | refine Y3 fun A B hA hB => ?_) <;> (simp only [go_sem]) | ((with_reducible first | refine Y8 ?_ | refine Y9 ?_); try simp only [AQ.then, AQ.blk, reduceIte, Nat.reduceEqDiff]) | fail)
    have hk3 : k = 3 := by omega
    subst hk3
    refine exitM1 hQ (dA (eCfg ⟨m, la, ps⟩)) _ _ rfl (cvL_cons (cv1_imm rfl) (cvL_cons (cv1_imm rfl) (cvL_cons (cv1_frzM eProg_ok rfl (by dsimp only; omega) (by dsimp only; omega) (by decide)) cvL_nil))) rfl (rdO_imm _ _) ⟨pl, ⟨m, la, ps⟩, rfl, by omega, by omega, rfl, ?_⟩
    have hpo : ∀ pr ∈ ps, ProgOkP pr := fun pr hpr => by
      obtain ⟨q1, q2⟩ := g5 pr hpr
      refine ⟨by omega, fun hc => ?_⟩
      obtain ⟨x, hx, hx2⟩ := idxM_nonneg.1 hc
      exact of_decide_eq_true hx2 (q2 x hx)
    refine ⟨⟨hmok, by dsimp only; omega, f5, by dsimp only; omega, fun hc => ?_⟩, ⟨by have := hmok.1; dsimp only; omega, by dsimp only; omega, by dsimp only; omega, fun pr hpr => by have := (g5 pr hpr).1; omega, fun pr hpr q hq => ?_⟩⟩
    · obtain ⟨x, hx, hx2⟩ := idxM_nonneg.1 hc
      exact of_decide_eq_true hx2 (hpo x hx)
    · exact reqOk_len ((g5 pr hpr).2 q hq)
theorem a_spec_l20Bus {l : List Int} {p i : Nat}   (hl : CodeOk l) (hp50 : p + 1000 < 2 ^ 50) (hi : i < nx) (ho : H i = some (rdO l p)) (h : ∀ (p' : Nat) (c : Cfg), p ≤ p' → p' ≤ p + 1000 → (BusOkP c ∧ CfgFit c) → K (dA (eCfg c)) (H.set i (rdO l p')) nx) :
    ACall Tryz.prog n_spec_l20Bus [dP 2 i, dI 6] H nx K :=
  (c_spec_l20Bus l p  hl hp50).mut1 i rfl (argL_args ⟨cvD_ptr (by omega) rfl, cvD_im rfl, trivial⟩) hi ho (rdO_imm l p) fun r o' ⟨p', c, h1, h2, h3, h4, h5⟩ => by
    subst h1; subst h4; exact rnD_imm' (A := fun d => K d (H.set i (rdO l p')) nx) rfl (h p' c h2 h3 h5)
end
end Go.Proofs.YtiimjokpcbapeaaGreat
