/- Contracts: what is drawn for what is turned about, of the program. -/
import Derived.Test.YtiimjokpcbapeaaGreatAcLDrawMixed
import Derived.Test.YtiimjokpcbapeaaGreatTo
import Derived.Test.YtiimjokpcbapeaaGreatMzd
set_option linter.unusedVariables false
set_option linter.unusedSimpArgs false
set_option linter.unusedSectionVars false
namespace Go.Proofs.YtiimjokpcbapeaaGreat
open Go Go.AM
set_option maxRecDepth 100000
set_option maxHeartbeats 8000000
section
variable {H : Heap} {nx : Nat} {K : D → Heap → Nat → Prop}
theorem take_getD {α : Type} [Inhabited α] {l : List α} {k : Nat} (h : k < l.length) : l.take (k + 1) = l.take k ++ [l.getD k default] := by
  rw [List.take_succ_eq_append_getElem h]; simp [List.getD, h]
theorem c_spec_l9Meet (p q : Req) : ACall Tryz.prog n_spec_l9Meet [dA (eReq p), dA (eReq q)] .nil 0 fun rr _ _ => rr.plain = true ∧ rr = dB (decide (¬ apartQ p q)) := by
  refine en_spec_l9Meet rfl fun Q hQ => ?_
  unfold ac_spec_l9Meet
  have hA1 : ∀ {H : Heap} {nx : Nat} {K : D → Heap → Nat → Prop}, K (dS ((allQ p).map eInt)) H nx → ACall Tryz.prog n_spec_AdrBurst [dI p.addr, dI p.many, dB p.wrap] H nx K := fun h => a_spec_AdrBurst h
  have hB1 : ∀ {H : Heap} {nx : Nat} {K : D → Heap → Nat → Prop}, K (dS ((allQ q).map eInt)) H nx → ACall Tryz.prog n_spec_AdrBurst [dI q.addr, dI q.many, dB q.wrap] H nx K := fun h => a_spec_AdrBurst h
  have hAl : (allQ p).length ≤ 4 := by unfold allQ; exact burstM_le
  have hBl : (allQ q).length ≤ 4 := by unfold allQ; exact burstM_le
  obtain ⟨A, hA⟩ : ∃ A, A = allQ p := ⟨_, rfl⟩
  obtain ⟨B, hB⟩ : ∃ B, B = allQ q := ⟨_, rfl⟩
  have hap : apartQ p q ↔ ∀ x ∈ A, x ∉ B := by rw [hA, hB]; rfl
  rw [← hA] at hAl
  rw [← hB] at hBl
  simp only [← hA] at hA1
  simp only [← hB] at hB1
  clear hA hB
  repeat' (first | (with_reducible first | (refine hK _ _ _ ?_; clear hK K) | refine Z1 ?_ | refine Z3 fun KB hKB => ?_) | (first | (with_reducible refine Y2 fun K hK => ?_) | (refine hA1 ?_) | (refine hB1 ?_)) <;> (simp only [go_sem]) | fail)
  (have hKX := hKB; clear hKB)
  refine AWPL.loopP 0 (β := Nat) (fun _ i => en [(7, dI i), (6, dS (B.map eInt)), (5, dS (A.map eInt))]) (fun _ _ => .nil) (fun i => i ≤ A.length ∧ ∀ x ∈ A.take i, x ∉ B) (fun i => A.length - i) 0 (cv_nilT (Nat.le_refl _) (by repeat' (first | (with_reducible first | exact C1 | refine C2 ?_ ?_) | ((with_reducible refine D0 ?_); exact CA rfl) | fail))) ⟨by omega, by simp⟩ ?_
  rintro i ⟨hi, hin⟩ KL hKL
  by_cases hlt : i < A.length
  · repeat' (first | (with_reducible first | (refine hK _ _ _ ?_; clear hK K) | (refine hA ?_; clear hA hB A B) | refine Z1 ?_ | refine Z2 ?_ | refine Z3 fun KB hKB => ?_ | refine Z4 (by omega) ?_) | (with_reducible first | refine Y2 fun K hK => ?_ | refine Y3 fun A B hA hB => ?_) <;> (simp only [go_sem]) | fail)
    (have hKY := hKB; clear hKB)
    refine AWPL.loopP 0 (β := Nat) (fun _ j => en [(8, dI j), (7, dI i), (6, dS (B.map eInt)), (5, dS (A.map eInt))]) (fun _ _ => .nil) (fun j => j ≤ B.length ∧ ∀ y ∈ B.take j, A.getD i default ≠ y) (fun j => B.length - j) 0 (cv_nilT (Nat.le_refl _) (by repeat' (first | (with_reducible first | exact C1 | refine C2 ?_ ?_) | ((with_reducible refine D0 ?_); exact CA rfl) | fail))) ⟨by omega, by simp⟩ ?_
    rintro j ⟨hj, hjn⟩ KM hKM
    by_cases hjl : j < B.length
    · by_cases he : A.getD i default = B.getD j default
      · repeat' (first | (with_reducible first | (refine hK _ _ _ ?_; clear hK K) | (refine hA ?_; clear hA hB A B) | refine Z1 ?_ | refine Z2 ?_ | refine Z3 fun KB hKB => ?_ | refine Z4 (by omega) ?_) | (with_reducible first | refine Y2 fun K hK => ?_ | refine Y3 fun A B hA hB => ?_) <;> (simp only [go_sem]) | ((with_reducible refine Y8 ?_); try simp only [AQ.then, AQ.blk, reduceIte, Nat.reduceEqDiff]) | refine ⟨by omega, ?_⟩ | fail)
        all_goals exact exitP hQ (dB true) rfl rfl (dB_t fun h => hap.1 h _ (getD_mem hlt) (he ▸ getD_mem hjl))
      · repeat' (first | (with_reducible first | (refine hK _ _ _ ?_; clear hK K) | (refine hA ?_; clear hA hB A B) | (refine hB ?_; clear hA hB A B) | refine Z1 ?_ | refine Z2 ?_ | refine Z3 fun KB hKB => ?_ | refine Z4 (by omega) ?_ | refine Z5 (by omega) ?_) | (with_reducible first | refine Y2 fun K hK => ?_ | refine Y3 fun A B hA hB => ?_) <;> (simp only [go_sem]; try simp (disch := omega) only [Iw]) | ((with_reducible refine Y0 ?_); simp only [AQ.then, AQ.blk]) | refine ⟨by omega, ?_⟩ | (with_reducible refine hKB _ _ _ ?_) | fail)
        all_goals exact hKM _ _ _ (j + 1) (by omega) (cv_nilT (by omega) (by repeat' (first | (with_reducible first | exact C1 | refine C2 ?_ ?_) | ((with_reducible refine D0 ?_); exact CA rfl) | fail))) ⟨by omega, fun y hy => by
          rw [take_getD hjl, List.mem_append, List.mem_singleton] at hy
          rcases hy with hy | rfl
          · exact hjn y hy
          · exact he⟩ (by omega)
    · have hje : j = B.length := by omega
      subst hje
      rw [List.take_length] at hjn
      repeat' (first | (with_reducible first | (refine hK _ _ _ ?_; clear hK K) | (refine hB ?_; clear hA hB A B) | refine Z1 ?_ | refine Z5 (by omega) ?_ | refine hKY _ _ _ ?_) | (with_reducible first | refine Y2 fun K hK => ?_ | refine Y3 fun A B hA hB => ?_) <;> (simp only [go_sem]; try simp (disch := omega) only [Iw]) | ((with_reducible refine Y9 ?_); try simp only [AQ.then, AQ.blk, reduceIte, Nat.reduceEqDiff]) | ((with_reducible refine Y0 ?_); simp only [AQ.then, AQ.blk]) | (with_reducible refine hKB _ _ _ ?_) | fail)
      exact hKL _ _ _ (i + 1) (by omega) (cv_nilT (by omega) (by repeat' (first | (with_reducible first | exact C1 | refine C2 ?_ ?_) | ((with_reducible refine D0 ?_); exact CA rfl) | fail))) ⟨by omega, fun x hx => by
        rw [take_getD hlt, List.mem_append, List.mem_singleton] at hx
        rcases hx with hx | rfl
        · exact hin x hx
        · exact fun hm => hjn _ hm rfl⟩ (by omega)
  · have hie : i = A.length := by omega
    subst hie
    rw [List.take_length] at hin
    repeat' (first | (with_reducible first | (refine hK _ _ _ ?_; clear hK K) | (refine hB ?_; clear hA hB A B) | refine Z1 ?_ | refine Z5 (by omega) ?_ | refine hKX _ _ _ ?_) | (with_reducible first | refine Y2 fun K hK => ?_ | refine Y3 fun A B hA hB => ?_) <;> (simp only [go_sem]) | ((with_reducible first | refine Y8 ?_ | refine Y9 ?_); try simp only [AQ.then, AQ.blk, reduceIte, Nat.reduceEqDiff]) | fail)
    exact exitP hQ (dB false) rfl rfl (dB_f fun h => h (hap.2 hin))
theorem a_spec_l9Meet {p : Req} {q : Req}   (h : K (dB (decide (¬ apartQ p q))) H nx) : ACall Tryz.prog n_spec_l9Meet [dA (eReq p), dA (eReq q)] H nx K :=
  (c_spec_l9Meet p q).pure rfl (lentL_args ⟨cvD_im rfl, cvD_im rfl, trivial⟩) (fun r hr => hr ▸ h)
theorem c_spec_l9Apart (c : Cfg) (a b : Ev) (hb : BusOkP c) (hc : CfgFit c) (ha : asksP c a.who a.n) (hbb : asksP c b.who b.n) : ACall Tryz.prog n_spec_l9Apart [dA (eCfg c), dA (eEv a), dA (eEv b)] .nil 0 fun rr _ _ => rr.plain = true ∧ rr = dB (decide (apartE c a b)) := by
  refine en_spec_l9Apart rfl fun Q hQ => ?_
  unfold ac_spec_l9Apart
  obtain ⟨hp3, hp12⟩ := busOk_prog hb
  have hba := hp12 a.who.toNat
  have hb2 := hp12 b.who.toNat
  obtain ⟨ha1, ha2⟩ := ha
  obtain ⟨hb1, hb3⟩ := hbb
  by_cases h1 : a.who = b.who ∨ (a.kind = 3 ∧ b.kind = 3)
  · repeat' (first | (with_reducible first | (refine hK _ _ _ ?_; clear hK K) | (refine hA ?_; clear hA hB A B) | refine Z1 ?_ | refine Z4 (by omega) ?_) | (with_reducible first | refine Y2 fun K hK => ?_ | refine Y3 fun A B hA hB => ?_ | refine Y4 (by omega) ?_ | refine Y6 (fun h => ?_) fun h => ?_) <;> (simp only [go_sem]) | ((with_reducible refine Y8 ?_); try simp only [AQ.then, AQ.blk, reduceIte, Nat.reduceEqDiff]) | fail)
    all_goals exact exitP hQ (dB false) rfl rfl (dB_f fun hap => h1.elim hap.1 hap.2.1)
  · by_cases h2 : a.kind = 2 ∧ b.kind = 2
    · repeat' (first | (with_reducible first | (refine hK _ _ _ ?_; clear hK K) | (refine hB ?_; clear hA hB A B) | refine Z1 ?_ | refine Z2 ?_) | (first | (with_reducible first | refine Y2 fun K hK => ?_ | refine Y3 fun A B hA hB => ?_ | refine Y5 (by omega) ?_) | (refine a_spec_l9Meet (p := reqAt c a.who a.n) (q := reqAt c b.who b.n) ?_)) <;> (simp only [go_sem]) | ((with_reducible refine Y8 ?_); try simp only [AQ.then, AQ.blk, reduceIte, Nat.reduceEqDiff]) | refine ⟨by omega, ?_⟩ | fail)
      refine exitP hQ (dB (decide ¬¬apartQ (reqAt c a.who a.n) (reqAt c b.who b.n))) rfl rfl (dB_e ?_)
      rw [Classical.not_not]
      exact ⟨fun h => ⟨fun he => h1 (.inl he), fun he => h1 (.inr he), fun _ _ => h⟩, fun h => h.2.2 h2.1 h2.2⟩
    · repeat' (first | (with_reducible first | (refine hK _ _ _ ?_; clear hK K) | (refine hB ?_; clear hA hB A B) | refine Z1 ?_ | refine Z2 ?_ | refine Z5 (by omega) ?_) | (with_reducible first | refine Y2 fun K hK => ?_ | refine Y3 fun A B hA hB => ?_ | refine Y4 (by omega) ?_ | refine Y5 (by omega) ?_ | refine Y6 (fun h => ?_) fun h => ?_) <;> (simp only [go_sem]) | ((with_reducible refine Y8 ?_); try simp only [AQ.then, AQ.blk, reduceIte, Nat.reduceEqDiff]) | fail)
      all_goals exact exitP hQ (dB true) rfl rfl (dB_t ⟨fun he => h1 (.inl he), fun he => h1 (.inr he), fun e1 e2 => absurd ⟨e1, e2⟩ h2⟩)
theorem a_spec_l9Apart {c : Cfg} {a : Ev} {b : Ev} (hb : BusOkP c) (hc : CfgFit c) (ha : asksP c a.who a.n) (hbb : asksP c b.who b.n)  (h : K (dB (decide (apartE c a b))) H nx) : ACall Tryz.prog n_spec_l9Apart [dA (eCfg c), dA (eEv a), dA (eEv b)] H nx K :=
  (c_spec_l9Apart c a b hb hc ha hbb).pure rfl (lentL_args ⟨cvD_im rfl, cvD_im rfl, cvD_im rfl, trivial⟩) (fun r hr => hr ▸ h)
theorem a_spec_l20TlmP {l : List Int} {n : Int} {i : Nat} (hl : CodeOk l) (hn : 0 ≤ n ∧ n ≤ 1000) (hi : i < nx) (ho : H i = some (rdO l 0)) (h : ∀ p' c es, p' ≤ 10000 → BusOkP c → CfgFit c → Plays c st0 es → (es.length = 0 ∨ (es.length : Int) < n) → K (.tup [.agg (eCfg c), .agg (eSt (runM c st0 es)), .c (.isl (es.map eEv))]) (H.set i (rdO l p')) nx) :
    ACall Tryz.prog n_spec_l20Tlm [dP 2 i, dI n] H nx K :=
  (c_spec_l20Tlm l hl n hn).mut1 i rfl (argL_args ⟨cvD_ptr (by omega) rfl, cvD_im rfl, trivial⟩) hi ho (rdO_imm l 0) fun r o' ⟨p', c, es, q1, q2, q3, q4, q5, q6, q7⟩ => by
    subst q1; subst q7; exact rnD_imm' (A := fun d => K d (H.set i (rdO l p')) nx) rfl (h p' c es q2 q3 q4 q5 q6)
theorem a_pickN {l : List Int} {p i : Nat} {n : Int} (hl : CodeOk l) (hp50 : p < 2 ^ 50) (hn : 0 < n ∧ n < 2 ^ 31) (hi : i < nx) (ho : H i = some (rdO l p)) (h : ∀ x : Nat, (x : Int) < n → K (dI x) (H.set i (rdO l (p + 1))) nx) :
    ACall Tryz.prog n_spec_l20Rd_pick [dP 2 i, dI n] H nx K :=
  a_spec_l20Rd_pick hl hp50 (by omega) hi ho fun x h1 h2 => by
    obtain ⟨k, rfl⟩ : ∃ k : Nat, x = k := ⟨x.toNat, by omega⟩
    exact h k (by omega)
theorem plays_asks {c : Cfg} {es : List Ev} (h : Plays c st0 es) : ∀ e ∈ es, (1 ≤ e.kind ∧ e.kind ≤ 3) ∧ asksP c e.who e.n := fun e he => by
  obtain ⟨k, hk, rfl⟩ := List.getElem_of_mem he
  have hw := h k hk
  rw [show es.getD k default = es[k] by simp [List.getD, hk]] at hw
  obtain ⟨ha, hc⟩ := whyM_zero hw
  exact ⟨by omega, ha⟩
theorem swap_split : ∀ {l : List Ev} {i : Nat}, i + 1 < l.length → l = l.take i ++ l.getD i default :: l.getD (i + 1) default :: l.drop (i + 2)
  | [], i, h => by simp at h
  | [x], i, h => by simp at h
  | x :: y :: l, 0, h => by simp
  | x :: y :: l, i + 1, h => by
    have := swap_split (l := y :: l) (i := i) (by simpa using h)
    rw [List.take_succ_cons, List.cons_append, List.getD_cons_succ, List.getD_cons_succ, List.drop_succ_cons, ← this]
theorem swap_set : ∀ {l : List Ev} {i : Nat}, i + 1 < l.length → (l.set (i + 1) (l.getD i default)).set i (l.getD (i + 1) default) = l.take i ++ l.getD (i + 1) default :: l.getD i default :: l.drop (i + 2)
  | [], i, h => by simp at h
  | [x], i, h => by simp at h
  | x :: y :: l, 0, h => by simp
  | x :: y :: l, i + 1, h => by
    have := swap_set (l := y :: l) (i := i) (by simpa using h)
    rw [List.take_succ_cons, List.cons_append, List.getD_cons_succ, List.getD_cons_succ, List.drop_succ_cons, List.set_cons_succ, List.set_cons_succ, this]
theorem swaps_set {c : Cfg} {es l : List Ev} {i : Nat} (h : Swaps c es l) (hi : i + 1 < l.length) (ha : apartE c (l.getD i default) (l.getD (i + 1) default)) : Swaps c es ((l.set (i + 1) (l.getD i default)).set i (l.getD (i + 1) default)) := by
  rw [swap_set hi]
  refine .step ?_ ha
  rw [← swap_split hi]; exact h
theorem c_spec_DrawMixed (l : List Int) (hl : CodeOk l) : ACall Tryz.prog n_spec_DrawMixed [dS (l.map eU8)] .nil 0
    fun r _ n => n = 0 ∧ r.imm = true ∧ ∃ c es out, BusOkP c ∧ CfgFit c ∧ Plays c st0 es ∧ es.length < 80 ∧ Swaps c es out ∧ r = .tup [.agg (eCfg c), .c (.isl (es.map eEv)), .c (.isl (out.map eEv))] := by
  have hl2 : CodeOk (l.take 2000) := ⟨by simp; omega, fun x hx => hl.byte x (List.take_subset _ _ hx)⟩
  refine en_spec_DrawMixed rfl fun Q hQ => ?_
  unfold ac_spec_DrawMixed
  repeat' (first | (with_reducible first | (refine hK _ _ _ ?_; clear hK K) | refine Z1 ?_ | refine Z3 fun KB hKB => ?_ | refine fun (cap : Nat) (hcap : _ ≤ cap) => ?_ | refine fun (hcp : _ ≤ cap) => ?_) | (first | (with_reducible refine Y2 fun K hK => ?_) | (refine a_spec_l20Open ?_) | (refine a_spec_l20TlmP hl2 (by omega) (by omega) rfl (fun p' c es hp' hb hf hpl he => ?_))) <;> (simp only [go_sem]; try simp (disch := omega) only [Iw]) | refine ⟨by omega, ?_⟩ | fail)
  (have hKX := hKB; clear hKB)
  have hak := plays_asks hpl
  generalize hrun : runM c st0 es = s
  refine AWPL.loopP 1 (β := Nat × Nat × List Ev) (fun b u => en [(10, dI u.1), (9, dO 3 b es.length cap), (8, dS (es.map eEv)), (6, dP 3 13), (5, dP 2 6), (2, dP 3 0)])
    (fun b u => hp [(0, ⟨3, 1, [[.osl 0 0 0 0 0, .osl 0 0 0 0 0, .osl 0 0 0 0 0]]⟩), (6, rdO (l.take 2000) u.2.1), (13, ⟨3, 1, [eCfg c]⟩), (b, ⟨3, cap, u.2.2.map eEv⟩)])
    (fun u => (u.1 + u.2.1 ≤ 20000 ∧ u.2.2.length = es.length) ∧ Swaps c es u.2.2) (fun u => u.1) (3 * es.length, p', es) ?_ ⟨⟨by dsimp only; omega, rfl⟩, .refl⟩ ?_
  · (refine cv_hp [20, 0, 6, 13] (by omega) (by repeat' (first | (with_reducible first | exact C1 | refine C2 ?_ ?_) | ((with_reducible refine C0 ?_); first | exact CQ (by omega) rfl rfl (by rfl) rfl | exact CE (by omega) rfl) | ((with_reducible refine D0 ?_); first | exact CA rfl | refine CJ ?_) | fail)) ⟨⟨by simp, by simp [sgL], _, rfl, cvO_one (by repeat' (first | (with_reducible first | exact C3 | refine C4 ?_ ?_) | ((with_reducible refine C0 ?_); exact CC) | fail))⟩, ⟨by simp, by simp [sgL], _, rfl, cvO_imm (rdO_imm _ _)⟩, ⟨by simp, by simp [sgL], _, rfl, cvO_one (cvL_imm fun x hx => List.all_eq_true.1 (eCfg_ok c).2 x hx)⟩, ⟨by simp, by simp [sgL], _, rfl, cvO_E (immR_map eEv_ok _) rfl rfl⟩, trivial⟩ (by simp [sgL]))
  rintro ⟨j, pj, out⟩ ⟨⟨f1, f2⟩, f3⟩ KL hKL
  dsimp only at f1 f2 f3
  have hao : ∀ e ∈ out, asksP c e.who e.n := fun e he => (hak e ((swaps_perm f3).mem_iff.1 he)).2
  have hl0 : es.length < 2 ^ 20 := by omega
  have e1 : ∀ i : Nat, (1 + (i : Int) - 1).toNat = i := fun i => by omega
  have e2 : ∀ i : Nat, (1 + (i : Int)).toNat = i + 1 := fun i => by omega
  by_cases hj : 0 < j
  · by_cases hl1 : 1 < es.length
    · repeat' (first | (with_reducible first | (refine hK _ _ _ ?_; clear hK K) | (refine hA ?_; clear hA hB A B) | (refine hB ?_; clear hA hB A B) | refine Z1 ?_ | refine Z2 ?_ | refine Z3 fun KB hKB => ?_ | refine Z4 (by omega) ?_ | refine Z6 (fun h => ?_) fun h => ?_) | (first | (with_reducible first | refine Y2 fun K hK => ?_ | refine Y3 fun A B hA hB => ?_ | refine Y4 (by omega) ?_) | (refine a_pickN hl2 (by omega) (by omega) (by omega) rfl (fun i hi2 => ?_)) | (refine a_spec_l9Apart hb hf (hao _ (getD_mem (by omega))) (hao _ (getD_mem (by omega))) ?_)) <;> (simp only [go_sem, e1, e2]; try simp (disch := omega) only [Iw]) | ((with_reducible refine Y0 ?_); simp only [AQ.then, AQ.blk]) | refine ⟨by omega, ?_⟩ | (with_reducible refine hKB _ _ _ ?_) | fail)
      · have h3 := swaps_set (i := i) f3 (by omega) (by simpa only [e1, e2] using h)
        exact hKL _ _ _ (j - 1, pj + 1, (out.set (i + 1) (out.getD i default)).set i (out.getD (i + 1) default)) (by omega) (by (refine cv_hp [26, 0, 6, 13] (by omega) (by repeat' (first | (with_reducible first | exact C1 | refine C2 ?_ ?_) | ((with_reducible refine C0 ?_); first | exact CQ (by omega) rfl rfl (by rfl) rfl | exact CE (by omega) rfl | (exact CG (by (congr 2; omega)) rfl)) | ((with_reducible refine D0 ?_); first | exact CA rfl | refine CJ ?_) | fail)) ⟨⟨by simp, by simp [sgL], _, rfl, cvO_one (by repeat' (first | (with_reducible first | exact C3 | refine C4 ?_ ?_) | ((with_reducible refine C0 ?_); exact CC) | fail))⟩, ⟨by simp, by simp [sgL], _, rfl, cvO_imm (rdO_imm _ _)⟩, ⟨by simp, by simp [sgL], _, rfl, cvO_one (cvL_imm fun x hx => List.all_eq_true.1 (eCfg_ok c).2 x hx)⟩, ⟨by simp, by simp [sgL], _, rfl, cvO_E (immR_map eEv_ok _) rfl rfl⟩, trivial⟩ (by simp [sgL]))) ⟨⟨by dsimp only; omega, by simpa using f2⟩, h3⟩ (by dsimp only; omega)
      · exact hKL _ _ _ (j - 1, pj + 1, out) (by omega) (by (refine cv_hp [26, 0, 6, 13] (by omega) (by repeat' (first | (with_reducible first | exact C1 | refine C2 ?_ ?_) | ((with_reducible refine C0 ?_); first | exact CQ (by omega) rfl rfl (by rfl) rfl | exact CE (by omega) rfl | (exact CG (by (congr 2; omega)) rfl)) | ((with_reducible refine D0 ?_); first | exact CA rfl | refine CJ ?_) | fail)) ⟨⟨by simp, by simp [sgL], _, rfl, cvO_one (by repeat' (first | (with_reducible first | exact C3 | refine C4 ?_ ?_) | ((with_reducible refine C0 ?_); exact CC) | fail))⟩, ⟨by simp, by simp [sgL], _, rfl, cvO_imm (rdO_imm _ _)⟩, ⟨by simp, by simp [sgL], _, rfl, cvO_one (cvL_imm fun x hx => List.all_eq_true.1 (eCfg_ok c).2 x hx)⟩, ⟨by simp, by simp [sgL], _, rfl, cvO_E (immR_map eEv_ok _) rfl rfl⟩, trivial⟩ (by simp [sgL]))) ⟨⟨by dsimp only; omega, f2⟩, f3⟩ (by dsimp only; omega)
    · repeat' (first | (with_reducible first | (refine hK _ _ _ ?_; clear hK K) | (refine hB ?_; clear hA hB A B) | refine Z1 ?_ | refine Z5 (by omega) ?_ | refine hKX _ _ _ ?_) | (with_reducible first | refine Y2 fun K hK => ?_ | refine Y3 fun A B hA hB => ?_ | refine Y4 (by omega) ?_) <;> (simp only [go_sem]) | ((with_reducible first | refine Y8 ?_ | refine Y9 ?_); try simp only [AQ.then, AQ.blk, reduceIte, Nat.reduceEqDiff]) | fail)
      exact exitF hQ (.tup [.agg (eCfg c), .c (.isl (es.map eEv)), .c (.isl (out.map eEv))]) _ rfl (cvD_tup3 (cvV_agg (cvL_imm fun x hx => List.all_eq_true.1 (eCfg_ok c).2 x hx)) (cvV_c (cv1_imm rfl)) (cvV_c (cv1_frzM eEv_ok rfl (by omega) (by omega) trivial))) rfl ⟨c, es, out, hb, hf, hpl, by omega, f3, rfl⟩
  · repeat' (first | (with_reducible first | (refine hK _ _ _ ?_; clear hK K) | (refine hB ?_; clear hA hB A B) | refine Z1 ?_ | refine hKX _ _ _ ?_) | (with_reducible first | refine Y2 fun K hK => ?_ | refine Y3 fun A B hA hB => ?_ | refine Y5 (by omega) ?_) <;> (simp only [go_sem]) | ((with_reducible first | refine Y8 ?_ | refine Y9 ?_); try simp only [AQ.then, AQ.blk, reduceIte, Nat.reduceEqDiff]) | fail)
    exact exitF hQ (.tup [.agg (eCfg c), .c (.isl (es.map eEv)), .c (.isl (out.map eEv))]) _ rfl (cvD_tup3 (cvV_agg (cvL_imm fun x hx => List.all_eq_true.1 (eCfg_ok c).2 x hx)) (cvV_c (cv1_imm rfl)) (cvV_c (cv1_frzM eEv_ok rfl (by omega) (by omega) trivial))) rfl ⟨c, es, out, hb, hf, hpl, by omega, f3, rfl⟩
theorem a_spec_DrawMixed {l : List Int} (hl : CodeOk l) (h : ∀ c es out, BusOkP c → CfgFit c → Plays c st0 es → es.length < 80 → Swaps c es out → K (.tup [.agg (eCfg c), .c (.isl (es.map eEv)), .c (.isl (out.map eEv))]) H nx) : ACall Tryz.prog n_spec_DrawMixed [dS (l.map eU8)] H nx K :=
  (c_spec_DrawMixed l hl).fresh rfl fun r ⟨c, es, out, q1, q2, q3, q4, q5, q6⟩ => q6 ▸ h c es out q1 q2 q3 q4 q5
end
end Go.Proofs.YtiimjokpcbapeaaGreat
