/- Contracts: what happens, of the reference. -/
import Derived.Test.YtiimjokpcbapeaaGreatTk
import Derived.Test.YtiimjokpcbapeaaGreatTg
set_option linter.unusedVariables false
set_option linter.unusedSimpArgs false
set_option linter.unusedSectionVars false
namespace Go.Proofs.YtiimjokpcbapeaaGreat
open Go Go.AM
set_option maxRecDepth 100000
set_option maxHeartbeats 4000000
section
variable {H : Heap} {nx : Nat} {K : D → Heap → Nat → Prop}

theorem c_spec_l5Out (l : List Job) (a : Nat) (ha : a < l.length) (hl : l.length < 2 ^ 20) : ACall Tryz.prog n_spec_l5Out [dS (l.map eJob), dI a] .nil 0 fun rr _ nn => nn = 0 ∧ rr.imm = true ∧ rr = dS ((outJ l a).map eJob) := by
  refine en_spec_l5Out rfl fun Q hQ => ?_
  unfold ac_spec_l5Out
  repeat' (first | (with_reducible first | (refine hK _ _ _ ?_; clear hK K) | refine Z1 ?_ | refine Z3 fun KB hKB => ?_) | (with_reducible refine Y2 fun K hK => ?_) <;> (simp only [go_sem]) | fail)
  (have hKX := hKB; clear hKB)
  refine AWPL.loopP 1 (β := Nat × Nat) (fun b u => en [(6, dI u.1), (5, dO 5 b (outK l a u.1).length u.2), (1, dI a), (0, dS (l.map eJob))])
    (fun b u => hp [(b, ⟨5, u.2, (outK l a u.1).map eJob⟩)]) (fun u => u.1 ≤ l.length ∧ (outK l a u.1).length ≤ u.2) (fun u => l.length - u.1) (0, 0) (by (refine cv_hp [1] (by omega) (by repeat' (first | (with_reducible first | exact C1 | refine C2 ?_ ?_) | ((with_reducible refine C0 ?_); exact CC) | ((with_reducible refine D0 ?_); first | exact CA rfl | refine CJ ?_) | fail)) ⟨⟨by simp, by simp [sgL], _, rfl, cvO_E (immR_map eJob_ok _) rfl rfl⟩, trivial⟩ (by simp [sgL]))) ⟨by omega, by simp [outK]⟩ ?_
  rintro ⟨k, cap⟩ ⟨hk, hc⟩ KL hKL
  dsimp only at hk hc
  have hlen := outK_len (a := a) hk
  by_cases hlt : k < l.length
  · repeat' (first | (with_reducible first | (refine hK _ _ _ ?_; clear hK K) | (refine hA ?_; clear hA hB A B) | (refine hB ?_; clear hA hB A B) | refine Z1 ?_ | refine Z2 ?_ | refine Z3 fun KB hKB => ?_ | refine Z4 (by omega) ?_ | refine Z6 (fun h => ?_) fun h => ?_ | refine fun (cap : Nat) (hcap : _ ≤ cap) => ?_ | refine fun (hcp : _ ≤ cap) => ?_) | (with_reducible first | refine Y2 fun K hK => ?_ | refine Y3 fun A B hA hB => ?_) <;> (simp only [go_sem]; try simp (disch := omega) only [Iw]) | ((with_reducible refine Y0 ?_); simp only [AQ.then, AQ.blk]) | refine ⟨by omega, ?_⟩ | (with_reducible refine hKB _ _ _ ?_) | fail)
    · have hn := outK_ne hlt (a := a) (by omega)
      have hn2 := congrArg List.length hn
      simp only [List.length_append, List.length_cons, List.length_nil] at hn2
      exact hKL _ _ _ (k + 1, cap) (by omega) (by (refine cv_hp [18] (by omega) (by repeat' (first | (with_reducible first | exact C1 | refine C2 ?_ ?_) | ((with_reducible refine C0 ?_); exact CQ (by omega) rfl rfl (by omega) rfl) | ((with_reducible refine D0 ?_); first | exact CA rfl | refine CJ ?_) | fail)) ⟨⟨by simp, by simp [sgL], _, rfl, cvO_E (immR_map eJob_ok _) (congrArg _ hn) rfl⟩, trivial⟩ (by simp [sgL]))) ⟨by dsimp only; omega, by dsimp only; omega⟩ (by dsimp only; omega)
    · have hn := outK_eq hlt (a := a) (by omega)
      have hn2 := congrArg List.length hn
      exact hKL _ _ _ (k + 1, cap) (by omega) (by (refine cv_hp [4] (by omega) (by repeat' (first | (with_reducible first | exact C1 | refine C2 ?_ ?_) | ((with_reducible refine C0 ?_); exact CQ (by omega) rfl rfl (by omega) rfl) | ((with_reducible refine D0 ?_); first | exact CA rfl | refine CJ ?_) | fail)) ⟨⟨by simp, by simp [sgL], _, rfl, cvO_E (immR_map eJob_ok _) (congrArg _ hn) rfl⟩, trivial⟩ (by simp [sgL]))) ⟨by dsimp only; omega, by dsimp only; rw [hn]; exact hc⟩ (by dsimp only; omega)
  · repeat' (first | (with_reducible first | (refine hK _ _ _ ?_; clear hK K) | (refine hB ?_; clear hA hB A B) | refine Z1 ?_ | refine Z5 (by omega) ?_ | refine hKX _ _ _ ?_) | (with_reducible first | refine Y2 fun K hK => ?_ | refine Y3 fun A B hA hB => ?_) <;> (simp only [go_sem]) | ((with_reducible first | refine Y8 ?_ | refine Y9 ?_); try simp only [AQ.then, AQ.blk, reduceIte, Nat.reduceEqDiff]) | fail)
    have hk2 : k = l.length := by omega
    subst hk2
    exact exitF hQ (dS _) _ rfl (cvD_frzM (l := outK l a l.length) eJob_ok rfl (by simp) (by omega) trivial) rfl (by rw [outK_end ha])
theorem a_spec_l5Out {l : List Job} {a : Nat} (ha : a < l.length) (hl : l.length < 2 ^ 20) (h : K (dS ((outJ l a).map eJob)) H nx) : ACall Tryz.prog n_spec_l5Out [dS (l.map eJob), dI a] H nx K :=
  (c_spec_l5Out l a ha hl).fresh rfl (fun r hr => hr ▸ h)
def oSt (i0 i1 i2 i3 wc hc ac tc : Nat) (s : TSt) : List D1 := [.osl 1 i0 0 64 wc, .osl 1 i1 0 6 hc, .osl 1 i2 0 3 ac, .isl (s.wait.map eJob), .isl (s.done.map eJob), .osl 5 i3 0 s.told.length tc]
theorem job0 {a b : Int} : [cI a, cI b, cI 0, cI 0, .isl []] = eJob ⟨a, b, rsp0⟩ := rfl

theorem a_spec_l5Put0 {l : List Job} {a b : Int} (hl : l.length < 2 ^ 20) (h : K (dS ((putJ l ⟨a, b, rsp0⟩).map eJob)) H nx) : ACall Tryz.prog n_spec_l5Put [dS (l.map eJob), dA [cI a, cI b, cI 0, cI 0, .osl 0 0 0 0 0]] H nx K :=
  (c_spec_l5Put l ⟨a, b, rsp0⟩ hl).freshA rfl ⟨cvD_im rfl, cvL_cons (cv1_imm rfl) (cvL_cons (cv1_imm rfl) (cvL_cons (cv1_imm rfl) (cvL_cons (cv1_imm rfl) (cvL_cons cv1_frz0 cvL_nil)))), trivial⟩ fun r hr => hr ▸ h
theorem a_spec_l5PutR {l : List Job} {a b : Int} {r : Rsp} (hl : l.length < 2 ^ 20) (h : K (dS ((putJ l ⟨a, b, r⟩).map eJob)) H nx) : ACall Tryz.prog n_spec_l5Put [dS (l.map eJob), dA (cI a :: cI b :: eRsp r)] H nx K :=
  a_spec_l5Put (j := ⟨a, b, r⟩) hl h
theorem a_spec_l5OutZ {l : List Job} {z : Int} (hz : ¬ z < 0) (ha : z.toNat < l.length) (hl : l.length < 2 ^ 20) (h : K (dS ((outJ l z.toNat).map eJob)) H nx) : ACall Tryz.prog n_spec_l5Out [dS (l.map eJob), dI z] H nx K := by
  have := a_spec_l5Out (K := K) ha hl h
  rwa [Int.toNat_of_nonneg (by omega)] at this
theorem c_spec_l5Step (c : Cfg) (s : TSt) (e : Ev) (wc wm hc hm ac am tc tm : Nat) (hb : BusOkP c) (hs : StOk c s) (hwc : 64 ≤ wc) (hhc : 6 ≤ hc) (hac : 3 ≤ ac) (htc : s.told.length ≤ tc) (htm : tc ≤ tm) :
    ACall Tryz.prog n_spec_l5Step [dA (eCfg c), dA (oSt 0 1 2 3 wc hc ac tc s), dA (eEv e)] (hp [(0, ⟨1, wm, s.words.map eInt⟩), (1, ⟨1, hm, s.holds.map eInt⟩), (2, ⟨1, am, s.asked.map eInt⟩), (3, ⟨5, tm, s.told.map eJob⟩)]) 4
    fun r H' n' => (whyM c s e = 0 ∧ ∃ tc' tm', (stepM c s e).told.length ≤ tc' ∧ tc' ≤ tm' ∧ n' = 5 ∧ H' = hp [(0, ⟨1, wm, (stepM c s e).words.map eInt⟩), (1, ⟨1, hm, (stepM c s e).holds.map eInt⟩), (2, ⟨1, am, (stepM c s e).asked.map eInt⟩), (4, ⟨5, tm', (stepM c s e).told.map eJob⟩)]
      ∧ r = .tup [.agg (oSt 0 1 2 4 wc hc ac tc' (stepM c s e)), .c (cB true)]) ∨
      (¬ whyM c s e = 0 ∧ n' = 4 ∧ H' = hp [(0, ⟨1, wm, s.words.map eInt⟩), (1, ⟨1, hm, s.holds.map eInt⟩), (2, ⟨1, am, s.asked.map eInt⟩), (3, ⟨5, tm, s.told.map eJob⟩)] ∧ r = .tup [.agg (oSt 0 1 2 3 wc hc ac tc s), .c (cB false)]) := by
  have hl := hs.lens hb
  have hf := hs.fit hb
  obtain ⟨hp3, hp12⟩ := busOk_prog hb
  have hwl := hs.atm.wl
  have hhl := hs.atm.hl
  have hal := hs.askedL
  have hmap := hb.1.1
  have hb12 := hp12 e.who.toNat
  refine en_spec_l5Step rfl fun Q hQ => ?_
  unfold ac_spec_l5Step
  simp only [oSt]
  by_cases hok : asksP c e.who e.n
  · have hrq := reqAt_ok hb hok
    obtain ⟨ho1, ho2⟩ := hok
    have hok : asksP c e.who e.n := ⟨ho1, ho2⟩
    have ht1 := fun h => (idxM_at_key (l := s.wait) (who := e.who) (n := e.n) h).1
    have ht2 := fun h => (idxM_at_key (l := s.done) (who := e.who) (n := e.n) h).1
    have hg1 := idxM_ge (p := isJob e.who e.n) (l := s.wait)
    have hg2 := idxM_ge (p := isJob e.who e.n) (l := s.done)
    repeat' (first | (with_reducible first | (refine hK _ _ _ ?_; clear hK K) | (refine hA ?_; clear hA hB A B) | (refine hB ?_; clear hA hB A B) | refine Z1 ?_ | refine Z2 ?_ | refine Z3 fun KB hKB => ?_ | refine Z5 (by omega) ?_ | refine Z6 (fun h => ?_) fun h => ?_ | refine fun (cap : Nat) (hcap : _ ≤ cap) => ?_ | refine fun (hcp : _ ≤ cap) => ?_) | (first | (with_reducible first | refine Y2 fun K hK => ?_ | refine Y3 fun A B hA hB => ?_ | refine Y5 (by omega) ?_ | refine Y6 (fun h => ?_) fun h => ?_) | (with_reducible refine a_spec_l1In ?_) | (with_reducible refine a_spec_l5At (by omega) ?_) | (with_reducible refine a_spec_l5First (l := s.wait) (e := e) (by omega) hp3 hok (fun j hj _ _ => hf.wait j hj) ?_) | (with_reducible refine a_spec_l5First (l := s.done) (e := e) (by omega) hp3 hok (fun j hj _ _ => hf.done j hj) ?_) | (with_reducible refine a_spec_l5Put0 (by omega) ?_) | (with_reducible refine a_spec_l5PutR (by omega) ?_) | (with_reducible refine a_spec_l5OutZ (l := s.wait) (by assumption) (ht1 (by assumption)) (by omega) ?_) | (with_reducible refine a_spec_l5OutZ (l := s.done) (by assumption) (ht2 (by assumption)) (by omega) ?_) | (refine a_spec_l4Do (by omega) hs.atm hwc hhc ho1 hrq (by omega) (by omega) (by omega) rfl rfl ?_)) <;> (simp only [go_sem]; try simp (disch := omega) only [Iw]) | ((with_reducible refine Y8 ?_); try simp only [AQ.then, AQ.blk, reduceIte, Nat.reduceEqDiff]) | ((with_reducible refine Y0 ?_); simp only [AQ.then, AQ.blk]) | refine ⟨by omega, ?_⟩ | (with_reducible refine hKB _ _ _ ?_) | fail)
    all_goals first
      | (have hwhy : ¬ whyM c s e = 0 := by (unfold whyM; grind)
         (refine hQ _ _ _ _ _ 4 (.tup [.agg (oSt 0 1 2 3 wc hc ac tc s), .c (cB false)]) (hp [(0, ⟨1, wm, s.words.map eInt⟩), (1, ⟨1, hm, s.holds.map eInt⟩), (2, ⟨1, am, s.asked.map eInt⟩), (3, ⟨5, tm, s.told.map eJob⟩)]) _ _ (.inr rfl) rfl (cvR_hp [0, 1, 2, 3] (by omega) (by repeat' (first | (with_reducible first | refine C5 ?_ ?_ | refine C7 ?_ | refine C8 ?_) | ((with_reducible refine C0 ?_); first | exact CB rfl | exact CQ (by omega) rfl rfl (by rfl) rfl) | exact C3 | refine C4 ?_ ?_ | fail)) ⟨⟨by simp, by simp [sgL], _, rfl, cvO_E (immR_map eInt_ok _) rfl rfl⟩, ⟨by simp, by simp [sgL], _, rfl, cvO_E (immR_map eInt_ok _) rfl rfl⟩, ⟨by simp, by simp [sgL], _, rfl, cvO_E (immR_map eInt_ok _) rfl rfl⟩, ⟨by simp, by simp [sgL], _, rfl, cvO_E (immR_map eJob_ok _) rfl rfl⟩, trivial⟩ (by simp [sgL])) ?_)
         exact .inr ⟨hwhy, rfl, rfl, rfl⟩)
      | have hwhy : whyM c s e = 0 := by (unfold whyM; grind)
    · have hnx : stepM c s e = ({ s with asked := s.asked.set e.who.toNat (e.n + 1), wait := putJ s.wait ⟨e.who, e.n, rsp0⟩ } : TSt) := by simp only [stepM]; rw [if_pos (by assumption)]
      rw [hnx] at hQ
      (refine hQ _ _ _ _ _ 5 (.tup [.agg (oSt 0 1 2 4 wc hc ac tc ({ s with asked := s.asked.set e.who.toNat (e.n + 1), wait := putJ s.wait ⟨e.who, e.n, rsp0⟩ } : TSt)), .c (cB true)]) (hp [(0, ⟨1, wm, ({ s with asked := s.asked.set e.who.toNat (e.n + 1), wait := putJ s.wait ⟨e.who, e.n, rsp0⟩ } : TSt).words.map eInt⟩), (1, ⟨1, hm, ({ s with asked := s.asked.set e.who.toNat (e.n + 1), wait := putJ s.wait ⟨e.who, e.n, rsp0⟩ } : TSt).holds.map eInt⟩), (2, ⟨1, am, ({ s with asked := s.asked.set e.who.toNat (e.n + 1), wait := putJ s.wait ⟨e.who, e.n, rsp0⟩ } : TSt).asked.map eInt⟩), (4, ⟨5, tm, ({ s with asked := s.asked.set e.who.toNat (e.n + 1), wait := putJ s.wait ⟨e.who, e.n, rsp0⟩ } : TSt).told.map eJob⟩)]) _ _ (.inr rfl) rfl (cvR_hp [3, 0, 1, 2] (by omega) (by repeat' (first | (with_reducible first | refine C5 ?_ ?_ | refine C7 ?_ | refine C8 ?_) | ((with_reducible refine C0 ?_); first | exact CB rfl | exact CQ (by omega) rfl rfl (by rfl) rfl) | exact C3 | refine C4 ?_ ?_ | fail)) ⟨⟨by simp, by simp [sgL], _, rfl, cvO_E (immR_map eInt_ok _) rfl rfl⟩, ⟨by simp, by simp [sgL], _, rfl, cvO_E (immR_map eInt_ok _) rfl rfl⟩, ⟨by simp, by simp [sgL], _, rfl, cvO_E (immR_map eInt_ok _) rfl rfl⟩, ⟨by simp, by simp [sgL], _, rfl, cvO_E (immR_map eJob_ok _) rfl rfl⟩, trivial⟩ (by simp [sgL])) ?_)
      exact .inl ⟨hwhy, tc, tm, htc, htm, rfl, rfl, rfl⟩
    · have hnx : stepM c s e = ({ s with words := (doM c.map s.words s.holds e.who (reqAt c e.who e.n)).1.1, holds := (doM c.map s.words s.holds e.who (reqAt c e.who e.n)).1.2, wait := outJ s.wait (idxM (isJob e.who e.n) s.wait).toNat, done := putJ s.done ⟨e.who, e.n, (doM c.map s.words s.holds e.who (reqAt c e.who e.n)).2⟩ } : TSt) := by simp only [stepM]; rw [if_neg (by assumption), if_pos (by assumption)]
      rw [hnx] at hQ
      (refine hQ _ _ _ _ _ 5 (.tup [.agg (oSt 0 1 2 4 wc hc ac tc ({ s with words := (doM c.map s.words s.holds e.who (reqAt c e.who e.n)).1.1, holds := (doM c.map s.words s.holds e.who (reqAt c e.who e.n)).1.2, wait := outJ s.wait (idxM (isJob e.who e.n) s.wait).toNat, done := putJ s.done ⟨e.who, e.n, (doM c.map s.words s.holds e.who (reqAt c e.who e.n)).2⟩ } : TSt)), .c (cB true)]) (hp [(0, ⟨1, wm, ({ s with words := (doM c.map s.words s.holds e.who (reqAt c e.who e.n)).1.1, holds := (doM c.map s.words s.holds e.who (reqAt c e.who e.n)).1.2, wait := outJ s.wait (idxM (isJob e.who e.n) s.wait).toNat, done := putJ s.done ⟨e.who, e.n, (doM c.map s.words s.holds e.who (reqAt c e.who e.n)).2⟩ } : TSt).words.map eInt⟩), (1, ⟨1, hm, ({ s with words := (doM c.map s.words s.holds e.who (reqAt c e.who e.n)).1.1, holds := (doM c.map s.words s.holds e.who (reqAt c e.who e.n)).1.2, wait := outJ s.wait (idxM (isJob e.who e.n) s.wait).toNat, done := putJ s.done ⟨e.who, e.n, (doM c.map s.words s.holds e.who (reqAt c e.who e.n)).2⟩ } : TSt).holds.map eInt⟩), (2, ⟨1, am, ({ s with words := (doM c.map s.words s.holds e.who (reqAt c e.who e.n)).1.1, holds := (doM c.map s.words s.holds e.who (reqAt c e.who e.n)).1.2, wait := outJ s.wait (idxM (isJob e.who e.n) s.wait).toNat, done := putJ s.done ⟨e.who, e.n, (doM c.map s.words s.holds e.who (reqAt c e.who e.n)).2⟩ } : TSt).asked.map eInt⟩), (4, ⟨5, tm, ({ s with words := (doM c.map s.words s.holds e.who (reqAt c e.who e.n)).1.1, holds := (doM c.map s.words s.holds e.who (reqAt c e.who e.n)).1.2, wait := outJ s.wait (idxM (isJob e.who e.n) s.wait).toNat, done := putJ s.done ⟨e.who, e.n, (doM c.map s.words s.holds e.who (reqAt c e.who e.n)).2⟩ } : TSt).told.map eJob⟩)]) _ _ (.inr rfl) rfl (cvR_hp [3, 0, 1, 2] (by omega) (by repeat' (first | (with_reducible first | refine C5 ?_ ?_ | refine C7 ?_ | refine C8 ?_) | ((with_reducible refine C0 ?_); first | exact CB rfl | exact CQ (by omega) rfl rfl (by rfl) rfl) | exact C3 | refine C4 ?_ ?_ | fail)) ⟨⟨by simp, by simp [sgL], _, rfl, cvO_E (immR_map eInt_ok _) rfl rfl⟩, ⟨by simp, by simp [sgL], _, rfl, cvO_E (immR_map eInt_ok _) rfl rfl⟩, ⟨by simp, by simp [sgL], _, rfl, cvO_E (immR_map eInt_ok _) rfl rfl⟩, ⟨by simp, by simp [sgL], _, rfl, cvO_E (immR_map eJob_ok _) rfl rfl⟩, trivial⟩ (by simp [sgL])) ?_)
      exact .inl ⟨hwhy, tc, tm, htc, htm, rfl, rfl, rfl⟩
    · have hnx : stepM c s e = ({ s with told := s.told ++ [s.done.getD (idxM (isJob e.who e.n) s.done).toNat default], done := outJ s.done (idxM (isJob e.who e.n) s.done).toNat } : TSt) := by simp only [stepM]; rw [if_neg (by assumption), if_neg (by assumption)]
      rw [hnx] at hQ
      (refine hQ _ _ _ _ _ 5 (.tup [.agg (oSt 0 1 2 4 wc hc ac cap ({ s with told := s.told ++ [s.done.getD (idxM (isJob e.who e.n) s.done).toNat default], done := outJ s.done (idxM (isJob e.who e.n) s.done).toNat } : TSt)), .c (cB true)]) (hp [(0, ⟨1, wm, ({ s with told := s.told ++ [s.done.getD (idxM (isJob e.who e.n) s.done).toNat default], done := outJ s.done (idxM (isJob e.who e.n) s.done).toNat } : TSt).words.map eInt⟩), (1, ⟨1, hm, ({ s with told := s.told ++ [s.done.getD (idxM (isJob e.who e.n) s.done).toNat default], done := outJ s.done (idxM (isJob e.who e.n) s.done).toNat } : TSt).holds.map eInt⟩), (2, ⟨1, am, ({ s with told := s.told ++ [s.done.getD (idxM (isJob e.who e.n) s.done).toNat default], done := outJ s.done (idxM (isJob e.who e.n) s.done).toNat } : TSt).asked.map eInt⟩), (4, ⟨5, cap, ({ s with told := s.told ++ [s.done.getD (idxM (isJob e.who e.n) s.done).toNat default], done := outJ s.done (idxM (isJob e.who e.n) s.done).toNat } : TSt).told.map eJob⟩)]) _ _ (.inr rfl) rfl (cvR_hp [75, 0, 1, 2] (by omega) (by repeat' (first | (with_reducible first | refine C5 ?_ ?_ | refine C7 ?_ | refine C8 ?_) | ((with_reducible refine C0 ?_); first | exact CB rfl | (exact CQ (by omega) rfl rfl (by first | rfl | (simp; done)) rfl)) | exact C3 | refine C4 ?_ ?_ | fail)) ⟨⟨by simp, by simp [sgL], _, rfl, cvO_E (immR_map eInt_ok _) rfl rfl⟩, ⟨by simp, by simp [sgL], _, rfl, cvO_E (immR_map eInt_ok _) rfl rfl⟩, ⟨by simp, by simp [sgL], _, rfl, cvO_E (immR_map eInt_ok _) rfl rfl⟩, ⟨by simp, by simp [sgL], _, rfl, cvO_E (immR_map eJob_ok _) rfl rfl⟩, trivial⟩ (by simp [sgL])) ?_)
      exact .inl ⟨hwhy, cap, cap, by simpa using hcap, Nat.le_refl _, rfl, rfl, rfl⟩
  · have hwhy : ¬ whyM c s e = 0 := fun h => hok (whyM_zero h).1
    by_cases hw1 : 0 ≤ e.who ∧ e.who ≤ 2
    · have hn1 : ¬ (0 ≤ e.n ∧ e.n ≤ (c.progs.getD e.who.toNat default).length - 1) := fun h => hok ⟨hw1, h⟩
      repeat' (first | (with_reducible first | (refine hK _ _ _ ?_; clear hK K) | (refine hA ?_; clear hA hB A B) | refine Z1 ?_ | refine Z4 (by omega) ?_) | (first | (with_reducible first | refine Y2 fun K hK => ?_ | refine Y3 fun A B hA hB => ?_ | refine Y5 (by omega) ?_) | (with_reducible refine a_spec_l1In ?_)) <;> (simp only [go_sem]; try simp (disch := omega) only [Iw]) | ((with_reducible refine Y8 ?_); try simp only [AQ.then, AQ.blk, reduceIte, Nat.reduceEqDiff]) | refine ⟨by omega, ?_⟩ | fail)
      all_goals (refine hQ _ _ _ _ _ 4 (.tup [.agg (oSt 0 1 2 3 wc hc ac tc s), .c (cB false)]) (hp [(0, ⟨1, wm, s.words.map eInt⟩), (1, ⟨1, hm, s.holds.map eInt⟩), (2, ⟨1, am, s.asked.map eInt⟩), (3, ⟨5, tm, s.told.map eJob⟩)]) _ _ (.inr rfl) rfl (cvR_hp [0, 1, 2, 3] (by omega) (by repeat' (first | (with_reducible first | refine C5 ?_ ?_ | refine C7 ?_ | refine C8 ?_) | ((with_reducible refine C0 ?_); first | exact CB rfl | exact CQ (by omega) rfl rfl (by rfl) rfl) | exact C3 | refine C4 ?_ ?_ | fail)) ⟨⟨by simp, by simp [sgL], _, rfl, cvO_E (immR_map eInt_ok _) rfl rfl⟩, ⟨by simp, by simp [sgL], _, rfl, cvO_E (immR_map eInt_ok _) rfl rfl⟩, ⟨by simp, by simp [sgL], _, rfl, cvO_E (immR_map eInt_ok _) rfl rfl⟩, ⟨by simp, by simp [sgL], _, rfl, cvO_E (immR_map eJob_ok _) rfl rfl⟩, trivial⟩ (by simp [sgL])) ?_)
      all_goals exact .inr ⟨hwhy, rfl, rfl, rfl⟩
    · repeat' (first | (with_reducible first | (refine hK _ _ _ ?_; clear hK K) | (refine hA ?_; clear hA hB A B) | refine Z1 ?_) | (first | (with_reducible first | refine Y2 fun K hK => ?_ | refine Y3 fun A B hA hB => ?_ | refine Y4 (by omega) ?_) | (with_reducible refine a_spec_l1In ?_)) <;> (simp only [go_sem]) | ((with_reducible refine Y8 ?_); try simp only [AQ.then, AQ.blk, reduceIte, Nat.reduceEqDiff]) | fail)
      all_goals (refine hQ _ _ _ _ _ 4 (.tup [.agg (oSt 0 1 2 3 wc hc ac tc s), .c (cB false)]) (hp [(0, ⟨1, wm, s.words.map eInt⟩), (1, ⟨1, hm, s.holds.map eInt⟩), (2, ⟨1, am, s.asked.map eInt⟩), (3, ⟨5, tm, s.told.map eJob⟩)]) _ _ (.inr rfl) rfl (cvR_hp [0, 1, 2, 3] (by omega) (by repeat' (first | (with_reducible first | refine C5 ?_ ?_ | refine C7 ?_ | refine C8 ?_) | ((with_reducible refine C0 ?_); first | exact CB rfl | exact CQ (by omega) rfl rfl (by rfl) rfl) | exact C3 | refine C4 ?_ ?_ | fail)) ⟨⟨by simp, by simp [sgL], _, rfl, cvO_E (immR_map eInt_ok _) rfl rfl⟩, ⟨by simp, by simp [sgL], _, rfl, cvO_E (immR_map eInt_ok _) rfl rfl⟩, ⟨by simp, by simp [sgL], _, rfl, cvO_E (immR_map eInt_ok _) rfl rfl⟩, ⟨by simp, by simp [sgL], _, rfl, cvO_E (immR_map eJob_ok _) rfl rfl⟩, trivial⟩ (by simp [sgL])) ?_)
      all_goals exact .inr ⟨hwhy, rfl, rfl, rfl⟩
theorem rnO_eJob {τ : Nat → Nat} {n m : Nat} {l : List Job} : AObj.rn τ ⟨n, m, l.map eJob⟩ = ⟨n, m, l.map eJob⟩ := by
  refine rnO_imm fun r hr x hx => ?_
  obtain ⟨y, _, rfl⟩ := List.mem_map.1 hr
  exact List.all_eq_true.1 (eJob_ok y).2 x hx
theorem a_spec_l5Step {c : Cfg} {s : TSt} {e : Ev} {wc wm hc hm ac am tc tm i0 i1 i2 i3 : Nat} (hb : BusOkP c) (hs : StOk c s) (hwc : 64 ≤ wc) (hhc : 6 ≤ hc) (hac : 3 ≤ ac) (htc : s.told.length ≤ tc) (htm : tc ≤ tm)
    (hi0 : i0 < nx) (hi1 : i1 < nx) (hi2 : i2 < nx) (hi3 : i3 < nx) (hd : [i0, i1, i2, i3].Nodup) (h0 : H i0 = some ⟨1, wm, s.words.map eInt⟩) (h1 : H i1 = some ⟨1, hm, s.holds.map eInt⟩) (h2 : H i2 = some ⟨1, am, s.asked.map eInt⟩) (h3 : H i3 = some ⟨5, tm, s.told.map eJob⟩)
    (h : whyM c s e = 0 → ∀ tc' tm', (stepM c s e).told.length ≤ tc' → tc' ≤ tm' → K (.tup [.agg (oSt i0 i1 i2 nx wc hc ac tc' (stepM c s e)), .c (cB true)]) (((((H.set i0 ⟨1, wm, (stepM c s e).words.map eInt⟩).set i1 ⟨1, hm, (stepM c s e).holds.map eInt⟩).set i2 ⟨1, am, (stepM c s e).asked.map eInt⟩).del i3).set nx ⟨5, tm', (stepM c s e).told.map eJob⟩) (nx + 1))
    (h' : ¬ whyM c s e = 0 → K (.tup [.agg (oSt i0 i1 i2 i3 wc hc ac tc s), .c (cB false)]) ((((H.set i0 ⟨1, wm, s.words.map eInt⟩).set i1 ⟨1, hm, s.holds.map eInt⟩).set i2 ⟨1, am, s.asked.map eInt⟩).set i3 ⟨5, tm, s.told.map eJob⟩) nx) :
    ACall Tryz.prog n_spec_l5Step [dA (eCfg c), dA (oSt i0 i1 i2 i3 wc hc ac tc s), dA (eEv e)] H nx K := by
  refine (c_spec_l5Step c s e wc wm hc hm ac am tc tm hb hs hwc hhc hac htc htm).mutL [i0, i1, i2, i3] rfl ⟨cvD_im rfl, ?_, cvD_im rfl, trivial⟩ ?_ ?_ ?_ hd fun r H' n' _ q => ?_
  · unfold oSt; exact cvL_cons (cv1_oslE (by simp) rfl rfl rfl rfl) (cvL_cons (cv1_oslE (by simp) rfl rfl rfl rfl) (cvL_cons (cv1_oslE (by simp) rfl rfl rfl rfl) (cvL_cons (cv1_imm rfl) (cvL_cons (cv1_imm rfl) (cvL_cons (cv1_oslE (by simp) rfl rfl rfl rfl) cvL_nil)))))
  · exact ⟨⟨by simp, id, _, h0, cvO_E (immR_map eInt_ok _) rfl rfl⟩, ⟨by simp, id, _, h1, cvO_E (immR_map eInt_ok _) rfl rfl⟩, ⟨by simp, id, _, h2, cvO_E (immR_map eInt_ok _) rfl rfl⟩, ⟨by simp, id, _, h3, cvO_E (immR_map eJob_ok _) rfl rfl⟩, trivial⟩
  · exact hd
  · intro x hx; simp only [List.mem_cons, List.not_mem_nil, or_false] at hx; omega
  · rcases q with ⟨q0, tc', tm', q1, q2, q3, q4, q5⟩ | ⟨q0, q3, q4, q5⟩
    · subst q3; subst q4; subst q5
      have e2 := h q0 tc' tm' q1 q2
      generalize stepM c s e = s' at *
      have e1 : back (tau 4 nx (nth [i0, i1, i2, i3])) (hp [(0, ⟨1, wm, s'.words.map eInt⟩), (1, ⟨1, hm, s'.holds.map eInt⟩), (2, ⟨1, am, s'.asked.map eInt⟩), (4, ⟨5, tm', s'.told.map eJob⟩)]) 5 H = ((((H.set i0 ⟨1, wm, s'.words.map eInt⟩).set i1 ⟨1, hm, s'.holds.map eInt⟩).set i2 ⟨1, am, s'.asked.map eInt⟩).del i3).set nx ⟨5, tm', s'.told.map eJob⟩ := by
        simp [back, hp, Heap.set, Heap.nil, tau, nth, rnO_eInt, rnO_eJob, Heap.upd_some, Heap.upd_none]
      rw [← e1] at e2
      exact e2
    · subst q3; subst q4; subst q5
      have e2 := h' q0
      have e1 : back (tau 4 nx (nth [i0, i1, i2, i3])) (hp [(0, ⟨1, wm, s.words.map eInt⟩), (1, ⟨1, hm, s.holds.map eInt⟩), (2, ⟨1, am, s.asked.map eInt⟩), (3, ⟨5, tm, s.told.map eJob⟩)]) 4 H = ((((H.set i0 ⟨1, wm, s.words.map eInt⟩).set i1 ⟨1, hm, s.holds.map eInt⟩).set i2 ⟨1, am, s.asked.map eInt⟩).set i3 ⟨5, tm, s.told.map eJob⟩) := by
        simp [back, hp, Heap.set, Heap.nil, tau, nth, rnO_eInt, rnO_eJob, Heap.upd_some, Heap.upd_none]
      rw [← e1] at e2
      exact e2
theorem oSt_len {i0 i1 i2 i3 wc hc ac tc : Nat} {s : TSt} : (oSt i0 i1 i2 i3 wc hc ac tc s).length = 6 := rfl
theorem oSt_take {i0 i1 i2 i3 wc hc ac tc : Nat} {s : TSt} : (oSt i0 i1 i2 i3 wc hc ac tc s).take 6 = oSt i0 i1 i2 i3 wc hc ac tc s := rfl
theorem oSt_over {i0 i1 i2 i3 wc hc ac tc k : Nat} {s : TSt} {cs : List D1} : over cs (k + 1) (oSt i0 i1 i2 i3 wc hc ac tc s) = over cs (k + 1) [.osl 1 i0 0 64 wc, .osl 1 i1 0 6 hc, .osl 1 i2 0 3 ac, .isl (s.wait.map eJob), .isl (s.done.map eJob), .osl 5 i3 0 s.told.length tc] := rfl
attribute [go_sem] oSt_len oSt_take oSt_over
end
end Go.Proofs.YtiimjokpcbapeaaGreat
