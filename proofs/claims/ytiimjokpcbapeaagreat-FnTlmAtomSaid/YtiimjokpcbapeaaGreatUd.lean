/- Contract: one thing at once, in the order in which it was done, of the program. -/
import Derived.Test.YtiimjokpcbapeaaGreatAcLAtmOrder
import Derived.Test.YtiimjokpcbapeaaGreatUa
import Derived.Test.YtiimjokpcbapeaaGreatUc
import Derived.Test.YtiimjokpcbapeaaGreatMz
set_option linter.unusedVariables false
set_option linter.unusedSimpArgs false
set_option linter.unusedSectionVars false
namespace Go.Proofs.YtiimjokpcbapeaaGreat
open Go Go.AM
set_option maxRecDepth 100000
set_option maxHeartbeats 8000000
section
variable {H : Heap} {nx : Nat} {K : D → Heap → Nat → Prop}
theorem c_slices_Clip_ZTlmJob0 : ACall Tryz.prog n_slices_Clip_ZTlmJob_TlmJob [.one (.c (.osl 0 0 0 0 0))] .nil 0 fun r _ n => n = 0 ∧ r.imm = true ∧ r = dS [] := by
  refine en_slices_Clip_ZTlmJob_TlmJob rfl fun Q hQ => ?_
  unfold ac_slices_Clip_ZTlmJob_TlmJob
  repeat' (first | (with_reducible first | (refine hK _ _ _ ?_; clear hK K) | refine Z1 ?_) | (with_reducible refine Y2 fun K hK => ?_) <;> (simp only [go_sem]) | ((with_reducible refine Y8 ?_); try simp only [AQ.then, AQ.blk, reduceIte, Nat.reduceEqDiff]) | refine ⟨by omega, ?_⟩ | fail)
  exact exitF hQ (dS []) _ rfl cv1_frz0 rfl rfl
theorem a_slices_Clip_ZTlmJob0 (h : K (dS []) H nx) : ACall Tryz.prog n_slices_Clip_ZTlmJob_TlmJob [.one (.c (.osl 0 0 0 0 0))] H nx K :=
  c_slices_Clip_ZTlmJob0.freshA rfl ⟨cv1_nil, trivial⟩ fun r hr => hr ▸ h
theorem a_impl_AtmState_do3 {m : List Rng} {s : TSt} {who : Int} {q : Req} {m0 m1 i0 i1 i2 : Nat} (hm4 : m.length < 2 ^ 20) (hf : AtFit s.words s.holds) (hw : 0 ≤ who ∧ who ≤ 2) (hq : ReqOkP q)
    (hlt : i0 < nx ∧ i1 < nx ∧ i2 < nx) (hd : [i0, i1, i2].Nodup) (h0 : H i0 = some ⟨2, 1, [[.osl 1 i1 0 64 64, .osl 1 i2 0 6 6]]⟩) (h1 : H i1 = some ⟨1, m0, s.words.map eInt⟩) (h2 : H i2 = some ⟨1, m1, s.holds.map eInt⟩)
    (h : K (dA (eRsp (doM m s.words s.holds who q).2)) (((H.set i0 ⟨2, 1, [[.osl 1 i1 0 64 64, .osl 1 i2 0 6 6]]⟩).set i1 ⟨1, m0, (doM m s.words s.holds who q).1.1.map eInt⟩).set i2 ⟨1, m1, (doM m s.words s.holds who q).1.2.map eInt⟩) nx) : ACall Tryz.prog n_impl_AtmState_do [dP 2 i0, dS (m.map eRng), dI who, dA (eReq q)] H nx K := by
  have e1 := hf.wl
  have e2 := hf.hl
  exact a_impl_AtmState_do2 (c0 := 64) (c1 := 6) hm4 hf (by omega) (by omega) hw hq hlt hd (by rw [e1, e2]; exact h0) h1 h2 (by rw [e1, e2]; exact h)
def ordG (b len cap : Nat) (w h : List Int) (l : List Job) : Heap := if len = 0 then hp [(b, ⟨2, 1, [[.osl 0 0 0 0 0, .osl 0 0 0 0 0]]⟩), (b + 1, ⟨2, 1, [[.osl 1 (b + 2) 0 64 64, .osl 1 (b + 3) 0 6 6]]⟩), (b + 2, ⟨1, 64, w.map eInt⟩), (b + 3, ⟨1, 6, h.map eInt⟩)] else hp [(b, ⟨2, 1, [[.osl 0 0 0 0 0, .osl 0 0 0 0 0]]⟩), (b + 1, ⟨2, 1, [[.osl 1 (b + 2) 0 64 64, .osl 1 (b + 3) 0 6 6]]⟩), (b + 2, ⟨1, 64, w.map eInt⟩), (b + 3, ⟨1, 6, h.map eInt⟩), (b + 4, ⟨5, cap, l.map eJob⟩)]
theorem ordG0 {b len cap : Nat} {w h : List Int} {l : List Job} (h0 : len = 0) : ordG b len cap w h l = hp [(b, ⟨2, 1, [[.osl 0 0 0 0 0, .osl 0 0 0 0 0]]⟩), (b + 1, ⟨2, 1, [[.osl 1 (b + 2) 0 64 64, .osl 1 (b + 3) 0 6 6]]⟩), (b + 2, ⟨1, 64, w.map eInt⟩), (b + 3, ⟨1, 6, h.map eInt⟩)] := if_pos h0
theorem ordG1 {b len cap : Nat} {w h : List Int} {l : List Job} (h0 : ¬ len = 0) : ordG b len cap w h l = hp [(b, ⟨2, 1, [[.osl 0 0 0 0 0, .osl 0 0 0 0 0]]⟩), (b + 1, ⟨2, 1, [[.osl 1 (b + 2) 0 64 64, .osl 1 (b + 3) 0 6 6]]⟩), (b + 2, ⟨1, 64, w.map eInt⟩), (b + 3, ⟨1, 6, h.map eInt⟩), (b + 4, ⟨5, cap, l.map eJob⟩)] := if_neg h0
theorem c_impl_AtmOrder (c : Cfg) (es : List Ev) (hb : BusOkP c) (hcf : CfgFit c) (hp : Plays c st0 es) (hlen : es.length ≤ 108) : ACall Tryz.prog n_impl_AtmOrder [dA (eCfg c), dS (es.map eEv)] .nil 0
    fun r _ n => n = 0 ∧ r.imm = true ∧ r = .tup [.agg [.isl ((runM c st0 es).words.map eInt), .isl ((runM c st0 es).holds.map eInt)], .c (.isl ((outM c es es.length).map eJob))] := by
  have hend : runM c st0 es = runM c st0 (es.take es.length) := by rw [List.take_length]
  rw [hend]
  have hS0 : ∀ {H : Heap} {nx : Nat} {K : D → Heap → Nat → Prop}, K (dA [.osl 1 nx 0 64 64, .osl 1 (nx + 1) 0 6 6]) ((H.set nx ⟨1, 64, (runM c st0 (es.take 0)).words.map eInt⟩).set (nx + 1) ⟨1, 6, (runM c st0 (es.take 0)).holds.map eInt⟩) (nx + 2) → ACall Tryz.prog n_impl_AtmNew [] H nx K := fun h => a_impl_AtmNewB h
  have hSok := plays_ok hb (st0_ok c) hp
  have hSw := fun k (hk : k < es.length) => hp k hk
  have hSs := fun k (hk : k < es.length) => at_step (hp k hk)
  have hSt := fun k (hk : k < es.length) => runM_take (c := c) (s := st0) hk
  have hO0 : outM c es 0 = [] := rfl
  have hOl := outM_le (c := c) (es := es)
  have hOy := fun k => outM_yes (c := c) (es := es) (k := k)
  have hOn := fun k => outM_no (c := c) (es := es) (k := k)
  obtain ⟨S, hS⟩ : ∃ S : Nat → TSt, S = fun k => runM c st0 (es.take k) := ⟨_, rfl⟩
  have hSe : ∀ k, runM c st0 (es.take k) = S k := fun k => by rw [hS]
  simp only [hSe] at *
  clear hS hSe hend
  generalize outM c es = O at *
  obtain ⟨hp3, hp12⟩ := busOk_prog hb
  have hmap := hb.1.1
  refine en_impl_AtmOrder rfl fun Q hQ => ?_
  unfold ac_impl_AtmOrder
  repeat' (first | (with_reducible first | (refine hK _ _ _ ?_; clear hK K) | (refine hB ?_; clear hA hB A B) | refine Z1 ?_ | refine Z2 ?_ | refine Z3 fun KB hKB => ?_ | refine Z5 (by omega) ?_) | (first | (with_reducible first | refine Y2 fun K hK => ?_ | refine Y3 fun A B hA hB => ?_) | (refine a_impl_BusOk hcf ?_) | (refine hS0 ?_)) <;> (simp only [go_sem, eq_true hb]) | fail)
  (have hKX := hKB; clear hKB)
  refine AWPL.loopP 5 (β := Nat × Nat) (fun b u => en [(22, dI u.1), (21, dI es.length), (20, dS (es.map eEv)), (7, oslN 5 (b + 4) (O u.1).length u.2), (6, dP 2 (b + 1)), (4, dP 2 b), (2, .one (.c (.iptr (eCfg c))))])
    (fun b u => ordG b (O u.1).length u.2 (S u.1).words (S u.1).holds (O u.1)) (fun u => u.1 ≤ es.length ∧ (O u.1).length ≤ u.2) (fun u => es.length - u.1) (0, 0) (by
      rw [ordG0 (by rw [hO0]; rfl)]
      simp only [oslN, hO0, List.length_nil, if_true]
      unfold D1.nil
      (refine cv_hp [1, 12, 14, 15] (by omega) (by repeat' (first | (with_reducible first | exact C1 | refine C2 ?_ ?_) | ((with_reducible refine C0 ?_); first | exact CC | exact CE (by omega) rfl) | ((with_reducible refine D0 ?_); first | exact CA rfl | exact CI rfl (by simp) rfl rfl rfl | refine CJ ?_) | fail)) ⟨⟨by simp, by simp [sgL], _, rfl, cvO_one (by repeat' (first | (with_reducible first | exact C3 | refine C4 ?_ ?_) | ((with_reducible refine C0 ?_); exact CC) | fail))⟩, ⟨by simp, by simp [sgL], _, rfl, cvO_one (by repeat' (first | (with_reducible first | exact C3 | refine C4 ?_ ?_) | ((with_reducible refine C0 ?_); exact CQ (by omega) rfl rfl (by rfl) rfl) | fail))⟩, ⟨by simp, by simp [sgL], _, rfl, cvO_E (immR_map eInt_ok _) rfl rfl⟩, ⟨by simp, by simp [sgL], _, rfl, cvO_E (immR_map eInt_ok _) rfl rfl⟩, trivial⟩ (by simp [sgL]))) ⟨by omega, by rw [hO0]; simp⟩ ?_
  rintro ⟨k, cap⟩ ⟨hk, hc⟩ KL hKL
  dsimp only at hk hc
  have hol := hOl k
  have hs := hSok k hk
  have hat := hs.atm
  have hwl := hat.wl
  have hhl := hat.hl
  have hdo := fun {H : Heap} {nx : Nat} {K : D → Heap → Nat → Prop} {m : List Rng} {who : Int} {q : Req} {m0 m1 i0 i1 i2 : Nat} => a_impl_AtmState_do3 (H := H) (nx := nx) (K := K) (m := m) (s := S k) (who := who) (q := q) (m0 := m0) (m1 := m1) (i0 := i0) (i1 := i1) (i2 := i2)
  rcases Nat.eq_zero_or_pos (O k).length with h0 | h0
  · have hz := List.length_eq_zero_iff.1 h0
    rw [ordG0 h0]
    simp only [oslN, h0, if_true]
    unfold D1.nil
    by_cases hlt : k < es.length
    · obtain ⟨ho, -⟩ := whyM_zero (hSw k hlt)
      have hrq := reqAt_ok hb ho
      have hs3 := hSt k hlt
      obtain ⟨hs1, hs2⟩ := hSs k hlt
      have hyk := hOy k
      have hnk := hOn k
      have hb12 := hp12 (es.getD k default).who.toNat
      have hask := eq_true ho
      obtain ⟨ho1, ho2⟩ := ho
      by_cases hw : (es.getD k default).kind = 2
      · have hy := hyk hw
        have hyl := congrArg List.length hy
        rw [List.length_append, List.length_singleton] at hyl
        have hye := congrArg (List.map eJob) hy
        rw [List.map_append] at hye
        rw [if_pos hw] at hs1 hs2
        have hw1 : (S (k + 1)).words.map eInt = _ := congrArg (fun s : TSt => s.words.map eInt) hs3
        have hw2 : (S (k + 1)).holds.map eInt = _ := congrArg (fun s : TSt => s.holds.map eInt) hs3
        rw [hs1] at hw1
        rw [hs2] at hw2
        rw [hz, List.map_nil, List.nil_append] at hye
        repeat' (first | (with_reducible first | (refine hK _ _ _ ?_; clear hK K) | (refine hA ?_; clear hA hB A B) | refine Z1 ?_ | refine Z2 ?_ | refine Z3 fun KB hKB => ?_ | refine Z4 (by omega) ?_ | refine fun (cap : Nat) (hcap : _ ≤ cap) => ?_ | refine fun (hcp : _ ≤ cap) => ?_) | (first | (with_reducible first | refine Y2 fun K hK => ?_ | refine Y3 fun A B hA hB => ?_) | (refine a_impl_BusCfg_asks hcf hp3 ?_) | (refine hdo (by omega) hat ho1 hrq (by omega) (by simp) rfl rfl rfl ?_)) <;> (simp only [go_sem, hask, hw]; try simp (disch := omega) only [Iw]) | ((with_reducible refine Y0 ?_); simp only [AQ.then, AQ.blk]) | refine ⟨by omega, ?_⟩ | (with_reducible refine hKB _ _ _ ?_) | fail)
        exact hKL _ _ _ (k + 1, cap) (by omega) (by dsimp only; rw [ordG1 (show ¬ (O (k + 1)).length = 0 by omega)]; simp only [oslN, show ¬ (O (k + 1)).length = 0 by omega, if_false]; (refine cv_hp [20, 21, 22, 23, 63] (by omega) (by repeat' (first | (with_reducible first | exact C1 | refine C2 ?_ ?_) | ((with_reducible refine C0 ?_); first | exact CQ (by omega) rfl rfl (by first | rfl | omega) rfl | exact CE (by omega) rfl) | ((with_reducible refine D0 ?_); first | exact CA rfl | refine CJ ?_) | fail)) ⟨⟨by simp, by simp [sgL], _, rfl, cvO_one (by repeat' (first | (with_reducible first | exact C3 | refine C4 ?_ ?_) | ((with_reducible refine C0 ?_); exact CC) | fail))⟩, ⟨by simp, by simp [sgL], _, rfl, cvO_one (by repeat' (first | (with_reducible first | exact C3 | refine C4 ?_ ?_) | ((with_reducible refine C0 ?_); exact CQ (by omega) rfl rfl (by rfl) rfl) | fail))⟩, ⟨by simp, by simp [sgL], _, rfl, cvO_E (immR_map eInt_ok _) hw1 rfl⟩, ⟨by simp, by simp [sgL], _, rfl, cvO_E (immR_map eInt_ok _) hw2 rfl⟩, ⟨by simp, by simp [sgL], _, rfl, cvO_E (immR_map eJob_ok _) hye rfl⟩, trivial⟩ (by simp [sgL]))) ⟨by dsimp only; omega, by dsimp only; omega⟩ (by dsimp only; omega)
      · have hn := hnk hw
        rw [if_neg hw] at hs1 hs2
        have hw1 : (S (k + 1)).words.map eInt = _ := congrArg (fun s : TSt => s.words.map eInt) hs3
        have hw2 : (S (k + 1)).holds.map eInt = _ := congrArg (fun s : TSt => s.holds.map eInt) hs3
        rw [hs1] at hw1
        rw [hs2] at hw2
        repeat' (first | (with_reducible first | (refine hK _ _ _ ?_; clear hK K) | (refine hA ?_; clear hA hB A B) | (refine hB ?_; clear hA hB A B) | refine Z1 ?_ | refine Z2 ?_ | refine Z3 fun KB hKB => ?_ | refine Z4 (by omega) ?_) | (with_reducible first | refine Y2 fun K hK => ?_ | refine Y3 fun A B hA hB => ?_ | refine Y5 (by omega) ?_) <;> (simp only [go_sem]; try simp (disch := omega) only [Iw]) | ((with_reducible refine Y0 ?_); simp only [AQ.then, AQ.blk]) | refine ⟨by omega, ?_⟩ | (with_reducible refine hKB _ _ _ ?_) | fail)
        exact hKL _ _ _ (k + 1, cap) (by omega) (by dsimp only; rw [ordG0 (by rw [hn]; exact h0)]; simp only [oslN, hn, h0, if_true]; unfold D1.nil; (refine cv_hp [20, 21, 22, 23] (by omega) (by repeat' (first | (with_reducible first | exact C1 | refine C2 ?_ ?_) | ((with_reducible refine C0 ?_); first | exact CC | exact CE (by omega) rfl) | ((with_reducible refine D0 ?_); first | exact CA rfl | refine CJ ?_) | fail)) ⟨⟨by simp, by simp [sgL], _, rfl, cvO_one (by repeat' (first | (with_reducible first | exact C3 | refine C4 ?_ ?_) | ((with_reducible refine C0 ?_); exact CC) | fail))⟩, ⟨by simp, by simp [sgL], _, rfl, cvO_one (by repeat' (first | (with_reducible first | exact C3 | refine C4 ?_ ?_) | ((with_reducible refine C0 ?_); exact CQ (by omega) rfl rfl (by rfl) rfl) | fail))⟩, ⟨by simp, by simp [sgL], _, rfl, cvO_E (immR_map eInt_ok _) hw1 rfl⟩, ⟨by simp, by simp [sgL], _, rfl, cvO_E (immR_map eInt_ok _) hw2 rfl⟩, trivial⟩ (by simp [sgL]))) ⟨by dsimp only; omega, by dsimp only; rw [hn]; omega⟩ (by dsimp only; omega)
    · have hk2 : k = es.length := by omega
      subst hk2
      repeat' (first | (with_reducible first | (refine hK _ _ _ ?_; clear hK K) | (refine hB ?_; clear hA hB A B) | refine Z1 ?_ | refine Z5 (by omega) ?_ | refine hKX _ _ _ ?_) | (first | (with_reducible first | refine Y2 fun K hK => ?_ | refine Y3 fun A B hA hB => ?_) | (with_reducible refine a_slices_Clip_ZTlmJob0 ?_)) <;> (simp only [go_sem]) | ((with_reducible first | refine Y8 ?_ | refine Y9 ?_); try simp only [AQ.then, AQ.blk, reduceIte, Nat.reduceEqDiff]) | fail)
      rw [hz] at hQ
      exact exitF hQ (.tup [.agg [.isl ((S es.length).words.map eInt), .isl ((S es.length).holds.map eInt)], .c (.isl (([] : List Job).map eJob))]) _ rfl (cvD_t2 (cvV_agg (cvL_cons (cv1_frzM eInt_ok rfl hwl.symm (by omega) trivial) (cvL_cons (cv1_frzM eInt_ok rfl hhl.symm (by omega) trivial) cvL_nil))) (cvV_c (cv1_imm rfl))) rfl rfl
  · rw [ordG1 (show ¬ (O k).length = 0 by omega)]
    simp only [oslN, show ¬ (O k).length = 0 by omega, if_false]
    by_cases hlt : k < es.length
    · obtain ⟨ho, -⟩ := whyM_zero (hSw k hlt)
      have hrq := reqAt_ok hb ho
      have hs3 := hSt k hlt
      obtain ⟨hs1, hs2⟩ := hSs k hlt
      have hyk := hOy k
      have hnk := hOn k
      have hb12 := hp12 (es.getD k default).who.toNat
      have hask := eq_true ho
      obtain ⟨ho1, ho2⟩ := ho
      by_cases hw : (es.getD k default).kind = 2
      · have hy := hyk hw
        have hyl := congrArg List.length hy
        rw [List.length_append, List.length_singleton] at hyl
        have hye := congrArg (List.map eJob) hy
        rw [List.map_append] at hye
        rw [if_pos hw] at hs1 hs2
        have hw1 : (S (k + 1)).words.map eInt = _ := congrArg (fun s : TSt => s.words.map eInt) hs3
        have hw2 : (S (k + 1)).holds.map eInt = _ := congrArg (fun s : TSt => s.holds.map eInt) hs3
        rw [hs1] at hw1
        rw [hs2] at hw2
        repeat' (first | (with_reducible first | (refine hK _ _ _ ?_; clear hK K) | (refine hA ?_; clear hA hB A B) | refine Z1 ?_ | refine Z2 ?_ | refine Z3 fun KB hKB => ?_ | refine Z4 (by omega) ?_ | refine fun (cap : Nat) (hcap : _ ≤ cap) => ?_ | refine fun (hcp : _ ≤ cap) => ?_) | (first | (with_reducible first | refine Y2 fun K hK => ?_ | refine Y3 fun A B hA hB => ?_) | (refine a_impl_BusCfg_asks hcf hp3 ?_) | (refine hdo (by omega) hat ho1 hrq (by omega) (by simp) rfl rfl rfl ?_)) <;> (simp only [go_sem, hask, hw]; try simp (disch := omega) only [Iw]) | ((with_reducible refine Y0 ?_); simp only [AQ.then, AQ.blk]) | refine ⟨by omega, ?_⟩ | (with_reducible refine hKB _ _ _ ?_) | fail)
        exact hKL _ _ _ (k + 1, cap) (by omega) (by dsimp only; rw [ordG1 (show ¬ (O (k + 1)).length = 0 by omega)]; simp only [oslN, show ¬ (O (k + 1)).length = 0 by omega, if_false]; (refine cv_hp [20, 21, 22, 23, 63] (by omega) (by repeat' (first | (with_reducible first | exact C1 | refine C2 ?_ ?_) | ((with_reducible refine C0 ?_); first | exact CQ (by omega) rfl rfl (by first | rfl | omega) rfl | exact CE (by omega) rfl) | ((with_reducible refine D0 ?_); first | exact CA rfl | refine CJ ?_) | fail)) ⟨⟨by simp, by simp [sgL], _, rfl, cvO_one (by repeat' (first | (with_reducible first | exact C3 | refine C4 ?_ ?_) | ((with_reducible refine C0 ?_); exact CC) | fail))⟩, ⟨by simp, by simp [sgL], _, rfl, cvO_one (by repeat' (first | (with_reducible first | exact C3 | refine C4 ?_ ?_) | ((with_reducible refine C0 ?_); exact CQ (by omega) rfl rfl (by rfl) rfl) | fail))⟩, ⟨by simp, by simp [sgL], _, rfl, cvO_E (immR_map eInt_ok _) hw1 rfl⟩, ⟨by simp, by simp [sgL], _, rfl, cvO_E (immR_map eInt_ok _) hw2 rfl⟩, ⟨by simp, by simp [sgL], _, rfl, cvO_E (immR_map eJob_ok _) hye rfl⟩, trivial⟩ (by simp [sgL]))) ⟨by dsimp only; omega, by dsimp only; omega⟩ (by dsimp only; omega)
      · have hn := hnk hw
        rw [if_neg hw] at hs1 hs2
        have hw1 : (S (k + 1)).words.map eInt = _ := congrArg (fun s : TSt => s.words.map eInt) hs3
        have hw2 : (S (k + 1)).holds.map eInt = _ := congrArg (fun s : TSt => s.holds.map eInt) hs3
        rw [hs1] at hw1
        rw [hs2] at hw2
        repeat' (first | (with_reducible first | (refine hK _ _ _ ?_; clear hK K) | (refine hA ?_; clear hA hB A B) | (refine hB ?_; clear hA hB A B) | refine Z1 ?_ | refine Z2 ?_ | refine Z3 fun KB hKB => ?_ | refine Z4 (by omega) ?_) | (with_reducible first | refine Y2 fun K hK => ?_ | refine Y3 fun A B hA hB => ?_ | refine Y5 (by omega) ?_) <;> (simp only [go_sem]; try simp (disch := omega) only [Iw]) | ((with_reducible refine Y0 ?_); simp only [AQ.then, AQ.blk]) | refine ⟨by omega, ?_⟩ | (with_reducible refine hKB _ _ _ ?_) | fail)
        exact hKL _ _ _ (k + 1, cap) (by omega) (by dsimp only; rw [ordG1 (by rw [hn]; omega)]; simp only [oslN, hn, show ¬ (O k).length = 0 by omega, if_false]; (refine cv_hp [20, 21, 22, 23, 24] (by omega) (by repeat' (first | (with_reducible first | exact C1 | refine C2 ?_ ?_) | ((with_reducible refine C0 ?_); first | exact CQ (by omega) rfl rfl (by rfl) rfl | exact CE (by omega) rfl) | ((with_reducible refine D0 ?_); first | exact CA rfl | refine CJ ?_) | fail)) ⟨⟨by simp, by simp [sgL], _, rfl, cvO_one (by repeat' (first | (with_reducible first | exact C3 | refine C4 ?_ ?_) | ((with_reducible refine C0 ?_); exact CC) | fail))⟩, ⟨by simp, by simp [sgL], _, rfl, cvO_one (by repeat' (first | (with_reducible first | exact C3 | refine C4 ?_ ?_) | ((with_reducible refine C0 ?_); exact CQ (by omega) rfl rfl (by rfl) rfl) | fail))⟩, ⟨by simp, by simp [sgL], _, rfl, cvO_E (immR_map eInt_ok _) hw1 rfl⟩, ⟨by simp, by simp [sgL], _, rfl, cvO_E (immR_map eInt_ok _) hw2 rfl⟩, ⟨by simp, by simp [sgL], _, rfl, cvO_E (immR_map eJob_ok _) rfl rfl⟩, trivial⟩ (by simp [sgL]))) ⟨by dsimp only; omega, by dsimp only; rw [hn]; omega⟩ (by dsimp only; omega)
    · have hk2 : k = es.length := by omega
      subst hk2
      repeat' (first | (with_reducible first | (refine hK _ _ _ ?_; clear hK K) | (refine hB ?_; clear hA hB A B) | refine Z1 ?_ | refine Z5 (by omega) ?_ | refine hKX _ _ _ ?_) | (first | (with_reducible first | refine Y2 fun K hK => ?_ | refine Y3 fun A B hA hB => ?_) | (refine a_slices_Clip_ZTlmJob_TlmJob (by omega) hc (by omega) rfl ?_)) <;> (simp only [go_sem]) | ((with_reducible first | refine Y8 ?_ | refine Y9 ?_); try simp only [AQ.then, AQ.blk, reduceIte, Nat.reduceEqDiff]) | fail)
      exact exitF hQ (.tup [.agg [.isl ((S es.length).words.map eInt), .isl ((S es.length).holds.map eInt)], .c (.isl ((O es.length).map eJob))]) _ rfl (cvD_t2 (cvV_agg (cvL_cons (cv1_frzM eInt_ok rfl hwl.symm (by omega) trivial) (cvL_cons (cv1_frzM eInt_ok rfl hhl.symm (by omega) trivial) cvL_nil))) (cvV_c (cv1_frzM eJob_ok rfl rfl (by omega) trivial))) rfl rfl
theorem a_impl_AtmOrder {c : Cfg} {es : List Ev} (hb : BusOkP c) (hcf : CfgFit c) (hp : Plays c st0 es) (hlen : es.length ≤ 108) (h : K (.tup [.agg [.isl ((runM c st0 es).words.map eInt), .isl ((runM c st0 es).holds.map eInt)], .c (.isl ((outM c es es.length).map eJob))]) H nx) : ACall Tryz.prog n_impl_AtmOrder [dA (eCfg c), dS (es.map eEv)] H nx K :=
  (c_impl_AtmOrder c es hb hcf hp hlen).fresh rfl fun r hr => hr ▸ h
end
end Go.Proofs.YtiimjokpcbapeaaGreat
