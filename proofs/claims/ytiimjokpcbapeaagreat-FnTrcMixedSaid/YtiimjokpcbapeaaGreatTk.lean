/- Contracts: words, and what is held, of the reference. -/
import Derived.Test.YtiimjokpcbapeaaGreatTa
import Derived.Test.YtiimjokpcbapeaaGreatMA
import Derived.Test.YtiimjokpcbapeaaGreatED
set_option linter.unusedVariables false
set_option linter.unusedSimpArgs false
set_option linter.unusedSectionVars false
namespace Go.Proofs.YtiimjokpcbapeaaGreat
open Go Go.AM
set_option maxRecDepth 100000
set_option maxHeartbeats 1000000
attribute [go_sem] List.length_set
section
variable {H : Heap} {nx : Nat} {K : D → Heap → Nat → Prop}

theorem c_spec_WrdPut (old new lanes : Int) (h1 : 0 ≤ old ∧ old ≤ 65535) (h2 : 0 ≤ new ∧ new ≤ 65535) (h3 : 0 ≤ lanes ∧ lanes ≤ 3) : ACall Tryz.prog n_spec_WrdPut [dI old, dI new, dI lanes] .nil 0 fun rr _ _ => rr.plain = true ∧ rr = dI (wrdPut old new lanes) := by
  refine en_spec_WrdPut rfl fun Q hQ => ?_
  unfold ac_spec_WrdPut
  repeat' (first | (with_reducible first | (refine hK _ _ _ ?_; clear hK K) | (refine hA ?_; clear hA hB A B) | (refine hB ?_; clear hA hB A B) | refine Z1 ?_ | refine Z2 ?_ | refine Z5 (by omega) ?_ | refine Z6 (fun h => ?_) fun h => ?_) | (first | (with_reducible first | refine Y2 fun K hK => ?_ | refine Y3 fun A B hA hB => ?_ | refine Y5 (by omega) ?_) | (with_reducible refine a_spec_l1In ?_)) <;> (simp only [go_sem, Int.tmod_eq_emod_of_nonneg h1.1, Int.tdiv_eq_ediv_of_nonneg h1.1, Int.tmod_eq_emod_of_nonneg h2.1, Int.tdiv_eq_ediv_of_nonneg h2.1, Int.tmod_eq_emod_of_nonneg h3.1, Int.tdiv_eq_ediv_of_nonneg h3.1]; try simp (disch := omega) only [Iw]) | ((with_reducible refine Y8 ?_); try simp only [AQ.then, AQ.blk, reduceIte, Nat.reduceEqDiff]) | fail)
  all_goals first | with_reducible refine exitP hQ _ rfl rfl ?_ | skip
  all_goals exact dI_e (by unfold wrdPut; simp [*])
theorem a_spec_WrdPut {old : Int} {new : Int} {lanes : Int} (h1 : 0 ≤ old ∧ old ≤ 65535) (h2 : 0 ≤ new ∧ new ≤ 65535) (h3 : 0 ≤ lanes ∧ lanes ≤ 3)  (h : K (dI (wrdPut old new lanes)) H nx) : ACall Tryz.prog n_spec_WrdPut [dI old, dI new, dI lanes] H nx K :=
  (c_spec_WrdPut old new lanes h1 h2 h3).pure rfl (lentL_args ⟨cvD_im rfl, cvD_im rfl, cvD_im rfl, trivial⟩) (fun r hr => hr ▸ h)

theorem c_spec_l2Get (w all : List Int) (wc wm : Nat) (hwl : w.length = 64) (hwc : 64 ≤ wc) (ha : All all 0 63) (hal : all.length < 2 ^ 20) : ACall Tryz.prog n_spec_l2Get [dA [.osl 1 0 0 64 wc], dS (all.map eInt)] (hp [(0, ⟨1, wm, w.map eInt⟩)]) 1
    fun r H' n' => n' = 1 ∧ ∃ o', H' = hp [(0, o')] ∧ immO o' ∧ o' = ⟨1, wm, w.map eInt⟩ ∧ r = dS ((all.map fun a => w.getD a.toNat default).map eInt) := by
  refine en_spec_l2Get rfl fun Q hQ => ?_
  unfold ac_spec_l2Get
  repeat' (first | (with_reducible first | (refine hK _ _ _ ?_; clear hK K) | refine Z1 ?_ | refine Z3 fun KB hKB => ?_) | (with_reducible refine Y2 fun K hK => ?_) <;> (simp only [go_sem]) | fail)
  (have hKX := hKB; clear hKB)
  refine AWPL.loopP 2 (β := Nat × Nat) (fun b u => en [(6, dI u.1), (5, dO 1 (b + 1) u.1 u.2), (2, dP 1 b), (1, dS (all.map eInt))])
    (fun b u => hp [(0, ⟨1, wm, w.map eInt⟩), (b, ⟨1, 1, [[.osl 1 0 0 64 wc]]⟩), (b + 1, ⟨1, u.2, ((all.take u.1).map fun a => w.getD a.toNat default).map eInt⟩)]) (fun u => u.1 ≤ all.length ∧ u.1 ≤ u.2) (fun u => all.length - u.1) (0, 0)
    (by (refine cv_hp [1, 3, 0] (by omega) (by repeat' (first | (with_reducible first | exact C1 | refine C2 ?_ ?_) | ((with_reducible refine C0 ?_); first | exact CC | exact CE (by omega) rfl) | ((with_reducible refine D0 ?_); first | exact CA rfl | refine CJ ?_) | fail)) ⟨⟨by simp, by simp [sgL], _, rfl, cvO_E (immR_map eInt_ok _) rfl rfl⟩, ⟨by simp, by simp [sgL], _, rfl, cvO_one (by repeat' (first | (with_reducible first | exact C3 | refine C4 ?_ ?_) | ((with_reducible refine C0 ?_); exact CQ (by omega) rfl rfl (by rfl) rfl) | fail))⟩, ⟨by simp, by simp [sgL], _, rfl, cvO_E (immR_map eInt_ok _) rfl rfl⟩, trivial⟩ (by simp [sgL]))) ⟨by omega, by omega⟩ ?_
  rintro ⟨k, cap⟩ ⟨hk, hc⟩ KL hKL
  dsimp only at hk hc
  by_cases hlt : k < all.length
  · have hb := getD_in ha hlt
    repeat' (first | (with_reducible first | (refine hK _ _ _ ?_; clear hK K) | (refine hA ?_; clear hA hB A B) | refine Z1 ?_ | refine Z2 ?_ | refine Z3 fun KB hKB => ?_ | refine Z4 (by omega) ?_ | refine fun (cap : Nat) (hcap : _ ≤ cap) => ?_ | refine fun (hcp : _ ≤ cap) => ?_) | (with_reducible first | refine Y2 fun K hK => ?_ | refine Y3 fun A B hA hB => ?_) <;> (simp only [go_sem]; try simp (disch := omega) only [Iw]) | ((with_reducible refine Y0 ?_); simp only [AQ.then, AQ.blk]) | refine ⟨by omega, ?_⟩ | (refine ⟨by (rw [List.length_take]; omega), ?_⟩) | (with_reducible refine hKB _ _ _ ?_) | fail)
    refine hKL _ _ _ (k + 1, cap) (by omega) (by (refine cv_hp [6, 22, 0] (by omega) (by repeat' (first | (with_reducible first | exact C1 | refine C2 ?_ ?_) | ((with_reducible refine C0 ?_); first | exact CQ (by omega) rfl rfl (by rfl) rfl | exact CE (by omega) rfl) | ((with_reducible refine D0 ?_); first | exact CA rfl | refine CJ ?_) | fail)) ⟨⟨by simp, by simp [sgL], _, rfl, cvO_E (immR_map eInt_ok _) rfl rfl⟩, ⟨by simp, by simp [sgL], _, rfl, cvO_one (by repeat' (first | (with_reducible first | exact C3 | refine C4 ?_ ?_) | ((with_reducible refine C0 ?_); exact CQ (by omega) rfl rfl (by rfl) rfl) | fail))⟩, ⟨by simp, by simp [sgL], _, rfl, cvO_E (immR_map eInt_ok _) (by rw [take_snoc hlt, List.map_append, List.take_of_length_le (l := List.map _ (List.take k all)) (by simp; omega)]; rfl) rfl⟩, trivial⟩ (by simp [sgL]))) ⟨by dsimp only; omega, by dsimp only; omega⟩ (by dsimp only; omega)
  · repeat' (first | (with_reducible first | (refine hK _ _ _ ?_; clear hK K) | (refine hB ?_; clear hA hB A B) | refine Z1 ?_ | refine Z5 (by omega) ?_ | refine hKX _ _ _ ?_) | (with_reducible first | refine Y2 fun K hK => ?_ | refine Y3 fun A B hA hB => ?_) <;> (simp only [go_sem]) | ((with_reducible first | refine Y8 ?_ | refine Y9 ?_); try simp only [AQ.then, AQ.blk, reduceIte, Nat.reduceEqDiff]) | fail)
    have hk2 : k = all.length := by omega
    subst hk2
    exact exitM1 hQ (dS _) _ _ rfl (cvD_frzM (l := (all.take all.length).map fun a => w.getD a.toNat default) eInt_ok rfl (by simp) (by simp; omega) (by decide)) rfl (immO_map eInt_ok _) ⟨rfl, by rw [List.take_length]⟩
theorem a_spec_l2Get {w all : List Int} {wc wm i : Nat} (hwl : w.length = 64) (hwc : 64 ≤ wc) (ha : All all 0 63) (hal : all.length < 2 ^ 20) (hi : i < nx) (ho : H i = some ⟨1, wm, w.map eInt⟩) (h : K (dS ((all.map fun a => w.getD a.toNat default).map eInt)) (H.set i ⟨1, wm, w.map eInt⟩) nx) :
    ACall Tryz.prog n_spec_l2Get [dA [.osl 1 i 0 64 wc], dS (all.map eInt)] H nx K :=
  (c_spec_l2Get w all wc wm hwl hwc ha hal).mut1 i rfl (argL_args ⟨cvL_cons (cv1_oslE (by omega) rfl rfl rfl rfl) cvL_nil, cvD_im rfl, trivial⟩) hi ho (immO_map eInt_ok _) fun r o' ⟨h1, h2⟩ => by
    subst h1; subst h2; exact h

theorem c_spec_l2Put (w all data lanes : List Int) (wc wm : Nat) (hwl : w.length = 64) (hw : All w 0 65535) (hwc : 64 ≤ wc) (ha : All all 0 63) (hal : all.length < 2 ^ 20) (hd : All data 0 65535) (hdl : data.length = all.length) (hl : All lanes 0 3) (hll : lanes.length = all.length) :
    ACall Tryz.prog n_spec_l2Put [dA [.osl 1 0 0 64 wc], dS (all.map eInt), dS (data.map eInt), dS (lanes.map eInt)] (hp [(0, ⟨1, wm, w.map eInt⟩)]) 1
    fun r H' n' => n' = 1 ∧ ∃ o', H' = hp [(0, o')] ∧ immO o' ∧ o' = ⟨1, wm, (putN w all data lanes all.length).map eInt⟩ ∧ r = dA [.osl 1 0 0 64 wc] := by
  refine en_spec_l2Put rfl fun Q hQ => ?_
  unfold ac_spec_l2Put
  repeat' (first | (with_reducible first | (refine hK _ _ _ ?_; clear hK K) | refine Z1 ?_ | refine Z3 fun KB hKB => ?_) | (with_reducible refine Y2 fun K hK => ?_) <;> (simp only [go_sem]) | fail)
  (have hKX := hKB; clear hKB)
  refine AWPL.loopP 2 (β := Nat) (fun b k => en [(9, dI k), (8, dP 1 (b + 1)), (4, dP 1 b), (3, dS (lanes.map eInt)), (2, dS (data.map eInt)), (1, dS (all.map eInt))])
    (fun b k => hp [(0, ⟨1, wm, (putN w all data lanes k).map eInt⟩), (b, ⟨1, 1, [[.osl 1 0 0 64 wc]]⟩), (b + 1, ⟨1, 1, [[.osl 0 0 0 0 0]]⟩)]) (fun k => k ≤ all.length) (fun k => all.length - k) 0
    (by (refine cv_hp [1, 2, 0] (by omega) (by repeat' (first | (with_reducible first | exact C1 | refine C2 ?_ ?_) | ((with_reducible refine C0 ?_); exact CE (by omega) rfl) | ((with_reducible refine D0 ?_); first | exact CA rfl | refine CJ ?_) | fail)) ⟨⟨by simp, by simp [sgL], _, rfl, cvO_E (immR_map eInt_ok _) rfl rfl⟩, ⟨by simp, by simp [sgL], _, rfl, cvO_one (by repeat' (first | (with_reducible first | exact C3 | refine C4 ?_ ?_) | ((with_reducible refine C0 ?_); exact CQ (by omega) rfl rfl (by rfl) rfl) | fail))⟩, ⟨by simp, by simp [sgL], _, rfl, cvO_one (by repeat' (first | (with_reducible first | exact C3 | refine C4 ?_ ?_) | ((with_reducible refine C0 ?_); exact CC) | fail))⟩, trivial⟩ (by simp [sgL]))) (by omega) ?_
  rintro k hk KL hKL
  have hpl := putN_len (w := w) (all := all) (data := data) (lanes := lanes) k
  have hpw := putN_in (all := all) (lanes := lanes) hw hd k
  by_cases hlt : k < all.length
  · have hb := getD_in ha hlt
    have hb2 : (all.getD k default).toNat < (putN w all data lanes k).length := by omega
    repeat' (first | (with_reducible first | (refine hK _ _ _ ?_; clear hK K) | (refine hA ?_; clear hA hB A B) | refine Z1 ?_ | refine Z2 ?_ | refine Z3 fun KB hKB => ?_ | refine Z4 (by omega) ?_) | (first | (with_reducible first | refine Y2 fun K hK => ?_ | refine Y3 fun A B hA hB => ?_) | (with_reducible refine a_spec_WrdPut (getD_in hpw hb2) (getD_in hd (by omega)) (getD_in hl (by omega)) ?_)) <;> (simp only [go_sem]; try simp (disch := omega) only [Iw]) | ((with_reducible refine Y0 ?_); simp only [AQ.then, AQ.blk]) | refine ⟨by omega, ?_⟩ | (with_reducible refine hKB _ _ _ ?_) | fail)
    exact hKL _ _ _ (k + 1) (by omega) (by (refine cv_hp [4, 5, 0] (by omega) (by repeat' (first | (with_reducible first | exact C1 | refine C2 ?_ ?_) | ((with_reducible refine C0 ?_); exact CE (by omega) rfl) | ((with_reducible refine D0 ?_); first | exact CA rfl | refine CJ ?_) | fail)) ⟨⟨by simp, by simp [sgL], _, rfl, cvO_E (immR_map eInt_ok _) rfl rfl⟩, ⟨by simp, by simp [sgL], _, rfl, cvO_one (by repeat' (first | (with_reducible first | exact C3 | refine C4 ?_ ?_) | ((with_reducible refine C0 ?_); exact CQ (by omega) rfl rfl (by rfl) rfl) | fail))⟩, ⟨by simp, by simp [sgL], _, rfl, cvO_one (by repeat' (first | (with_reducible first | exact C3 | refine C4 ?_ ?_) | ((with_reducible refine C0 ?_); exact CC) | fail))⟩, trivial⟩ (by simp [sgL]))) (by omega) (by omega)
  · repeat' (first | (with_reducible first | (refine hK _ _ _ ?_; clear hK K) | (refine hB ?_; clear hA hB A B) | refine Z1 ?_ | refine Z5 (by omega) ?_ | refine hKX _ _ _ ?_) | (with_reducible first | refine Y2 fun K hK => ?_ | refine Y3 fun A B hA hB => ?_) <;> (simp only [go_sem]) | ((with_reducible first | refine Y8 ?_ | refine Y9 ?_); try simp only [AQ.then, AQ.blk, reduceIte, Nat.reduceEqDiff]) | fail)
    have hk2 : k = all.length := by omega
    subst hk2
    exact exitM1 hQ (dA [.osl 1 0 0 64 wc]) _ _ rfl (cvL_cons (cv1_oslE (by omega) rfl rfl rfl rfl) cvL_nil) rfl (immO_map eInt_ok _) ⟨rfl, rfl⟩
theorem a_spec_l2Put {w all data lanes : List Int} {wc wm i : Nat} (hwl : w.length = 64) (hw : All w 0 65535) (hwc : 64 ≤ wc) (ha : All all 0 63) (hal : all.length < 2 ^ 20) (hd : All data 0 65535) (hdl : data.length = all.length) (hl : All lanes 0 3) (hll : lanes.length = all.length)
    (hi : i < nx) (ho : H i = some ⟨1, wm, w.map eInt⟩) (h : K (dA [.osl 1 i 0 64 wc]) (H.set i ⟨1, wm, (putN w all data lanes all.length).map eInt⟩) nx) :
    ACall Tryz.prog n_spec_l2Put [dA [.osl 1 i 0 64 wc], dS (all.map eInt), dS (data.map eInt), dS (lanes.map eInt)] H nx K :=
  (c_spec_l2Put w all data lanes wc wm hwl hw hwc ha hal hd hdl hl hll).mut1 i rfl (argL_args ⟨cvL_cons (cv1_oslE (by omega) rfl rfl rfl rfl) cvL_nil, cvD_im rfl, cvD_im rfl, cvD_im rfl, trivial⟩) hi ho (immO_map eInt_ok _) fun r o' ⟨h1, h2⟩ => by
    subst h1; subst h2; exact h

theorem c_spec_l4Free (w hs all : List Int) (wc wm hc hm : Nat) (hsl : hs.length = 6) (hhc : 6 ≤ hc) (hal : all.length < 2 ^ 20) (ha : All all 0 63) :
    ACall Tryz.prog n_spec_l4Free [dA [.osl 1 0 0 64 wc, .osl 1 1 0 6 hc], dS (all.map eInt)] (hp [(0, ⟨1, wm, w.map eInt⟩), (1, ⟨1, hm, hs.map eInt⟩)]) 2
    fun r H' n' => n' = 2 ∧ ∃ o1' o2', H' = hp [(0, o1'), (1, o2')] ∧ immO o1' ∧ immO o2' ∧ o1' = ⟨1, wm, w.map eInt⟩ ∧ o2' = ⟨1, hm, (freeM hs all).map eInt⟩ ∧ r = dA [.osl 1 0 0 64 wc, .osl 1 1 0 6 hc] := by
  refine en_spec_l4Free rfl fun Q hQ => ?_
  unfold ac_spec_l4Free
  repeat' (first | (with_reducible first | (refine hK _ _ _ ?_; clear hK K) | refine Z1 ?_ | refine Z3 fun KB hKB => ?_) | (with_reducible refine Y2 fun K hK => ?_) <;> (simp only [go_sem]) | fail)
  (have hKX := hKB; clear hKB)
  refine AWPL.loopP 2 (β := Nat) (fun b k => en [(5, dI k), (4, dP 2 (b + 1)), (2, dP 2 b), (1, dS (all.map eInt))])
    (fun b k => hp [(0, ⟨1, wm, w.map eInt⟩), (1, ⟨1, hm, (freeN hs all k).map eInt⟩), (b, ⟨2, 1, [[.osl 1 0 0 64 wc, .osl 1 1 0 6 hc]]⟩), (b + 1, ⟨2, 1, [[.osl 0 0 0 0 0, .osl 0 0 0 0 0]]⟩)]) (fun k => k ≤ 6) (fun k => 6 - k) 0
    (by (refine cv_hp [2, 3, 0, 1] (by omega) (by repeat' (first | (with_reducible first | exact C1 | refine C2 ?_ ?_) | ((with_reducible refine C0 ?_); exact CE (by omega) rfl) | ((with_reducible refine D0 ?_); first | exact CA rfl | refine CJ ?_) | fail)) ⟨⟨by simp, by simp [sgL], _, rfl, cvO_E (immR_map eInt_ok _) rfl rfl⟩, ⟨by simp, by simp [sgL], _, rfl, cvO_E (immR_map eInt_ok _) (congrArg _ freeN_zero) rfl⟩, ⟨by simp, by simp [sgL], _, rfl, cvO_one (by repeat' (first | (with_reducible first | exact C3 | refine C4 ?_ ?_) | ((with_reducible refine C0 ?_); exact CQ (by omega) rfl rfl (by rfl) rfl) | fail))⟩, ⟨by simp, by simp [sgL], _, rfl, cvO_one (by repeat' (first | (with_reducible first | exact C3 | refine C4 ?_ ?_) | ((with_reducible refine C0 ?_); exact CC) | fail))⟩, trivial⟩ (by simp [sgL]))) (by omega) ?_
  rintro k hk KL hKL
  have hfl := freeN_len (all := all) (show k ≤ hs.length by omega)
  by_cases hlt : k < 6
  · have hfa := freeN_at (all := all) (show k < hs.length by omega)
    have hss := freeN_same (all := all) (show k < hs.length by omega)
    repeat' (first | (with_reducible first | (refine hK _ _ _ ?_; clear hK K) | (refine hA ?_; clear hA hB A B) | refine Z1 ?_ | refine Z2 ?_ | refine Z3 fun KB hKB => ?_ | refine Z4 (by omega) ?_) | (with_reducible first | refine Y2 fun K hK => ?_ | refine Y3 fun A B hA hB => ?_) <;> (simp only [go_sem]) | fail)
    (have hKY := hKB; clear hKB)
    refine AWPL.loopP 0 (β := Nat × Int) (fun b u => en [(6, dI u.1), (5, dI k), (4, dP 2 6), (2, dP 2 5), (1, dS (all.map eInt))])
      (fun b u => hp [(0, ⟨1, wm, w.map eInt⟩), (1, ⟨1, hm, ((freeN hs all k).set k u.2).map eInt⟩), (5, ⟨2, 1, [[.osl 1 0 0 64 wc, .osl 1 1 0 6 hc]]⟩), (6, ⟨2, 1, [[.osl 0 0 0 0 0, .osl 0 0 0 0 0]]⟩)]) (fun u => u.1 ≤ all.length ∧ u.2 = if hs.getD k default ∈ all.take u.1 then -1 else hs.getD k default) (fun u => all.length - u.1) (0, hs.getD k default)
      (by (refine cv_hp [0, 1, 5, 6] (by omega) (by repeat' (first | (with_reducible first | exact C1 | refine C2 ?_ ?_) | ((with_reducible refine C0 ?_); exact CE (by omega) rfl) | ((with_reducible refine D0 ?_); first | exact CA rfl | refine CJ ?_) | fail)) ⟨⟨by simp, by simp [sgL], _, rfl, cvO_E (immR_map eInt_ok _) rfl rfl⟩, ⟨by simp, by simp [sgL], _, rfl, cvO_E (immR_map eInt_ok _) (congrArg _ hss) rfl⟩, ⟨by simp, by simp [sgL], _, rfl, cvO_one (by repeat' (first | (with_reducible first | exact C3 | refine C4 ?_ ?_) | ((with_reducible refine C0 ?_); exact CQ (by omega) rfl rfl (by rfl) rfl) | fail))⟩, ⟨by simp, by simp [sgL], _, rfl, cvO_one (by repeat' (first | (with_reducible first | exact C3 | refine C4 ?_ ?_) | ((with_reducible refine C0 ?_); exact CC) | fail))⟩, trivial⟩ (by simp [sgL]))) ⟨by omega, by simp⟩ ?_
    rintro ⟨j, v⟩ ⟨hj, hv⟩ KI hKI
    dsimp only at hj hv
    by_cases hjt : j < all.length
    · have hb := getD_in ha hjt
      have hg : ((freeN hs all k).set k v).getD k default = v := by rw [getD_setI (by omega), if_pos rfl]
      have hset : ∀ x, ((freeN hs all k).set k v).set k x = (freeN hs all k).set k x := fun x => by rw [List.set_set]
      have ht := take_snoc hjt
      repeat' (first | (with_reducible first | (refine hK _ _ _ ?_; clear hK K) | (refine hA ?_; clear hA hB A B) | (refine hB ?_; clear hA hB A B) | refine Z1 ?_ | refine Z2 ?_ | refine Z3 fun KB hKB => ?_ | refine Z4 (by omega) ?_ | refine Z6 (fun h => ?_) fun h => ?_) | (with_reducible first | refine Y2 fun K hK => ?_ | refine Y3 fun A B hA hB => ?_) <;> (simp only [go_sem, hg, hset]; try simp (disch := omega) only [Iw]) | ((with_reducible refine Y0 ?_); simp only [AQ.then, AQ.blk]) | refine ⟨by omega, ?_⟩ | (with_reducible refine hKB _ _ _ ?_) | fail)
      · exact hKI _ _ _ (j + 1, -1) (by omega) (by (refine cv_hp [0, 1, 5, 6] (by omega) (by repeat' (first | (with_reducible first | exact C1 | refine C2 ?_ ?_) | ((with_reducible refine C0 ?_); exact CE (by omega) rfl) | ((with_reducible refine D0 ?_); first | exact CA rfl | refine CJ ?_) | fail)) ⟨⟨by simp, by simp [sgL], _, rfl, cvO_E (immR_map eInt_ok _) rfl rfl⟩, ⟨by simp, by simp [sgL], _, rfl, cvO_E (immR_map eInt_ok _) rfl rfl⟩, ⟨by simp, by simp [sgL], _, rfl, cvO_one (by repeat' (first | (with_reducible first | exact C3 | refine C4 ?_ ?_) | ((with_reducible refine C0 ?_); exact CQ (by omega) rfl rfl (by rfl) rfl) | fail))⟩, ⟨by simp, by simp [sgL], _, rfl, cvO_one (by repeat' (first | (with_reducible first | exact C3 | refine C4 ?_ ?_) | ((with_reducible refine C0 ?_); exact CC) | fail))⟩, trivial⟩ (by simp [sgL]))) ⟨by dsimp only; omega, by dsimp only; rw [ht]; grind⟩ (by dsimp only; omega)
      · exact hKI _ _ _ (j + 1, v) (by omega) (by (refine cv_hp [0, 1, 5, 6] (by omega) (by repeat' (first | (with_reducible first | exact C1 | refine C2 ?_ ?_) | ((with_reducible refine C0 ?_); exact CE (by omega) rfl) | ((with_reducible refine D0 ?_); first | exact CA rfl | refine CJ ?_) | fail)) ⟨⟨by simp, by simp [sgL], _, rfl, cvO_E (immR_map eInt_ok _) rfl rfl⟩, ⟨by simp, by simp [sgL], _, rfl, cvO_E (immR_map eInt_ok _) rfl rfl⟩, ⟨by simp, by simp [sgL], _, rfl, cvO_one (by repeat' (first | (with_reducible first | exact C3 | refine C4 ?_ ?_) | ((with_reducible refine C0 ?_); exact CQ (by omega) rfl rfl (by rfl) rfl) | fail))⟩, ⟨by simp, by simp [sgL], _, rfl, cvO_one (by repeat' (first | (with_reducible first | exact C3 | refine C4 ?_ ?_) | ((with_reducible refine C0 ?_); exact CC) | fail))⟩, trivial⟩ (by simp [sgL]))) ⟨by dsimp only; omega, by dsimp only; rw [ht]; grind⟩ (by dsimp only; omega)
    · have hj2 : j = all.length := by omega
      subst hj2
      have hnx := freeN_set (x := v) (show k < hs.length by omega) (by rw [hv, List.take_length])
      repeat' (first | (with_reducible first | (refine hK _ _ _ ?_; clear hK K) | (refine hB ?_; clear hA hB A B) | refine Z1 ?_ | refine Z5 (by omega) ?_ | refine hKY _ _ _ ?_) | (with_reducible first | refine Y2 fun K hK => ?_ | refine Y3 fun A B hA hB => ?_) <;> (simp only [go_sem]; try simp (disch := omega) only [Iw]) | ((with_reducible refine Y9 ?_); try simp only [AQ.then, AQ.blk, reduceIte, Nat.reduceEqDiff]) | ((with_reducible refine Y0 ?_); simp only [AQ.then, AQ.blk]) | (with_reducible refine hKB _ _ _ ?_) | fail)
      exact hKL _ _ _ (k + 1) (by omega) (by (refine cv_hp [5, 6, 0, 1] (by omega) (by repeat' (first | (with_reducible first | exact C1 | refine C2 ?_ ?_) | ((with_reducible refine C0 ?_); exact CE (by omega) rfl) | ((with_reducible refine D0 ?_); first | exact CA rfl | refine CJ ?_) | fail)) ⟨⟨by simp, by simp [sgL], _, rfl, cvO_E (immR_map eInt_ok _) rfl rfl⟩, ⟨by simp, by simp [sgL], _, rfl, cvO_E (immR_map eInt_ok _) (by rw [hnx]) rfl⟩, ⟨by simp, by simp [sgL], _, rfl, cvO_one (by repeat' (first | (with_reducible first | exact C3 | refine C4 ?_ ?_) | ((with_reducible refine C0 ?_); exact CQ (by omega) rfl rfl (by rfl) rfl) | fail))⟩, ⟨by simp, by simp [sgL], _, rfl, cvO_one (by repeat' (first | (with_reducible first | exact C3 | refine C4 ?_ ?_) | ((with_reducible refine C0 ?_); exact CC) | fail))⟩, trivial⟩ (by simp [sgL]))) (by omega) (by omega)
  · repeat' (first | (with_reducible first | (refine hK _ _ _ ?_; clear hK K) | (refine hB ?_; clear hA hB A B) | refine Z1 ?_ | refine Z5 (by omega) ?_ | refine hKX _ _ _ ?_) | (with_reducible first | refine Y2 fun K hK => ?_ | refine Y3 fun A B hA hB => ?_) <;> (simp only [go_sem]) | ((with_reducible first | refine Y8 ?_ | refine Y9 ?_); try simp only [AQ.then, AQ.blk, reduceIte, Nat.reduceEqDiff]) | fail)
    have hk2 : k = hs.length := by omega
    subst hk2
    exact exitM2 hQ (dA [.osl 1 0 0 64 wc, .osl 1 1 0 6 hc]) _ _ _ rfl (by repeat' (first | ((with_reducible refine C0 ?_); exact CQ (by omega) rfl rfl (by rfl) rfl) | ((with_reducible refine D0 ?_); refine C9 ?_) | exact C3 | refine C4 ?_ ?_ | fail)) rfl rfl (immO_map eInt_ok _) (immO_map eInt_ok _) ⟨rfl, by rw [freeN_end], rfl⟩
theorem a_spec_l4Free {w hs all : List Int} {wc wm hc hm i j : Nat} (hsl : hs.length = 6) (hhc : 6 ≤ hc) (hal : all.length < 2 ^ 20) (ha : All all 0 63)
    (hi : i < nx) (hj : j < nx) (hij : i ≠ j) (ho1 : H i = some ⟨1, wm, w.map eInt⟩) (ho2 : H j = some ⟨1, hm, hs.map eInt⟩) (h : K (dA [.osl 1 i 0 64 wc, .osl 1 j 0 6 hc]) ((H.set i ⟨1, wm, w.map eInt⟩).set j ⟨1, hm, (freeM hs all).map eInt⟩) nx) :
    ACall Tryz.prog n_spec_l4Free [dA [.osl 1 i 0 64 wc, .osl 1 j 0 6 hc], dS (all.map eInt)] H nx K :=
  (c_spec_l4Free w hs all wc wm hc hm hsl hhc hal ha).mut2 i j rfl (argL_args ⟨cvL_cons (cv1_oslE (by omega) rfl rfl rfl rfl) (cvL_cons (cv1_oslE (by omega) rfl rfl rfl rfl) cvL_nil), cvD_im rfl, trivial⟩) hi hj hij ho1 ho2 (immO_map eInt_ok _) (immO_map eInt_ok _) fun r o1' o2' ⟨h1, h2, h3⟩ => by
    subst h1; subst h2; subst h3; exact h

theorem c_spec_l4Do (m : List Rng) (w hs : List Int) (who : Int) (q : Req) (wc wm hc hm : Nat) (hm4 : m.length < 2 ^ 20) (hf : AtFit w hs) (hwc : 64 ≤ wc) (hhc : 6 ≤ hc) (hw : 0 ≤ who ∧ who ≤ 2) (hq : ReqOkP q) :
    ACall Tryz.prog n_spec_l4Do [dS (m.map eRng), dA [.osl 1 0 0 64 wc, .osl 1 1 0 6 hc], dI who, dA (eReq q)] (hp [(0, ⟨1, wm, w.map eInt⟩), (1, ⟨1, hm, hs.map eInt⟩)]) 2
    fun r H' n' => n' = 2 ∧ ∃ o1' o2', H' = hp [(0, o1'), (1, o2')] ∧ immO o1' ∧ immO o2' ∧ o1' = ⟨1, wm, (doM m w hs who q).1.1.map eInt⟩ ∧ o2' = ⟨1, hm, (doM m w hs who q).1.2.map eInt⟩ ∧ r = .tup [.agg [.osl 1 0 0 64 wc, .osl 1 1 0 6 hc], .agg (eRsp (doM m w hs who q).2)] := by
  obtain ⟨hwl, hwr, hsl, hsr⟩ := hf
  obtain ⟨hq1, hq2, hq3, hq4, hq5, hq6, hq7, hq8⟩ := hq
  have hbl := burstM_len hq3
  have hbp := burst_pos hq3
  have hb4 := burstM_le (addr := q.addr) (many := q.many) (wrap := q.wrap)
  have hbi : All (burstM q.addr q.many q.wrap) 0 63 := burstM_in
  have hlt := idxM_lt (p := (inR · ((burstM q.addr q.many q.wrap).getD 0 default))) (l := m)
  have hwh : wholeM m (burstM q.addr q.many q.wrap) < m.length := by unfold wholeM; grind
  have hdl : wrM q = true → q.data.length = (burstM q.addr q.many q.wrap).length ∧ q.lanes.length = (burstM q.addr q.many q.wrap).length := by
    intro h; unfold wrM at h; unfold manyOf at hq4 hq5; simp at h; simp only [h, if_true] at hq4 hq5; omega
  refine en_spec_l4Do rfl fun Q hQ => ?_
  unfold ac_spec_l4Do
  repeat' (first | (with_reducible first | (refine hK _ _ _ ?_; clear hK K) | (refine hA ?_; clear hA hB A B) | (refine hB ?_; clear hA hB A B) | refine Z1 ?_ | refine Z2 ?_ | refine Z3 fun KB hKB => ?_ | refine Z6 (fun h => ?_) fun h => ?_) | (first | (with_reducible first | refine Y2 fun K hK => ?_ | refine Y3 fun A B hA hB => ?_ | (refine Y7 (fun h => ?_) (fun h => ?_) <;> try subst h)) | (with_reducible refine a_spec_AdrBurst ?_) | (with_reducible refine a_spec_l1Whole (by omega) (by omega) ?_) | (with_reducible refine a_spec_l3Writes ?_) | (refine a_spec_l2Get hwl hwc hbi (by omega) (by omega) rfl ?_) | (refine a_spec_l2Put hwl hwr hwc hbi (by omega) hq6 (hdl (by unfold wrM; simp; omega)).1 hq7 (hdl (by unfold wrM; simp; omega)).2 (by omega) rfl ?_) | (refine a_spec_l4Free hsl hhc (by omega) hbi (by omega) (by omega) (by omega) rfl rfl ?_)) <;> (simp only [go_sem]; try simp (disch := omega) only [Iw]) | ((with_reducible refine Y8 ?_); try simp only [AQ.then, AQ.blk, reduceIte, Nat.reduceEqDiff]) | ((with_reducible refine Y0 ?_); simp only [AQ.then, AQ.blk]) | ((with_reducible refine Z8 (fun h => ?_) (fun h => ?_)) <;> try subst h) | refine ⟨by omega, ?_⟩ | (with_reducible refine hKB _ _ _ ?_) | fail)
  all_goals have hwi := wrM_iff (q := q)
  all_goals first
    | rw [doM_none (by assumption)] at hQ
    | rw [doM_deny (by assumption) (by assumption) (by assumption)] at hQ
    | rw [doM_read (by assumption) (by assumption)] at hQ
    | rw [doM_hold (by assumption) (by assumption)] at hQ
    | rw [doM_no (by assumption) (by grind) (by assumption) (by assumption)] at hQ
    | rw [doM_try (by assumption) (by grind) (by assumption) (by grind)] at hQ
    | rw [doM_put (by assumption) (by grind) (by omega)] at hQ
    | (exfalso; grind)
  all_goals exact exitM2 hQ _ _ _ _ rfl (by repeat' (first | (with_reducible first | refine C5 ?_ ?_ | refine C7 ?_) | ((with_reducible refine C0 ?_); first | exact CB rfl | exact CQ (by omega) rfl rfl (by rfl) rfl | exact CF) | exact C3 | refine C4 ?_ ?_ | fail)) rfl rfl (immO_map eInt_ok _) (immO_map eInt_ok _) ⟨rfl, rfl, rfl⟩
theorem a_spec_l4Do {m : List Rng} {w hs : List Int} {who : Int} {q : Req} {wc wm hc hm i j : Nat} (hm4 : m.length < 2 ^ 20) (hf : AtFit w hs) (hwc : 64 ≤ wc) (hhc : 6 ≤ hc) (hw : 0 ≤ who ∧ who ≤ 2) (hq : ReqOkP q)
    (hi : i < nx) (hj : j < nx) (hij : i ≠ j) (ho1 : H i = some ⟨1, wm, w.map eInt⟩) (ho2 : H j = some ⟨1, hm, hs.map eInt⟩)
    (h : K (.tup [.agg [.osl 1 i 0 64 wc, .osl 1 j 0 6 hc], .agg (eRsp (doM m w hs who q).2)]) ((H.set i ⟨1, wm, (doM m w hs who q).1.1.map eInt⟩).set j ⟨1, hm, (doM m w hs who q).1.2.map eInt⟩) nx) :
    ACall Tryz.prog n_spec_l4Do [dS (m.map eRng), dA [.osl 1 i 0 64 wc, .osl 1 j 0 6 hc], dI who, dA (eReq q)] H nx K :=
  (c_spec_l4Do m w hs who q wc wm hc hm hm4 hf hwc hhc hw hq).mut2 i j rfl (argL_args ⟨cvD_im rfl, cvL_cons (cv1_oslE (by omega) rfl rfl rfl rfl) (cvL_cons (cv1_oslE (by omega) rfl rfl rfl rfl) cvL_nil), cvD_im rfl, cvD_im rfl, trivial⟩) hi hj hij ho1 ho2 (immO_map eInt_ok _) (immO_map eInt_ok _) fun r o1' o2' ⟨h1, h2, h3⟩ => by
    subst h1; subst h2; subst h3; exact h
end
end Go.Proofs.YtiimjokpcbapeaaGreat
