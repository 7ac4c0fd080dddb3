/- The walk of FnTrcReads. -/
import Derived.Test.YtiimjokpcbapeaaGreatAcLFnTrcReads
import Derived.Test.YtiimjokpcbapeaaGreatLk
import Derived.Test.YtiimjokpcbapeaaGreatUb
import Derived.Test.YtiimjokpcbapeaaGreatUe
import Derived.Test.YtiimjokpcbapeaaGreatMza
set_option linter.unusedVariables false
set_option linter.unusedSimpArgs false
set_option linter.unusedSectionVars false
namespace Go.Proofs.YtiimjokpcbapeaaGreat
open Go Go.AM
set_option maxRecDepth 100000
set_option maxHeartbeats 8000000
section
variable {H : Heap} {nx : Nat} {K : D → Heap → Nat → Prop}
theorem take_snocQ {α : Type} [Inhabited α] {l : List α} {k : Nat} (h : k < l.length) : l.take (k + 1) = l.take k ++ [l.getD k default] := by
  rw [List.take_succ_eq_append_getElem h]; simp [List.getD, h]
theorem c_laws_FnTrcReads (l : List Int) (hby : ∀ x ∈ l, 0 ≤ x ∧ x < 256) : ACall Tryz.prog n_laws_FnTrcReads [dS (l.map eU8)] .nil 0 fun rr _ _ => rr.plain = true ∧ rr = dB true := by
  refine en_laws_FnTrcReads rfl fun Q hQ => ?_
  unfold ac_laws_FnTrcReads
  by_cases hbig : l.length ≤ 1048576
  case neg =>
    repeat' (first | (with_reducible first | (refine hK _ _ _ ?_; clear hK K) | (refine hA ?_; clear hA hB A B) | refine Z1 ?_ | refine Z4 (by omega) ?_) | (with_reducible first | refine Y2 fun K hK => ?_ | refine Y3 fun A B hA hB => ?_) <;> (simp only [go_sem]) | ((with_reducible refine Y8 ?_); try simp only [AQ.then, AQ.blk, reduceIte, Nat.reduceEqDiff]) | fail)
    exact exitP hQ (dB true) rfl rfl rfl
  have hl : CodeOk l := ⟨by omega, hby⟩
  generalize hs0 : st0 = s0
  have htn : ∀ {H : Heap} {nx : Nat} {K : D → Heap → Nat → Prop}, K (dA (eSt s0)) H nx → ACall Tryz.prog n_impl_TlmNew [] H nx K := fun h => by subst hs0; exact a_impl_TlmNew h
  have htr : ∀ {H : Heap} {nx : Nat} {K : D → Heap → Nat → Prop} {c : Cfg} {es : List Ev}, BusOkP c → CfgFit c → es.length ≤ 200 → Plays c st0 es → K (.tup [.agg (eSt (runM c st0 es)), .c (cI es.length)]) H nx → ACall Tryz.prog n_impl_TlmRun [dA (eCfg c), dA (eSt s0), dS (es.map eEv)] H nx K := fun h1 h2 h3 h4 h5 => by subst hs0; exact a_impl_TlmRun0 h1 h2 h3 h4 h5
  repeat' (first | (with_reducible first | (refine hK _ _ _ ?_; clear hK K) | (refine hB ?_; clear hA hB A B) | refine Z1 ?_ | refine Z2 ?_ | refine Z3 fun KB hKB => ?_ | refine Z5 (by omega) ?_) | (first | (with_reducible first | refine Y2 fun K hK => ?_ | refine Y3 fun A B hA hB => ?_) | (refine a_spec_DrawTlmPlay hl (fun c es hb hf hp hlen => ?_))) <;> (simp only [go_sem]) | fail)
  (have hQX := hKB; clear hKB)
  refine AWPL.virt 1 ?_
  obtain ⟨hp3, hp12⟩ := busOk_prog hb
  refine AWPL.loopP 2 (β := Nat × Nat) (fun b u => en [(6, dI u.1), (5, dP 3 b), (4, dS (es.map eEv)), (3, .one (.c (.iptr (eCfg c))))])
    (fun b u => Go.AM.hp [(b, ⟨3, 1, [[.isl (c.map.map eRng), .isl (c.lat.map eInt), .osl 1 (b + 1) 0 u.1 u.2]]⟩), (b + 1, ⟨1, u.2, ((c.progs.take u.1).map readP).map eProg⟩)]) (fun u => u.1 ≤ 3 ∧ u.1 ≤ u.2) (fun u => 3 - u.1) (0, 0)
    (by (refine cv_hp [17, 20] (by omega) (by repeat' (first | (with_reducible first | exact C1 | refine C2 ?_ ?_) | ((with_reducible refine C0 ?_); exact CE (by omega) rfl) | ((with_reducible refine D0 ?_); first | exact CA rfl | exact CI rfl (by simp) rfl rfl rfl | refine CJ ?_) | fail)) ⟨⟨by simp, by simp [sgL], _, rfl, cvO_one (by repeat' (first | (with_reducible first | exact C3 | refine C4 ?_ ?_) | ((with_reducible refine C0 ?_); first | exact CB rfl | exact CC) | fail))⟩, ⟨by simp, by simp [sgL], _, rfl, cvO_E (immR_map eProg_ok _) rfl rfl⟩, trivial⟩ (by simp [sgL]))) ⟨by omega, by omega⟩ ?_
  rintro ⟨k, cp⟩ ⟨hk, hcp⟩ KL hKL
  dsimp only at hk hcp
  have hcl := hf.map
  by_cases hlt : k < 3
  · obtain ⟨p, hpp⟩ : ∃ p, p = c.progs.getD k default := ⟨_, rfl⟩
    have hpm : p ∈ c.progs := by rw [hpp]; exact getD_mem (by omega)
    have hpl := hf.prog p hpm
    have hp12k : p.length ≤ 12 := by rw [hpp]; have := hp12 k; omega
    have hsn : c.progs.take (k + 1) = c.progs.take k ++ [p] := by rw [hpp]; exact take_snocQ (by omega)
    repeat' (first | (with_reducible first | (refine hK _ _ _ ?_; clear hK K) | (refine hA ?_; clear hA hB A B) | refine Z1 ?_ | refine Z2 ?_ | refine Z3 fun KB hKB => ?_ | refine Z4 (by omega) ?_) | (with_reducible first | refine Y2 fun K hK => ?_ | refine Y3 fun A B hA hB => ?_) <;> (simp only [go_sem, hpp.symm]) | fail)
    (have hKY := hKB; clear hKB)
    refine AWPL.loopP 1 (β := Nat × Nat) (fun b u => en [(8, dI u.1), (7, dO 7 b u.1 u.2), (6, dI k), (5, dP 3 21), (4, dS (es.map eEv)), (3, .one (.c (.iptr (eCfg c))))])
      (fun b u => Go.AM.hp [(21, ⟨3, 1, [[.isl (c.map.map eRng), .isl (c.lat.map eInt), .osl 1 22 0 k cp]]⟩), (22, ⟨1, cp, ((c.progs.take k).map readP).map eProg⟩), (b, ⟨7, u.2, ((p.take u.1).map readQ).map eReq⟩)]) (fun u => u.1 ≤ p.length ∧ u.1 ≤ u.2) (fun u => p.length - u.1) (0, 0)
      (by (refine cv_hp [28, 21, 22] (by omega) (by repeat' (first | (with_reducible first | exact C1 | refine C2 ?_ ?_) | ((with_reducible refine C0 ?_); first | exact CC | exact CE (by omega) rfl) | ((with_reducible refine D0 ?_); first | exact CA rfl | refine CJ ?_) | fail)) ⟨⟨by simp, by simp [sgL], _, rfl, cvO_one (by repeat' (first | (with_reducible first | exact C3 | refine C4 ?_ ?_) | ((with_reducible refine C0 ?_); first | exact CB rfl | exact CQ (by omega) rfl rfl (by rfl) rfl) | fail))⟩, ⟨by simp, by simp [sgL], _, rfl, cvO_E (immR_map eProg_ok _) rfl rfl⟩, ⟨by simp, by simp [sgL], _, rfl, cvO_E (immR_map eReq_ok _) rfl rfl⟩, trivial⟩ (by simp [sgL]))) ⟨by omega, by omega⟩ ?_
    rintro ⟨j, cj⟩ ⟨hj, hcj⟩ KM hKM
    dsimp only at hj hcj
    by_cases hjl : j < p.length
    · have hjs : p.take (j + 1) = p.take j ++ [p.getD j default] := take_snocQ hjl
      have htk : ((p.take j).map readQ).take j = (p.take j).map readQ := List.take_of_length_le (by simp; omega)
      repeat' (first | (with_reducible first | (refine hK _ _ _ ?_; clear hK K) | (refine hA ?_; clear hA hB A B) | refine Z1 ?_ | refine Z2 ?_ | refine Z3 fun KB hKB => ?_ | refine Z4 (by omega) ?_ | refine fun (cap : Nat) (hcap : _ ≤ cap) => ?_ | refine fun (hcp : _ ≤ cap) => ?_) | (with_reducible first | refine Y2 fun K hK => ?_ | refine Y3 fun A B hA hB => ?_) <;> (simp only [go_sem, hpp.symm, htk]; try simp (disch := omega) only [Iw]) | ((with_reducible refine Y0 ?_); simp only [AQ.then, AQ.blk]) | refine ⟨by omega, ?_⟩ | (refine ⟨by (rw [List.length_take]; omega), ?_⟩) | (with_reducible refine hKB _ _ _ ?_) | fail)
      exact hKM _ _ _ (j + 1, cap) (by omega) (by (refine cv_hp [61, 21, 22] (by omega) (by repeat' (first | (with_reducible first | exact C1 | refine C2 ?_ ?_) | ((with_reducible refine C0 ?_); first | exact CQ (by omega) rfl rfl (by rfl) rfl | exact CE (by omega) rfl) | ((with_reducible refine D0 ?_); first | exact CA rfl | refine CJ ?_) | fail)) ⟨⟨by simp, by simp [sgL], _, rfl, cvO_one (by repeat' (first | (with_reducible first | exact C3 | refine C4 ?_ ?_) | ((with_reducible refine C0 ?_); first | exact CB rfl | exact CQ (by omega) rfl rfl (by rfl) rfl) | fail))⟩, ⟨by simp, by simp [sgL], _, rfl, cvO_E (immR_map eProg_ok _) rfl rfl⟩, ⟨by simp, by simp [sgL], _, rfl, cvO_snoc (R := ((p.take j).map readQ).map eReq) (r' := eReq (readQ (p.getD j default))) (by rw [hjs]; simp) rfl (fun r hr => (immR_map eReq_ok _ r hr).2) rfl (cvL_cons (cv1_imm rfl) (cvL_cons (cv1_imm rfl) (cvL_cons (cv1_imm rfl) (cvL_cons (cv1_imm rfl) (cvL_cons (cv1_imm rfl) (cvL_cons cv1_frz0 (cvL_cons cv1_frz0 cvL_nil)))))))⟩, trivial⟩ (by simp [sgL]))) ⟨by dsimp only; omega, by (try simp only [List.length_map, List.length_take] at hcap); dsimp only; omega⟩ (by dsimp only; omega)
    · have hj2 : j = p.length := by omega
      subst hj2
      have htk : ((c.progs.take k).map readP).take k = (c.progs.take k).map readP := List.take_of_length_le (by simp; omega)
      rw [List.take_length]
      repeat' (first | (with_reducible first | (refine hK _ _ _ ?_; clear hK K) | (refine hB ?_; clear hA hB A B) | refine Z1 ?_ | refine Z5 (by omega) ?_ | refine fun (cap : Nat) (hcap : _ ≤ cap) => ?_ | refine fun (hcp : _ ≤ cap) => ?_ | refine hKY _ _ _ ?_) | (with_reducible first | refine Y2 fun K hK => ?_ | refine Y3 fun A B hA hB => ?_) <;> (simp only [go_sem, hpp.symm, htk]; try simp (disch := omega) only [Iw]) | ((with_reducible refine Y9 ?_); try simp only [AQ.then, AQ.blk, reduceIte, Nat.reduceEqDiff]) | ((with_reducible refine Y0 ?_); simp only [AQ.then, AQ.blk]) | refine ⟨by omega, ?_⟩ | (refine ⟨by (rw [List.length_take]; omega), ?_⟩) | (with_reducible refine hKB _ _ _ ?_) | fail)
      exact hKL _ _ _ (k + 1, cap) (by omega) (by (refine cv_hp [21, 44] (by omega) (by repeat' (first | (with_reducible first | exact C1 | refine C2 ?_ ?_) | ((with_reducible refine C0 ?_); exact CE (by omega) rfl) | ((with_reducible refine D0 ?_); first | exact CA rfl | refine CJ ?_) | fail)) ⟨⟨by simp, by simp [sgL], _, rfl, cvO_one (by repeat' (first | (with_reducible first | exact C3 | refine C4 ?_ ?_) | ((with_reducible refine C0 ?_); first | exact CB rfl | exact CQ (by omega) rfl rfl (by rfl) rfl) | fail))⟩, ⟨by simp, by simp [sgL], _, rfl, cvO_snoc (R := ((c.progs.take k).map readP).map eProg) (r' := eProg (readP p)) (by rw [hsn]; simp) rfl (fun r hr => (immR_map eProg_ok _ r hr).2) rfl (cvL_cons (cv1_frzM eReq_ok rfl (by simp [readP]) (by simp only [readP, List.length_map]; omega) (by simp)) cvL_nil)⟩, trivial⟩ (by simp [sgL]))) ⟨by dsimp only; omega, by dsimp only; omega⟩ (by dsimp only; omega)
  have hk3 : k = 3 := by omega
  subst hk3
  have htp : c.progs.take 3 = c.progs := List.take_of_length_le (by omega)
  rw [htp]
  repeat' (first | (with_reducible first | (refine hK _ _ _ ?_; clear hK K) | (refine hB ?_; clear hA hB A B) | refine Z1 ?_ | refine Z5 (by omega) ?_) | (with_reducible first | refine Y2 fun K hK => ?_ | refine Y3 fun A B hA hB => ?_) <;> (simp only [go_sem]) | ((with_reducible refine Y9 ?_); try simp only [AQ.then, AQ.blk, reduceIte, Nat.reduceEqDiff]) | fail)
  refine hQX _ _ _ ?_
  refine AWPL.convL 1 (en [(5, dP 3 28), (4, dS (es.map eEv))]) (Go.AM.hp [(28, ⟨3, 1, [eCfg (readC c)]⟩)]) (by (refine cv_hp [21] (by omega) (by repeat' (first | (with_reducible first | exact C1 | refine C2 ?_ ?_) | ((with_reducible refine C0 ?_); exact CE (by omega) rfl) | ((with_reducible refine D0 ?_); first | exact CA rfl | refine CJ ?_) | fail)) ⟨⟨by simp, by simp [sgL], _, rfl, cvO_one (cvL_cons (cv1_imm rfl) (cvL_cons (cv1_imm rfl) (cvL_cons (cv1_frzM (l := c.progs.map readP) eProg_ok rfl (by simp only [List.length_map]; omega) (by simp only [List.length_map]; omega) (by simp)) cvL_nil)))⟩, trivial⟩ (by simp [sgL]))) ?_
  have hb2 := readC_ok hb
  have hf2 := readC_fit hf
  have hpr := readC_plays hp
  have hrk := readC_kind (c := c)
  generalize readC c = c2 at *
  have hs := plays_end hb2 (st0_ok c2) hpr
  have hp2 := line_plays hb2 hpr
  have hs2 := plays_end hb2 (st0_ok c2) hp2
  have hln := line_len hpr
  have htold := fun w hw => told_eq (w := w) hb2 hrk hpr hw
  have hk1 := (reads_keep hrk hpr es.length (Nat.le_refl _)).1
  have hk2 := (reads_keep hrk hp2 (lineM es 3).length (Nat.le_refl _)).1
  rw [List.take_length] at hk1 hk2
  have hkw : (runM c2 st0 (lineM es 3)).words = (runM c2 st0 es).words := hk2.1.trans hk1.1.symm
  have hkh : (runM c2 st0 (lineM es 3)).holds = (runM c2 st0 es).holds := hk2.2.trans hk1.2.symm
  clear hk1 hk2
  have htr2 := fun {H : Heap} {nx : Nat} {K : D → Heap → Nat → Prop} => htr (H := H) (nx := nx) (K := K) hb2 hf2 (by rw [hln]; omega) hp2
  have htr1 := fun {H : Heap} {nx : Nat} {K : D → Heap → Nat → Prop} => htr (H := H) (nx := nx) (K := K) hb2 hf2 (by omega) hpr
  repeat' (first | (with_reducible first | (refine hK _ _ _ ?_; clear hK K) | refine Z1 ?_ | refine Z3 fun KB hKB => ?_) | (with_reducible refine Y2 fun K hK => ?_) <;> (simp only [go_sem]) | fail)
  (have hQX := hKB; clear hKB)
  refine AWPL.loopP 1 (β := Nat × Nat) (fun b u => en [(11, dI u.1), (10, dO 3 b (lineM es u.1).length u.2), (5, .one (.c (.iptr (eCfg c2)))), (4, dS (es.map eEv))])
    (fun b u => Go.AM.hp [(b, ⟨3, u.2, (lineM es u.1).map eEv⟩)]) (fun u => u.1 ≤ 3 ∧ (lineM es u.1).length ≤ u.2) (fun u => 3 - u.1) (0, 0) (by (refine cv_hp [29] (by omega) (by repeat' (first | (with_reducible first | exact C1 | refine C2 ?_ ?_) | ((with_reducible refine C0 ?_); exact CC) | ((with_reducible refine D0 ?_); first | exact CA rfl | exact CI rfl (by simp) rfl rfl rfl | refine CJ ?_) | fail)) ⟨⟨by simp, by simp [sgL], _, rfl, cvO_E (immR_map eEv_ok _) rfl rfl⟩, trivial⟩ (by simp [sgL]))) ⟨by omega, by simp [lineM]⟩ ?_
  rintro ⟨k, cap⟩ ⟨hk, hc⟩ KL hKL
  dsimp only at hk hc
  by_cases hlt : k < 3
  · have hsu := line_succ (es := es) (k := k)
    have hl1 := Nat.le_trans (line_le (es := es) k) (Nat.mul_le_mul (show k ≤ 3 by omega) (Nat.le_refl es.length))
    have hl2 := mine_len (l := es) (who := (k : Int))
    have hy2 := congrArg (List.map eEv) hsu
    rw [List.map_append] at hy2
    have hyl := congrArg List.length hsu
    rw [List.length_append] at hyl
    repeat' (first | (with_reducible first | (refine hK _ _ _ ?_; clear hK K) | (refine hA ?_; clear hA hB A B) | refine Z1 ?_ | refine Z2 ?_ | refine Z3 fun KB hKB => ?_ | refine Z4 (by omega) ?_ | refine fun (cap : Nat) (hcap : _ ≤ cap) => ?_ | refine fun (hcp : _ ≤ cap) => ?_) | (first | (with_reducible first | refine Y2 fun K hK => ?_ | refine Y3 fun A B hA hB => ?_) | (with_reducible refine a_impl_TrcOf (by omega) ?_)) <;> (simp only [go_sem]; try simp (disch := omega) only [Iw]) | ((with_reducible refine Y0 ?_); simp only [AQ.then, AQ.blk]) | refine ⟨by omega, ?_⟩ | (with_reducible refine hKB _ _ _ ?_) | fail)
    exact hKL _ _ _ (k + 1, cap) (by omega) (by (refine cv_hp [39] (by omega) (by repeat' (first | (with_reducible first | exact C1 | refine C2 ?_ ?_) | ((with_reducible refine C0 ?_); exact CQ (by omega) rfl rfl (by omega) rfl) | ((with_reducible refine D0 ?_); first | exact CA rfl | refine CJ ?_) | fail)) ⟨⟨by simp, by simp [sgL], _, rfl, cvO_E (immR_map eEv_ok _) hy2 rfl⟩, trivial⟩ (by simp [sgL]))) ⟨by dsimp only; omega, by dsimp only; omega⟩ (by dsimp only; omega)
  have hk3 : k = 3 := by omega
  subst hk3
  repeat' (first | (with_reducible first | (refine hK _ _ _ ?_; clear hK K) | (refine hB ?_; clear hA hB A B) | refine Z1 ?_ | refine Z5 (by omega) ?_) | (with_reducible first | refine Y2 fun K hK => ?_ | refine Y3 fun A B hA hB => ?_) <;> (simp only [go_sem]) | ((with_reducible refine Y9 ?_); try simp only [AQ.then, AQ.blk, reduceIte, Nat.reduceEqDiff]) | fail)
  refine hQX _ _ _ ?_
  refine AWPL.convL 0 (en [(10, dS ((lineM es 3).map eEv)), (5, .one (.c (.iptr (eCfg c2)))), (4, dS (es.map eEv))]) .nil (cv_nilT (by omega) (cvE_cons (by repeat' (first | (with_reducible first | exact C1 | refine C2 ?_ ?_) | ((with_reducible refine D0 ?_); exact CA rfl) | fail)) (cvD_frzM eEv_ok rfl rfl (by omega) trivial))) ?_
  generalize runM c2 st0 es = s at *
  generalize runM c2 st0 (lineM es 3) = s2 at *
  generalize lineM es 3 = line at *
  have hls := hs.lens hb2
  have hls2 := hs2.lens hb2
  have hwl := hs.atm.wl
  have hhl := hs.atm.hl
  have hd := fun j (hj : j ∈ s.told) => show j.rsp.data.length < 2 ^ 20 by have := (hs.rspR j (by simp [hj])).1.2.2.1; omega
  have hd2 := fun j (hj : j ∈ s2.told) => show j.rsp.data.length < 2 ^ 20 by have := (hs2.rspR j (by simp [hj])).1.2.2.1; omega
  have hca : ∀ {H : Heap} {nx : Nat} {K : D → Heap → Nat → Prop}, K (dB true) H nx → ACall Tryz.prog n_laws_crAtm [.one (.agg [.isl (s.words.map eInt), .isl (s.holds.map eInt)]), .one (.agg [.isl (s2.words.map eInt), .isl (s2.holds.map eInt)])] H nx K := fun h => by
    rw [hkw, hkh]
    exact a_laws_crAtm (by omega) (by omega) (by omega) (by omega) (by simpa using h)
  have hcj : ∀ {H : Heap} {nx : Nat} {K : D → Heap → Nat → Prop} {k : Nat}, k < 3 → K (dB true) H nx → ACall Tryz.prog n_laws_crJobs [dS ((mineJ s.told (k : Int)).map eJob), dS ((mineJ s2.told (k : Int)).map eJob)] H nx K := fun {H nx K k} hk h => by
    have hm := mineJ_len (l := s.told) (who := (k : Int))
    rw [htold k hk]
    exact a_laws_crJobs (by omega) (by omega) (fun j hj => Nat.lt_trans (hd j (mineJ_sub j hj)) (by decide)) (fun j hj => Nat.lt_trans (hd j (mineJ_sub j hj)) (by decide)) (by simpa using h)
  repeat' (first | (with_reducible first | (refine hK _ _ _ ?_; clear hK K) | (refine hB ?_; clear hA hB A B) | refine Z1 ?_ | refine Z2 ?_ | refine Z3 fun KB hKB => ?_) | (first | (with_reducible first | refine Y2 fun K hK => ?_ | refine Y3 fun A B hA hB => ?_) | (refine htn ?_) | (refine htr1 ?_) | (refine htr2 ?_) | (refine hca ?_)) <;> (simp only [go_sem]) | fail)
  (have hKX := hKB; clear hKB)
  refine AWPL.loopP 0 (β := Nat) (fun b k => en [(16, dI k), (14, .one (.c (.iptr (eSt s2)))), (12, .one (.c (.iptr (eSt s))))]) (fun b k => .nil) (fun k => k ≤ 3) (fun k => 3 - k) 0 (cv_nilT (Nat.le_refl _) (by repeat' (first | (with_reducible first | exact C1 | refine C2 ?_ ?_) | ((with_reducible refine D0 ?_); first | exact CA rfl | exact CI rfl (by simp) rfl rfl rfl) | fail))) (by omega) ?_
  intro k hk KM hKM
  by_cases hlt : k < 3
  · repeat' (first | (with_reducible first | (refine hK _ _ _ ?_; clear hK K) | (refine hA ?_; clear hA hB A B) | (refine hB ?_; clear hA hB A B) | refine Z1 ?_ | refine Z2 ?_ | refine Z3 fun KB hKB => ?_ | refine Z4 (by omega) ?_) | (first | (with_reducible first | refine Y2 fun K hK => ?_ | refine Y3 fun A B hA hB => ?_) | (with_reducible refine a_impl_ToldOf (l := s.told) (by omega) hd ?_) | (with_reducible refine a_impl_ToldOf (l := s2.told) (by omega) hd2 ?_) | (refine hcj hlt ?_)) <;> (simp only [go_sem]; try simp (disch := omega) only [Iw]) | ((with_reducible refine Y0 ?_); simp only [AQ.then, AQ.blk]) | (with_reducible refine hKB _ _ _ ?_) | fail)
    exact hKM _ _ _ (k + 1) (by omega) (cv_nilT (by omega) (by repeat' (first | (with_reducible first | exact C1 | refine C2 ?_ ?_) | ((with_reducible refine D0 ?_); exact CA rfl) | fail))) (by omega) (by omega)
  · repeat' (first | (with_reducible first | (refine hK _ _ _ ?_; clear hK K) | (refine hB ?_; clear hA hB A B) | refine Z1 ?_ | refine Z5 (by omega) ?_ | refine hKX _ _ _ ?_) | (first | (with_reducible first | refine Y2 fun K hK => ?_ | refine Y3 fun A B hA hB => ?_) | (with_reducible refine a_laws_crOk ?_)) <;> (simp only [go_sem]) | ((with_reducible first | refine Y8 ?_ | refine Y9 ?_); try simp only [AQ.then, AQ.blk, reduceIte, Nat.reduceEqDiff]) | fail)
    exact exitP hQ (dB true) rfl rfl rfl
end
end Go.Proofs.YtiimjokpcbapeaaGreat
