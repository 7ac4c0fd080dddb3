/- The walk of FnTrcLine. -/
import Derived.Test.YtiimjokpcbapeaaGreatAcLFnTrcLine
import Derived.Test.YtiimjokpcbapeaaGreatLk
import Derived.Test.YtiimjokpcbapeaaGreatUa
import Derived.Test.YtiimjokpcbapeaaGreatUb
set_option linter.unusedVariables false
set_option linter.unusedSimpArgs false
set_option linter.unusedSectionVars false
namespace Go.Proofs.YtiimjokpcbapeaaGreat
open Go Go.AM
set_option maxRecDepth 100000
set_option maxHeartbeats 8000000
section
variable {H : Heap} {nx : Nat} {K : D → Heap → Nat → Prop}
theorem c_laws_FnTrcLine (l : List Int) (hby : ∀ x ∈ l, 0 ≤ x ∧ x < 256) : ACall Tryz.prog n_laws_FnTrcLine [dS (l.map eU8)] .nil 0 fun rr _ _ => rr.plain = true ∧ rr = dB true := by
  refine en_laws_FnTrcLine rfl fun Q hQ => ?_
  unfold ac_laws_FnTrcLine
  by_cases hbig : l.length ≤ 1048576
  case neg =>
    repeat' (first | (with_reducible first | (refine hK _ _ _ ?_; clear hK K) | (refine hA ?_; clear hA hB A B) | refine Z1 ?_ | refine Z4 (by omega) ?_) | (with_reducible first | refine Y2 fun K hK => ?_ | refine Y3 fun A B hA hB => ?_) <;> (simp only [go_sem]) | ((with_reducible refine Y8 ?_); try simp only [AQ.then, AQ.blk, reduceIte, Nat.reduceEqDiff]) | fail)
    exact exitP hQ (dB true) rfl rfl rfl
  have hl : CodeOk l := ⟨by omega, hby⟩
  generalize hs0 : st0 = s0
  have htn : ∀ {H : Heap} {nx : Nat} {K : D → Heap → Nat → Prop}, K (dA (eSt s0)) H nx → ACall Tryz.prog n_impl_TlmNew [] H nx K := fun h => by subst hs0; exact a_impl_TlmNew h
  have htr : ∀ {H : Heap} {nx : Nat} {K : D → Heap → Nat → Prop} {c : Cfg} {es : List Ev}, BusOkP c → CfgFit c → es.length ≤ 200 → Plays c st0 es → K (.tup [.agg (eSt (runM c st0 es)), .c (cI es.length)]) H nx → ACall Tryz.prog n_impl_TlmRun [dA (eCfg c), dA (eSt s0), dS (es.map eEv)] H nx K := fun h1 h2 h3 h4 h5 => by subst hs0; exact a_impl_TlmRun0 h1 h2 h3 h4 h5
  repeat' (first | (with_reducible first | (refine hK _ _ _ ?_; clear hK K) | (refine hB ?_; clear hA hB A B) | refine Z1 ?_ | refine Z2 ?_ | refine Z3 fun KB hKB => ?_ | refine Z5 (by omega) ?_) | (first | (with_reducible first | refine Y2 fun K hK => ?_ | refine Y3 fun A B hA hB => ?_) | (refine a_spec_DrawTlmPlay hl (fun c es hb hf hp hlen => ?_)) | (refine htn ?_) | (refine htr (by assumption) (by assumption) (by omega) (by assumption) ?_)) <;> (simp only [go_sem]) | fail)
  (have hQX := hKB; clear hKB)
  have hs := plays_end hb (st0_ok c) hp
  have hp2 := line_plays hb hp
  have hs2 := plays_end hb (st0_ok c) hp2
  have hln := line_len hp
  have hasked := fun w hw => line_asked (w := w) hb hp hw
  have htold := fun w hw => line_told (w := w) hb hp hw
  have htr2 := fun {H : Heap} {nx : Nat} {K : D → Heap → Nat → Prop} => htr (H := H) (nx := nx) (K := K) hb hf (by rw [hln]; omega) hp2
  refine AWPL.loopP 1 (β := Nat × Nat) (fun b u => en [(8, dI u.1), (7, dO 3 b (lineM es u.1).length u.2), (6, dI es.length), (5, .one (.c (.iptr (eSt (runM c st0 es))))), (4, dS (es.map eEv)), (3, .one (.c (.iptr (eCfg c))))])
    (fun b u => Go.AM.hp [(b, ⟨3, u.2, (lineM es u.1).map eEv⟩)]) (fun u => u.1 ≤ 3 ∧ (lineM es u.1).length ≤ u.2) (fun u => 3 - u.1) (0, 0) (by (refine cv_hp [22] (by omega) (by repeat' (first | (with_reducible first | exact C1 | refine C2 ?_ ?_) | ((with_reducible refine C0 ?_); exact CC) | ((with_reducible refine D0 ?_); first | exact CA rfl | exact CI rfl (by simp) rfl rfl rfl | refine CJ ?_) | fail)) ⟨⟨by simp, by simp [sgL], _, rfl, cvO_E (immR_map eEv_ok _) rfl rfl⟩, trivial⟩ (by simp [sgL]))) ⟨by omega, by simp [lineM]⟩ ?_
  rintro ⟨k, cap⟩ ⟨hk, hc⟩ KL hKL
  dsimp only at hk hc
  by_cases hlt : k < 3
  · have hsu := line_succ (es := es) (k := k)
    have hl1 := Nat.le_trans (line_le (es := es) k) (Nat.mul_le_mul (show k ≤ 3 by omega) (Nat.le_refl es.length))
    have hl2 := mine_len (l := es) (who := (k : Int))
    have hy2 := congrArg (List.map eEv) hsu
    rw [List.map_append] at hy2
    have hyl := congrArg List.length hsu
    rw [List.length_append] at hyl
    repeat' (first | (with_reducible first | (refine hK _ _ _ ?_; clear hK K) | (refine hA ?_; clear hA hB A B) | refine Z1 ?_ | refine Z2 ?_ | refine Z3 fun KB hKB => ?_ | refine Z4 (by omega) ?_ | refine fun (cap : Nat) (hcap : _ ≤ cap) => ?_ | refine fun (hcp : _ ≤ cap) => ?_) | (first | (with_reducible first | refine Y2 fun K hK => ?_ | refine Y3 fun A B hA hB => ?_) | (with_reducible refine a_impl_TrcOf (by omega) ?_)) <;> (simp only [go_sem]; try simp (disch := omega) only [Iw]) | ((with_reducible refine Y0 ?_); simp only [AQ.then, AQ.blk]) | refine ⟨by omega, ?_⟩ | (with_reducible refine hKB _ _ _ ?_) | fail)
    exact hKL _ _ _ (k + 1, cap) (by omega) (by (refine cv_hp [32] (by omega) (by repeat' (first | (with_reducible first | exact C1 | refine C2 ?_ ?_) | ((with_reducible refine C0 ?_); exact CQ (by omega) rfl rfl (by omega) rfl) | ((with_reducible refine D0 ?_); first | exact CA rfl | refine CJ ?_) | fail)) ⟨⟨by simp, by simp [sgL], _, rfl, cvO_E (immR_map eEv_ok _) hy2 rfl⟩, trivial⟩ (by simp [sgL]))) ⟨by dsimp only; omega, by dsimp only; omega⟩ (by dsimp only; omega)
  have hk3 : k = 3 := by omega
  subst hk3
  repeat' (first | (with_reducible first | (refine hK _ _ _ ?_; clear hK K) | (refine hB ?_; clear hA hB A B) | refine Z1 ?_ | refine Z5 (by omega) ?_) | (with_reducible first | refine Y2 fun K hK => ?_ | refine Y3 fun A B hA hB => ?_) <;> (simp only [go_sem]) | ((with_reducible refine Y9 ?_); try simp only [AQ.then, AQ.blk, reduceIte, Nat.reduceEqDiff]) | fail)
  refine hQX _ _ _ ?_
  refine AWPL.convL 0 (en [(7, dS ((lineM es 3).map eEv)), (6, dI es.length), (5, .one (.c (.iptr (eSt (runM c st0 es))))), (4, dS (es.map eEv)), (3, .one (.c (.iptr (eCfg c))))]) .nil (cv_nilT (by omega) (cvE_cons (by repeat' (first | (with_reducible first | exact C1 | refine C2 ?_ ?_) | ((with_reducible refine D0 ?_); exact CA rfl) | fail)) (cvD_frzM eEv_ok rfl rfl (by omega) trivial))) ?_
  generalize runM c st0 es = s at *
  generalize runM c st0 (lineM es 3) = s2 at *
  generalize lineM es 3 = line at *
  repeat' (first | (with_reducible first | (refine hK _ _ _ ?_; clear hK K) | (refine hB ?_; clear hA hB A B) | refine Z1 ?_ | refine Z2 ?_ | refine Z3 fun KB hKB => ?_ | refine Z5 (by omega) ?_) | (first | (with_reducible first | refine Y2 fun K hK => ?_ | refine Y3 fun A B hA hB => ?_) | (refine htn ?_) | (refine htr2 ?_)) <;> (simp only [go_sem]) | fail)
  (have hKY := hKB; clear hKB)
  have hls := hs.lens hb
  have hls2 := hs2.lens hb
  have hal := hs.askedL
  have hal2 := hs2.askedL
  have hd := fun j (hj : j ∈ s.told) => show j.rsp.data.length < 2 ^ 20 by have := (hs.rspR j (by simp [hj])).1.2.2.1; omega
  have hd2 := fun j (hj : j ∈ s2.told) => show j.rsp.data.length < 2 ^ 20 by have := (hs2.rspR j (by simp [hj])).1.2.2.1; omega
  refine AWPL.loopP 0 (β := Nat) (fun b k => en [(11, dI k), (9, .one (.c (.iptr (eSt s2)))), (5, .one (.c (.iptr (eSt s))))]) (fun b k => .nil) (fun k => k ≤ 3) (fun k => 3 - k) 0 (cv_nilT (Nat.le_refl _) (by repeat' (first | (with_reducible first | exact C1 | refine C2 ?_ ?_) | ((with_reducible refine D0 ?_); first | exact CA rfl | exact CI rfl (by simp) rfl rfl rfl) | fail))) (by omega) ?_
  intro k hk KM hKM
  by_cases hlt : k < 3
  · have hak := hasked k hlt
    obtain ⟨hta, htb⟩ := keys_at (htold k hlt)
    have hmj := mineJ_len (l := s.told) (who := (k : Int))
    have hmj2 := mineJ_len (l := s2.told) (who := (k : Int))
    repeat' (first | (with_reducible first | (refine hK _ _ _ ?_; clear hK K) | (refine hA ?_; clear hA hB A B) | (refine hB ?_; clear hA hB A B) | refine Z1 ?_ | refine Z2 ?_ | refine Z3 fun KB hKB => ?_ | refine Z4 (by omega) ?_ | refine Z5 (by omega) ?_) | (first | (with_reducible first | refine Y2 fun K hK => ?_ | refine Y3 fun A B hA hB => ?_ | refine Y5 (by omega) ?_) | (with_reducible refine a_impl_ToldOf (by omega) hd ?_) | (with_reducible refine a_impl_ToldOf (by omega) hd2 ?_)) <;> (simp only [go_sem]) | refine ⟨by omega, ?_⟩ | fail)
    (have hKZ := hKB; clear hKB)
    refine AWPL.loopP 0 (β := Nat) (fun b j => en [(14, dI j), (13, dS ((mineJ s2.told (k : Int)).map eJob)), (12, dS ((mineJ s.told (k : Int)).map eJob)), (11, dI k), (9, .one (.c (.iptr (eSt s2)))), (5, .one (.c (.iptr (eSt s))))]) (fun b j => .nil) (fun j => j ≤ (mineJ s.told (k : Int)).length) (fun j => (mineJ s.told (k : Int)).length - j) 0 (cv_nilT (Nat.le_refl _) (by repeat' (first | (with_reducible first | exact C1 | refine C2 ?_ ?_) | ((with_reducible refine D0 ?_); exact CA rfl) | fail))) (by omega) ?_
    intro j hj KJ hKJ
    by_cases hjl : j < (mineJ s.told (k : Int)).length
    · have htj := htb j
      repeat' (first | (with_reducible first | (refine hK _ _ _ ?_; clear hK K) | (refine hA ?_; clear hA hB A B) | (refine hB ?_; clear hA hB A B) | refine Z1 ?_ | refine Z2 ?_ | refine Z3 fun KB hKB => ?_ | refine Z4 (by omega) ?_ | refine Z5 (by omega) ?_) | (with_reducible first | refine Y2 fun K hK => ?_ | refine Y3 fun A B hA hB => ?_) <;> (simp only [go_sem]; try simp (disch := omega) only [Iw]) | ((with_reducible refine Y0 ?_); simp only [AQ.then, AQ.blk]) | refine ⟨by omega, ?_⟩ | (with_reducible refine hKB _ _ _ ?_) | fail)
      exact hKJ _ _ _ (j + 1) (by omega) (cv_nilT (by omega) (by repeat' (first | (with_reducible first | exact C1 | refine C2 ?_ ?_) | ((with_reducible refine D0 ?_); exact CA rfl) | fail))) (by omega) (by omega)
    · repeat' (first | (with_reducible first | (refine hK _ _ _ ?_; clear hK K) | (refine hB ?_; clear hA hB A B) | refine Z1 ?_ | refine Z5 (by omega) ?_ | refine hKZ _ _ _ ?_) | (with_reducible first | refine Y2 fun K hK => ?_ | refine Y3 fun A B hA hB => ?_) <;> (simp only [go_sem]; try simp (disch := omega) only [Iw]) | ((with_reducible refine Y9 ?_); try simp only [AQ.then, AQ.blk, reduceIte, Nat.reduceEqDiff]) | ((with_reducible refine Y0 ?_); simp only [AQ.then, AQ.blk]) | (with_reducible refine hKB _ _ _ ?_) | fail)
      exact hKM _ _ _ (k + 1) (by omega) (cv_nilT (by omega) (by repeat' (first | (with_reducible first | exact C1 | refine C2 ?_ ?_) | ((with_reducible refine D0 ?_); exact CA rfl) | fail))) (by omega) (by omega)
  · repeat' (first | (with_reducible first | (refine hK _ _ _ ?_; clear hK K) | (refine hB ?_; clear hA hB A B) | refine Z1 ?_ | refine Z5 (by omega) ?_ | refine hKY _ _ _ ?_) | (first | (with_reducible first | refine Y2 fun K hK => ?_ | refine Y3 fun A B hA hB => ?_) | (with_reducible refine a_laws_crOk ?_)) <;> (simp only [go_sem]) | ((with_reducible first | refine Y8 ?_ | refine Y9 ?_); try simp only [AQ.then, AQ.blk, reduceIte, Nat.reduceEqDiff]) | fail)
    exact exitP hQ (dB true) rfl rfl rfl
end
end Go.Proofs.YtiimjokpcbapeaaGreat
