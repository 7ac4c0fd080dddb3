/- The walk of FnTlmAtom. -/
import Derived.Test.YtiimjokpcbapeaaGreatAcLFnTlmAtom
import Derived.Test.YtiimjokpcbapeaaGreatLk
import Derived.Test.YtiimjokpcbapeaaGreatUd
import Derived.Test.YtiimjokpcbapeaaGreatUe
set_option linter.unusedVariables false
set_option linter.unusedSimpArgs false
set_option linter.unusedSectionVars false
namespace Go.Proofs.YtiimjokpcbapeaaGreat
open Go Go.AM
set_option maxRecDepth 100000
set_option maxHeartbeats 8000000
section
variable {H : Heap} {nx : Nat} {K : D → Heap → Nat → Prop}
theorem c_laws_FnTlmAtom (l : List Int) (hby : ∀ x ∈ l, 0 ≤ x ∧ x < 256) : ACall Tryz.prog n_laws_FnTlmAtom [dS (l.map eU8)] .nil 0 fun rr _ _ => rr.plain = true ∧ rr = dB true := by
  refine en_laws_FnTlmAtom rfl fun Q hQ => ?_
  unfold ac_laws_FnTlmAtom
  by_cases hbig : l.length ≤ 1048576
  case neg =>
    repeat' (first | (with_reducible first | (refine hK _ _ _ ?_; clear hK K) | (refine hA ?_; clear hA hB A B) | refine Z1 ?_ | refine Z4 (by omega) ?_) | (with_reducible first | refine Y2 fun K hK => ?_ | refine Y3 fun A B hA hB => ?_) <;> (simp only [go_sem]) | ((with_reducible refine Y8 ?_); try simp only [AQ.then, AQ.blk, reduceIte, Nat.reduceEqDiff]) | fail)
    exact exitP hQ (dB true) rfl rfl rfl
  have hl : CodeOk l := ⟨by omega, hby⟩
  generalize hs0 : st0 = s0
  have htn : ∀ {H : Heap} {nx : Nat} {K : D → Heap → Nat → Prop}, K (dA (eSt s0)) H nx → ACall Tryz.prog n_impl_TlmNew [] H nx K := fun h => by subst hs0; exact a_impl_TlmNew h
  have htr : ∀ {H : Heap} {nx : Nat} {K : D → Heap → Nat → Prop} {c : Cfg} {es : List Ev}, BusOkP c → CfgFit c → es.length ≤ 200 → Plays c st0 es → K (.tup [.agg (eSt (runM c st0 es)), .c (cI es.length)]) H nx → ACall Tryz.prog n_impl_TlmRun [dA (eCfg c), dA (eSt s0), dS (es.map eEv)] H nx K := fun h1 h2 h3 h4 h5 => by subst hs0; exact a_impl_TlmRun0 h1 h2 h3 h4 h5
  have hdr : ∀ {H : Heap} {nx : Nat} {K : D → Heap → Nat → Prop}, (∀ c es, BusOkP c → CfgFit c → Plays c st0 es → es.length ≤ 108 → K (.tup [.agg (eCfg c), .c (.isl (es.map eEv))]) H nx) → ACall Tryz.prog n_spec_DrawTlmPlay [dS (l.map eU8)] H nx K := fun h => a_spec_DrawTlmPlay hl fun c es h1 h2 h3 _ => h c es h1 h2 h3 (len_plays h1 h3)
  have hca : ∀ {H : Heap} {nx : Nat} {K : D → Heap → Nat → Prop} {c : Cfg} {es : List Ev}, BusOkP c → Plays c st0 es → K (dB true) H nx → ACall Tryz.prog n_laws_crAtm [.one (.agg [.isl ((runM c st0 es).words.map eInt), .isl ((runM c st0 es).holds.map eInt)]), .one (.agg [.isl ((runM c st0 es).words.map eInt), .isl ((runM c st0 es).holds.map eInt)])] H nx K := fun hb hp h => by
    have hs := plays_end hb (st0_ok _) hp
    have hwl := hs.atm.wl
    have hhl := hs.atm.hl
    exact a_laws_crAtm (by omega) (by omega) (by omega) (by omega) (by simpa using h)
  have hout : ∀ {c : Cfg} {es : List Ev}, BusOkP c → Plays c st0 es → es.length ≤ 108 → (outM c es es.length).length = (runM c st0 es).done.length + (runM c st0 es).told.length ∧ (∀ j ∈ outM c es es.length, j.rsp.data.length < 2 ^ 40) ∧ (∀ j ∈ (runM c st0 es).done, j ∈ outM c es es.length) ∧ (∀ j ∈ (runM c st0 es).told, j ∈ outM c es es.length) ∧ (runM c st0 es).done.length ≤ 36 ∧ (runM c st0 es).told.length ≤ 36 := fun {c es} hb hp hle => by
    have hs := plays_end hb (st0_ok c) hp
    have hls := hs.lens hb
    have hpm := out_perm hp es.length (Nat.le_refl _)
    rw [List.take_length] at hpm
    have hpl := hpm.length_eq
    rw [List.length_append] at hpl
    exact ⟨hpl, fun j hj => by have := (hs.rspR j ((hpm.mem_iff).1 hj)).1.2.2.1; omega, fun j hj => (hpm.mem_iff).2 (List.mem_append_left _ hj), fun j hj => (hpm.mem_iff).2 (List.mem_append_right _ hj), by omega, by omega⟩
  repeat' (first | (with_reducible first | (refine hK _ _ _ ?_; clear hK K) | (refine hB ?_; clear hA hB A B) | refine Z1 ?_ | refine Z2 ?_ | refine Z5 (by omega) ?_) | (first | (with_reducible first | refine Y2 fun K hK => ?_ | refine Y3 fun A B hA hB => ?_ | refine Y5 (by omega) ?_) | (refine hdr (fun c es hb hf hp hlen => ?_)) | (refine htn ?_) | (refine htr (by assumption) (by assumption) (by omega) (by assumption) ?_) | (refine a_impl_AtmOrder (by assumption) (by assumption) (by assumption) (by assumption) ?_) | (refine hca (by assumption) (by assumption) ?_)) <;> (simp only [go_sem]) | fail)
  obtain ⟨h1, h2, h3, h4, h5, h6⟩ := hout hb hp hlen
  generalize outM c es es.length = out at *
  generalize runM c st0 es = s at *
  repeat' (first | (with_reducible (refine hK _ _ _ ?_; clear hK K)) | (first | (with_reducible refine a_laws_crFrom (by omega) (by omega) h2 h3 ?_) | (with_reducible refine a_laws_crFrom (by omega) (by omega) h2 h4 ?_)) <;> (simp only [go_sem]; try simp (disch := omega) only [Iw]) | ((with_reducible refine Y8 ?_); try simp only [AQ.then, AQ.blk, reduceIte, Nat.reduceEqDiff]) | fail)
  exact exitP hQ (dB (decide ((out.length : Int) = s.done.length + s.told.length))) rfl rfl (congrArg dB (decide_eq_true (by omega)))
end
end Go.Proofs.YtiimjokpcbapeaaGreat
