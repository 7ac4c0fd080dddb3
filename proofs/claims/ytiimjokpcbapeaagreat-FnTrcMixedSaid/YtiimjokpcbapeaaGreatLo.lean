/- The walk of FnTrcMixed. -/
import Derived.Test.YtiimjokpcbapeaaGreatAcLFnTrcMixed
import Derived.Test.YtiimjokpcbapeaaGreatLk
import Derived.Test.YtiimjokpcbapeaaGreatUg
import Derived.Test.YtiimjokpcbapeaaGreatUh
import Derived.Test.YtiimjokpcbapeaaGreatUi
import Derived.Test.YtiimjokpcbapeaaGreatMw
set_option linter.unusedVariables false
set_option linter.unusedSimpArgs false
set_option linter.unusedSectionVars false
namespace Go.Proofs.YtiimjokpcbapeaaGreat
open Go Go.AM
set_option maxRecDepth 100000
set_option maxHeartbeats 8000000
section
variable {H : Heap} {nx : Nat} {K : D → Heap → Nat → Prop}
theorem plays_nodup {c : Cfg} {es : List Ev} (hb : BusOkP c) (h : Plays c st0 es) : es.Nodup := by
  rw [List.nodup_iff_pairwise_ne, List.pairwise_iff_getElem]
  intro i j hi hj hij he
  have := (once_plays hb h hj).1
  rw [show es.getD j default = es[j] by simp [List.getD, hj], ← he] at this
  exact this (List.mem_take_iff_getElem.2 ⟨i, by omega, rfl⟩)
theorem c_laws_FnTrcMixed (l : List Int) (hby : ∀ x ∈ l, 0 ≤ x ∧ x < 256) : ACall Tryz.prog n_laws_FnTrcMixed [dS (l.map eU8)] .nil 0 fun rr _ _ => rr.plain = true ∧ rr = dB true := by
  refine en_laws_FnTrcMixed rfl fun Q hQ => ?_
  unfold ac_laws_FnTrcMixed
  by_cases hbig : l.length ≤ 1048576
  case neg =>
    repeat' (first | (with_reducible first | (refine hK _ _ _ ?_; clear hK K) | (refine hA ?_; clear hA hB A B) | refine Z1 ?_ | refine Z4 (by omega) ?_) | (with_reducible first | refine Y2 fun K hK => ?_ | refine Y3 fun A B hA hB => ?_) <;> (simp only [go_sem]) | ((with_reducible refine Y8 ?_); try simp only [AQ.then, AQ.blk, reduceIte, Nat.reduceEqDiff]) | fail)
    exact exitP hQ (dB true) rfl rfl rfl
  have hl : CodeOk l := ⟨by omega, hby⟩
  generalize hs0 : st0 = s0
  have htn : ∀ {H : Heap} {nx : Nat} {K : D → Heap → Nat → Prop}, K (dA (eSt s0)) H nx → ACall Tryz.prog n_impl_TlmNew [] H nx K := fun h => by subst hs0; exact a_impl_TlmNew h
  have htr : ∀ {H : Heap} {nx : Nat} {K : D → Heap → Nat → Prop} {c : Cfg} {es : List Ev} {s : TSt}, BusOkP c → CfgFit c → es.length ≤ 200 → Plays c st0 es ∧ runM c st0 es = s → K (.tup [.agg (eSt s), .c (cI es.length)]) H nx → ACall Tryz.prog n_impl_TlmRun [dA (eCfg c), dA (eSt s0), dS (es.map eEv)] H nx K := fun h1 h2 h3 h4 h5 => by subst hs0; exact a_impl_TlmRun0 h1 h2 h3 h4.1 (h4.2 ▸ h5)
  have hmix : ∀ {H : Heap} {nx : Nat} {K : D → Heap → Nat → Prop}, (∀ c es out s, BusOkP c → CfgFit c → (es.length < 80 ∧ out.length < 80) → (Plays c st0 es ∧ runM c st0 es = s) → (Plays c st0 out ∧ runM c st0 out = s) → (es.Nodup ∧ out.Perm es ∧ (out.Pairwise fun x y => ¬ (Bef es y x ∧ ¬ apartE c y x)) ∧ ∀ e ∈ es, evOkP c e) → StOk c s → K (.tup [.agg (eCfg c), .c (.isl (es.map eEv)), .c (.isl (out.map eEv))]) H nx) → ACall Tryz.prog n_spec_DrawMixed [dS (l.map eU8)] H nx K := fun h =>
    a_spec_DrawMixed hl fun c es out hb hf hp hl hsw => by
      obtain ⟨g1, g2⟩ := swaps_plays hb hsw hp
      have hn := plays_nodup hb hp
      exact h c es out _ hb hf ⟨hl, (swaps_perm hsw).length_eq ▸ hl⟩ ⟨hp, rfl⟩ ⟨g1, g2⟩ ⟨hn, swaps_perm hsw, swaps_order hn hsw, plays_asks hp⟩ (plays_end hb (st0_ok c) hp)
  have hcr : ∀ {H : Heap} {nx : Nat} {K : D → Heap → Nat → Prop} {c : Cfg} {s : TSt}, BusOkP c → StOk c s → K (dB true) H nx → ACall Tryz.prog n_laws_crTlm [dA (eSt s), dA (eSt s)] H nx K := fun {H nx K c s} hb hs h => by
    have hls := hs.lens hb
    have hwl := hs.atm.wl
    have hhl := hs.atm.hl
    have hal := hs.askedL
    refine a_laws_crTlm (by omega) (by omega) (by omega) (by omega) (by omega) (by omega) (fun j hj => ?_) h
    simp only [List.mem_append] at hj
    rcases hj with (hj | hj) | hj
    · rw [hs.waitR j hj]; decide
    · have := (hs.rspR j (List.mem_append_left _ hj)).1.2.2.1; omega
    · have := (hs.rspR j (List.mem_append_right _ hj)).1.2.2.1; omega
  repeat' (first | (with_reducible first | (refine hK _ _ _ ?_; clear hK K) | (refine hB ?_; clear hA hB A B) | refine Z1 ?_ | refine Z2 ?_ | refine Z5 (by omega) ?_) | (first | (with_reducible first | refine Y2 fun K hK => ?_ | refine Y3 fun A B hA hB => ?_) | (refine hmix (fun c es out s hb hf hln hpe hpo hor hsk => ?_)) | (refine htn ?_) | (refine htr hb hf (by omega) hpe ?_) | (refine htr hb hf (by omega) hpo ?_) | (refine hcr hb hsk ?_) | (refine a_impl_TrcSame hb hf (by omega) hor.2.2.2 hor.1 hor.2.1 hor.2.2.1 ?_) | (with_reducible refine a_laws_crOk ?_)) <;> (simp only [go_sem]) | ((with_reducible refine Y8 ?_); try simp only [AQ.then, AQ.blk, reduceIte, Nat.reduceEqDiff]) | fail)
  all_goals exact exitP hQ (dB true) rfl rfl rfl
end
end Go.Proofs.YtiimjokpcbapeaaGreat
