/- What may happen happens once, and in order: plain laws. -/
import Derived.Test.YtiimjokpcbapeaaGreatMA
set_option linter.unusedVariables false
set_option linter.unusedSimpArgs false
set_option linter.unusedSectionVars false
namespace Go.AM
theorem whyM_tell {c : Cfg} {s : TSt} {e : Ev} (h : whyM c s e = 0) (hk : e.kind = 3) : ¬ 0 ≤ idxM (aheadJ c e) s.wait ∧ ¬ 0 ≤ idxM (aheadJ c e) s.done := by
  unfold whyM at h
  split at h
  · exact absurd h (by decide)
  simp only [hk, Int.reduceEq, if_false] at h
  split at h
  · exact absurd h (by decide)
  split at h
  · exact absurd h (by decide)
  · rename_i h2; exact not_or.1 h2
theorem step_ask {c : Cfg} {s : TSt} {e : Ev} (hk : e.kind = 1) : stepM c s e = { s with asked := s.asked.set e.who.toNat (e.n + 1), wait := putJ s.wait ⟨e.who, e.n, rsp0⟩ } := by simp only [stepM, hk, if_true]
theorem step_do {c : Cfg} {s : TSt} {e : Ev} (hk : e.kind = 2) : stepM c s e = { s with words := (doM c.map s.words s.holds e.who (reqAt c e.who e.n)).1.1, holds := (doM c.map s.words s.holds e.who (reqAt c e.who e.n)).1.2, wait := outJ s.wait (idxM (isJob e.who e.n) s.wait).toNat, done := putJ s.done ⟨e.who, e.n, (doM c.map s.words s.holds e.who (reqAt c e.who e.n)).2⟩ } := by simp [stepM, hk]
theorem step_tell {c : Cfg} {s : TSt} {e : Ev} (hk : e.kind = 3) : stepM c s e = { s with told := s.told ++ [s.done.getD (idxM (isJob e.who e.n) s.done).toNat default], done := outJ s.done (idxM (isJob e.who e.n) s.done).toNat } := by simp [stepM, hk]
theorem putJ_mem {l : List Job} {j x : Job} : x ∈ putJ l j ↔ x = j ∨ x ∈ l := by rw [(putJ_perm l j).mem_iff]; simp
theorem outJ_mem {l : List Job} {k : Nat} {x : Job} (h : x ∈ outJ l k) : x ∈ l := outJ_sub.subset h
theorem out_mem {l : List Job} {k : Nat} {x : Job} (hk : k < l.length) (h : x ∈ l) : x = l.getD k default ∨ x ∈ outJ l k := by
  have := (outJ_perm hk).mem_iff.1 h; simpa using this
theorem outJ_key {l : List Job} {k : Nat} {x : Job} (hk : k < l.length) (hn : (l.map key).Nodup) (h : x ∈ outJ l k) : key x ≠ key (l.getD k default) := by
  have h1 := ((outJ_perm hk).map key).nodup_iff.1 hn
  simp only [List.map_cons, List.nodup_cons] at h1
  exact fun he => h1.1 (List.mem_map.2 ⟨x, h, he⟩)
theorem nodup_parts {s : TSt} (h : (keys s).Nodup) : (s.wait.map key).Nodup ∧ (s.done.map key).Nodup ∧ (∀ x ∈ s.wait, ∀ y ∈ s.done, key x ≠ key y) ∧ (∀ x ∈ s.wait, ∀ y ∈ s.told, key x ≠ key y) ∧ ∀ x ∈ s.done, ∀ y ∈ s.told, key x ≠ key y := by
  simp only [keys, List.map_append, List.nodup_append] at h
  obtain ⟨⟨h1, h2, h3⟩, h4, h5⟩ := h
  refine ⟨h1, h2, fun x hx y hy => h3 _ (List.mem_map_of_mem hx) _ (List.mem_map_of_mem hy), fun x hx y hy => h5 _ (List.mem_append_left _ (List.mem_map_of_mem hx)) _ (List.mem_map_of_mem hy), fun x hx y hy => h5 _ (List.mem_append_right _ (List.mem_map_of_mem hx)) _ (List.mem_map_of_mem hy)⟩
/-- What was told, in order. -/
structure Ord (c : Cfg) (s : TSt) : Prop where
  told : s.told.Pairwise fun a b => a.who = b.who → (reqAt c a.who a.n).id = (reqAt c b.who b.n).id → a.n < b.n
  rest : ∀ a ∈ s.told, ∀ b ∈ s.wait ++ s.done, a.who = b.who → (reqAt c a.who a.n).id = (reqAt c b.who b.n).id → a.n < b.n
theorem key_eq {a b : Job} (h1 : a.who = b.who) (h2 : a.n = b.n) : key a = key b := by simp [key, h1, h2]
theorem ord_step {c : Cfg} {s : TSt} {e : Ev} (hs : StOk c s) (ho : Ord c s) (h : whyM c s e = 0) : Ord c (stepM c s e) := by
  obtain ⟨hask, hcase⟩ := whyM_zero h
  rcases hcase with ⟨hk, hi⟩ | ⟨hk, hi⟩ | ⟨hk, hi⟩
  · rw [step_ask hk]
    refine ⟨ho.told, fun a ha b hb h1 h2 => ?_⟩
    simp only [List.mem_append] at hb
    rcases hb with hb | hb
    · rcases putJ_mem.1 hb with hb | hb
      · subst hb
        have := (hs.jobs (key a) (List.mem_map_of_mem (List.mem_append_right _ ha))).2.2
        simp only [key] at this h1 ⊢
        rw [h1] at this; omega
      · exact ho.rest a ha b (List.mem_append_left _ hb) h1 h2
    · exact ho.rest a ha b (List.mem_append_right _ hb) h1 h2
  · rw [step_do hk]
    obtain ⟨i1, i2⟩ := idxM_at_key hi
    refine ⟨ho.told, fun a ha b hb h1 h2 => ?_⟩
    simp only [List.mem_append] at hb
    rcases hb with hb | hb
    · exact ho.rest a ha b (List.mem_append_left _ (outJ_mem hb)) h1 h2
    · rcases putJ_mem.1 hb with hb | hb
      · have i3 := ho.rest a ha _ (List.mem_append_left _ (getD_mem i1))
        simp only [key, Prod.mk.injEq] at i2
        rw [i2.1, i2.2] at i3
        subst hb; exact i3 h1 h2
      · exact ho.rest a ha b (List.mem_append_right _ hb) h1 h2
  · rw [step_tell hk]
    obtain ⟨i1, i2⟩ := idxM_at_key hi
    obtain ⟨a1, a2⟩ := whyM_tell h hk
    obtain ⟨n1, n2, n3, n4, n5⟩ := nodup_parts hs.nodup
    have hx := getD_mem i1
    have hlt : ∀ b ∈ s.wait ++ outJ s.done (idxM (isJob e.who e.n) s.done).toNat, e.who = b.who → (reqAt c e.who e.n).id = (reqAt c b.who b.n).id → e.n < b.n := by
      intro b hb h1 h2
      have hne : ¬ b.n = e.n := by
        intro hbe
        have hkb : key b = key (s.done.getD (idxM (isJob e.who e.n) s.done).toNat default) := by rw [i2]; simp [key, h1, hbe]
        rcases List.mem_append.1 hb with hb | hb
        · exact n3 _ hb _ hx hkb
        · exact outJ_key i1 n2 hb hkb
      have hna : ¬ b.n < e.n := by
        intro hlt
        have hj : aheadJ c e b = true := by simp only [aheadJ, decide_eq_true_eq]; exact ⟨⟨h1.symm, hlt⟩, h2.symm⟩
        rcases List.mem_append.1 hb with hb | hb
        · exact a1 (idxM_nonneg.2 ⟨b, hb, hj⟩)
        · exact a2 (idxM_nonneg.2 ⟨b, outJ_mem hb, hj⟩)
      omega
    simp only [key, Prod.mk.injEq] at i2
    refine ⟨?_, fun a ha b hb h1 h2 => ?_⟩
    · refine List.pairwise_append.2 ⟨ho.told, by simp, fun a ha b hb h1 h2 => ?_⟩
      simp only [List.mem_singleton] at hb
      subst hb
      exact ho.rest a ha _ (List.mem_append_right _ hx) h1 h2
    · rcases List.mem_append.1 ha with ha | ha
      · refine ho.rest a ha b ?_ h1 h2
        rcases List.mem_append.1 hb with hb | hb
        · exact List.mem_append_left _ hb
        · exact List.mem_append_right _ (outJ_mem hb)
      · simp only [List.mem_singleton] at ha
        rw [ha, i2.1] at h1
        rw [ha, i2.1, i2.2] at h2
        rw [ha, i2.2]
        exact hlt b hb h1 h2
theorem ord_plays {c : Cfg} {es : List Ev} (hb : BusOkP c) (h : Plays c st0 es) : ∀ k, k ≤ es.length → Ord c (runM c st0 (es.take k)) := by
  intro k
  induction k with
  | zero => intro _; exact ⟨by simp [runM, st0], by simp [runM, st0]⟩
  | succ k ih =>
    intro hk
    rw [runM_take (by omega)]
    exact ord_step (plays_ok hb (st0_ok c) h k (by omega)) (ih (by omega)) (h k (by omega))
/-- What happened, and how a bus stands. -/
structure Hap (s : TSt) (l : List Ev) : Prop where
  ask : ∀ w n : Int, (⟨1, w, n⟩ : Ev) ∈ l → n < s.asked.getD w.toNat default
  did : ∀ w n : Int, (⟨2, w, n⟩ : Ev) ∈ l → ∃ j ∈ s.done ++ s.told, key j = (w, n)
  tld : ∀ w n : Int, (⟨3, w, n⟩ : Ev) ∈ l → ∃ j ∈ s.told, key j = (w, n)
  wai : ∀ j ∈ s.wait, (⟨1, j.who, j.n⟩ : Ev) ∈ l
  don : ∀ j ∈ s.done, (⟨2, j.who, j.n⟩ : Ev) ∈ l
theorem hap_step {c : Cfg} {s : TSt} {e : Ev} {l : List Ev} (hs : StOk c s) (ho : Hap s l) (h : whyM c s e = 0) : Hap (stepM c s e) (l ++ [e]) := by
  obtain ⟨hask, hcase⟩ := whyM_zero h
  obtain ⟨hwho, hn⟩ := hask
  obtain ⟨kd, w, n⟩ := e
  dsimp only at *
  rcases hcase with ⟨hk, hi⟩ | ⟨hk, hi⟩ | ⟨hk, hi⟩
  · rw [step_ask hk]; subst hk
    dsimp only at *
    refine ⟨fun w' n' he => ?_, fun w' n' he => ho.did w' n' (by simpa using he), fun w' n' he => ho.tld w' n' (by simpa using he), fun j hj => ?_, fun j hj => by simpa using ho.don j hj⟩
    · rw [getD_setI (by rw [hs.askedL]; omega)]
      simp only [List.mem_append, List.mem_singleton, Ev.mk.injEq, true_and] at he
      rcases he with he | ⟨h1, h2⟩
      · have := ho.ask w' n' he
        split
        · rename_i hh; rw [hh] at this; omega
        · exact this
      · subst h1; subst h2; simp; omega
    · rcases putJ_mem.1 hj with hj | hj
      · subst hj; simp
      · simp [ho.wai j hj]
  · rw [step_do hk]; subst hk
    obtain ⟨i1, i2⟩ := idxM_at_key hi
    dsimp only at *
    refine ⟨fun w' n' he => ho.ask w' n' (by simpa using he), fun w' n' he => ?_, fun w' n' he => ho.tld w' n' (by simpa using he), fun j hj => by simpa using ho.wai j (outJ_mem hj), fun j hj => ?_⟩
    · simp only [List.mem_append, List.mem_singleton, Ev.mk.injEq, true_and] at he
      rcases he with he | ⟨h1, h2⟩
      · obtain ⟨j, hj, hk⟩ := ho.did w' n' he
        refine ⟨j, ?_, hk⟩
        rcases List.mem_append.1 hj with hj | hj
        · exact List.mem_append_left _ (putJ_mem.2 (.inr hj))
        · exact List.mem_append_right _ hj
      · refine ⟨_, List.mem_append_left _ (putJ_mem.2 (.inl rfl)), ?_⟩
        simp [key, h1, h2]
    · rcases putJ_mem.1 hj with hj | hj
      · subst hj; simp
      · simp [ho.don j hj]
  · rw [step_tell hk]; subst hk
    obtain ⟨i1, i2⟩ := idxM_at_key hi
    dsimp only at *
    refine ⟨fun w' n' he => ho.ask w' n' (by simpa using he), fun w' n' he => ?_, fun w' n' he => ?_, fun j hj => by simpa using ho.wai j hj, fun j hj => by simpa using ho.don j (outJ_mem hj)⟩
    · obtain ⟨j, hj, hk⟩ := ho.did w' n' (by simpa using he)
      rcases List.mem_append.1 hj with hj | hj
      · rcases out_mem i1 hj with hj | hj
        · exact ⟨j, by simp [hj], hk⟩
        · exact ⟨j, by simp [hj], hk⟩
      · exact ⟨j, by simp [hj], hk⟩
    · simp only [List.mem_append, List.mem_singleton, Ev.mk.injEq, true_and] at he
      rcases he with he | ⟨h1, h2⟩
      · obtain ⟨j, hj, hk⟩ := ho.tld w' n' he
        exact ⟨j, by simp [hj], hk⟩
      · exact ⟨_, List.mem_append_right _ (List.mem_singleton.2 rfl), by rw [i2, h1, h2]⟩
theorem hap_plays {c : Cfg} {es : List Ev} (hb : BusOkP c) (h : Plays c st0 es) : ∀ k, k ≤ es.length → Hap (runM c st0 (es.take k)) (es.take k) := by
  intro k
  induction k with
  | zero => intro _; exact ⟨by simp, by simp, by simp, by simp [runM, st0], by simp [runM, st0]⟩
  | succ k ih =>
    intro hk
    rw [runM_take (by omega), take_snocE (by omega)]
    exact hap_step (plays_ok hb (st0_ok c) h k (by omega)) (ih (by omega)) (h k (by omega))
/-- Nothing happens twice, and of each thing it is asked, then done, then told. -/
theorem once_plays {c : Cfg} {es : List Ev} (hb : BusOkP c) (h : Plays c st0 es) {k : Nat} (hk : k < es.length) :
    es.getD k default ∉ es.take k ∧ ((es.getD k default).kind = 1 ∨ (⟨(es.getD k default).kind - 1, (es.getD k default).who, (es.getD k default).n⟩ : Ev) ∈ es.take k) := by
  have ho := hap_plays hb h k (by omega)
  have hs := plays_ok hb (st0_ok c) h k (by omega)
  have hw := h k hk
  generalize runM c st0 (es.take k) = s at *
  generalize es.take k = l at *
  generalize es.getD k default = e at *
  obtain ⟨hask, hcase⟩ := whyM_zero hw
  obtain ⟨n1, n2, n3, n4, n5⟩ := nodup_parts hs.nodup
  obtain ⟨kd, w, n⟩ := e
  dsimp only at *
  rcases hcase with ⟨hk, hi⟩ | ⟨hk, hi⟩ | ⟨hk, hi⟩
  · subst hk
    exact ⟨fun hm => by have := ho.ask w n hm; omega, .inl rfl⟩
  · subst hk
    obtain ⟨i1, i2⟩ := idxM_at_key hi
    have hx := getD_mem i1
    refine ⟨fun hm => ?_, .inr ?_⟩
    · obtain ⟨j, hj, hk⟩ := ho.did w n hm
      rcases List.mem_append.1 hj with hj | hj
      · exact n3 _ hx _ hj (by rw [i2, hk])
      · exact n4 _ hx _ hj (by rw [i2, hk])
    · have := ho.wai _ hx
      simp only [key, Prod.mk.injEq] at i2
      rw [i2.1, i2.2] at this; exact this
  · subst hk
    obtain ⟨i1, i2⟩ := idxM_at_key hi
    have hx := getD_mem i1
    refine ⟨fun hm => ?_, .inr ?_⟩
    · obtain ⟨j, hj, hk⟩ := ho.tld w n hm
      exact n5 _ hx _ hj (by rw [i2, hk])
    · have := ho.don _ hx
      simp only [key, Prod.mk.injEq] at i2
      rw [i2.1, i2.2] at this; exact this
end Go.AM
