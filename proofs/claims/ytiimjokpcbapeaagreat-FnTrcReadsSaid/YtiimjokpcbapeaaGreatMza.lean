/- Where all just read: plain laws. -/
import Derived.Test.YtiimjokpcbapeaaGreatMy
set_option linter.unusedVariables false
set_option linter.unusedSimpArgs false
set_option linter.unusedSectionVars false
namespace Go.AM
structure SamK (s s' : TSt) : Prop where
  asked : s'.asked = s.asked
  wait : s'.wait.map key = s.wait.map key
  done : s'.done.map key = s.done.map key
theorem fi_key {p p' : Job → Bool} {q : Int × Int → Bool} {l l' : List Job} (hp : ∀ j, p j = q (key j)) (hp' : ∀ j, p' j = q (key j)) (h : l'.map key = l.map key) : l'.findIdx? p' = l.findIdx? p := by
  have e1 : p = q ∘ key := funext hp
  have e2 : p' = q ∘ key := funext hp'
  rw [e1, e2, ← List.findIdx?_map, ← List.findIdx?_map, h]
theorem idxM_keyed {p p' : Job → Bool} {q : Int × Int → Bool} {l l' : List Job} (hp : ∀ j, p j = q (key j)) (hp' : ∀ j, p' j = q (key j)) (h : l'.map key = l.map key) : idxM p' l' = idxM p l := by
  unfold idxM; rw [fi_key hp hp' h]
theorem idx_key {w n : Int} {l l' : List Job} (h : l'.map key = l.map key) : idxM (isJob w n) l' = idxM (isJob w n) l :=
  idxM_keyed (q := fun p => decide (p.1 = w ∧ p.2 = n)) (fun _ => rfl) (fun _ => rfl) h
theorem ahead_key {c c' : Cfg} {e : Ev} {l l' : List Job} (hid : ∀ w n, (reqAt c' w n).id = (reqAt c w n).id) (h : l'.map key = l.map key) : idxM (aheadJ c' e) l' = idxM (aheadJ c e) l :=
  idxM_keyed (q := fun p => decide ((p.1 = e.who ∧ p.2 < e.n) ∧ (reqAt c p.1 p.2).id = (reqAt c e.who e.n).id)) (fun _ => rfl) (fun j => by simp only [aheadJ, hid]; rfl) h
theorem outJ_keyed {l l' : List Job} {k : Nat} (h : l'.map key = l.map key) : (outJ l' k).map key = (outJ l k).map key := by
  simp only [outJ, List.map_append, List.map_take, List.map_drop, h]
theorem putJ_keyed {l l' : List Job} {j j' : Job} (hj : key j' = key j) (h : l'.map key = l.map key) : (putJ l' j').map key = (putJ l j).map key := by
  have h1 : j'.who = j.who := congrArg Prod.fst hj
  have h2 : j'.n = j.n := congrArg Prod.snd hj
  have e : l'.findIdx (befJ j') = l.findIdx (befJ j) := by
    have e1 : befJ j = (fun p : Int × Int => befJ j ⟨p.1, p.2, default⟩) ∘ key := rfl
    have e2 : befJ j' = befJ j := funext fun x => by unfold befJ; exact decide_eq_decide.2 (by rw [h1, h2])
    rw [e2, e1, ← List.findIdx_map, ← List.findIdx_map, h]
  simp only [putJ, List.map_append, List.map_cons, List.map_take, List.map_drop, h, hj, e]
theorem whyM_key {c c' : Cfg} {s s' : TSt} {e : Ev} (hlen : ∀ w, (c'.progs.getD w default).length = (c.progs.getD w default).length) (hid : ∀ w n, (reqAt c' w n).id = (reqAt c w n).id) (h : SamK s s') : whyM c' s' e = whyM c s e := by
  have ha : asksP c' e.who e.n ↔ asksP c e.who e.n := by unfold asksP; rw [hlen]
  unfold whyM
  rw [h.asked, idx_key h.wait, idx_key h.done, ahead_key hid h.wait, ahead_key hid h.done]
  simp only [ha]
theorem step_key {c c' : Cfg} {s s' : TSt} {e : Ev} (h : SamK s s') (hw : whyM c s e = 0) : SamK (stepM c s e) (stepM c' s' e) := by
  obtain ⟨_, hcase⟩ := whyM_zero hw
  rcases hcase with ⟨hk1, _⟩ | ⟨hk2, hi⟩ | ⟨hk3, hi⟩
  · rw [step_ask hk1, step_ask hk1]; exact ⟨by dsimp only; rw [h.asked], putJ_keyed rfl h.wait, h.done⟩
  · rw [step_do hk2, step_do hk2]; exact ⟨h.asked, by dsimp only; rw [idx_key h.wait]; exact outJ_keyed h.wait, putJ_keyed rfl h.done⟩
  · rw [step_tell hk3, step_tell hk3]; exact ⟨h.asked, h.wait, by dsimp only; rw [idx_key h.done]; exact outJ_keyed h.done⟩
theorem plays_key {c c' : Cfg} {es : List Ev} (hlen : ∀ w, (c'.progs.getD w default).length = (c.progs.getD w default).length) (hid : ∀ w n, (reqAt c' w n).id = (reqAt c w n).id) (h : Plays c st0 es) : Plays c' st0 es := by
  have hs : ∀ k, k ≤ es.length → SamK (runM c st0 (es.take k)) (runM c' st0 (es.take k)) := by
    intro k
    induction k with
    | zero => intro _; exact ⟨rfl, rfl, rfl⟩
    | succ k ih =>
      intro hk
      rw [runM_take (by omega), runM_take (by omega)]
      exact step_key (ih (by omega)) (h k (by omega))
  intro k hk
  rw [whyM_key hlen hid (hs k (by omega))]
  exact h k hk
def readQ (q : Req) : Req := ⟨q.id, 1, q.addr, q.many, q.wrap, [], []⟩
def readP (p : List Req) : List Req := p.map readQ
def readC (c : Cfg) : Cfg := ⟨c.map, c.lat, c.progs.map readP⟩
theorem readQ_ok {q : Req} (h : ReqOkP q) : ReqOkP (readQ q) := by
  obtain ⟨h1, h2, h3, h4, h5, h6, h7, h8⟩ := h
  exact ⟨h1, by simp [readQ], h3, by simp [readQ, manyOf], by simp [readQ, manyOf], fun x hx => by simp [readQ] at hx, fun x hx => by simp [readQ] at hx, .inl rfl⟩
theorem readP_ok {p : List Req} (h : ProgOkP p) : ProgOkP (readP p) := by
  obtain ⟨h1, h2⟩ := h
  refine ⟨by simpa [readP] using h1, ?_⟩
  rw [idxM_nonneg] at h2 ⊢
  rintro ⟨x, hx, hn⟩
  obtain ⟨y, hy, rfl⟩ := List.mem_map.1 hx
  exact h2 ⟨y, hy, by simp only [decide_eq_true_eq] at hn ⊢; exact fun h => hn (readQ_ok h)⟩
theorem readC_ok {c : Cfg} (h : BusOkP c) : BusOkP (readC c) := by
  obtain ⟨h1, h2, h3, h4, h5⟩ := h
  refine ⟨h1, h2, h3, by simpa [readC] using h4, ?_⟩
  rw [idxM_nonneg] at h5 ⊢
  rintro ⟨x, hx, hn⟩
  obtain ⟨y, hy, rfl⟩ := List.mem_map.1 hx
  exact h5 ⟨y, hy, by simp only [decide_eq_true_eq] at hn ⊢; exact fun h => hn (readP_ok h)⟩
theorem readC_fit {c : Cfg} (h : CfgFit c) : CfgFit (readC c) := by
  refine ⟨h.map, h.lat, by simpa [readC] using h.progs, fun p hp => ?_, fun p hp q hq => ?_⟩
  · obtain ⟨y, hy, rfl⟩ := List.mem_map.1 hp
    simpa [readP] using h.prog y hy
  · obtain ⟨y, hy, rfl⟩ := List.mem_map.1 hp
    obtain ⟨z, hz, rfl⟩ := List.mem_map.1 hq
    simp [readQ]
theorem readC_prog {c : Cfg} {w : Nat} : (readC c).progs.getD w default = readP (c.progs.getD w default) := by
  by_cases h : w < c.progs.length
  · simp [readC, List.getD, h]
  · simp [readC, List.getD, List.getElem?_eq_none (show c.progs.length ≤ w by omega), default, instInhabitedList, readP]
theorem readC_len {c : Cfg} (w : Nat) : ((readC c).progs.getD w default).length = (c.progs.getD w default).length := by rw [readC_prog]; simp [readP]
theorem readC_at {c : Cfg} {w n : Int} (h : n.toNat < (c.progs.getD w.toNat default).length) : reqAt (readC c) w n = readQ (reqAt c w n) := by
  unfold reqAt; rw [readC_prog]
  simp only [List.getD] at h ⊢
  simp [readP, h]
theorem readC_id {c : Cfg} (w n : Int) : (reqAt (readC c) w n).id = (reqAt c w n).id := by
  by_cases h : n.toNat < (c.progs.getD w.toNat default).length
  · rw [readC_at h]; rfl
  · have h2 := h
    rw [← readC_len] at h2
    have e : ∀ {l : List Req} {k : Nat}, ¬ k < l.length → l.getD k default = default := fun {l k} hk => by simp [List.getD, List.getElem?_eq_none (show l.length ≤ k by omega)]
    unfold reqAt
    rw [e h, e h2]
theorem readC_plays {c : Cfg} {es : List Ev} (h : Plays c st0 es) : Plays (readC c) st0 es := plays_key readC_len readC_id h
theorem doM_reads {m : List Rng} {w h : List Int} {who : Int} {q : Req} (hk : q.kind = 1) : (doM m w h who q).1 = (w, h) := by
  by_cases h1 : wholeM m (burstM q.addr q.many q.wrap) < 0
  · rw [doM_none h1]
  · rw [doM_read h1 hk]
theorem reads_keep {c : Cfg} {es : List Ev} (hk : ∀ w n, asksP c w n → (reqAt c w n).kind = 1) (hp : Plays c st0 es) : ∀ k, k ≤ es.length →
    ((runM c st0 (es.take k)).words = st0.words ∧ (runM c st0 (es.take k)).holds = st0.holds) ∧ ∀ j ∈ (runM c st0 (es.take k)).done ++ (runM c st0 (es.take k)).told, j.rsp = (doM c.map st0.words st0.holds j.who (reqAt c j.who j.n)).2 := by
  intro k
  induction k with
  | zero => intro _; exact ⟨⟨rfl, rfl⟩, fun j hj => by simp [runM, st0] at hj⟩
  | succ k ih =>
    intro hk1
    obtain ⟨⟨w1, w2⟩, w3⟩ := ih (by omega)
    have hw := hp k (by omega)
    obtain ⟨hask, hcase⟩ := whyM_zero hw
    rw [runM_take (by omega)]
    rcases hcase with ⟨hk1, _⟩ | ⟨hk2, hi⟩ | ⟨hk3, hi⟩
    · rw [step_ask hk1]; exact ⟨⟨w1, w2⟩, w3⟩
    · rw [step_do hk2]
      have hd := doM_reads (m := c.map) (w := st0.words) (h := st0.holds) (who := (es.getD k default).who) (hk _ _ hask)
      dsimp only
      rw [w1, w2]
      refine ⟨⟨by rw [hd], by rw [hd]⟩, fun j hj => ?_⟩
      simp only [List.mem_append, putJ_mem] at hj
      rcases hj with (rfl | hj) | hj
      · rfl
      · exact w3 j (List.mem_append_left _ hj)
      · exact w3 j (List.mem_append_right _ hj)
    · rw [step_tell hk3]
      obtain ⟨i1, _⟩ := idxM_at_key hi
      refine ⟨⟨w1, w2⟩, fun j hj => ?_⟩
      simp only [List.mem_append, List.mem_singleton] at hj
      rcases hj with hj | hj | hj
      · exact w3 j (List.mem_append_left _ (outJ_mem hj))
      · exact w3 j (List.mem_append_right _ hj)
      · exact w3 j (List.mem_append_left _ (hj ▸ getD_mem i1))
theorem told_eq {c : Cfg} {es : List Ev} {w : Nat} (hb : BusOkP c) (hk : ∀ w n, asksP c w n → (reqAt c w n).kind = 1) (hp : Plays c st0 es) (hw : w < 3) : mineJ (runM c st0 (lineM es 3)).told w = mineJ (runM c st0 es).told w := by
  have h1 := line_told (w := w) hb hp hw
  have r1 := (reads_keep hk hp es.length (Nat.le_refl _)).2
  have r2 := (reads_keep hk (line_plays hb hp) (lineM es 3).length (Nat.le_refl _)).2
  rw [List.take_length] at r1 r2
  have f : ∀ {l : List Job}, (∀ j ∈ l, j.rsp = (doM c.map st0.words st0.holds j.who (reqAt c j.who j.n)).2) → l = (l.map key).map fun p => ⟨p.1, p.2, (doM c.map st0.words st0.holds p.1 (reqAt c p.1 p.2)).2⟩ := fun {l} h => by
    rw [List.map_map]
    conv => lhs; rw [← List.map_id l]
    refine List.map_congr_left fun j hj => ?_
    simp only [id, Function.comp, key]
    rw [← h j hj]
  rw [f (l := mineJ (runM c st0 (lineM es 3)).told w) fun j hj => r2 j (List.mem_append_right _ (mineJ_sub j hj)), f (l := mineJ (runM c st0 es).told w) fun j hj => r1 j (List.mem_append_right _ (mineJ_sub j hj)), h1]
theorem readC_kind {c : Cfg} : ∀ w n, asksP (readC c) w n → (reqAt (readC c) w n).kind = 1 := fun w n h => by
  obtain ⟨h1, h2, h3⟩ := h
  rw [readC_len] at h3
  rw [readC_at (by omega)]; rfl
end Go.AM
