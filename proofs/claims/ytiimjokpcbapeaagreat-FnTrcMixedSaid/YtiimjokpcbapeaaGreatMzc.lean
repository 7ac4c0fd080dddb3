/- What is apart may be turned about: a plain law. -/
import Derived.Test.YtiimjokpcbapeaaGreatMx
import Derived.Test.YtiimjokpcbapeaaGreatMz
set_option linter.unusedVariables false
set_option linter.unusedSimpArgs false
set_option linter.unusedSectionVars false
namespace Go.AM
/-! ### Doing one thing, by what it comes to -/
def allQ (q : Req) : List Int := burstM q.addr q.many q.wrap
def brM (m : List Rng) (h : List Int) (who : Int) (q : Req) : Nat :=
  if wholeM m (allQ q) < 0 then 0 else
  if wrM q = true ∧ (m.getD (wholeM m (allQ q)).toNat default).only = true then 1 else
  if q.kind = 1 then 2 else
  if q.kind = 3 then 3 else
  if q.kind = 4 ∧ ¬ h.getD (who * 2 + q.id).toNat default = q.addr then 4 else 5
def wB (br : Nat) (q : Req) (w : List Int) : List Int := if br = 5 then putN w (allQ q) q.data q.lanes (allQ q).length else w
def hB (br : Nat) (who : Int) (q : Req) (h : List Int) : List Int := if br = 5 then freeM h (allQ q) else if br = 3 then h.set (who * 2 + q.id).toNat q.addr else h
def rB (br : Nat) (q : Req) (w : List Int) : Rsp :=
  if br = 0 then ⟨q.id, 4, []⟩ else if br = 1 then ⟨q.id, 3, []⟩ else
  if br = 2 then ⟨q.id, 1, (allQ q).map fun a => w.getD a.toNat default⟩ else
  if br = 3 then ⟨q.id, 2, (allQ q).map fun a => w.getD a.toNat default⟩ else
  if br = 4 then ⟨q.id, 1, []⟩ else ⟨q.id, if q.kind = 4 then 2 else 1, []⟩
theorem doM_br {m : List Rng} {w h : List Int} {who : Int} {q : Req} : doM m w h who q = ((wB (brM m h who q) q w, hB (brM m h who q) who q h), rB (brM m h who q) q w) := by
  unfold doM brM wB hB rB allQ
  split
  · simp
  split
  · simp
  split
  · simp
  split
  · simp
  split
  · simp
  · simp
theorem getD_memJ {l : List Int} {k : Nat} (h : k < l.length) : l.getD k default ∈ l := by simp [List.getD, h]
theorem putN_out {w all data lanes : List Int} {i : Nat} : ∀ k, (∀ j, j < k → (all.getD j default).toNat ≠ i) → (putN w all data lanes k).getD i default = w.getD i default
  | 0, _ => rfl
  | k + 1, h => by
    simp only [putN]
    rw [List.getD_eq_getElem?_getD, List.getElem?_set_ne (h k (by omega)), ← List.getD_eq_getElem?_getD]
    exact putN_out k fun j hj => h j (by omega)
theorem putN_same {w w' all data lanes : List Int} (hl : w.length = w'.length) {i : Nat} (hi : w.getD i default = w'.getD i default) (hall : ∀ a ∈ all, w.getD a.toNat default = w'.getD a.toNat default) : ∀ k, k ≤ all.length → (putN w all data lanes k).getD i default = (putN w' all data lanes k).getD i default
  | 0, _ => hi
  | k + 1, hk => by
    have hk1 : all.getD k default ∈ all := getD_memJ (by omega)
    have h1 := putN_same (data := data) (lanes := lanes) hl hi hall k (by omega)
    have h2 := putN_same (data := data) (lanes := lanes) hl (hall _ hk1) hall k (by omega)
    simp only [putN]
    rw [h2]
    by_cases he : (all.getD k default).toNat = i
    · subst he
      have l1 := putN_len (w := w) (all := all) (data := data) (lanes := lanes) k
      have l2 := putN_len (w := w') (all := all) (data := data) (lanes := lanes) k
      simp [List.getD, List.getElem?_set, l1, l2, hl]
    · rw [List.getD_eq_getElem?_getD, List.getElem?_set_ne he, ← List.getD_eq_getElem?_getD, List.getD_eq_getElem?_getD (l := List.set _ _ _), List.getElem?_set_ne he, ← List.getD_eq_getElem?_getD]
      exact h1
def apartQ (a b : Req) : Prop := ∀ x ∈ allQ a, x ∉ allQ b
theorem apartQ.symm {a b : Req} (h : apartQ a b) : apartQ b a := fun x hx hy => h x hy hx
theorem allQ_in {q : Req} : ∀ a ∈ allQ q, 0 ≤ a ∧ a ≤ 63 := burstM_in
theorem wB_len {br : Nat} {q : Req} {w : List Int} : (wB br q w).length = w.length := by unfold wB; split <;> simp [putN_len]
theorem wB_out {br : Nat} {b : Req} {w : List Int} {x : Int} (hx : 0 ≤ x) (h : x ∉ allQ b) : (wB br b w).getD x.toNat default = w.getD x.toNat default := by
  unfold wB
  split
  · refine putN_out _ fun j hj he => h ?_
    have h1 := getD_memJ hj
    have h2 := allQ_in _ h1
    have : (allQ b).getD j default = x := by omega
    rw [← this]; exact h1
  · rfl
theorem rB_apart {br br' : Nat} {a b : Req} {w : List Int} (h : apartQ a b) : rB br a (wB br' b w) = rB br a w := by
  have e : ((allQ a).map fun x => (wB br' b w).getD x.toNat default) = (allQ a).map fun x => w.getD x.toNat default :=
    List.map_congr_left fun x hx => wB_out (allQ_in x hx).1 (h x hx)
  unfold rB
  rw [e]
theorem freeM_getD {h all : List Int} {i : Nat} (hi : i < h.length) : (freeM h all).getD i default = if h.getD i default ∈ all then -1 else h.getD i default := by
  simp [freeM, List.getD, hi]
theorem wB_comm {br br' : Nat} {a b : Req} {w : List Int} (h : apartQ a b) : wB br a (wB br' b w) = wB br' b (wB br a w) := by
  refine List.ext_getElem (by rw [wB_len, wB_len, wB_len, wB_len]) fun i h1 h2 => ?_
  have g : ∀ (l : List Int) (hl : i < l.length), l[i] = l.getD i default := fun l hl => by simp [List.getD, hl]
  rw [g, g]
  have out : ∀ {q : Req} {br : Nat} {w : List Int}, ((i : Int) ∉ allQ q) → (wB br q w).getD i default = w.getD i default := fun {q br w} hq => by
    have := wB_out (br := br) (w := w) (x := (i : Int)) (by omega) hq
    simpa using this
  have same : ∀ {q q' : Req} {br br' : Nat} {w : List Int}, apartQ q q' → ((i : Int) ∈ allQ q) → (wB br q (wB br' q' w)).getD i default = (wB br q w).getD i default := fun {q q' br br' w} hq hi => by
    unfold wB
    by_cases hb : br = 5
    · rw [if_pos hb, if_pos hb]
      refine putN_same ?_ ?_ (fun x hx => ?_) _ (Nat.le_refl _)
      · split <;> simp [putN_len]
      · have := wB_out (br := br') (b := q') (w := w) (x := (i : Int)) (by omega) (hq _ hi); simpa [wB] using this
      · exact wB_out (br := br') (b := q') (w := w) (allQ_in x hx).1 (hq _ hx)
    · rw [if_neg hb, if_neg hb]
      have := wB_out (br := br') (b := q') (w := w) (x := (i : Int)) (by omega) (hq _ hi); simpa [wB] using this
  by_cases ha : (i : Int) ∈ allQ a
  · rw [same h ha, out (h _ ha)]
  · rw [out ha]
    by_cases hb : (i : Int) ∈ allQ b
    · rw [same h.symm hb]
    · rw [out hb, out hb, out ha]
theorem addr_mem {q : Req} (h : ReqOkP q) (hk : q.kind = 3 ∨ q.kind = 4) : q.addr ∈ allQ q := by
  obtain ⟨_, _, h3, _, _, _, _, h8⟩ := h
  have hm : q.many = 1 := by omega
  unfold allQ burstM
  rw [if_pos h3, hm]
  simp [bAt, Int.emod_one]
theorem freeM_set {h all : List Int} {i : Nat} {y : Int} (hy : y ∉ all) : freeM (h.set i y) all = (freeM h all).set i y := by
  simp [freeM, List.map_set, hy]
theorem freeM_comm {h a b : List Int} : freeM (freeM h a) b = freeM (freeM h b) a := by
  unfold freeM
  rw [List.map_map, List.map_map]
  refine List.map_congr_left fun x _ => ?_
  simp only [Function.comp]
  by_cases h1 : x ∈ a <;> by_cases h2 : x ∈ b <;> simp [h1, h2]
theorem hB_comm {br br' : Nat} {wa wb : Int} {a b : Req} {h : List Int} (hap : apartQ a b) (hs : (wa * 2 + a.id).toNat ≠ (wb * 2 + b.id).toNat) (ka : br = 3 → a.addr ∈ allQ a) (kb : br' = 3 → b.addr ∈ allQ b) : hB br wa a (hB br' wb b h) = hB br' wb b (hB br wa a h) := by
  unfold hB
  by_cases a5 : br = 5
  · by_cases b5 : br' = 5
    · simp only [a5, b5, if_true]; exact freeM_comm
    · by_cases b3 : br' = 3
      · simp only [a5, b5, b3, if_true, if_false, Nat.reduceEqDiff]
        exact freeM_set (fun hx => hap.symm _ (kb b3) hx)
      · simp only [a5, b5, b3, if_true, if_false]
  · by_cases a3 : br = 3
    · by_cases b5 : br' = 5
      · simp only [a3, b5, if_true, if_false, Nat.reduceEqDiff]
        exact (freeM_set (fun hx => hap _ (ka a3) hx)).symm
      · by_cases b3 : br' = 3
        · simp only [a3, b3, if_true, if_false, Nat.reduceEqDiff]
          exact List.set_comm _ _ (Ne.symm hs)
        · simp only [a3, b5, b3, if_true, if_false, Nat.reduceEqDiff]
    · simp only [a5, a3, if_false]
theorem brM_keep {m : List Rng} {br' : Nat} {wa wb : Int} {a b : Req} {h : List Int} (hap : apartQ a b) (hs : (wa * 2 + a.id).toNat ≠ (wb * 2 + b.id).toNat) (ka : a.kind = 4 → a.addr ∈ allQ a) : brM m (hB br' wb b h) wa a = brM m h wa a := by
  by_cases hk : a.kind = 4
  · have h0 := allQ_in _ (ka hk)
    have e : ((hB br' wb b h).getD (wa * 2 + a.id).toNat default = a.addr) ↔ (h.getD (wa * 2 + a.id).toNat default = a.addr) := by
      unfold hB
      split
      · by_cases hl : (wa * 2 + a.id).toNat < h.length
        · rw [freeM_getD hl]
          constructor
          · intro hx
            split at hx
            · omega
            · exact hx
          · intro hx
            rw [hx, if_neg (hap _ (ka hk))]
        · simp [List.getD, freeM, List.getElem?_eq_none (show h.length ≤ (wa * 2 + a.id).toNat by omega)]
      · split
        · rw [List.getD_eq_getElem?_getD, List.getElem?_set_ne (Ne.symm hs), ← List.getD_eq_getElem?_getD]
        · exact Iff.rfl
    unfold brM
    simp only [e]
  · unfold brM
    simp only [hk, false_and, if_false]
theorem br3_kind {m : List Rng} {h : List Int} {who : Int} {q : Req} (h3 : brM m h who q = 3) : q.kind = 3 := by
  unfold brM at h3
  split at h3
  · cases h3
  split at h3
  · cases h3
  split at h3
  · cases h3
  split at h3
  · assumption
  split at h3 <;> cases h3
/-- Two that do what is apart. -/
theorem doM_comm {m : List Rng} {w h : List Int} {wa wb : Int} {a b : Req} (ha : ReqOkP a) (hb : ReqOkP b) (h0 : 0 ≤ wa ∧ 0 ≤ wb) (hne : wa ≠ wb) (hap : apartQ a b) :
    (doM m (doM m w h wa a).1.1 (doM m w h wa a).1.2 wb b).2 = (doM m w h wb b).2 ∧ (doM m (doM m w h wa a).1.1 (doM m w h wa a).1.2 wb b).1 = (doM m (doM m w h wb b).1.1 (doM m w h wb b).1.2 wa a).1 := by
  have hs : (wa * 2 + a.id).toNat ≠ (wb * 2 + b.id).toNat := by have := ha.1; have := hb.1; omega
  have e1 : ∀ {br : Nat}, brM m (hB br wa a h) wb b = brM m h wb b := fun {br} => brM_keep hap.symm (Ne.symm hs) fun hk => addr_mem hb (.inr hk)
  have e2 : ∀ {br : Nat}, brM m (hB br wb b h) wa a = brM m h wa a := fun {br} => brM_keep hap hs fun hk => addr_mem ha (.inr hk)
  simp only [doM_br, e1, e2]
  refine ⟨rB_apart hap.symm, ?_⟩
  rw [wB_comm hap.symm, hB_comm hap.symm (Ne.symm hs) (fun h3 => addr_mem hb (.inl (br3_kind h3))) (fun h3 => addr_mem ha (.inl (br3_kind h3)))]
/-! ### Things that happen -/
def apartE (c : Cfg) (a b : Ev) : Prop := a.who ≠ b.who ∧ ¬ (a.kind = 3 ∧ b.kind = 3) ∧ (a.kind = 2 → b.kind = 2 → apartQ (reqAt c a.who a.n) (reqAt c b.who b.n))
instance {a b : Req} : Decidable (apartQ a b) := by unfold apartQ; infer_instance
instance {c : Cfg} {a b : Ev} : Decidable (apartE c a b) := by unfold apartE; infer_instance
theorem sorted_ext : ∀ {l l' : List Job}, Sorted l → Sorted l' → (∀ x, x ∈ l ↔ x ∈ l') → l = l'
  | [], [], _, _, _ => rfl
  | [], y :: l', _, _, hm => by have := (hm y).2 (by simp); cases this
  | x :: l, [], _, _, hm => by have := (hm x).1 (by simp); cases this
  | x :: l, y :: l', h, h', hm => by
    have irr : ∀ z : Job, befJ z z = false := fun z => by simp [befJ]
    obtain ⟨h1, h2⟩ := List.pairwise_cons.1 h
    obtain ⟨h3, h4⟩ := List.pairwise_cons.1 h'
    have hxy : x = y := by
      rcases List.mem_cons.1 ((hm x).1 (by simp)) with hx | hx
      · exact hx
      · rcases List.mem_cons.1 ((hm y).2 (by simp)) with hy | hy
        · exact hy.symm
        · have b1 := h3 x hx
          have b2 := h1 y hy
          rw [befJ_iff] at b1 b2
          omega
    subst hxy
    congr 1
    refine sorted_ext h2 h4 fun z => ⟨fun hz => ?_, fun hz => ?_⟩
    · rcases List.mem_cons.1 ((hm z).1 (by simp [hz])) with he | he
      · subst he; have := h1 z hz; rw [irr] at this; cases this
      · exact he
    · rcases List.mem_cons.1 ((hm z).2 (by simp [hz])) with he | he
      · subst he; have := h3 z hz; rw [irr] at this; cases this
      · exact he
theorem mem_outJ {l : List Job} {k : Nat} {x : Job} (hk : k < l.length) (hn : (l.map key).Nodup) : x ∈ outJ l k ↔ x ∈ l ∧ key x ≠ key (l.getD k default) := by
  refine ⟨fun h => ⟨outJ_mem h, outJ_key hk hn h⟩, fun ⟨h1, h2⟩ => ?_⟩
  rcases out_mem hk h1 with rfl | h3
  · exact absurd rfl h2
  · exact h3
def rspE (c : Cfg) (s : TSt) (e : Ev) : Rsp := (doM c.map s.words s.holds e.who (reqAt c e.who e.n)).2
theorem wait_mem {c : Cfg} {s : TSt} {e : Ev} {x : Job} (hs : StOk c s) (h : whyM c s e = 0) : x ∈ (stepM c s e).wait ↔ (e.kind = 1 ∧ x = ⟨e.who, e.n, rsp0⟩) ∨ (x ∈ s.wait ∧ ¬ (e.kind = 2 ∧ key x = (e.who, e.n))) := by
  obtain ⟨n1, n2, -, -, -⟩ := nodup_parts hs.nodup
  obtain ⟨_, hcase⟩ := whyM_zero h
  rcases hcase with ⟨hk, _⟩ | ⟨hk, hi⟩ | ⟨hk, hi⟩
  · rw [step_ask hk]; simp [hk, putJ_mem]
  · rw [step_do hk]
    obtain ⟨i1, i2⟩ := idxM_at_key hi
    dsimp only
    rw [mem_outJ i1 n1, i2]; simp [hk]
  · rw [step_tell hk]; simp [hk]
theorem done_mem {c : Cfg} {s : TSt} {e : Ev} {x : Job} (hs : StOk c s) (h : whyM c s e = 0) : x ∈ (stepM c s e).done ↔ (e.kind = 2 ∧ x = ⟨e.who, e.n, rspE c s e⟩) ∨ (x ∈ s.done ∧ ¬ (e.kind = 3 ∧ key x = (e.who, e.n))) := by
  obtain ⟨n1, n2, -, -, -⟩ := nodup_parts hs.nodup
  obtain ⟨_, hcase⟩ := whyM_zero h
  rcases hcase with ⟨hk, _⟩ | ⟨hk, hi⟩ | ⟨hk, hi⟩
  · rw [step_ask hk]; simp [hk]
  · rw [step_do hk]; simp [hk, putJ_mem, rspE]
  · rw [step_tell hk]
    obtain ⟨i1, i2⟩ := idxM_at_key hi
    dsimp only
    rw [mem_outJ i1 n2, i2]; simp [hk]
def jobE (s : TSt) (e : Ev) : Job := s.done.getD (idxM (isJob e.who e.n) s.done).toNat default
theorem told_eqE {c : Cfg} {s : TSt} {e : Ev} (h : whyM c s e = 0) : (stepM c s e).told = s.told ++ if e.kind = 3 then [jobE s e] else [] := by
  obtain ⟨_, hcase⟩ := whyM_zero h
  rcases hcase with ⟨hk, _⟩ | ⟨hk, hi⟩ | ⟨hk, hi⟩
  · rw [step_ask hk]; simp [hk]
  · rw [step_do hk]; simp [hk]
  · rw [step_tell hk]; simp [hk, jobE]
theorem jobE_at {c : Cfg} {s : TSt} {e : Ev} (h : whyM c s e = 0) (hk : e.kind = 3) : jobE s e ∈ s.done ∧ key (jobE s e) = (e.who, e.n) := by
  obtain ⟨_, hcase⟩ := whyM_zero h
  have hi : ¬ idxM (isJob e.who e.n) s.done < 0 := by rcases hcase with ⟨h1, _⟩ | ⟨h1, _⟩ | ⟨_, h2⟩ <;> first | omega | exact h2
  obtain ⟨i1, i2⟩ := idxM_at_key hi
  exact ⟨getD_mem i1, i2⟩
theorem key_uniq {l : List Job} (hn : (l.map key).Nodup) {x y : Job} (hx : x ∈ l) (hy : y ∈ l) (h : key x = key y) : x = y := by
  induction l with
  | nil => cases hx
  | cons z l ih =>
    simp only [List.map_cons, List.nodup_cons] at hn
    rcases List.mem_cons.1 hx with hx' | hx' <;> rcases List.mem_cons.1 hy with hy' | hy'
    · rw [hx', hy']
    · exact absurd (show key z ∈ l.map key from List.mem_map.2 ⟨y, hy', by rw [← h, hx']⟩) hn.1
    · exact absurd (show key z ∈ l.map key from List.mem_map.2 ⟨x, hx', by rw [h, hy']⟩) hn.1
    · exact ih hn.2 hx' hy'
theorem asked_eqE {c : Cfg} {s : TSt} {e : Ev} (h : whyM c s e = 0) : (stepM c s e).asked = if e.kind = 1 then s.asked.set e.who.toNat (e.n + 1) else s.asked := by
  obtain ⟨_, hcase⟩ := whyM_zero h
  rcases hcase with ⟨hk, _⟩ | ⟨hk, hi⟩ | ⟨hk, hi⟩
  · rw [step_ask hk]; simp [hk]
  · rw [step_do hk]; simp [hk]
  · rw [step_tell hk]; simp [hk]
theorem swap_step {c : Cfg} {s : TSt} {a b : Ev} (hb : BusOkP c) (hs : StOk c s) (ha : whyM c s a = 0) (hbb : whyM c (stepM c s a) b = 0) (hap : apartE c a b) :
    whyM c s b = 0 ∧ whyM c (stepM c s b) a = 0 ∧ stepM c (stepM c s b) a = stepM c (stepM c s a) b := by
  obtain ⟨hne, h33, h22⟩ := hap
  have hsa := step_ok hb hs ha
  obtain ⟨⟨aw, an⟩, -⟩ := whyM_zero ha
  obtain ⟨⟨bw, bn⟩, -⟩ := whyM_zero hbb
  have hb1 : whyM c s b = 0 := by rw [← whyM_sam (sam_other hs ha bw.1 hne)]; exact hbb
  have hsb := step_ok hb hs hb1
  have ha1 : whyM c (stepM c s b) a = 0 := by rw [whyM_sam (sam_other hs hb1 aw.1 (Ne.symm hne))]; exact ha
  have hsab := step_ok hb hsa hbb
  have hsba := step_ok hb hsb ha1
  refine ⟨hb1, ha1, ?_⟩
  have hat := at_step ha
  have hbt := at_step hb1
  have habt := at_step hbb
  have hbat := at_step ha1
  have hdo : a.kind = 2 → b.kind = 2 → _ := fun h1 h2 => doM_comm (m := c.map) (w := s.words) (h := s.holds) (reqAt_ok hb ⟨aw, an⟩) (reqAt_ok hb ⟨bw, bn⟩) ⟨aw.1, bw.1⟩ hne (h22 h1 h2)
  have hdo' : a.kind = 2 → b.kind = 2 → _ := fun h1 h2 => doM_comm (m := c.map) (w := s.words) (h := s.holds) (reqAt_ok hb ⟨bw, bn⟩) (reqAt_ok hb ⟨aw, an⟩) ⟨bw.1, aw.1⟩ (Ne.symm hne) (h22 h1 h2).symm
  have hrb : b.kind = 2 → rspE c (stepM c s a) b = rspE c s b := fun h2 => by
    unfold rspE
    rw [hat.1, hat.2]
    by_cases h1 : a.kind = 2
    · rw [if_pos h1, if_pos h1]; exact (hdo h1 h2).1
    · rw [if_neg h1, if_neg h1]
  have hra : a.kind = 2 → rspE c (stepM c s b) a = rspE c s a := fun h1 => by
    unfold rspE
    rw [hbt.1, hbt.2]
    by_cases h2 : b.kind = 2
    · rw [if_pos h2, if_pos h2]; exact (hdo' h1 h2).1
    · rw [if_neg h2, if_neg h2]
  have hwh : (stepM c (stepM c s b) a).words = (stepM c (stepM c s a) b).words ∧ (stepM c (stepM c s b) a).holds = (stepM c (stepM c s a) b).holds := by
    rw [hbat.1, hbat.2, habt.1, habt.2, hat.1, hat.2, hbt.1, hbt.2]
    by_cases h1 : a.kind = 2 <;> by_cases h2 : b.kind = 2 <;> simp only [h1, h2, if_true, if_false, and_self]
    have := (hdo h1 h2).2
    exact ⟨by rw [this], by rw [this]⟩
  have hasked : (stepM c (stepM c s b) a).asked = (stepM c (stepM c s a) b).asked := by
    rw [asked_eqE ha1, asked_eqE hbb, asked_eqE ha, asked_eqE hb1]
    split <;> split <;> first | rfl | exact List.set_comm _ _ (by omega)
  have hwait : (stepM c (stepM c s b) a).wait = (stepM c (stepM c s a) b).wait := by
    refine sorted_ext hsba.waitS hsab.waitS fun x => ?_
    rw [wait_mem hsb ha1, wait_mem hsa hbb, wait_mem hs ha, wait_mem hs hb1]
    have k1 : x = ⟨a.who, a.n, rsp0⟩ → ¬ key x = (b.who, b.n) := fun h => by subst h; simp [key, hne]
    have k2 : x = ⟨b.who, b.n, rsp0⟩ → ¬ key x = (a.who, a.n) := fun h => by subst h; simp [key, Ne.symm hne]
    grind
  have hdone : (stepM c (stepM c s b) a).done = (stepM c (stepM c s a) b).done := by
    refine sorted_ext hsba.doneS hsab.doneS fun x => ?_
    rw [done_mem hsb ha1, done_mem hsa hbb, done_mem hs ha, done_mem hs hb1]
    have k1 : ∀ r, x = ⟨a.who, a.n, r⟩ → ¬ key x = (b.who, b.n) := fun r h => by subst h; simp [key, hne]
    have k2 : ∀ r, x = ⟨b.who, b.n, r⟩ → ¬ key x = (a.who, a.n) := fun r h => by subst h; simp [key, Ne.symm hne]
    by_cases h1 : a.kind = 2 <;> by_cases h2 : b.kind = 2
    · rw [hra h1, hrb h2]; grind
    · rw [hra h1]; grind
    · rw [hrb h2]; grind
    · grind
  have htold : (stepM c (stepM c s b) a).told = (stepM c (stepM c s a) b).told := by
    rw [told_eqE ha1, told_eqE hbb, told_eqE ha, told_eqE hb1]
    obtain ⟨n1, n2, -, -, -⟩ := nodup_parts hs.nodup
    by_cases h1 : a.kind = 3 <;> by_cases h2 : b.kind = 3
    · exact absurd ⟨h1, h2⟩ h33
    · have j1 := jobE_at ha1 h1
      have j2 := jobE_at ha h1
      have := (done_mem hs hb1).1 j1.1
      have e : jobE (stepM c s b) a = jobE s a := by
        rcases this with ⟨_, hx⟩ | ⟨hx, _⟩
        · exfalso; have := j1.2; rw [hx] at this; simp [key] at this; exact hne this.1.symm
        · exact key_uniq n2 hx j2.1 (j1.2.trans j2.2.symm)
      simp [h1, h2, e]
    · have j1 := jobE_at hbb h2
      have j2 := jobE_at hb1 h2
      have := (done_mem hs ha).1 j1.1
      have e : jobE (stepM c s a) b = jobE s b := by
        rcases this with ⟨_, hx⟩ | ⟨hx, _⟩
        · exfalso; have := j1.2; rw [hx] at this; simp [key] at this; exact hne this.1
        · exact key_uniq n2 hx j2.1 (j1.2.trans j2.2.symm)
      simp [h1, h2, e]
    · simp [h1, h2]
  have ext : ∀ {x y : TSt}, x.words = y.words → x.holds = y.holds → x.asked = y.asked → x.wait = y.wait → x.done = y.done → x.told = y.told → x = y := fun {x y} h1 h2 h3 h4 h5 h6 => by
    obtain ⟨x1, x2, x3, x4, x5, x6⟩ := x; obtain ⟨y1, y2, y3, y4, y5, y6⟩ := y
    dsimp only at *
    subst h1; subst h2; subst h3; subst h4; subst h5; subst h6; rfl
  exact ext hwh.1 hwh.2 hasked hwait hdone htold
end Go.AM
