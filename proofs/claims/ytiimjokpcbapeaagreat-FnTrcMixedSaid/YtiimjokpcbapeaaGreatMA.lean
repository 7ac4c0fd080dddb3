/- Texts of one part, laid together: each keeps its own remark. -/
import Derived.Test.YtiimjokpcbapeaaGreatED
set_option linter.unusedVariables false
set_option linter.unusedSimpArgs false
set_option linter.unusedSectionVars false
section
/- Data of the bus, and how it stands in cells. -/
namespace Go.AM
structure Rng where
  lo : Int
  hi : Int
  slave : Int
  only : Bool
  deriving Inhabited, DecidableEq
structure Req where
  id : Int
  kind : Int
  addr : Int
  many : Int
  wrap : Bool
  data : List Int
  lanes : List Int
  deriving Inhabited, DecidableEq
structure Rsp where
  id : Int
  code : Int
  data : List Int
  deriving Inhabited, DecidableEq
structure Job where
  who : Int
  n : Int
  rsp : Rsp
  deriving Inhabited, DecidableEq
structure Ev where
  kind : Int
  who : Int
  n : Int
  deriving Inhabited, DecidableEq
structure Cfg where
  map : List Rng
  lat : List Int
  progs : List (List Req)
  deriving Inhabited, DecidableEq
theorem eInt_ok (x : Int) : (eInt x).length = 1 ∧ (eInt x).all D1.immB = true := ⟨rfl, rfl⟩
def eRng (r : Rng) : List D1 := [cI r.lo, cI r.hi, cI r.slave, cB r.only]
theorem eRng_len {r : Rng} : (eRng r).length = 4 := rfl
theorem eRng_take1 {r : Rng} : (eRng r).take 1 = [cI r.lo] := rfl
theorem eRng_drop1 {r : Rng} : (eRng r).drop 1 = [cI r.hi, cI r.slave, cB r.only] := rfl
theorem eRng_take2 {r : Rng} : (eRng r).take 2 = [cI r.lo, cI r.hi] := rfl
theorem eRng_drop2 {r : Rng} : (eRng r).drop 2 = [cI r.slave, cB r.only] := rfl
theorem eRng_take3 {r : Rng} : (eRng r).take 3 = [cI r.lo, cI r.hi, cI r.slave] := rfl
theorem eRng_drop3 {r : Rng} : (eRng r).drop 3 = [cB r.only] := rfl
theorem eRng_take4 {r : Rng} : (eRng r).take 4 = eRng r := rfl
theorem eRng_drop4 {r : Rng} : (eRng r).drop 4 = [] := rfl
theorem eRng_over {r : Rng} {cs : List D1} {k : Nat} : over cs (k + 1) (eRng r) = over cs (k + 1) [cI r.lo, cI r.hi, cI r.slave, cB r.only] := rfl
theorem eRng_app {r : Rng} {x : D1} {cs : List D1} : x :: cs ++ eRng r = x :: cs ++ [cI r.lo, cI r.hi, cI r.slave, cB r.only] := rfl
theorem eRng_ok (r : Rng) : (eRng r).length = 4 ∧ (eRng r).all D1.immB = true := ⟨rfl, rfl⟩
attribute [go_sem] eRng_len eRng_take1 eRng_drop1 eRng_take2 eRng_drop2 eRng_take3 eRng_drop3 eRng_take4 eRng_drop4 eRng_over
def eReq (q : Req) : List D1 := [cI q.id, cI q.kind, cI q.addr, cI q.many, cB q.wrap, .isl (q.data.map eInt), .isl (q.lanes.map eInt)]
theorem eReq_len {q : Req} : (eReq q).length = 7 := rfl
theorem eReq_take1 {q : Req} : (eReq q).take 1 = [cI q.id] := rfl
theorem eReq_drop1 {q : Req} : (eReq q).drop 1 = [cI q.kind, cI q.addr, cI q.many, cB q.wrap, .isl (q.data.map eInt), .isl (q.lanes.map eInt)] := rfl
theorem eReq_take2 {q : Req} : (eReq q).take 2 = [cI q.id, cI q.kind] := rfl
theorem eReq_drop2 {q : Req} : (eReq q).drop 2 = [cI q.addr, cI q.many, cB q.wrap, .isl (q.data.map eInt), .isl (q.lanes.map eInt)] := rfl
theorem eReq_take3 {q : Req} : (eReq q).take 3 = [cI q.id, cI q.kind, cI q.addr] := rfl
theorem eReq_drop3 {q : Req} : (eReq q).drop 3 = [cI q.many, cB q.wrap, .isl (q.data.map eInt), .isl (q.lanes.map eInt)] := rfl
theorem eReq_take4 {q : Req} : (eReq q).take 4 = [cI q.id, cI q.kind, cI q.addr, cI q.many] := rfl
theorem eReq_drop4 {q : Req} : (eReq q).drop 4 = [cB q.wrap, .isl (q.data.map eInt), .isl (q.lanes.map eInt)] := rfl
theorem eReq_take5 {q : Req} : (eReq q).take 5 = [cI q.id, cI q.kind, cI q.addr, cI q.many, cB q.wrap] := rfl
theorem eReq_drop5 {q : Req} : (eReq q).drop 5 = [.isl (q.data.map eInt), .isl (q.lanes.map eInt)] := rfl
theorem eReq_take6 {q : Req} : (eReq q).take 6 = [cI q.id, cI q.kind, cI q.addr, cI q.many, cB q.wrap, .isl (q.data.map eInt)] := rfl
theorem eReq_drop6 {q : Req} : (eReq q).drop 6 = [.isl (q.lanes.map eInt)] := rfl
theorem eReq_take7 {q : Req} : (eReq q).take 7 = eReq q := rfl
theorem eReq_drop7 {q : Req} : (eReq q).drop 7 = [] := rfl
theorem eReq_over {q : Req} {cs : List D1} {k : Nat} : over cs (k + 1) (eReq q) = over cs (k + 1) [cI q.id, cI q.kind, cI q.addr, cI q.many, cB q.wrap, .isl (q.data.map eInt), .isl (q.lanes.map eInt)] := rfl
theorem eReq_app {q : Req} {x : D1} {cs : List D1} : x :: cs ++ eReq q = x :: cs ++ [cI q.id, cI q.kind, cI q.addr, cI q.many, cB q.wrap, .isl (q.data.map eInt), .isl (q.lanes.map eInt)] := rfl
theorem eReq_ok (q : Req) : (eReq q).length = 7 ∧ (eReq q).all D1.immB = true := ⟨rfl, rfl⟩
attribute [go_sem] eReq_len eReq_take1 eReq_drop1 eReq_take2 eReq_drop2 eReq_take3 eReq_drop3 eReq_take4 eReq_drop4 eReq_take5 eReq_drop5 eReq_take6 eReq_drop6 eReq_take7 eReq_drop7 eReq_over
def eRsp (r : Rsp) : List D1 := [cI r.id, cI r.code, .isl (r.data.map eInt)]
theorem eRsp_len {r : Rsp} : (eRsp r).length = 3 := rfl
theorem eRsp_take1 {r : Rsp} : (eRsp r).take 1 = [cI r.id] := rfl
theorem eRsp_drop1 {r : Rsp} : (eRsp r).drop 1 = [cI r.code, .isl (r.data.map eInt)] := rfl
theorem eRsp_take2 {r : Rsp} : (eRsp r).take 2 = [cI r.id, cI r.code] := rfl
theorem eRsp_drop2 {r : Rsp} : (eRsp r).drop 2 = [.isl (r.data.map eInt)] := rfl
theorem eRsp_take3 {r : Rsp} : (eRsp r).take 3 = eRsp r := rfl
theorem eRsp_drop3 {r : Rsp} : (eRsp r).drop 3 = [] := rfl
theorem eRsp_over {r : Rsp} {cs : List D1} {k : Nat} : over cs (k + 1) (eRsp r) = over cs (k + 1) [cI r.id, cI r.code, .isl (r.data.map eInt)] := rfl
theorem eRsp_app {r : Rsp} {x : D1} {cs : List D1} : x :: cs ++ eRsp r = x :: cs ++ [cI r.id, cI r.code, .isl (r.data.map eInt)] := rfl
theorem eRsp_ok (r : Rsp) : (eRsp r).length = 3 ∧ (eRsp r).all D1.immB = true := ⟨rfl, rfl⟩
attribute [go_sem] eRsp_len eRsp_take1 eRsp_drop1 eRsp_take2 eRsp_drop2 eRsp_take3 eRsp_drop3 eRsp_over
def eJob (j : Job) : List D1 := [cI j.who, cI j.n, cI j.rsp.id, cI j.rsp.code, .isl (j.rsp.data.map eInt)]
theorem eJob_len {j : Job} : (eJob j).length = 5 := rfl
theorem eJob_take1 {j : Job} : (eJob j).take 1 = [cI j.who] := rfl
theorem eJob_drop1 {j : Job} : (eJob j).drop 1 = [cI j.n, cI j.rsp.id, cI j.rsp.code, .isl (j.rsp.data.map eInt)] := rfl
theorem eJob_take2 {j : Job} : (eJob j).take 2 = [cI j.who, cI j.n] := rfl
theorem eJob_drop2 {j : Job} : (eJob j).drop 2 = [cI j.rsp.id, cI j.rsp.code, .isl (j.rsp.data.map eInt)] := rfl
theorem eJob_take3 {j : Job} : (eJob j).take 3 = [cI j.who, cI j.n, cI j.rsp.id] := rfl
theorem eJob_drop3 {j : Job} : (eJob j).drop 3 = [cI j.rsp.code, .isl (j.rsp.data.map eInt)] := rfl
theorem eJob_take4 {j : Job} : (eJob j).take 4 = [cI j.who, cI j.n, cI j.rsp.id, cI j.rsp.code] := rfl
theorem eJob_drop4 {j : Job} : (eJob j).drop 4 = [.isl (j.rsp.data.map eInt)] := rfl
theorem eJob_take5 {j : Job} : (eJob j).take 5 = eJob j := rfl
theorem eJob_drop5 {j : Job} : (eJob j).drop 5 = [] := rfl
theorem eJob_over {j : Job} {cs : List D1} {k : Nat} : over cs (k + 1) (eJob j) = over cs (k + 1) [cI j.who, cI j.n, cI j.rsp.id, cI j.rsp.code, .isl (j.rsp.data.map eInt)] := rfl
theorem eJob_app {j : Job} {x : D1} {cs : List D1} : x :: cs ++ eJob j = x :: cs ++ [cI j.who, cI j.n, cI j.rsp.id, cI j.rsp.code, .isl (j.rsp.data.map eInt)] := rfl
theorem eJob_ok (j : Job) : (eJob j).length = 5 ∧ (eJob j).all D1.immB = true := ⟨rfl, rfl⟩
attribute [go_sem] eJob_len eJob_take1 eJob_drop1 eJob_take2 eJob_drop2 eJob_take3 eJob_drop3 eJob_take4 eJob_drop4 eJob_take5 eJob_drop5 eJob_over
def eEv (v : Ev) : List D1 := [cI v.kind, cI v.who, cI v.n]
theorem eEv_len {v : Ev} : (eEv v).length = 3 := rfl
theorem eEv_take1 {v : Ev} : (eEv v).take 1 = [cI v.kind] := rfl
theorem eEv_drop1 {v : Ev} : (eEv v).drop 1 = [cI v.who, cI v.n] := rfl
theorem eEv_take2 {v : Ev} : (eEv v).take 2 = [cI v.kind, cI v.who] := rfl
theorem eEv_drop2 {v : Ev} : (eEv v).drop 2 = [cI v.n] := rfl
theorem eEv_take3 {v : Ev} : (eEv v).take 3 = eEv v := rfl
theorem eEv_drop3 {v : Ev} : (eEv v).drop 3 = [] := rfl
theorem eEv_over {v : Ev} {cs : List D1} {k : Nat} : over cs (k + 1) (eEv v) = over cs (k + 1) [cI v.kind, cI v.who, cI v.n] := rfl
theorem eEv_app {v : Ev} {x : D1} {cs : List D1} : x :: cs ++ eEv v = x :: cs ++ [cI v.kind, cI v.who, cI v.n] := rfl
theorem eEv_ok (v : Ev) : (eEv v).length = 3 ∧ (eEv v).all D1.immB = true := ⟨rfl, rfl⟩
attribute [go_sem] eEv_len eEv_take1 eEv_drop1 eEv_take2 eEv_drop2 eEv_take3 eEv_drop3 eEv_over
abbrev Prog := List Req
def eProg (p : Prog) : List D1 := [.isl (p.map eReq)]
theorem eProg_len {p : Prog} : (eProg p).length = 1 := rfl
theorem eProg_take1 {p : Prog} : (eProg p).take 1 = [.isl (p.map eReq)] := rfl
theorem eProg_drop1 {p : Prog} : (eProg p).drop 1 = [] := rfl
theorem eProg_over {p : Prog} {cs : List D1} {k : Nat} : over cs (k + 1) (eProg p) = over cs (k + 1) [.isl (p.map eReq)] := rfl
theorem eProg_app {p : Prog} {x : D1} {cs : List D1} : x :: cs ++ eProg p = x :: cs ++ [.isl (p.map eReq)] := rfl
theorem eProg_ok (p : Prog) : (eProg p).length = 1 ∧ (eProg p).all D1.immB = true := ⟨rfl, rfl⟩
attribute [go_sem] eProg_len eProg_take1 eProg_drop1 eProg_over
def eCfg (c : Cfg) : List D1 := [.isl (c.map.map eRng), .isl (c.lat.map eInt), .isl (c.progs.map eProg)]
theorem eCfg_len {c : Cfg} : (eCfg c).length = 3 := rfl
theorem eCfg_take1 {c : Cfg} : (eCfg c).take 1 = [.isl (c.map.map eRng)] := rfl
theorem eCfg_drop1 {c : Cfg} : (eCfg c).drop 1 = [.isl (c.lat.map eInt), .isl (c.progs.map eProg)] := rfl
theorem eCfg_take2 {c : Cfg} : (eCfg c).take 2 = [.isl (c.map.map eRng), .isl (c.lat.map eInt)] := rfl
theorem eCfg_drop2 {c : Cfg} : (eCfg c).drop 2 = [.isl (c.progs.map eProg)] := rfl
theorem eCfg_take3 {c : Cfg} : (eCfg c).take 3 = eCfg c := rfl
theorem eCfg_drop3 {c : Cfg} : (eCfg c).drop 3 = [] := rfl
theorem eCfg_over {c : Cfg} {cs : List D1} {k : Nat} : over cs (k + 1) (eCfg c) = over cs (k + 1) [.isl (c.map.map eRng), .isl (c.lat.map eInt), .isl (c.progs.map eProg)] := rfl
theorem eCfg_app {c : Cfg} {x : D1} {cs : List D1} : x :: cs ++ eCfg c = x :: cs ++ [.isl (c.map.map eRng), .isl (c.lat.map eInt), .isl (c.progs.map eProg)] := rfl
theorem eCfg_ok (c : Cfg) : (eCfg c).length = 3 ∧ (eCfg c).all D1.immB = true := ⟨rfl, rfl⟩
attribute [go_sem] eCfg_len eCfg_take1 eCfg_drop1 eCfg_take2 eCfg_drop2 eCfg_take3 eCfg_drop3 eCfg_over

def AdrOkP (addr many : Int) (wrap : Bool) : Prop := (many = 1 ∨ many = 2 ∨ many = 4) ∧ (0 ≤ addr ∧ addr ≤ 63) ∧ (wrap = true ∨ addr + many - 1 ≤ 63)
instance {addr many : Int} {wrap : Bool} : Decidable (AdrOkP addr many wrap) := by unfold AdrOkP; infer_instance

def inR (r : Rng) (a : Int) : Bool := decide (r.lo ≤ a ∧ a ≤ r.hi)
/-- The place of the first that fits; -1, if there is none. -/
def idxM {α : Type} (p : α → Bool) (l : List α) : Int := match l.findIdx? p with
  | some k => k
  | none => -1
theorem idxM_at {α : Type} [Inhabited α] {p : α → Bool} {l : List α} {k : Nat} (hk : k < l.length) (h : p (l.getD k default) = true) (hinv : ∀ i, i < k → p (l.getD i default) = false) : idxM p l = k := by
  have : l.findIdx? p = some k := by
    rw [List.findIdx?_eq_some_iff_getElem]
    refine ⟨hk, by simpa [List.getD, hk] using h, fun j hj => ?_⟩
    have := hinv j hj
    have hj2 : j < l.length := by omega
    simpa [List.getD, hj2] using this
  simp [idxM, this]
theorem idxM_none {α : Type} [Inhabited α] {p : α → Bool} {l : List α} (hinv : ∀ i, i < l.length → p (l.getD i default) = false) : idxM p l = -1 := by
  have : l.findIdx? p = none := by
    rw [List.findIdx?_eq_none_iff]
    intro x hx
    obtain ⟨i, hi, rfl⟩ := List.mem_iff_getElem.1 hx
    have := hinv i hi
    simpa [List.getD, hi] using this
  simp [idxM, this]
theorem idxM_lt {α : Type} {p : α → Bool} {l : List α} : idxM p l < l.length := by
  unfold idxM; split
  · rename_i k h; have := (List.findIdx?_eq_some_iff_getElem.1 h).1; omega
  · omega
theorem idxM_ge {α : Type} {p : α → Bool} {l : List α} : -1 ≤ idxM p l := by
  unfold idxM; split <;> omega
/-- One place more. -/
theorem inv_succ {P : Nat → Prop} {k : Nat} (h : ∀ i, i < k → P i) (hk : P k) : ∀ i, i < k + 1 → P i := fun i hi => by
  rcases Nat.lt_succ_iff_lt_or_eq.1 hi with hi | rfl
  · exact h i hi
  · exact hk
/-- The range in which all addresses are; -1, if there is none. -/
def wholeM (l : List Rng) (all : List Int) : Int :=
  if all.length = 0 then -1 else if all.all (fun a => decide (idxM (inR · a) l = idxM (inR · (all.getD 0 default)) l)) then idxM (inR · (all.getD 0 default)) l else -1
theorem wholeM_nil {l : List Rng} {all : List Int} (h : all.length = 0) : wholeM l all = -1 := by simp [wholeM, h]
theorem wholeM_yes {l : List Rng} {all : List Int} (h : ¬ all.length = 0) (hinv : ∀ i, i < all.length → 1 ≤ i → idxM (inR · (all.getD i default)) l = idxM (inR · (all.getD 0 default)) l) : wholeM l all = idxM (inR · (all.getD 0 default)) l := by
  unfold wholeM
  rw [if_neg h, if_pos]
  rw [List.all_eq_true]
  intro a ha
  obtain ⟨i, hi, rfl⟩ := List.mem_iff_getElem.1 ha
  rcases Nat.eq_zero_or_pos i with rfl | hp
  · simp [List.getD, hi]
  · have := hinv i hi hp
    simp only [List.getD, hi, List.getElem?_eq_getElem, Option.getD_some] at this
    exact decide_eq_true this
theorem wholeM_no {l : List Rng} {all : List Int} {i : Nat} (h : i < all.length) (hne : ¬ idxM (inR · (all.getD i default)) l = idxM (inR · (all.getD 0 default)) l) : wholeM l all = -1 := by
  unfold wholeM
  rw [if_neg (by omega), if_neg]
  rw [List.all_eq_true]
  intro hall
  have := hall (all.getD i default) (by simp [List.getD, h])
  exact hne (of_decide_eq_true this)
def wrM (q : Req) : Bool := decide (q.kind = 2 ∨ q.kind = 4)
def bAt (addr many : Int) (wrap : Bool) (k : Nat) : Int := if wrap then addr - addr % many + (addr + k) % many else addr + k
def burstM (addr many : Int) (wrap : Bool) : List Int := if AdrOkP addr many wrap then (List.range many.toNat).map (bAt addr many wrap) else []
theorem bAt_spec {addr many : Int} {wrap : Bool} (h : AdrOkP addr many wrap) (k : Nat) : addr - addr.tmod many + (addr - (addr - addr.tmod many) + k).tmod many = addr - addr % many + (addr + k) % many := by
  obtain ⟨h1, h2, h3⟩ := h
  rw [Int.tmod_eq_emod_of_nonneg (by omega)]
  rw [Int.tmod_eq_emod_of_nonneg (by rcases h1 with rfl | rfl | rfl <;> omega)]
  rcases h1 with rfl | rfl | rfl <;> omega
theorem adrOk_facts {addr many : Int} {wrap : Bool} (h : AdrOkP addr many wrap) : ¬ many = 0 ∧ 0 < many ∧ many ≤ 4 ∧ 0 ≤ addr ∧ addr ≤ 63 ∧ addr.tmod many = addr % many ∧ 0 ≤ addr % many ∧ addr % many ≤ addr := by
  obtain ⟨h1, h2, h3⟩ := h
  rw [Int.tmod_eq_emod_of_nonneg (by omega)]
  rcases h1 with rfl | rfl | rfl <;> omega
theorem bAt_facts {addr many : Int} {wrap : Bool} (h : AdrOkP addr many wrap) (k : Nat) (hk : k < many.toNat) : 0 ≤ (addr - (addr - addr % many) + k).tmod many ∧ (addr - (addr - addr % many) + k).tmod many < 4 ∧ addr - addr % many + (addr - (addr - addr % many) + k).tmod many = addr - addr % many + (addr + k) % many := by
  obtain ⟨h1, h2, h3⟩ := h
  rw [Int.tmod_eq_emod_of_nonneg (by rcases h1 with rfl | rfl | rfl <;> omega)]
  rcases h1 with rfl | rfl | rfl <;> omega
theorem burst_snoc {addr many : Int} {wrap : Bool} {k : Nat} {x : Int} (h : x = bAt addr many wrap k) : (List.range (k + 1)).map (bAt addr many wrap) = (List.range k).map (bAt addr many wrap) ++ [x] := by
  rw [List.range_succ, List.map_append, h]; rfl
theorem bAt_in {addr many : Int} {wrap : Bool} (h : AdrOkP addr many wrap) {k : Nat} (hk : k < many.toNat) : 0 ≤ bAt addr many wrap k ∧ bAt addr many wrap k ≤ 63 := by
  obtain ⟨h1, h2, h3⟩ := h
  unfold bAt
  split
  · rcases h1 with rfl | rfl | rfl <;> omega
  · rename_i hw
    simp [hw] at h3
    omega
theorem burstM_in {addr many : Int} {wrap : Bool} : ∀ a ∈ burstM addr many wrap, 0 ≤ a ∧ a ≤ 63 := by
  intro a ha
  unfold burstM at ha
  split at ha
  · rename_i h
    obtain ⟨k, hk, rfl⟩ := List.mem_map.1 ha
    exact bAt_in h (List.mem_range.1 hk)
  · simp at ha
theorem burstM_len {addr many : Int} {wrap : Bool} (h : AdrOkP addr many wrap) : (burstM addr many wrap).length = many.toNat := by simp [burstM, h]
theorem burstM_le {addr many : Int} {wrap : Bool} : (burstM addr many wrap).length ≤ 4 := by
  unfold burstM
  split
  · rename_i h; obtain ⟨h1, _⟩ := h; simp; rcases h1 with rfl | rfl | rfl <;> omega
  · simp
theorem idxM_nonneg {α : Type} {p : α → Bool} {l : List α} : 0 ≤ idxM p l ↔ ∃ x ∈ l, p x = true := by
  unfold idxM
  split
  · rename_i k h
    obtain ⟨h1, h2, _⟩ := List.findIdx?_eq_some_iff_getElem.1 h
    exact ⟨fun _ => ⟨_, List.getElem_mem h1, h2⟩, fun _ => by omega⟩
  · rename_i h
    rw [List.findIdx?_eq_none_iff] at h
    exact ⟨fun h => by omega, fun ⟨x, hx, hp⟩ => by rw [h x hx] at hp; cases hp⟩
structure TSt where
  words : List Int
  holds : List Int
  asked : List Int
  wait : List Job
  done : List Job
  told : List Job
  deriving Inhabited, DecidableEq
def eSt (s : TSt) : List D1 := [.isl (s.words.map eInt), .isl (s.holds.map eInt), .isl (s.asked.map eInt), .isl (s.wait.map eJob), .isl (s.done.map eJob), .isl (s.told.map eJob)]
theorem eSt_len {s : TSt} : (eSt s).length = 6 := rfl
theorem eSt_take1 {s : TSt} : (eSt s).take 1 = [.isl (s.words.map eInt)] := rfl
theorem eSt_drop1 {s : TSt} : (eSt s).drop 1 = [.isl (s.holds.map eInt), .isl (s.asked.map eInt), .isl (s.wait.map eJob), .isl (s.done.map eJob), .isl (s.told.map eJob)] := rfl
theorem eSt_take2 {s : TSt} : (eSt s).take 2 = [.isl (s.words.map eInt), .isl (s.holds.map eInt)] := rfl
theorem eSt_drop2 {s : TSt} : (eSt s).drop 2 = [.isl (s.asked.map eInt), .isl (s.wait.map eJob), .isl (s.done.map eJob), .isl (s.told.map eJob)] := rfl
theorem eSt_take3 {s : TSt} : (eSt s).take 3 = [.isl (s.words.map eInt), .isl (s.holds.map eInt), .isl (s.asked.map eInt)] := rfl
theorem eSt_drop3 {s : TSt} : (eSt s).drop 3 = [.isl (s.wait.map eJob), .isl (s.done.map eJob), .isl (s.told.map eJob)] := rfl
theorem eSt_take4 {s : TSt} : (eSt s).take 4 = [.isl (s.words.map eInt), .isl (s.holds.map eInt), .isl (s.asked.map eInt), .isl (s.wait.map eJob)] := rfl
theorem eSt_drop4 {s : TSt} : (eSt s).drop 4 = [.isl (s.done.map eJob), .isl (s.told.map eJob)] := rfl
theorem eSt_take5 {s : TSt} : (eSt s).take 5 = [.isl (s.words.map eInt), .isl (s.holds.map eInt), .isl (s.asked.map eInt), .isl (s.wait.map eJob), .isl (s.done.map eJob)] := rfl
theorem eSt_drop5 {s : TSt} : (eSt s).drop 5 = [.isl (s.told.map eJob)] := rfl
theorem eSt_take6 {s : TSt} : (eSt s).take 6 = eSt s := rfl
theorem eSt_drop6 {s : TSt} : (eSt s).drop 6 = [] := rfl
theorem eSt_over {s : TSt} {cs : List D1} {k : Nat} : over cs (k + 1) (eSt s) = over cs (k + 1) [.isl (s.words.map eInt), .isl (s.holds.map eInt), .isl (s.asked.map eInt), .isl (s.wait.map eJob), .isl (s.done.map eJob), .isl (s.told.map eJob)] := rfl
theorem eSt_app {s : TSt} {x : D1} {cs : List D1} : x :: cs ++ eSt s = x :: cs ++ [.isl (s.words.map eInt), .isl (s.holds.map eInt), .isl (s.asked.map eInt), .isl (s.wait.map eJob), .isl (s.done.map eJob), .isl (s.told.map eJob)] := rfl
theorem eSt_ok (s : TSt) : (eSt s).length = 6 ∧ (eSt s).all D1.immB = true := ⟨rfl, rfl⟩
attribute [go_sem] eSt_len eSt_take1 eSt_drop1 eSt_take2 eSt_drop2 eSt_take3 eSt_drop3 eSt_take4 eSt_drop4 eSt_take5 eSt_drop5 eSt_take6 eSt_drop6 eSt_over
def All (l : List Int) (lo up : Int) : Prop := ∀ x ∈ l, lo ≤ x ∧ x ≤ up
instance {l : List Int} {lo up : Int} : Decidable (All l lo up) := by unfold All; infer_instance
theorem all_idx {l : List Int} {lo up : Int} : All l lo up ↔ ¬ 0 ≤ idxM (fun x => decide (¬ (lo ≤ x ∧ x ≤ up))) l := by
  rw [idxM_nonneg]
  unfold All
  refine ⟨fun h ⟨x, hx, hp⟩ => of_decide_eq_true hp (h x hx), fun h x hx => ?_⟩
  by_cases hc : lo ≤ x ∧ x ≤ up
  · exact hc
  · exact absurd ⟨x, hx, decide_eq_true hc⟩ h
def manyOf (q : Req) : Int := if q.kind = 2 ∨ q.kind = 4 then q.many else 0
def ReqOkP (q : Req) : Prop := (0 ≤ q.id ∧ q.id ≤ 1) ∧ (1 ≤ q.kind ∧ q.kind ≤ 4) ∧ AdrOkP q.addr q.many q.wrap ∧ (q.data.length : Int) = manyOf q ∧ (q.lanes.length : Int) = manyOf q ∧ All q.data 0 65535 ∧ All q.lanes 0 3 ∧ (q.kind = 1 ∨ q.kind = 2 ∨ q.many = 1)
instance {q : Req} : Decidable (ReqOkP q) := by unfold ReqOkP; infer_instance
def overR (q r : Rng) : Bool := decide (q.lo ≤ r.hi ∧ r.lo ≤ q.hi)
def RngOkP (r : Rng) : Prop := (0 ≤ r.lo ∧ r.lo ≤ 63) ∧ (r.lo ≤ r.hi ∧ r.hi ≤ 63) ∧ (0 ≤ r.slave ∧ r.slave ≤ 2)
instance {r : Rng} : Decidable (RngOkP r) := by unfold RngOkP; infer_instance
def MapAt (l : List Rng) (i : Nat) : Prop := RngOkP (l.getD i default) ∧ ¬ 0 ≤ idxM (fun q => overR q (l.getD i default)) (l.take i)
instance {l : List Rng} {i : Nat} : Decidable (MapAt l i) := by unfold MapAt; infer_instance
def MapOkP (l : List Rng) : Prop := (l.length : Int) ≤ 4 ∧ ∀ i, i < l.length → MapAt l i
instance {l : List Rng} : Decidable (MapOkP l) := by unfold MapOkP; infer_instance
def ProgOkP (p : List Req) : Prop := (p.length : Int) ≤ 12 ∧ ¬ 0 ≤ idxM (fun q => decide (¬ ReqOkP q)) p
instance {p : List Req} : Decidable (ProgOkP p) := by unfold ProgOkP; infer_instance
def BusOkP (c : Cfg) : Prop := MapOkP c.map ∧ (c.lat.length : Int) = 4 ∧ All c.lat 0 3 ∧ (c.progs.length : Int) = 3 ∧ ¬ 0 ≤ idxM (fun p => decide (¬ ProgOkP p)) c.progs
instance {c : Cfg} : Decidable (BusOkP c) := by unfold BusOkP; infer_instance
def AtmOkP (w h : List Int) : Prop := ((w.length : Int) = 64 ∧ All w 0 65535) ∧ (h.length : Int) = 6 ∧ All h (-1) 63
instance {w h : List Int} : Decidable (AtmOkP w h) := by unfold AtmOkP; infer_instance
/-- How long lists may be. -/
structure CfgFit (c : Cfg) : Prop where
  map : c.map.length < 2 ^ 40
  lat : c.lat.length < 2 ^ 40
  progs : c.progs.length < 2 ^ 40
  prog : ∀ p ∈ c.progs, p.length < 2 ^ 40
  req : ∀ p ∈ c.progs, ∀ q ∈ p, q.data.length < 2 ^ 40 ∧ q.lanes.length < 2 ^ 40
/-- What is asked. -/
def reqAt (c : Cfg) (who n : Int) : Req := (c.progs.getD who.toNat default).getD n.toNat default
def asksP (c : Cfg) (who n : Int) : Prop := (0 ≤ who ∧ who ≤ 2) ∧ 0 ≤ n ∧ n ≤ (c.progs.getD who.toNat default).length - 1
instance {c : Cfg} {who n : Int} : Decidable (asksP c who n) := by unfold asksP; infer_instance
def isJob (who n : Int) (j : Job) : Bool := decide (j.who = who ∧ j.n = n)
def aheadJ (c : Cfg) (e : Ev) (j : Job) : Bool := decide ((j.who = e.who ∧ j.n < e.n) ∧ (reqAt c j.who j.n).id = (reqAt c e.who e.n).id)
theorem CfgFit.at {c : Cfg} (h : CfgFit c) (k : Nat) : (c.progs.getD k default).length < 2 ^ 40 := by
  by_cases hk : k < c.progs.length
  · exact h.prog _ (by simp [List.getD, hk])
  · have : c.progs.getD k default = [] := by simp [List.getD, hk]; rfl
    rw [this]; decide
end Go.AM
end

section
/- What may happen: models. -/
namespace Go.AM
def whyM (c : Cfg) (s : TSt) (e : Ev) : Int :=
  if ¬ (asksP c e.who e.n ∧ 1 ≤ e.kind ∧ e.kind ≤ 3) then 1 else
  if e.kind = 1 then (if ¬ e.n = s.asked.getD e.who.toNat default then 2 else 0) else
  if e.kind = 2 then (if idxM (isJob e.who e.n) s.wait < 0 then 3 else if 0 ≤ idxM (aheadJ c e) s.wait then 4 else 0) else
  if idxM (isJob e.who e.n) s.done < 0 then 5 else if 0 ≤ idxM (aheadJ c e) s.wait ∨ 0 ≤ idxM (aheadJ c e) s.done then 6 else 0
/-- How a bus may stand, as far as walks need it. -/
structure StFit (c : Cfg) (s : TSt) : Prop where
  words : s.words.length = 64
  holds : s.holds.length = 6
  asked : s.asked.length = 3
  waitL : s.wait.length < 2 ^ 20
  doneL : s.done.length < 2 ^ 20
  toldL : s.told.length < 2 ^ 20
  wait : ∀ j ∈ s.wait, asksP c j.who j.n
  done : ∀ j ∈ s.done, asksP c j.who j.n
  told : ∀ j ∈ s.told, asksP c j.who j.n
end Go.AM
end

section
/- Jobs in order: models. -/
namespace Go.AM
theorem eJob_fold {j : Job} : [cI j.who, cI j.n, cI j.rsp.id, cI j.rsp.code, .isl (j.rsp.data.map eInt)] = eJob j := rfl
theorem eRsp_fold {r : Rsp} : [cI r.id, cI r.code, .isl (r.data.map eInt)] = eRsp r := rfl
def befJ (a b : Job) : Bool := decide (a.who < b.who ∨ (a.who = b.who ∧ a.n < b.n))
def putJ (l : List Job) (j : Job) : List Job := l.take (l.findIdx (befJ j)) ++ j :: l.drop (l.findIdx (befJ j))
def outJ (l : List Job) (at_ : Nat) : List Job := l.take at_ ++ l.drop (at_ + 1)
/-- What has been put behind k rounds, where f is the place. -/
def putK (l : List Job) (j : Job) (f k : Nat) : List Job := if k ≤ f then l.take k else l.take f ++ j :: (l.take k).drop f
theorem take_snoc {α : Type} [Inhabited α] {l : List α} {k : Nat} (h : k < l.length) : l.take (k + 1) = l.take k ++ [l.getD k default] := by
  rw [List.take_succ_eq_append_getElem h]; simp [List.getD, h]
theorem putK_lt {l : List Job} {j : Job} {f k : Nat} (h : k < l.length) (hf : k < f) : putK l j f (k + 1) = putK l j f k ++ [l.getD k default] := by
  unfold putK
  rw [if_pos (by omega), if_pos (by omega), take_snoc h]
theorem putK_eq {l : List Job} {j : Job} {f k : Nat} (h : k < l.length) (hf : k = f) : putK l j f (k + 1) = (putK l j f k ++ [j]) ++ [l.getD k default] := by
  subst hf
  unfold putK
  rw [if_neg (by omega), if_pos (Nat.le_refl _), take_snoc h, List.drop_append_of_le_length (by simp; omega)]
  rw [List.drop_of_length_le (by simp; omega)]
  simp
theorem putK_gt {l : List Job} {j : Job} {f k : Nat} (h : k < l.length) (hf : f < k) : putK l j f (k + 1) = putK l j f k ++ [l.getD k default] := by
  unfold putK
  rw [if_neg (by omega), if_neg (by omega), take_snoc h, List.drop_append_of_le_length (by simp; omega)]
  simp
theorem putK_len {l : List Job} {j : Job} {f k : Nat} (h : k ≤ l.length) : (putK l j f k).length ≤ k + 1 := by
  unfold putK; split <;> simp <;> omega
theorem putK_end {l : List Job} {j : Job} (hf : l.findIdx (befJ j) < l.length) : putK l j (l.findIdx (befJ j)) l.length = putJ l j := by
  unfold putK putJ; rw [if_neg (by omega)]; simp
theorem putK_end' {l : List Job} {j : Job} (hf : ¬ l.findIdx (befJ j) < l.length) : putK l j (l.findIdx (befJ j)) l.length ++ [j] = putJ l j := by
  have : l.findIdx (befJ j) = l.length := by have := List.findIdx_le_length (p := befJ j) (xs := l); omega
  unfold putK putJ; rw [this]; simp
theorem befJ_at {l : List Job} {j : Job} {k : Nat} (h : k < l.length) (hk : k ≤ l.findIdx (befJ j)) : befJ j (l.getD k default) = true ↔ k = l.findIdx (befJ j) := by
  have hg : l.getD k default = l[k] := by simp [List.getD, h]
  rw [hg]
  constructor
  · intro hb
    have : ¬ k < l.findIdx (befJ j) := fun hlt => by
      have := List.not_of_lt_findIdx hlt
      simp [hb] at this
    omega
  · intro he
    have hlt : l.findIdx (befJ j) < l.length := by omega
    have := List.findIdx_getElem (w := hlt)
    subst he
    simpa using this
def outK (l : List Job) (a k : Nat) : List Job := if k ≤ a then l.take k else l.take a ++ (l.take k).drop (a + 1)
theorem outK_eq {l : List Job} {a k : Nat} (h : k < l.length) (hk : k = a) : outK l a (k + 1) = outK l a k := by
  subst hk
  unfold outK
  rw [if_neg (by omega), if_pos (Nat.le_refl _), List.drop_of_length_le (by simp; omega)]; simp
theorem outK_ne {l : List Job} {a k : Nat} (h : k < l.length) (hk : ¬ k = a) : outK l a (k + 1) = outK l a k ++ [l.getD k default] := by
  unfold outK
  by_cases hlt : k < a
  · rw [if_pos (by omega), if_pos (by omega), take_snoc h]
  · rw [if_neg (by omega), if_neg (by omega), take_snoc h, List.drop_append_of_le_length (by simp; omega)]; simp
theorem outK_len {l : List Job} {a k : Nat} (h : k ≤ l.length) : (outK l a k).length ≤ k := by
  unfold outK; split <;> simp <;> omega
theorem outK_end {l : List Job} {a : Nat} (h : a < l.length) : outK l a l.length = outJ l a := by
  unfold outK outJ; rw [if_neg (by omega)]; simp
end Go.AM
end

section
/- Drawing from a code: data. -/
namespace Go.AM
def eU8 (x : Int) : List D1 := [.v (.int .u8 x)]
theorem eU8_ok (x : Int) : (eU8 x).length = 1 ∧ (eU8 x).all D1.immB = true := ⟨rfl, rfl⟩
attribute [go_sem] eU8
def rdO (l : List Int) (p : Nat) : AObj := ⟨2, 1, [[.isl (l.map eU8), cI p]]⟩
structure CodeOk (l : List Int) : Prop where
  len : l.length < 2 ^ 40
  byte : ∀ x ∈ l, 0 ≤ x ∧ x < 256
theorem CodeOk.at {l : List Int} (h : CodeOk l) (k : Nat) : 0 ≤ l.getD k default ∧ l.getD k default < 256 := by
  by_cases hk : k < l.length
  · exact h.byte _ (by simp [List.getD, hk])
  · have : l.getD k default = 0 := by simp [List.getD, hk]
    omega
theorem rdO_imm (l : List Int) (p : Nat) : immO (rdO l p) := by
  intro r hr x hx
  simp only [rdO, List.mem_singleton] at hr
  subst hr
  simp at hx
  rcases hx with rfl | rfl <;> rfl
theorem xor_in {a b : Int} (ha : 0 ≤ a ∧ a < 9223372036854775808) (hb : 0 ≤ b ∧ b < 9223372036854775808) : 0 ≤ IntKind.i64.wrap ((BitVec.ofInt 64 a ^^^ BitVec.ofInt 64 b).toNat : Nat) := by
  have h : (BitVec.ofInt 64 a ^^^ BitVec.ofInt 64 b).toNat < 2 ^ 63 := by
    rw [BitVec.toNat_xor, BitVec.toNat_ofInt, BitVec.toNat_ofInt]
    refine Nat.xor_lt_two_pow ?_ ?_ <;> omega
  have h2 : (BitVec.ofInt 64 a ^^^ BitVec.ofInt 64 b).toNat < 9223372036854775808 := h
  rw [IntWalk.i64_in _ (by omega)]
  omega
end Go.AM
end

section
/- What is drawn. -/
namespace Go.AM
def map3 (b : Bool) : List Rng := [⟨0, 15, 0, false⟩, ⟨16, 31, 1, false⟩, ⟨32, 47, 2, b⟩]
def map4 (x : Int) (b : Bool) : List Rng := [⟨0, 7, 0, false⟩, ⟨8, 15, 1, false⟩, ⟨20, 40, x, false⟩, ⟨41, 63, 2, b⟩]
theorem map3_ok (b : Bool) (k : Nat) (h : k ≤ 3) : MapOkP ((map3 b).take k) := by
  have : k = 0 ∨ k = 1 ∨ k = 2 ∨ k = 3 := by omega
  rcases this with rfl | rfl | rfl | rfl <;> cases b <;> decide
theorem map4_ok (x : Int) (b : Bool) (h : 0 ≤ x ∧ x ≤ 2) : MapOkP (map4 x b) := by
  have : x = 0 ∨ x = 1 ∨ x = 2 := by omega
  rcases this with rfl | rfl | rfl <;> cases b <;> decide
theorem all_snoc {l : List Int} {lo up x : Int} (h : All l lo up) (h1 : lo ≤ x) (h2 : x ≤ up) : All (l ++ [x]) lo up := by
  intro y hy
  rcases List.mem_append.1 hy with hy | hy
  · exact h y hy
  · simp at hy; subst hy; exact ⟨h1, h2⟩
end Go.AM
end

section
/- What happens, and how a bus stands behind it: models. -/
namespace Go.AM
theorem getD_mem {α : Type} [Inhabited α] {l : List α} {k : Nat} (h : k < l.length) : l.getD k default ∈ l := by simp [List.getD, h]
def rsp0 : Rsp := ⟨0, 0, []⟩
def wrdPut (old new lanes : Int) : Int := (if lanes / 2 = 1 then new / 256 else old / 256) * 256 + (if lanes % 2 = 1 then new % 256 else old % 256)
theorem wrdPut_in {old new lanes : Int} (h1 : 0 ≤ old ∧ old ≤ 65535) (h2 : 0 ≤ new ∧ new ≤ 65535) : 0 ≤ wrdPut old new lanes ∧ wrdPut old new lanes ≤ 65535 := by
  unfold wrdPut; split <;> split <;> omega
def putN (w all data lanes : List Int) : Nat → List Int
  | 0 => w
  | k + 1 => (putN w all data lanes k).set (all.getD k default).toNat (wrdPut ((putN w all data lanes k).getD (all.getD k default).toNat default) (data.getD k default) (lanes.getD k default))
theorem getD_in {l : List Int} {lo up : Int} (h : All l lo up) {k : Nat} (hk : k < l.length) : lo ≤ l.getD k default ∧ l.getD k default ≤ up := h _ (by simp [List.getD, hk])
theorem getD_in0 {l : List Int} {up : Int} (h : All l 0 up) (hu : 0 ≤ up) (k : Nat) : 0 ≤ l.getD k default ∧ l.getD k default ≤ up := by
  by_cases hk : k < l.length
  · exact getD_in h hk
  · have : l.getD k default = 0 := by simp [List.getD, hk]
    omega
theorem all_set {l : List Int} {lo up x : Int} {i : Nat} (h : All l lo up) (h1 : lo ≤ x ∧ x ≤ up) : All (l.set i x) lo up := by
  intro y hy
  rcases List.mem_or_eq_of_mem_set hy with h2 | h2
  · exact h y h2
  · subst h2; exact h1
theorem putN_len {w all data lanes : List Int} (k : Nat) : (putN w all data lanes k).length = w.length := by
  induction k with
  | zero => rfl
  | succ k ih => simp only [putN, List.length_set, ih]
theorem putN_in {w all data lanes : List Int} (hw : All w 0 65535) (hd : All data 0 65535) (k : Nat) : All (putN w all data lanes k) 0 65535 := by
  induction k with
  | zero => exact hw
  | succ k ih => exact all_set ih (wrdPut_in (getD_in0 ih (by decide) _) (getD_in0 hd (by decide) _))
def freeM (h all : List Int) : List Int := h.map fun x => if x ∈ all then -1 else x
theorem freeM_in {h all : List Int} (hh : All h (-1) 63) : All (freeM h all) (-1) 63 := by
  intro x hx
  obtain ⟨y, hy, rfl⟩ := List.mem_map.1 hx
  have := hh y hy
  split <;> omega
def doM (m : List Rng) (w h : List Int) (who : Int) (q : Req) : (List Int × List Int) × Rsp :=
  if wholeM m (burstM q.addr q.many q.wrap) < 0 then ((w, h), ⟨q.id, 4, []⟩) else
  if wrM q = true ∧ (m.getD (wholeM m (burstM q.addr q.many q.wrap)).toNat default).only = true then ((w, h), ⟨q.id, 3, []⟩) else
  if q.kind = 1 then ((w, h), ⟨q.id, 1, (burstM q.addr q.many q.wrap).map fun a => w.getD a.toNat default⟩) else
  if q.kind = 3 then ((w, h.set (who * 2 + q.id).toNat q.addr), ⟨q.id, 2, (burstM q.addr q.many q.wrap).map fun a => w.getD a.toNat default⟩) else
  if q.kind = 4 ∧ ¬ h.getD (who * 2 + q.id).toNat default = q.addr then ((w, h), ⟨q.id, 1, []⟩) else
  ((putN w (burstM q.addr q.many q.wrap) q.data q.lanes (burstM q.addr q.many q.wrap).length, freeM h (burstM q.addr q.many q.wrap)), ⟨q.id, if q.kind = 4 then 2 else 1, []⟩)
theorem wrM_iff {q : Req} : wrM q = true ↔ (q.kind = 2 ∨ q.kind = 4) := by simp [wrM]
theorem doM_none {m : List Rng} {w h : List Int} {who : Int} {q : Req} (h1 : wholeM m (burstM q.addr q.many q.wrap) < 0) : doM m w h who q = ((w, h), ⟨q.id, 4, []⟩) := by
  unfold doM; rw [if_pos h1]
theorem doM_deny {m : List Rng} {w h : List Int} {who : Int} {q : Req} (h1 : ¬ wholeM m (burstM q.addr q.many q.wrap) < 0) (h2 : wrM q = true) (h3 : (m.getD (wholeM m (burstM q.addr q.many q.wrap)).toNat default).only = true) : doM m w h who q = ((w, h), ⟨q.id, 3, []⟩) := by
  unfold doM; rw [if_neg h1, if_pos ⟨h2, h3⟩]
theorem doM_read {m : List Rng} {w h : List Int} {who : Int} {q : Req} (h1 : ¬ wholeM m (burstM q.addr q.many q.wrap) < 0) (h2 : q.kind = 1) : doM m w h who q = ((w, h), ⟨q.id, 1, (burstM q.addr q.many q.wrap).map fun a => w.getD a.toNat default⟩) := by
  unfold doM; rw [if_neg h1, if_neg (fun hc => by have := wrM_iff.1 hc.1; omega), if_pos h2]
theorem doM_hold {m : List Rng} {w h : List Int} {who : Int} {q : Req} (h1 : ¬ wholeM m (burstM q.addr q.many q.wrap) < 0) (h2 : q.kind = 3) : doM m w h who q = ((w, h.set (who * 2 + q.id).toNat q.addr), ⟨q.id, 2, (burstM q.addr q.many q.wrap).map fun a => w.getD a.toNat default⟩) := by
  unfold doM; rw [if_neg h1, if_neg (fun hc => by have := wrM_iff.1 hc.1; omega), if_neg (by omega), if_pos h2]
theorem doM_no {m : List Rng} {w h : List Int} {who : Int} {q : Req} (h1 : ¬ wholeM m (burstM q.addr q.many q.wrap) < 0) (h2 : ¬ (m.getD (wholeM m (burstM q.addr q.many q.wrap)).toNat default).only = true) (h3 : q.kind = 4) (h4 : ¬ h.getD (who * 2 + q.id).toNat default = q.addr) : doM m w h who q = ((w, h), ⟨q.id, 1, []⟩) := by
  unfold doM; rw [if_neg h1, if_neg (fun hc => h2 hc.2), if_neg (by omega), if_neg (by omega), if_pos ⟨h3, h4⟩]
theorem doM_try {m : List Rng} {w h : List Int} {who : Int} {q : Req} (h1 : ¬ wholeM m (burstM q.addr q.many q.wrap) < 0) (h2 : ¬ (m.getD (wholeM m (burstM q.addr q.many q.wrap)).toNat default).only = true) (h3 : q.kind = 4) (h4 : h.getD (who * 2 + q.id).toNat default = q.addr) : doM m w h who q = ((putN w (burstM q.addr q.many q.wrap) q.data q.lanes (burstM q.addr q.many q.wrap).length, freeM h (burstM q.addr q.many q.wrap)), ⟨q.id, 2, []⟩) := by
  unfold doM; rw [if_neg h1, if_neg (fun hc => h2 hc.2), if_neg (by omega), if_neg (by omega), if_neg (fun hc => hc.2 h4), if_pos h3]
theorem doM_put {m : List Rng} {w h : List Int} {who : Int} {q : Req} (h1 : ¬ wholeM m (burstM q.addr q.many q.wrap) < 0) (h2 : ¬ (m.getD (wholeM m (burstM q.addr q.many q.wrap)).toNat default).only = true) (h3 : q.kind = 2) : doM m w h who q = ((putN w (burstM q.addr q.many q.wrap) q.data q.lanes (burstM q.addr q.many q.wrap).length, freeM h (burstM q.addr q.many q.wrap)), ⟨q.id, 1, []⟩) := by
  unfold doM; rw [if_neg h1, if_neg (fun hc => h2 hc.2), if_neg (by omega), if_neg (by omega), if_neg (fun hc => by omega), if_neg (by omega)]
structure AtFit (w h : List Int) : Prop where
  wl : w.length = 64
  wr : All w 0 65535
  hl : h.length = 6
  hr : All h (-1) 63
theorem doM_fit {m : List Rng} {w h : List Int} {who : Int} {q : Req} (hf : AtFit w h) (hq : ReqOkP q) : AtFit (doM m w h who q).1.1 (doM m w h who q).1.2 := by
  obtain ⟨h1, h2, h3, h4⟩ := hf
  obtain ⟨_, _, ha, _, _, hd, _, _⟩ := hq
  unfold doM
  split
  · exact ⟨h1, h2, h3, h4⟩
  split
  · exact ⟨h1, h2, h3, h4⟩
  split
  · exact ⟨h1, h2, h3, h4⟩
  split
  · exact ⟨h1, h2, by simpa using h3, all_set h4 (by have := ha.2.1; omega)⟩
  split
  · exact ⟨h1, h2, h3, h4⟩
  · exact ⟨by rw [putN_len]; exact h1, putN_in h2 hd _, by simpa [freeM] using h3, freeM_in h4⟩
def RspOkP (r : Rsp) : Prop := (0 ≤ r.id ∧ r.id ≤ 1) ∧ (1 ≤ r.code ∧ r.code ≤ 4) ∧ (r.data.length : Int) ≤ 4 ∧ All r.data 0 65535
instance {r : Rsp} : Decidable (RspOkP r) := by unfold RspOkP; infer_instance
theorem doM_rsp {m : List Rng} {w h : List Int} {who : Int} {q : Req} (hw : All w 0 65535) (hq : ReqOkP q) : RspOkP (doM m w h who q).2 ∧ (doM m w h who q).2.id = q.id := by
  obtain ⟨hid, _⟩ := hq
  have hnil : All ([] : List Int) 0 65535 := fun x hx => by simp at hx
  have hb4 := burstM_le (addr := q.addr) (many := q.many) (wrap := q.wrap)
  have hget : All ((burstM q.addr q.many q.wrap).map fun a => w.getD a.toNat default) 0 65535 := by
    intro x hx
    obtain ⟨a, _, rfl⟩ := List.mem_map.1 hx
    exact getD_in0 hw (by decide) _
  unfold doM
  split
  · exact ⟨⟨hid, by dsimp only; omega, by simp, hnil⟩, rfl⟩
  split
  · exact ⟨⟨hid, by dsimp only; omega, by simp, hnil⟩, rfl⟩
  split
  · exact ⟨⟨hid, by dsimp only; omega, by simp; omega, hget⟩, rfl⟩
  split
  · exact ⟨⟨hid, by dsimp only; omega, by simp; omega, hget⟩, rfl⟩
  split
  · exact ⟨⟨hid, by dsimp only; omega, by simp, hnil⟩, rfl⟩
  · refine ⟨⟨hid, ?_, by simp, hnil⟩, rfl⟩
    dsimp only
    split <;> omega
def stepM (c : Cfg) (s : TSt) (e : Ev) : TSt :=
  if e.kind = 1 then { s with asked := s.asked.set e.who.toNat (e.n + 1), wait := putJ s.wait ⟨e.who, e.n, rsp0⟩ } else
  if e.kind = 2 then { s with words := (doM c.map s.words s.holds e.who (reqAt c e.who e.n)).1.1, holds := (doM c.map s.words s.holds e.who (reqAt c e.who e.n)).1.2, wait := outJ s.wait (idxM (isJob e.who e.n) s.wait).toNat, done := putJ s.done ⟨e.who, e.n, (doM c.map s.words s.holds e.who (reqAt c e.who e.n)).2⟩ } else
  { s with told := s.told ++ [s.done.getD (idxM (isJob e.who e.n) s.done).toNat default], done := outJ s.done (idxM (isJob e.who e.n) s.done).toNat }
def key (j : Job) : Int × Int := (j.who, j.n)
def keys (s : TSt) : List (Int × Int) := (s.wait ++ s.done ++ s.told).map key
abbrev Sorted (l : List Job) : Prop := l.Pairwise fun a b => befJ a b = true
def st0 : TSt := ⟨List.replicate 64 0, List.replicate 6 (-1), List.replicate 3 0, [], [], []⟩
structure StOk (c : Cfg) (s : TSt) : Prop where
  atm : AtFit s.words s.holds
  askedL : s.asked.length = 3
  askedR : ∀ k, k < 3 → 0 ≤ s.asked.getD k default ∧ s.asked.getD k default ≤ (c.progs.getD k default).length
  waitS : Sorted s.wait
  doneS : Sorted s.done
  jobs : ∀ p ∈ keys s, (0 ≤ p.1 ∧ p.1 ≤ 2) ∧ 0 ≤ p.2 ∧ p.2 < s.asked.getD p.1.toNat default
  nodup : (keys s).Nodup
  count : (s.wait.length : Int) + s.done.length + s.told.length = s.asked.getD 0 default + s.asked.getD 1 default + s.asked.getD 2 default
  waitR : ∀ j ∈ s.wait, j.rsp = rsp0
  rspR : ∀ j ∈ s.done ++ s.told, RspOkP j.rsp ∧ j.rsp.id = (reqAt c j.who j.n).id
theorem befJ_iff {a b : Job} : befJ a b = true ↔ a.who < b.who ∨ (a.who = b.who ∧ a.n < b.n) := by simp [befJ]
theorem putJ_perm (l : List Job) (j : Job) : (putJ l j).Perm (j :: l) := by
  unfold putJ
  refine List.perm_middle.trans ?_
  rw [List.take_append_drop]
theorem outJ_perm {l : List Job} {k : Nat} (h : k < l.length) : l.Perm (l.getD k default :: outJ l k) := by
  have e : l = l.take k ++ l.getD k default :: l.drop (k + 1) := by
    have : l.getD k default = l[k] := by simp [List.getD, h]
    rw [this, ← List.drop_eq_getElem_cons h, List.take_append_drop]
  conv => lhs; rw [e]
  exact List.perm_middle
theorem outJ_sub {l : List Job} {k : Nat} : (outJ l k).Sublist l := by
  unfold outJ
  have h := (List.Sublist.refl (l.take k)).append (List.drop_sublist_drop_left l (Nat.le_succ k))
  rwa [List.take_append_drop] at h
theorem outJ_sorted {l : List Job} {k : Nat} (h : Sorted l) : Sorted (outJ l k) := h.sublist outJ_sub
theorem putJ_sorted {l : List Job} {j : Job} (h : Sorted l) (hn : key j ∉ l.map key) : Sorted (putJ l j) := by
  unfold putJ
  have hs := h
  rw [Sorted, ← List.take_append_drop (l.findIdx (befJ j)) l, List.pairwise_append] at hs
  obtain ⟨h1, h2, h3⟩ := hs
  have hlt : ∀ x ∈ l.take (l.findIdx (befJ j)), befJ x j = true := by
    intro x hx
    obtain ⟨i, hi, rfl⟩ := List.mem_iff_getElem.1 hx
    simp only [List.length_take] at hi
    have hi2 : i < l.findIdx (befJ j) := by omega
    have hb := List.not_of_lt_findIdx hi2
    have hne : key l[i] ≠ key j := fun he => hn (he ▸ List.mem_map_of_mem (List.getElem_mem _))
    rw [List.getElem_take]
    rw [befJ_iff]
    simp only [key, ne_eq, Prod.mk.injEq] at hne
    simp only [befJ, decide_eq_false_iff_not] at hb
    omega
  have hgt : ∀ x ∈ l.drop (l.findIdx (befJ j)), befJ j x = true := by
    intro x hx
    cases hd : l.drop (l.findIdx (befJ j)) with
    | nil => rw [hd] at hx; simp at hx
    | cons y ys =>
      rw [hd] at hx h2
      have hlen : l.findIdx (befJ j) < l.length := by
        have := congrArg List.length hd
        simp at this; omega
      have hy : y = l[l.findIdx (befJ j)] := by
        rw [List.drop_eq_getElem_cons hlen] at hd
        exact (List.cons.inj hd).1.symm
      have hby : befJ j y = true := by rw [hy]; exact List.findIdx_getElem (w := hlen)
      rcases List.mem_cons.1 hx with rfl | hx
      · exact hby
      · have := (List.pairwise_cons.1 h2).1 x hx
        rw [befJ_iff] at this hby ⊢
        omega
  refine List.pairwise_append.2 ⟨h1, List.pairwise_cons.2 ⟨hgt, h2⟩, fun a ha b hb => ?_⟩
  rcases List.mem_cons.1 hb with rfl | hb
  · exact hlt a ha
  · exact h3 a ha b hb
theorem idxM_at_key {l : List Job} {who n : Int} (h : ¬ idxM (isJob who n) l < 0) : (idxM (isJob who n) l).toNat < l.length ∧ key (l.getD (idxM (isJob who n) l).toNat default) = (who, n) := by
  unfold idxM at h ⊢
  split
  · rename_i k hk
    obtain ⟨h1, h2, _⟩ := List.findIdx?_eq_some_iff_getElem.1 hk
    refine ⟨by simpa using h1, ?_⟩
    simp only [isJob, decide_eq_true_eq] at h2
    simp only [Int.toNat_natCast, key, List.getD, h1, List.getElem?_eq_getElem, Option.getD_some, h2.1, h2.2]
  · rename_i hk; rw [hk] at h; simp at h
theorem idxM_in {l : List Job} {who n : Int} (h : idxM (isJob who n) l < 0) : (who, n) ∉ l.map key := by
  intro hm
  obtain ⟨j, hj, he⟩ := List.mem_map.1 hm
  have : 0 ≤ idxM (isJob who n) l := idxM_nonneg.2 ⟨j, hj, by simp only [key, Prod.mk.injEq] at he; simp [isJob, he.1, he.2]⟩
  omega
theorem whyM_zero {c : Cfg} {s : TSt} {e : Ev} (h : whyM c s e = 0) : asksP c e.who e.n ∧ (e.kind = 1 ∧ e.n = s.asked.getD e.who.toNat default ∨ e.kind = 2 ∧ ¬ idxM (isJob e.who e.n) s.wait < 0 ∨ e.kind = 3 ∧ ¬ idxM (isJob e.who e.n) s.done < 0) := by
  unfold whyM at h
  split at h
  · exact absurd h (by decide)
  rename_i h1
  have h1 := Classical.not_not.1 h1
  refine ⟨h1.1, ?_⟩
  split at h
  · rename_i hk
    split at h
    · exact absurd h (by decide)
    · rename_i h2; exact .inl ⟨hk, Classical.not_not.1 h2⟩
  split at h
  · rename_i hk
    split at h
    · exact absurd h (by decide)
    · rename_i h2; exact .inr (.inl ⟨hk, h2⟩)
  split at h
  · exact absurd h (by decide)
  · rename_i h2; exact .inr (.inr ⟨by omega, h2⟩)
theorem keys_ask {c : Cfg} {s : TSt} {e : Ev} (hk : e.kind = 1) : (keys (stepM c s e)).Perm ((e.who, e.n) :: keys s) := by
  simp only [keys, stepM, hk, if_true, List.map_append]
  have := (putJ_perm s.wait ⟨e.who, e.n, rsp0⟩).map key
  exact (this.append_right _).append_right _
theorem keys_do {c : Cfg} {s : TSt} {e : Ev} (hk : e.kind = 2) (hi : ¬ idxM (isJob e.who e.n) s.wait < 0) : (keys (stepM c s e)).Perm (keys s) := by
  obtain ⟨h1, h2⟩ := idxM_at_key hi
  simp only [keys, stepM, hk, if_true, if_false, List.map_append, Int.reduceEq]
  refine List.Perm.append_right _ ?_
  refine (((putJ_perm s.done _).map key).append_left _).trans ?_
  simp only [List.map_cons]
  refine List.perm_middle.trans ?_
  have h3 := (outJ_perm h1).map key
  simp only [List.map_cons, h2] at h3
  exact (h3.symm.append_right _)
theorem keys_tell {c : Cfg} {s : TSt} {e : Ev} (hk : e.kind = 3) (hi : ¬ idxM (isJob e.who e.n) s.done < 0) : (keys (stepM c s e)).Perm (keys s) := by
  obtain ⟨h1, h2⟩ := idxM_at_key hi
  simp only [keys, stepM, hk, if_false, List.map_append, Int.reduceEq, List.append_assoc]
  refine List.Perm.append_left _ ?_
  have h3 := (outJ_perm h1).map key
  simp only [List.map_cons] at h3
  have h4 := h3.append_right (s.told.map key)
  refine List.Perm.trans ?_ h4.symm
  simp only [List.map_cons, List.map_nil, List.cons_append]
  rw [← List.append_assoc]
  exact (List.perm_append_singleton _ _)
theorem sum3 {l : List Int} {k : Nat} {x : Int} (hl : l.length = 3) (hk : k < 3) (hx : x = l.getD k default + 1) : (l.set k x).getD 0 default + (l.set k x).getD 1 default + (l.set k x).getD 2 default = l.getD 0 default + l.getD 1 default + l.getD 2 default + 1 := by
  match l, hl with
  | [a, b, c], _ =>
    subst hx
    have : k = 0 ∨ k = 1 ∨ k = 2 := by omega
    rcases this with rfl | rfl | rfl <;> simp [List.getD] <;> omega
theorem getD_setI {l : List Int} {k i : Nat} {x : Int} (hk : k < l.length) : (l.set k x).getD i default = if i = k then x else l.getD i default := by
  simp only [List.getD, List.getElem?_set]
  by_cases h : k = i
  · subst h; simp [hk]
  · simp [h, Ne.symm h, eq_comm]
theorem outJ_len {l : List Job} {k : Nat} (h : k < l.length) : (outJ l k).length + 1 = l.length := by
  have := (outJ_perm h).length_eq
  simpa using this.symm
theorem putJ_len {l : List Job} {j : Job} : (putJ l j).length = l.length + 1 := by simpa using (putJ_perm l j).length_eq
theorem nodup_wait {s : TSt} (h : (keys s).Nodup) : ∀ p ∈ s.wait.map key, p ∉ s.done.map key := by
  simp only [keys, List.map_append] at h
  rw [List.append_assoc, List.nodup_append] at h
  intro p hp hq
  exact h.2.2 p hp p (List.mem_append_left _ hq) rfl
theorem reqAt_ok {c : Cfg} {who n : Int} (hb : BusOkP c) (h : asksP c who n) : ReqOkP (reqAt c who n) := by
  obtain ⟨_, _, _, h4, h5⟩ := hb
  obtain ⟨h1, h2, h3⟩ := h
  rw [idxM_nonneg] at h5
  have hk : who.toNat < c.progs.length := by omega
  have h6 : ProgOkP (c.progs.getD who.toNat default) := Classical.byContradiction fun hc => h5 ⟨c.progs.getD who.toNat default, by simp [List.getD, hk], decide_eq_true hc⟩
  have h7 := h6.2
  rw [idxM_nonneg] at h7
  have hn : n.toNat < (c.progs.getD who.toNat default).length := by omega
  exact Classical.byContradiction fun hc => h7 ⟨(c.progs.getD who.toNat default).getD n.toNat default, getD_mem hn, decide_eq_true hc⟩
theorem step_ok {c : Cfg} {s : TSt} {e : Ev} (hb : BusOkP c) (hs : StOk c s) (h : whyM c s e = 0) : StOk c (stepM c s e) := by
  obtain ⟨hask, hcase⟩ := whyM_zero h
  obtain ⟨hw, hn⟩ := hask
  have hq : ReqOkP (reqAt c e.who e.n) := reqAt_ok hb ⟨hw, hn⟩
  have hwl : e.who.toNat < 3 := by omega
  have hwl2 : e.who.toNat < s.asked.length := by rw [hs.askedL]; exact hwl
  rcases hcase with ⟨hk, hi⟩ | ⟨hk, hi⟩ | ⟨hk, hi⟩
  · have hp := keys_ask (c := c) (s := s) hk
    have hnot : (e.who, e.n) ∉ keys s := fun hm => by have := (hs.jobs _ hm).2.2; dsimp only at this; omega
    have e1 : stepM c s e = { s with asked := s.asked.set e.who.toNat (e.n + 1), wait := putJ s.wait ⟨e.who, e.n, rsp0⟩ } := by simp only [stepM, hk, if_true]
    refine ⟨by rw [e1]; exact hs.atm, by rw [e1]; simpa using hs.askedL, fun k h3 => ?_, ?_, by rw [e1]; exact hs.doneS, fun p hpm => ?_, hp.nodup_iff.2 (List.nodup_cons.2 ⟨hnot, hs.nodup⟩), ?_, ?_, ?_⟩
    · have := hs.askedR k h3
      rw [e1]; dsimp only
      rw [getD_setI hwl2]
      split
      · rename_i hk2; subst hk2; omega
      · exact this
    · rw [e1]
      refine putJ_sorted hs.waitS fun hm => hnot ?_
      simp only [keys, List.map_append]
      exact List.mem_append_left _ (List.mem_append_left _ hm)
    · rcases List.mem_cons.1 (hp.mem_iff.1 hpm) with rfl | hm
      · rw [e1]; dsimp only
        rw [getD_setI hwl2, if_pos rfl]; omega
      · have := hs.jobs p hm
        rw [e1]; dsimp only
        rw [getD_setI hwl2]
        split
        · rename_i hk2; rw [hk2] at this; omega
        · exact this
    · have := hs.count
      rw [e1]; dsimp only
      rw [putJ_len, sum3 hs.askedL hwl (by omega)]; omega
    · rw [e1]; intro j hj
      rcases List.mem_cons.1 ((putJ_perm _ _).mem_iff.1 hj) with rfl | hj
      · rfl
      · exact hs.waitR j hj
    · rw [e1]; exact hs.rspR
  · have hp := keys_do (c := c) hk hi
    obtain ⟨h1, h2⟩ := idxM_at_key hi
    have hp2 : ∀ p, p ∈ keys (stepM c s e) ↔ p ∈ keys s := fun p => hp.mem_iff
    have hlen := outJ_len h1
    have hnd : (e.who, e.n) ∉ s.done.map key := nodup_wait hs.nodup _ (List.mem_map.2 ⟨_, getD_mem h1, h2⟩)
    have hat := doM_fit (m := c.map) (who := e.who) hs.atm hq
    have e1 : stepM c s e = { s with words := (doM c.map s.words s.holds e.who (reqAt c e.who e.n)).1.1, holds := (doM c.map s.words s.holds e.who (reqAt c e.who e.n)).1.2, wait := outJ s.wait (idxM (isJob e.who e.n) s.wait).toNat, done := putJ s.done ⟨e.who, e.n, (doM c.map s.words s.holds e.who (reqAt c e.who e.n)).2⟩ } := by simp [stepM, hk]
    have hnod := hp.nodup_iff.2 hs.nodup
    rw [e1] at hp2 hnod ⊢
    exact ⟨hat, hs.askedL, hs.askedR, outJ_sorted hs.waitS, putJ_sorted hs.doneS hnd, fun p hpm => hs.jobs p ((hp2 p).1 hpm), hnod, by have := hs.count; have := putJ_len (l := s.done) (j := ⟨e.who, e.n, (doM c.map s.words s.holds e.who (reqAt c e.who e.n)).2⟩); dsimp only; omega, fun j hj => hs.waitR j (outJ_sub.mem hj), fun j hj => by
      rcases List.mem_append.1 hj with hj | hj
      · rcases List.mem_cons.1 ((putJ_perm _ _).mem_iff.1 hj) with rfl | hj
        · exact doM_rsp hs.atm.wr hq
        · exact hs.rspR j (List.mem_append_left _ hj)
      · exact hs.rspR j (List.mem_append_right _ hj)⟩
  · have hp := keys_tell (c := c) hk hi
    obtain ⟨h1, h2⟩ := idxM_at_key hi
    have hp2 : ∀ p, p ∈ keys (stepM c s e) ↔ p ∈ keys s := fun p => hp.mem_iff
    have hlen := outJ_len h1
    have e1 : stepM c s e = { s with told := s.told ++ [s.done.getD (idxM (isJob e.who e.n) s.done).toNat default], done := outJ s.done (idxM (isJob e.who e.n) s.done).toNat } := by simp [stepM, hk]
    have hnod := hp.nodup_iff.2 hs.nodup
    rw [e1] at hp2 hnod ⊢
    exact ⟨hs.atm, hs.askedL, hs.askedR, hs.waitS, outJ_sorted hs.doneS, fun p hpm => hs.jobs p ((hp2 p).1 hpm), hnod, by have := hs.count; simp only [List.length_append, List.length_cons, List.length_nil]; omega, hs.waitR, fun j hj => by
      rcases List.mem_append.1 hj with hj | hj
      · exact hs.rspR j (List.mem_append_left _ (outJ_sub.mem hj))
      · rcases List.mem_append.1 hj with hj | hj
        · exact hs.rspR j (List.mem_append_right _ hj)
        · simp only [List.mem_singleton] at hj; subst hj; exact hs.rspR _ (List.mem_append_left _ (getD_mem h1))⟩
theorem busOk_prog {c : Cfg} (hb : BusOkP c) : c.progs.length = 3 ∧ ∀ k, (c.progs.getD k default).length ≤ 12 := by
  obtain ⟨_, _, _, h4, h5⟩ := hb
  refine ⟨by omega, fun k => ?_⟩
  rw [idxM_nonneg] at h5
  by_cases hk : k < c.progs.length
  · have h6 : ProgOkP (c.progs.getD k default) := Classical.byContradiction fun hc => h5 ⟨c.progs.getD k default, by simp [List.getD, hk], decide_eq_true hc⟩
    have := h6.1
    omega
  · have : c.progs.getD k default = [] := by simp [List.getD, hk]; rfl
    rw [this]; simp
theorem StOk.lens {c : Cfg} {s : TSt} (hb : BusOkP c) (hs : StOk c s) : s.wait.length + s.done.length + s.told.length ≤ 36 := by
  have h1 := (busOk_prog hb).2
  have h2 := hs.askedR 0 (by decide)
  have h3 := hs.askedR 1 (by decide)
  have h4 := hs.askedR 2 (by decide)
  have h5 := hs.count
  have := h1 0; have := h1 1; have := h1 2
  omega
theorem StOk.mem {c : Cfg} {s : TSt} (hs : StOk c s) {j : Job} (hj : j ∈ s.wait ++ s.done ++ s.told) : asksP c j.who j.n := by
  have h := hs.jobs (key j) (List.mem_map.2 ⟨j, hj, rfl⟩)
  simp only [key] at h
  have := hs.askedR j.who.toNat (by omega)
  exact ⟨h.1, by omega⟩
theorem st0_ok (c : Cfg) : StOk c st0 := by
  refine ⟨⟨by decide, by decide, by decide, by decide⟩, by decide, fun k hk => ?_, List.Pairwise.nil, List.Pairwise.nil, fun p hp => ?_, by decide, by decide, fun j hj => ?_, fun j hj => ?_⟩
  · have : k = 0 ∨ k = 1 ∨ k = 2 := by omega
    have h0 : st0.asked.getD k default = 0 := by rcases this with rfl | rfl | rfl <;> rfl
    rw [h0]; omega
  · cases hp
  · cases hj
  · cases hj
theorem StOk.dataL {c : Cfg} {s : TSt} (hs : StOk c s) : ∀ j ∈ s.wait ++ s.done ++ s.told, j.rsp.data.length < 2 ^ 20 := by
  intro j hj
  rw [List.append_assoc] at hj
  rcases List.mem_append.1 hj with hj | hj
  · rw [hs.waitR j hj]; decide
  · have := (hs.rspR j hj).1.2.2.1; omega
def runM (c : Cfg) (s : TSt) (l : List Ev) : TSt := l.foldl (stepM c) s
/-- All of a list may happen, one behind the other. -/
def Plays (c : Cfg) (s : TSt) (l : List Ev) : Prop := ∀ k, k < l.length → whyM c (runM c s (l.take k)) (l.getD k default) = 0
theorem runM_snoc {c : Cfg} {s : TSt} {l : List Ev} {e : Ev} : runM c s (l ++ [e]) = stepM c (runM c s l) e := by simp [runM]
theorem plays_nil {c : Cfg} {s : TSt} : Plays c s [] := fun k hk => by simp at hk
theorem plays_snoc {c : Cfg} {s : TSt} {l : List Ev} {e : Ev} (h : Plays c s l) (he : whyM c (runM c s l) e = 0) : Plays c s (l ++ [e]) := by
  intro k hk
  simp only [List.length_append, List.length_cons, List.length_nil] at hk
  by_cases hlt : k < l.length
  · have := h k hlt
    rw [List.take_append_of_le_length (by omega)]
    simpa [List.getD, List.getElem?_append, hlt] using this
  · have hk2 : k = l.length := by omega
    subst hk2
    simpa [List.getD] using he
theorem take_snocE {l : List Ev} {k : Nat} (h : k < l.length) : l.take (k + 1) = l.take k ++ [l.getD k default] := by
  rw [List.take_succ_eq_append_getElem h]; simp [List.getD, h]
theorem runM_take {c : Cfg} {s : TSt} {l : List Ev} {k : Nat} (h : k < l.length) : runM c s (l.take (k + 1)) = stepM c (runM c s (l.take k)) (l.getD k default) := by
  rw [take_snocE h, runM_snoc]
theorem plays_ok {c : Cfg} {s : TSt} {l : List Ev} (hb : BusOkP c) (hs : StOk c s) (h : Plays c s l) : ∀ k, k ≤ l.length → StOk c (runM c s (l.take k)) := by
  intro k
  induction k with
  | zero => intro _; simpa [runM] using hs
  | succ k ih =>
    intro hk
    rw [runM_take (by omega)]
    exact step_ok hb (ih (by omega)) (h k (by omega))
theorem plays_end {c : Cfg} {s : TSt} {l : List Ev} (hb : BusOkP c) (hs : StOk c s) (h : Plays c s l) : StOk c (runM c s l) := by
  have := plays_ok hb hs h l.length (Nat.le_refl _)
  rwa [List.take_length] at this
theorem StOk.fit {c : Cfg} {s : TSt} (hb : BusOkP c) (hs : StOk c s) : StFit c s := by
  have := hs.lens hb
  exact ⟨hs.atm.wl, hs.atm.hl, hs.askedL, by omega, by omega, by omega, fun j hj => hs.mem (by simp [hj]), fun j hj => hs.mem (by simp [hj]), fun j hj => hs.mem (by simp [hj])⟩
theorem take_snocI {l : List Int} {k : Nat} (h : k < l.length) : l.take (k + 1) = l.take k ++ [l.getD k default] := take_snoc h
def freeN (h all : List Int) (k : Nat) : List Int := freeM (h.take k) all ++ h.drop k
theorem freeN_len {h all : List Int} {k : Nat} (hk : k ≤ h.length) : (freeN h all k).length = h.length := by simp [freeN, freeM]; omega
theorem freeN_at {h all : List Int} {k : Nat} (hk : k < h.length) : (freeN h all k).getD k default = h.getD k default := by
  have e : (freeM (h.take k) all).length = k := by simp [freeM]; omega
  simp only [freeN, List.getD, List.getElem?_append, e, Nat.lt_irrefl, if_false, Nat.sub_self, List.getElem?_drop, Nat.add_zero]
theorem drop_cons {l : List Int} {k : Nat} (h : k < l.length) : l.drop k = l.getD k default :: l.drop (k + 1) := by
  rw [List.drop_eq_getElem_cons h]; simp [List.getD, h]
theorem freeM_snoc {l all : List Int} {x : Int} : freeM (l ++ [x]) all = freeM l all ++ [if x ∈ all then -1 else x] := by simp [freeM]
theorem freeN_set {h all : List Int} {k : Nat} {x : Int} (hk : k < h.length) (hx : x = if h.getD k default ∈ all then -1 else h.getD k default) : (freeN h all k).set k x = freeN h all (k + 1) := by
  have e : (freeM (h.take k) all).length = k := by simp [freeM]; omega
  unfold freeN
  rw [List.set_append, e, if_neg (by omega), Nat.sub_self, take_snocI hk, drop_cons hk, freeM_snoc, List.set_cons_zero, hx, List.append_assoc]
  rfl
theorem freeN_same {h all : List Int} {k : Nat} (hk : k < h.length) : (freeN h all k).set k (h.getD k default) = freeN h all k := by
  have e : (freeM (h.take k) all).length = k := by simp [freeM]; omega
  unfold freeN
  rw [List.set_append, e, if_neg (by omega), Nat.sub_self, drop_cons hk, List.set_cons_zero]
theorem freeN_zero {h all : List Int} : freeN h all 0 = h := by simp [freeN, freeM]
theorem freeN_end {h all : List Int} : freeN h all h.length = freeM h all := by simp [freeN]
theorem burst_pos {addr many : Int} {wrap : Bool} (h : AdrOkP addr many wrap) : 0 < (burstM addr many wrap).length := by
  rw [burstM_len h]; obtain ⟨h1, _⟩ := h; omega
end Go.AM
end

section
/- Bits of words. -/
namespace Go.AM
theorem and_mask {a m k : Nat} (h : a < 2 ^ (m + k)) : a &&& ((2 ^ m - 1) <<< k) = a / 2 ^ k * 2 ^ k := by
  apply Nat.eq_of_testBit_eq
  intro i
  have e2 : a / 2 ^ k * 2 ^ k = (a >>> k) <<< k := by rw [Nat.shiftRight_eq_div_pow, Nat.shiftLeft_eq]
  rw [e2, Nat.testBit_and, Nat.testBit_shiftLeft, Nat.testBit_shiftLeft, Nat.testBit_two_pow_sub_one, Nat.testBit_shiftRight]
  by_cases h8 : k ≤ i
  · have e3 : k + (i - k) = i := by omega
    by_cases h16 : i < m + k
    · simp [h8, e3]; omega
    · have : a.testBit i = false := Nat.testBit_lt_two_pow (Nat.lt_of_lt_of_le h (Nat.pow_le_pow_right (Nat.succ_pos 1) (Nat.le_of_not_lt h16)))
      simp [e3, this]
  · simp [h8]
theorem and_lo {a : Nat} : a &&& 255 = a % 256 := Nat.and_two_pow_sub_one_eq_mod a 8
theorem or_sep {a b : Nat} (h : b < 256) : a * 256 ||| b = a * 256 + b := by
  have := Nat.two_pow_add_eq_or_of_lt (i := 8) (b := b) h a
  rw [show (2 : Nat) ^ 8 * a = a * 256 from Nat.mul_comm _ _] at this
  exact this.symm
def putE (old new m : Int) : Int := IntKind.i64.wrap ↑(BitVec.ofInt 64 (IntKind.i64.wrap ↑(BitVec.ofInt 64 old &&& ~~~BitVec.ofInt 64 m).toNat) ||| BitVec.ofInt 64 (IntKind.i64.wrap ↑(BitVec.ofInt 64 new &&& BitVec.ofInt 64 m).toNat)).toNat
theorem bv_lt {a : Nat} (h : a < 65536) : (BitVec.ofNat 64 a).toNat = a := by
  rw [BitVec.toNat_ofNat]; omega
theorem putE_nat {a b m x y : Nat} (ha : a < 65536) (hb : b < 65536) (hx : a &&& (18446744073709551615 - m) = x) (hy : b &&& m = y) (hm : m < 65536) (hxl : x < 65536) (hyl : y < 65536) (hz : x ||| y < 65536) : putE a b m = ((x ||| y : Nat) : Int) := by
  have h1 : (BitVec.ofInt 64 (a : Int) &&& ~~~BitVec.ofInt 64 (m : Int)).toNat = x := by
    rw [BitVec.ofInt_natCast, BitVec.ofInt_natCast, BitVec.toNat_and, BitVec.toNat_not, bv_lt ha, bv_lt hm]
    exact hx
  have h2 : (BitVec.ofInt 64 (b : Int) &&& BitVec.ofInt 64 (m : Int)).toNat = y := by
    rw [BitVec.ofInt_natCast, BitVec.ofInt_natCast, BitVec.toNat_and, bv_lt hb, bv_lt hm]
    exact hy
  unfold putE
  rw [h1, h2, IntWalk.i64_in (x : Int) (by omega), IntWalk.i64_in (y : Int) (by omega), BitVec.ofInt_natCast, BitVec.ofInt_natCast, BitVec.toNat_or, bv_lt hxl, bv_lt hyl, IntWalk.i64_in _ (by omega)]
theorem putE_eq {old new lanes m : Int} (h1 : 0 ≤ old ∧ old ≤ 65535) (h2 : 0 ≤ new ∧ new ≤ 65535) (h : lanes = 0 ∧ m = 0 ∨ lanes = 1 ∧ m = 255 ∨ lanes = 2 ∧ m = 65280 ∨ lanes = 3 ∧ m = 65535) : putE old new m = wrdPut old new lanes := by
  obtain ⟨a, rfl⟩ : ∃ a : Nat, old = a := ⟨old.toNat, by omega⟩
  obtain ⟨b, rfl⟩ : ∃ b : Nat, new = b := ⟨new.toNat, by omega⟩
  have ha : a < 65536 := by omega
  have hb : b < 65536 := by omega
  have t1 := and_mask (a := a) (m := 56) (k := 8) (by omega)
  have t2 := and_mask (a := b) (m := 8) (k := 8) (by omega)
  have t3 := and_mask (a := a) (m := 48) (k := 16) (by omega)
  rcases h with ⟨rfl, rfl⟩ | ⟨rfl, rfl⟩ | ⟨rfl, rfl⟩ | ⟨rfl, rfl⟩
  · have := putE_nat (a := a) (b := b) (m := 0) (x := a) (y := 0) ha hb (by rw [show 18446744073709551615 - 0 = 2 ^ 64 - 1 from rfl, Nat.and_two_pow_sub_one_eq_mod]; omega) (Nat.and_zero b) (by omega) ha (by omega) (by simpa using ha)
    rw [show ((0 : Nat) : Int) = 0 from rfl] at this
    rw [this, Nat.or_zero]
    unfold wrdPut; simp; omega
  · have hx : a &&& (18446744073709551615 - 255) = a / 256 * 256 := t1
    have hlt : a / 256 * 256 ||| b % 256 = a / 256 * 256 + b % 256 := or_sep (by omega)
    have := putE_nat (a := a) (b := b) (m := 255) ha hb hx and_lo (by omega) (by omega) (by omega) (by omega)
    rw [show ((255 : Nat) : Int) = 255 from rfl] at this
    rw [this, hlt]
    unfold wrdPut; simp
  · have hx : a &&& (18446744073709551615 - 65280) = a % 256 := by
      have e : 18446744073709551615 - 65280 = ((2 ^ 48 - 1) <<< 16) ||| 255 := by decide
      rw [e, Nat.and_or_distrib_left, t3, and_lo]
      have : a / 2 ^ 16 = 0 := by omega
      rw [this]; simp
    have hy : b &&& 65280 = b / 256 * 256 := t2
    have hlt : a % 256 ||| b / 256 * 256 = b / 256 * 256 + a % 256 := by rw [Nat.or_comm]; exact or_sep (by omega)
    have := putE_nat (a := a) (b := b) (m := 65280) ha hb hx hy (by omega) (by omega) (by omega) (by omega)
    rw [show ((65280 : Nat) : Int) = 65280 from rfl] at this
    rw [this, hlt]
    unfold wrdPut; simp
  · have hx : a &&& (18446744073709551615 - 65535) = 0 := by
      have e : 18446744073709551615 - 65535 = ((2 ^ 48 - 1) <<< 16) := by decide
      rw [e, t3]; omega
    have hy : b &&& 65535 = b := by rw [show (65535 : Nat) = 2 ^ 16 - 1 from rfl, Nat.and_two_pow_sub_one_eq_mod]; omega
    have := putE_nat (a := a) (b := b) (m := 65535) ha hb hx hy (by omega) (by omega) (by omega) (by simpa using hb)
    rw [show ((65535 : Nat) : Int) = 65535 from rfl] at this
    rw [this, Nat.zero_or]
    unfold wrdPut; simp; omega
def mskE (x : Int) : Int := IntKind.i64.wrap ↑(BitVec.ofInt 64 (IntKind.i64.wrap (IntKind.i64.wrap ↑(BitVec.ofInt 64 x &&& BitVec.ofInt 64 1).toNat * 255)) ||| BitVec.ofInt 64 (IntKind.i64.wrap (Int.fdiv x (2 ^ min 1 64) * 65280))).toNat
theorem mskE_0 : mskE 0 = 0 := by decide
theorem mskE_1 : mskE 1 = 255 := by decide
theorem mskE_2 : mskE 2 = 65280 := by decide
theorem mskE_3 : mskE 3 = 65535 := by decide
end Go.AM
end

section
/- Plain laws: how often each kind happens. -/
namespace Go.AM
def cnt (i : Int) (l : List Ev) : Int := (l.countP fun e => decide (e.kind = i) : Nat)
def manyL (l : List Ev) : List Int := [cnt 0 l, cnt 1 l, cnt 2 l, cnt 3 l]
theorem cnt_snoc {i : Int} {l : List Ev} {e : Ev} : cnt i (l ++ [e]) = cnt i l + if e.kind = i then 1 else 0 := by
  unfold cnt
  rw [List.countP_append, List.countP_singleton]
  by_cases h : e.kind = i <;> simp [h]
theorem cnt_le {i : Int} {l : List Ev} : 0 ≤ cnt i l ∧ cnt i l ≤ l.length := by
  unfold cnt
  have := List.countP_le_length (p := fun e : Ev => decide (e.kind = i)) (l := l)
  omega
theorem manyL_len {l : List Ev} : (manyL l).length = 4 := rfl
theorem manyL_nil : manyL [] = [0, 0, 0, 0] := rfl
theorem manyL_snoc {l : List Ev} {e : Ev} (h : 1 ≤ e.kind ∧ e.kind ≤ 3) : (manyL l).set e.kind.toNat ((manyL l).getD e.kind.toNat default + 1) = manyL (l ++ [e]) := by
  have hk : e.kind = 1 ∨ e.kind = 2 ∨ e.kind = 3 := by omega
  unfold manyL
  simp only [cnt_snoc]
  rcases hk with hk | hk | hk <;> simp [hk, List.getD]
theorem manyL_in {l : List Ev} {k : Nat} (hk : k < 4) : 0 ≤ (manyL l).getD k default ∧ (manyL l).getD k default ≤ l.length := by
  have h0 := @cnt_le 0 l; have h1 := @cnt_le 1 l; have h2 := @cnt_le 2 l; have h3 := @cnt_le 3 l
  have : k = 0 ∨ k = 1 ∨ k = 2 ∨ k = 3 := by omega
  rcases this with rfl | rfl | rfl | rfl
  · exact h0
  · exact h1
  · exact h2
  · exact h3
def askSum (s : TSt) : Int := s.asked.getD 0 default + s.asked.getD 1 default + s.asked.getD 2 default
theorem plays_kind {c : Cfg} {s : TSt} {es : List Ev} (h : Plays c s es) {k : Nat} (hk : k < es.length) : 1 ≤ (es.getD k default).kind ∧ (es.getD k default).kind ≤ 3 := by
  have := (whyM_zero (h k hk)).2
  omega
theorem plays_counts {c : Cfg} {es : List Ev} (hb : BusOkP c) (h : Plays c st0 es) : ∀ k, k ≤ es.length →
    cnt 1 (es.take k) = askSum (runM c st0 (es.take k)) ∧ cnt 2 (es.take k) = (runM c st0 (es.take k)).done.length + (runM c st0 (es.take k)).told.length ∧ cnt 3 (es.take k) = (runM c st0 (es.take k)).told.length := by
  intro k
  induction k with
  | zero => intro _; exact ⟨rfl, rfl, rfl⟩
  | succ k ih =>
    intro hk
    obtain ⟨i1, i2, i3⟩ := ih (by omega)
    have hs := plays_ok hb (st0_ok c) h k (by omega)
    have hw := h k (by omega)
    rw [runM_take (by omega), take_snocE (by omega)]
    simp only [cnt_snoc]
    generalize runM c st0 (es.take k) = s at *
    generalize es.getD k default = e at *
    obtain ⟨hask, hcase⟩ := whyM_zero hw
    obtain ⟨hwho, hn⟩ := hask
    rcases hcase with ⟨hk, hi⟩ | ⟨hk, hi⟩ | ⟨hk, hi⟩
    · have e1 : stepM c s e = { s with asked := s.asked.set e.who.toNat (e.n + 1), wait := putJ s.wait ⟨e.who, e.n, rsp0⟩ } := by simp only [stepM, hk, if_true]
      rw [e1]
      have := sum3 (l := s.asked) (k := e.who.toNat) (x := e.n + 1) hs.askedL (by omega) (by omega)
      unfold askSum at *
      simp only [hk, Int.reduceEq, if_true, if_false, reduceIte]
      omega
    · have e1 : stepM c s e = { s with words := (doM c.map s.words s.holds e.who (reqAt c e.who e.n)).1.1, holds := (doM c.map s.words s.holds e.who (reqAt c e.who e.n)).1.2, wait := outJ s.wait (idxM (isJob e.who e.n) s.wait).toNat, done := putJ s.done ⟨e.who, e.n, (doM c.map s.words s.holds e.who (reqAt c e.who e.n)).2⟩ } := by simp [stepM, hk]
      rw [e1]
      have := putJ_len (l := s.done) (j := ⟨e.who, e.n, (doM c.map s.words s.holds e.who (reqAt c e.who e.n)).2⟩)
      unfold askSum at *
      simp only [hk, Int.reduceEq, if_true, if_false, reduceIte]
      omega
    · have e1 : stepM c s e = { s with told := s.told ++ [s.done.getD (idxM (isJob e.who e.n) s.done).toNat default], done := outJ s.done (idxM (isJob e.who e.n) s.done).toNat } := by simp [stepM, hk]
      rw [e1]
      have := outJ_len (idxM_at_key hi).1
      unfold askSum at *
      simp only [hk, Int.reduceEq, if_true, if_false, reduceIte, List.length_append, List.length_cons, List.length_nil]
      omega
end Go.AM
end
