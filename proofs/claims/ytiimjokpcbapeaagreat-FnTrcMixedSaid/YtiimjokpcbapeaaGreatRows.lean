/-
  No cell of these rows narrows 'for every input' (looked for: loops, veiled, ifaces, maps, wideKeys, modest, calm, conditions, laid).
  DERIVED. THE GIVEN ROWS OF THIS SEAT. 12 by the template 'for every input the law returns true; each argument reads behind the call as it read before'; 0 by the template 'total and deterministic' (their statements: YtiimjokpcbapeaaGreatTotals.lean).
  GIVEN WITH THE SEED: the statements are not yours to turn. If you find one false, say at which input.
  Laid BY PROGRAM, IN A SANDBOX (cutbox-rows.mjs): the forced cells as the released guide's own fill.sh prints them over the translation c51f4b2659c308b0… (all of the seat's roots in one cut). By AI agents, Wed Nov 11 2026. No macro, syntax, notation, axiom, sorry.
-/
import Derived.Test.YtiimjokpcbapeaaGreatChecked
import GoSem.Claim
import GoSem.ClaimJoined
import GoSem.ClaimMapViews
import Derived.JoinedTies
import Derived.KernelRfl
namespace Go.Proofs.YtiimjokpcbapeaaGreat
/- THE CELL 'sum', in the pinned program and in every row, IS THE sha256 OF THE DUMP (.gsa) THAT YtiimjokpcbapeaaGreatProg.lean LOADS. Nothing in Lean hashes anything: it is a label: what it is worth is what the hold of that sum in a sandbox is worth. -/
noncomputable def Tryz.pinned : Pinned := { name := "ytiimjokpcbapeaagreat", sum := "c51f4b2659c308b093931fc0d0c9af90da52c4e70da80b195ad22fdd11910984", checked := Tryz.checked }
namespace Rows
def none {H : Type} : Left H := { results := [], args := [] }

/-- 'laws.FnTlmCount': WHATEVER THE INPUT: true; the input reads as it did. -/
def fnTlmCountSpec : ChangeSpec := { name := "fnTlmCount", fn := fun _ => fun
  | [d] => { results := [.lit (.bool true)], args := [d] }
  | _ => none }
def fnTlmCountRow : OpenClaim := { program := "ytiimjokpcbapeaagreat", sum := "c51f4b2659c308b093931fc0d0c9af90da52c4e70da80b195ad22fdd11910984", func := "loop.example/crossyard/laws.FnTlmCount", spec := "fnTlmCount", inPlace := ["slices.overlaps[loop.example/crossyard/impl.TlmJob]"], unfollowed := true, recurses := true, plainKeys := false, apart := false }
def FnTlmCountSaid : Prop := fnTlmCountRow.holds Tryz.pinned (OpenSpec.ofChange fnTlmCountSpec)

/-- ITS FALSE NEIGHBOUR: 'it returns false'. Refute it at one input. -/
def fnTlmCountWrong : ChangeSpec := { name := "fnTlmCount", fn := fun _ => fun
  | [d] => { results := [.lit (.bool false)], args := [d] }
  | _ => none }
def FnTlmCountWrongFalsely : Prop := fnTlmCountRow.holds Tryz.pinned (OpenSpec.ofChange fnTlmCountWrong)

/-- 'laws.FnTrcAlone': WHATEVER THE INPUT: true; the input reads as it did. -/
def fnTrcAloneSpec : ChangeSpec := { name := "fnTrcAlone", fn := fun _ => fun
  | [d] => { results := [.lit (.bool true)], args := [d] }
  | _ => none }
def fnTrcAloneRow : OpenClaim := { program := "ytiimjokpcbapeaagreat", sum := "c51f4b2659c308b093931fc0d0c9af90da52c4e70da80b195ad22fdd11910984", func := "loop.example/crossyard/laws.FnTrcAlone", spec := "fnTrcAlone", inPlace := ["slices.overlaps[loop.example/crossyard/impl.TlmJob]"], unfollowed := true, recurses := true, plainKeys := false, apart := false }
def FnTrcAloneSaid : Prop := fnTrcAloneRow.holds Tryz.pinned (OpenSpec.ofChange fnTrcAloneSpec)

/-- ITS FALSE NEIGHBOUR: 'it returns false'. Refute it at one input. -/
def fnTrcAloneWrong : ChangeSpec := { name := "fnTrcAlone", fn := fun _ => fun
  | [d] => { results := [.lit (.bool false)], args := [d] }
  | _ => none }
def FnTrcAloneWrongFalsely : Prop := fnTrcAloneRow.holds Tryz.pinned (OpenSpec.ofChange fnTrcAloneWrong)

/-- 'laws.FnTlmEnd': WHATEVER THE INPUT: true; the input reads as it did. -/
def fnTlmEndSpec : ChangeSpec := { name := "fnTlmEnd", fn := fun _ => fun
  | [d] => { results := [.lit (.bool true)], args := [d] }
  | _ => none }
def fnTlmEndRow : OpenClaim := { program := "ytiimjokpcbapeaagreat", sum := "c51f4b2659c308b093931fc0d0c9af90da52c4e70da80b195ad22fdd11910984", func := "loop.example/crossyard/laws.FnTlmEnd", spec := "fnTlmEnd", inPlace := ["slices.overlaps[loop.example/crossyard/impl.TlmJob]"], unfollowed := true, recurses := true, plainKeys := false, apart := false }
def FnTlmEndSaid : Prop := fnTlmEndRow.holds Tryz.pinned (OpenSpec.ofChange fnTlmEndSpec)

/-- ITS FALSE NEIGHBOUR: 'it returns false'. Refute it at one input. -/
def fnTlmEndWrong : ChangeSpec := { name := "fnTlmEnd", fn := fun _ => fun
  | [d] => { results := [.lit (.bool false)], args := [d] }
  | _ => none }
def FnTlmEndWrongFalsely : Prop := fnTlmEndRow.holds Tryz.pinned (OpenSpec.ofChange fnTlmEndWrong)

/-- 'laws.FnTlmMay': WHATEVER THE INPUT: true; the input reads as it did. -/
def fnTlmMaySpec : ChangeSpec := { name := "fnTlmMay", fn := fun _ => fun
  | [d] => { results := [.lit (.bool true)], args := [d] }
  | _ => none }
def fnTlmMayRow : OpenClaim := { program := "ytiimjokpcbapeaagreat", sum := "c51f4b2659c308b093931fc0d0c9af90da52c4e70da80b195ad22fdd11910984", func := "loop.example/crossyard/laws.FnTlmMay", spec := "fnTlmMay", inPlace := ["slices.overlaps[loop.example/crossyard/impl.TlmJob]"], unfollowed := true, recurses := true, plainKeys := false, apart := false }
def FnTlmMaySaid : Prop := fnTlmMayRow.holds Tryz.pinned (OpenSpec.ofChange fnTlmMaySpec)

/-- ITS FALSE NEIGHBOUR: 'it returns false'. Refute it at one input. -/
def fnTlmMayWrong : ChangeSpec := { name := "fnTlmMay", fn := fun _ => fun
  | [d] => { results := [.lit (.bool false)], args := [d] }
  | _ => none }
def FnTlmMayWrongFalsely : Prop := fnTlmMayRow.holds Tryz.pinned (OpenSpec.ofChange fnTlmMayWrong)

/-- 'laws.FnTlmOrder': WHATEVER THE INPUT: true; the input reads as it did. -/
def fnTlmOrderSpec : ChangeSpec := { name := "fnTlmOrder", fn := fun _ => fun
  | [d] => { results := [.lit (.bool true)], args := [d] }
  | _ => none }
def fnTlmOrderRow : OpenClaim := { program := "ytiimjokpcbapeaagreat", sum := "c51f4b2659c308b093931fc0d0c9af90da52c4e70da80b195ad22fdd11910984", func := "loop.example/crossyard/laws.FnTlmOrder", spec := "fnTlmOrder", inPlace := ["slices.overlaps[loop.example/crossyard/impl.TlmJob]"], unfollowed := true, recurses := true, plainKeys := false, apart := false }
def FnTlmOrderSaid : Prop := fnTlmOrderRow.holds Tryz.pinned (OpenSpec.ofChange fnTlmOrderSpec)

/-- ITS FALSE NEIGHBOUR: 'it returns false'. Refute it at one input. -/
def fnTlmOrderWrong : ChangeSpec := { name := "fnTlmOrder", fn := fun _ => fun
  | [d] => { results := [.lit (.bool false)], args := [d] }
  | _ => none }
def FnTlmOrderWrongFalsely : Prop := fnTlmOrderRow.holds Tryz.pinned (OpenSpec.ofChange fnTlmOrderWrong)

/-- 'laws.FnTrcPart': WHATEVER THE INPUT: true; the input reads as it did. -/
def fnTrcPartSpec : ChangeSpec := { name := "fnTrcPart", fn := fun _ => fun
  | [d] => { results := [.lit (.bool true)], args := [d] }
  | _ => none }
def fnTrcPartRow : OpenClaim := { program := "ytiimjokpcbapeaagreat", sum := "c51f4b2659c308b093931fc0d0c9af90da52c4e70da80b195ad22fdd11910984", func := "loop.example/crossyard/laws.FnTrcPart", spec := "fnTrcPart", inPlace := ["slices.overlaps[loop.example/crossyard/impl.TlmJob]"], unfollowed := true, recurses := true, plainKeys := false, apart := false }
def FnTrcPartSaid : Prop := fnTrcPartRow.holds Tryz.pinned (OpenSpec.ofChange fnTrcPartSpec)

/-- ITS FALSE NEIGHBOUR: 'it returns false'. Refute it at one input. -/
def fnTrcPartWrong : ChangeSpec := { name := "fnTrcPart", fn := fun _ => fun
  | [d] => { results := [.lit (.bool false)], args := [d] }
  | _ => none }
def FnTrcPartWrongFalsely : Prop := fnTrcPartRow.holds Tryz.pinned (OpenSpec.ofChange fnTrcPartWrong)

/-- 'laws.FnTlmOnce': WHATEVER THE INPUT: true; the input reads as it did. -/
def fnTlmOnceSpec : ChangeSpec := { name := "fnTlmOnce", fn := fun _ => fun
  | [d] => { results := [.lit (.bool true)], args := [d] }
  | _ => none }
def fnTlmOnceRow : OpenClaim := { program := "ytiimjokpcbapeaagreat", sum := "c51f4b2659c308b093931fc0d0c9af90da52c4e70da80b195ad22fdd11910984", func := "loop.example/crossyard/laws.FnTlmOnce", spec := "fnTlmOnce", inPlace := ["slices.overlaps[loop.example/crossyard/impl.TlmJob]"], unfollowed := true, recurses := true, plainKeys := false, apart := false }
def FnTlmOnceSaid : Prop := fnTlmOnceRow.holds Tryz.pinned (OpenSpec.ofChange fnTlmOnceSpec)

/-- ITS FALSE NEIGHBOUR: 'it returns false'. Refute it at one input. -/
def fnTlmOnceWrong : ChangeSpec := { name := "fnTlmOnce", fn := fun _ => fun
  | [d] => { results := [.lit (.bool false)], args := [d] }
  | _ => none }
def FnTlmOnceWrongFalsely : Prop := fnTlmOnceRow.holds Tryz.pinned (OpenSpec.ofChange fnTlmOnceWrong)

/-- 'laws.FnTrcLine': WHATEVER THE INPUT: true; the input reads as it did. -/
def fnTrcLineSpec : ChangeSpec := { name := "fnTrcLine", fn := fun _ => fun
  | [d] => { results := [.lit (.bool true)], args := [d] }
  | _ => none }
def fnTrcLineRow : OpenClaim := { program := "ytiimjokpcbapeaagreat", sum := "c51f4b2659c308b093931fc0d0c9af90da52c4e70da80b195ad22fdd11910984", func := "loop.example/crossyard/laws.FnTrcLine", spec := "fnTrcLine", inPlace := ["slices.overlaps[loop.example/crossyard/impl.TlmJob]"], unfollowed := true, recurses := true, plainKeys := false, apart := false }
def FnTrcLineSaid : Prop := fnTrcLineRow.holds Tryz.pinned (OpenSpec.ofChange fnTrcLineSpec)

/-- ITS FALSE NEIGHBOUR: 'it returns false'. Refute it at one input. -/
def fnTrcLineWrong : ChangeSpec := { name := "fnTrcLine", fn := fun _ => fun
  | [d] => { results := [.lit (.bool false)], args := [d] }
  | _ => none }
def FnTrcLineWrongFalsely : Prop := fnTrcLineRow.holds Tryz.pinned (OpenSpec.ofChange fnTrcLineWrong)

/-- 'laws.FnTrcSwap': WHATEVER THE INPUT: true; the input reads as it did. -/
def fnTrcSwapSpec : ChangeSpec := { name := "fnTrcSwap", fn := fun _ => fun
  | [d] => { results := [.lit (.bool true)], args := [d] }
  | _ => none }
def fnTrcSwapRow : OpenClaim := { program := "ytiimjokpcbapeaagreat", sum := "c51f4b2659c308b093931fc0d0c9af90da52c4e70da80b195ad22fdd11910984", func := "loop.example/crossyard/laws.FnTrcSwap", spec := "fnTrcSwap", inPlace := ["slices.overlaps[loop.example/crossyard/impl.TlmJob]"], unfollowed := true, recurses := true, plainKeys := false, apart := false }
def FnTrcSwapSaid : Prop := fnTrcSwapRow.holds Tryz.pinned (OpenSpec.ofChange fnTrcSwapSpec)

/-- ITS FALSE NEIGHBOUR: 'it returns false'. Refute it at one input. -/
def fnTrcSwapWrong : ChangeSpec := { name := "fnTrcSwap", fn := fun _ => fun
  | [d] => { results := [.lit (.bool false)], args := [d] }
  | _ => none }
def FnTrcSwapWrongFalsely : Prop := fnTrcSwapRow.holds Tryz.pinned (OpenSpec.ofChange fnTrcSwapWrong)

/-- 'laws.FnTrcReads': WHATEVER THE INPUT: true; the input reads as it did. -/
def fnTrcReadsSpec : ChangeSpec := { name := "fnTrcReads", fn := fun _ => fun
  | [d] => { results := [.lit (.bool true)], args := [d] }
  | _ => none }
def fnTrcReadsRow : OpenClaim := { program := "ytiimjokpcbapeaagreat", sum := "c51f4b2659c308b093931fc0d0c9af90da52c4e70da80b195ad22fdd11910984", func := "loop.example/crossyard/laws.FnTrcReads", spec := "fnTrcReads", inPlace := ["slices.overlaps[loop.example/crossyard/impl.TlmJob]"], unfollowed := true, recurses := true, plainKeys := false, apart := false }
def FnTrcReadsSaid : Prop := fnTrcReadsRow.holds Tryz.pinned (OpenSpec.ofChange fnTrcReadsSpec)

/-- ITS FALSE NEIGHBOUR: 'it returns false'. Refute it at one input. -/
def fnTrcReadsWrong : ChangeSpec := { name := "fnTrcReads", fn := fun _ => fun
  | [d] => { results := [.lit (.bool false)], args := [d] }
  | _ => none }
def FnTrcReadsWrongFalsely : Prop := fnTrcReadsRow.holds Tryz.pinned (OpenSpec.ofChange fnTrcReadsWrong)

/-- 'laws.FnTlmAtom': WHATEVER THE INPUT: true; the input reads as it did. -/
def fnTlmAtomSpec : ChangeSpec := { name := "fnTlmAtom", fn := fun _ => fun
  | [d] => { results := [.lit (.bool true)], args := [d] }
  | _ => none }
def fnTlmAtomRow : OpenClaim := { program := "ytiimjokpcbapeaagreat", sum := "c51f4b2659c308b093931fc0d0c9af90da52c4e70da80b195ad22fdd11910984", func := "loop.example/crossyard/laws.FnTlmAtom", spec := "fnTlmAtom", inPlace := ["slices.overlaps[loop.example/crossyard/impl.TlmJob]"], unfollowed := true, recurses := true, plainKeys := false, apart := false }
def FnTlmAtomSaid : Prop := fnTlmAtomRow.holds Tryz.pinned (OpenSpec.ofChange fnTlmAtomSpec)

/-- ITS FALSE NEIGHBOUR: 'it returns false'. Refute it at one input. -/
def fnTlmAtomWrong : ChangeSpec := { name := "fnTlmAtom", fn := fun _ => fun
  | [d] => { results := [.lit (.bool false)], args := [d] }
  | _ => none }
def FnTlmAtomWrongFalsely : Prop := fnTlmAtomRow.holds Tryz.pinned (OpenSpec.ofChange fnTlmAtomWrong)

/-- 'laws.FnTrcMixed': WHATEVER THE INPUT: true; the input reads as it did. -/
def fnTrcMixedSpec : ChangeSpec := { name := "fnTrcMixed", fn := fun _ => fun
  | [d] => { results := [.lit (.bool true)], args := [d] }
  | _ => none }
def fnTrcMixedRow : OpenClaim := { program := "ytiimjokpcbapeaagreat", sum := "c51f4b2659c308b093931fc0d0c9af90da52c4e70da80b195ad22fdd11910984", func := "loop.example/crossyard/laws.FnTrcMixed", spec := "fnTrcMixed", inPlace := ["slices.overlaps[loop.example/crossyard/impl.TlmJob]"], unfollowed := true, recurses := true, plainKeys := false, apart := false }
def FnTrcMixedSaid : Prop := fnTrcMixedRow.holds Tryz.pinned (OpenSpec.ofChange fnTrcMixedSpec)

/-- ITS FALSE NEIGHBOUR: 'it returns false'. Refute it at one input. -/
def fnTrcMixedWrong : ChangeSpec := { name := "fnTrcMixed", fn := fun _ => fun
  | [d] => { results := [.lit (.bool false)], args := [d] }
  | _ => none }
def FnTrcMixedWrongFalsely : Prop := fnTrcMixedRow.holds Tryz.pinned (OpenSpec.ofChange fnTrcMixedWrong)

/- THE SECOND FORM. 'bulk': how many values and letters a reading holds, each counted each time it is reached (what is shared counts as often as it is met; a slice's spare places count too). A statement '..UptoSaid' is the law's where the arguments, and the package variables that the reading takes, are together of bulk at most 1048576: NARROWER than '..Said'. Prove '..Said' where nothing that the law and all that it calls make is longer than what came in: it says more and counts as full. Else prove '..UptoSaid'. A law counts once. -/
mutual
def uptoBulk {H : Type} : DataW H → Nat
  | .lit (.string bytes) => bytes.length + 1
  | .lit _ => 1
  | .nil => 1
  | .ptr d => uptoBulk d + 1
  | .slice elems spare => uptoBulkAll elems + uptoBulkAll spare + 1
  | .agg parts => uptoBulkAll parts + 1
  | .iface _ d => uptoBulk d + 1
  | .map entries => uptoBulkEntries entries + 1
  | .held _ => 1
def uptoBulkAll {H : Type} : List (DataW H) → Nat
  | [] => 0
  | d :: r => uptoBulk d + uptoBulkAll r
def uptoBulkEntries {H : Type} : List (Lit × DataW H) → Nat
  | [] => 0
  | x :: r => uptoBulkEntry x + uptoBulkEntries r
def uptoBulkEntry {H : Type} : Lit × DataW H → Nat
  | (.string bytes, d) => bytes.length + uptoBulk d + 1
  | (_, d) => uptoBulk d + 1
 end
def uptoSmall : (H : Type) → List (DataW H) → Bool := fun _ ds => decide (uptoBulkAll ds ≤ 1048576)
def OpenSpec.upto (s : _root_.Go.ChangeSpec) : _root_.Go.OpenSpec := { _root_.Go.OpenSpec.ofChange s with cond := some uptoSmall }

/-- 'laws.FnTlmCount', WHERE WHAT IT READS IS OF BULK AT MOST 1048576: true; the input reads as it did. -/
def fnTlmCountUptoRow : OpenClaim := { program := "ytiimjokpcbapeaagreat", sum := "c51f4b2659c308b093931fc0d0c9af90da52c4e70da80b195ad22fdd11910984", func := "loop.example/crossyard/laws.FnTlmCount", spec := "fnTlmCount", inPlace := ["slices.overlaps[loop.example/crossyard/impl.TlmJob]"], unfollowed := true, recurses := true, plainKeys := false, apart := false, narrowed := true }
def FnTlmCountUptoSaid : Prop := fnTlmCountUptoRow.holds Tryz.pinned (OpenSpec.upto fnTlmCountSpec)

/-- 'laws.FnTrcAlone', WHERE WHAT IT READS IS OF BULK AT MOST 1048576: true; the input reads as it did. -/
def fnTrcAloneUptoRow : OpenClaim := { program := "ytiimjokpcbapeaagreat", sum := "c51f4b2659c308b093931fc0d0c9af90da52c4e70da80b195ad22fdd11910984", func := "loop.example/crossyard/laws.FnTrcAlone", spec := "fnTrcAlone", inPlace := ["slices.overlaps[loop.example/crossyard/impl.TlmJob]"], unfollowed := true, recurses := true, plainKeys := false, apart := false, narrowed := true }
def FnTrcAloneUptoSaid : Prop := fnTrcAloneUptoRow.holds Tryz.pinned (OpenSpec.upto fnTrcAloneSpec)

/-- 'laws.FnTlmEnd', WHERE WHAT IT READS IS OF BULK AT MOST 1048576: true; the input reads as it did. -/
def fnTlmEndUptoRow : OpenClaim := { program := "ytiimjokpcbapeaagreat", sum := "c51f4b2659c308b093931fc0d0c9af90da52c4e70da80b195ad22fdd11910984", func := "loop.example/crossyard/laws.FnTlmEnd", spec := "fnTlmEnd", inPlace := ["slices.overlaps[loop.example/crossyard/impl.TlmJob]"], unfollowed := true, recurses := true, plainKeys := false, apart := false, narrowed := true }
def FnTlmEndUptoSaid : Prop := fnTlmEndUptoRow.holds Tryz.pinned (OpenSpec.upto fnTlmEndSpec)

/-- 'laws.FnTlmMay', WHERE WHAT IT READS IS OF BULK AT MOST 1048576: true; the input reads as it did. -/
def fnTlmMayUptoRow : OpenClaim := { program := "ytiimjokpcbapeaagreat", sum := "c51f4b2659c308b093931fc0d0c9af90da52c4e70da80b195ad22fdd11910984", func := "loop.example/crossyard/laws.FnTlmMay", spec := "fnTlmMay", inPlace := ["slices.overlaps[loop.example/crossyard/impl.TlmJob]"], unfollowed := true, recurses := true, plainKeys := false, apart := false, narrowed := true }
def FnTlmMayUptoSaid : Prop := fnTlmMayUptoRow.holds Tryz.pinned (OpenSpec.upto fnTlmMaySpec)

/-- 'laws.FnTlmOrder', WHERE WHAT IT READS IS OF BULK AT MOST 1048576: true; the input reads as it did. -/
def fnTlmOrderUptoRow : OpenClaim := { program := "ytiimjokpcbapeaagreat", sum := "c51f4b2659c308b093931fc0d0c9af90da52c4e70da80b195ad22fdd11910984", func := "loop.example/crossyard/laws.FnTlmOrder", spec := "fnTlmOrder", inPlace := ["slices.overlaps[loop.example/crossyard/impl.TlmJob]"], unfollowed := true, recurses := true, plainKeys := false, apart := false, narrowed := true }
def FnTlmOrderUptoSaid : Prop := fnTlmOrderUptoRow.holds Tryz.pinned (OpenSpec.upto fnTlmOrderSpec)

/-- 'laws.FnTrcPart', WHERE WHAT IT READS IS OF BULK AT MOST 1048576: true; the input reads as it did. -/
def fnTrcPartUptoRow : OpenClaim := { program := "ytiimjokpcbapeaagreat", sum := "c51f4b2659c308b093931fc0d0c9af90da52c4e70da80b195ad22fdd11910984", func := "loop.example/crossyard/laws.FnTrcPart", spec := "fnTrcPart", inPlace := ["slices.overlaps[loop.example/crossyard/impl.TlmJob]"], unfollowed := true, recurses := true, plainKeys := false, apart := false, narrowed := true }
def FnTrcPartUptoSaid : Prop := fnTrcPartUptoRow.holds Tryz.pinned (OpenSpec.upto fnTrcPartSpec)

/-- 'laws.FnTlmOnce', WHERE WHAT IT READS IS OF BULK AT MOST 1048576: true; the input reads as it did. -/
def fnTlmOnceUptoRow : OpenClaim := { program := "ytiimjokpcbapeaagreat", sum := "c51f4b2659c308b093931fc0d0c9af90da52c4e70da80b195ad22fdd11910984", func := "loop.example/crossyard/laws.FnTlmOnce", spec := "fnTlmOnce", inPlace := ["slices.overlaps[loop.example/crossyard/impl.TlmJob]"], unfollowed := true, recurses := true, plainKeys := false, apart := false, narrowed := true }
def FnTlmOnceUptoSaid : Prop := fnTlmOnceUptoRow.holds Tryz.pinned (OpenSpec.upto fnTlmOnceSpec)

/-- 'laws.FnTrcLine', WHERE WHAT IT READS IS OF BULK AT MOST 1048576: true; the input reads as it did. -/
def fnTrcLineUptoRow : OpenClaim := { program := "ytiimjokpcbapeaagreat", sum := "c51f4b2659c308b093931fc0d0c9af90da52c4e70da80b195ad22fdd11910984", func := "loop.example/crossyard/laws.FnTrcLine", spec := "fnTrcLine", inPlace := ["slices.overlaps[loop.example/crossyard/impl.TlmJob]"], unfollowed := true, recurses := true, plainKeys := false, apart := false, narrowed := true }
def FnTrcLineUptoSaid : Prop := fnTrcLineUptoRow.holds Tryz.pinned (OpenSpec.upto fnTrcLineSpec)

/-- 'laws.FnTrcSwap', WHERE WHAT IT READS IS OF BULK AT MOST 1048576: true; the input reads as it did. -/
def fnTrcSwapUptoRow : OpenClaim := { program := "ytiimjokpcbapeaagreat", sum := "c51f4b2659c308b093931fc0d0c9af90da52c4e70da80b195ad22fdd11910984", func := "loop.example/crossyard/laws.FnTrcSwap", spec := "fnTrcSwap", inPlace := ["slices.overlaps[loop.example/crossyard/impl.TlmJob]"], unfollowed := true, recurses := true, plainKeys := false, apart := false, narrowed := true }
def FnTrcSwapUptoSaid : Prop := fnTrcSwapUptoRow.holds Tryz.pinned (OpenSpec.upto fnTrcSwapSpec)

/-- 'laws.FnTrcReads', WHERE WHAT IT READS IS OF BULK AT MOST 1048576: true; the input reads as it did. -/
def fnTrcReadsUptoRow : OpenClaim := { program := "ytiimjokpcbapeaagreat", sum := "c51f4b2659c308b093931fc0d0c9af90da52c4e70da80b195ad22fdd11910984", func := "loop.example/crossyard/laws.FnTrcReads", spec := "fnTrcReads", inPlace := ["slices.overlaps[loop.example/crossyard/impl.TlmJob]"], unfollowed := true, recurses := true, plainKeys := false, apart := false, narrowed := true }
def FnTrcReadsUptoSaid : Prop := fnTrcReadsUptoRow.holds Tryz.pinned (OpenSpec.upto fnTrcReadsSpec)

/-- 'laws.FnTlmAtom', WHERE WHAT IT READS IS OF BULK AT MOST 1048576: true; the input reads as it did. -/
def fnTlmAtomUptoRow : OpenClaim := { program := "ytiimjokpcbapeaagreat", sum := "c51f4b2659c308b093931fc0d0c9af90da52c4e70da80b195ad22fdd11910984", func := "loop.example/crossyard/laws.FnTlmAtom", spec := "fnTlmAtom", inPlace := ["slices.overlaps[loop.example/crossyard/impl.TlmJob]"], unfollowed := true, recurses := true, plainKeys := false, apart := false, narrowed := true }
def FnTlmAtomUptoSaid : Prop := fnTlmAtomUptoRow.holds Tryz.pinned (OpenSpec.upto fnTlmAtomSpec)

/-- 'laws.FnTrcMixed', WHERE WHAT IT READS IS OF BULK AT MOST 1048576: true; the input reads as it did. -/
def fnTrcMixedUptoRow : OpenClaim := { program := "ytiimjokpcbapeaagreat", sum := "c51f4b2659c308b093931fc0d0c9af90da52c4e70da80b195ad22fdd11910984", func := "loop.example/crossyard/laws.FnTrcMixed", spec := "fnTrcMixed", inPlace := ["slices.overlaps[loop.example/crossyard/impl.TlmJob]"], unfollowed := true, recurses := true, plainKeys := false, apart := false, narrowed := true }
def FnTrcMixedUptoSaid : Prop := fnTrcMixedUptoRow.holds Tryz.pinned (OpenSpec.upto fnTrcMixedSpec)

end Rows
end Go.Proofs.YtiimjokpcbapeaaGreat
