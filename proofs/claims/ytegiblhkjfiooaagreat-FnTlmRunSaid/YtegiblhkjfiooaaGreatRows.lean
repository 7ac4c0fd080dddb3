/-
  No cell of these rows narrows 'for every input' (looked for: loops, veiled, ifaces, maps, wideKeys, modest, calm, conditions, laid).
  DERIVED. THE GIVEN ROWS OF THIS SEAT. 11 by the template 'for every input the law returns true; each argument reads behind the call as it read before'; 0 by the template 'total and deterministic' (their statements: YtegiblhkjfiooaaGreatTotals.lean).
  GIVEN WITH THE SEED: the statements are not yours to turn. If you find one false, say at which input.
  Laid BY PROGRAM, IN A SANDBOX (cutbox-rows.mjs): the forced cells as the released guide's own fill.sh prints them over the translation 4cd759acddafef5d… (all of the seat's roots in one cut). By AI agents, Wed Nov 11 2026. No macro, syntax, notation, axiom, sorry.
-/
import Derived.Test.YtegiblhkjfiooaaGreatChecked
import GoSem.Claim
import GoSem.ClaimJoined
import GoSem.ClaimMapViews
import Derived.JoinedTies
import Derived.KernelRfl
namespace Go.Proofs.YtegiblhkjfiooaaGreat
/- THE CELL 'sum', in the pinned program and in every row, IS THE sha256 OF THE DUMP (.gsa) THAT YtegiblhkjfiooaaGreatProg.lean LOADS. Nothing in Lean hashes anything: it is a label: what it is worth is what the hold of that sum in a sandbox is worth. -/
noncomputable def Tryz.pinned : Pinned := { name := "ytegiblhkjfiooaagreat", sum := "4cd759acddafef5d0fa2bc2694275fb033a5ad937af104956cd637834488e8e0", checked := Tryz.checked }
namespace Rows
def none {H : Type} : Left H := { results := [], args := [] }

/-- 'laws.FnCycLat': WHATEVER THE INPUT: true; the input reads as it did. -/
def fnCycLatSpec : ChangeSpec := { name := "fnCycLat", fn := fun _ => fun
  | [d] => { results := [.lit (.bool true)], args := [d] }
  | _ => none }
def fnCycLatRow : OpenClaim := { program := "ytegiblhkjfiooaagreat", sum := "4cd759acddafef5d0fa2bc2694275fb033a5ad937af104956cd637834488e8e0", func := "loop.example/crossyard/laws.FnCycLat", spec := "fnCycLat", unfollowed := true, recurses := true, plainKeys := false, apart := false }
def FnCycLatSaid : Prop := fnCycLatRow.holds Tryz.pinned (OpenSpec.ofChange fnCycLatSpec)

/-- ITS FALSE NEIGHBOUR: 'it returns false'. Refute it at one input. -/
def fnCycLatWrong : ChangeSpec := { name := "fnCycLat", fn := fun _ => fun
  | [d] => { results := [.lit (.bool false)], args := [d] }
  | _ => none }
def FnCycLatWrongFalsely : Prop := fnCycLatRow.holds Tryz.pinned (OpenSpec.ofChange fnCycLatWrong)

/-- 'laws.FnCycBusy': WHATEVER THE INPUT: true; the input reads as it did. -/
def fnCycBusySpec : ChangeSpec := { name := "fnCycBusy", fn := fun _ => fun
  | [d] => { results := [.lit (.bool true)], args := [d] }
  | _ => none }
def fnCycBusyRow : OpenClaim := { program := "ytegiblhkjfiooaagreat", sum := "4cd759acddafef5d0fa2bc2694275fb033a5ad937af104956cd637834488e8e0", func := "loop.example/crossyard/laws.FnCycBusy", spec := "fnCycBusy", unfollowed := true, recurses := true, plainKeys := false, apart := false }
def FnCycBusySaid : Prop := fnCycBusyRow.holds Tryz.pinned (OpenSpec.ofChange fnCycBusySpec)

/-- ITS FALSE NEIGHBOUR: 'it returns false'. Refute it at one input. -/
def fnCycBusyWrong : ChangeSpec := { name := "fnCycBusy", fn := fun _ => fun
  | [d] => { results := [.lit (.bool false)], args := [d] }
  | _ => none }
def FnCycBusyWrongFalsely : Prop := fnCycBusyRow.holds Tryz.pinned (OpenSpec.ofChange fnCycBusyWrong)

/-- 'laws.FnCycReady': WHATEVER THE INPUT: true; the input reads as it did. -/
def fnCycReadySpec : ChangeSpec := { name := "fnCycReady", fn := fun _ => fun
  | [d] => { results := [.lit (.bool true)], args := [d] }
  | _ => none }
def fnCycReadyRow : OpenClaim := { program := "ytegiblhkjfiooaagreat", sum := "4cd759acddafef5d0fa2bc2694275fb033a5ad937af104956cd637834488e8e0", func := "loop.example/crossyard/laws.FnCycReady", spec := "fnCycReady", unfollowed := true, recurses := true, plainKeys := false, apart := false }
def FnCycReadySaid : Prop := fnCycReadyRow.holds Tryz.pinned (OpenSpec.ofChange fnCycReadySpec)

/-- ITS FALSE NEIGHBOUR: 'it returns false'. Refute it at one input. -/
def fnCycReadyWrong : ChangeSpec := { name := "fnCycReady", fn := fun _ => fun
  | [d] => { results := [.lit (.bool false)], args := [d] }
  | _ => none }
def FnCycReadyWrongFalsely : Prop := fnCycReadyRow.holds Tryz.pinned (OpenSpec.ofChange fnCycReadyWrong)

/-- 'laws.FnTrcCycle': WHATEVER THE INPUT: true; the input reads as it did. -/
def fnTrcCycleSpec : ChangeSpec := { name := "fnTrcCycle", fn := fun _ => fun
  | [d] => { results := [.lit (.bool true)], args := [d] }
  | _ => none }
def fnTrcCycleRow : OpenClaim := { program := "ytegiblhkjfiooaagreat", sum := "4cd759acddafef5d0fa2bc2694275fb033a5ad937af104956cd637834488e8e0", func := "loop.example/crossyard/laws.FnTrcCycle", spec := "fnTrcCycle", inPlace := ["slices.overlaps[loop.example/crossyard/impl.TlmJob]"], unfollowed := true, recurses := true, plainKeys := false, apart := false }
def FnTrcCycleSaid : Prop := fnTrcCycleRow.holds Tryz.pinned (OpenSpec.ofChange fnTrcCycleSpec)

/-- ITS FALSE NEIGHBOUR: 'it returns false'. Refute it at one input. -/
def fnTrcCycleWrong : ChangeSpec := { name := "fnTrcCycle", fn := fun _ => fun
  | [d] => { results := [.lit (.bool false)], args := [d] }
  | _ => none }
def FnTrcCycleWrongFalsely : Prop := fnTrcCycleRow.holds Tryz.pinned (OpenSpec.ofChange fnTrcCycleWrong)

/-- 'laws.FnCycApart': WHATEVER THE INPUT: true; the input reads as it did. -/
def fnCycApartSpec : ChangeSpec := { name := "fnCycApart", fn := fun _ => fun
  | [d] => { results := [.lit (.bool true)], args := [d] }
  | _ => none }
def fnCycApartRow : OpenClaim := { program := "ytegiblhkjfiooaagreat", sum := "4cd759acddafef5d0fa2bc2694275fb033a5ad937af104956cd637834488e8e0", func := "loop.example/crossyard/laws.FnCycApart", spec := "fnCycApart", unfollowed := true, recurses := true, plainKeys := false, apart := false }
def FnCycApartSaid : Prop := fnCycApartRow.holds Tryz.pinned (OpenSpec.ofChange fnCycApartSpec)

/-- ITS FALSE NEIGHBOUR: 'it returns false'. Refute it at one input. -/
def fnCycApartWrong : ChangeSpec := { name := "fnCycApart", fn := fun _ => fun
  | [d] => { results := [.lit (.bool false)], args := [d] }
  | _ => none }
def FnCycApartWrongFalsely : Prop := fnCycApartRow.holds Tryz.pinned (OpenSpec.ofChange fnCycApartWrong)

/-- 'laws.FnCycAgree': WHATEVER THE INPUT: true; the input reads as it did. -/
def fnCycAgreeSpec : ChangeSpec := { name := "fnCycAgree", fn := fun _ => fun
  | [d] => { results := [.lit (.bool true)], args := [d] }
  | _ => none }
def fnCycAgreeRow : OpenClaim := { program := "ytegiblhkjfiooaagreat", sum := "4cd759acddafef5d0fa2bc2694275fb033a5ad937af104956cd637834488e8e0", func := "loop.example/crossyard/laws.FnCycAgree", spec := "fnCycAgree", inPlace := ["slices.overlaps[loop.example/crossyard/impl.TlmJob]"], unfollowed := true, recurses := true, plainKeys := false, apart := false }
def FnCycAgreeSaid : Prop := fnCycAgreeRow.holds Tryz.pinned (OpenSpec.ofChange fnCycAgreeSpec)

/-- ITS FALSE NEIGHBOUR: 'it returns false'. Refute it at one input. -/
def fnCycAgreeWrong : ChangeSpec := { name := "fnCycAgree", fn := fun _ => fun
  | [d] => { results := [.lit (.bool false)], args := [d] }
  | _ => none }
def FnCycAgreeWrongFalsely : Prop := fnCycAgreeRow.holds Tryz.pinned (OpenSpec.ofChange fnCycAgreeWrong)

/-- 'laws.FnCycComes': WHATEVER THE INPUT: true; the input reads as it did. -/
def fnCycComesSpec : ChangeSpec := { name := "fnCycComes", fn := fun _ => fun
  | [d] => { results := [.lit (.bool true)], args := [d] }
  | _ => none }
def fnCycComesRow : OpenClaim := { program := "ytegiblhkjfiooaagreat", sum := "4cd759acddafef5d0fa2bc2694275fb033a5ad937af104956cd637834488e8e0", func := "loop.example/crossyard/laws.FnCycComes", spec := "fnCycComes", unfollowed := true, recurses := true, plainKeys := false, apart := false }
def FnCycComesSaid : Prop := fnCycComesRow.holds Tryz.pinned (OpenSpec.ofChange fnCycComesSpec)

/-- ITS FALSE NEIGHBOUR: 'it returns false'. Refute it at one input. -/
def fnCycComesWrong : ChangeSpec := { name := "fnCycComes", fn := fun _ => fun
  | [d] => { results := [.lit (.bool false)], args := [d] }
  | _ => none }
def FnCycComesWrongFalsely : Prop := fnCycComesRow.holds Tryz.pinned (OpenSpec.ofChange fnCycComesWrong)

/-- 'laws.FnTrcWhy': WHATEVER THE INPUT: true; the input reads as it did. -/
def fnTrcWhySpec : ChangeSpec := { name := "fnTrcWhy", fn := fun _ => fun
  | [d] => { results := [.lit (.bool true)], args := [d] }
  | _ => none }
def fnTrcWhyRow : OpenClaim := { program := "ytegiblhkjfiooaagreat", sum := "4cd759acddafef5d0fa2bc2694275fb033a5ad937af104956cd637834488e8e0", func := "loop.example/crossyard/laws.FnTrcWhy", spec := "fnTrcWhy", inPlace := ["slices.overlaps[loop.example/crossyard/impl.TlmJob]"], unfollowed := true, recurses := true, plainKeys := false, apart := false }
def FnTrcWhySaid : Prop := fnTrcWhyRow.holds Tryz.pinned (OpenSpec.ofChange fnTrcWhySpec)

/-- ITS FALSE NEIGHBOUR: 'it returns false'. Refute it at one input. -/
def fnTrcWhyWrong : ChangeSpec := { name := "fnTrcWhy", fn := fun _ => fun
  | [d] => { results := [.lit (.bool false)], args := [d] }
  | _ => none }
def FnTrcWhyWrongFalsely : Prop := fnTrcWhyRow.holds Tryz.pinned (OpenSpec.ofChange fnTrcWhyWrong)

/-- 'laws.FnTlmStep': WHATEVER THE INPUT: true; the input reads as it did. -/
def fnTlmStepSpec : ChangeSpec := { name := "fnTlmStep", fn := fun _ => fun
  | [d] => { results := [.lit (.bool true)], args := [d] }
  | _ => none }
def fnTlmStepRow : OpenClaim := { program := "ytegiblhkjfiooaagreat", sum := "4cd759acddafef5d0fa2bc2694275fb033a5ad937af104956cd637834488e8e0", func := "loop.example/crossyard/laws.FnTlmStep", spec := "fnTlmStep", inPlace := ["slices.overlaps[loop.example/crossyard/impl.TlmJob]"], unfollowed := true, recurses := true, plainKeys := false, apart := false }
def FnTlmStepSaid : Prop := fnTlmStepRow.holds Tryz.pinned (OpenSpec.ofChange fnTlmStepSpec)

/-- ITS FALSE NEIGHBOUR: 'it returns false'. Refute it at one input. -/
def fnTlmStepWrong : ChangeSpec := { name := "fnTlmStep", fn := fun _ => fun
  | [d] => { results := [.lit (.bool false)], args := [d] }
  | _ => none }
def FnTlmStepWrongFalsely : Prop := fnTlmStepRow.holds Tryz.pinned (OpenSpec.ofChange fnTlmStepWrong)

/-- 'laws.FnTrcCheck': WHATEVER THE INPUT: true; the input reads as it did. -/
def fnTrcCheckSpec : ChangeSpec := { name := "fnTrcCheck", fn := fun _ => fun
  | [d] => { results := [.lit (.bool true)], args := [d] }
  | _ => none }
def fnTrcCheckRow : OpenClaim := { program := "ytegiblhkjfiooaagreat", sum := "4cd759acddafef5d0fa2bc2694275fb033a5ad937af104956cd637834488e8e0", func := "loop.example/crossyard/laws.FnTrcCheck", spec := "fnTrcCheck", inPlace := ["slices.overlaps[loop.example/crossyard/impl.TlmJob]"], unfollowed := true, recurses := true, plainKeys := false, apart := false }
def FnTrcCheckSaid : Prop := fnTrcCheckRow.holds Tryz.pinned (OpenSpec.ofChange fnTrcCheckSpec)

/-- ITS FALSE NEIGHBOUR: 'it returns false'. Refute it at one input. -/
def fnTrcCheckWrong : ChangeSpec := { name := "fnTrcCheck", fn := fun _ => fun
  | [d] => { results := [.lit (.bool false)], args := [d] }
  | _ => none }
def FnTrcCheckWrongFalsely : Prop := fnTrcCheckRow.holds Tryz.pinned (OpenSpec.ofChange fnTrcCheckWrong)

/-- 'laws.FnTlmRun': WHATEVER THE INPUT: true; the input reads as it did. -/
def fnTlmRunSpec : ChangeSpec := { name := "fnTlmRun", fn := fun _ => fun
  | [d] => { results := [.lit (.bool true)], args := [d] }
  | _ => none }
def fnTlmRunRow : OpenClaim := { program := "ytegiblhkjfiooaagreat", sum := "4cd759acddafef5d0fa2bc2694275fb033a5ad937af104956cd637834488e8e0", func := "loop.example/crossyard/laws.FnTlmRun", spec := "fnTlmRun", inPlace := ["slices.overlaps[loop.example/crossyard/impl.TlmJob]"], unfollowed := true, recurses := true, plainKeys := false, apart := false }
def FnTlmRunSaid : Prop := fnTlmRunRow.holds Tryz.pinned (OpenSpec.ofChange fnTlmRunSpec)

/-- ITS FALSE NEIGHBOUR: 'it returns false'. Refute it at one input. -/
def fnTlmRunWrong : ChangeSpec := { name := "fnTlmRun", fn := fun _ => fun
  | [d] => { results := [.lit (.bool false)], args := [d] }
  | _ => none }
def FnTlmRunWrongFalsely : Prop := fnTlmRunRow.holds Tryz.pinned (OpenSpec.ofChange fnTlmRunWrong)

/- THE SECOND FORM. 'bulk': how many values and letters a reading holds, each counted each time it is reached (what is shared counts as often as it is met; a slice's spare places count too). A statement '..UptoSaid' is the law's where the arguments, and the package variables that the reading takes, are together of bulk at most 1048576: NARROWER than '..Said'. Prove '..Said' where nothing that the law and all that it calls make is longer than what came in: it says more and counts as full. Else prove '..UptoSaid'. A law counts once. -/
mutual
def uptoBulk {H : Type} : DataW H → Nat
  | .lit (.string bytes) => bytes.length + 1
  | .lit _ => 1
  | .nil => 1
  | .ptr d => uptoBulk d + 1
  | .slice elems spare => uptoBulkAll elems + uptoBulkAll spare + 1
  | .agg parts => uptoBulkAll parts + 1
  | .iface _ d => uptoBulk d + 1
  | .map entries => uptoBulkEntries entries + 1
  | .held _ => 1
def uptoBulkAll {H : Type} : List (DataW H) → Nat
  | [] => 0
  | d :: r => uptoBulk d + uptoBulkAll r
def uptoBulkEntries {H : Type} : List (Lit × DataW H) → Nat
  | [] => 0
  | x :: r => uptoBulkEntry x + uptoBulkEntries r
def uptoBulkEntry {H : Type} : Lit × DataW H → Nat
  | (.string bytes, d) => bytes.length + uptoBulk d + 1
  | (_, d) => uptoBulk d + 1
 end
def uptoSmall : (H : Type) → List (DataW H) → Bool := fun _ ds => decide (uptoBulkAll ds ≤ 1048576)
def OpenSpec.upto (s : _root_.Go.ChangeSpec) : _root_.Go.OpenSpec := { _root_.Go.OpenSpec.ofChange s with cond := some uptoSmall }

/-- 'laws.FnCycLat', WHERE WHAT IT READS IS OF BULK AT MOST 1048576: true; the input reads as it did. -/
def fnCycLatUptoRow : OpenClaim := { program := "ytegiblhkjfiooaagreat", sum := "4cd759acddafef5d0fa2bc2694275fb033a5ad937af104956cd637834488e8e0", func := "loop.example/crossyard/laws.FnCycLat", spec := "fnCycLat", unfollowed := true, recurses := true, plainKeys := false, apart := false, narrowed := true }
def FnCycLatUptoSaid : Prop := fnCycLatUptoRow.holds Tryz.pinned (OpenSpec.upto fnCycLatSpec)

/-- 'laws.FnCycBusy', WHERE WHAT IT READS IS OF BULK AT MOST 1048576: true; the input reads as it did. -/
def fnCycBusyUptoRow : OpenClaim := { program := "ytegiblhkjfiooaagreat", sum := "4cd759acddafef5d0fa2bc2694275fb033a5ad937af104956cd637834488e8e0", func := "loop.example/crossyard/laws.FnCycBusy", spec := "fnCycBusy", unfollowed := true, recurses := true, plainKeys := false, apart := false, narrowed := true }
def FnCycBusyUptoSaid : Prop := fnCycBusyUptoRow.holds Tryz.pinned (OpenSpec.upto fnCycBusySpec)

/-- 'laws.FnCycReady', WHERE WHAT IT READS IS OF BULK AT MOST 1048576: true; the input reads as it did. -/
def fnCycReadyUptoRow : OpenClaim := { program := "ytegiblhkjfiooaagreat", sum := "4cd759acddafef5d0fa2bc2694275fb033a5ad937af104956cd637834488e8e0", func := "loop.example/crossyard/laws.FnCycReady", spec := "fnCycReady", unfollowed := true, recurses := true, plainKeys := false, apart := false, narrowed := true }
def FnCycReadyUptoSaid : Prop := fnCycReadyUptoRow.holds Tryz.pinned (OpenSpec.upto fnCycReadySpec)

/-- 'laws.FnTrcCycle', WHERE WHAT IT READS IS OF BULK AT MOST 1048576: true; the input reads as it did. -/
def fnTrcCycleUptoRow : OpenClaim := { program := "ytegiblhkjfiooaagreat", sum := "4cd759acddafef5d0fa2bc2694275fb033a5ad937af104956cd637834488e8e0", func := "loop.example/crossyard/laws.FnTrcCycle", spec := "fnTrcCycle", inPlace := ["slices.overlaps[loop.example/crossyard/impl.TlmJob]"], unfollowed := true, recurses := true, plainKeys := false, apart := false, narrowed := true }
def FnTrcCycleUptoSaid : Prop := fnTrcCycleUptoRow.holds Tryz.pinned (OpenSpec.upto fnTrcCycleSpec)

/-- 'laws.FnCycApart', WHERE WHAT IT READS IS OF BULK AT MOST 1048576: true; the input reads as it did. -/
def fnCycApartUptoRow : OpenClaim := { program := "ytegiblhkjfiooaagreat", sum := "4cd759acddafef5d0fa2bc2694275fb033a5ad937af104956cd637834488e8e0", func := "loop.example/crossyard/laws.FnCycApart", spec := "fnCycApart", unfollowed := true, recurses := true, plainKeys := false, apart := false, narrowed := true }
def FnCycApartUptoSaid : Prop := fnCycApartUptoRow.holds Tryz.pinned (OpenSpec.upto fnCycApartSpec)

/-- 'laws.FnCycAgree', WHERE WHAT IT READS IS OF BULK AT MOST 1048576: true; the input reads as it did. -/
def fnCycAgreeUptoRow : OpenClaim := { program := "ytegiblhkjfiooaagreat", sum := "4cd759acddafef5d0fa2bc2694275fb033a5ad937af104956cd637834488e8e0", func := "loop.example/crossyard/laws.FnCycAgree", spec := "fnCycAgree", inPlace := ["slices.overlaps[loop.example/crossyard/impl.TlmJob]"], unfollowed := true, recurses := true, plainKeys := false, apart := false, narrowed := true }
def FnCycAgreeUptoSaid : Prop := fnCycAgreeUptoRow.holds Tryz.pinned (OpenSpec.upto fnCycAgreeSpec)

/-- 'laws.FnCycComes', WHERE WHAT IT READS IS OF BULK AT MOST 1048576: true; the input reads as it did. -/
def fnCycComesUptoRow : OpenClaim := { program := "ytegiblhkjfiooaagreat", sum := "4cd759acddafef5d0fa2bc2694275fb033a5ad937af104956cd637834488e8e0", func := "loop.example/crossyard/laws.FnCycComes", spec := "fnCycComes", unfollowed := true, recurses := true, plainKeys := false, apart := false, narrowed := true }
def FnCycComesUptoSaid : Prop := fnCycComesUptoRow.holds Tryz.pinned (OpenSpec.upto fnCycComesSpec)

/-- 'laws.FnTrcWhy', WHERE WHAT IT READS IS OF BULK AT MOST 1048576: true; the input reads as it did. -/
def fnTrcWhyUptoRow : OpenClaim := { program := "ytegiblhkjfiooaagreat", sum := "4cd759acddafef5d0fa2bc2694275fb033a5ad937af104956cd637834488e8e0", func := "loop.example/crossyard/laws.FnTrcWhy", spec := "fnTrcWhy", inPlace := ["slices.overlaps[loop.example/crossyard/impl.TlmJob]"], unfollowed := true, recurses := true, plainKeys := false, apart := false, narrowed := true }
def FnTrcWhyUptoSaid : Prop := fnTrcWhyUptoRow.holds Tryz.pinned (OpenSpec.upto fnTrcWhySpec)

/-- 'laws.FnTlmStep', WHERE WHAT IT READS IS OF BULK AT MOST 1048576: true; the input reads as it did. -/
def fnTlmStepUptoRow : OpenClaim := { program := "ytegiblhkjfiooaagreat", sum := "4cd759acddafef5d0fa2bc2694275fb033a5ad937af104956cd637834488e8e0", func := "loop.example/crossyard/laws.FnTlmStep", spec := "fnTlmStep", inPlace := ["slices.overlaps[loop.example/crossyard/impl.TlmJob]"], unfollowed := true, recurses := true, plainKeys := false, apart := false, narrowed := true }
def FnTlmStepUptoSaid : Prop := fnTlmStepUptoRow.holds Tryz.pinned (OpenSpec.upto fnTlmStepSpec)

/-- 'laws.FnTrcCheck', WHERE WHAT IT READS IS OF BULK AT MOST 1048576: true; the input reads as it did. -/
def fnTrcCheckUptoRow : OpenClaim := { program := "ytegiblhkjfiooaagreat", sum := "4cd759acddafef5d0fa2bc2694275fb033a5ad937af104956cd637834488e8e0", func := "loop.example/crossyard/laws.FnTrcCheck", spec := "fnTrcCheck", inPlace := ["slices.overlaps[loop.example/crossyard/impl.TlmJob]"], unfollowed := true, recurses := true, plainKeys := false, apart := false, narrowed := true }
def FnTrcCheckUptoSaid : Prop := fnTrcCheckUptoRow.holds Tryz.pinned (OpenSpec.upto fnTrcCheckSpec)

/-- 'laws.FnTlmRun', WHERE WHAT IT READS IS OF BULK AT MOST 1048576: true; the input reads as it did. -/
def fnTlmRunUptoRow : OpenClaim := { program := "ytegiblhkjfiooaagreat", sum := "4cd759acddafef5d0fa2bc2694275fb033a5ad937af104956cd637834488e8e0", func := "loop.example/crossyard/laws.FnTlmRun", spec := "fnTlmRun", inPlace := ["slices.overlaps[loop.example/crossyard/impl.TlmJob]"], unfollowed := true, recurses := true, plainKeys := false, apart := false, narrowed := true }
def FnTlmRunUptoSaid : Prop := fnTlmRunUptoRow.holds Tryz.pinned (OpenSpec.upto fnTlmRunSpec)

end Rows
end Go.Proofs.YtegiblhkjfiooaaGreat
