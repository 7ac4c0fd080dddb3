/-
  No cell of these rows narrows 'for every input' (looked for: loops, veiled, ifaces, maps, wideKeys, modest, calm, conditions, laid).
  DERIVED. THE GIVEN ROWS OF THIS SEAT. 7 by the template 'for every input the law returns true; each argument reads behind the call as it read before'; 0 by the template 'total and deterministic' (their statements: YtdkfhdmagdaceaaGreatTotals.lean).
  GIVEN WITH THE SEED: the statements are not yours to turn. If you find one false, say at which input.
  Laid BY PROGRAM, IN A SANDBOX (cutbox-rows.mjs): the forced cells as the released guide's own fill.sh prints them over the translation ea32efc93c91066c… (all of the seat's roots in one cut). By AI agents, Wed Nov 11 2026. No macro, syntax, notation, axiom, sorry.
-/
import Derived.Test.YtdkfhdmagdaceaaGreatChecked
import GoSem.Claim
import GoSem.ClaimJoined
import GoSem.ClaimMapViews
import Derived.JoinedTies
import Derived.KernelRfl
namespace Go.Proofs.YtdkfhdmagdaceaaGreat
/- THE CELL 'sum', in the pinned program and in every row, IS THE sha256 OF THE DUMP (.gsa) THAT YtdkfhdmagdaceaaGreatProg.lean LOADS. Nothing in Lean hashes anything: it is a label: what it is worth is what the hold of that sum in a sandbox is worth. -/
noncomputable def Tryz.pinned : Pinned := { name := "ytdkfhdmagdaceaagreat", sum := "ea32efc93c91066c8f6d22022257af9a0cd041408c71e7e90bfa5b0c2851dab6", checked := Tryz.checked }
namespace Rows
def none {H : Type} : Left H := { results := [], args := [] }

/-- 'laws.FnExactTlmStep': WHATEVER THE INPUT: true; the input reads as it did. -/
def fnExactTlmStepSpec : ChangeSpec := { name := "fnExactTlmStep", fn := fun _ => fun
  | [d1, d2, d3] => { results := [.lit (.bool true)], args := [d1, d2, d3] }
  | _ => none }
def fnExactTlmStepRow : OpenClaim := { program := "ytdkfhdmagdaceaagreat", sum := "ea32efc93c91066c8f6d22022257af9a0cd041408c71e7e90bfa5b0c2851dab6", func := "loop.example/crossyard/laws.FnExactTlmStep", spec := "fnExactTlmStep", inPlace := ["slices.overlaps[loop.example/crossyard/impl.TlmJob]"], unfollowed := true, recurses := true, plainKeys := false, apart := false }
def FnExactTlmStepSaid : Prop := fnExactTlmStepRow.holds Tryz.pinned (OpenSpec.ofChange fnExactTlmStepSpec)

/-- ITS FALSE NEIGHBOUR: 'it returns false'. Refute it at one input. -/
def fnExactTlmStepWrong : ChangeSpec := { name := "fnExactTlmStep", fn := fun _ => fun
  | [d1, d2, d3] => { results := [.lit (.bool false)], args := [d1, d2, d3] }
  | _ => none }
def FnExactTlmStepWrongFalsely : Prop := fnExactTlmStepRow.holds Tryz.pinned (OpenSpec.ofChange fnExactTlmStepWrong)

/-- 'laws.FnExactTlmRun': WHATEVER THE INPUT: true; the input reads as it did. -/
def fnExactTlmRunSpec : ChangeSpec := { name := "fnExactTlmRun", fn := fun _ => fun
  | [d1, d2, d3] => { results := [.lit (.bool true)], args := [d1, d2, d3] }
  | _ => none }
def fnExactTlmRunRow : OpenClaim := { program := "ytdkfhdmagdaceaagreat", sum := "ea32efc93c91066c8f6d22022257af9a0cd041408c71e7e90bfa5b0c2851dab6", func := "loop.example/crossyard/laws.FnExactTlmRun", spec := "fnExactTlmRun", inPlace := ["slices.overlaps[loop.example/crossyard/impl.TlmJob]"], unfollowed := true, recurses := true, plainKeys := false, apart := false }
def FnExactTlmRunSaid : Prop := fnExactTlmRunRow.holds Tryz.pinned (OpenSpec.ofChange fnExactTlmRunSpec)

/-- ITS FALSE NEIGHBOUR: 'it returns false'. Refute it at one input. -/
def fnExactTlmRunWrong : ChangeSpec := { name := "fnExactTlmRun", fn := fun _ => fun
  | [d1, d2, d3] => { results := [.lit (.bool false)], args := [d1, d2, d3] }
  | _ => none }
def FnExactTlmRunWrongFalsely : Prop := fnExactTlmRunRow.holds Tryz.pinned (OpenSpec.ofChange fnExactTlmRunWrong)

/-- 'laws.FnCycShape': WHATEVER THE INPUT: true; the input reads as it did. -/
def fnCycShapeSpec : ChangeSpec := { name := "fnCycShape", fn := fun _ => fun
  | [d] => { results := [.lit (.bool true)], args := [d] }
  | _ => none }
def fnCycShapeRow : OpenClaim := { program := "ytdkfhdmagdaceaagreat", sum := "ea32efc93c91066c8f6d22022257af9a0cd041408c71e7e90bfa5b0c2851dab6", func := "loop.example/crossyard/laws.FnCycShape", spec := "fnCycShape", unfollowed := true, recurses := true, plainKeys := false, apart := false }
def FnCycShapeSaid : Prop := fnCycShapeRow.holds Tryz.pinned (OpenSpec.ofChange fnCycShapeSpec)

/-- ITS FALSE NEIGHBOUR: 'it returns false'. Refute it at one input. -/
def fnCycShapeWrong : ChangeSpec := { name := "fnCycShape", fn := fun _ => fun
  | [d] => { results := [.lit (.bool false)], args := [d] }
  | _ => none }
def FnCycShapeWrongFalsely : Prop := fnCycShapeRow.holds Tryz.pinned (OpenSpec.ofChange fnCycShapeWrong)

/-- 'laws.FnCycFlow': WHATEVER THE INPUT: true; the input reads as it did. -/
def fnCycFlowSpec : ChangeSpec := { name := "fnCycFlow", fn := fun _ => fun
  | [d] => { results := [.lit (.bool true)], args := [d] }
  | _ => none }
def fnCycFlowRow : OpenClaim := { program := "ytdkfhdmagdaceaagreat", sum := "ea32efc93c91066c8f6d22022257af9a0cd041408c71e7e90bfa5b0c2851dab6", func := "loop.example/crossyard/laws.FnCycFlow", spec := "fnCycFlow", unfollowed := true, recurses := true, plainKeys := false, apart := false }
def FnCycFlowSaid : Prop := fnCycFlowRow.holds Tryz.pinned (OpenSpec.ofChange fnCycFlowSpec)

/-- ITS FALSE NEIGHBOUR: 'it returns false'. Refute it at one input. -/
def fnCycFlowWrong : ChangeSpec := { name := "fnCycFlow", fn := fun _ => fun
  | [d] => { results := [.lit (.bool false)], args := [d] }
  | _ => none }
def FnCycFlowWrongFalsely : Prop := fnCycFlowRow.holds Tryz.pinned (OpenSpec.ofChange fnCycFlowWrong)

/-- 'laws.FnCycRun': WHATEVER THE INPUT: true; the input reads as it did. -/
def fnCycRunSpec : ChangeSpec := { name := "fnCycRun", fn := fun _ => fun
  | [d] => { results := [.lit (.bool true)], args := [d] }
  | _ => none }
def fnCycRunRow : OpenClaim := { program := "ytdkfhdmagdaceaagreat", sum := "ea32efc93c91066c8f6d22022257af9a0cd041408c71e7e90bfa5b0c2851dab6", func := "loop.example/crossyard/laws.FnCycRun", spec := "fnCycRun", unfollowed := true, recurses := true, plainKeys := false, apart := false }
def FnCycRunSaid : Prop := fnCycRunRow.holds Tryz.pinned (OpenSpec.ofChange fnCycRunSpec)

/-- ITS FALSE NEIGHBOUR: 'it returns false'. Refute it at one input. -/
def fnCycRunWrong : ChangeSpec := { name := "fnCycRun", fn := fun _ => fun
  | [d] => { results := [.lit (.bool false)], args := [d] }
  | _ => none }
def FnCycRunWrongFalsely : Prop := fnCycRunRow.holds Tryz.pinned (OpenSpec.ofChange fnCycRunWrong)

/-- 'laws.FnCycRef': WHATEVER THE INPUT: true; the input reads as it did. -/
def fnCycRefSpec : ChangeSpec := { name := "fnCycRef", fn := fun _ => fun
  | [d] => { results := [.lit (.bool true)], args := [d] }
  | _ => none }
def fnCycRefRow : OpenClaim := { program := "ytdkfhdmagdaceaagreat", sum := "ea32efc93c91066c8f6d22022257af9a0cd041408c71e7e90bfa5b0c2851dab6", func := "loop.example/crossyard/laws.FnCycRef", spec := "fnCycRef", inPlace := ["slices.overlaps[loop.example/crossyard/impl.TlmJob]"], unfollowed := true, recurses := true, plainKeys := false, apart := false }
def FnCycRefSaid : Prop := fnCycRefRow.holds Tryz.pinned (OpenSpec.ofChange fnCycRefSpec)

/-- ITS FALSE NEIGHBOUR: 'it returns false'. Refute it at one input. -/
def fnCycRefWrong : ChangeSpec := { name := "fnCycRef", fn := fun _ => fun
  | [d] => { results := [.lit (.bool false)], args := [d] }
  | _ => none }
def FnCycRefWrongFalsely : Prop := fnCycRefRow.holds Tryz.pinned (OpenSpec.ofChange fnCycRefWrong)

/-- 'laws.FnCntAdd': WHATEVER THE INPUT: true; the input reads as it did. -/
def fnCntAddSpec : ChangeSpec := { name := "fnCntAdd", fn := fun _ => fun
  | [d1, d2] => { results := [.lit (.bool true)], args := [d1, d2] }
  | _ => none }
def fnCntAddRow : OpenClaim := { program := "ytdkfhdmagdaceaagreat", sum := "ea32efc93c91066c8f6d22022257af9a0cd041408c71e7e90bfa5b0c2851dab6", func := "loop.example/crossyard/laws.FnCntAdd", spec := "fnCntAdd", unfollowed := true, recurses := true, plainKeys := false, apart := false }
def FnCntAddSaid : Prop := fnCntAddRow.holds Tryz.pinned (OpenSpec.ofChange fnCntAddSpec)

/-- ITS FALSE NEIGHBOUR: 'it returns false'. Refute it at one input. -/
def fnCntAddWrong : ChangeSpec := { name := "fnCntAdd", fn := fun _ => fun
  | [d1, d2] => { results := [.lit (.bool false)], args := [d1, d2] }
  | _ => none }
def FnCntAddWrongFalsely : Prop := fnCntAddRow.holds Tryz.pinned (OpenSpec.ofChange fnCntAddWrong)

/- THE SECOND FORM. 'bulk': how many values and letters a reading holds, each counted each time it is reached (what is shared counts as often as it is met; a slice's spare places count too). A statement '..UptoSaid' is the law's where the arguments, and the package variables that the reading takes, are together of bulk at most 1048576: NARROWER than '..Said'. Prove '..Said' where nothing that the law and all that it calls make is longer than what came in: it says more and counts as full. Else prove '..UptoSaid'. A law counts once. -/
mutual
def uptoBulk {H : Type} : DataW H → Nat
  | .lit (.string bytes) => bytes.length + 1
  | .lit _ => 1
  | .nil => 1
  | .ptr d => uptoBulk d + 1
  | .slice elems spare => uptoBulkAll elems + uptoBulkAll spare + 1
  | .agg parts => uptoBulkAll parts + 1
  | .iface _ d => uptoBulk d + 1
  | .map entries => uptoBulkEntries entries + 1
  | .held _ => 1
def uptoBulkAll {H : Type} : List (DataW H) → Nat
  | [] => 0
  | d :: r => uptoBulk d + uptoBulkAll r
def uptoBulkEntries {H : Type} : List (Lit × DataW H) → Nat
  | [] => 0
  | x :: r => uptoBulkEntry x + uptoBulkEntries r
def uptoBulkEntry {H : Type} : Lit × DataW H → Nat
  | (.string bytes, d) => bytes.length + uptoBulk d + 1
  | (_, d) => uptoBulk d + 1
 end
def uptoSmall : (H : Type) → List (DataW H) → Bool := fun _ ds => decide (uptoBulkAll ds ≤ 1048576)
def OpenSpec.upto (s : _root_.Go.ChangeSpec) : _root_.Go.OpenSpec := { _root_.Go.OpenSpec.ofChange s with cond := some uptoSmall }

/-- 'laws.FnExactTlmStep', WHERE WHAT IT READS IS OF BULK AT MOST 1048576: true; the input reads as it did. -/
def fnExactTlmStepUptoRow : OpenClaim := { program := "ytdkfhdmagdaceaagreat", sum := "ea32efc93c91066c8f6d22022257af9a0cd041408c71e7e90bfa5b0c2851dab6", func := "loop.example/crossyard/laws.FnExactTlmStep", spec := "fnExactTlmStep", inPlace := ["slices.overlaps[loop.example/crossyard/impl.TlmJob]"], unfollowed := true, recurses := true, plainKeys := false, apart := false, narrowed := true }
def FnExactTlmStepUptoSaid : Prop := fnExactTlmStepUptoRow.holds Tryz.pinned (OpenSpec.upto fnExactTlmStepSpec)

/-- 'laws.FnExactTlmRun', WHERE WHAT IT READS IS OF BULK AT MOST 1048576: true; the input reads as it did. -/
def fnExactTlmRunUptoRow : OpenClaim := { program := "ytdkfhdmagdaceaagreat", sum := "ea32efc93c91066c8f6d22022257af9a0cd041408c71e7e90bfa5b0c2851dab6", func := "loop.example/crossyard/laws.FnExactTlmRun", spec := "fnExactTlmRun", inPlace := ["slices.overlaps[loop.example/crossyard/impl.TlmJob]"], unfollowed := true, recurses := true, plainKeys := false, apart := false, narrowed := true }
def FnExactTlmRunUptoSaid : Prop := fnExactTlmRunUptoRow.holds Tryz.pinned (OpenSpec.upto fnExactTlmRunSpec)

/-- 'laws.FnCycShape', WHERE WHAT IT READS IS OF BULK AT MOST 1048576: true; the input reads as it did. -/
def fnCycShapeUptoRow : OpenClaim := { program := "ytdkfhdmagdaceaagreat", sum := "ea32efc93c91066c8f6d22022257af9a0cd041408c71e7e90bfa5b0c2851dab6", func := "loop.example/crossyard/laws.FnCycShape", spec := "fnCycShape", unfollowed := true, recurses := true, plainKeys := false, apart := false, narrowed := true }
def FnCycShapeUptoSaid : Prop := fnCycShapeUptoRow.holds Tryz.pinned (OpenSpec.upto fnCycShapeSpec)

/-- 'laws.FnCycFlow', WHERE WHAT IT READS IS OF BULK AT MOST 1048576: true; the input reads as it did. -/
def fnCycFlowUptoRow : OpenClaim := { program := "ytdkfhdmagdaceaagreat", sum := "ea32efc93c91066c8f6d22022257af9a0cd041408c71e7e90bfa5b0c2851dab6", func := "loop.example/crossyard/laws.FnCycFlow", spec := "fnCycFlow", unfollowed := true, recurses := true, plainKeys := false, apart := false, narrowed := true }
def FnCycFlowUptoSaid : Prop := fnCycFlowUptoRow.holds Tryz.pinned (OpenSpec.upto fnCycFlowSpec)

/-- 'laws.FnCycRun', WHERE WHAT IT READS IS OF BULK AT MOST 1048576: true; the input reads as it did. -/
def fnCycRunUptoRow : OpenClaim := { program := "ytdkfhdmagdaceaagreat", sum := "ea32efc93c91066c8f6d22022257af9a0cd041408c71e7e90bfa5b0c2851dab6", func := "loop.example/crossyard/laws.FnCycRun", spec := "fnCycRun", unfollowed := true, recurses := true, plainKeys := false, apart := false, narrowed := true }
def FnCycRunUptoSaid : Prop := fnCycRunUptoRow.holds Tryz.pinned (OpenSpec.upto fnCycRunSpec)

/-- 'laws.FnCycRef', WHERE WHAT IT READS IS OF BULK AT MOST 1048576: true; the input reads as it did. -/
def fnCycRefUptoRow : OpenClaim := { program := "ytdkfhdmagdaceaagreat", sum := "ea32efc93c91066c8f6d22022257af9a0cd041408c71e7e90bfa5b0c2851dab6", func := "loop.example/crossyard/laws.FnCycRef", spec := "fnCycRef", inPlace := ["slices.overlaps[loop.example/crossyard/impl.TlmJob]"], unfollowed := true, recurses := true, plainKeys := false, apart := false, narrowed := true }
def FnCycRefUptoSaid : Prop := fnCycRefUptoRow.holds Tryz.pinned (OpenSpec.upto fnCycRefSpec)

/-- 'laws.FnCntAdd', WHERE WHAT IT READS IS OF BULK AT MOST 1048576: true; the input reads as it did. -/
def fnCntAddUptoRow : OpenClaim := { program := "ytdkfhdmagdaceaagreat", sum := "ea32efc93c91066c8f6d22022257af9a0cd041408c71e7e90bfa5b0c2851dab6", func := "loop.example/crossyard/laws.FnCntAdd", spec := "fnCntAdd", unfollowed := true, recurses := true, plainKeys := false, apart := false, narrowed := true }
def FnCntAddUptoSaid : Prop := fnCntAddUptoRow.holds Tryz.pinned (OpenSpec.upto fnCntAddSpec)

end Rows
end Go.Proofs.YtdkfhdmagdaceaaGreat
