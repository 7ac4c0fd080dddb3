/-
  No cell of these rows narrows 'for every input' (looked for: loops, veiled, ifaces, maps, wideKeys, modest, calm, conditions, laid).
  DERIVED. THE GIVEN ROWS OF THIS SEAT. 10 by the template 'for every input the law returns true; each argument reads behind the call as it read before'; 0 by the template 'total and deterministic' (their statements: YtlncecohbakleaaGreatTotals.lean).
  GIVEN WITH THE SEED: the statements are not yours to turn. If you find one false, say at which input.
  Laid BY PROGRAM, IN A SANDBOX (cutbox-rows.mjs): the forced cells as the released guide's own fill.sh prints them over the translation 5636594e8001b0c4… (all of the seat's roots in one cut). By AI agents, Wed Nov 11 2026. No macro, syntax, notation, axiom, sorry.
-/
import Derived.Test.YtlncecohbakleaaGreatChecked
import GoSem.Claim
import GoSem.ClaimJoined
import GoSem.ClaimMapViews
import Derived.JoinedTies
import Derived.KernelRfl
namespace Go.Proofs.YtlncecohbakleaaGreat
/- THE CELL 'sum', in the pinned program and in every row, IS THE sha256 OF THE DUMP (.gsa) THAT YtlncecohbakleaaGreatProg.lean LOADS. Nothing in Lean hashes anything: it is a label: what it is worth is what the hold of that sum in a sandbox is worth. -/
noncomputable def Tryz.pinned : Pinned := { name := "ytlncecohbakleaagreat", sum := "5636594e8001b0c4fed8fa2143477e04ac78e9db7c7d7319daf8aa6fa7104936", checked := Tryz.checked }
namespace Rows
def none {H : Type} : Left H := { results := [], args := [] }

/-- 'laws.FnExactCntRun': WHATEVER THE INPUT: true; the input reads as it did. -/
def fnExactCntRunSpec : ChangeSpec := { name := "fnExactCntRun", fn := fun _ => fun
  | [d1, d2] => { results := [.lit (.bool true)], args := [d1, d2] }
  | _ => none }
def fnExactCntRunRow : OpenClaim := { program := "ytlncecohbakleaagreat", sum := "5636594e8001b0c4fed8fa2143477e04ac78e9db7c7d7319daf8aa6fa7104936", func := "loop.example/crossyard/laws.FnExactCntRun", spec := "fnExactCntRun", unfollowed := true, recurses := true, plainKeys := false, apart := false }
def FnExactCntRunSaid : Prop := fnExactCntRunRow.holds Tryz.pinned (OpenSpec.ofChange fnExactCntRunSpec)

/-- ITS FALSE NEIGHBOUR: 'it returns false'. Refute it at one input. -/
def fnExactCntRunWrong : ChangeSpec := { name := "fnExactCntRun", fn := fun _ => fun
  | [d1, d2] => { results := [.lit (.bool false)], args := [d1, d2] }
  | _ => none }
def FnExactCntRunWrongFalsely : Prop := fnExactCntRunRow.holds Tryz.pinned (OpenSpec.ofChange fnExactCntRunWrong)

/-- 'laws.FnCycRun': WHATEVER THE INPUT: true; the input reads as it did. -/
def fnCycRunSpec : ChangeSpec := { name := "fnCycRun", fn := fun _ => fun
  | [d] => { results := [.lit (.bool true)], args := [d] }
  | _ => none }
def fnCycRunRow : OpenClaim := { program := "ytlncecohbakleaagreat", sum := "5636594e8001b0c4fed8fa2143477e04ac78e9db7c7d7319daf8aa6fa7104936", func := "loop.example/crossyard/laws.FnCycRun", spec := "fnCycRun", unfollowed := true, recurses := true, plainKeys := false, apart := false }
def FnCycRunSaid : Prop := fnCycRunRow.holds Tryz.pinned (OpenSpec.ofChange fnCycRunSpec)

/-- ITS FALSE NEIGHBOUR: 'it returns false'. Refute it at one input. -/
def fnCycRunWrong : ChangeSpec := { name := "fnCycRun", fn := fun _ => fun
  | [d] => { results := [.lit (.bool false)], args := [d] }
  | _ => none }
def FnCycRunWrongFalsely : Prop := fnCycRunRow.holds Tryz.pinned (OpenSpec.ofChange fnCycRunWrong)

/-- 'laws.FnCntAdd': WHATEVER THE INPUT: true; the input reads as it did. -/
def fnCntAddSpec : ChangeSpec := { name := "fnCntAdd", fn := fun _ => fun
  | [d1, d2] => { results := [.lit (.bool true)], args := [d1, d2] }
  | _ => none }
def fnCntAddRow : OpenClaim := { program := "ytlncecohbakleaagreat", sum := "5636594e8001b0c4fed8fa2143477e04ac78e9db7c7d7319daf8aa6fa7104936", func := "loop.example/crossyard/laws.FnCntAdd", spec := "fnCntAdd", unfollowed := true, recurses := true, plainKeys := false, apart := false }
def FnCntAddSaid : Prop := fnCntAddRow.holds Tryz.pinned (OpenSpec.ofChange fnCntAddSpec)

/-- ITS FALSE NEIGHBOUR: 'it returns false'. Refute it at one input. -/
def fnCntAddWrong : ChangeSpec := { name := "fnCntAdd", fn := fun _ => fun
  | [d1, d2] => { results := [.lit (.bool false)], args := [d1, d2] }
  | _ => none }
def FnCntAddWrongFalsely : Prop := fnCntAddRow.holds Tryz.pinned (OpenSpec.ofChange fnCntAddWrong)

/-- 'laws.FnCycRef': WHATEVER THE INPUT: true; the input reads as it did. -/
def fnCycRefSpec : ChangeSpec := { name := "fnCycRef", fn := fun _ => fun
  | [d] => { results := [.lit (.bool true)], args := [d] }
  | _ => none }
def fnCycRefRow : OpenClaim := { program := "ytlncecohbakleaagreat", sum := "5636594e8001b0c4fed8fa2143477e04ac78e9db7c7d7319daf8aa6fa7104936", func := "loop.example/crossyard/laws.FnCycRef", spec := "fnCycRef", inPlace := ["slices.overlaps[loop.example/crossyard/impl.TlmJob]"], unfollowed := true, recurses := true, plainKeys := false, apart := false }
def FnCycRefSaid : Prop := fnCycRefRow.holds Tryz.pinned (OpenSpec.ofChange fnCycRefSpec)

/-- ITS FALSE NEIGHBOUR: 'it returns false'. Refute it at one input. -/
def fnCycRefWrong : ChangeSpec := { name := "fnCycRef", fn := fun _ => fun
  | [d] => { results := [.lit (.bool false)], args := [d] }
  | _ => none }
def FnCycRefWrongFalsely : Prop := fnCycRefRow.holds Tryz.pinned (OpenSpec.ofChange fnCycRefWrong)

/-- 'laws.FnExactCycEvents': WHATEVER THE INPUT: true; the input reads as it did. -/
def fnExactCycEventsSpec : ChangeSpec := { name := "fnExactCycEvents", fn := fun _ => fun
  | [d1, d2, d3] => { results := [.lit (.bool true)], args := [d1, d2, d3] }
  | _ => none }
def fnExactCycEventsRow : OpenClaim := { program := "ytlncecohbakleaagreat", sum := "5636594e8001b0c4fed8fa2143477e04ac78e9db7c7d7319daf8aa6fa7104936", func := "loop.example/crossyard/laws.FnExactCycEvents", spec := "fnExactCycEvents", unfollowed := true, recurses := true, plainKeys := false, apart := false }
def FnExactCycEventsSaid : Prop := fnExactCycEventsRow.holds Tryz.pinned (OpenSpec.ofChange fnExactCycEventsSpec)

/-- ITS FALSE NEIGHBOUR: 'it returns false'. Refute it at one input. -/
def fnExactCycEventsWrong : ChangeSpec := { name := "fnExactCycEvents", fn := fun _ => fun
  | [d1, d2, d3] => { results := [.lit (.bool false)], args := [d1, d2, d3] }
  | _ => none }
def FnExactCycEventsWrongFalsely : Prop := fnExactCycEventsRow.holds Tryz.pinned (OpenSpec.ofChange fnExactCycEventsWrong)

/-- 'laws.FnExactCycFlow': WHATEVER THE INPUT: true; the input reads as it did. -/
def fnExactCycFlowSpec : ChangeSpec := { name := "fnExactCycFlow", fn := fun _ => fun
  | [d1, d2, d3] => { results := [.lit (.bool true)], args := [d1, d2, d3] }
  | _ => none }
def fnExactCycFlowRow : OpenClaim := { program := "ytlncecohbakleaagreat", sum := "5636594e8001b0c4fed8fa2143477e04ac78e9db7c7d7319daf8aa6fa7104936", func := "loop.example/crossyard/laws.FnExactCycFlow", spec := "fnExactCycFlow", unfollowed := true, recurses := true, plainKeys := false, apart := false }
def FnExactCycFlowSaid : Prop := fnExactCycFlowRow.holds Tryz.pinned (OpenSpec.ofChange fnExactCycFlowSpec)

/-- ITS FALSE NEIGHBOUR: 'it returns false'. Refute it at one input. -/
def fnExactCycFlowWrong : ChangeSpec := { name := "fnExactCycFlow", fn := fun _ => fun
  | [d1, d2, d3] => { results := [.lit (.bool false)], args := [d1, d2, d3] }
  | _ => none }
def FnExactCycFlowWrongFalsely : Prop := fnExactCycFlowRow.holds Tryz.pinned (OpenSpec.ofChange fnExactCycFlowWrong)

/-- 'laws.FnExactCycStep': WHATEVER THE INPUT: true; the input reads as it did. -/
def fnExactCycStepSpec : ChangeSpec := { name := "fnExactCycStep", fn := fun _ => fun
  | [d1, d2, d3] => { results := [.lit (.bool true)], args := [d1, d2, d3] }
  | _ => none }
def fnExactCycStepRow : OpenClaim := { program := "ytlncecohbakleaagreat", sum := "5636594e8001b0c4fed8fa2143477e04ac78e9db7c7d7319daf8aa6fa7104936", func := "loop.example/crossyard/laws.FnExactCycStep", spec := "fnExactCycStep", unfollowed := true, recurses := true, plainKeys := false, apart := false }
def FnExactCycStepSaid : Prop := fnExactCycStepRow.holds Tryz.pinned (OpenSpec.ofChange fnExactCycStepSpec)

/-- ITS FALSE NEIGHBOUR: 'it returns false'. Refute it at one input. -/
def fnExactCycStepWrong : ChangeSpec := { name := "fnExactCycStep", fn := fun _ => fun
  | [d1, d2, d3] => { results := [.lit (.bool false)], args := [d1, d2, d3] }
  | _ => none }
def FnExactCycStepWrongFalsely : Prop := fnExactCycStepRow.holds Tryz.pinned (OpenSpec.ofChange fnExactCycStepWrong)

/-- 'laws.FnExactCycTrace': WHATEVER THE INPUT: true; the input reads as it did. -/
def fnExactCycTraceSpec : ChangeSpec := { name := "fnExactCycTrace", fn := fun _ => fun
  | [d1, d2, d3] => { results := [.lit (.bool true)], args := [d1, d2, d3] }
  | _ => none }
def fnExactCycTraceRow : OpenClaim := { program := "ytlncecohbakleaagreat", sum := "5636594e8001b0c4fed8fa2143477e04ac78e9db7c7d7319daf8aa6fa7104936", func := "loop.example/crossyard/laws.FnExactCycTrace", spec := "fnExactCycTrace", unfollowed := true, recurses := true, plainKeys := false, apart := false }
def FnExactCycTraceSaid : Prop := fnExactCycTraceRow.holds Tryz.pinned (OpenSpec.ofChange fnExactCycTraceSpec)

/-- ITS FALSE NEIGHBOUR: 'it returns false'. Refute it at one input. -/
def fnExactCycTraceWrong : ChangeSpec := { name := "fnExactCycTrace", fn := fun _ => fun
  | [d1, d2, d3] => { results := [.lit (.bool false)], args := [d1, d2, d3] }
  | _ => none }
def FnExactCycTraceWrongFalsely : Prop := fnExactCycTraceRow.holds Tryz.pinned (OpenSpec.ofChange fnExactCycTraceWrong)

/-- 'laws.FnExactCycRun': WHATEVER THE INPUT: true; the input reads as it did. -/
def fnExactCycRunSpec : ChangeSpec := { name := "fnExactCycRun", fn := fun _ => fun
  | [d1, d2, d3] => { results := [.lit (.bool true)], args := [d1, d2, d3] }
  | _ => none }
def fnExactCycRunRow : OpenClaim := { program := "ytlncecohbakleaagreat", sum := "5636594e8001b0c4fed8fa2143477e04ac78e9db7c7d7319daf8aa6fa7104936", func := "loop.example/crossyard/laws.FnExactCycRun", spec := "fnExactCycRun", unfollowed := true, recurses := true, plainKeys := false, apart := false }
def FnExactCycRunSaid : Prop := fnExactCycRunRow.holds Tryz.pinned (OpenSpec.ofChange fnExactCycRunSpec)

/-- ITS FALSE NEIGHBOUR: 'it returns false'. Refute it at one input. -/
def fnExactCycRunWrong : ChangeSpec := { name := "fnExactCycRun", fn := fun _ => fun
  | [d1, d2, d3] => { results := [.lit (.bool false)], args := [d1, d2, d3] }
  | _ => none }
def FnExactCycRunWrongFalsely : Prop := fnExactCycRunRow.holds Tryz.pinned (OpenSpec.ofChange fnExactCycRunWrong)

/-- 'laws.FnExactCntAdd': WHATEVER THE INPUT: true; the input reads as it did. -/
def fnExactCntAddSpec : ChangeSpec := { name := "fnExactCntAdd", fn := fun _ => fun
  | [d1, d2, d3, d4] => { results := [.lit (.bool true)], args := [d1, d2, d3, d4] }
  | _ => none }
def fnExactCntAddRow : OpenClaim := { program := "ytlncecohbakleaagreat", sum := "5636594e8001b0c4fed8fa2143477e04ac78e9db7c7d7319daf8aa6fa7104936", func := "loop.example/crossyard/laws.FnExactCntAdd", spec := "fnExactCntAdd", unfollowed := true, recurses := true, plainKeys := false, apart := false }
def FnExactCntAddSaid : Prop := fnExactCntAddRow.holds Tryz.pinned (OpenSpec.ofChange fnExactCntAddSpec)

/-- ITS FALSE NEIGHBOUR: 'it returns false'. Refute it at one input. -/
def fnExactCntAddWrong : ChangeSpec := { name := "fnExactCntAdd", fn := fun _ => fun
  | [d1, d2, d3, d4] => { results := [.lit (.bool false)], args := [d1, d2, d3, d4] }
  | _ => none }
def FnExactCntAddWrongFalsely : Prop := fnExactCntAddRow.holds Tryz.pinned (OpenSpec.ofChange fnExactCntAddWrong)

/- THE SECOND FORM. 'bulk': how many values and letters a reading holds, each counted each time it is reached (what is shared counts as often as it is met; a slice's spare places count too). A statement '..UptoSaid' is the law's where the arguments, and the package variables that the reading takes, are together of bulk at most 1048576: NARROWER than '..Said'. Prove '..Said' where nothing that the law and all that it calls make is longer than what came in: it says more and counts as full. Else prove '..UptoSaid'. A law counts once. -/
mutual
def uptoBulk {H : Type} : DataW H → Nat
  | .lit (.string bytes) => bytes.length + 1
  | .lit _ => 1
  | .nil => 1
  | .ptr d => uptoBulk d + 1
  | .slice elems spare => uptoBulkAll elems + uptoBulkAll spare + 1
  | .agg parts => uptoBulkAll parts + 1
  | .iface _ d => uptoBulk d + 1
  | .map entries => uptoBulkEntries entries + 1
  | .held _ => 1
def uptoBulkAll {H : Type} : List (DataW H) → Nat
  | [] => 0
  | d :: r => uptoBulk d + uptoBulkAll r
def uptoBulkEntries {H : Type} : List (Lit × DataW H) → Nat
  | [] => 0
  | x :: r => uptoBulkEntry x + uptoBulkEntries r
def uptoBulkEntry {H : Type} : Lit × DataW H → Nat
  | (.string bytes, d) => bytes.length + uptoBulk d + 1
  | (_, d) => uptoBulk d + 1
 end
def uptoSmall : (H : Type) → List (DataW H) → Bool := fun _ ds => decide (uptoBulkAll ds ≤ 1048576)
def OpenSpec.upto (s : _root_.Go.ChangeSpec) : _root_.Go.OpenSpec := { _root_.Go.OpenSpec.ofChange s with cond := some uptoSmall }

/-- 'laws.FnExactCntRun', WHERE WHAT IT READS IS OF BULK AT MOST 1048576: true; the input reads as it did. -/
def fnExactCntRunUptoRow : OpenClaim := { program := "ytlncecohbakleaagreat", sum := "5636594e8001b0c4fed8fa2143477e04ac78e9db7c7d7319daf8aa6fa7104936", func := "loop.example/crossyard/laws.FnExactCntRun", spec := "fnExactCntRun", unfollowed := true, recurses := true, plainKeys := false, apart := false, narrowed := true }
def FnExactCntRunUptoSaid : Prop := fnExactCntRunUptoRow.holds Tryz.pinned (OpenSpec.upto fnExactCntRunSpec)

/-- 'laws.FnCycRun', WHERE WHAT IT READS IS OF BULK AT MOST 1048576: true; the input reads as it did. -/
def fnCycRunUptoRow : OpenClaim := { program := "ytlncecohbakleaagreat", sum := "5636594e8001b0c4fed8fa2143477e04ac78e9db7c7d7319daf8aa6fa7104936", func := "loop.example/crossyard/laws.FnCycRun", spec := "fnCycRun", unfollowed := true, recurses := true, plainKeys := false, apart := false, narrowed := true }
def FnCycRunUptoSaid : Prop := fnCycRunUptoRow.holds Tryz.pinned (OpenSpec.upto fnCycRunSpec)

/-- 'laws.FnCntAdd', WHERE WHAT IT READS IS OF BULK AT MOST 1048576: true; the input reads as it did. -/
def fnCntAddUptoRow : OpenClaim := { program := "ytlncecohbakleaagreat", sum := "5636594e8001b0c4fed8fa2143477e04ac78e9db7c7d7319daf8aa6fa7104936", func := "loop.example/crossyard/laws.FnCntAdd", spec := "fnCntAdd", unfollowed := true, recurses := true, plainKeys := false, apart := false, narrowed := true }
def FnCntAddUptoSaid : Prop := fnCntAddUptoRow.holds Tryz.pinned (OpenSpec.upto fnCntAddSpec)

/-- 'laws.FnCycRef', WHERE WHAT IT READS IS OF BULK AT MOST 1048576: true; the input reads as it did. -/
def fnCycRefUptoRow : OpenClaim := { program := "ytlncecohbakleaagreat", sum := "5636594e8001b0c4fed8fa2143477e04ac78e9db7c7d7319daf8aa6fa7104936", func := "loop.example/crossyard/laws.FnCycRef", spec := "fnCycRef", inPlace := ["slices.overlaps[loop.example/crossyard/impl.TlmJob]"], unfollowed := true, recurses := true, plainKeys := false, apart := false, narrowed := true }
def FnCycRefUptoSaid : Prop := fnCycRefUptoRow.holds Tryz.pinned (OpenSpec.upto fnCycRefSpec)

/-- 'laws.FnExactCycEvents', WHERE WHAT IT READS IS OF BULK AT MOST 1048576: true; the input reads as it did. -/
def fnExactCycEventsUptoRow : OpenClaim := { program := "ytlncecohbakleaagreat", sum := "5636594e8001b0c4fed8fa2143477e04ac78e9db7c7d7319daf8aa6fa7104936", func := "loop.example/crossyard/laws.FnExactCycEvents", spec := "fnExactCycEvents", unfollowed := true, recurses := true, plainKeys := false, apart := false, narrowed := true }
def FnExactCycEventsUptoSaid : Prop := fnExactCycEventsUptoRow.holds Tryz.pinned (OpenSpec.upto fnExactCycEventsSpec)

/-- 'laws.FnExactCycFlow', WHERE WHAT IT READS IS OF BULK AT MOST 1048576: true; the input reads as it did. -/
def fnExactCycFlowUptoRow : OpenClaim := { program := "ytlncecohbakleaagreat", sum := "5636594e8001b0c4fed8fa2143477e04ac78e9db7c7d7319daf8aa6fa7104936", func := "loop.example/crossyard/laws.FnExactCycFlow", spec := "fnExactCycFlow", unfollowed := true, recurses := true, plainKeys := false, apart := false, narrowed := true }
def FnExactCycFlowUptoSaid : Prop := fnExactCycFlowUptoRow.holds Tryz.pinned (OpenSpec.upto fnExactCycFlowSpec)

/-- 'laws.FnExactCycStep', WHERE WHAT IT READS IS OF BULK AT MOST 1048576: true; the input reads as it did. -/
def fnExactCycStepUptoRow : OpenClaim := { program := "ytlncecohbakleaagreat", sum := "5636594e8001b0c4fed8fa2143477e04ac78e9db7c7d7319daf8aa6fa7104936", func := "loop.example/crossyard/laws.FnExactCycStep", spec := "fnExactCycStep", unfollowed := true, recurses := true, plainKeys := false, apart := false, narrowed := true }
def FnExactCycStepUptoSaid : Prop := fnExactCycStepUptoRow.holds Tryz.pinned (OpenSpec.upto fnExactCycStepSpec)

/-- 'laws.FnExactCycTrace', WHERE WHAT IT READS IS OF BULK AT MOST 1048576: true; the input reads as it did. -/
def fnExactCycTraceUptoRow : OpenClaim := { program := "ytlncecohbakleaagreat", sum := "5636594e8001b0c4fed8fa2143477e04ac78e9db7c7d7319daf8aa6fa7104936", func := "loop.example/crossyard/laws.FnExactCycTrace", spec := "fnExactCycTrace", unfollowed := true, recurses := true, plainKeys := false, apart := false, narrowed := true }
def FnExactCycTraceUptoSaid : Prop := fnExactCycTraceUptoRow.holds Tryz.pinned (OpenSpec.upto fnExactCycTraceSpec)

/-- 'laws.FnExactCycRun', WHERE WHAT IT READS IS OF BULK AT MOST 1048576: true; the input reads as it did. -/
def fnExactCycRunUptoRow : OpenClaim := { program := "ytlncecohbakleaagreat", sum := "5636594e8001b0c4fed8fa2143477e04ac78e9db7c7d7319daf8aa6fa7104936", func := "loop.example/crossyard/laws.FnExactCycRun", spec := "fnExactCycRun", unfollowed := true, recurses := true, plainKeys := false, apart := false, narrowed := true }
def FnExactCycRunUptoSaid : Prop := fnExactCycRunUptoRow.holds Tryz.pinned (OpenSpec.upto fnExactCycRunSpec)

/-- 'laws.FnExactCntAdd', WHERE WHAT IT READS IS OF BULK AT MOST 1048576: true; the input reads as it did. -/
def fnExactCntAddUptoRow : OpenClaim := { program := "ytlncecohbakleaagreat", sum := "5636594e8001b0c4fed8fa2143477e04ac78e9db7c7d7319daf8aa6fa7104936", func := "loop.example/crossyard/laws.FnExactCntAdd", spec := "fnExactCntAdd", unfollowed := true, recurses := true, plainKeys := false, apart := false, narrowed := true }
def FnExactCntAddUptoSaid : Prop := fnExactCntAddUptoRow.holds Tryz.pinned (OpenSpec.upto fnExactCntAddSpec)

end Rows
end Go.Proofs.YtlncecohbakleaaGreat
