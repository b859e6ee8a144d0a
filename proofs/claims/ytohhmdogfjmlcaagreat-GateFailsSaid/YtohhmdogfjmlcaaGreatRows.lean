/-
  No cell of these rows narrows 'for every input' (looked for: loops, veiled, ifaces, maps, wideKeys, modest, calm, conditions, laid).
  DERIVED. THE GIVEN ROWS OF THIS SEAT. 11 by the template 'for every input the law returns true; each argument reads behind the call as it read before'; 0 by the template 'total and deterministic' (their statements: YtohhmdogfjmlcaaGreatTotals.lean).
  GIVEN WITH THE SEED: the statements are not yours to turn. If you find one false, say at which input.
  Laid BY PROGRAM, IN A SANDBOX (cutbox-rows.mjs): the forced cells as the released guide's own fill.sh prints them over the translation ee5f95a3a0bda83e… (all of the seat's roots in one cut). By AI agents, Wed Nov 11 2026. No macro, syntax, notation, axiom, sorry.
-/
import Derived.Test.YtohhmdogfjmlcaaGreatChecked
import GoSem.Claim
import GoSem.ClaimJoined
import GoSem.ClaimMapViews
import Derived.JoinedTies
import Derived.KernelRfl
namespace Go.Proofs.YtohhmdogfjmlcaaGreat
/- THE CELL 'sum', in the pinned program and in every row, IS THE sha256 OF THE DUMP (.gsa) THAT YtohhmdogfjmlcaaGreatProg.lean LOADS. Nothing in Lean hashes anything: it is a label: what it is worth is what the hold of that sum in a sandbox is worth. -/
noncomputable def Tryz.pinned : Pinned := { name := "ytohhmdogfjmlcaagreat", sum := "ee5f95a3a0bda83e129b7b15152bf1681179bce973e52428922f0667c8ca7ff0", checked := Tryz.checked }
namespace Rows
def none {H : Type} : Left H := { results := [], args := [] }

/-- 'tidewaylaw06.GateCharts': WHATEVER THE INPUT: true; the input reads as it did. -/
def gateChartsSpec : ChangeSpec := { name := "gateCharts", fn := fun _ => fun
  | [d] => { results := [.lit (.bool true)], args := [d] }
  | _ => none }
def gateChartsRow : OpenClaim := { program := "ytohhmdogfjmlcaagreat", sum := "ee5f95a3a0bda83e129b7b15152bf1681179bce973e52428922f0667c8ca7ff0", func := "tideway/tidewaylaw06.GateCharts", spec := "gateCharts", unfollowed := true, recurses := true, apart := false }
def GateChartsSaid : Prop := gateChartsRow.holds Tryz.pinned (OpenSpec.ofChange gateChartsSpec)

/-- ITS FALSE NEIGHBOUR: 'it returns false'. Refute it at one input. -/
def gateChartsWrong : ChangeSpec := { name := "gateCharts", fn := fun _ => fun
  | [d] => { results := [.lit (.bool false)], args := [d] }
  | _ => none }
def GateChartsWrongFalsely : Prop := gateChartsRow.holds Tryz.pinned (OpenSpec.ofChange gateChartsWrong)

/-- 'tidewaylaw06.GateSteps': WHATEVER THE INPUT: true; the input reads as it did. -/
def gateStepsSpec : ChangeSpec := { name := "gateSteps", fn := fun _ => fun
  | [d1, d2, d3] => { results := [.lit (.bool true)], args := [d1, d2, d3] }
  | _ => none }
def gateStepsRow : OpenClaim := { program := "ytohhmdogfjmlcaagreat", sum := "ee5f95a3a0bda83e129b7b15152bf1681179bce973e52428922f0667c8ca7ff0", func := "tideway/tidewaylaw06.GateSteps", spec := "gateSteps", unfollowed := true, recurses := true, apart := false }
def GateStepsSaid : Prop := gateStepsRow.holds Tryz.pinned (OpenSpec.ofChange gateStepsSpec)

/-- ITS FALSE NEIGHBOUR: 'it returns false'. Refute it at one input. -/
def gateStepsWrong : ChangeSpec := { name := "gateSteps", fn := fun _ => fun
  | [d1, d2, d3] => { results := [.lit (.bool false)], args := [d1, d2, d3] }
  | _ => none }
def GateStepsWrongFalsely : Prop := gateStepsRow.holds Tryz.pinned (OpenSpec.ofChange gateStepsWrong)

/-- 'tidewaylaw06.GateCommands': WHATEVER THE INPUT: true; the input reads as it did. -/
def gateCommandsSpec : ChangeSpec := { name := "gateCommands", fn := fun _ => fun
  | [d1, d2] => { results := [.lit (.bool true)], args := [d1, d2] }
  | _ => none }
def gateCommandsRow : OpenClaim := { program := "ytohhmdogfjmlcaagreat", sum := "ee5f95a3a0bda83e129b7b15152bf1681179bce973e52428922f0667c8ca7ff0", func := "tideway/tidewaylaw06.GateCommands", spec := "gateCommands", unfollowed := true, recurses := true, apart := false }
def GateCommandsSaid : Prop := gateCommandsRow.holds Tryz.pinned (OpenSpec.ofChange gateCommandsSpec)

/-- ITS FALSE NEIGHBOUR: 'it returns false'. Refute it at one input. -/
def gateCommandsWrong : ChangeSpec := { name := "gateCommands", fn := fun _ => fun
  | [d1, d2] => { results := [.lit (.bool false)], args := [d1, d2] }
  | _ => none }
def GateCommandsWrongFalsely : Prop := gateCommandsRow.holds Tryz.pinned (OpenSpec.ofChange gateCommandsWrong)

/-- 'tidewaylaw06.GateOnce': WHATEVER THE INPUT: true; the input reads as it did. -/
def gateOnceSpec : ChangeSpec := { name := "gateOnce", fn := fun _ => fun
  | [d1, d2, d3] => { results := [.lit (.bool true)], args := [d1, d2, d3] }
  | _ => none }
def gateOnceRow : OpenClaim := { program := "ytohhmdogfjmlcaagreat", sum := "ee5f95a3a0bda83e129b7b15152bf1681179bce973e52428922f0667c8ca7ff0", func := "tideway/tidewaylaw06.GateOnce", spec := "gateOnce", unfollowed := true, recurses := true, apart := false }
def GateOnceSaid : Prop := gateOnceRow.holds Tryz.pinned (OpenSpec.ofChange gateOnceSpec)

/-- ITS FALSE NEIGHBOUR: 'it returns false'. Refute it at one input. -/
def gateOnceWrong : ChangeSpec := { name := "gateOnce", fn := fun _ => fun
  | [d1, d2, d3] => { results := [.lit (.bool false)], args := [d1, d2, d3] }
  | _ => none }
def GateOnceWrongFalsely : Prop := gateOnceRow.holds Tryz.pinned (OpenSpec.ofChange gateOnceWrong)

/-- 'tidewaylaw06.GateCases': WHATEVER THE INPUT: true; the input reads as it did. -/
def gateCasesSpec : ChangeSpec := { name := "gateCases", fn := fun _ => fun
  | [d] => { results := [.lit (.bool true)], args := [d] }
  | _ => none }
def gateCasesRow : OpenClaim := { program := "ytohhmdogfjmlcaagreat", sum := "ee5f95a3a0bda83e129b7b15152bf1681179bce973e52428922f0667c8ca7ff0", func := "tideway/tidewaylaw06.GateCases", spec := "gateCases", unfollowed := true, recurses := true, apart := false }
def GateCasesSaid : Prop := gateCasesRow.holds Tryz.pinned (OpenSpec.ofChange gateCasesSpec)

/-- ITS FALSE NEIGHBOUR: 'it returns false'. Refute it at one input. -/
def gateCasesWrong : ChangeSpec := { name := "gateCases", fn := fun _ => fun
  | [d] => { results := [.lit (.bool false)], args := [d] }
  | _ => none }
def GateCasesWrongFalsely : Prop := gateCasesRow.holds Tryz.pinned (OpenSpec.ofChange gateCasesWrong)

/-- 'tidewaylaw06.GateVotes': WHATEVER THE INPUT: true; the input reads as it did. -/
def gateVotesSpec : ChangeSpec := { name := "gateVotes", fn := fun _ => fun
  | [d1, d2] => { results := [.lit (.bool true)], args := [d1, d2] }
  | _ => none }
def gateVotesRow : OpenClaim := { program := "ytohhmdogfjmlcaagreat", sum := "ee5f95a3a0bda83e129b7b15152bf1681179bce973e52428922f0667c8ca7ff0", func := "tideway/tidewaylaw06.GateVotes", spec := "gateVotes", unfollowed := true, recurses := true, apart := false }
def GateVotesSaid : Prop := gateVotesRow.holds Tryz.pinned (OpenSpec.ofChange gateVotesSpec)

/-- ITS FALSE NEIGHBOUR: 'it returns false'. Refute it at one input. -/
def gateVotesWrong : ChangeSpec := { name := "gateVotes", fn := fun _ => fun
  | [d1, d2] => { results := [.lit (.bool false)], args := [d1, d2] }
  | _ => none }
def GateVotesWrongFalsely : Prop := gateVotesRow.holds Tryz.pinned (OpenSpec.ofChange gateVotesWrong)

/-- 'tidewaylaw06.GateTaken': WHATEVER THE INPUT: true; the input reads as it did. -/
def gateTakenSpec : ChangeSpec := { name := "gateTaken", fn := fun _ => fun
  | [d] => { results := [.lit (.bool true)], args := [d] }
  | _ => none }
def gateTakenRow : OpenClaim := { program := "ytohhmdogfjmlcaagreat", sum := "ee5f95a3a0bda83e129b7b15152bf1681179bce973e52428922f0667c8ca7ff0", func := "tideway/tidewaylaw06.GateTaken", spec := "gateTaken", unfollowed := true, recurses := true, apart := false }
def GateTakenSaid : Prop := gateTakenRow.holds Tryz.pinned (OpenSpec.ofChange gateTakenSpec)

/-- ITS FALSE NEIGHBOUR: 'it returns false'. Refute it at one input. -/
def gateTakenWrong : ChangeSpec := { name := "gateTaken", fn := fun _ => fun
  | [d] => { results := [.lit (.bool false)], args := [d] }
  | _ => none }
def GateTakenWrongFalsely : Prop := gateTakenRow.holds Tryz.pinned (OpenSpec.ofChange gateTakenWrong)

/-- 'tidewaylaw06.GateTraces': WHATEVER THE INPUT: true; the input reads as it did. -/
def gateTracesSpec : ChangeSpec := { name := "gateTraces", fn := fun _ => fun
  | [d1, d2, d3] => { results := [.lit (.bool true)], args := [d1, d2, d3] }
  | _ => none }
def gateTracesRow : OpenClaim := { program := "ytohhmdogfjmlcaagreat", sum := "ee5f95a3a0bda83e129b7b15152bf1681179bce973e52428922f0667c8ca7ff0", func := "tideway/tidewaylaw06.GateTraces", spec := "gateTraces", unfollowed := true, recurses := true, apart := false }
def GateTracesSaid : Prop := gateTracesRow.holds Tryz.pinned (OpenSpec.ofChange gateTracesSpec)

/-- ITS FALSE NEIGHBOUR: 'it returns false'. Refute it at one input. -/
def gateTracesWrong : ChangeSpec := { name := "gateTraces", fn := fun _ => fun
  | [d1, d2, d3] => { results := [.lit (.bool false)], args := [d1, d2, d3] }
  | _ => none }
def GateTracesWrongFalsely : Prop := gateTracesRow.holds Tryz.pinned (OpenSpec.ofChange gateTracesWrong)

/-- 'tidewaylaw06.GateReaches': WHATEVER THE INPUT: true; the input reads as it did. -/
def gateReachesSpec : ChangeSpec := { name := "gateReaches", fn := fun _ => fun
  | [d] => { results := [.lit (.bool true)], args := [d] }
  | _ => none }
def gateReachesRow : OpenClaim := { program := "ytohhmdogfjmlcaagreat", sum := "ee5f95a3a0bda83e129b7b15152bf1681179bce973e52428922f0667c8ca7ff0", func := "tideway/tidewaylaw06.GateReaches", spec := "gateReaches", unfollowed := true, recurses := true, apart := false }
def GateReachesSaid : Prop := gateReachesRow.holds Tryz.pinned (OpenSpec.ofChange gateReachesSpec)

/-- ITS FALSE NEIGHBOUR: 'it returns false'. Refute it at one input. -/
def gateReachesWrong : ChangeSpec := { name := "gateReaches", fn := fun _ => fun
  | [d] => { results := [.lit (.bool false)], args := [d] }
  | _ => none }
def GateReachesWrongFalsely : Prop := gateReachesRow.holds Tryz.pinned (OpenSpec.ofChange gateReachesWrong)

/-- 'tidewaylaw06.GatePlays': WHATEVER THE INPUT: true; the input reads as it did. -/
def gatePlaysSpec : ChangeSpec := { name := "gatePlays", fn := fun _ => fun
  | [d1, d2] => { results := [.lit (.bool true)], args := [d1, d2] }
  | _ => none }
def gatePlaysRow : OpenClaim := { program := "ytohhmdogfjmlcaagreat", sum := "ee5f95a3a0bda83e129b7b15152bf1681179bce973e52428922f0667c8ca7ff0", func := "tideway/tidewaylaw06.GatePlays", spec := "gatePlays", unfollowed := true, recurses := true, apart := false }
def GatePlaysSaid : Prop := gatePlaysRow.holds Tryz.pinned (OpenSpec.ofChange gatePlaysSpec)

/-- ITS FALSE NEIGHBOUR: 'it returns false'. Refute it at one input. -/
def gatePlaysWrong : ChangeSpec := { name := "gatePlays", fn := fun _ => fun
  | [d1, d2] => { results := [.lit (.bool false)], args := [d1, d2] }
  | _ => none }
def GatePlaysWrongFalsely : Prop := gatePlaysRow.holds Tryz.pinned (OpenSpec.ofChange gatePlaysWrong)

/-- 'tidewaylaw06.GateFails': WHATEVER THE INPUT: true; the input reads as it did. -/
def gateFailsSpec : ChangeSpec := { name := "gateFails", fn := fun _ => fun
  | [d1, d2] => { results := [.lit (.bool true)], args := [d1, d2] }
  | _ => none }
def gateFailsRow : OpenClaim := { program := "ytohhmdogfjmlcaagreat", sum := "ee5f95a3a0bda83e129b7b15152bf1681179bce973e52428922f0667c8ca7ff0", func := "tideway/tidewaylaw06.GateFails", spec := "gateFails", unfollowed := true, recurses := true, apart := false }
def GateFailsSaid : Prop := gateFailsRow.holds Tryz.pinned (OpenSpec.ofChange gateFailsSpec)

/-- ITS FALSE NEIGHBOUR: 'it returns false'. Refute it at one input. -/
def gateFailsWrong : ChangeSpec := { name := "gateFails", fn := fun _ => fun
  | [d1, d2] => { results := [.lit (.bool false)], args := [d1, d2] }
  | _ => none }
def GateFailsWrongFalsely : Prop := gateFailsRow.holds Tryz.pinned (OpenSpec.ofChange gateFailsWrong)

/- THE SECOND FORM. 'bulk': how many values and letters a reading holds, each counted each time it is reached (what is shared counts as often as it is met; a slice's spare places count too). A statement '..UptoSaid' is the law's where the arguments, and the package variables that the reading takes, are together of bulk at most 1048576: NARROWER than '..Said'. Prove '..Said' where nothing that the law and all that it calls make is longer than what came in: it says more and counts as full. Else prove '..UptoSaid'. A law counts once. -/
mutual
def uptoBulk {H : Type} : DataW H → Nat
  | .lit (.string bytes) => bytes.length + 1
  | .lit _ => 1
  | .nil => 1
  | .ptr d => uptoBulk d + 1
  | .slice elems spare => uptoBulkAll elems + uptoBulkAll spare + 1
  | .agg parts => uptoBulkAll parts + 1
  | .iface _ d => uptoBulk d + 1
  | .map entries => uptoBulkEntries entries + 1
  | .held _ => 1
def uptoBulkAll {H : Type} : List (DataW H) → Nat
  | [] => 0
  | d :: r => uptoBulk d + uptoBulkAll r
def uptoBulkEntries {H : Type} : List (Lit × DataW H) → Nat
  | [] => 0
  | x :: r => uptoBulkEntry x + uptoBulkEntries r
def uptoBulkEntry {H : Type} : Lit × DataW H → Nat
  | (.string bytes, d) => bytes.length + uptoBulk d + 1
  | (_, d) => uptoBulk d + 1
 end
def uptoSmall : (H : Type) → List (DataW H) → Bool := fun _ ds => decide (uptoBulkAll ds ≤ 1048576)
def OpenSpec.upto (s : _root_.Go.ChangeSpec) : _root_.Go.OpenSpec := { _root_.Go.OpenSpec.ofChange s with cond := some uptoSmall }

/-- 'tidewaylaw06.GateCharts', WHERE WHAT IT READS IS OF BULK AT MOST 1048576: true; the input reads as it did. -/
def gateChartsUptoRow : OpenClaim := { program := "ytohhmdogfjmlcaagreat", sum := "ee5f95a3a0bda83e129b7b15152bf1681179bce973e52428922f0667c8ca7ff0", func := "tideway/tidewaylaw06.GateCharts", spec := "gateCharts", unfollowed := true, recurses := true, apart := false, narrowed := true }
def GateChartsUptoSaid : Prop := gateChartsUptoRow.holds Tryz.pinned (OpenSpec.upto gateChartsSpec)

/-- 'tidewaylaw06.GateSteps', WHERE WHAT IT READS IS OF BULK AT MOST 1048576: true; the input reads as it did. -/
def gateStepsUptoRow : OpenClaim := { program := "ytohhmdogfjmlcaagreat", sum := "ee5f95a3a0bda83e129b7b15152bf1681179bce973e52428922f0667c8ca7ff0", func := "tideway/tidewaylaw06.GateSteps", spec := "gateSteps", unfollowed := true, recurses := true, apart := false, narrowed := true }
def GateStepsUptoSaid : Prop := gateStepsUptoRow.holds Tryz.pinned (OpenSpec.upto gateStepsSpec)

/-- 'tidewaylaw06.GateCommands', WHERE WHAT IT READS IS OF BULK AT MOST 1048576: true; the input reads as it did. -/
def gateCommandsUptoRow : OpenClaim := { program := "ytohhmdogfjmlcaagreat", sum := "ee5f95a3a0bda83e129b7b15152bf1681179bce973e52428922f0667c8ca7ff0", func := "tideway/tidewaylaw06.GateCommands", spec := "gateCommands", unfollowed := true, recurses := true, apart := false, narrowed := true }
def GateCommandsUptoSaid : Prop := gateCommandsUptoRow.holds Tryz.pinned (OpenSpec.upto gateCommandsSpec)

/-- 'tidewaylaw06.GateOnce', WHERE WHAT IT READS IS OF BULK AT MOST 1048576: true; the input reads as it did. -/
def gateOnceUptoRow : OpenClaim := { program := "ytohhmdogfjmlcaagreat", sum := "ee5f95a3a0bda83e129b7b15152bf1681179bce973e52428922f0667c8ca7ff0", func := "tideway/tidewaylaw06.GateOnce", spec := "gateOnce", unfollowed := true, recurses := true, apart := false, narrowed := true }
def GateOnceUptoSaid : Prop := gateOnceUptoRow.holds Tryz.pinned (OpenSpec.upto gateOnceSpec)

/-- 'tidewaylaw06.GateCases', WHERE WHAT IT READS IS OF BULK AT MOST 1048576: true; the input reads as it did. -/
def gateCasesUptoRow : OpenClaim := { program := "ytohhmdogfjmlcaagreat", sum := "ee5f95a3a0bda83e129b7b15152bf1681179bce973e52428922f0667c8ca7ff0", func := "tideway/tidewaylaw06.GateCases", spec := "gateCases", unfollowed := true, recurses := true, apart := false, narrowed := true }
def GateCasesUptoSaid : Prop := gateCasesUptoRow.holds Tryz.pinned (OpenSpec.upto gateCasesSpec)

/-- 'tidewaylaw06.GateVotes', WHERE WHAT IT READS IS OF BULK AT MOST 1048576: true; the input reads as it did. -/
def gateVotesUptoRow : OpenClaim := { program := "ytohhmdogfjmlcaagreat", sum := "ee5f95a3a0bda83e129b7b15152bf1681179bce973e52428922f0667c8ca7ff0", func := "tideway/tidewaylaw06.GateVotes", spec := "gateVotes", unfollowed := true, recurses := true, apart := false, narrowed := true }
def GateVotesUptoSaid : Prop := gateVotesUptoRow.holds Tryz.pinned (OpenSpec.upto gateVotesSpec)

/-- 'tidewaylaw06.GateTaken', WHERE WHAT IT READS IS OF BULK AT MOST 1048576: true; the input reads as it did. -/
def gateTakenUptoRow : OpenClaim := { program := "ytohhmdogfjmlcaagreat", sum := "ee5f95a3a0bda83e129b7b15152bf1681179bce973e52428922f0667c8ca7ff0", func := "tideway/tidewaylaw06.GateTaken", spec := "gateTaken", unfollowed := true, recurses := true, apart := false, narrowed := true }
def GateTakenUptoSaid : Prop := gateTakenUptoRow.holds Tryz.pinned (OpenSpec.upto gateTakenSpec)

/-- 'tidewaylaw06.GateTraces', WHERE WHAT IT READS IS OF BULK AT MOST 1048576: true; the input reads as it did. -/
def gateTracesUptoRow : OpenClaim := { program := "ytohhmdogfjmlcaagreat", sum := "ee5f95a3a0bda83e129b7b15152bf1681179bce973e52428922f0667c8ca7ff0", func := "tideway/tidewaylaw06.GateTraces", spec := "gateTraces", unfollowed := true, recurses := true, apart := false, narrowed := true }
def GateTracesUptoSaid : Prop := gateTracesUptoRow.holds Tryz.pinned (OpenSpec.upto gateTracesSpec)

/-- 'tidewaylaw06.GateReaches', WHERE WHAT IT READS IS OF BULK AT MOST 1048576: true; the input reads as it did. -/
def gateReachesUptoRow : OpenClaim := { program := "ytohhmdogfjmlcaagreat", sum := "ee5f95a3a0bda83e129b7b15152bf1681179bce973e52428922f0667c8ca7ff0", func := "tideway/tidewaylaw06.GateReaches", spec := "gateReaches", unfollowed := true, recurses := true, apart := false, narrowed := true }
def GateReachesUptoSaid : Prop := gateReachesUptoRow.holds Tryz.pinned (OpenSpec.upto gateReachesSpec)

/-- 'tidewaylaw06.GatePlays', WHERE WHAT IT READS IS OF BULK AT MOST 1048576: true; the input reads as it did. -/
def gatePlaysUptoRow : OpenClaim := { program := "ytohhmdogfjmlcaagreat", sum := "ee5f95a3a0bda83e129b7b15152bf1681179bce973e52428922f0667c8ca7ff0", func := "tideway/tidewaylaw06.GatePlays", spec := "gatePlays", unfollowed := true, recurses := true, apart := false, narrowed := true }
def GatePlaysUptoSaid : Prop := gatePlaysUptoRow.holds Tryz.pinned (OpenSpec.upto gatePlaysSpec)

/-- 'tidewaylaw06.GateFails', WHERE WHAT IT READS IS OF BULK AT MOST 1048576: true; the input reads as it did. -/
def gateFailsUptoRow : OpenClaim := { program := "ytohhmdogfjmlcaagreat", sum := "ee5f95a3a0bda83e129b7b15152bf1681179bce973e52428922f0667c8ca7ff0", func := "tideway/tidewaylaw06.GateFails", spec := "gateFails", unfollowed := true, recurses := true, apart := false, narrowed := true }
def GateFailsUptoSaid : Prop := gateFailsUptoRow.holds Tryz.pinned (OpenSpec.upto gateFailsSpec)

end Rows
end Go.Proofs.YtohhmdogfjmlcaaGreat
