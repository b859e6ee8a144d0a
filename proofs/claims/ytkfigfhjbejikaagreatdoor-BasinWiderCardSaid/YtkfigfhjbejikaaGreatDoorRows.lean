/-
  NARROWER THAN 'FOR EVERY INPUT', by the rows' own cells (each row's printed sentence says how): BasinUntil: laid · BasinMonotone: laid · BasinChecks: laid · BasinSteps: laid · BasinKeeps: laid · BasinRuns: laid · BasinPermits: laid · BasinEncloses: laid · BasinWider: laid · BasinHolds: laid · BasinTexts: laid · BasinReads: laid.
  DERIVED. THE GIVEN ROWS OF THIS SEAT. 12 by the template 'for every input the law returns true; each argument reads behind the call as it read before'; 0 by the template 'total and deterministic' (their statements: YtkfigfhjbejikaaGreatDoorTotals.lean).
  GIVEN WITH THE SEED: the statements are not yours to turn. If you find one false, say at which input.
  Laid BY PROGRAM, IN A SANDBOX (cutbox-rows.mjs): the forced cells as the released guide's own fill.sh prints them over the translation e5fc27fac37cc087… (all of the seat's roots in one cut). By AI agents, Wed Nov 11 2026. No macro, syntax, notation, axiom, sorry.
-/
import Derived.Test.YtkfigfhjbejikaaGreatDoorChecked
import GoSem.PinnedTables
import GoSem.Claim
import GoSem.ClaimJoined
import GoSem.ClaimMapViews
import Derived.JoinedTies
import Derived.KernelRfl
namespace Go.Proofs.YtkfigfhjbejikaaGreatDoor
/- THE CELL 'sum', in the pinned program and in every row, IS THE sha256 OF THE DUMP (.gsa) THAT YtkfigfhjbejikaaGreatDoorProg.lean LOADS. Nothing in Lean hashes anything: it is a label: what it is worth is what the hold of that sum in a sandbox is worth. -/
noncomputable def Tryz.pinned : Pinned := { name := "ytkfigfhjbejikaagreatdoor", sum := "e5fc27fac37cc087c26926d7eb82309495c568ea7881a359b696db0fa1684cad", checked := Tryz.checked }
namespace Rows
def none {H : Type} : Left H := { results := [], args := [] }

/- WHAT THE LISTED PACKAGE-LEVEL VARIABLES READ AS WHEN THE CALL BEGINS. Each datum BY PROGRAM (the guide's laid-datum.mjs) off the statement by which the dump's own 'gosem.cut.vars' lays the variable. In a bare row this is a premise. The card (YtkfigfhjbejikaaGreatDoorCards.lean) ties it to the program's text. -/
def laid_math_bits_deBruijn32tab {H : Type} : DataW H := .agg [.lit (.int .u8 0), .lit (.int .u8 1), .lit (.int .u8 28), .lit (.int .u8 2), .lit (.int .u8 29), .lit (.int .u8 14), .lit (.int .u8 24), .lit (.int .u8 3), .lit (.int .u8 30), .lit (.int .u8 22), .lit (.int .u8 20), .lit (.int .u8 15), .lit (.int .u8 25), .lit (.int .u8 17), .lit (.int .u8 4), .lit (.int .u8 8), .lit (.int .u8 31), .lit (.int .u8 27), .lit (.int .u8 13), .lit (.int .u8 23), .lit (.int .u8 21), .lit (.int .u8 19), .lit (.int .u8 16), .lit (.int .u8 7), .lit (.int .u8 26), .lit (.int .u8 12), .lit (.int .u8 18), .lit (.int .u8 6), .lit (.int .u8 11), .lit (.int .u8 5), .lit (.int .u8 10), .lit (.int .u8 9)]
def laid_math_bits_deBruijn64tab {H : Type} : DataW H := .agg [.lit (.int .u8 0), .lit (.int .u8 1), .lit (.int .u8 56), .lit (.int .u8 2), .lit (.int .u8 57), .lit (.int .u8 49), .lit (.int .u8 28), .lit (.int .u8 3), .lit (.int .u8 61), .lit (.int .u8 58), .lit (.int .u8 42), .lit (.int .u8 50), .lit (.int .u8 38), .lit (.int .u8 29), .lit (.int .u8 17), .lit (.int .u8 4), .lit (.int .u8 62), .lit (.int .u8 47), .lit (.int .u8 59), .lit (.int .u8 36), .lit (.int .u8 45), .lit (.int .u8 43), .lit (.int .u8 51), .lit (.int .u8 22), .lit (.int .u8 53), .lit (.int .u8 39), .lit (.int .u8 33), .lit (.int .u8 30), .lit (.int .u8 24), .lit (.int .u8 18), .lit (.int .u8 12), .lit (.int .u8 5), .lit (.int .u8 63), .lit (.int .u8 55), .lit (.int .u8 48), .lit (.int .u8 27), .lit (.int .u8 60), .lit (.int .u8 41), .lit (.int .u8 37), .lit (.int .u8 16), .lit (.int .u8 46), .lit (.int .u8 35), .lit (.int .u8 44), .lit (.int .u8 21), .lit (.int .u8 52), .lit (.int .u8 32), .lit (.int .u8 23), .lit (.int .u8 11), .lit (.int .u8 54), .lit (.int .u8 26), .lit (.int .u8 40), .lit (.int .u8 15), .lit (.int .u8 34), .lit (.int .u8 20), .lit (.int .u8 31), .lit (.int .u8 10), .lit (.int .u8 25), .lit (.int .u8 14), .lit (.int .u8 19), .lit (.int .u8 9), .lit (.int .u8 13), .lit (.int .u8 8), .lit (.int .u8 7), .lit (.int .u8 6)]
def laid_internal_strconv_uint64pow10 {H : Type} : DataW H := .agg [.lit (.int .u64 1), .lit (.int .u64 10), .lit (.int .u64 100), .lit (.int .u64 1000), .lit (.int .u64 10000), .lit (.int .u64 100000), .lit (.int .u64 1000000), .lit (.int .u64 10000000), .lit (.int .u64 100000000), .lit (.int .u64 1000000000), .lit (.int .u64 10000000000), .lit (.int .u64 100000000000), .lit (.int .u64 1000000000000), .lit (.int .u64 10000000000000), .lit (.int .u64 100000000000000), .lit (.int .u64 1000000000000000), .lit (.int .u64 10000000000000000), .lit (.int .u64 100000000000000000), .lit (.int .u64 1000000000000000000), .lit (.int .u64 10000000000000000000)]
def laid_tideway_basin_kinds {H : Type} : DataW H := .agg [.lit (.string [98, 97, 114, 114, 105, 101, 114]), .lit (.string [108, 101, 97, 107]), .lit (.string [111, 117, 116, 102, 97, 108, 108]), .lit (.string [112, 117, 109, 112]), .lit (.string [119, 101, 105, 114])]
def laid_unicode_utf8_acceptRanges {H : Type} : DataW H := .agg [.agg [.lit (.int .u8 128), .lit (.int .u8 191)], .agg [.lit (.int .u8 160), .lit (.int .u8 191)], .agg [.lit (.int .u8 128), .lit (.int .u8 159)], .agg [.lit (.int .u8 144), .lit (.int .u8 191)], .agg [.lit (.int .u8 128), .lit (.int .u8 143)], .agg [.lit (.int .u8 0), .lit (.int .u8 0)], .agg [.lit (.int .u8 0), .lit (.int .u8 0)], .agg [.lit (.int .u8 0), .lit (.int .u8 0)], .agg [.lit (.int .u8 0), .lit (.int .u8 0)], .agg [.lit (.int .u8 0), .lit (.int .u8 0)], .agg [.lit (.int .u8 0), .lit (.int .u8 0)], .agg [.lit (.int .u8 0), .lit (.int .u8 0)], .agg [.lit (.int .u8 0), .lit (.int .u8 0)], .agg [.lit (.int .u8 0), .lit (.int .u8 0)], .agg [.lit (.int .u8 0), .lit (.int .u8 0)], .agg [.lit (.int .u8 0), .lit (.int .u8 0)]]
def laid_strconv_ErrRange {H : Type} : DataW H := .iface "*errors.errorString" (.ptr (.agg [.lit (.string [118, 97, 108, 117, 101, 32, 111, 117, 116, 32, 111, 102, 32, 114, 97, 110, 103, 101])]))
def laid_strconv_ErrSyntax {H : Type} : DataW H := .iface "*errors.errorString" (.ptr (.agg [.lit (.string [105, 110, 118, 97, 108, 105, 100, 32, 115, 121, 110, 116, 97, 120])]))
/-- One of Go's own tables, pinned by name: the form's constant. -/
def laid_unicode_utf8_first : DataW Unit := Go.Pinned.utf8First

/-- 'tidewaylaw04.BasinUntil': WHATEVER THE INPUT: true; the input reads as it did. -/
def basinUntilSpec : ChangeSpec := { name := "basinUntil", fn := fun _ => fun
  | [d1, d2, d3] => { results := [.lit (.bool true)], args := [d1, d2, d3] }
  | _ => none }
def basinUntilRow : OpenClaim := { program := "ytkfigfhjbejikaagreatdoor", sum := "e5fc27fac37cc087c26926d7eb82309495c568ea7881a359b696db0fa1684cad", func := "tideway/tidewaylaw04.BasinUntil", spec := "basinUntil", inPlace := ["internal/abi.NoEscape", "internal/bytealg.MakeNoZero"], unfollowed := true, recurses := true, named := ["internal/strconv.uint64pow10", "math/bits.deBruijn32tab", "math/bits.deBruijn64tab"], apart := false, laid := [("math/bits.deBruijn32tab", laid_math_bits_deBruijn32tab), ("math/bits.deBruijn64tab", laid_math_bits_deBruijn64tab), ("internal/strconv.uint64pow10", laid_internal_strconv_uint64pow10)] }
def BasinUntilSaid : Prop := basinUntilRow.holds Tryz.pinned (OpenSpec.ofChange basinUntilSpec)

/-- ITS FALSE NEIGHBOUR: 'it returns false'. Refute it at one input. -/
def basinUntilWrong : ChangeSpec := { name := "basinUntil", fn := fun _ => fun
  | [d1, d2, d3] => { results := [.lit (.bool false)], args := [d1, d2, d3] }
  | _ => none }
def BasinUntilWrongFalsely : Prop := basinUntilRow.holds Tryz.pinned (OpenSpec.ofChange basinUntilWrong)

/-- 'tidewaylaw04.BasinMonotone': WHATEVER THE INPUT: true; the input reads as it did. -/
def basinMonotoneSpec : ChangeSpec := { name := "basinMonotone", fn := fun _ => fun
  | [d1, d2, d3] => { results := [.lit (.bool true)], args := [d1, d2, d3] }
  | _ => none }
def basinMonotoneRow : OpenClaim := { program := "ytkfigfhjbejikaagreatdoor", sum := "e5fc27fac37cc087c26926d7eb82309495c568ea7881a359b696db0fa1684cad", func := "tideway/tidewaylaw04.BasinMonotone", spec := "basinMonotone", inPlace := ["internal/abi.NoEscape", "internal/bytealg.MakeNoZero"], unfollowed := true, recurses := true, named := ["internal/strconv.uint64pow10", "math/bits.deBruijn32tab", "math/bits.deBruijn64tab"], apart := false, laid := [("math/bits.deBruijn32tab", laid_math_bits_deBruijn32tab), ("math/bits.deBruijn64tab", laid_math_bits_deBruijn64tab), ("internal/strconv.uint64pow10", laid_internal_strconv_uint64pow10)] }
def BasinMonotoneSaid : Prop := basinMonotoneRow.holds Tryz.pinned (OpenSpec.ofChange basinMonotoneSpec)

/-- ITS FALSE NEIGHBOUR: 'it returns false'. Refute it at one input. -/
def basinMonotoneWrong : ChangeSpec := { name := "basinMonotone", fn := fun _ => fun
  | [d1, d2, d3] => { results := [.lit (.bool false)], args := [d1, d2, d3] }
  | _ => none }
def BasinMonotoneWrongFalsely : Prop := basinMonotoneRow.holds Tryz.pinned (OpenSpec.ofChange basinMonotoneWrong)

/-- 'tidewaylaw04.BasinChecks': WHATEVER THE INPUT: true; the input reads as it did. -/
def basinChecksSpec : ChangeSpec := { name := "basinChecks", fn := fun _ => fun
  | [d1, d2] => { results := [.lit (.bool true)], args := [d1, d2] }
  | _ => none }
def basinChecksRow : OpenClaim := { program := "ytkfigfhjbejikaagreatdoor", sum := "e5fc27fac37cc087c26926d7eb82309495c568ea7881a359b696db0fa1684cad", func := "tideway/tidewaylaw04.BasinChecks", spec := "basinChecks", inPlace := ["internal/abi.NoEscape", "internal/bytealg.MakeNoZero"], unfollowed := true, recurses := true, named := ["internal/strconv.uint64pow10", "math/bits.deBruijn32tab", "math/bits.deBruijn64tab", "tideway/basin.kinds"], apart := false, laid := [("math/bits.deBruijn32tab", laid_math_bits_deBruijn32tab), ("math/bits.deBruijn64tab", laid_math_bits_deBruijn64tab), ("internal/strconv.uint64pow10", laid_internal_strconv_uint64pow10), ("tideway/basin.kinds", laid_tideway_basin_kinds)] }
def BasinChecksSaid : Prop := basinChecksRow.holds Tryz.pinned (OpenSpec.ofChange basinChecksSpec)

/-- ITS FALSE NEIGHBOUR: 'it returns false'. Refute it at one input. -/
def basinChecksWrong : ChangeSpec := { name := "basinChecks", fn := fun _ => fun
  | [d1, d2] => { results := [.lit (.bool false)], args := [d1, d2] }
  | _ => none }
def BasinChecksWrongFalsely : Prop := basinChecksRow.holds Tryz.pinned (OpenSpec.ofChange basinChecksWrong)

/-- 'tidewaylaw04.BasinSteps': WHATEVER THE INPUT: true; the input reads as it did. -/
def basinStepsSpec : ChangeSpec := { name := "basinSteps", fn := fun _ => fun
  | [d1, d2, d3] => { results := [.lit (.bool true)], args := [d1, d2, d3] }
  | _ => none }
def basinStepsRow : OpenClaim := { program := "ytkfigfhjbejikaagreatdoor", sum := "e5fc27fac37cc087c26926d7eb82309495c568ea7881a359b696db0fa1684cad", func := "tideway/tidewaylaw04.BasinSteps", spec := "basinSteps", inPlace := ["internal/abi.NoEscape", "internal/bytealg.MakeNoZero"], unfollowed := true, recurses := true, named := ["internal/strconv.uint64pow10", "math/bits.deBruijn32tab", "math/bits.deBruijn64tab"], apart := false, laid := [("math/bits.deBruijn32tab", laid_math_bits_deBruijn32tab), ("math/bits.deBruijn64tab", laid_math_bits_deBruijn64tab), ("internal/strconv.uint64pow10", laid_internal_strconv_uint64pow10)] }
def BasinStepsSaid : Prop := basinStepsRow.holds Tryz.pinned (OpenSpec.ofChange basinStepsSpec)

/-- ITS FALSE NEIGHBOUR: 'it returns false'. Refute it at one input. -/
def basinStepsWrong : ChangeSpec := { name := "basinSteps", fn := fun _ => fun
  | [d1, d2, d3] => { results := [.lit (.bool false)], args := [d1, d2, d3] }
  | _ => none }
def BasinStepsWrongFalsely : Prop := basinStepsRow.holds Tryz.pinned (OpenSpec.ofChange basinStepsWrong)

/-- 'tidewaylaw04.BasinKeeps': WHATEVER THE INPUT: true; the input reads as it did. -/
def basinKeepsSpec : ChangeSpec := { name := "basinKeeps", fn := fun _ => fun
  | [d1, d2, d3] => { results := [.lit (.bool true)], args := [d1, d2, d3] }
  | _ => none }
def basinKeepsRow : OpenClaim := { program := "ytkfigfhjbejikaagreatdoor", sum := "e5fc27fac37cc087c26926d7eb82309495c568ea7881a359b696db0fa1684cad", func := "tideway/tidewaylaw04.BasinKeeps", spec := "basinKeeps", inPlace := ["internal/abi.NoEscape", "internal/bytealg.MakeNoZero"], unfollowed := true, recurses := true, named := ["internal/strconv.uint64pow10", "math/bits.deBruijn32tab", "math/bits.deBruijn64tab"], apart := false, laid := [("math/bits.deBruijn32tab", laid_math_bits_deBruijn32tab), ("math/bits.deBruijn64tab", laid_math_bits_deBruijn64tab), ("internal/strconv.uint64pow10", laid_internal_strconv_uint64pow10)] }
def BasinKeepsSaid : Prop := basinKeepsRow.holds Tryz.pinned (OpenSpec.ofChange basinKeepsSpec)

/-- ITS FALSE NEIGHBOUR: 'it returns false'. Refute it at one input. -/
def basinKeepsWrong : ChangeSpec := { name := "basinKeeps", fn := fun _ => fun
  | [d1, d2, d3] => { results := [.lit (.bool false)], args := [d1, d2, d3] }
  | _ => none }
def BasinKeepsWrongFalsely : Prop := basinKeepsRow.holds Tryz.pinned (OpenSpec.ofChange basinKeepsWrong)

/-- 'tidewaylaw04.BasinRuns': WHATEVER THE INPUT: true; the input reads as it did. -/
def basinRunsSpec : ChangeSpec := { name := "basinRuns", fn := fun _ => fun
  | [d1, d2, d3] => { results := [.lit (.bool true)], args := [d1, d2, d3] }
  | _ => none }
def basinRunsRow : OpenClaim := { program := "ytkfigfhjbejikaagreatdoor", sum := "e5fc27fac37cc087c26926d7eb82309495c568ea7881a359b696db0fa1684cad", func := "tideway/tidewaylaw04.BasinRuns", spec := "basinRuns", inPlace := ["internal/abi.NoEscape", "internal/bytealg.MakeNoZero"], unfollowed := true, recurses := true, named := ["internal/strconv.uint64pow10", "math/bits.deBruijn32tab", "math/bits.deBruijn64tab"], apart := false, laid := [("math/bits.deBruijn32tab", laid_math_bits_deBruijn32tab), ("math/bits.deBruijn64tab", laid_math_bits_deBruijn64tab), ("internal/strconv.uint64pow10", laid_internal_strconv_uint64pow10)] }
def BasinRunsSaid : Prop := basinRunsRow.holds Tryz.pinned (OpenSpec.ofChange basinRunsSpec)

/-- ITS FALSE NEIGHBOUR: 'it returns false'. Refute it at one input. -/
def basinRunsWrong : ChangeSpec := { name := "basinRuns", fn := fun _ => fun
  | [d1, d2, d3] => { results := [.lit (.bool false)], args := [d1, d2, d3] }
  | _ => none }
def BasinRunsWrongFalsely : Prop := basinRunsRow.holds Tryz.pinned (OpenSpec.ofChange basinRunsWrong)

/-- 'tidewaylaw04.BasinPermits': WHATEVER THE INPUT: true; the input reads as it did. -/
def basinPermitsSpec : ChangeSpec := { name := "basinPermits", fn := fun _ => fun
  | [d1, d2, d3] => { results := [.lit (.bool true)], args := [d1, d2, d3] }
  | _ => none }
def basinPermitsRow : OpenClaim := { program := "ytkfigfhjbejikaagreatdoor", sum := "e5fc27fac37cc087c26926d7eb82309495c568ea7881a359b696db0fa1684cad", func := "tideway/tidewaylaw04.BasinPermits", spec := "basinPermits", inPlace := ["internal/abi.NoEscape", "internal/bytealg.MakeNoZero"], unfollowed := true, recurses := true, named := ["internal/strconv.uint64pow10", "math/bits.deBruijn32tab", "math/bits.deBruijn64tab"], apart := false, laid := [("math/bits.deBruijn32tab", laid_math_bits_deBruijn32tab), ("math/bits.deBruijn64tab", laid_math_bits_deBruijn64tab), ("internal/strconv.uint64pow10", laid_internal_strconv_uint64pow10)] }
def BasinPermitsSaid : Prop := basinPermitsRow.holds Tryz.pinned (OpenSpec.ofChange basinPermitsSpec)

/-- ITS FALSE NEIGHBOUR: 'it returns false'. Refute it at one input. -/
def basinPermitsWrong : ChangeSpec := { name := "basinPermits", fn := fun _ => fun
  | [d1, d2, d3] => { results := [.lit (.bool false)], args := [d1, d2, d3] }
  | _ => none }
def BasinPermitsWrongFalsely : Prop := basinPermitsRow.holds Tryz.pinned (OpenSpec.ofChange basinPermitsWrong)

/-- 'tidewaylaw04.BasinEncloses': WHATEVER THE INPUT: true; the input reads as it did. -/
def basinEnclosesSpec : ChangeSpec := { name := "basinEncloses", fn := fun _ => fun
  | [d1, d2, d3] => { results := [.lit (.bool true)], args := [d1, d2, d3] }
  | _ => none }
def basinEnclosesRow : OpenClaim := { program := "ytkfigfhjbejikaagreatdoor", sum := "e5fc27fac37cc087c26926d7eb82309495c568ea7881a359b696db0fa1684cad", func := "tideway/tidewaylaw04.BasinEncloses", spec := "basinEncloses", inPlace := ["internal/abi.NoEscape", "internal/bytealg.MakeNoZero"], unfollowed := true, recurses := true, named := ["internal/strconv.uint64pow10", "math/bits.deBruijn32tab", "math/bits.deBruijn64tab"], apart := false, laid := [("math/bits.deBruijn32tab", laid_math_bits_deBruijn32tab), ("math/bits.deBruijn64tab", laid_math_bits_deBruijn64tab), ("internal/strconv.uint64pow10", laid_internal_strconv_uint64pow10)] }
def BasinEnclosesSaid : Prop := basinEnclosesRow.holds Tryz.pinned (OpenSpec.ofChange basinEnclosesSpec)

/-- ITS FALSE NEIGHBOUR: 'it returns false'. Refute it at one input. -/
def basinEnclosesWrong : ChangeSpec := { name := "basinEncloses", fn := fun _ => fun
  | [d1, d2, d3] => { results := [.lit (.bool false)], args := [d1, d2, d3] }
  | _ => none }
def BasinEnclosesWrongFalsely : Prop := basinEnclosesRow.holds Tryz.pinned (OpenSpec.ofChange basinEnclosesWrong)

/-- 'tidewaylaw04.BasinWider': WHATEVER THE INPUT: true; the input reads as it did. -/
def basinWiderSpec : ChangeSpec := { name := "basinWider", fn := fun _ => fun
  | [d1, d2, d3] => { results := [.lit (.bool true)], args := [d1, d2, d3] }
  | _ => none }
def basinWiderRow : OpenClaim := { program := "ytkfigfhjbejikaagreatdoor", sum := "e5fc27fac37cc087c26926d7eb82309495c568ea7881a359b696db0fa1684cad", func := "tideway/tidewaylaw04.BasinWider", spec := "basinWider", inPlace := ["internal/abi.NoEscape", "internal/bytealg.MakeNoZero"], unfollowed := true, recurses := true, named := ["internal/strconv.uint64pow10", "math/bits.deBruijn32tab", "math/bits.deBruijn64tab"], apart := false, laid := [("math/bits.deBruijn32tab", laid_math_bits_deBruijn32tab), ("math/bits.deBruijn64tab", laid_math_bits_deBruijn64tab), ("internal/strconv.uint64pow10", laid_internal_strconv_uint64pow10)] }
def BasinWiderSaid : Prop := basinWiderRow.holds Tryz.pinned (OpenSpec.ofChange basinWiderSpec)

/-- ITS FALSE NEIGHBOUR: 'it returns false'. Refute it at one input. -/
def basinWiderWrong : ChangeSpec := { name := "basinWider", fn := fun _ => fun
  | [d1, d2, d3] => { results := [.lit (.bool false)], args := [d1, d2, d3] }
  | _ => none }
def BasinWiderWrongFalsely : Prop := basinWiderRow.holds Tryz.pinned (OpenSpec.ofChange basinWiderWrong)

/-- 'tidewaylaw04.BasinHolds': WHATEVER THE INPUT: true; the input reads as it did. -/
def basinHoldsSpec : ChangeSpec := { name := "basinHolds", fn := fun _ => fun
  | [d1, d2, d3] => { results := [.lit (.bool true)], args := [d1, d2, d3] }
  | _ => none }
def basinHoldsRow : OpenClaim := { program := "ytkfigfhjbejikaagreatdoor", sum := "e5fc27fac37cc087c26926d7eb82309495c568ea7881a359b696db0fa1684cad", func := "tideway/tidewaylaw04.BasinHolds", spec := "basinHolds", inPlace := ["internal/abi.NoEscape", "internal/bytealg.MakeNoZero"], unfollowed := true, recurses := true, named := ["internal/strconv.uint64pow10", "math/bits.deBruijn32tab", "math/bits.deBruijn64tab"], apart := false, laid := [("math/bits.deBruijn32tab", laid_math_bits_deBruijn32tab), ("math/bits.deBruijn64tab", laid_math_bits_deBruijn64tab), ("internal/strconv.uint64pow10", laid_internal_strconv_uint64pow10)] }
def BasinHoldsSaid : Prop := basinHoldsRow.holds Tryz.pinned (OpenSpec.ofChange basinHoldsSpec)

/-- ITS FALSE NEIGHBOUR: 'it returns false'. Refute it at one input. -/
def basinHoldsWrong : ChangeSpec := { name := "basinHolds", fn := fun _ => fun
  | [d1, d2, d3] => { results := [.lit (.bool false)], args := [d1, d2, d3] }
  | _ => none }
def BasinHoldsWrongFalsely : Prop := basinHoldsRow.holds Tryz.pinned (OpenSpec.ofChange basinHoldsWrong)

/-- 'tidewaylaw04.BasinTexts': WHATEVER THE INPUT: true; the input reads as it did. -/
def basinTextsSpec : ChangeSpec := { name := "basinTexts", fn := fun _ => fun
  | [d1, d2] => { results := [.lit (.bool true)], args := [d1, d2] }
  | _ => none }
def basinTextsRow : OpenClaim := { program := "ytkfigfhjbejikaagreatdoor", sum := "e5fc27fac37cc087c26926d7eb82309495c568ea7881a359b696db0fa1684cad", func := "tideway/tidewaylaw04.BasinTexts", spec := "basinTexts", inPlace := ["internal/abi.NoEscape", "internal/bytealg.MakeNoZero", "internal/bytealg.IndexByteString", "internal/bytealg.CountString", "internal/bytealg.IndexString"], unfollowed := true, recurses := true, named := ["internal/strconv.uint64pow10", "math/bits.deBruijn32tab", "math/bits.deBruijn64tab", "unicode/utf8.first", "unicode/utf8.acceptRanges", "internal/bytealg.MaxLen", "strconv.ErrSyntax", "strconv.ErrRange"], apart := false, laid := [("math/bits.deBruijn32tab", laid_math_bits_deBruijn32tab), ("math/bits.deBruijn64tab", laid_math_bits_deBruijn64tab), ("internal/strconv.uint64pow10", laid_internal_strconv_uint64pow10), ("unicode/utf8.acceptRanges", laid_unicode_utf8_acceptRanges), ("strconv.ErrRange", laid_strconv_ErrRange), ("strconv.ErrSyntax", laid_strconv_ErrSyntax), ("unicode/utf8.first", laid_unicode_utf8_first)] }
def BasinTextsSaid : Prop := basinTextsRow.holds Tryz.pinned (OpenSpec.ofChange basinTextsSpec)

/-- ITS FALSE NEIGHBOUR: 'it returns false'. Refute it at one input. -/
def basinTextsWrong : ChangeSpec := { name := "basinTexts", fn := fun _ => fun
  | [d1, d2] => { results := [.lit (.bool false)], args := [d1, d2] }
  | _ => none }
def BasinTextsWrongFalsely : Prop := basinTextsRow.holds Tryz.pinned (OpenSpec.ofChange basinTextsWrong)

/-- 'tidewaylaw04.BasinReads': WHATEVER THE INPUT: true; the input reads as it did. -/
def basinReadsSpec : ChangeSpec := { name := "basinReads", fn := fun _ => fun
  | [d1, d2, d3] => { results := [.lit (.bool true)], args := [d1, d2, d3] }
  | _ => none }
def basinReadsRow : OpenClaim := { program := "ytkfigfhjbejikaagreatdoor", sum := "e5fc27fac37cc087c26926d7eb82309495c568ea7881a359b696db0fa1684cad", func := "tideway/tidewaylaw04.BasinReads", spec := "basinReads", inPlace := ["internal/abi.NoEscape", "internal/bytealg.MakeNoZero", "internal/bytealg.IndexByteString", "internal/bytealg.CountString", "internal/bytealg.IndexString"], unfollowed := true, recurses := true, named := ["internal/strconv.uint64pow10", "math/bits.deBruijn32tab", "math/bits.deBruijn64tab", "unicode/utf8.first", "unicode/utf8.acceptRanges", "internal/bytealg.MaxLen", "strconv.ErrSyntax", "strconv.ErrRange"], apart := false, laid := [("math/bits.deBruijn32tab", laid_math_bits_deBruijn32tab), ("math/bits.deBruijn64tab", laid_math_bits_deBruijn64tab), ("internal/strconv.uint64pow10", laid_internal_strconv_uint64pow10), ("unicode/utf8.acceptRanges", laid_unicode_utf8_acceptRanges), ("strconv.ErrRange", laid_strconv_ErrRange), ("strconv.ErrSyntax", laid_strconv_ErrSyntax), ("unicode/utf8.first", laid_unicode_utf8_first)] }
def BasinReadsSaid : Prop := basinReadsRow.holds Tryz.pinned (OpenSpec.ofChange basinReadsSpec)

/-- ITS FALSE NEIGHBOUR: 'it returns false'. Refute it at one input. -/
def basinReadsWrong : ChangeSpec := { name := "basinReads", fn := fun _ => fun
  | [d1, d2, d3] => { results := [.lit (.bool false)], args := [d1, d2, d3] }
  | _ => none }
def BasinReadsWrongFalsely : Prop := basinReadsRow.holds Tryz.pinned (OpenSpec.ofChange basinReadsWrong)

/- THE SECOND FORM. 'bulk': how many values and letters a reading holds, each counted each time it is reached (what is shared counts as often as it is met; a slice's spare places count too). A statement '..UptoSaid' is the law's where the arguments, and the package variables that the reading takes, are together of bulk at most 1048576: NARROWER than '..Said'. Prove '..Said' where nothing that the law and all that it calls make is longer than what came in: it says more and counts as full. Else prove '..UptoSaid'. A law counts once. -/
mutual
def uptoBulk {H : Type} : DataW H → Nat
  | .lit (.string bytes) => bytes.length + 1
  | .lit _ => 1
  | .nil => 1
  | .ptr d => uptoBulk d + 1
  | .slice elems spare => uptoBulkAll elems + uptoBulkAll spare + 1
  | .agg parts => uptoBulkAll parts + 1
  | .iface _ d => uptoBulk d + 1
  | .map entries => uptoBulkEntries entries + 1
  | .held _ => 1
def uptoBulkAll {H : Type} : List (DataW H) → Nat
  | [] => 0
  | d :: r => uptoBulk d + uptoBulkAll r
def uptoBulkEntries {H : Type} : List (Lit × DataW H) → Nat
  | [] => 0
  | x :: r => uptoBulkEntry x + uptoBulkEntries r
def uptoBulkEntry {H : Type} : Lit × DataW H → Nat
  | (.string bytes, d) => bytes.length + uptoBulk d + 1
  | (_, d) => uptoBulk d + 1
 end
def uptoSmall : (H : Type) → List (DataW H) → Bool := fun _ ds => decide (uptoBulkAll ds ≤ 1048576)
def OpenSpec.upto (s : _root_.Go.ChangeSpec) : _root_.Go.OpenSpec := { _root_.Go.OpenSpec.ofChange s with cond := some uptoSmall }

/-- 'tidewaylaw04.BasinUntil', WHERE WHAT IT READS IS OF BULK AT MOST 1048576: true; the input reads as it did. -/
def basinUntilUptoRow : OpenClaim := { program := "ytkfigfhjbejikaagreatdoor", sum := "e5fc27fac37cc087c26926d7eb82309495c568ea7881a359b696db0fa1684cad", func := "tideway/tidewaylaw04.BasinUntil", spec := "basinUntil", inPlace := ["internal/abi.NoEscape", "internal/bytealg.MakeNoZero"], unfollowed := true, recurses := true, named := ["internal/strconv.uint64pow10", "math/bits.deBruijn32tab", "math/bits.deBruijn64tab"], apart := false, laid := [("math/bits.deBruijn32tab", laid_math_bits_deBruijn32tab), ("math/bits.deBruijn64tab", laid_math_bits_deBruijn64tab), ("internal/strconv.uint64pow10", laid_internal_strconv_uint64pow10)], narrowed := true }
def BasinUntilUptoSaid : Prop := basinUntilUptoRow.holds Tryz.pinned (OpenSpec.upto basinUntilSpec)

/-- 'tidewaylaw04.BasinMonotone', WHERE WHAT IT READS IS OF BULK AT MOST 1048576: true; the input reads as it did. -/
def basinMonotoneUptoRow : OpenClaim := { program := "ytkfigfhjbejikaagreatdoor", sum := "e5fc27fac37cc087c26926d7eb82309495c568ea7881a359b696db0fa1684cad", func := "tideway/tidewaylaw04.BasinMonotone", spec := "basinMonotone", inPlace := ["internal/abi.NoEscape", "internal/bytealg.MakeNoZero"], unfollowed := true, recurses := true, named := ["internal/strconv.uint64pow10", "math/bits.deBruijn32tab", "math/bits.deBruijn64tab"], apart := false, laid := [("math/bits.deBruijn32tab", laid_math_bits_deBruijn32tab), ("math/bits.deBruijn64tab", laid_math_bits_deBruijn64tab), ("internal/strconv.uint64pow10", laid_internal_strconv_uint64pow10)], narrowed := true }
def BasinMonotoneUptoSaid : Prop := basinMonotoneUptoRow.holds Tryz.pinned (OpenSpec.upto basinMonotoneSpec)

/-- 'tidewaylaw04.BasinChecks', WHERE WHAT IT READS IS OF BULK AT MOST 1048576: true; the input reads as it did. -/
def basinChecksUptoRow : OpenClaim := { program := "ytkfigfhjbejikaagreatdoor", sum := "e5fc27fac37cc087c26926d7eb82309495c568ea7881a359b696db0fa1684cad", func := "tideway/tidewaylaw04.BasinChecks", spec := "basinChecks", inPlace := ["internal/abi.NoEscape", "internal/bytealg.MakeNoZero"], unfollowed := true, recurses := true, named := ["internal/strconv.uint64pow10", "math/bits.deBruijn32tab", "math/bits.deBruijn64tab", "tideway/basin.kinds"], apart := false, laid := [("math/bits.deBruijn32tab", laid_math_bits_deBruijn32tab), ("math/bits.deBruijn64tab", laid_math_bits_deBruijn64tab), ("internal/strconv.uint64pow10", laid_internal_strconv_uint64pow10), ("tideway/basin.kinds", laid_tideway_basin_kinds)], narrowed := true }
def BasinChecksUptoSaid : Prop := basinChecksUptoRow.holds Tryz.pinned (OpenSpec.upto basinChecksSpec)

/-- 'tidewaylaw04.BasinSteps', WHERE WHAT IT READS IS OF BULK AT MOST 1048576: true; the input reads as it did. -/
def basinStepsUptoRow : OpenClaim := { program := "ytkfigfhjbejikaagreatdoor", sum := "e5fc27fac37cc087c26926d7eb82309495c568ea7881a359b696db0fa1684cad", func := "tideway/tidewaylaw04.BasinSteps", spec := "basinSteps", inPlace := ["internal/abi.NoEscape", "internal/bytealg.MakeNoZero"], unfollowed := true, recurses := true, named := ["internal/strconv.uint64pow10", "math/bits.deBruijn32tab", "math/bits.deBruijn64tab"], apart := false, laid := [("math/bits.deBruijn32tab", laid_math_bits_deBruijn32tab), ("math/bits.deBruijn64tab", laid_math_bits_deBruijn64tab), ("internal/strconv.uint64pow10", laid_internal_strconv_uint64pow10)], narrowed := true }
def BasinStepsUptoSaid : Prop := basinStepsUptoRow.holds Tryz.pinned (OpenSpec.upto basinStepsSpec)

/-- 'tidewaylaw04.BasinKeeps', WHERE WHAT IT READS IS OF BULK AT MOST 1048576: true; the input reads as it did. -/
def basinKeepsUptoRow : OpenClaim := { program := "ytkfigfhjbejikaagreatdoor", sum := "e5fc27fac37cc087c26926d7eb82309495c568ea7881a359b696db0fa1684cad", func := "tideway/tidewaylaw04.BasinKeeps", spec := "basinKeeps", inPlace := ["internal/abi.NoEscape", "internal/bytealg.MakeNoZero"], unfollowed := true, recurses := true, named := ["internal/strconv.uint64pow10", "math/bits.deBruijn32tab", "math/bits.deBruijn64tab"], apart := false, laid := [("math/bits.deBruijn32tab", laid_math_bits_deBruijn32tab), ("math/bits.deBruijn64tab", laid_math_bits_deBruijn64tab), ("internal/strconv.uint64pow10", laid_internal_strconv_uint64pow10)], narrowed := true }
def BasinKeepsUptoSaid : Prop := basinKeepsUptoRow.holds Tryz.pinned (OpenSpec.upto basinKeepsSpec)

/-- 'tidewaylaw04.BasinRuns', WHERE WHAT IT READS IS OF BULK AT MOST 1048576: true; the input reads as it did. -/
def basinRunsUptoRow : OpenClaim := { program := "ytkfigfhjbejikaagreatdoor", sum := "e5fc27fac37cc087c26926d7eb82309495c568ea7881a359b696db0fa1684cad", func := "tideway/tidewaylaw04.BasinRuns", spec := "basinRuns", inPlace := ["internal/abi.NoEscape", "internal/bytealg.MakeNoZero"], unfollowed := true, recurses := true, named := ["internal/strconv.uint64pow10", "math/bits.deBruijn32tab", "math/bits.deBruijn64tab"], apart := false, laid := [("math/bits.deBruijn32tab", laid_math_bits_deBruijn32tab), ("math/bits.deBruijn64tab", laid_math_bits_deBruijn64tab), ("internal/strconv.uint64pow10", laid_internal_strconv_uint64pow10)], narrowed := true }
def BasinRunsUptoSaid : Prop := basinRunsUptoRow.holds Tryz.pinned (OpenSpec.upto basinRunsSpec)

/-- 'tidewaylaw04.BasinPermits', WHERE WHAT IT READS IS OF BULK AT MOST 1048576: true; the input reads as it did. -/
def basinPermitsUptoRow : OpenClaim := { program := "ytkfigfhjbejikaagreatdoor", sum := "e5fc27fac37cc087c26926d7eb82309495c568ea7881a359b696db0fa1684cad", func := "tideway/tidewaylaw04.BasinPermits", spec := "basinPermits", inPlace := ["internal/abi.NoEscape", "internal/bytealg.MakeNoZero"], unfollowed := true, recurses := true, named := ["internal/strconv.uint64pow10", "math/bits.deBruijn32tab", "math/bits.deBruijn64tab"], apart := false, laid := [("math/bits.deBruijn32tab", laid_math_bits_deBruijn32tab), ("math/bits.deBruijn64tab", laid_math_bits_deBruijn64tab), ("internal/strconv.uint64pow10", laid_internal_strconv_uint64pow10)], narrowed := true }
def BasinPermitsUptoSaid : Prop := basinPermitsUptoRow.holds Tryz.pinned (OpenSpec.upto basinPermitsSpec)

/-- 'tidewaylaw04.BasinEncloses', WHERE WHAT IT READS IS OF BULK AT MOST 1048576: true; the input reads as it did. -/
def basinEnclosesUptoRow : OpenClaim := { program := "ytkfigfhjbejikaagreatdoor", sum := "e5fc27fac37cc087c26926d7eb82309495c568ea7881a359b696db0fa1684cad", func := "tideway/tidewaylaw04.BasinEncloses", spec := "basinEncloses", inPlace := ["internal/abi.NoEscape", "internal/bytealg.MakeNoZero"], unfollowed := true, recurses := true, named := ["internal/strconv.uint64pow10", "math/bits.deBruijn32tab", "math/bits.deBruijn64tab"], apart := false, laid := [("math/bits.deBruijn32tab", laid_math_bits_deBruijn32tab), ("math/bits.deBruijn64tab", laid_math_bits_deBruijn64tab), ("internal/strconv.uint64pow10", laid_internal_strconv_uint64pow10)], narrowed := true }
def BasinEnclosesUptoSaid : Prop := basinEnclosesUptoRow.holds Tryz.pinned (OpenSpec.upto basinEnclosesSpec)

/-- 'tidewaylaw04.BasinWider', WHERE WHAT IT READS IS OF BULK AT MOST 1048576: true; the input reads as it did. -/
def basinWiderUptoRow : OpenClaim := { program := "ytkfigfhjbejikaagreatdoor", sum := "e5fc27fac37cc087c26926d7eb82309495c568ea7881a359b696db0fa1684cad", func := "tideway/tidewaylaw04.BasinWider", spec := "basinWider", inPlace := ["internal/abi.NoEscape", "internal/bytealg.MakeNoZero"], unfollowed := true, recurses := true, named := ["internal/strconv.uint64pow10", "math/bits.deBruijn32tab", "math/bits.deBruijn64tab"], apart := false, laid := [("math/bits.deBruijn32tab", laid_math_bits_deBruijn32tab), ("math/bits.deBruijn64tab", laid_math_bits_deBruijn64tab), ("internal/strconv.uint64pow10", laid_internal_strconv_uint64pow10)], narrowed := true }
def BasinWiderUptoSaid : Prop := basinWiderUptoRow.holds Tryz.pinned (OpenSpec.upto basinWiderSpec)

/-- 'tidewaylaw04.BasinHolds', WHERE WHAT IT READS IS OF BULK AT MOST 1048576: true; the input reads as it did. -/
def basinHoldsUptoRow : OpenClaim := { program := "ytkfigfhjbejikaagreatdoor", sum := "e5fc27fac37cc087c26926d7eb82309495c568ea7881a359b696db0fa1684cad", func := "tideway/tidewaylaw04.BasinHolds", spec := "basinHolds", inPlace := ["internal/abi.NoEscape", "internal/bytealg.MakeNoZero"], unfollowed := true, recurses := true, named := ["internal/strconv.uint64pow10", "math/bits.deBruijn32tab", "math/bits.deBruijn64tab"], apart := false, laid := [("math/bits.deBruijn32tab", laid_math_bits_deBruijn32tab), ("math/bits.deBruijn64tab", laid_math_bits_deBruijn64tab), ("internal/strconv.uint64pow10", laid_internal_strconv_uint64pow10)], narrowed := true }
def BasinHoldsUptoSaid : Prop := basinHoldsUptoRow.holds Tryz.pinned (OpenSpec.upto basinHoldsSpec)

/-- 'tidewaylaw04.BasinTexts', WHERE WHAT IT READS IS OF BULK AT MOST 1048576: true; the input reads as it did. -/
def basinTextsUptoRow : OpenClaim := { program := "ytkfigfhjbejikaagreatdoor", sum := "e5fc27fac37cc087c26926d7eb82309495c568ea7881a359b696db0fa1684cad", func := "tideway/tidewaylaw04.BasinTexts", spec := "basinTexts", inPlace := ["internal/abi.NoEscape", "internal/bytealg.MakeNoZero", "internal/bytealg.IndexByteString", "internal/bytealg.CountString", "internal/bytealg.IndexString"], unfollowed := true, recurses := true, named := ["internal/strconv.uint64pow10", "math/bits.deBruijn32tab", "math/bits.deBruijn64tab", "unicode/utf8.first", "unicode/utf8.acceptRanges", "internal/bytealg.MaxLen", "strconv.ErrSyntax", "strconv.ErrRange"], apart := false, laid := [("math/bits.deBruijn32tab", laid_math_bits_deBruijn32tab), ("math/bits.deBruijn64tab", laid_math_bits_deBruijn64tab), ("internal/strconv.uint64pow10", laid_internal_strconv_uint64pow10), ("unicode/utf8.acceptRanges", laid_unicode_utf8_acceptRanges), ("strconv.ErrRange", laid_strconv_ErrRange), ("strconv.ErrSyntax", laid_strconv_ErrSyntax), ("unicode/utf8.first", laid_unicode_utf8_first)], narrowed := true }
def BasinTextsUptoSaid : Prop := basinTextsUptoRow.holds Tryz.pinned (OpenSpec.upto basinTextsSpec)

/-- 'tidewaylaw04.BasinReads', WHERE WHAT IT READS IS OF BULK AT MOST 1048576: true; the input reads as it did. -/
def basinReadsUptoRow : OpenClaim := { program := "ytkfigfhjbejikaagreatdoor", sum := "e5fc27fac37cc087c26926d7eb82309495c568ea7881a359b696db0fa1684cad", func := "tideway/tidewaylaw04.BasinReads", spec := "basinReads", inPlace := ["internal/abi.NoEscape", "internal/bytealg.MakeNoZero", "internal/bytealg.IndexByteString", "internal/bytealg.CountString", "internal/bytealg.IndexString"], unfollowed := true, recurses := true, named := ["internal/strconv.uint64pow10", "math/bits.deBruijn32tab", "math/bits.deBruijn64tab", "unicode/utf8.first", "unicode/utf8.acceptRanges", "internal/bytealg.MaxLen", "strconv.ErrSyntax", "strconv.ErrRange"], apart := false, laid := [("math/bits.deBruijn32tab", laid_math_bits_deBruijn32tab), ("math/bits.deBruijn64tab", laid_math_bits_deBruijn64tab), ("internal/strconv.uint64pow10", laid_internal_strconv_uint64pow10), ("unicode/utf8.acceptRanges", laid_unicode_utf8_acceptRanges), ("strconv.ErrRange", laid_strconv_ErrRange), ("strconv.ErrSyntax", laid_strconv_ErrSyntax), ("unicode/utf8.first", laid_unicode_utf8_first)], narrowed := true }
def BasinReadsUptoSaid : Prop := basinReadsUptoRow.holds Tryz.pinned (OpenSpec.upto basinReadsSpec)

end Rows
end Go.Proofs.YtkfigfhjbejikaaGreatDoor
