/-
  NARROWER THAN 'FOR EVERY INPUT', by the rows' own cells (each row's printed sentence says how): TidePredictions: laid · TideFound: laid · TideSums: laid · TideMatrices: laid · TideAnalyses: laid · TideResiduals: laid · TideWaters: laid · TideLeast: laid · TideTurns: laid · TideCharacters: laid · TideKernels: laid · TideEither: laid · TideAdds: laid · TideTexts: laid · TideBack: laid.
  DERIVED. THE GIVEN ROWS OF THIS SEAT. 15 by the template 'for every input the law returns true; each argument reads behind the call as it read before'; 0 by the template 'total and deterministic' (their statements: YtpcnkpbpcebokaaGreatDoorTotals.lean).
  GIVEN WITH THE SEED: the statements are not yours to turn. If you find one false, say at which input.
  Laid BY PROGRAM, IN A SANDBOX (cutbox-rows.mjs): the forced cells as the released guide's own fill.sh prints them over the translation a8c9362602a20a15… (all of the seat's roots in one cut). By AI agents, Wed Nov 11 2026. No macro, syntax, notation, axiom, sorry.
-/
import Derived.Test.YtpcnkpbpcebokaaGreatDoorChecked
import GoSem.PinnedTables
import GoSem.Claim
import GoSem.ClaimJoined
import GoSem.ClaimMapViews
import Derived.JoinedTies
import Derived.KernelRfl
namespace Go.Proofs.YtpcnkpbpcebokaaGreatDoor
/- THE CELL 'sum', in the pinned program and in every row, IS THE sha256 OF THE DUMP (.gsa) THAT YtpcnkpbpcebokaaGreatDoorProg.lean LOADS. Nothing in Lean hashes anything: it is a label: what it is worth is what the hold of that sum in a sandbox is worth. -/
noncomputable def Tryz.pinned : Pinned := { name := "ytpcnkpbpcebokaagreatdoor", sum := "a8c9362602a20a1556e9237d4a7fb0e8bcc191bc5c1b0e55f43929ef2d43de64", checked := Tryz.checked }
namespace Rows
def none {H : Type} : Left H := { results := [], args := [] }

/- WHAT THE LISTED PACKAGE-LEVEL VARIABLES READ AS WHEN THE CALL BEGINS. Each datum BY PROGRAM (the guide's laid-datum.mjs) off the statement by which the dump's own 'gosem.cut.vars' lays the variable. In a bare row this is a premise. The card (YtpcnkpbpcebokaaGreatDoorCards.lean) ties it to the program's text. -/
def laid_math_bits_deBruijn32tab {H : Type} : DataW H := .agg [.lit (.int .u8 0), .lit (.int .u8 1), .lit (.int .u8 28), .lit (.int .u8 2), .lit (.int .u8 29), .lit (.int .u8 14), .lit (.int .u8 24), .lit (.int .u8 3), .lit (.int .u8 30), .lit (.int .u8 22), .lit (.int .u8 20), .lit (.int .u8 15), .lit (.int .u8 25), .lit (.int .u8 17), .lit (.int .u8 4), .lit (.int .u8 8), .lit (.int .u8 31), .lit (.int .u8 27), .lit (.int .u8 13), .lit (.int .u8 23), .lit (.int .u8 21), .lit (.int .u8 19), .lit (.int .u8 16), .lit (.int .u8 7), .lit (.int .u8 26), .lit (.int .u8 12), .lit (.int .u8 18), .lit (.int .u8 6), .lit (.int .u8 11), .lit (.int .u8 5), .lit (.int .u8 10), .lit (.int .u8 9)]
def laid_math_bits_deBruijn64tab {H : Type} : DataW H := .agg [.lit (.int .u8 0), .lit (.int .u8 1), .lit (.int .u8 56), .lit (.int .u8 2), .lit (.int .u8 57), .lit (.int .u8 49), .lit (.int .u8 28), .lit (.int .u8 3), .lit (.int .u8 61), .lit (.int .u8 58), .lit (.int .u8 42), .lit (.int .u8 50), .lit (.int .u8 38), .lit (.int .u8 29), .lit (.int .u8 17), .lit (.int .u8 4), .lit (.int .u8 62), .lit (.int .u8 47), .lit (.int .u8 59), .lit (.int .u8 36), .lit (.int .u8 45), .lit (.int .u8 43), .lit (.int .u8 51), .lit (.int .u8 22), .lit (.int .u8 53), .lit (.int .u8 39), .lit (.int .u8 33), .lit (.int .u8 30), .lit (.int .u8 24), .lit (.int .u8 18), .lit (.int .u8 12), .lit (.int .u8 5), .lit (.int .u8 63), .lit (.int .u8 55), .lit (.int .u8 48), .lit (.int .u8 27), .lit (.int .u8 60), .lit (.int .u8 41), .lit (.int .u8 37), .lit (.int .u8 16), .lit (.int .u8 46), .lit (.int .u8 35), .lit (.int .u8 44), .lit (.int .u8 21), .lit (.int .u8 52), .lit (.int .u8 32), .lit (.int .u8 23), .lit (.int .u8 11), .lit (.int .u8 54), .lit (.int .u8 26), .lit (.int .u8 40), .lit (.int .u8 15), .lit (.int .u8 34), .lit (.int .u8 20), .lit (.int .u8 31), .lit (.int .u8 10), .lit (.int .u8 25), .lit (.int .u8 14), .lit (.int .u8 19), .lit (.int .u8 9), .lit (.int .u8 13), .lit (.int .u8 8), .lit (.int .u8 7), .lit (.int .u8 6)]
def laid_internal_strconv_uint64pow10 {H : Type} : DataW H := .agg [.lit (.int .u64 1), .lit (.int .u64 10), .lit (.int .u64 100), .lit (.int .u64 1000), .lit (.int .u64 10000), .lit (.int .u64 100000), .lit (.int .u64 1000000), .lit (.int .u64 10000000), .lit (.int .u64 100000000), .lit (.int .u64 1000000000), .lit (.int .u64 10000000000), .lit (.int .u64 100000000000), .lit (.int .u64 1000000000000), .lit (.int .u64 10000000000000), .lit (.int .u64 100000000000000), .lit (.int .u64 1000000000000000), .lit (.int .u64 10000000000000000), .lit (.int .u64 100000000000000000), .lit (.int .u64 1000000000000000000), .lit (.int .u64 10000000000000000000)]
def laid_tideway_tide_none {H : Type} : DataW H := .agg [.lit (.int .i64 0), .lit (.int .i64 0)]
def laid_tideway_tide_turns {H : Type} : DataW H := .agg [.agg [.lit (.int .i64 1), .lit (.int .i64 0)], .agg [.lit (.int .i64 0), .lit (.int .i64 1)], .agg [.lit (.int .i64 (-1)), .lit (.int .i64 0)], .agg [.lit (.int .i64 0), .lit (.int .i64 (-1))]]
def laid_unicode_utf8_acceptRanges {H : Type} : DataW H := .agg [.agg [.lit (.int .u8 128), .lit (.int .u8 191)], .agg [.lit (.int .u8 160), .lit (.int .u8 191)], .agg [.lit (.int .u8 128), .lit (.int .u8 159)], .agg [.lit (.int .u8 144), .lit (.int .u8 191)], .agg [.lit (.int .u8 128), .lit (.int .u8 143)], .agg [.lit (.int .u8 0), .lit (.int .u8 0)], .agg [.lit (.int .u8 0), .lit (.int .u8 0)], .agg [.lit (.int .u8 0), .lit (.int .u8 0)], .agg [.lit (.int .u8 0), .lit (.int .u8 0)], .agg [.lit (.int .u8 0), .lit (.int .u8 0)], .agg [.lit (.int .u8 0), .lit (.int .u8 0)], .agg [.lit (.int .u8 0), .lit (.int .u8 0)], .agg [.lit (.int .u8 0), .lit (.int .u8 0)], .agg [.lit (.int .u8 0), .lit (.int .u8 0)], .agg [.lit (.int .u8 0), .lit (.int .u8 0)], .agg [.lit (.int .u8 0), .lit (.int .u8 0)]]
def laid_strconv_ErrRange {H : Type} : DataW H := .iface "*errors.errorString" (.ptr (.agg [.lit (.string [118, 97, 108, 117, 101, 32, 111, 117, 116, 32, 111, 102, 32, 114, 97, 110, 103, 101])]))
def laid_strconv_ErrSyntax {H : Type} : DataW H := .iface "*errors.errorString" (.ptr (.agg [.lit (.string [105, 110, 118, 97, 108, 105, 100, 32, 115, 121, 110, 116, 97, 120])]))
/-- One of Go's own tables, pinned by name: the form's constant. -/
def laid_unicode_utf8_first : DataW Unit := Go.Pinned.utf8First

/-- 'tidewaylaw02.TidePredictions': WHATEVER THE INPUT: true; the input reads as it did. -/
def tidePredictionsSpec : ChangeSpec := { name := "tidePredictions", fn := fun _ => fun
  | [d1, d2, d3] => { results := [.lit (.bool true)], args := [d1, d2, d3] }
  | _ => none }
def tidePredictionsRow : OpenClaim := { program := "ytpcnkpbpcebokaagreatdoor", sum := "a8c9362602a20a1556e9237d4a7fb0e8bcc191bc5c1b0e55f43929ef2d43de64", func := "tideway/tidewaylaw02.TidePredictions", spec := "tidePredictions", inPlace := ["internal/abi.NoEscape", "internal/bytealg.MakeNoZero"], unfollowed := true, recurses := true, named := ["tideway/tide.none", "tideway/tide.turns", "internal/strconv.uint64pow10", "math/bits.deBruijn32tab", "math/bits.deBruijn64tab"], apart := false, laid := [("math/bits.deBruijn32tab", laid_math_bits_deBruijn32tab), ("math/bits.deBruijn64tab", laid_math_bits_deBruijn64tab), ("internal/strconv.uint64pow10", laid_internal_strconv_uint64pow10), ("tideway/tide.none", laid_tideway_tide_none), ("tideway/tide.turns", laid_tideway_tide_turns)] }
def TidePredictionsSaid : Prop := tidePredictionsRow.holds Tryz.pinned (OpenSpec.ofChange tidePredictionsSpec)

/-- ITS FALSE NEIGHBOUR: 'it returns false'. Refute it at one input. -/
def tidePredictionsWrong : ChangeSpec := { name := "tidePredictions", fn := fun _ => fun
  | [d1, d2, d3] => { results := [.lit (.bool false)], args := [d1, d2, d3] }
  | _ => none }
def TidePredictionsWrongFalsely : Prop := tidePredictionsRow.holds Tryz.pinned (OpenSpec.ofChange tidePredictionsWrong)

/-- 'tidewaylaw02.TideFound': WHATEVER THE INPUT: true; the input reads as it did. -/
def tideFoundSpec : ChangeSpec := { name := "tideFound", fn := fun _ => fun
  | [d1, d2, d3] => { results := [.lit (.bool true)], args := [d1, d2, d3] }
  | _ => none }
def tideFoundRow : OpenClaim := { program := "ytpcnkpbpcebokaagreatdoor", sum := "a8c9362602a20a1556e9237d4a7fb0e8bcc191bc5c1b0e55f43929ef2d43de64", func := "tideway/tidewaylaw02.TideFound", spec := "tideFound", inPlace := ["internal/abi.NoEscape", "internal/bytealg.MakeNoZero"], unfollowed := true, recurses := true, named := ["tideway/tide.none", "tideway/tide.turns", "internal/strconv.uint64pow10", "math/bits.deBruijn32tab", "math/bits.deBruijn64tab"], apart := false, laid := [("math/bits.deBruijn32tab", laid_math_bits_deBruijn32tab), ("math/bits.deBruijn64tab", laid_math_bits_deBruijn64tab), ("internal/strconv.uint64pow10", laid_internal_strconv_uint64pow10), ("tideway/tide.none", laid_tideway_tide_none), ("tideway/tide.turns", laid_tideway_tide_turns)] }
def TideFoundSaid : Prop := tideFoundRow.holds Tryz.pinned (OpenSpec.ofChange tideFoundSpec)

/-- ITS FALSE NEIGHBOUR: 'it returns false'. Refute it at one input. -/
def tideFoundWrong : ChangeSpec := { name := "tideFound", fn := fun _ => fun
  | [d1, d2, d3] => { results := [.lit (.bool false)], args := [d1, d2, d3] }
  | _ => none }
def TideFoundWrongFalsely : Prop := tideFoundRow.holds Tryz.pinned (OpenSpec.ofChange tideFoundWrong)

/-- 'tidewaylaw02.TideSums': WHATEVER THE INPUT: true; the input reads as it did. -/
def tideSumsSpec : ChangeSpec := { name := "tideSums", fn := fun _ => fun
  | [d1, d2, d3] => { results := [.lit (.bool true)], args := [d1, d2, d3] }
  | _ => none }
def tideSumsRow : OpenClaim := { program := "ytpcnkpbpcebokaagreatdoor", sum := "a8c9362602a20a1556e9237d4a7fb0e8bcc191bc5c1b0e55f43929ef2d43de64", func := "tideway/tidewaylaw02.TideSums", spec := "tideSums", inPlace := ["internal/abi.NoEscape", "internal/bytealg.MakeNoZero"], unfollowed := true, recurses := true, named := ["tideway/tide.none", "tideway/tide.turns", "internal/strconv.uint64pow10", "math/bits.deBruijn32tab", "math/bits.deBruijn64tab"], apart := false, laid := [("math/bits.deBruijn32tab", laid_math_bits_deBruijn32tab), ("math/bits.deBruijn64tab", laid_math_bits_deBruijn64tab), ("internal/strconv.uint64pow10", laid_internal_strconv_uint64pow10), ("tideway/tide.none", laid_tideway_tide_none), ("tideway/tide.turns", laid_tideway_tide_turns)] }
def TideSumsSaid : Prop := tideSumsRow.holds Tryz.pinned (OpenSpec.ofChange tideSumsSpec)

/-- ITS FALSE NEIGHBOUR: 'it returns false'. Refute it at one input. -/
def tideSumsWrong : ChangeSpec := { name := "tideSums", fn := fun _ => fun
  | [d1, d2, d3] => { results := [.lit (.bool false)], args := [d1, d2, d3] }
  | _ => none }
def TideSumsWrongFalsely : Prop := tideSumsRow.holds Tryz.pinned (OpenSpec.ofChange tideSumsWrong)

/-- 'tidewaylaw02.TideMatrices': WHATEVER THE INPUT: true; the input reads as it did. -/
def tideMatricesSpec : ChangeSpec := { name := "tideMatrices", fn := fun _ => fun
  | [d1, d2] => { results := [.lit (.bool true)], args := [d1, d2] }
  | _ => none }
def tideMatricesRow : OpenClaim := { program := "ytpcnkpbpcebokaagreatdoor", sum := "a8c9362602a20a1556e9237d4a7fb0e8bcc191bc5c1b0e55f43929ef2d43de64", func := "tideway/tidewaylaw02.TideMatrices", spec := "tideMatrices", inPlace := ["internal/abi.NoEscape", "internal/bytealg.MakeNoZero", "math.Float64bits", "math.Float64frombits", "math.archFloor", "math.archTrunc"], unfollowed := true, recurses := true, named := ["tideway/tide.none", "tideway/tide.turns", "internal/strconv.uint64pow10", "math/bits.deBruijn32tab", "math/bits.deBruijn64tab"], apart := false, laid := [("math/bits.deBruijn32tab", laid_math_bits_deBruijn32tab), ("math/bits.deBruijn64tab", laid_math_bits_deBruijn64tab), ("internal/strconv.uint64pow10", laid_internal_strconv_uint64pow10), ("tideway/tide.none", laid_tideway_tide_none), ("tideway/tide.turns", laid_tideway_tide_turns)] }
def TideMatricesSaid : Prop := tideMatricesRow.holds Tryz.pinned (OpenSpec.ofChange tideMatricesSpec)

/-- ITS FALSE NEIGHBOUR: 'it returns false'. Refute it at one input. -/
def tideMatricesWrong : ChangeSpec := { name := "tideMatrices", fn := fun _ => fun
  | [d1, d2] => { results := [.lit (.bool false)], args := [d1, d2] }
  | _ => none }
def TideMatricesWrongFalsely : Prop := tideMatricesRow.holds Tryz.pinned (OpenSpec.ofChange tideMatricesWrong)

/-- 'tidewaylaw02.TideAnalyses': WHATEVER THE INPUT: true; the input reads as it did. -/
def tideAnalysesSpec : ChangeSpec := { name := "tideAnalyses", fn := fun _ => fun
  | [d1, d2] => { results := [.lit (.bool true)], args := [d1, d2] }
  | _ => none }
def tideAnalysesRow : OpenClaim := { program := "ytpcnkpbpcebokaagreatdoor", sum := "a8c9362602a20a1556e9237d4a7fb0e8bcc191bc5c1b0e55f43929ef2d43de64", func := "tideway/tidewaylaw02.TideAnalyses", spec := "tideAnalyses", inPlace := ["internal/abi.NoEscape", "internal/bytealg.MakeNoZero", "math.Float64bits", "math.Float64frombits", "math.archFloor", "math.archTrunc"], unfollowed := true, recurses := true, named := ["tideway/tide.none", "tideway/tide.turns", "internal/strconv.uint64pow10", "math/bits.deBruijn32tab", "math/bits.deBruijn64tab"], apart := false, laid := [("math/bits.deBruijn32tab", laid_math_bits_deBruijn32tab), ("math/bits.deBruijn64tab", laid_math_bits_deBruijn64tab), ("internal/strconv.uint64pow10", laid_internal_strconv_uint64pow10), ("tideway/tide.none", laid_tideway_tide_none), ("tideway/tide.turns", laid_tideway_tide_turns)] }
def TideAnalysesSaid : Prop := tideAnalysesRow.holds Tryz.pinned (OpenSpec.ofChange tideAnalysesSpec)

/-- ITS FALSE NEIGHBOUR: 'it returns false'. Refute it at one input. -/
def tideAnalysesWrong : ChangeSpec := { name := "tideAnalyses", fn := fun _ => fun
  | [d1, d2] => { results := [.lit (.bool false)], args := [d1, d2] }
  | _ => none }
def TideAnalysesWrongFalsely : Prop := tideAnalysesRow.holds Tryz.pinned (OpenSpec.ofChange tideAnalysesWrong)

/-- 'tidewaylaw02.TideResiduals': WHATEVER THE INPUT: true; the input reads as it did. -/
def tideResidualsSpec : ChangeSpec := { name := "tideResiduals", fn := fun _ => fun
  | [d1, d2] => { results := [.lit (.bool true)], args := [d1, d2] }
  | _ => none }
def tideResidualsRow : OpenClaim := { program := "ytpcnkpbpcebokaagreatdoor", sum := "a8c9362602a20a1556e9237d4a7fb0e8bcc191bc5c1b0e55f43929ef2d43de64", func := "tideway/tidewaylaw02.TideResiduals", spec := "tideResiduals", inPlace := ["internal/abi.NoEscape", "internal/bytealg.MakeNoZero", "math.Float64bits", "math.Float64frombits", "math.archFloor", "math.archTrunc"], unfollowed := true, recurses := true, named := ["tideway/tide.none", "tideway/tide.turns", "internal/strconv.uint64pow10", "math/bits.deBruijn32tab", "math/bits.deBruijn64tab"], apart := false, laid := [("math/bits.deBruijn32tab", laid_math_bits_deBruijn32tab), ("math/bits.deBruijn64tab", laid_math_bits_deBruijn64tab), ("internal/strconv.uint64pow10", laid_internal_strconv_uint64pow10), ("tideway/tide.none", laid_tideway_tide_none), ("tideway/tide.turns", laid_tideway_tide_turns)] }
def TideResidualsSaid : Prop := tideResidualsRow.holds Tryz.pinned (OpenSpec.ofChange tideResidualsSpec)

/-- ITS FALSE NEIGHBOUR: 'it returns false'. Refute it at one input. -/
def tideResidualsWrong : ChangeSpec := { name := "tideResiduals", fn := fun _ => fun
  | [d1, d2] => { results := [.lit (.bool false)], args := [d1, d2] }
  | _ => none }
def TideResidualsWrongFalsely : Prop := tideResidualsRow.holds Tryz.pinned (OpenSpec.ofChange tideResidualsWrong)

/-- 'tidewaylaw02.TideWaters': WHATEVER THE INPUT: true; the input reads as it did. -/
def tideWatersSpec : ChangeSpec := { name := "tideWaters", fn := fun _ => fun
  | [d] => { results := [.lit (.bool true)], args := [d] }
  | _ => none }
def tideWatersRow : OpenClaim := { program := "ytpcnkpbpcebokaagreatdoor", sum := "a8c9362602a20a1556e9237d4a7fb0e8bcc191bc5c1b0e55f43929ef2d43de64", func := "tideway/tidewaylaw02.TideWaters", spec := "tideWaters", inPlace := ["internal/abi.NoEscape", "internal/bytealg.MakeNoZero", "math.Float64bits", "math.Float64frombits", "math.archFloor", "math.archTrunc"], unfollowed := true, recurses := true, named := ["tideway/tide.none", "tideway/tide.turns", "internal/strconv.uint64pow10", "math/bits.deBruijn32tab", "math/bits.deBruijn64tab"], apart := false, laid := [("math/bits.deBruijn32tab", laid_math_bits_deBruijn32tab), ("math/bits.deBruijn64tab", laid_math_bits_deBruijn64tab), ("internal/strconv.uint64pow10", laid_internal_strconv_uint64pow10), ("tideway/tide.none", laid_tideway_tide_none), ("tideway/tide.turns", laid_tideway_tide_turns)] }
def TideWatersSaid : Prop := tideWatersRow.holds Tryz.pinned (OpenSpec.ofChange tideWatersSpec)

/-- ITS FALSE NEIGHBOUR: 'it returns false'. Refute it at one input. -/
def tideWatersWrong : ChangeSpec := { name := "tideWaters", fn := fun _ => fun
  | [d] => { results := [.lit (.bool false)], args := [d] }
  | _ => none }
def TideWatersWrongFalsely : Prop := tideWatersRow.holds Tryz.pinned (OpenSpec.ofChange tideWatersWrong)

/-- 'tidewaylaw02.TideLeast': WHATEVER THE INPUT: true; the input reads as it did. -/
def tideLeastSpec : ChangeSpec := { name := "tideLeast", fn := fun _ => fun
  | [d1, d2, d3] => { results := [.lit (.bool true)], args := [d1, d2, d3] }
  | _ => none }
def tideLeastRow : OpenClaim := { program := "ytpcnkpbpcebokaagreatdoor", sum := "a8c9362602a20a1556e9237d4a7fb0e8bcc191bc5c1b0e55f43929ef2d43de64", func := "tideway/tidewaylaw02.TideLeast", spec := "tideLeast", inPlace := ["internal/abi.NoEscape", "internal/bytealg.MakeNoZero", "math.Float64bits", "math.Float64frombits", "math.archFloor", "math.archTrunc"], unfollowed := true, recurses := true, named := ["tideway/tide.none", "tideway/tide.turns", "internal/strconv.uint64pow10", "math/bits.deBruijn32tab", "math/bits.deBruijn64tab"], apart := false, laid := [("math/bits.deBruijn32tab", laid_math_bits_deBruijn32tab), ("math/bits.deBruijn64tab", laid_math_bits_deBruijn64tab), ("internal/strconv.uint64pow10", laid_internal_strconv_uint64pow10), ("tideway/tide.none", laid_tideway_tide_none), ("tideway/tide.turns", laid_tideway_tide_turns)] }
def TideLeastSaid : Prop := tideLeastRow.holds Tryz.pinned (OpenSpec.ofChange tideLeastSpec)

/-- ITS FALSE NEIGHBOUR: 'it returns false'. Refute it at one input. -/
def tideLeastWrong : ChangeSpec := { name := "tideLeast", fn := fun _ => fun
  | [d1, d2, d3] => { results := [.lit (.bool false)], args := [d1, d2, d3] }
  | _ => none }
def TideLeastWrongFalsely : Prop := tideLeastRow.holds Tryz.pinned (OpenSpec.ofChange tideLeastWrong)

/-- 'tidewaylaw02.TideTurns': WHATEVER THE INPUT: true; the input reads as it did. -/
def tideTurnsSpec : ChangeSpec := { name := "tideTurns", fn := fun _ => fun
  | [d1, d2] => { results := [.lit (.bool true)], args := [d1, d2] }
  | _ => none }
def tideTurnsRow : OpenClaim := { program := "ytpcnkpbpcebokaagreatdoor", sum := "a8c9362602a20a1556e9237d4a7fb0e8bcc191bc5c1b0e55f43929ef2d43de64", func := "tideway/tidewaylaw02.TideTurns", spec := "tideTurns", inPlace := ["internal/abi.NoEscape", "internal/bytealg.MakeNoZero", "math.Float64bits", "math.Float64frombits", "math.archFloor", "math.archTrunc"], unfollowed := true, recurses := true, named := ["tideway/tide.none", "tideway/tide.turns", "internal/strconv.uint64pow10", "math/bits.deBruijn32tab", "math/bits.deBruijn64tab"], apart := false, laid := [("math/bits.deBruijn32tab", laid_math_bits_deBruijn32tab), ("math/bits.deBruijn64tab", laid_math_bits_deBruijn64tab), ("internal/strconv.uint64pow10", laid_internal_strconv_uint64pow10), ("tideway/tide.none", laid_tideway_tide_none), ("tideway/tide.turns", laid_tideway_tide_turns)] }
def TideTurnsSaid : Prop := tideTurnsRow.holds Tryz.pinned (OpenSpec.ofChange tideTurnsSpec)

/-- ITS FALSE NEIGHBOUR: 'it returns false'. Refute it at one input. -/
def tideTurnsWrong : ChangeSpec := { name := "tideTurns", fn := fun _ => fun
  | [d1, d2] => { results := [.lit (.bool false)], args := [d1, d2] }
  | _ => none }
def TideTurnsWrongFalsely : Prop := tideTurnsRow.holds Tryz.pinned (OpenSpec.ofChange tideTurnsWrong)

/-- 'tidewaylaw02.TideCharacters': WHATEVER THE INPUT: true; the input reads as it did. -/
def tideCharactersSpec : ChangeSpec := { name := "tideCharacters", fn := fun _ => fun
  | [d1, d2, d3] => { results := [.lit (.bool true)], args := [d1, d2, d3] }
  | _ => none }
def tideCharactersRow : OpenClaim := { program := "ytpcnkpbpcebokaagreatdoor", sum := "a8c9362602a20a1556e9237d4a7fb0e8bcc191bc5c1b0e55f43929ef2d43de64", func := "tideway/tidewaylaw02.TideCharacters", spec := "tideCharacters", inPlace := ["internal/abi.NoEscape", "internal/bytealg.MakeNoZero", "math.Float64bits", "math.Float64frombits", "math.archFloor", "math.archTrunc"], unfollowed := true, recurses := true, named := ["tideway/tide.none", "tideway/tide.turns", "internal/strconv.uint64pow10", "math/bits.deBruijn32tab", "math/bits.deBruijn64tab"], apart := false, laid := [("math/bits.deBruijn32tab", laid_math_bits_deBruijn32tab), ("math/bits.deBruijn64tab", laid_math_bits_deBruijn64tab), ("internal/strconv.uint64pow10", laid_internal_strconv_uint64pow10), ("tideway/tide.none", laid_tideway_tide_none), ("tideway/tide.turns", laid_tideway_tide_turns)] }
def TideCharactersSaid : Prop := tideCharactersRow.holds Tryz.pinned (OpenSpec.ofChange tideCharactersSpec)

/-- ITS FALSE NEIGHBOUR: 'it returns false'. Refute it at one input. -/
def tideCharactersWrong : ChangeSpec := { name := "tideCharacters", fn := fun _ => fun
  | [d1, d2, d3] => { results := [.lit (.bool false)], args := [d1, d2, d3] }
  | _ => none }
def TideCharactersWrongFalsely : Prop := tideCharactersRow.holds Tryz.pinned (OpenSpec.ofChange tideCharactersWrong)

/-- 'tidewaylaw02.TideKernels': WHATEVER THE INPUT: true; the input reads as it did. -/
def tideKernelsSpec : ChangeSpec := { name := "tideKernels", fn := fun _ => fun
  | [d1, d2, d3] => { results := [.lit (.bool true)], args := [d1, d2, d3] }
  | _ => none }
def tideKernelsRow : OpenClaim := { program := "ytpcnkpbpcebokaagreatdoor", sum := "a8c9362602a20a1556e9237d4a7fb0e8bcc191bc5c1b0e55f43929ef2d43de64", func := "tideway/tidewaylaw02.TideKernels", spec := "tideKernels", inPlace := ["internal/abi.NoEscape", "internal/bytealg.MakeNoZero", "math.Float64bits", "math.Float64frombits", "math.archFloor", "math.archTrunc"], unfollowed := true, recurses := true, named := ["tideway/tide.none", "tideway/tide.turns", "internal/strconv.uint64pow10", "math/bits.deBruijn32tab", "math/bits.deBruijn64tab"], apart := false, laid := [("math/bits.deBruijn32tab", laid_math_bits_deBruijn32tab), ("math/bits.deBruijn64tab", laid_math_bits_deBruijn64tab), ("internal/strconv.uint64pow10", laid_internal_strconv_uint64pow10), ("tideway/tide.none", laid_tideway_tide_none), ("tideway/tide.turns", laid_tideway_tide_turns)] }
def TideKernelsSaid : Prop := tideKernelsRow.holds Tryz.pinned (OpenSpec.ofChange tideKernelsSpec)

/-- ITS FALSE NEIGHBOUR: 'it returns false'. Refute it at one input. -/
def tideKernelsWrong : ChangeSpec := { name := "tideKernels", fn := fun _ => fun
  | [d1, d2, d3] => { results := [.lit (.bool false)], args := [d1, d2, d3] }
  | _ => none }
def TideKernelsWrongFalsely : Prop := tideKernelsRow.holds Tryz.pinned (OpenSpec.ofChange tideKernelsWrong)

/-- 'tidewaylaw02.TideEither': WHATEVER THE INPUT: true; the input reads as it did. -/
def tideEitherSpec : ChangeSpec := { name := "tideEither", fn := fun _ => fun
  | [d1, d2, d3] => { results := [.lit (.bool true)], args := [d1, d2, d3] }
  | _ => none }
def tideEitherRow : OpenClaim := { program := "ytpcnkpbpcebokaagreatdoor", sum := "a8c9362602a20a1556e9237d4a7fb0e8bcc191bc5c1b0e55f43929ef2d43de64", func := "tideway/tidewaylaw02.TideEither", spec := "tideEither", inPlace := ["internal/abi.NoEscape", "internal/bytealg.MakeNoZero", "math.Float64bits", "math.Float64frombits", "math.archFloor", "math.archTrunc"], unfollowed := true, recurses := true, named := ["tideway/tide.none", "tideway/tide.turns", "internal/strconv.uint64pow10", "math/bits.deBruijn32tab", "math/bits.deBruijn64tab"], apart := false, laid := [("math/bits.deBruijn32tab", laid_math_bits_deBruijn32tab), ("math/bits.deBruijn64tab", laid_math_bits_deBruijn64tab), ("internal/strconv.uint64pow10", laid_internal_strconv_uint64pow10), ("tideway/tide.none", laid_tideway_tide_none), ("tideway/tide.turns", laid_tideway_tide_turns)] }
def TideEitherSaid : Prop := tideEitherRow.holds Tryz.pinned (OpenSpec.ofChange tideEitherSpec)

/-- ITS FALSE NEIGHBOUR: 'it returns false'. Refute it at one input. -/
def tideEitherWrong : ChangeSpec := { name := "tideEither", fn := fun _ => fun
  | [d1, d2, d3] => { results := [.lit (.bool false)], args := [d1, d2, d3] }
  | _ => none }
def TideEitherWrongFalsely : Prop := tideEitherRow.holds Tryz.pinned (OpenSpec.ofChange tideEitherWrong)

/-- 'tidewaylaw02.TideAdds': WHATEVER THE INPUT: true; the input reads as it did. -/
def tideAddsSpec : ChangeSpec := { name := "tideAdds", fn := fun _ => fun
  | [d1, d2, d3] => { results := [.lit (.bool true)], args := [d1, d2, d3] }
  | _ => none }
def tideAddsRow : OpenClaim := { program := "ytpcnkpbpcebokaagreatdoor", sum := "a8c9362602a20a1556e9237d4a7fb0e8bcc191bc5c1b0e55f43929ef2d43de64", func := "tideway/tidewaylaw02.TideAdds", spec := "tideAdds", inPlace := ["internal/abi.NoEscape", "internal/bytealg.MakeNoZero", "math.Float64bits", "math.Float64frombits", "math.archFloor", "math.archTrunc"], unfollowed := true, recurses := true, named := ["tideway/tide.none", "tideway/tide.turns", "internal/strconv.uint64pow10", "math/bits.deBruijn32tab", "math/bits.deBruijn64tab"], apart := false, laid := [("math/bits.deBruijn32tab", laid_math_bits_deBruijn32tab), ("math/bits.deBruijn64tab", laid_math_bits_deBruijn64tab), ("internal/strconv.uint64pow10", laid_internal_strconv_uint64pow10), ("tideway/tide.none", laid_tideway_tide_none), ("tideway/tide.turns", laid_tideway_tide_turns)] }
def TideAddsSaid : Prop := tideAddsRow.holds Tryz.pinned (OpenSpec.ofChange tideAddsSpec)

/-- ITS FALSE NEIGHBOUR: 'it returns false'. Refute it at one input. -/
def tideAddsWrong : ChangeSpec := { name := "tideAdds", fn := fun _ => fun
  | [d1, d2, d3] => { results := [.lit (.bool false)], args := [d1, d2, d3] }
  | _ => none }
def TideAddsWrongFalsely : Prop := tideAddsRow.holds Tryz.pinned (OpenSpec.ofChange tideAddsWrong)

/-- 'tidewaylaw02.TideTexts': WHATEVER THE INPUT: true; the input reads as it did. -/
def tideTextsSpec : ChangeSpec := { name := "tideTexts", fn := fun _ => fun
  | [d1, d2] => { results := [.lit (.bool true)], args := [d1, d2] }
  | _ => none }
def tideTextsRow : OpenClaim := { program := "ytpcnkpbpcebokaagreatdoor", sum := "a8c9362602a20a1556e9237d4a7fb0e8bcc191bc5c1b0e55f43929ef2d43de64", func := "tideway/tidewaylaw02.TideTexts", spec := "tideTexts", inPlace := ["internal/abi.NoEscape", "internal/bytealg.MakeNoZero", "internal/bytealg.IndexByteString", "internal/bytealg.IndexString", "internal/bytealg.CountString"], unfollowed := true, recurses := true, named := ["tideway/tide.none", "tideway/tide.turns", "internal/strconv.uint64pow10", "math/bits.deBruijn32tab", "math/bits.deBruijn64tab", "internal/bytealg.MaxLen", "unicode/utf8.first", "unicode/utf8.acceptRanges", "strconv.ErrSyntax", "strconv.ErrRange"], apart := false, laid := [("math/bits.deBruijn32tab", laid_math_bits_deBruijn32tab), ("math/bits.deBruijn64tab", laid_math_bits_deBruijn64tab), ("internal/strconv.uint64pow10", laid_internal_strconv_uint64pow10), ("unicode/utf8.acceptRanges", laid_unicode_utf8_acceptRanges), ("strconv.ErrRange", laid_strconv_ErrRange), ("strconv.ErrSyntax", laid_strconv_ErrSyntax), ("tideway/tide.none", laid_tideway_tide_none), ("tideway/tide.turns", laid_tideway_tide_turns), ("unicode/utf8.first", laid_unicode_utf8_first)] }
def TideTextsSaid : Prop := tideTextsRow.holds Tryz.pinned (OpenSpec.ofChange tideTextsSpec)

/-- ITS FALSE NEIGHBOUR: 'it returns false'. Refute it at one input. -/
def tideTextsWrong : ChangeSpec := { name := "tideTexts", fn := fun _ => fun
  | [d1, d2] => { results := [.lit (.bool false)], args := [d1, d2] }
  | _ => none }
def TideTextsWrongFalsely : Prop := tideTextsRow.holds Tryz.pinned (OpenSpec.ofChange tideTextsWrong)

/-- 'tidewaylaw02.TideBack': WHATEVER THE INPUT: true; the input reads as it did. -/
def tideBackSpec : ChangeSpec := { name := "tideBack", fn := fun _ => fun
  | [d1, d2] => { results := [.lit (.bool true)], args := [d1, d2] }
  | _ => none }
def tideBackRow : OpenClaim := { program := "ytpcnkpbpcebokaagreatdoor", sum := "a8c9362602a20a1556e9237d4a7fb0e8bcc191bc5c1b0e55f43929ef2d43de64", func := "tideway/tidewaylaw02.TideBack", spec := "tideBack", inPlace := ["internal/abi.NoEscape", "internal/bytealg.MakeNoZero", "internal/bytealg.IndexByteString", "internal/bytealg.IndexString", "internal/bytealg.CountString"], unfollowed := true, recurses := true, named := ["tideway/tide.none", "tideway/tide.turns", "internal/strconv.uint64pow10", "math/bits.deBruijn32tab", "math/bits.deBruijn64tab", "internal/bytealg.MaxLen", "unicode/utf8.first", "unicode/utf8.acceptRanges", "strconv.ErrSyntax", "strconv.ErrRange"], apart := false, laid := [("math/bits.deBruijn32tab", laid_math_bits_deBruijn32tab), ("math/bits.deBruijn64tab", laid_math_bits_deBruijn64tab), ("internal/strconv.uint64pow10", laid_internal_strconv_uint64pow10), ("unicode/utf8.acceptRanges", laid_unicode_utf8_acceptRanges), ("strconv.ErrRange", laid_strconv_ErrRange), ("strconv.ErrSyntax", laid_strconv_ErrSyntax), ("tideway/tide.none", laid_tideway_tide_none), ("tideway/tide.turns", laid_tideway_tide_turns), ("unicode/utf8.first", laid_unicode_utf8_first)] }
def TideBackSaid : Prop := tideBackRow.holds Tryz.pinned (OpenSpec.ofChange tideBackSpec)

/-- ITS FALSE NEIGHBOUR: 'it returns false'. Refute it at one input. -/
def tideBackWrong : ChangeSpec := { name := "tideBack", fn := fun _ => fun
  | [d1, d2] => { results := [.lit (.bool false)], args := [d1, d2] }
  | _ => none }
def TideBackWrongFalsely : Prop := tideBackRow.holds Tryz.pinned (OpenSpec.ofChange tideBackWrong)

/- THE SECOND FORM. 'bulk': how many values and letters a reading holds, each counted each time it is reached (what is shared counts as often as it is met; a slice's spare places count too). A statement '..UptoSaid' is the law's where the arguments, and the package variables that the reading takes, are together of bulk at most 1048576: NARROWER than '..Said'. Prove '..Said' where nothing that the law and all that it calls make is longer than what came in: it says more and counts as full. Else prove '..UptoSaid'. A law counts once. -/
mutual
def uptoBulk {H : Type} : DataW H → Nat
  | .lit (.string bytes) => bytes.length + 1
  | .lit _ => 1
  | .nil => 1
  | .ptr d => uptoBulk d + 1
  | .slice elems spare => uptoBulkAll elems + uptoBulkAll spare + 1
  | .agg parts => uptoBulkAll parts + 1
  | .iface _ d => uptoBulk d + 1
  | .map entries => uptoBulkEntries entries + 1
  | .held _ => 1
def uptoBulkAll {H : Type} : List (DataW H) → Nat
  | [] => 0
  | d :: r => uptoBulk d + uptoBulkAll r
def uptoBulkEntries {H : Type} : List (Lit × DataW H) → Nat
  | [] => 0
  | x :: r => uptoBulkEntry x + uptoBulkEntries r
def uptoBulkEntry {H : Type} : Lit × DataW H → Nat
  | (.string bytes, d) => bytes.length + uptoBulk d + 1
  | (_, d) => uptoBulk d + 1
 end
def uptoSmall : (H : Type) → List (DataW H) → Bool := fun _ ds => decide (uptoBulkAll ds ≤ 1048576)
def OpenSpec.upto (s : _root_.Go.ChangeSpec) : _root_.Go.OpenSpec := { _root_.Go.OpenSpec.ofChange s with cond := some uptoSmall }

/-- 'tidewaylaw02.TidePredictions', WHERE WHAT IT READS IS OF BULK AT MOST 1048576: true; the input reads as it did. -/
def tidePredictionsUptoRow : OpenClaim := { program := "ytpcnkpbpcebokaagreatdoor", sum := "a8c9362602a20a1556e9237d4a7fb0e8bcc191bc5c1b0e55f43929ef2d43de64", func := "tideway/tidewaylaw02.TidePredictions", spec := "tidePredictions", inPlace := ["internal/abi.NoEscape", "internal/bytealg.MakeNoZero"], unfollowed := true, recurses := true, named := ["tideway/tide.none", "tideway/tide.turns", "internal/strconv.uint64pow10", "math/bits.deBruijn32tab", "math/bits.deBruijn64tab"], apart := false, laid := [("math/bits.deBruijn32tab", laid_math_bits_deBruijn32tab), ("math/bits.deBruijn64tab", laid_math_bits_deBruijn64tab), ("internal/strconv.uint64pow10", laid_internal_strconv_uint64pow10), ("tideway/tide.none", laid_tideway_tide_none), ("tideway/tide.turns", laid_tideway_tide_turns)], narrowed := true }
def TidePredictionsUptoSaid : Prop := tidePredictionsUptoRow.holds Tryz.pinned (OpenSpec.upto tidePredictionsSpec)

/-- 'tidewaylaw02.TideFound', WHERE WHAT IT READS IS OF BULK AT MOST 1048576: true; the input reads as it did. -/
def tideFoundUptoRow : OpenClaim := { program := "ytpcnkpbpcebokaagreatdoor", sum := "a8c9362602a20a1556e9237d4a7fb0e8bcc191bc5c1b0e55f43929ef2d43de64", func := "tideway/tidewaylaw02.TideFound", spec := "tideFound", inPlace := ["internal/abi.NoEscape", "internal/bytealg.MakeNoZero"], unfollowed := true, recurses := true, named := ["tideway/tide.none", "tideway/tide.turns", "internal/strconv.uint64pow10", "math/bits.deBruijn32tab", "math/bits.deBruijn64tab"], apart := false, laid := [("math/bits.deBruijn32tab", laid_math_bits_deBruijn32tab), ("math/bits.deBruijn64tab", laid_math_bits_deBruijn64tab), ("internal/strconv.uint64pow10", laid_internal_strconv_uint64pow10), ("tideway/tide.none", laid_tideway_tide_none), ("tideway/tide.turns", laid_tideway_tide_turns)], narrowed := true }
def TideFoundUptoSaid : Prop := tideFoundUptoRow.holds Tryz.pinned (OpenSpec.upto tideFoundSpec)

/-- 'tidewaylaw02.TideSums', WHERE WHAT IT READS IS OF BULK AT MOST 1048576: true; the input reads as it did. -/
def tideSumsUptoRow : OpenClaim := { program := "ytpcnkpbpcebokaagreatdoor", sum := "a8c9362602a20a1556e9237d4a7fb0e8bcc191bc5c1b0e55f43929ef2d43de64", func := "tideway/tidewaylaw02.TideSums", spec := "tideSums", inPlace := ["internal/abi.NoEscape", "internal/bytealg.MakeNoZero"], unfollowed := true, recurses := true, named := ["tideway/tide.none", "tideway/tide.turns", "internal/strconv.uint64pow10", "math/bits.deBruijn32tab", "math/bits.deBruijn64tab"], apart := false, laid := [("math/bits.deBruijn32tab", laid_math_bits_deBruijn32tab), ("math/bits.deBruijn64tab", laid_math_bits_deBruijn64tab), ("internal/strconv.uint64pow10", laid_internal_strconv_uint64pow10), ("tideway/tide.none", laid_tideway_tide_none), ("tideway/tide.turns", laid_tideway_tide_turns)], narrowed := true }
def TideSumsUptoSaid : Prop := tideSumsUptoRow.holds Tryz.pinned (OpenSpec.upto tideSumsSpec)

/-- 'tidewaylaw02.TideMatrices', WHERE WHAT IT READS IS OF BULK AT MOST 1048576: true; the input reads as it did. -/
def tideMatricesUptoRow : OpenClaim := { program := "ytpcnkpbpcebokaagreatdoor", sum := "a8c9362602a20a1556e9237d4a7fb0e8bcc191bc5c1b0e55f43929ef2d43de64", func := "tideway/tidewaylaw02.TideMatrices", spec := "tideMatrices", inPlace := ["internal/abi.NoEscape", "internal/bytealg.MakeNoZero", "math.Float64bits", "math.Float64frombits", "math.archFloor", "math.archTrunc"], unfollowed := true, recurses := true, named := ["tideway/tide.none", "tideway/tide.turns", "internal/strconv.uint64pow10", "math/bits.deBruijn32tab", "math/bits.deBruijn64tab"], apart := false, laid := [("math/bits.deBruijn32tab", laid_math_bits_deBruijn32tab), ("math/bits.deBruijn64tab", laid_math_bits_deBruijn64tab), ("internal/strconv.uint64pow10", laid_internal_strconv_uint64pow10), ("tideway/tide.none", laid_tideway_tide_none), ("tideway/tide.turns", laid_tideway_tide_turns)], narrowed := true }
def TideMatricesUptoSaid : Prop := tideMatricesUptoRow.holds Tryz.pinned (OpenSpec.upto tideMatricesSpec)

/-- 'tidewaylaw02.TideAnalyses', WHERE WHAT IT READS IS OF BULK AT MOST 1048576: true; the input reads as it did. -/
def tideAnalysesUptoRow : OpenClaim := { program := "ytpcnkpbpcebokaagreatdoor", sum := "a8c9362602a20a1556e9237d4a7fb0e8bcc191bc5c1b0e55f43929ef2d43de64", func := "tideway/tidewaylaw02.TideAnalyses", spec := "tideAnalyses", inPlace := ["internal/abi.NoEscape", "internal/bytealg.MakeNoZero", "math.Float64bits", "math.Float64frombits", "math.archFloor", "math.archTrunc"], unfollowed := true, recurses := true, named := ["tideway/tide.none", "tideway/tide.turns", "internal/strconv.uint64pow10", "math/bits.deBruijn32tab", "math/bits.deBruijn64tab"], apart := false, laid := [("math/bits.deBruijn32tab", laid_math_bits_deBruijn32tab), ("math/bits.deBruijn64tab", laid_math_bits_deBruijn64tab), ("internal/strconv.uint64pow10", laid_internal_strconv_uint64pow10), ("tideway/tide.none", laid_tideway_tide_none), ("tideway/tide.turns", laid_tideway_tide_turns)], narrowed := true }
def TideAnalysesUptoSaid : Prop := tideAnalysesUptoRow.holds Tryz.pinned (OpenSpec.upto tideAnalysesSpec)

/-- 'tidewaylaw02.TideResiduals', WHERE WHAT IT READS IS OF BULK AT MOST 1048576: true; the input reads as it did. -/
def tideResidualsUptoRow : OpenClaim := { program := "ytpcnkpbpcebokaagreatdoor", sum := "a8c9362602a20a1556e9237d4a7fb0e8bcc191bc5c1b0e55f43929ef2d43de64", func := "tideway/tidewaylaw02.TideResiduals", spec := "tideResiduals", inPlace := ["internal/abi.NoEscape", "internal/bytealg.MakeNoZero", "math.Float64bits", "math.Float64frombits", "math.archFloor", "math.archTrunc"], unfollowed := true, recurses := true, named := ["tideway/tide.none", "tideway/tide.turns", "internal/strconv.uint64pow10", "math/bits.deBruijn32tab", "math/bits.deBruijn64tab"], apart := false, laid := [("math/bits.deBruijn32tab", laid_math_bits_deBruijn32tab), ("math/bits.deBruijn64tab", laid_math_bits_deBruijn64tab), ("internal/strconv.uint64pow10", laid_internal_strconv_uint64pow10), ("tideway/tide.none", laid_tideway_tide_none), ("tideway/tide.turns", laid_tideway_tide_turns)], narrowed := true }
def TideResidualsUptoSaid : Prop := tideResidualsUptoRow.holds Tryz.pinned (OpenSpec.upto tideResidualsSpec)

/-- 'tidewaylaw02.TideWaters', WHERE WHAT IT READS IS OF BULK AT MOST 1048576: true; the input reads as it did. -/
def tideWatersUptoRow : OpenClaim := { program := "ytpcnkpbpcebokaagreatdoor", sum := "a8c9362602a20a1556e9237d4a7fb0e8bcc191bc5c1b0e55f43929ef2d43de64", func := "tideway/tidewaylaw02.TideWaters", spec := "tideWaters", inPlace := ["internal/abi.NoEscape", "internal/bytealg.MakeNoZero", "math.Float64bits", "math.Float64frombits", "math.archFloor", "math.archTrunc"], unfollowed := true, recurses := true, named := ["tideway/tide.none", "tideway/tide.turns", "internal/strconv.uint64pow10", "math/bits.deBruijn32tab", "math/bits.deBruijn64tab"], apart := false, laid := [("math/bits.deBruijn32tab", laid_math_bits_deBruijn32tab), ("math/bits.deBruijn64tab", laid_math_bits_deBruijn64tab), ("internal/strconv.uint64pow10", laid_internal_strconv_uint64pow10), ("tideway/tide.none", laid_tideway_tide_none), ("tideway/tide.turns", laid_tideway_tide_turns)], narrowed := true }
def TideWatersUptoSaid : Prop := tideWatersUptoRow.holds Tryz.pinned (OpenSpec.upto tideWatersSpec)

/-- 'tidewaylaw02.TideLeast', WHERE WHAT IT READS IS OF BULK AT MOST 1048576: true; the input reads as it did. -/
def tideLeastUptoRow : OpenClaim := { program := "ytpcnkpbpcebokaagreatdoor", sum := "a8c9362602a20a1556e9237d4a7fb0e8bcc191bc5c1b0e55f43929ef2d43de64", func := "tideway/tidewaylaw02.TideLeast", spec := "tideLeast", inPlace := ["internal/abi.NoEscape", "internal/bytealg.MakeNoZero", "math.Float64bits", "math.Float64frombits", "math.archFloor", "math.archTrunc"], unfollowed := true, recurses := true, named := ["tideway/tide.none", "tideway/tide.turns", "internal/strconv.uint64pow10", "math/bits.deBruijn32tab", "math/bits.deBruijn64tab"], apart := false, laid := [("math/bits.deBruijn32tab", laid_math_bits_deBruijn32tab), ("math/bits.deBruijn64tab", laid_math_bits_deBruijn64tab), ("internal/strconv.uint64pow10", laid_internal_strconv_uint64pow10), ("tideway/tide.none", laid_tideway_tide_none), ("tideway/tide.turns", laid_tideway_tide_turns)], narrowed := true }
def TideLeastUptoSaid : Prop := tideLeastUptoRow.holds Tryz.pinned (OpenSpec.upto tideLeastSpec)

/-- 'tidewaylaw02.TideTurns', WHERE WHAT IT READS IS OF BULK AT MOST 1048576: true; the input reads as it did. -/
def tideTurnsUptoRow : OpenClaim := { program := "ytpcnkpbpcebokaagreatdoor", sum := "a8c9362602a20a1556e9237d4a7fb0e8bcc191bc5c1b0e55f43929ef2d43de64", func := "tideway/tidewaylaw02.TideTurns", spec := "tideTurns", inPlace := ["internal/abi.NoEscape", "internal/bytealg.MakeNoZero", "math.Float64bits", "math.Float64frombits", "math.archFloor", "math.archTrunc"], unfollowed := true, recurses := true, named := ["tideway/tide.none", "tideway/tide.turns", "internal/strconv.uint64pow10", "math/bits.deBruijn32tab", "math/bits.deBruijn64tab"], apart := false, laid := [("math/bits.deBruijn32tab", laid_math_bits_deBruijn32tab), ("math/bits.deBruijn64tab", laid_math_bits_deBruijn64tab), ("internal/strconv.uint64pow10", laid_internal_strconv_uint64pow10), ("tideway/tide.none", laid_tideway_tide_none), ("tideway/tide.turns", laid_tideway_tide_turns)], narrowed := true }
def TideTurnsUptoSaid : Prop := tideTurnsUptoRow.holds Tryz.pinned (OpenSpec.upto tideTurnsSpec)

/-- 'tidewaylaw02.TideCharacters', WHERE WHAT IT READS IS OF BULK AT MOST 1048576: true; the input reads as it did. -/
def tideCharactersUptoRow : OpenClaim := { program := "ytpcnkpbpcebokaagreatdoor", sum := "a8c9362602a20a1556e9237d4a7fb0e8bcc191bc5c1b0e55f43929ef2d43de64", func := "tideway/tidewaylaw02.TideCharacters", spec := "tideCharacters", inPlace := ["internal/abi.NoEscape", "internal/bytealg.MakeNoZero", "math.Float64bits", "math.Float64frombits", "math.archFloor", "math.archTrunc"], unfollowed := true, recurses := true, named := ["tideway/tide.none", "tideway/tide.turns", "internal/strconv.uint64pow10", "math/bits.deBruijn32tab", "math/bits.deBruijn64tab"], apart := false, laid := [("math/bits.deBruijn32tab", laid_math_bits_deBruijn32tab), ("math/bits.deBruijn64tab", laid_math_bits_deBruijn64tab), ("internal/strconv.uint64pow10", laid_internal_strconv_uint64pow10), ("tideway/tide.none", laid_tideway_tide_none), ("tideway/tide.turns", laid_tideway_tide_turns)], narrowed := true }
def TideCharactersUptoSaid : Prop := tideCharactersUptoRow.holds Tryz.pinned (OpenSpec.upto tideCharactersSpec)

/-- 'tidewaylaw02.TideKernels', WHERE WHAT IT READS IS OF BULK AT MOST 1048576: true; the input reads as it did. -/
def tideKernelsUptoRow : OpenClaim := { program := "ytpcnkpbpcebokaagreatdoor", sum := "a8c9362602a20a1556e9237d4a7fb0e8bcc191bc5c1b0e55f43929ef2d43de64", func := "tideway/tidewaylaw02.TideKernels", spec := "tideKernels", inPlace := ["internal/abi.NoEscape", "internal/bytealg.MakeNoZero", "math.Float64bits", "math.Float64frombits", "math.archFloor", "math.archTrunc"], unfollowed := true, recurses := true, named := ["tideway/tide.none", "tideway/tide.turns", "internal/strconv.uint64pow10", "math/bits.deBruijn32tab", "math/bits.deBruijn64tab"], apart := false, laid := [("math/bits.deBruijn32tab", laid_math_bits_deBruijn32tab), ("math/bits.deBruijn64tab", laid_math_bits_deBruijn64tab), ("internal/strconv.uint64pow10", laid_internal_strconv_uint64pow10), ("tideway/tide.none", laid_tideway_tide_none), ("tideway/tide.turns", laid_tideway_tide_turns)], narrowed := true }
def TideKernelsUptoSaid : Prop := tideKernelsUptoRow.holds Tryz.pinned (OpenSpec.upto tideKernelsSpec)

/-- 'tidewaylaw02.TideEither', WHERE WHAT IT READS IS OF BULK AT MOST 1048576: true; the input reads as it did. -/
def tideEitherUptoRow : OpenClaim := { program := "ytpcnkpbpcebokaagreatdoor", sum := "a8c9362602a20a1556e9237d4a7fb0e8bcc191bc5c1b0e55f43929ef2d43de64", func := "tideway/tidewaylaw02.TideEither", spec := "tideEither", inPlace := ["internal/abi.NoEscape", "internal/bytealg.MakeNoZero", "math.Float64bits", "math.Float64frombits", "math.archFloor", "math.archTrunc"], unfollowed := true, recurses := true, named := ["tideway/tide.none", "tideway/tide.turns", "internal/strconv.uint64pow10", "math/bits.deBruijn32tab", "math/bits.deBruijn64tab"], apart := false, laid := [("math/bits.deBruijn32tab", laid_math_bits_deBruijn32tab), ("math/bits.deBruijn64tab", laid_math_bits_deBruijn64tab), ("internal/strconv.uint64pow10", laid_internal_strconv_uint64pow10), ("tideway/tide.none", laid_tideway_tide_none), ("tideway/tide.turns", laid_tideway_tide_turns)], narrowed := true }
def TideEitherUptoSaid : Prop := tideEitherUptoRow.holds Tryz.pinned (OpenSpec.upto tideEitherSpec)

/-- 'tidewaylaw02.TideAdds', WHERE WHAT IT READS IS OF BULK AT MOST 1048576: true; the input reads as it did. -/
def tideAddsUptoRow : OpenClaim := { program := "ytpcnkpbpcebokaagreatdoor", sum := "a8c9362602a20a1556e9237d4a7fb0e8bcc191bc5c1b0e55f43929ef2d43de64", func := "tideway/tidewaylaw02.TideAdds", spec := "tideAdds", inPlace := ["internal/abi.NoEscape", "internal/bytealg.MakeNoZero", "math.Float64bits", "math.Float64frombits", "math.archFloor", "math.archTrunc"], unfollowed := true, recurses := true, named := ["tideway/tide.none", "tideway/tide.turns", "internal/strconv.uint64pow10", "math/bits.deBruijn32tab", "math/bits.deBruijn64tab"], apart := false, laid := [("math/bits.deBruijn32tab", laid_math_bits_deBruijn32tab), ("math/bits.deBruijn64tab", laid_math_bits_deBruijn64tab), ("internal/strconv.uint64pow10", laid_internal_strconv_uint64pow10), ("tideway/tide.none", laid_tideway_tide_none), ("tideway/tide.turns", laid_tideway_tide_turns)], narrowed := true }
def TideAddsUptoSaid : Prop := tideAddsUptoRow.holds Tryz.pinned (OpenSpec.upto tideAddsSpec)

/-- 'tidewaylaw02.TideTexts', WHERE WHAT IT READS IS OF BULK AT MOST 1048576: true; the input reads as it did. -/
def tideTextsUptoRow : OpenClaim := { program := "ytpcnkpbpcebokaagreatdoor", sum := "a8c9362602a20a1556e9237d4a7fb0e8bcc191bc5c1b0e55f43929ef2d43de64", func := "tideway/tidewaylaw02.TideTexts", spec := "tideTexts", inPlace := ["internal/abi.NoEscape", "internal/bytealg.MakeNoZero", "internal/bytealg.IndexByteString", "internal/bytealg.IndexString", "internal/bytealg.CountString"], unfollowed := true, recurses := true, named := ["tideway/tide.none", "tideway/tide.turns", "internal/strconv.uint64pow10", "math/bits.deBruijn32tab", "math/bits.deBruijn64tab", "internal/bytealg.MaxLen", "unicode/utf8.first", "unicode/utf8.acceptRanges", "strconv.ErrSyntax", "strconv.ErrRange"], apart := false, laid := [("math/bits.deBruijn32tab", laid_math_bits_deBruijn32tab), ("math/bits.deBruijn64tab", laid_math_bits_deBruijn64tab), ("internal/strconv.uint64pow10", laid_internal_strconv_uint64pow10), ("unicode/utf8.acceptRanges", laid_unicode_utf8_acceptRanges), ("strconv.ErrRange", laid_strconv_ErrRange), ("strconv.ErrSyntax", laid_strconv_ErrSyntax), ("tideway/tide.none", laid_tideway_tide_none), ("tideway/tide.turns", laid_tideway_tide_turns), ("unicode/utf8.first", laid_unicode_utf8_first)], narrowed := true }
def TideTextsUptoSaid : Prop := tideTextsUptoRow.holds Tryz.pinned (OpenSpec.upto tideTextsSpec)

/-- 'tidewaylaw02.TideBack', WHERE WHAT IT READS IS OF BULK AT MOST 1048576: true; the input reads as it did. -/
def tideBackUptoRow : OpenClaim := { program := "ytpcnkpbpcebokaagreatdoor", sum := "a8c9362602a20a1556e9237d4a7fb0e8bcc191bc5c1b0e55f43929ef2d43de64", func := "tideway/tidewaylaw02.TideBack", spec := "tideBack", inPlace := ["internal/abi.NoEscape", "internal/bytealg.MakeNoZero", "internal/bytealg.IndexByteString", "internal/bytealg.IndexString", "internal/bytealg.CountString"], unfollowed := true, recurses := true, named := ["tideway/tide.none", "tideway/tide.turns", "internal/strconv.uint64pow10", "math/bits.deBruijn32tab", "math/bits.deBruijn64tab", "internal/bytealg.MaxLen", "unicode/utf8.first", "unicode/utf8.acceptRanges", "strconv.ErrSyntax", "strconv.ErrRange"], apart := false, laid := [("math/bits.deBruijn32tab", laid_math_bits_deBruijn32tab), ("math/bits.deBruijn64tab", laid_math_bits_deBruijn64tab), ("internal/strconv.uint64pow10", laid_internal_strconv_uint64pow10), ("unicode/utf8.acceptRanges", laid_unicode_utf8_acceptRanges), ("strconv.ErrRange", laid_strconv_ErrRange), ("strconv.ErrSyntax", laid_strconv_ErrSyntax), ("tideway/tide.none", laid_tideway_tide_none), ("tideway/tide.turns", laid_tideway_tide_turns), ("unicode/utf8.first", laid_unicode_utf8_first)], narrowed := true }
def TideBackUptoSaid : Prop := tideBackUptoRow.holds Tryz.pinned (OpenSpec.upto tideBackSpec)

end Rows
end Go.Proofs.YtpcnkpbpcebokaaGreatDoor
