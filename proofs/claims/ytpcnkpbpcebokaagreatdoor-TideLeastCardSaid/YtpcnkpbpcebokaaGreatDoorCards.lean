/-
  DERIVED. GIVEN WITH THE SEED: THE CARDS: each row of YtpcnkpbpcebokaaGreatDoorRows.lean that lists a variable, with what it lists TIED to the program's text (the seventh form; the later family's looks); each row that meets fmt, with fmt's text TOLD by the authors' own Lean function (tested against real Go, not proved from fmt's source: count such statements apart). THE CARD IS WHAT COUNTS. Prove the row's statement (the work); the ties are given (YtpcnkpbpcebokaaGreatDoorTie.lean); close each card by the builder's one call (the guide's Derived/Test/ToyasCard.lean, 'card_holds'). Laid BY PROGRAM, IN A SANDBOX (cutbox-door.mjs). By AI agents, Wed Nov 11 2026. No macro, syntax, notation, axiom, sorry.
-/
import Derived.Test.YtpcnkpbpcebokaaGreatDoorRows
import GoSem.ClaimSeven
namespace Go.Proofs.YtpcnkpbpcebokaaGreatDoor
namespace Rows

/-- THE TIED CARD OF 'tidewaylaw02.TidePredictions'. -/
def tidePredictionsCard : Claim7 := { stood := { row := tidePredictionsRow, standIns := [], harness := (true, "9fb4918ac9ed9554070fc275559d571b4d8db6d5d3cd07a716505db01760a510"), looks := true }, kinds := [], alts := [], laidByText := true, laidKinds := [.data, .data, .data, .data, .data], laidTests := true, laidLooks := .later }
def TidePredictionsCardSaid : Prop := Claim7.holds Tryz.pinned (.plain (OpenSpec.ofChange tidePredictionsSpec)) tidePredictionsCard

/-- THE TIED CARD OF 'tidewaylaw02.TideFound'. -/
def tideFoundCard : Claim7 := { stood := { row := tideFoundRow, standIns := [], harness := (true, "9fb4918ac9ed9554070fc275559d571b4d8db6d5d3cd07a716505db01760a510"), looks := true }, kinds := [], alts := [], laidByText := true, laidKinds := [.data, .data, .data, .data, .data], laidTests := true, laidLooks := .later }
def TideFoundCardSaid : Prop := Claim7.holds Tryz.pinned (.plain (OpenSpec.ofChange tideFoundSpec)) tideFoundCard

/-- THE TIED CARD OF 'tidewaylaw02.TideSums'. -/
def tideSumsCard : Claim7 := { stood := { row := tideSumsRow, standIns := [], harness := (true, "9fb4918ac9ed9554070fc275559d571b4d8db6d5d3cd07a716505db01760a510"), looks := true }, kinds := [], alts := [], laidByText := true, laidKinds := [.data, .data, .data, .data, .data], laidTests := true, laidLooks := .later }
def TideSumsCardSaid : Prop := Claim7.holds Tryz.pinned (.plain (OpenSpec.ofChange tideSumsSpec)) tideSumsCard

/-- THE TIED CARD OF 'tidewaylaw02.TideMatrices'. -/
def tideMatricesCard : Claim7 := { stood := { row := tideMatricesRow, standIns := [], harness := (true, "9fb4918ac9ed9554070fc275559d571b4d8db6d5d3cd07a716505db01760a510"), looks := true }, kinds := [], alts := [], laidByText := true, laidKinds := [.data, .data, .data, .data, .data], laidTests := true, laidLooks := .later }
def TideMatricesCardSaid : Prop := Claim7.holds Tryz.pinned (.plain (OpenSpec.ofChange tideMatricesSpec)) tideMatricesCard

/-- THE TIED CARD OF 'tidewaylaw02.TideAnalyses'. -/
def tideAnalysesCard : Claim7 := { stood := { row := tideAnalysesRow, standIns := [], harness := (true, "9fb4918ac9ed9554070fc275559d571b4d8db6d5d3cd07a716505db01760a510"), looks := true }, kinds := [], alts := [], laidByText := true, laidKinds := [.data, .data, .data, .data, .data], laidTests := true, laidLooks := .later }
def TideAnalysesCardSaid : Prop := Claim7.holds Tryz.pinned (.plain (OpenSpec.ofChange tideAnalysesSpec)) tideAnalysesCard

/-- THE TIED CARD OF 'tidewaylaw02.TideResiduals'. -/
def tideResidualsCard : Claim7 := { stood := { row := tideResidualsRow, standIns := [], harness := (true, "9fb4918ac9ed9554070fc275559d571b4d8db6d5d3cd07a716505db01760a510"), looks := true }, kinds := [], alts := [], laidByText := true, laidKinds := [.data, .data, .data, .data, .data], laidTests := true, laidLooks := .later }
def TideResidualsCardSaid : Prop := Claim7.holds Tryz.pinned (.plain (OpenSpec.ofChange tideResidualsSpec)) tideResidualsCard

/-- THE TIED CARD OF 'tidewaylaw02.TideWaters'. -/
def tideWatersCard : Claim7 := { stood := { row := tideWatersRow, standIns := [], harness := (true, "9fb4918ac9ed9554070fc275559d571b4d8db6d5d3cd07a716505db01760a510"), looks := true }, kinds := [], alts := [], laidByText := true, laidKinds := [.data, .data, .data, .data, .data], laidTests := true, laidLooks := .later }
def TideWatersCardSaid : Prop := Claim7.holds Tryz.pinned (.plain (OpenSpec.ofChange tideWatersSpec)) tideWatersCard

/-- THE TIED CARD OF 'tidewaylaw02.TideLeast'. -/
def tideLeastCard : Claim7 := { stood := { row := tideLeastRow, standIns := [], harness := (true, "9fb4918ac9ed9554070fc275559d571b4d8db6d5d3cd07a716505db01760a510"), looks := true }, kinds := [], alts := [], laidByText := true, laidKinds := [.data, .data, .data, .data, .data], laidTests := true, laidLooks := .later }
def TideLeastCardSaid : Prop := Claim7.holds Tryz.pinned (.plain (OpenSpec.ofChange tideLeastSpec)) tideLeastCard

/-- THE TIED CARD OF 'tidewaylaw02.TideTurns'. -/
def tideTurnsCard : Claim7 := { stood := { row := tideTurnsRow, standIns := [], harness := (true, "9fb4918ac9ed9554070fc275559d571b4d8db6d5d3cd07a716505db01760a510"), looks := true }, kinds := [], alts := [], laidByText := true, laidKinds := [.data, .data, .data, .data, .data], laidTests := true, laidLooks := .later }
def TideTurnsCardSaid : Prop := Claim7.holds Tryz.pinned (.plain (OpenSpec.ofChange tideTurnsSpec)) tideTurnsCard

/-- THE TIED CARD OF 'tidewaylaw02.TideCharacters'. -/
def tideCharactersCard : Claim7 := { stood := { row := tideCharactersRow, standIns := [], harness := (true, "9fb4918ac9ed9554070fc275559d571b4d8db6d5d3cd07a716505db01760a510"), looks := true }, kinds := [], alts := [], laidByText := true, laidKinds := [.data, .data, .data, .data, .data], laidTests := true, laidLooks := .later }
def TideCharactersCardSaid : Prop := Claim7.holds Tryz.pinned (.plain (OpenSpec.ofChange tideCharactersSpec)) tideCharactersCard

/-- THE TIED CARD OF 'tidewaylaw02.TideKernels'. -/
def tideKernelsCard : Claim7 := { stood := { row := tideKernelsRow, standIns := [], harness := (true, "9fb4918ac9ed9554070fc275559d571b4d8db6d5d3cd07a716505db01760a510"), looks := true }, kinds := [], alts := [], laidByText := true, laidKinds := [.data, .data, .data, .data, .data], laidTests := true, laidLooks := .later }
def TideKernelsCardSaid : Prop := Claim7.holds Tryz.pinned (.plain (OpenSpec.ofChange tideKernelsSpec)) tideKernelsCard

/-- THE TIED CARD OF 'tidewaylaw02.TideEither'. -/
def tideEitherCard : Claim7 := { stood := { row := tideEitherRow, standIns := [], harness := (true, "9fb4918ac9ed9554070fc275559d571b4d8db6d5d3cd07a716505db01760a510"), looks := true }, kinds := [], alts := [], laidByText := true, laidKinds := [.data, .data, .data, .data, .data], laidTests := true, laidLooks := .later }
def TideEitherCardSaid : Prop := Claim7.holds Tryz.pinned (.plain (OpenSpec.ofChange tideEitherSpec)) tideEitherCard

/-- THE TIED CARD OF 'tidewaylaw02.TideAdds'. -/
def tideAddsCard : Claim7 := { stood := { row := tideAddsRow, standIns := [], harness := (true, "9fb4918ac9ed9554070fc275559d571b4d8db6d5d3cd07a716505db01760a510"), looks := true }, kinds := [], alts := [], laidByText := true, laidKinds := [.data, .data, .data, .data, .data], laidTests := true, laidLooks := .later }
def TideAddsCardSaid : Prop := Claim7.holds Tryz.pinned (.plain (OpenSpec.ofChange tideAddsSpec)) tideAddsCard

/-- THE TIED CARD OF 'tidewaylaw02.TideTexts'. -/
def tideTextsCard : Claim7 := { stood := { row := tideTextsRow, standIns := [], harness := (true, "9fb4918ac9ed9554070fc275559d571b4d8db6d5d3cd07a716505db01760a510"), looks := true }, kinds := [], alts := [], laidByText := true, laidKinds := [.data, .data, .data, .data, .sentinel, .sentinel, .data, .data, .pinned], laidTests := true, laidLooks := .later }
def TideTextsCardSaid : Prop := Claim7.holds Tryz.pinned (.plain (OpenSpec.ofChange tideTextsSpec)) tideTextsCard

/-- THE TIED CARD OF 'tidewaylaw02.TideBack'. -/
def tideBackCard : Claim7 := { stood := { row := tideBackRow, standIns := [], harness := (true, "9fb4918ac9ed9554070fc275559d571b4d8db6d5d3cd07a716505db01760a510"), looks := true }, kinds := [], alts := [], laidByText := true, laidKinds := [.data, .data, .data, .data, .sentinel, .sentinel, .data, .data, .pinned], laidTests := true, laidLooks := .later }
def TideBackCardSaid : Prop := Claim7.holds Tryz.pinned (.plain (OpenSpec.ofChange tideBackSpec)) tideBackCard

/-- THE SECOND FORM's CARD OF 'tidewaylaw02.TidePredictions'. -/
def tidePredictionsUptoCard : Claim7 := { stood := { row := tidePredictionsUptoRow, standIns := [], harness := (true, "9fb4918ac9ed9554070fc275559d571b4d8db6d5d3cd07a716505db01760a510"), looks := true }, kinds := [], alts := [], laidByText := true, laidKinds := [.data, .data, .data, .data, .data], laidTests := true, laidLooks := .later }
def TidePredictionsUptoCardSaid : Prop := Claim7.holds Tryz.pinned (.plain (OpenSpec.upto tidePredictionsSpec)) tidePredictionsUptoCard

/-- THE SECOND FORM's CARD OF 'tidewaylaw02.TideFound'. -/
def tideFoundUptoCard : Claim7 := { stood := { row := tideFoundUptoRow, standIns := [], harness := (true, "9fb4918ac9ed9554070fc275559d571b4d8db6d5d3cd07a716505db01760a510"), looks := true }, kinds := [], alts := [], laidByText := true, laidKinds := [.data, .data, .data, .data, .data], laidTests := true, laidLooks := .later }
def TideFoundUptoCardSaid : Prop := Claim7.holds Tryz.pinned (.plain (OpenSpec.upto tideFoundSpec)) tideFoundUptoCard

/-- THE SECOND FORM's CARD OF 'tidewaylaw02.TideSums'. -/
def tideSumsUptoCard : Claim7 := { stood := { row := tideSumsUptoRow, standIns := [], harness := (true, "9fb4918ac9ed9554070fc275559d571b4d8db6d5d3cd07a716505db01760a510"), looks := true }, kinds := [], alts := [], laidByText := true, laidKinds := [.data, .data, .data, .data, .data], laidTests := true, laidLooks := .later }
def TideSumsUptoCardSaid : Prop := Claim7.holds Tryz.pinned (.plain (OpenSpec.upto tideSumsSpec)) tideSumsUptoCard

/-- THE SECOND FORM's CARD OF 'tidewaylaw02.TideMatrices'. -/
def tideMatricesUptoCard : Claim7 := { stood := { row := tideMatricesUptoRow, standIns := [], harness := (true, "9fb4918ac9ed9554070fc275559d571b4d8db6d5d3cd07a716505db01760a510"), looks := true }, kinds := [], alts := [], laidByText := true, laidKinds := [.data, .data, .data, .data, .data], laidTests := true, laidLooks := .later }
def TideMatricesUptoCardSaid : Prop := Claim7.holds Tryz.pinned (.plain (OpenSpec.upto tideMatricesSpec)) tideMatricesUptoCard

/-- THE SECOND FORM's CARD OF 'tidewaylaw02.TideAnalyses'. -/
def tideAnalysesUptoCard : Claim7 := { stood := { row := tideAnalysesUptoRow, standIns := [], harness := (true, "9fb4918ac9ed9554070fc275559d571b4d8db6d5d3cd07a716505db01760a510"), looks := true }, kinds := [], alts := [], laidByText := true, laidKinds := [.data, .data, .data, .data, .data], laidTests := true, laidLooks := .later }
def TideAnalysesUptoCardSaid : Prop := Claim7.holds Tryz.pinned (.plain (OpenSpec.upto tideAnalysesSpec)) tideAnalysesUptoCard

/-- THE SECOND FORM's CARD OF 'tidewaylaw02.TideResiduals'. -/
def tideResidualsUptoCard : Claim7 := { stood := { row := tideResidualsUptoRow, standIns := [], harness := (true, "9fb4918ac9ed9554070fc275559d571b4d8db6d5d3cd07a716505db01760a510"), looks := true }, kinds := [], alts := [], laidByText := true, laidKinds := [.data, .data, .data, .data, .data], laidTests := true, laidLooks := .later }
def TideResidualsUptoCardSaid : Prop := Claim7.holds Tryz.pinned (.plain (OpenSpec.upto tideResidualsSpec)) tideResidualsUptoCard

/-- THE SECOND FORM's CARD OF 'tidewaylaw02.TideWaters'. -/
def tideWatersUptoCard : Claim7 := { stood := { row := tideWatersUptoRow, standIns := [], harness := (true, "9fb4918ac9ed9554070fc275559d571b4d8db6d5d3cd07a716505db01760a510"), looks := true }, kinds := [], alts := [], laidByText := true, laidKinds := [.data, .data, .data, .data, .data], laidTests := true, laidLooks := .later }
def TideWatersUptoCardSaid : Prop := Claim7.holds Tryz.pinned (.plain (OpenSpec.upto tideWatersSpec)) tideWatersUptoCard

/-- THE SECOND FORM's CARD OF 'tidewaylaw02.TideLeast'. -/
def tideLeastUptoCard : Claim7 := { stood := { row := tideLeastUptoRow, standIns := [], harness := (true, "9fb4918ac9ed9554070fc275559d571b4d8db6d5d3cd07a716505db01760a510"), looks := true }, kinds := [], alts := [], laidByText := true, laidKinds := [.data, .data, .data, .data, .data], laidTests := true, laidLooks := .later }
def TideLeastUptoCardSaid : Prop := Claim7.holds Tryz.pinned (.plain (OpenSpec.upto tideLeastSpec)) tideLeastUptoCard

/-- THE SECOND FORM's CARD OF 'tidewaylaw02.TideTurns'. -/
def tideTurnsUptoCard : Claim7 := { stood := { row := tideTurnsUptoRow, standIns := [], harness := (true, "9fb4918ac9ed9554070fc275559d571b4d8db6d5d3cd07a716505db01760a510"), looks := true }, kinds := [], alts := [], laidByText := true, laidKinds := [.data, .data, .data, .data, .data], laidTests := true, laidLooks := .later }
def TideTurnsUptoCardSaid : Prop := Claim7.holds Tryz.pinned (.plain (OpenSpec.upto tideTurnsSpec)) tideTurnsUptoCard

/-- THE SECOND FORM's CARD OF 'tidewaylaw02.TideCharacters'. -/
def tideCharactersUptoCard : Claim7 := { stood := { row := tideCharactersUptoRow, standIns := [], harness := (true, "9fb4918ac9ed9554070fc275559d571b4d8db6d5d3cd07a716505db01760a510"), looks := true }, kinds := [], alts := [], laidByText := true, laidKinds := [.data, .data, .data, .data, .data], laidTests := true, laidLooks := .later }
def TideCharactersUptoCardSaid : Prop := Claim7.holds Tryz.pinned (.plain (OpenSpec.upto tideCharactersSpec)) tideCharactersUptoCard

/-- THE SECOND FORM's CARD OF 'tidewaylaw02.TideKernels'. -/
def tideKernelsUptoCard : Claim7 := { stood := { row := tideKernelsUptoRow, standIns := [], harness := (true, "9fb4918ac9ed9554070fc275559d571b4d8db6d5d3cd07a716505db01760a510"), looks := true }, kinds := [], alts := [], laidByText := true, laidKinds := [.data, .data, .data, .data, .data], laidTests := true, laidLooks := .later }
def TideKernelsUptoCardSaid : Prop := Claim7.holds Tryz.pinned (.plain (OpenSpec.upto tideKernelsSpec)) tideKernelsUptoCard

/-- THE SECOND FORM's CARD OF 'tidewaylaw02.TideEither'. -/
def tideEitherUptoCard : Claim7 := { stood := { row := tideEitherUptoRow, standIns := [], harness := (true, "9fb4918ac9ed9554070fc275559d571b4d8db6d5d3cd07a716505db01760a510"), looks := true }, kinds := [], alts := [], laidByText := true, laidKinds := [.data, .data, .data, .data, .data], laidTests := true, laidLooks := .later }
def TideEitherUptoCardSaid : Prop := Claim7.holds Tryz.pinned (.plain (OpenSpec.upto tideEitherSpec)) tideEitherUptoCard

/-- THE SECOND FORM's CARD OF 'tidewaylaw02.TideAdds'. -/
def tideAddsUptoCard : Claim7 := { stood := { row := tideAddsUptoRow, standIns := [], harness := (true, "9fb4918ac9ed9554070fc275559d571b4d8db6d5d3cd07a716505db01760a510"), looks := true }, kinds := [], alts := [], laidByText := true, laidKinds := [.data, .data, .data, .data, .data], laidTests := true, laidLooks := .later }
def TideAddsUptoCardSaid : Prop := Claim7.holds Tryz.pinned (.plain (OpenSpec.upto tideAddsSpec)) tideAddsUptoCard

/-- THE SECOND FORM's CARD OF 'tidewaylaw02.TideTexts'. -/
def tideTextsUptoCard : Claim7 := { stood := { row := tideTextsUptoRow, standIns := [], harness := (true, "9fb4918ac9ed9554070fc275559d571b4d8db6d5d3cd07a716505db01760a510"), looks := true }, kinds := [], alts := [], laidByText := true, laidKinds := [.data, .data, .data, .data, .sentinel, .sentinel, .data, .data, .pinned], laidTests := true, laidLooks := .later }
def TideTextsUptoCardSaid : Prop := Claim7.holds Tryz.pinned (.plain (OpenSpec.upto tideTextsSpec)) tideTextsUptoCard

/-- THE SECOND FORM's CARD OF 'tidewaylaw02.TideBack'. -/
def tideBackUptoCard : Claim7 := { stood := { row := tideBackUptoRow, standIns := [], harness := (true, "9fb4918ac9ed9554070fc275559d571b4d8db6d5d3cd07a716505db01760a510"), looks := true }, kinds := [], alts := [], laidByText := true, laidKinds := [.data, .data, .data, .data, .sentinel, .sentinel, .data, .data, .pinned], laidTests := true, laidLooks := .later }
def TideBackUptoCardSaid : Prop := Claim7.holds Tryz.pinned (.plain (OpenSpec.upto tideBackSpec)) tideBackUptoCard
end Rows
end Go.Proofs.YtpcnkpbpcebokaaGreatDoor
