/-
  DERIVED. GIVEN WITH THE SEED: THE CARDS: each row of YtkfigfhjbejikaaGreatDoorRows.lean that lists a variable, with what it lists TIED to the program's text (the seventh form; the later family's looks); each row that meets fmt, with fmt's text TOLD by the authors' own Lean function (tested against real Go, not proved from fmt's source: count such statements apart). THE CARD IS WHAT COUNTS. Prove the row's statement (the work); the ties are given (YtkfigfhjbejikaaGreatDoorTie.lean); close each card by the builder's one call (the guide's Derived/Test/ToyasCard.lean, 'card_holds'). Laid BY PROGRAM, IN A SANDBOX (cutbox-door.mjs). By AI agents, Wed Nov 11 2026. No macro, syntax, notation, axiom, sorry.
-/
import Derived.Test.YtkfigfhjbejikaaGreatDoorRows
import GoSem.ClaimSeven
namespace Go.Proofs.YtkfigfhjbejikaaGreatDoor
namespace Rows

/-- THE TIED CARD OF 'tidewaylaw04.BasinUntil'. -/
def basinUntilCard : Claim7 := { stood := { row := basinUntilRow, standIns := [], harness := (true, "1573c1d1047677fdeee3a40edbe16282c18acc6059b28c7bcb04fd6c808a0cc8"), looks := true }, kinds := [], alts := [], laidByText := true, laidKinds := [.data, .data, .data], laidTests := true, laidLooks := .later }
def BasinUntilCardSaid : Prop := Claim7.holds Tryz.pinned (.plain (OpenSpec.ofChange basinUntilSpec)) basinUntilCard

/-- THE TIED CARD OF 'tidewaylaw04.BasinMonotone'. -/
def basinMonotoneCard : Claim7 := { stood := { row := basinMonotoneRow, standIns := [], harness := (true, "1573c1d1047677fdeee3a40edbe16282c18acc6059b28c7bcb04fd6c808a0cc8"), looks := true }, kinds := [], alts := [], laidByText := true, laidKinds := [.data, .data, .data], laidTests := true, laidLooks := .later }
def BasinMonotoneCardSaid : Prop := Claim7.holds Tryz.pinned (.plain (OpenSpec.ofChange basinMonotoneSpec)) basinMonotoneCard

/-- THE TIED CARD OF 'tidewaylaw04.BasinChecks'. -/
def basinChecksCard : Claim7 := { stood := { row := basinChecksRow, standIns := [], harness := (true, "1573c1d1047677fdeee3a40edbe16282c18acc6059b28c7bcb04fd6c808a0cc8"), looks := true }, kinds := [], alts := [], laidByText := true, laidKinds := [.data, .data, .data, .widerDeep], laidTests := true, laidLooks := .later }
def BasinChecksCardSaid : Prop := Claim7.holds Tryz.pinned (.plain (OpenSpec.ofChange basinChecksSpec)) basinChecksCard

/-- THE TIED CARD OF 'tidewaylaw04.BasinSteps'. -/
def basinStepsCard : Claim7 := { stood := { row := basinStepsRow, standIns := [], harness := (true, "1573c1d1047677fdeee3a40edbe16282c18acc6059b28c7bcb04fd6c808a0cc8"), looks := true }, kinds := [], alts := [], laidByText := true, laidKinds := [.data, .data, .data], laidTests := true, laidLooks := .later }
def BasinStepsCardSaid : Prop := Claim7.holds Tryz.pinned (.plain (OpenSpec.ofChange basinStepsSpec)) basinStepsCard

/-- THE TIED CARD OF 'tidewaylaw04.BasinKeeps'. -/
def basinKeepsCard : Claim7 := { stood := { row := basinKeepsRow, standIns := [], harness := (true, "1573c1d1047677fdeee3a40edbe16282c18acc6059b28c7bcb04fd6c808a0cc8"), looks := true }, kinds := [], alts := [], laidByText := true, laidKinds := [.data, .data, .data], laidTests := true, laidLooks := .later }
def BasinKeepsCardSaid : Prop := Claim7.holds Tryz.pinned (.plain (OpenSpec.ofChange basinKeepsSpec)) basinKeepsCard

/-- THE TIED CARD OF 'tidewaylaw04.BasinRuns'. -/
def basinRunsCard : Claim7 := { stood := { row := basinRunsRow, standIns := [], harness := (true, "1573c1d1047677fdeee3a40edbe16282c18acc6059b28c7bcb04fd6c808a0cc8"), looks := true }, kinds := [], alts := [], laidByText := true, laidKinds := [.data, .data, .data], laidTests := true, laidLooks := .later }
def BasinRunsCardSaid : Prop := Claim7.holds Tryz.pinned (.plain (OpenSpec.ofChange basinRunsSpec)) basinRunsCard

/-- THE TIED CARD OF 'tidewaylaw04.BasinPermits'. -/
def basinPermitsCard : Claim7 := { stood := { row := basinPermitsRow, standIns := [], harness := (true, "1573c1d1047677fdeee3a40edbe16282c18acc6059b28c7bcb04fd6c808a0cc8"), looks := true }, kinds := [], alts := [], laidByText := true, laidKinds := [.data, .data, .data], laidTests := true, laidLooks := .later }
def BasinPermitsCardSaid : Prop := Claim7.holds Tryz.pinned (.plain (OpenSpec.ofChange basinPermitsSpec)) basinPermitsCard

/-- THE TIED CARD OF 'tidewaylaw04.BasinEncloses'. -/
def basinEnclosesCard : Claim7 := { stood := { row := basinEnclosesRow, standIns := [], harness := (true, "1573c1d1047677fdeee3a40edbe16282c18acc6059b28c7bcb04fd6c808a0cc8"), looks := true }, kinds := [], alts := [], laidByText := true, laidKinds := [.data, .data, .data], laidTests := true, laidLooks := .later }
def BasinEnclosesCardSaid : Prop := Claim7.holds Tryz.pinned (.plain (OpenSpec.ofChange basinEnclosesSpec)) basinEnclosesCard

/-- THE TIED CARD OF 'tidewaylaw04.BasinWider'. -/
def basinWiderCard : Claim7 := { stood := { row := basinWiderRow, standIns := [], harness := (true, "1573c1d1047677fdeee3a40edbe16282c18acc6059b28c7bcb04fd6c808a0cc8"), looks := true }, kinds := [], alts := [], laidByText := true, laidKinds := [.data, .data, .data], laidTests := true, laidLooks := .later }
def BasinWiderCardSaid : Prop := Claim7.holds Tryz.pinned (.plain (OpenSpec.ofChange basinWiderSpec)) basinWiderCard

/-- THE TIED CARD OF 'tidewaylaw04.BasinHolds'. -/
def basinHoldsCard : Claim7 := { stood := { row := basinHoldsRow, standIns := [], harness := (true, "1573c1d1047677fdeee3a40edbe16282c18acc6059b28c7bcb04fd6c808a0cc8"), looks := true }, kinds := [], alts := [], laidByText := true, laidKinds := [.data, .data, .data], laidTests := true, laidLooks := .later }
def BasinHoldsCardSaid : Prop := Claim7.holds Tryz.pinned (.plain (OpenSpec.ofChange basinHoldsSpec)) basinHoldsCard

/-- THE TIED CARD OF 'tidewaylaw04.BasinTexts'. -/
def basinTextsCard : Claim7 := { stood := { row := basinTextsRow, standIns := [], harness := (true, "1573c1d1047677fdeee3a40edbe16282c18acc6059b28c7bcb04fd6c808a0cc8"), looks := true }, kinds := [], alts := [], laidByText := true, laidKinds := [.data, .data, .data, .data, .sentinel, .sentinel, .pinned], laidTests := true, laidLooks := .later }
def BasinTextsCardSaid : Prop := Claim7.holds Tryz.pinned (.plain (OpenSpec.ofChange basinTextsSpec)) basinTextsCard

/-- THE TIED CARD OF 'tidewaylaw04.BasinReads'. -/
def basinReadsCard : Claim7 := { stood := { row := basinReadsRow, standIns := [], harness := (true, "1573c1d1047677fdeee3a40edbe16282c18acc6059b28c7bcb04fd6c808a0cc8"), looks := true }, kinds := [], alts := [], laidByText := true, laidKinds := [.data, .data, .data, .data, .sentinel, .sentinel, .pinned], laidTests := true, laidLooks := .later }
def BasinReadsCardSaid : Prop := Claim7.holds Tryz.pinned (.plain (OpenSpec.ofChange basinReadsSpec)) basinReadsCard

/-- THE SECOND FORM's CARD OF 'tidewaylaw04.BasinUntil'. -/
def basinUntilUptoCard : Claim7 := { stood := { row := basinUntilUptoRow, standIns := [], harness := (true, "1573c1d1047677fdeee3a40edbe16282c18acc6059b28c7bcb04fd6c808a0cc8"), looks := true }, kinds := [], alts := [], laidByText := true, laidKinds := [.data, .data, .data], laidTests := true, laidLooks := .later }
def BasinUntilUptoCardSaid : Prop := Claim7.holds Tryz.pinned (.plain (OpenSpec.upto basinUntilSpec)) basinUntilUptoCard

/-- THE SECOND FORM's CARD OF 'tidewaylaw04.BasinMonotone'. -/
def basinMonotoneUptoCard : Claim7 := { stood := { row := basinMonotoneUptoRow, standIns := [], harness := (true, "1573c1d1047677fdeee3a40edbe16282c18acc6059b28c7bcb04fd6c808a0cc8"), looks := true }, kinds := [], alts := [], laidByText := true, laidKinds := [.data, .data, .data], laidTests := true, laidLooks := .later }
def BasinMonotoneUptoCardSaid : Prop := Claim7.holds Tryz.pinned (.plain (OpenSpec.upto basinMonotoneSpec)) basinMonotoneUptoCard

/-- THE SECOND FORM's CARD OF 'tidewaylaw04.BasinChecks'. -/
def basinChecksUptoCard : Claim7 := { stood := { row := basinChecksUptoRow, standIns := [], harness := (true, "1573c1d1047677fdeee3a40edbe16282c18acc6059b28c7bcb04fd6c808a0cc8"), looks := true }, kinds := [], alts := [], laidByText := true, laidKinds := [.data, .data, .data, .widerDeep], laidTests := true, laidLooks := .later }
def BasinChecksUptoCardSaid : Prop := Claim7.holds Tryz.pinned (.plain (OpenSpec.upto basinChecksSpec)) basinChecksUptoCard

/-- THE SECOND FORM's CARD OF 'tidewaylaw04.BasinSteps'. -/
def basinStepsUptoCard : Claim7 := { stood := { row := basinStepsUptoRow, standIns := [], harness := (true, "1573c1d1047677fdeee3a40edbe16282c18acc6059b28c7bcb04fd6c808a0cc8"), looks := true }, kinds := [], alts := [], laidByText := true, laidKinds := [.data, .data, .data], laidTests := true, laidLooks := .later }
def BasinStepsUptoCardSaid : Prop := Claim7.holds Tryz.pinned (.plain (OpenSpec.upto basinStepsSpec)) basinStepsUptoCard

/-- THE SECOND FORM's CARD OF 'tidewaylaw04.BasinKeeps'. -/
def basinKeepsUptoCard : Claim7 := { stood := { row := basinKeepsUptoRow, standIns := [], harness := (true, "1573c1d1047677fdeee3a40edbe16282c18acc6059b28c7bcb04fd6c808a0cc8"), looks := true }, kinds := [], alts := [], laidByText := true, laidKinds := [.data, .data, .data], laidTests := true, laidLooks := .later }
def BasinKeepsUptoCardSaid : Prop := Claim7.holds Tryz.pinned (.plain (OpenSpec.upto basinKeepsSpec)) basinKeepsUptoCard

/-- THE SECOND FORM's CARD OF 'tidewaylaw04.BasinRuns'. -/
def basinRunsUptoCard : Claim7 := { stood := { row := basinRunsUptoRow, standIns := [], harness := (true, "1573c1d1047677fdeee3a40edbe16282c18acc6059b28c7bcb04fd6c808a0cc8"), looks := true }, kinds := [], alts := [], laidByText := true, laidKinds := [.data, .data, .data], laidTests := true, laidLooks := .later }
def BasinRunsUptoCardSaid : Prop := Claim7.holds Tryz.pinned (.plain (OpenSpec.upto basinRunsSpec)) basinRunsUptoCard

/-- THE SECOND FORM's CARD OF 'tidewaylaw04.BasinPermits'. -/
def basinPermitsUptoCard : Claim7 := { stood := { row := basinPermitsUptoRow, standIns := [], harness := (true, "1573c1d1047677fdeee3a40edbe16282c18acc6059b28c7bcb04fd6c808a0cc8"), looks := true }, kinds := [], alts := [], laidByText := true, laidKinds := [.data, .data, .data], laidTests := true, laidLooks := .later }
def BasinPermitsUptoCardSaid : Prop := Claim7.holds Tryz.pinned (.plain (OpenSpec.upto basinPermitsSpec)) basinPermitsUptoCard

/-- THE SECOND FORM's CARD OF 'tidewaylaw04.BasinEncloses'. -/
def basinEnclosesUptoCard : Claim7 := { stood := { row := basinEnclosesUptoRow, standIns := [], harness := (true, "1573c1d1047677fdeee3a40edbe16282c18acc6059b28c7bcb04fd6c808a0cc8"), looks := true }, kinds := [], alts := [], laidByText := true, laidKinds := [.data, .data, .data], laidTests := true, laidLooks := .later }
def BasinEnclosesUptoCardSaid : Prop := Claim7.holds Tryz.pinned (.plain (OpenSpec.upto basinEnclosesSpec)) basinEnclosesUptoCard

/-- THE SECOND FORM's CARD OF 'tidewaylaw04.BasinWider'. -/
def basinWiderUptoCard : Claim7 := { stood := { row := basinWiderUptoRow, standIns := [], harness := (true, "1573c1d1047677fdeee3a40edbe16282c18acc6059b28c7bcb04fd6c808a0cc8"), looks := true }, kinds := [], alts := [], laidByText := true, laidKinds := [.data, .data, .data], laidTests := true, laidLooks := .later }
def BasinWiderUptoCardSaid : Prop := Claim7.holds Tryz.pinned (.plain (OpenSpec.upto basinWiderSpec)) basinWiderUptoCard

/-- THE SECOND FORM's CARD OF 'tidewaylaw04.BasinHolds'. -/
def basinHoldsUptoCard : Claim7 := { stood := { row := basinHoldsUptoRow, standIns := [], harness := (true, "1573c1d1047677fdeee3a40edbe16282c18acc6059b28c7bcb04fd6c808a0cc8"), looks := true }, kinds := [], alts := [], laidByText := true, laidKinds := [.data, .data, .data], laidTests := true, laidLooks := .later }
def BasinHoldsUptoCardSaid : Prop := Claim7.holds Tryz.pinned (.plain (OpenSpec.upto basinHoldsSpec)) basinHoldsUptoCard

/-- THE SECOND FORM's CARD OF 'tidewaylaw04.BasinTexts'. -/
def basinTextsUptoCard : Claim7 := { stood := { row := basinTextsUptoRow, standIns := [], harness := (true, "1573c1d1047677fdeee3a40edbe16282c18acc6059b28c7bcb04fd6c808a0cc8"), looks := true }, kinds := [], alts := [], laidByText := true, laidKinds := [.data, .data, .data, .data, .sentinel, .sentinel, .pinned], laidTests := true, laidLooks := .later }
def BasinTextsUptoCardSaid : Prop := Claim7.holds Tryz.pinned (.plain (OpenSpec.upto basinTextsSpec)) basinTextsUptoCard

/-- THE SECOND FORM's CARD OF 'tidewaylaw04.BasinReads'. -/
def basinReadsUptoCard : Claim7 := { stood := { row := basinReadsUptoRow, standIns := [], harness := (true, "1573c1d1047677fdeee3a40edbe16282c18acc6059b28c7bcb04fd6c808a0cc8"), looks := true }, kinds := [], alts := [], laidByText := true, laidKinds := [.data, .data, .data, .data, .sentinel, .sentinel, .pinned], laidTests := true, laidLooks := .later }
def BasinReadsUptoCardSaid : Prop := Claim7.holds Tryz.pinned (.plain (OpenSpec.upto basinReadsSpec)) basinReadsUptoCard
end Rows
end Go.Proofs.YtkfigfhjbejikaaGreatDoor
