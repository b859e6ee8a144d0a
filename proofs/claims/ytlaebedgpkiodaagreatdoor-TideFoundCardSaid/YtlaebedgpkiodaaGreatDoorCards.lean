/-
  DERIVED. GIVEN WITH THE SEED: THE CARDS: each row of YtlaebedgpkiodaaGreatDoorRows.lean that lists a variable, with what it lists TIED to the program's text (the seventh form; the later family's looks); each row that meets fmt, with fmt's text TOLD by the authors' own Lean function (tested against real Go, not proved from fmt's source: count such statements apart). THE CARD IS WHAT COUNTS. Prove the row's statement (the work); the ties are given (YtlaebedgpkiodaaGreatDoorTie.lean); close each card by the builder's one call (the guide's Derived/Test/ToyasCard.lean, 'card_holds'). Laid BY PROGRAM, IN A SANDBOX (cutbox-door.mjs). By AI agents, Wed Nov 11 2026. No macro, syntax, notation, axiom, sorry.
-/
import Derived.Test.YtlaebedgpkiodaaGreatDoorRows
import GoSem.ClaimSeven
namespace Go.Proofs.YtlaebedgpkiodaaGreatDoor
namespace Rows

/-- THE TIED CARD OF 'tidewaylaw02.TideFound'. -/
def tideFoundCard : Claim7 := { stood := { row := tideFoundRow, standIns := [], harness := (true, "14d035ed2a22feea3eb749ee8f1feb293c8faa70b674104b9e23238b29db1d8d"), looks := true }, kinds := [], alts := [], laidByText := true, laidKinds := [.data, .data, .data, .data, .data], laidTests := true, laidLooks := .later }
def TideFoundCardSaid : Prop := Claim7.holds Tryz.pinned (.plain (OpenSpec.ofChange tideFoundSpec)) tideFoundCard

/-- THE TIED CARD OF 'tidewaylaw02.TideTexts'. -/
def tideTextsCard : Claim7 := { stood := { row := tideTextsRow, standIns := [], harness := (true, "14d035ed2a22feea3eb749ee8f1feb293c8faa70b674104b9e23238b29db1d8d"), looks := true }, kinds := [], alts := [], laidByText := true, laidKinds := [.data, .data, .data, .data, .sentinel, .sentinel, .data, .data, .pinned], laidTests := true, laidLooks := .later }
def TideTextsCardSaid : Prop := Claim7.holds Tryz.pinned (.plain (OpenSpec.ofChange tideTextsSpec)) tideTextsCard

/-- THE TIED CARD OF 'tidewaylaw02.TideBack'. -/
def tideBackCard : Claim7 := { stood := { row := tideBackRow, standIns := [], harness := (true, "14d035ed2a22feea3eb749ee8f1feb293c8faa70b674104b9e23238b29db1d8d"), looks := true }, kinds := [], alts := [], laidByText := true, laidKinds := [.data, .data, .data, .data, .sentinel, .sentinel, .data, .data, .pinned], laidTests := true, laidLooks := .later }
def TideBackCardSaid : Prop := Claim7.holds Tryz.pinned (.plain (OpenSpec.ofChange tideBackSpec)) tideBackCard

/-- THE SECOND FORM's CARD OF 'tidewaylaw02.TideFound'. -/
def tideFoundUptoCard : Claim7 := { stood := { row := tideFoundUptoRow, standIns := [], harness := (true, "14d035ed2a22feea3eb749ee8f1feb293c8faa70b674104b9e23238b29db1d8d"), looks := true }, kinds := [], alts := [], laidByText := true, laidKinds := [.data, .data, .data, .data, .data], laidTests := true, laidLooks := .later }
def TideFoundUptoCardSaid : Prop := Claim7.holds Tryz.pinned (.plain (OpenSpec.upto tideFoundSpec)) tideFoundUptoCard

/-- THE SECOND FORM's CARD OF 'tidewaylaw02.TideTexts'. -/
def tideTextsUptoCard : Claim7 := { stood := { row := tideTextsUptoRow, standIns := [], harness := (true, "14d035ed2a22feea3eb749ee8f1feb293c8faa70b674104b9e23238b29db1d8d"), looks := true }, kinds := [], alts := [], laidByText := true, laidKinds := [.data, .data, .data, .data, .sentinel, .sentinel, .data, .data, .pinned], laidTests := true, laidLooks := .later }
def TideTextsUptoCardSaid : Prop := Claim7.holds Tryz.pinned (.plain (OpenSpec.upto tideTextsSpec)) tideTextsUptoCard

/-- THE SECOND FORM's CARD OF 'tidewaylaw02.TideBack'. -/
def tideBackUptoCard : Claim7 := { stood := { row := tideBackUptoRow, standIns := [], harness := (true, "14d035ed2a22feea3eb749ee8f1feb293c8faa70b674104b9e23238b29db1d8d"), looks := true }, kinds := [], alts := [], laidByText := true, laidKinds := [.data, .data, .data, .data, .sentinel, .sentinel, .data, .data, .pinned], laidTests := true, laidLooks := .later }
def TideBackUptoCardSaid : Prop := Claim7.holds Tryz.pinned (.plain (OpenSpec.upto tideBackSpec)) tideBackUptoCard
end Rows
end Go.Proofs.YtlaebedgpkiodaaGreatDoor
