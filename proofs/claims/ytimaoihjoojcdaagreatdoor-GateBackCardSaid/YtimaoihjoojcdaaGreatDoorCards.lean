/-
  DERIVED. GIVEN WITH THE SEED: THE CARDS: each row of YtimaoihjoojcdaaGreatDoorRows.lean that lists a variable, with what it lists TIED to the program's text (the seventh form; the later family's looks); each row that meets fmt, with fmt's text TOLD by the authors' own Lean function (tested against real Go, not proved from fmt's source: count such statements apart). THE CARD IS WHAT COUNTS. Prove the row's statement (the work); the ties are given (YtimaoihjoojcdaaGreatDoorTie.lean); close each card by the builder's one call (the guide's Derived/Test/ToyasCard.lean, 'card_holds'). Laid BY PROGRAM, IN A SANDBOX (cutbox-door.mjs). By AI agents, Wed Nov 11 2026. No macro, syntax, notation, axiom, sorry.
-/
import Derived.Test.YtimaoihjoojcdaaGreatDoorRows
import GoSem.ClaimSeven
namespace Go.Proofs.YtimaoihjoojcdaaGreatDoor
namespace Rows

/-- THE TIED CARD OF 'tidewaylaw06.GateTexts'. -/
def gateTextsCard : Claim7 := { stood := { row := gateTextsRow, standIns := [], harness := (true, "04a5dd218ad5e8c931e2f3a553bd3501636a28a4f2cb21e7e72b3dc5493ed746"), looks := false }, kinds := [], alts := [], laidByText := true, laidKinds := [.data, .data, .data, .data, .pinned], laidTests := true, laidLooks := .later }
def GateTextsCardSaid : Prop := Claim7.holds Tryz.pinned (.plain (OpenSpec.ofChange gateTextsSpec)) gateTextsCard

/-- THE TIED CARD OF 'tidewaylaw06.GateBack'. -/
def gateBackCard : Claim7 := { stood := { row := gateBackRow, standIns := [], harness := (true, "04a5dd218ad5e8c931e2f3a553bd3501636a28a4f2cb21e7e72b3dc5493ed746"), looks := false }, kinds := [], alts := [], laidByText := true, laidKinds := [.data, .data, .data, .data, .pinned], laidTests := true, laidLooks := .later }
def GateBackCardSaid : Prop := Claim7.holds Tryz.pinned (.plain (OpenSpec.ofChange gateBackSpec)) gateBackCard

/-- THE SECOND FORM's CARD OF 'tidewaylaw06.GateTexts'. -/
def gateTextsUptoCard : Claim7 := { stood := { row := gateTextsUptoRow, standIns := [], harness := (true, "04a5dd218ad5e8c931e2f3a553bd3501636a28a4f2cb21e7e72b3dc5493ed746"), looks := false }, kinds := [], alts := [], laidByText := true, laidKinds := [.data, .data, .data, .data, .pinned], laidTests := true, laidLooks := .later }
def GateTextsUptoCardSaid : Prop := Claim7.holds Tryz.pinned (.plain (OpenSpec.upto gateTextsSpec)) gateTextsUptoCard

/-- THE SECOND FORM's CARD OF 'tidewaylaw06.GateBack'. -/
def gateBackUptoCard : Claim7 := { stood := { row := gateBackUptoRow, standIns := [], harness := (true, "04a5dd218ad5e8c931e2f3a553bd3501636a28a4f2cb21e7e72b3dc5493ed746"), looks := false }, kinds := [], alts := [], laidByText := true, laidKinds := [.data, .data, .data, .data, .pinned], laidTests := true, laidLooks := .later }
def GateBackUptoCardSaid : Prop := Claim7.holds Tryz.pinned (.plain (OpenSpec.upto gateBackSpec)) gateBackUptoCard
end Rows
end Go.Proofs.YtimaoihjoojcdaaGreatDoor
