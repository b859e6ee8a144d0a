/-
  DERIVED. GIVEN WITH THE SEED: THE CARDS: each row of YtemgjgkbgkeknaaGreatDoorRows.lean that lists a variable, with what it lists TIED to the program's text (the seventh form; the later family's looks); each row that meets fmt, with fmt's text TOLD by the authors' own Lean function (tested against real Go, not proved from fmt's source: count such statements apart). THE CARD IS WHAT COUNTS. Prove the row's statement (the work); the ties are given (YtemgjgkbgkeknaaGreatDoorTie.lean); close each card by the builder's one call (the guide's Derived/Test/ToyasCard.lean, 'card_holds'). Laid BY PROGRAM, IN A SANDBOX (cutbox-door.mjs). By AI agents, Wed Nov 11 2026. No macro, syntax, notation, axiom, sorry.
-/
import Derived.Test.YtemgjgkbgkeknaaGreatDoorRows
import GoSem.ClaimSeven
namespace Go.Proofs.YtemgjgkbgkeknaaGreatDoor
namespace Rows

/-- THE TIED CARD OF 'tidewaylaw10.CentreNights'. -/
def centreNightsCard : Claim7 := { stood := { row := centreNightsRow, standIns := [], harness := (true, "dff214c9163f6c05e0717f865add6ef767c25055a12d34f6adbf980af0759abf"), looks := false }, kinds := [], alts := [], laidByText := true, laidKinds := [.data, .data, .data, .data, .pinned], laidTests := true, laidLooks := .later }
def CentreNightsCardSaid : Prop := Claim7.holds Tryz.pinned (.plain (OpenSpec.ofChange centreNightsSpec)) centreNightsCard

/-- THE TIED CARD OF 'tidewaylaw10.CentreSafe'. -/
def centreSafeCard : Claim7 := { stood := { row := centreSafeRow, standIns := [], harness := (true, "dff214c9163f6c05e0717f865add6ef767c25055a12d34f6adbf980af0759abf"), looks := false }, kinds := [], alts := [], laidByText := true, laidKinds := [.data, .data, .data, .data, .pinned], laidTests := true, laidLooks := .later }
def CentreSafeCardSaid : Prop := Claim7.holds Tryz.pinned (.plain (OpenSpec.ofChange centreSafeSpec)) centreSafeCard

/-- THE TIED CARD OF 'tidewaylaw10.CentreDays'. -/
def centreDaysCard : Claim7 := { stood := { row := centreDaysRow, standIns := [], harness := (true, "dff214c9163f6c05e0717f865add6ef767c25055a12d34f6adbf980af0759abf"), looks := false }, kinds := [], alts := [], laidByText := true, laidKinds := [.data, .data, .data, .data, .pinned], laidTests := true, laidLooks := .later }
def CentreDaysCardSaid : Prop := Claim7.holds Tryz.pinned (.plain (OpenSpec.ofChange centreDaysSpec)) centreDaysCard

/-- THE TIED CARD OF 'tidewaylaw10.CentreLogs'. -/
def centreLogsCard : Claim7 := { stood := { row := centreLogsRow, standIns := [], harness := (true, "dff214c9163f6c05e0717f865add6ef767c25055a12d34f6adbf980af0759abf"), looks := false }, kinds := [], alts := [], laidByText := true, laidKinds := [.data, .data, .data, .data, .pinned], laidTests := true, laidLooks := .later }
def CentreLogsCardSaid : Prop := Claim7.holds Tryz.pinned (.plain (OpenSpec.ofChange centreLogsSpec)) centreLogsCard

/-- THE TIED CARD OF 'tidewaylaw10.CentreSessions'. -/
def centreSessionsCard : Claim7 := { stood := { row := centreSessionsRow, standIns := [], harness := (true, "dff214c9163f6c05e0717f865add6ef767c25055a12d34f6adbf980af0759abf"), looks := false }, kinds := [], alts := [], laidByText := true, laidKinds := [.data, .data, .data, .data, .pinned], laidTests := true, laidLooks := .later }
def CentreSessionsCardSaid : Prop := Claim7.holds Tryz.pinned (.plain (OpenSpec.ofChange centreSessionsSpec)) centreSessionsCard

/-- THE TIED CARD OF 'tidewaylaw10.CentreEvents'. -/
def centreEventsCard : Claim7 := { stood := { row := centreEventsRow, standIns := [], harness := (true, "dff214c9163f6c05e0717f865add6ef767c25055a12d34f6adbf980af0759abf"), looks := false }, kinds := [], alts := [], laidByText := true, laidKinds := [.data, .data, .data, .data, .pinned], laidTests := true, laidLooks := .later }
def CentreEventsCardSaid : Prop := Claim7.holds Tryz.pinned (.plain (OpenSpec.ofChange centreEventsSpec)) centreEventsCard

/-- THE TIED CARD OF 'tidewaylaw10.CentreSteady'. -/
def centreSteadyCard : Claim7 := { stood := { row := centreSteadyRow, standIns := [], harness := (true, "dff214c9163f6c05e0717f865add6ef767c25055a12d34f6adbf980af0759abf"), looks := false }, kinds := [], alts := [], laidByText := true, laidKinds := [.data, .data, .data, .data, .pinned], laidTests := true, laidLooks := .later }
def CentreSteadyCardSaid : Prop := Claim7.holds Tryz.pinned (.plain (OpenSpec.ofChange centreSteadySpec)) centreSteadyCard

/-- THE TIED CARD OF 'tidewaylaw10.CentrePast'. -/
def centrePastCard : Claim7 := { stood := { row := centrePastRow, standIns := [], harness := (true, "dff214c9163f6c05e0717f865add6ef767c25055a12d34f6adbf980af0759abf"), looks := false }, kinds := [], alts := [], laidByText := true, laidKinds := [.data, .data, .data, .data, .pinned], laidTests := true, laidLooks := .later }
def CentrePastCardSaid : Prop := Claim7.holds Tryz.pinned (.plain (OpenSpec.ofChange centrePastSpec)) centrePastCard

/-- THE TIED CARD OF 'tidewaylaw10.CentreTorn'. -/
def centreTornCard : Claim7 := { stood := { row := centreTornRow, standIns := [], harness := (true, "dff214c9163f6c05e0717f865add6ef767c25055a12d34f6adbf980af0759abf"), looks := false }, kinds := [], alts := [], laidByText := true, laidKinds := [.data, .data, .data, .data, .pinned], laidTests := true, laidLooks := .later }
def CentreTornCardSaid : Prop := Claim7.holds Tryz.pinned (.plain (OpenSpec.ofChange centreTornSpec)) centreTornCard

/-- THE TIED CARD OF 'tidewaylaw10.CentreTurns'. -/
def centreTurnsCard : Claim7 := { stood := { row := centreTurnsRow, standIns := [], harness := (true, "dff214c9163f6c05e0717f865add6ef767c25055a12d34f6adbf980af0759abf"), looks := false }, kinds := [], alts := [], laidByText := true, laidKinds := [.data, .data, .data, .data, .pinned], laidTests := true, laidLooks := .later }
def CentreTurnsCardSaid : Prop := Claim7.holds Tryz.pinned (.plain (OpenSpec.ofChange centreTurnsSpec)) centreTurnsCard

/-- THE TIED CARD OF 'tidewaylaw10.CentreAsked'. -/
def centreAskedCard : Claim7 := { stood := { row := centreAskedRow, standIns := [], harness := (true, "dff214c9163f6c05e0717f865add6ef767c25055a12d34f6adbf980af0759abf"), looks := false }, kinds := [], alts := [], laidByText := true, laidKinds := [.data, .data, .data, .data, .pinned], laidTests := true, laidLooks := .later }
def CentreAskedCardSaid : Prop := Claim7.holds Tryz.pinned (.plain (OpenSpec.ofChange centreAskedSpec)) centreAskedCard

/-- THE SECOND FORM's CARD OF 'tidewaylaw10.CentreNights'. -/
def centreNightsUptoCard : Claim7 := { stood := { row := centreNightsUptoRow, standIns := [], harness := (true, "dff214c9163f6c05e0717f865add6ef767c25055a12d34f6adbf980af0759abf"), looks := false }, kinds := [], alts := [], laidByText := true, laidKinds := [.data, .data, .data, .data, .pinned], laidTests := true, laidLooks := .later }
def CentreNightsUptoCardSaid : Prop := Claim7.holds Tryz.pinned (.plain (OpenSpec.upto centreNightsSpec)) centreNightsUptoCard

/-- THE SECOND FORM's CARD OF 'tidewaylaw10.CentreSafe'. -/
def centreSafeUptoCard : Claim7 := { stood := { row := centreSafeUptoRow, standIns := [], harness := (true, "dff214c9163f6c05e0717f865add6ef767c25055a12d34f6adbf980af0759abf"), looks := false }, kinds := [], alts := [], laidByText := true, laidKinds := [.data, .data, .data, .data, .pinned], laidTests := true, laidLooks := .later }
def CentreSafeUptoCardSaid : Prop := Claim7.holds Tryz.pinned (.plain (OpenSpec.upto centreSafeSpec)) centreSafeUptoCard

/-- THE SECOND FORM's CARD OF 'tidewaylaw10.CentreDays'. -/
def centreDaysUptoCard : Claim7 := { stood := { row := centreDaysUptoRow, standIns := [], harness := (true, "dff214c9163f6c05e0717f865add6ef767c25055a12d34f6adbf980af0759abf"), looks := false }, kinds := [], alts := [], laidByText := true, laidKinds := [.data, .data, .data, .data, .pinned], laidTests := true, laidLooks := .later }
def CentreDaysUptoCardSaid : Prop := Claim7.holds Tryz.pinned (.plain (OpenSpec.upto centreDaysSpec)) centreDaysUptoCard

/-- THE SECOND FORM's CARD OF 'tidewaylaw10.CentreLogs'. -/
def centreLogsUptoCard : Claim7 := { stood := { row := centreLogsUptoRow, standIns := [], harness := (true, "dff214c9163f6c05e0717f865add6ef767c25055a12d34f6adbf980af0759abf"), looks := false }, kinds := [], alts := [], laidByText := true, laidKinds := [.data, .data, .data, .data, .pinned], laidTests := true, laidLooks := .later }
def CentreLogsUptoCardSaid : Prop := Claim7.holds Tryz.pinned (.plain (OpenSpec.upto centreLogsSpec)) centreLogsUptoCard

/-- THE SECOND FORM's CARD OF 'tidewaylaw10.CentreSessions'. -/
def centreSessionsUptoCard : Claim7 := { stood := { row := centreSessionsUptoRow, standIns := [], harness := (true, "dff214c9163f6c05e0717f865add6ef767c25055a12d34f6adbf980af0759abf"), looks := false }, kinds := [], alts := [], laidByText := true, laidKinds := [.data, .data, .data, .data, .pinned], laidTests := true, laidLooks := .later }
def CentreSessionsUptoCardSaid : Prop := Claim7.holds Tryz.pinned (.plain (OpenSpec.upto centreSessionsSpec)) centreSessionsUptoCard

/-- THE SECOND FORM's CARD OF 'tidewaylaw10.CentreEvents'. -/
def centreEventsUptoCard : Claim7 := { stood := { row := centreEventsUptoRow, standIns := [], harness := (true, "dff214c9163f6c05e0717f865add6ef767c25055a12d34f6adbf980af0759abf"), looks := false }, kinds := [], alts := [], laidByText := true, laidKinds := [.data, .data, .data, .data, .pinned], laidTests := true, laidLooks := .later }
def CentreEventsUptoCardSaid : Prop := Claim7.holds Tryz.pinned (.plain (OpenSpec.upto centreEventsSpec)) centreEventsUptoCard

/-- THE SECOND FORM's CARD OF 'tidewaylaw10.CentreSteady'. -/
def centreSteadyUptoCard : Claim7 := { stood := { row := centreSteadyUptoRow, standIns := [], harness := (true, "dff214c9163f6c05e0717f865add6ef767c25055a12d34f6adbf980af0759abf"), looks := false }, kinds := [], alts := [], laidByText := true, laidKinds := [.data, .data, .data, .data, .pinned], laidTests := true, laidLooks := .later }
def CentreSteadyUptoCardSaid : Prop := Claim7.holds Tryz.pinned (.plain (OpenSpec.upto centreSteadySpec)) centreSteadyUptoCard

/-- THE SECOND FORM's CARD OF 'tidewaylaw10.CentrePast'. -/
def centrePastUptoCard : Claim7 := { stood := { row := centrePastUptoRow, standIns := [], harness := (true, "dff214c9163f6c05e0717f865add6ef767c25055a12d34f6adbf980af0759abf"), looks := false }, kinds := [], alts := [], laidByText := true, laidKinds := [.data, .data, .data, .data, .pinned], laidTests := true, laidLooks := .later }
def CentrePastUptoCardSaid : Prop := Claim7.holds Tryz.pinned (.plain (OpenSpec.upto centrePastSpec)) centrePastUptoCard

/-- THE SECOND FORM's CARD OF 'tidewaylaw10.CentreTorn'. -/
def centreTornUptoCard : Claim7 := { stood := { row := centreTornUptoRow, standIns := [], harness := (true, "dff214c9163f6c05e0717f865add6ef767c25055a12d34f6adbf980af0759abf"), looks := false }, kinds := [], alts := [], laidByText := true, laidKinds := [.data, .data, .data, .data, .pinned], laidTests := true, laidLooks := .later }
def CentreTornUptoCardSaid : Prop := Claim7.holds Tryz.pinned (.plain (OpenSpec.upto centreTornSpec)) centreTornUptoCard

/-- THE SECOND FORM's CARD OF 'tidewaylaw10.CentreTurns'. -/
def centreTurnsUptoCard : Claim7 := { stood := { row := centreTurnsUptoRow, standIns := [], harness := (true, "dff214c9163f6c05e0717f865add6ef767c25055a12d34f6adbf980af0759abf"), looks := false }, kinds := [], alts := [], laidByText := true, laidKinds := [.data, .data, .data, .data, .pinned], laidTests := true, laidLooks := .later }
def CentreTurnsUptoCardSaid : Prop := Claim7.holds Tryz.pinned (.plain (OpenSpec.upto centreTurnsSpec)) centreTurnsUptoCard

/-- THE SECOND FORM's CARD OF 'tidewaylaw10.CentreAsked'. -/
def centreAskedUptoCard : Claim7 := { stood := { row := centreAskedUptoRow, standIns := [], harness := (true, "dff214c9163f6c05e0717f865add6ef767c25055a12d34f6adbf980af0759abf"), looks := false }, kinds := [], alts := [], laidByText := true, laidKinds := [.data, .data, .data, .data, .pinned], laidTests := true, laidLooks := .later }
def CentreAskedUptoCardSaid : Prop := Claim7.holds Tryz.pinned (.plain (OpenSpec.upto centreAskedSpec)) centreAskedUptoCard
end Rows
end Go.Proofs.YtemgjgkbgkeknaaGreatDoor
