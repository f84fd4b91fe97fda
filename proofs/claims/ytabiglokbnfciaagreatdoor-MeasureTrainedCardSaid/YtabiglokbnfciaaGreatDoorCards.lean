/-
  DERIVED. GIVEN WITH THE SEED: THE CARDS: each row of YtabiglokbnfciaaGreatDoorRows.lean that lists a variable, with what it lists TIED to the program's text (the seventh form; the later family's looks); each row that meets fmt, with fmt's text TOLD by the authors' own Lean function (tested against real Go, not proved from fmt's source: count such statements apart). THE CARD IS WHAT COUNTS. Prove the row's statement (the work); the ties are given (YtabiglokbnfciaaGreatDoorTie.lean); close each card by the builder's one call (the guide's Derived/Test/ToyasCard.lean, 'card_holds'). Laid BY PROGRAM, IN A SANDBOX (cutbox-door.mjs). By AI agents, Wed Nov 11 2026. No macro, syntax, notation, axiom, sorry.
-/
import Derived.Test.YtabiglokbnfciaaGreatDoorRows
import GoSem.ClaimSeven
namespace Go.Proofs.YtabiglokbnfciaaGreatDoor
namespace Rows

/-- THE TIED CARD OF 'joinlearnlaw21.MeasureTrained'. -/
def measureTrainedCard : Claim7 := { stood := { row := measureTrainedRow, standIns := [], harness := (true, "4a62b3e18607f76e6747846ae0dbb0a6bcd300d846fb3ad5fc329dba345d5a58"), looks := true }, kinds := [], alts := [], laidByText := true, laidKinds := [.data, .data, .data, .sentinel, .sentinel], laidTests := true, laidLooks := .later }
def MeasureTrainedCardSaid : Prop := Claim7.holds Tryz.pinned (.plain (OpenSpec.ofChange measureTrainedSpec)) measureTrainedCard

/-- THE TIED CARD OF 'joinlearnlaw21.MeasureMoves'. -/
def measureMovesCard : Claim7 := { stood := { row := measureMovesRow, standIns := [], harness := (true, "4a62b3e18607f76e6747846ae0dbb0a6bcd300d846fb3ad5fc329dba345d5a58"), looks := true }, kinds := [], alts := [], laidByText := true, laidKinds := [.data, .data, .data, .sentinel, .sentinel], laidTests := true, laidLooks := .later }
def MeasureMovesCardSaid : Prop := Claim7.holds Tryz.pinned (.plain (OpenSpec.ofChange measureMovesSpec)) measureMovesCard

/-- THE SECOND FORM's CARD OF 'joinlearnlaw21.MeasureTrained'. -/
def measureTrainedUptoCard : Claim7 := { stood := { row := measureTrainedUptoRow, standIns := [], harness := (true, "4a62b3e18607f76e6747846ae0dbb0a6bcd300d846fb3ad5fc329dba345d5a58"), looks := true }, kinds := [], alts := [], laidByText := true, laidKinds := [.data, .data, .data, .sentinel, .sentinel], laidTests := true, laidLooks := .later }
def MeasureTrainedUptoCardSaid : Prop := Claim7.holds Tryz.pinned (.plain (OpenSpec.upto measureTrainedSpec)) measureTrainedUptoCard

/-- THE SECOND FORM's CARD OF 'joinlearnlaw21.MeasureMoves'. -/
def measureMovesUptoCard : Claim7 := { stood := { row := measureMovesUptoRow, standIns := [], harness := (true, "4a62b3e18607f76e6747846ae0dbb0a6bcd300d846fb3ad5fc329dba345d5a58"), looks := true }, kinds := [], alts := [], laidByText := true, laidKinds := [.data, .data, .data, .sentinel, .sentinel], laidTests := true, laidLooks := .later }
def MeasureMovesUptoCardSaid : Prop := Claim7.holds Tryz.pinned (.plain (OpenSpec.upto measureMovesSpec)) measureMovesUptoCard
end Rows
end Go.Proofs.YtabiglokbnfciaaGreatDoor
