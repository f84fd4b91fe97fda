/-
  DERIVED. GIVEN WITH THE SEED: THE CARDS: each row of YtnlfnomchebmcaaGreatDoorRows.lean that lists a variable, with what it lists TIED to the program's text (the seventh form; the later family's looks); each row that meets fmt, with fmt's text TOLD by the authors' own Lean function (tested against real Go, not proved from fmt's source: count such statements apart). THE CARD IS WHAT COUNTS. Prove the row's statement (the work); the ties are given (YtnlfnomchebmcaaGreatDoorTie.lean); close each card by the builder's one call (the guide's Derived/Test/ToyasCard.lean, 'card_holds'). Laid BY PROGRAM, IN A SANDBOX (cutbox-door.mjs). By AI agents, Wed Nov 11 2026. No macro, syntax, notation, axiom, sorry.
-/
import Derived.Test.YtnlfnomchebmcaaGreatDoorRows
import GoSem.ClaimSeven
namespace Go.Proofs.YtnlfnomchebmcaaGreatDoor
namespace Rows

/-- THE TIED CARD OF 'joinlearnlaw21.MeasureMoments'. -/
def measureMomentsCard : Claim7 := { stood := { row := measureMomentsRow, standIns := [], harness := (true, "79d07b039a256dd8b5da01a9893ccab356d127ca34798302030aa36f54dc9286"), looks := true }, kinds := [], alts := [], laidByText := true, laidKinds := [.data, .data, .data, .sentinel, .sentinel], laidTests := true, laidLooks := .later }
def MeasureMomentsCardSaid : Prop := Claim7.holds Tryz.pinned (.plain (OpenSpec.ofChange measureMomentsSpec)) measureMomentsCard

/-- THE TIED CARD OF 'joinlearnlaw21.MeasureDifference'. -/
def measureDifferenceCard : Claim7 := { stood := { row := measureDifferenceRow, standIns := [], harness := (true, "79d07b039a256dd8b5da01a9893ccab356d127ca34798302030aa36f54dc9286"), looks := true }, kinds := [], alts := [], laidByText := true, laidKinds := [.data, .data, .data, .sentinel, .sentinel], laidTests := true, laidLooks := .later }
def MeasureDifferenceCardSaid : Prop := Claim7.holds Tryz.pinned (.plain (OpenSpec.ofChange measureDifferenceSpec)) measureDifferenceCard

/-- THE TIED CARD OF 'joinlearnlaw21.MeasureTextbook'. -/
def measureTextbookCard : Claim7 := { stood := { row := measureTextbookRow, standIns := [], harness := (true, "79d07b039a256dd8b5da01a9893ccab356d127ca34798302030aa36f54dc9286"), looks := true }, kinds := [], alts := [], laidByText := true, laidKinds := [.data, .data, .data, .sentinel, .sentinel], laidTests := true, laidLooks := .later }
def MeasureTextbookCardSaid : Prop := Claim7.holds Tryz.pinned (.plain (OpenSpec.ofChange measureTextbookSpec)) measureTextbookCard

/-- THE SECOND FORM's CARD OF 'joinlearnlaw21.MeasureMoments'. -/
def measureMomentsUptoCard : Claim7 := { stood := { row := measureMomentsUptoRow, standIns := [], harness := (true, "79d07b039a256dd8b5da01a9893ccab356d127ca34798302030aa36f54dc9286"), looks := true }, kinds := [], alts := [], laidByText := true, laidKinds := [.data, .data, .data, .sentinel, .sentinel], laidTests := true, laidLooks := .later }
def MeasureMomentsUptoCardSaid : Prop := Claim7.holds Tryz.pinned (.plain (OpenSpec.upto measureMomentsSpec)) measureMomentsUptoCard

/-- THE SECOND FORM's CARD OF 'joinlearnlaw21.MeasureDifference'. -/
def measureDifferenceUptoCard : Claim7 := { stood := { row := measureDifferenceUptoRow, standIns := [], harness := (true, "79d07b039a256dd8b5da01a9893ccab356d127ca34798302030aa36f54dc9286"), looks := true }, kinds := [], alts := [], laidByText := true, laidKinds := [.data, .data, .data, .sentinel, .sentinel], laidTests := true, laidLooks := .later }
def MeasureDifferenceUptoCardSaid : Prop := Claim7.holds Tryz.pinned (.plain (OpenSpec.upto measureDifferenceSpec)) measureDifferenceUptoCard

/-- THE SECOND FORM's CARD OF 'joinlearnlaw21.MeasureTextbook'. -/
def measureTextbookUptoCard : Claim7 := { stood := { row := measureTextbookUptoRow, standIns := [], harness := (true, "79d07b039a256dd8b5da01a9893ccab356d127ca34798302030aa36f54dc9286"), looks := true }, kinds := [], alts := [], laidByText := true, laidKinds := [.data, .data, .data, .sentinel, .sentinel], laidTests := true, laidLooks := .later }
def MeasureTextbookUptoCardSaid : Prop := Claim7.holds Tryz.pinned (.plain (OpenSpec.upto measureTextbookSpec)) measureTextbookUptoCard
end Rows
end Go.Proofs.YtnlfnomchebmcaaGreatDoor
