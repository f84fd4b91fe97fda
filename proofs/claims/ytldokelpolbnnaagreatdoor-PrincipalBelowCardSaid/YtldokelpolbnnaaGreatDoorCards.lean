/-
  DERIVED. GIVEN WITH THE SEED: THE CARDS: each row of YtldokelpolbnnaaGreatDoorRows.lean that lists a variable, with what it lists TIED to the program's text (the seventh form; the later family's looks); each row that meets fmt, with fmt's text TOLD by the authors' own Lean function (tested against real Go, not proved from fmt's source: count such statements apart). THE CARD IS WHAT COUNTS. Prove the row's statement (the work); the ties are given (YtldokelpolbnnaaGreatDoorTie.lean); close each card by the builder's one call (the guide's Derived/Test/ToyasCard.lean, 'card_holds'). Laid BY PROGRAM, IN A SANDBOX (cutbox-door.mjs). By AI agents, Wed Nov 11 2026. No macro, syntax, notation, axiom, sorry.
-/
import Derived.Test.YtldokelpolbnnaaGreatDoorRows
import GoSem.ClaimSeven
namespace Go.Proofs.YtldokelpolbnnaaGreatDoor
namespace Rows

/-- THE TIED CARD OF 'joinlearnlaw20.PrincipalMoves'. -/
def principalMovesCard : Claim7 := { stood := { row := principalMovesRow, standIns := [], harness := (true, "65e35c61a9b2bf871fcbccd69641bf169a3ad0bed58434868ab96c4f12e0ea14"), looks := true }, kinds := [], alts := [], laidByText := true, laidKinds := [.data, .data, .data, .sentinel, .sentinel], laidTests := true, laidLooks := .later }
def PrincipalMovesCardSaid : Prop := Claim7.holds Tryz.pinned (.plain (OpenSpec.ofChange principalMovesSpec)) principalMovesCard

/-- THE TIED CARD OF 'joinlearnlaw20.PrincipalSpectrum'. -/
def principalSpectrumCard : Claim7 := { stood := { row := principalSpectrumRow, standIns := [], harness := (true, "65e35c61a9b2bf871fcbccd69641bf169a3ad0bed58434868ab96c4f12e0ea14"), looks := true }, kinds := [], alts := [], laidByText := true, laidKinds := [.data, .data, .data, .sentinel, .sentinel], laidTests := true, laidLooks := .later }
def PrincipalSpectrumCardSaid : Prop := Claim7.holds Tryz.pinned (.plain (OpenSpec.ofChange principalSpectrumSpec)) principalSpectrumCard

/-- THE TIED CARD OF 'joinlearnlaw20.PrincipalBelow'. -/
def principalBelowCard : Claim7 := { stood := { row := principalBelowRow, standIns := [], harness := (true, "65e35c61a9b2bf871fcbccd69641bf169a3ad0bed58434868ab96c4f12e0ea14"), looks := true }, kinds := [], alts := [], laidByText := true, laidKinds := [.data, .data, .data, .sentinel, .sentinel], laidTests := true, laidLooks := .later }
def PrincipalBelowCardSaid : Prop := Claim7.holds Tryz.pinned (.plain (OpenSpec.ofChange principalBelowSpec)) principalBelowCard

/-- THE TIED CARD OF 'joinlearnlaw20.PrincipalFiner'. -/
def principalFinerCard : Claim7 := { stood := { row := principalFinerRow, standIns := [], harness := (true, "65e35c61a9b2bf871fcbccd69641bf169a3ad0bed58434868ab96c4f12e0ea14"), looks := true }, kinds := [], alts := [], laidByText := true, laidKinds := [.data, .data, .data, .sentinel, .sentinel], laidTests := true, laidLooks := .later }
def PrincipalFinerCardSaid : Prop := Claim7.holds Tryz.pinned (.plain (OpenSpec.ofChange principalFinerSpec)) principalFinerCard

/-- THE TIED CARD OF 'joinlearnlaw20.PrincipalProducts'. -/
def principalProductsCard : Claim7 := { stood := { row := principalProductsRow, standIns := [], harness := (true, "65e35c61a9b2bf871fcbccd69641bf169a3ad0bed58434868ab96c4f12e0ea14"), looks := true }, kinds := [], alts := [], laidByText := true, laidKinds := [.data, .data, .data, .sentinel, .sentinel], laidTests := true, laidLooks := .later }
def PrincipalProductsCardSaid : Prop := Claim7.holds Tryz.pinned (.plain (OpenSpec.ofChange principalProductsSpec)) principalProductsCard

/-- THE SECOND FORM's CARD OF 'joinlearnlaw20.PrincipalMoves'. -/
def principalMovesUptoCard : Claim7 := { stood := { row := principalMovesUptoRow, standIns := [], harness := (true, "65e35c61a9b2bf871fcbccd69641bf169a3ad0bed58434868ab96c4f12e0ea14"), looks := true }, kinds := [], alts := [], laidByText := true, laidKinds := [.data, .data, .data, .sentinel, .sentinel], laidTests := true, laidLooks := .later }
def PrincipalMovesUptoCardSaid : Prop := Claim7.holds Tryz.pinned (.plain (OpenSpec.upto principalMovesSpec)) principalMovesUptoCard

/-- THE SECOND FORM's CARD OF 'joinlearnlaw20.PrincipalSpectrum'. -/
def principalSpectrumUptoCard : Claim7 := { stood := { row := principalSpectrumUptoRow, standIns := [], harness := (true, "65e35c61a9b2bf871fcbccd69641bf169a3ad0bed58434868ab96c4f12e0ea14"), looks := true }, kinds := [], alts := [], laidByText := true, laidKinds := [.data, .data, .data, .sentinel, .sentinel], laidTests := true, laidLooks := .later }
def PrincipalSpectrumUptoCardSaid : Prop := Claim7.holds Tryz.pinned (.plain (OpenSpec.upto principalSpectrumSpec)) principalSpectrumUptoCard

/-- THE SECOND FORM's CARD OF 'joinlearnlaw20.PrincipalBelow'. -/
def principalBelowUptoCard : Claim7 := { stood := { row := principalBelowUptoRow, standIns := [], harness := (true, "65e35c61a9b2bf871fcbccd69641bf169a3ad0bed58434868ab96c4f12e0ea14"), looks := true }, kinds := [], alts := [], laidByText := true, laidKinds := [.data, .data, .data, .sentinel, .sentinel], laidTests := true, laidLooks := .later }
def PrincipalBelowUptoCardSaid : Prop := Claim7.holds Tryz.pinned (.plain (OpenSpec.upto principalBelowSpec)) principalBelowUptoCard

/-- THE SECOND FORM's CARD OF 'joinlearnlaw20.PrincipalFiner'. -/
def principalFinerUptoCard : Claim7 := { stood := { row := principalFinerUptoRow, standIns := [], harness := (true, "65e35c61a9b2bf871fcbccd69641bf169a3ad0bed58434868ab96c4f12e0ea14"), looks := true }, kinds := [], alts := [], laidByText := true, laidKinds := [.data, .data, .data, .sentinel, .sentinel], laidTests := true, laidLooks := .later }
def PrincipalFinerUptoCardSaid : Prop := Claim7.holds Tryz.pinned (.plain (OpenSpec.upto principalFinerSpec)) principalFinerUptoCard

/-- THE SECOND FORM's CARD OF 'joinlearnlaw20.PrincipalProducts'. -/
def principalProductsUptoCard : Claim7 := { stood := { row := principalProductsUptoRow, standIns := [], harness := (true, "65e35c61a9b2bf871fcbccd69641bf169a3ad0bed58434868ab96c4f12e0ea14"), looks := true }, kinds := [], alts := [], laidByText := true, laidKinds := [.data, .data, .data, .sentinel, .sentinel], laidTests := true, laidLooks := .later }
def PrincipalProductsUptoCardSaid : Prop := Claim7.holds Tryz.pinned (.plain (OpenSpec.upto principalProductsSpec)) principalProductsUptoCard
end Rows
end Go.Proofs.YtldokelpolbnnaaGreatDoor
