/-
  DERIVED. GIVEN WITH THE SEED: THE CARDS: each row of YtpdboaedoimahaaGreatDoorRows.lean that lists a variable, with what it lists TIED to the program's text (the seventh form; the later family's looks); each row that meets fmt, with fmt's text TOLD by the authors' own Lean function (tested against real Go, not proved from fmt's source: count such statements apart). THE CARD IS WHAT COUNTS. Prove the row's statement (the work); the ties are given (YtpdboaedoimahaaGreatDoorTie.lean); close each card by the builder's one call (the guide's Derived/Test/ToyasCard.lean, 'card_holds'). Laid BY PROGRAM, IN A SANDBOX (cutbox-door.mjs). By AI agents, Wed Nov 11 2026. No macro, syntax, notation, axiom, sorry.
-/
import Derived.Test.YtpdboaedoimahaaGreatDoorRows
import GoSem.ClaimSeven
namespace Go.Proofs.YtpdboaedoimahaaGreatDoor
namespace Rows

/-- THE TIED CARD OF 'joinlearnlaw12.EncodeDense'. -/
def encodeDenseCard : Claim7 := { stood := { row := encodeDenseRow, standIns := [], harness := (true, "9a745867310f1c511d5857396bb1cd1ba6ddeafa5b07b6db71e03542d164d30c"), looks := true }, kinds := [], alts := [], laidByText := true, laidKinds := [.data, .data, .data, .sentinel, .sentinel], laidTests := true, laidLooks := .later }
def EncodeDenseCardSaid : Prop := Claim7.holds Tryz.pinned (.plain (OpenSpec.ofChange encodeDenseSpec)) encodeDenseCard

/-- THE TIED CARD OF 'joinlearnlaw12.EncodeDrops'. -/
def encodeDropsCard : Claim7 := { stood := { row := encodeDropsRow, standIns := [], harness := (true, "9a745867310f1c511d5857396bb1cd1ba6ddeafa5b07b6db71e03542d164d30c"), looks := true }, kinds := [], alts := [], laidByText := true, laidKinds := [.data, .data, .data, .sentinel, .sentinel], laidTests := true, laidLooks := .later }
def EncodeDropsCardSaid : Prop := Claim7.holds Tryz.pinned (.plain (OpenSpec.ofChange encodeDropsSpec)) encodeDropsCard

/-- THE TIED CARD OF 'joinlearnlaw12.EncodeCounts'. -/
def encodeCountsCard : Claim7 := { stood := { row := encodeCountsRow, standIns := [], harness := (true, "9a745867310f1c511d5857396bb1cd1ba6ddeafa5b07b6db71e03542d164d30c"), looks := true }, kinds := [], alts := [], laidByText := true, laidKinds := [.data, .data, .data, .sentinel, .sentinel], laidTests := true, laidLooks := .later }
def EncodeCountsCardSaid : Prop := Claim7.holds Tryz.pinned (.plain (OpenSpec.ofChange encodeCountsSpec)) encodeCountsCard

/-- THE SECOND FORM's CARD OF 'joinlearnlaw12.EncodeDense'. -/
def encodeDenseUptoCard : Claim7 := { stood := { row := encodeDenseUptoRow, standIns := [], harness := (true, "9a745867310f1c511d5857396bb1cd1ba6ddeafa5b07b6db71e03542d164d30c"), looks := true }, kinds := [], alts := [], laidByText := true, laidKinds := [.data, .data, .data, .sentinel, .sentinel], laidTests := true, laidLooks := .later }
def EncodeDenseUptoCardSaid : Prop := Claim7.holds Tryz.pinned (.plain (OpenSpec.upto encodeDenseSpec)) encodeDenseUptoCard

/-- THE SECOND FORM's CARD OF 'joinlearnlaw12.EncodeDrops'. -/
def encodeDropsUptoCard : Claim7 := { stood := { row := encodeDropsUptoRow, standIns := [], harness := (true, "9a745867310f1c511d5857396bb1cd1ba6ddeafa5b07b6db71e03542d164d30c"), looks := true }, kinds := [], alts := [], laidByText := true, laidKinds := [.data, .data, .data, .sentinel, .sentinel], laidTests := true, laidLooks := .later }
def EncodeDropsUptoCardSaid : Prop := Claim7.holds Tryz.pinned (.plain (OpenSpec.upto encodeDropsSpec)) encodeDropsUptoCard

/-- THE SECOND FORM's CARD OF 'joinlearnlaw12.EncodeCounts'. -/
def encodeCountsUptoCard : Claim7 := { stood := { row := encodeCountsUptoRow, standIns := [], harness := (true, "9a745867310f1c511d5857396bb1cd1ba6ddeafa5b07b6db71e03542d164d30c"), looks := true }, kinds := [], alts := [], laidByText := true, laidKinds := [.data, .data, .data, .sentinel, .sentinel], laidTests := true, laidLooks := .later }
def EncodeCountsUptoCardSaid : Prop := Claim7.holds Tryz.pinned (.plain (OpenSpec.upto encodeCountsSpec)) encodeCountsUptoCard
end Rows
end Go.Proofs.YtpdboaedoimahaaGreatDoor
