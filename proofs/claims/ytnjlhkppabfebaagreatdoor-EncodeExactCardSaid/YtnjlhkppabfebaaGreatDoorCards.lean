/-
  DERIVED. GIVEN WITH THE SEED: THE CARDS: each row of YtnjlhkppabfebaaGreatDoorRows.lean that lists a variable, with what it lists TIED to the program's text (the seventh form; the later family's looks); each row that meets fmt, with fmt's text TOLD by the authors' own Lean function (tested against real Go, not proved from fmt's source: count such statements apart). THE CARD IS WHAT COUNTS. Prove the row's statement (the work); the ties are given (YtnjlhkppabfebaaGreatDoorTie.lean); close each card by the builder's one call (the guide's Derived/Test/ToyasCard.lean, 'card_holds'). Laid BY PROGRAM, IN A SANDBOX (cutbox-door.mjs). By AI agents, Wed Nov 11 2026. No macro, syntax, notation, axiom, sorry.
-/
import Derived.Test.YtnjlhkppabfebaaGreatDoorRows
import GoSem.ClaimSeven
namespace Go.Proofs.YtnjlhkppabfebaaGreatDoor
namespace Rows

/-- THE TIED CARD OF 'joinlearnlaw12.EncodeExact'. -/
def encodeExactCard : Claim7 := { stood := { row := encodeExactRow, standIns := [], harness := (true, "f377b02cdbc9d95459a92f37745485cadb5f4cbb556292faf439e07a0f5deb7c"), looks := true }, kinds := [], alts := [], laidByText := true, laidKinds := [.data, .data, .data, .sentinel, .sentinel], laidTests := true, laidLooks := .later }
def EncodeExactCardSaid : Prop := Claim7.holds Tryz.pinned (.plain (OpenSpec.ofChange encodeExactSpec)) encodeExactCard

/-- THE SECOND FORM's CARD OF 'joinlearnlaw12.EncodeExact'. -/
def encodeExactUptoCard : Claim7 := { stood := { row := encodeExactUptoRow, standIns := [], harness := (true, "f377b02cdbc9d95459a92f37745485cadb5f4cbb556292faf439e07a0f5deb7c"), looks := true }, kinds := [], alts := [], laidByText := true, laidKinds := [.data, .data, .data, .sentinel, .sentinel], laidTests := true, laidLooks := .later }
def EncodeExactUptoCardSaid : Prop := Claim7.holds Tryz.pinned (.plain (OpenSpec.upto encodeExactSpec)) encodeExactUptoCard
end Rows
end Go.Proofs.YtnjlhkppabfebaaGreatDoor
