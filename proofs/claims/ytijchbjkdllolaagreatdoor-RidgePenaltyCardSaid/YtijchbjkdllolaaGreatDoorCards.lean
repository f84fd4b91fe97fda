/-
  DERIVED. GIVEN WITH THE SEED: THE CARDS: each row of YtijchbjkdllolaaGreatDoorRows.lean that lists a variable, with what it lists TIED to the program's text (the seventh form; the later family's looks); each row that meets fmt, with fmt's text TOLD by the authors' own Lean function (tested against real Go, not proved from fmt's source: count such statements apart). THE CARD IS WHAT COUNTS. Prove the row's statement (the work); the ties are given (YtijchbjkdllolaaGreatDoorTie.lean); close each card by the builder's one call (the guide's Derived/Test/ToyasCard.lean, 'card_holds'). Laid BY PROGRAM, IN A SANDBOX (cutbox-door.mjs). By AI agents, Wed Nov 11 2026. No macro, syntax, notation, axiom, sorry.
-/
import Derived.Test.YtijchbjkdllolaaGreatDoorRows
import GoSem.ClaimSeven
namespace Go.Proofs.YtijchbjkdllolaaGreatDoor
namespace Rows

/-- THE TIED CARD OF 'joinlearnlaw16.RidgeTuples'. -/
def ridgeTuplesCard : Claim7 := { stood := { row := ridgeTuplesRow, standIns := [], harness := (true, "c7efc590b2b3620096ecf35e0f1e8cf22eaa920e9c9e80cb236935bb6010fbbd"), looks := true }, kinds := [], alts := [], laidByText := true, laidKinds := [.data, .data, .data, .sentinel, .sentinel], laidTests := true, laidLooks := .later }
def RidgeTuplesCardSaid : Prop := Claim7.holds Tryz.pinned (.plain (OpenSpec.ofChange ridgeTuplesSpec)) ridgeTuplesCard

/-- THE TIED CARD OF 'joinlearnlaw16.RidgeMoves'. -/
def ridgeMovesCard : Claim7 := { stood := { row := ridgeMovesRow, standIns := [], harness := (true, "c7efc590b2b3620096ecf35e0f1e8cf22eaa920e9c9e80cb236935bb6010fbbd"), looks := true }, kinds := [], alts := [], laidByText := true, laidKinds := [.data, .data, .data, .sentinel, .sentinel], laidTests := true, laidLooks := .later }
def RidgeMovesCardSaid : Prop := Claim7.holds Tryz.pinned (.plain (OpenSpec.ofChange ridgeMovesSpec)) ridgeMovesCard

/-- THE TIED CARD OF 'joinlearnlaw16.RidgeTwice'. -/
def ridgeTwiceCard : Claim7 := { stood := { row := ridgeTwiceRow, standIns := [], harness := (true, "c7efc590b2b3620096ecf35e0f1e8cf22eaa920e9c9e80cb236935bb6010fbbd"), looks := true }, kinds := [], alts := [], laidByText := true, laidKinds := [.data, .data, .data, .sentinel, .sentinel], laidTests := true, laidLooks := .later }
def RidgeTwiceCardSaid : Prop := Claim7.holds Tryz.pinned (.plain (OpenSpec.ofChange ridgeTwiceSpec)) ridgeTwiceCard

/-- THE TIED CARD OF 'joinlearnlaw16.RidgeLeast'. -/
def ridgeLeastCard : Claim7 := { stood := { row := ridgeLeastRow, standIns := [], harness := (true, "c7efc590b2b3620096ecf35e0f1e8cf22eaa920e9c9e80cb236935bb6010fbbd"), looks := true }, kinds := [], alts := [], laidByText := true, laidKinds := [.data, .data, .data, .sentinel, .sentinel], laidTests := true, laidLooks := .later }
def RidgeLeastCardSaid : Prop := Claim7.holds Tryz.pinned (.plain (OpenSpec.ofChange ridgeLeastSpec)) ridgeLeastCard

/-- THE TIED CARD OF 'joinlearnlaw16.RidgePenalty'. -/
def ridgePenaltyCard : Claim7 := { stood := { row := ridgePenaltyRow, standIns := [], harness := (true, "c7efc590b2b3620096ecf35e0f1e8cf22eaa920e9c9e80cb236935bb6010fbbd"), looks := true }, kinds := [], alts := [], laidByText := true, laidKinds := [.data, .data, .data, .sentinel, .sentinel], laidTests := true, laidLooks := .later }
def RidgePenaltyCardSaid : Prop := Claim7.holds Tryz.pinned (.plain (OpenSpec.ofChange ridgePenaltySpec)) ridgePenaltyCard

/-- THE SECOND FORM's CARD OF 'joinlearnlaw16.RidgeTuples'. -/
def ridgeTuplesUptoCard : Claim7 := { stood := { row := ridgeTuplesUptoRow, standIns := [], harness := (true, "c7efc590b2b3620096ecf35e0f1e8cf22eaa920e9c9e80cb236935bb6010fbbd"), looks := true }, kinds := [], alts := [], laidByText := true, laidKinds := [.data, .data, .data, .sentinel, .sentinel], laidTests := true, laidLooks := .later }
def RidgeTuplesUptoCardSaid : Prop := Claim7.holds Tryz.pinned (.plain (OpenSpec.upto ridgeTuplesSpec)) ridgeTuplesUptoCard

/-- THE SECOND FORM's CARD OF 'joinlearnlaw16.RidgeMoves'. -/
def ridgeMovesUptoCard : Claim7 := { stood := { row := ridgeMovesUptoRow, standIns := [], harness := (true, "c7efc590b2b3620096ecf35e0f1e8cf22eaa920e9c9e80cb236935bb6010fbbd"), looks := true }, kinds := [], alts := [], laidByText := true, laidKinds := [.data, .data, .data, .sentinel, .sentinel], laidTests := true, laidLooks := .later }
def RidgeMovesUptoCardSaid : Prop := Claim7.holds Tryz.pinned (.plain (OpenSpec.upto ridgeMovesSpec)) ridgeMovesUptoCard

/-- THE SECOND FORM's CARD OF 'joinlearnlaw16.RidgeTwice'. -/
def ridgeTwiceUptoCard : Claim7 := { stood := { row := ridgeTwiceUptoRow, standIns := [], harness := (true, "c7efc590b2b3620096ecf35e0f1e8cf22eaa920e9c9e80cb236935bb6010fbbd"), looks := true }, kinds := [], alts := [], laidByText := true, laidKinds := [.data, .data, .data, .sentinel, .sentinel], laidTests := true, laidLooks := .later }
def RidgeTwiceUptoCardSaid : Prop := Claim7.holds Tryz.pinned (.plain (OpenSpec.upto ridgeTwiceSpec)) ridgeTwiceUptoCard

/-- THE SECOND FORM's CARD OF 'joinlearnlaw16.RidgeLeast'. -/
def ridgeLeastUptoCard : Claim7 := { stood := { row := ridgeLeastUptoRow, standIns := [], harness := (true, "c7efc590b2b3620096ecf35e0f1e8cf22eaa920e9c9e80cb236935bb6010fbbd"), looks := true }, kinds := [], alts := [], laidByText := true, laidKinds := [.data, .data, .data, .sentinel, .sentinel], laidTests := true, laidLooks := .later }
def RidgeLeastUptoCardSaid : Prop := Claim7.holds Tryz.pinned (.plain (OpenSpec.upto ridgeLeastSpec)) ridgeLeastUptoCard

/-- THE SECOND FORM's CARD OF 'joinlearnlaw16.RidgePenalty'. -/
def ridgePenaltyUptoCard : Claim7 := { stood := { row := ridgePenaltyUptoRow, standIns := [], harness := (true, "c7efc590b2b3620096ecf35e0f1e8cf22eaa920e9c9e80cb236935bb6010fbbd"), looks := true }, kinds := [], alts := [], laidByText := true, laidKinds := [.data, .data, .data, .sentinel, .sentinel], laidTests := true, laidLooks := .later }
def RidgePenaltyUptoCardSaid : Prop := Claim7.holds Tryz.pinned (.plain (OpenSpec.upto ridgePenaltySpec)) ridgePenaltyUptoCard
end Rows
end Go.Proofs.YtijchbjkdllolaaGreatDoor
