/-
  DERIVED. GIVEN WITH THE SEED: THE CARDS: each row of YtanfagpabkdmiaaGreatDoorRows.lean that lists a variable, with what it lists TIED to the program's text (the seventh form; the later family's looks); each row that meets fmt, with fmt's text TOLD by the authors' own Lean function (tested against real Go, not proved from fmt's source: count such statements apart). THE CARD IS WHAT COUNTS. Prove the row's statement (the work); the ties are given (YtanfagpabkdmiaaGreatDoorTie.lean); close each card by the builder's one call (the guide's Derived/Test/ToyasCard.lean, 'card_holds'). Laid BY PROGRAM, IN A SANDBOX (cutbox-door.mjs). By AI agents, Wed Nov 11 2026. No macro, syntax, notation, axiom, sorry.
-/
import Derived.Test.YtanfagpabkdmiaaGreatDoorRows
import GoSem.ClaimSeven
namespace Go.Proofs.YtanfagpabkdmiaaGreatDoor
namespace Rows

/-- THE TIED CARD OF 'joinlearnlaw21.MeasureMoves'. -/
def measureMovesCard : Claim7 := { stood := { row := measureMovesRow, standIns := [], harness := (true, "170a9bdf488f295e61f9dc7ac551bc9cf6564ce06d8f70cbfa14c766a71670b3"), looks := true }, kinds := [], alts := [], laidByText := true, laidKinds := [.data, .data, .data, .sentinel, .sentinel], laidTests := true, laidLooks := .later }
def MeasureMovesCardSaid : Prop := Claim7.holds Tryz.pinned (.plain (OpenSpec.ofChange measureMovesSpec)) measureMovesCard

/-- THE TIED CARD OF 'joinlearnlaw16.RidgeTwice'. -/
def ridgeTwiceCard : Claim7 := { stood := { row := ridgeTwiceRow, standIns := [], harness := (true, "170a9bdf488f295e61f9dc7ac551bc9cf6564ce06d8f70cbfa14c766a71670b3"), looks := true }, kinds := [], alts := [], laidByText := true, laidKinds := [.data, .data, .data, .sentinel, .sentinel], laidTests := true, laidLooks := .later }
def RidgeTwiceCardSaid : Prop := Claim7.holds Tryz.pinned (.plain (OpenSpec.ofChange ridgeTwiceSpec)) ridgeTwiceCard

/-- THE TIED CARD OF 'joinlearnlaw16.RidgeTuples'. -/
def ridgeTuplesCard : Claim7 := { stood := { row := ridgeTuplesRow, standIns := [], harness := (true, "170a9bdf488f295e61f9dc7ac551bc9cf6564ce06d8f70cbfa14c766a71670b3"), looks := true }, kinds := [], alts := [], laidByText := true, laidKinds := [.data, .data, .data, .sentinel, .sentinel], laidTests := true, laidLooks := .later }
def RidgeTuplesCardSaid : Prop := Claim7.holds Tryz.pinned (.plain (OpenSpec.ofChange ridgeTuplesSpec)) ridgeTuplesCard

/-- THE TIED CARD OF 'joinlearnlaw16.RidgeMoves'. -/
def ridgeMovesCard : Claim7 := { stood := { row := ridgeMovesRow, standIns := [], harness := (true, "170a9bdf488f295e61f9dc7ac551bc9cf6564ce06d8f70cbfa14c766a71670b3"), looks := true }, kinds := [], alts := [], laidByText := true, laidKinds := [.data, .data, .data, .sentinel, .sentinel], laidTests := true, laidLooks := .later }
def RidgeMovesCardSaid : Prop := Claim7.holds Tryz.pinned (.plain (OpenSpec.ofChange ridgeMovesSpec)) ridgeMovesCard

/-- THE TIED CARD OF 'joinlearnlaw16.RidgeLeast'. -/
def ridgeLeastCard : Claim7 := { stood := { row := ridgeLeastRow, standIns := [], harness := (true, "170a9bdf488f295e61f9dc7ac551bc9cf6564ce06d8f70cbfa14c766a71670b3"), looks := true }, kinds := [], alts := [], laidByText := true, laidKinds := [.data, .data, .data, .sentinel, .sentinel], laidTests := true, laidLooks := .later }
def RidgeLeastCardSaid : Prop := Claim7.holds Tryz.pinned (.plain (OpenSpec.ofChange ridgeLeastSpec)) ridgeLeastCard

/-- THE SECOND FORM's CARD OF 'joinlearnlaw21.MeasureMoves'. -/
def measureMovesUptoCard : Claim7 := { stood := { row := measureMovesUptoRow, standIns := [], harness := (true, "170a9bdf488f295e61f9dc7ac551bc9cf6564ce06d8f70cbfa14c766a71670b3"), looks := true }, kinds := [], alts := [], laidByText := true, laidKinds := [.data, .data, .data, .sentinel, .sentinel], laidTests := true, laidLooks := .later }
def MeasureMovesUptoCardSaid : Prop := Claim7.holds Tryz.pinned (.plain (OpenSpec.upto measureMovesSpec)) measureMovesUptoCard

/-- THE SECOND FORM's CARD OF 'joinlearnlaw16.RidgeTwice'. -/
def ridgeTwiceUptoCard : Claim7 := { stood := { row := ridgeTwiceUptoRow, standIns := [], harness := (true, "170a9bdf488f295e61f9dc7ac551bc9cf6564ce06d8f70cbfa14c766a71670b3"), looks := true }, kinds := [], alts := [], laidByText := true, laidKinds := [.data, .data, .data, .sentinel, .sentinel], laidTests := true, laidLooks := .later }
def RidgeTwiceUptoCardSaid : Prop := Claim7.holds Tryz.pinned (.plain (OpenSpec.upto ridgeTwiceSpec)) ridgeTwiceUptoCard

/-- THE SECOND FORM's CARD OF 'joinlearnlaw16.RidgeTuples'. -/
def ridgeTuplesUptoCard : Claim7 := { stood := { row := ridgeTuplesUptoRow, standIns := [], harness := (true, "170a9bdf488f295e61f9dc7ac551bc9cf6564ce06d8f70cbfa14c766a71670b3"), looks := true }, kinds := [], alts := [], laidByText := true, laidKinds := [.data, .data, .data, .sentinel, .sentinel], laidTests := true, laidLooks := .later }
def RidgeTuplesUptoCardSaid : Prop := Claim7.holds Tryz.pinned (.plain (OpenSpec.upto ridgeTuplesSpec)) ridgeTuplesUptoCard

/-- THE SECOND FORM's CARD OF 'joinlearnlaw16.RidgeMoves'. -/
def ridgeMovesUptoCard : Claim7 := { stood := { row := ridgeMovesUptoRow, standIns := [], harness := (true, "170a9bdf488f295e61f9dc7ac551bc9cf6564ce06d8f70cbfa14c766a71670b3"), looks := true }, kinds := [], alts := [], laidByText := true, laidKinds := [.data, .data, .data, .sentinel, .sentinel], laidTests := true, laidLooks := .later }
def RidgeMovesUptoCardSaid : Prop := Claim7.holds Tryz.pinned (.plain (OpenSpec.upto ridgeMovesSpec)) ridgeMovesUptoCard

/-- THE SECOND FORM's CARD OF 'joinlearnlaw16.RidgeLeast'. -/
def ridgeLeastUptoCard : Claim7 := { stood := { row := ridgeLeastUptoRow, standIns := [], harness := (true, "170a9bdf488f295e61f9dc7ac551bc9cf6564ce06d8f70cbfa14c766a71670b3"), looks := true }, kinds := [], alts := [], laidByText := true, laidKinds := [.data, .data, .data, .sentinel, .sentinel], laidTests := true, laidLooks := .later }
def RidgeLeastUptoCardSaid : Prop := Claim7.holds Tryz.pinned (.plain (OpenSpec.upto ridgeLeastSpec)) ridgeLeastUptoCard
end Rows
end Go.Proofs.YtanfagpabkdmiaaGreatDoor
