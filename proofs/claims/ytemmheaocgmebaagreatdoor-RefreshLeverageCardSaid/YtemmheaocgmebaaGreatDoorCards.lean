/-
  DERIVED. GIVEN WITH THE SEED: THE CARDS: each row of YtemmheaocgmebaaGreatDoorRows.lean that lists a variable, with what it lists TIED to the program's text (the seventh form; the later family's looks); each row that meets fmt, with fmt's text TOLD by the authors' own Lean function (tested against real Go, not proved from fmt's source: count such statements apart). THE CARD IS WHAT COUNTS. Prove the row's statement (the work); the ties are given (YtemmheaocgmebaaGreatDoorTie.lean); close each card by the builder's one call (the guide's Derived/Test/ToyasCard.lean, 'card_holds'). Laid BY PROGRAM, IN A SANDBOX (cutbox-door.mjs). By AI agents, Wed Nov 11 2026. No macro, syntax, notation, axiom, sorry.
-/
import Derived.Test.YtemmheaocgmebaaGreatDoorRows
import GoSem.ClaimSeven
namespace Go.Proofs.YtemmheaocgmebaaGreatDoor
namespace Rows

/-- THE TIED CARD OF 'joinlearnlaw17.RefreshInverse'. -/
def refreshInverseCard : Claim7 := { stood := { row := refreshInverseRow, standIns := [], harness := (true, "adaac74146ce8ebb528a78366595d507debb26398f2085122ebdabfb218870d6"), looks := true }, kinds := [], alts := [], laidByText := true, laidKinds := [.data, .data, .data, .sentinel, .sentinel], laidTests := true, laidLooks := .later }
def RefreshInverseCardSaid : Prop := Claim7.holds Tryz.pinned (.plain (OpenSpec.ofChange refreshInverseSpec)) refreshInverseCard

/-- THE TIED CARD OF 'joinlearnlaw17.RefreshLeverage'. -/
def refreshLeverageCard : Claim7 := { stood := { row := refreshLeverageRow, standIns := [], harness := (true, "adaac74146ce8ebb528a78366595d507debb26398f2085122ebdabfb218870d6"), looks := true }, kinds := [], alts := [], laidByText := true, laidKinds := [.data, .data, .data, .sentinel, .sentinel], laidTests := true, laidLooks := .later }
def RefreshLeverageCardSaid : Prop := Claim7.holds Tryz.pinned (.plain (OpenSpec.ofChange refreshLeverageSpec)) refreshLeverageCard

/-- THE TIED CARD OF 'joinlearnlaw17.RefreshBack'. -/
def refreshBackCard : Claim7 := { stood := { row := refreshBackRow, standIns := [], harness := (true, "adaac74146ce8ebb528a78366595d507debb26398f2085122ebdabfb218870d6"), looks := true }, kinds := [], alts := [], laidByText := true, laidKinds := [.data, .data, .data, .sentinel, .sentinel], laidTests := true, laidLooks := .later }
def RefreshBackCardSaid : Prop := Claim7.holds Tryz.pinned (.plain (OpenSpec.ofChange refreshBackSpec)) refreshBackCard

/-- THE TIED CARD OF 'joinlearnlaw17.RefreshFollows'. -/
def refreshFollowsCard : Claim7 := { stood := { row := refreshFollowsRow, standIns := [], harness := (true, "adaac74146ce8ebb528a78366595d507debb26398f2085122ebdabfb218870d6"), looks := true }, kinds := [], alts := [], laidByText := true, laidKinds := [.data, .data, .data, .sentinel, .sentinel], laidTests := true, laidLooks := .later }
def RefreshFollowsCardSaid : Prop := Claim7.holds Tryz.pinned (.plain (OpenSpec.ofChange refreshFollowsSpec)) refreshFollowsCard

/-- THE TIED CARD OF 'joinlearnlaw17.RefreshSteps'. -/
def refreshStepsCard : Claim7 := { stood := { row := refreshStepsRow, standIns := [], harness := (true, "adaac74146ce8ebb528a78366595d507debb26398f2085122ebdabfb218870d6"), looks := true }, kinds := [], alts := [], laidByText := true, laidKinds := [.data, .data, .data, .sentinel, .sentinel], laidTests := true, laidLooks := .later }
def RefreshStepsCardSaid : Prop := Claim7.holds Tryz.pinned (.plain (OpenSpec.ofChange refreshStepsSpec)) refreshStepsCard

/-- THE SECOND FORM's CARD OF 'joinlearnlaw17.RefreshInverse'. -/
def refreshInverseUptoCard : Claim7 := { stood := { row := refreshInverseUptoRow, standIns := [], harness := (true, "adaac74146ce8ebb528a78366595d507debb26398f2085122ebdabfb218870d6"), looks := true }, kinds := [], alts := [], laidByText := true, laidKinds := [.data, .data, .data, .sentinel, .sentinel], laidTests := true, laidLooks := .later }
def RefreshInverseUptoCardSaid : Prop := Claim7.holds Tryz.pinned (.plain (OpenSpec.upto refreshInverseSpec)) refreshInverseUptoCard

/-- THE SECOND FORM's CARD OF 'joinlearnlaw17.RefreshLeverage'. -/
def refreshLeverageUptoCard : Claim7 := { stood := { row := refreshLeverageUptoRow, standIns := [], harness := (true, "adaac74146ce8ebb528a78366595d507debb26398f2085122ebdabfb218870d6"), looks := true }, kinds := [], alts := [], laidByText := true, laidKinds := [.data, .data, .data, .sentinel, .sentinel], laidTests := true, laidLooks := .later }
def RefreshLeverageUptoCardSaid : Prop := Claim7.holds Tryz.pinned (.plain (OpenSpec.upto refreshLeverageSpec)) refreshLeverageUptoCard

/-- THE SECOND FORM's CARD OF 'joinlearnlaw17.RefreshBack'. -/
def refreshBackUptoCard : Claim7 := { stood := { row := refreshBackUptoRow, standIns := [], harness := (true, "adaac74146ce8ebb528a78366595d507debb26398f2085122ebdabfb218870d6"), looks := true }, kinds := [], alts := [], laidByText := true, laidKinds := [.data, .data, .data, .sentinel, .sentinel], laidTests := true, laidLooks := .later }
def RefreshBackUptoCardSaid : Prop := Claim7.holds Tryz.pinned (.plain (OpenSpec.upto refreshBackSpec)) refreshBackUptoCard

/-- THE SECOND FORM's CARD OF 'joinlearnlaw17.RefreshFollows'. -/
def refreshFollowsUptoCard : Claim7 := { stood := { row := refreshFollowsUptoRow, standIns := [], harness := (true, "adaac74146ce8ebb528a78366595d507debb26398f2085122ebdabfb218870d6"), looks := true }, kinds := [], alts := [], laidByText := true, laidKinds := [.data, .data, .data, .sentinel, .sentinel], laidTests := true, laidLooks := .later }
def RefreshFollowsUptoCardSaid : Prop := Claim7.holds Tryz.pinned (.plain (OpenSpec.upto refreshFollowsSpec)) refreshFollowsUptoCard

/-- THE SECOND FORM's CARD OF 'joinlearnlaw17.RefreshSteps'. -/
def refreshStepsUptoCard : Claim7 := { stood := { row := refreshStepsUptoRow, standIns := [], harness := (true, "adaac74146ce8ebb528a78366595d507debb26398f2085122ebdabfb218870d6"), looks := true }, kinds := [], alts := [], laidByText := true, laidKinds := [.data, .data, .data, .sentinel, .sentinel], laidTests := true, laidLooks := .later }
def RefreshStepsUptoCardSaid : Prop := Claim7.holds Tryz.pinned (.plain (OpenSpec.upto refreshStepsSpec)) refreshStepsUptoCard
end Rows
end Go.Proofs.YtemmheaocgmebaaGreatDoor
