/-
  DERIVED. GIVEN WITH THE SEED: THE CARDS: each row of YtnafchoihfnkeaaGreatDoorRows.lean that lists a variable, with what it lists TIED to the program's text (the seventh form; the later family's looks); each row that meets fmt, with fmt's text TOLD by the authors' own Lean function (tested against real Go, not proved from fmt's source: count such statements apart). THE CARD IS WHAT COUNTS. Prove the row's statement (the work); the ties are given (YtnafchoihfnkeaaGreatDoorTie.lean); close each card by the builder's one call (the guide's Derived/Test/ToyasCard.lean, 'card_holds'). Laid BY PROGRAM, IN A SANDBOX (cutbox-door.mjs). By AI agents, Wed Nov 11 2026. No macro, syntax, notation, axiom, sorry.
-/
import Derived.Test.YtnafchoihfnkeaaGreatDoorRows
import GoSem.ClaimSeven
namespace Go.Proofs.YtnafchoihfnkeaaGreatDoor
namespace Rows

/-- THE TIED CARD OF 'joinlearnlaw20.PrincipalCovariance'. -/
def principalCovarianceCard : Claim7 := { stood := { row := principalCovarianceRow, standIns := [], harness := (true, "f7ac40a1dfefe6297d1ad54ed28fbe641ca4a9528639eb3f9907a21e4494a5a5"), looks := true }, kinds := [], alts := [], laidByText := true, laidKinds := [.data, .data, .data, .sentinel, .sentinel], laidTests := true, laidLooks := .later }
def PrincipalCovarianceCardSaid : Prop := Claim7.holds Tryz.pinned (.plain (OpenSpec.ofChange principalCovarianceSpec)) principalCovarianceCard

/-- THE SECOND FORM's CARD OF 'joinlearnlaw20.PrincipalCovariance'. -/
def principalCovarianceUptoCard : Claim7 := { stood := { row := principalCovarianceUptoRow, standIns := [], harness := (true, "f7ac40a1dfefe6297d1ad54ed28fbe641ca4a9528639eb3f9907a21e4494a5a5"), looks := true }, kinds := [], alts := [], laidByText := true, laidKinds := [.data, .data, .data, .sentinel, .sentinel], laidTests := true, laidLooks := .later }
def PrincipalCovarianceUptoCardSaid : Prop := Claim7.holds Tryz.pinned (.plain (OpenSpec.upto principalCovarianceSpec)) principalCovarianceUptoCard
end Rows
end Go.Proofs.YtnafchoihfnkeaaGreatDoor
