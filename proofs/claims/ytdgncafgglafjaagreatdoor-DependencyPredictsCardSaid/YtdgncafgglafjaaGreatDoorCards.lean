/-
  DERIVED. GIVEN WITH THE SEED: THE CARDS: each row of YtdgncafgglafjaaGreatDoorRows.lean that lists a variable, with what it lists TIED to the program's text (the seventh form; the later family's looks); each row that meets fmt, with fmt's text TOLD by the authors' own Lean function (tested against real Go, not proved from fmt's source: count such statements apart). THE CARD IS WHAT COUNTS. Prove the row's statement (the work); the ties are given (YtdgncafgglafjaaGreatDoorTie.lean); close each card by the builder's one call (the guide's Derived/Test/ToyasCard.lean, 'card_holds'). Laid BY PROGRAM, IN A SANDBOX (cutbox-door.mjs). By AI agents, Wed Nov 11 2026. No macro, syntax, notation, axiom, sorry.
-/
import Derived.Test.YtdgncafgglafjaaGreatDoorRows
import GoSem.ClaimSeven
namespace Go.Proofs.YtdgncafgglafjaaGreatDoor
namespace Rows

/-- THE TIED CARD OF 'joinlearnlaw18.DependencyHolds'. -/
def dependencyHoldsCard : Claim7 := { stood := { row := dependencyHoldsRow, standIns := [], harness := (true, "39033b0a5adb47eddf3755f4c5b20b520fa5d168ffa9c4392617dfe35c272e1c"), looks := true }, kinds := [], alts := [], laidByText := true, laidKinds := [.data, .data, .data, .sentinel, .sentinel], laidTests := true, laidLooks := .later }
def DependencyHoldsCardSaid : Prop := Claim7.holds Tryz.pinned (.plain (OpenSpec.ofChange dependencyHoldsSpec)) dependencyHoldsCard

/-- THE TIED CARD OF 'joinlearnlaw18.DependencyTrains'. -/
def dependencyTrainsCard : Claim7 := { stood := { row := dependencyTrainsRow, standIns := [], harness := (true, "39033b0a5adb47eddf3755f4c5b20b520fa5d168ffa9c4392617dfe35c272e1c"), looks := true }, kinds := [], alts := [], laidByText := true, laidKinds := [.data, .data, .data, .sentinel, .sentinel], laidTests := true, laidLooks := .later }
def DependencyTrainsCardSaid : Prop := Claim7.holds Tryz.pinned (.plain (OpenSpec.ofChange dependencyTrainsSpec)) dependencyTrainsCard

/-- THE TIED CARD OF 'joinlearnlaw18.DependencyPredicts'. -/
def dependencyPredictsCard : Claim7 := { stood := { row := dependencyPredictsRow, standIns := [], harness := (true, "39033b0a5adb47eddf3755f4c5b20b520fa5d168ffa9c4392617dfe35c272e1c"), looks := true }, kinds := [], alts := [], laidByText := true, laidKinds := [.data, .data, .data, .sentinel, .sentinel], laidTests := true, laidLooks := .later }
def DependencyPredictsCardSaid : Prop := Claim7.holds Tryz.pinned (.plain (OpenSpec.ofChange dependencyPredictsSpec)) dependencyPredictsCard

/-- THE TIED CARD OF 'joinlearnlaw18.DependencyChains'. -/
def dependencyChainsCard : Claim7 := { stood := { row := dependencyChainsRow, standIns := [], harness := (true, "39033b0a5adb47eddf3755f4c5b20b520fa5d168ffa9c4392617dfe35c272e1c"), looks := true }, kinds := [], alts := [], laidByText := true, laidKinds := [.data, .data, .data, .sentinel, .sentinel], laidTests := true, laidLooks := .later }
def DependencyChainsCardSaid : Prop := Claim7.holds Tryz.pinned (.plain (OpenSpec.ofChange dependencyChainsSpec)) dependencyChainsCard

/-- THE SECOND FORM's CARD OF 'joinlearnlaw18.DependencyHolds'. -/
def dependencyHoldsUptoCard : Claim7 := { stood := { row := dependencyHoldsUptoRow, standIns := [], harness := (true, "39033b0a5adb47eddf3755f4c5b20b520fa5d168ffa9c4392617dfe35c272e1c"), looks := true }, kinds := [], alts := [], laidByText := true, laidKinds := [.data, .data, .data, .sentinel, .sentinel], laidTests := true, laidLooks := .later }
def DependencyHoldsUptoCardSaid : Prop := Claim7.holds Tryz.pinned (.plain (OpenSpec.upto dependencyHoldsSpec)) dependencyHoldsUptoCard

/-- THE SECOND FORM's CARD OF 'joinlearnlaw18.DependencyTrains'. -/
def dependencyTrainsUptoCard : Claim7 := { stood := { row := dependencyTrainsUptoRow, standIns := [], harness := (true, "39033b0a5adb47eddf3755f4c5b20b520fa5d168ffa9c4392617dfe35c272e1c"), looks := true }, kinds := [], alts := [], laidByText := true, laidKinds := [.data, .data, .data, .sentinel, .sentinel], laidTests := true, laidLooks := .later }
def DependencyTrainsUptoCardSaid : Prop := Claim7.holds Tryz.pinned (.plain (OpenSpec.upto dependencyTrainsSpec)) dependencyTrainsUptoCard

/-- THE SECOND FORM's CARD OF 'joinlearnlaw18.DependencyPredicts'. -/
def dependencyPredictsUptoCard : Claim7 := { stood := { row := dependencyPredictsUptoRow, standIns := [], harness := (true, "39033b0a5adb47eddf3755f4c5b20b520fa5d168ffa9c4392617dfe35c272e1c"), looks := true }, kinds := [], alts := [], laidByText := true, laidKinds := [.data, .data, .data, .sentinel, .sentinel], laidTests := true, laidLooks := .later }
def DependencyPredictsUptoCardSaid : Prop := Claim7.holds Tryz.pinned (.plain (OpenSpec.upto dependencyPredictsSpec)) dependencyPredictsUptoCard

/-- THE SECOND FORM's CARD OF 'joinlearnlaw18.DependencyChains'. -/
def dependencyChainsUptoCard : Claim7 := { stood := { row := dependencyChainsUptoRow, standIns := [], harness := (true, "39033b0a5adb47eddf3755f4c5b20b520fa5d168ffa9c4392617dfe35c272e1c"), looks := true }, kinds := [], alts := [], laidByText := true, laidKinds := [.data, .data, .data, .sentinel, .sentinel], laidTests := true, laidLooks := .later }
def DependencyChainsUptoCardSaid : Prop := Claim7.holds Tryz.pinned (.plain (OpenSpec.upto dependencyChainsSpec)) dependencyChainsUptoCard
end Rows
end Go.Proofs.YtdgncafgglafjaaGreatDoor
