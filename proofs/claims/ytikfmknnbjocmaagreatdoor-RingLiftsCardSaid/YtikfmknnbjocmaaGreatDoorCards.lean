/-
  DERIVED. GIVEN WITH THE SEED: THE CARDS: each row of YtikfmknnbjocmaaGreatDoorRows.lean that lists a variable, with what it lists TIED to the program's text (the seventh form; the later family's looks); each row that meets fmt, with fmt's text TOLD by the authors' own Lean function (tested against real Go, not proved from fmt's source: count such statements apart). THE CARD IS WHAT COUNTS. Prove the row's statement (the work); the ties are given (YtikfmknnbjocmaaGreatDoorTie.lean); close each card by the builder's one call (the guide's Derived/Test/ToyasCard.lean, 'card_holds'). Laid BY PROGRAM, IN A SANDBOX (cutbox-door.mjs). By AI agents, Wed Nov 11 2026. No macro, syntax, notation, axiom, sorry.
-/
import Derived.Test.YtikfmknnbjocmaaGreatDoorRows
import GoSem.ClaimSeven
namespace Go.Proofs.YtikfmknnbjocmaaGreatDoor
namespace Rows

/-- THE TIED CARD OF 'joinlearnlaw10.RingLifts'. -/
def ringLiftsCard : Claim7 := { stood := { row := ringLiftsRow, standIns := [], harness := (true, "57c4c2e7104c19887f1c6e8dc35ee261f4e82ed5c2dc01acfc539184dc9da3f3"), looks := true }, kinds := [], alts := [], laidByText := true, laidKinds := [.data, .data, .data, .sentinel, .sentinel], laidTests := true, laidLooks := .later }
def RingLiftsCardSaid : Prop := Claim7.holds Tryz.pinned (.plain (OpenSpec.ofChange ringLiftsSpec)) ringLiftsCard

/-- THE TIED CARD OF 'joinlearnlaw10.RingScales'. -/
def ringScalesCard : Claim7 := { stood := { row := ringScalesRow, standIns := [], harness := (true, "57c4c2e7104c19887f1c6e8dc35ee261f4e82ed5c2dc01acfc539184dc9da3f3"), looks := true }, kinds := [], alts := [], laidByText := true, laidKinds := [.data, .data, .data, .sentinel, .sentinel], laidTests := true, laidLooks := .later }
def RingScalesCardSaid : Prop := Claim7.holds Tryz.pinned (.plain (OpenSpec.ofChange ringScalesSpec)) ringScalesCard

/-- THE TIED CARD OF 'joinlearnlaw10.RingCounts'. -/
def ringCountsCard : Claim7 := { stood := { row := ringCountsRow, standIns := [], harness := (true, "57c4c2e7104c19887f1c6e8dc35ee261f4e82ed5c2dc01acfc539184dc9da3f3"), looks := true }, kinds := [], alts := [], laidByText := true, laidKinds := [.data, .data, .data, .sentinel, .sentinel], laidTests := true, laidLooks := .later }
def RingCountsCardSaid : Prop := Claim7.holds Tryz.pinned (.plain (OpenSpec.ofChange ringCountsSpec)) ringCountsCard

/-- THE TIED CARD OF 'joinlearnlaw10.RingEntries'. -/
def ringEntriesCard : Claim7 := { stood := { row := ringEntriesRow, standIns := [], harness := (true, "57c4c2e7104c19887f1c6e8dc35ee261f4e82ed5c2dc01acfc539184dc9da3f3"), looks := true }, kinds := [], alts := [], laidByText := true, laidKinds := [.data, .data, .data, .sentinel, .sentinel], laidTests := true, laidLooks := .later }
def RingEntriesCardSaid : Prop := Claim7.holds Tryz.pinned (.plain (OpenSpec.ofChange ringEntriesSpec)) ringEntriesCard

/-- THE TIED CARD OF 'joinlearnlaw10.RingLaws'. -/
def ringLawsCard : Claim7 := { stood := { row := ringLawsRow, standIns := [], harness := (true, "57c4c2e7104c19887f1c6e8dc35ee261f4e82ed5c2dc01acfc539184dc9da3f3"), looks := true }, kinds := [], alts := [], laidByText := true, laidKinds := [.data, .data, .data, .sentinel, .sentinel], laidTests := true, laidLooks := .later }
def RingLawsCardSaid : Prop := Claim7.holds Tryz.pinned (.plain (OpenSpec.ofChange ringLawsSpec)) ringLawsCard

/-- THE SECOND FORM's CARD OF 'joinlearnlaw10.RingLifts'. -/
def ringLiftsUptoCard : Claim7 := { stood := { row := ringLiftsUptoRow, standIns := [], harness := (true, "57c4c2e7104c19887f1c6e8dc35ee261f4e82ed5c2dc01acfc539184dc9da3f3"), looks := true }, kinds := [], alts := [], laidByText := true, laidKinds := [.data, .data, .data, .sentinel, .sentinel], laidTests := true, laidLooks := .later }
def RingLiftsUptoCardSaid : Prop := Claim7.holds Tryz.pinned (.plain (OpenSpec.upto ringLiftsSpec)) ringLiftsUptoCard

/-- THE SECOND FORM's CARD OF 'joinlearnlaw10.RingScales'. -/
def ringScalesUptoCard : Claim7 := { stood := { row := ringScalesUptoRow, standIns := [], harness := (true, "57c4c2e7104c19887f1c6e8dc35ee261f4e82ed5c2dc01acfc539184dc9da3f3"), looks := true }, kinds := [], alts := [], laidByText := true, laidKinds := [.data, .data, .data, .sentinel, .sentinel], laidTests := true, laidLooks := .later }
def RingScalesUptoCardSaid : Prop := Claim7.holds Tryz.pinned (.plain (OpenSpec.upto ringScalesSpec)) ringScalesUptoCard

/-- THE SECOND FORM's CARD OF 'joinlearnlaw10.RingCounts'. -/
def ringCountsUptoCard : Claim7 := { stood := { row := ringCountsUptoRow, standIns := [], harness := (true, "57c4c2e7104c19887f1c6e8dc35ee261f4e82ed5c2dc01acfc539184dc9da3f3"), looks := true }, kinds := [], alts := [], laidByText := true, laidKinds := [.data, .data, .data, .sentinel, .sentinel], laidTests := true, laidLooks := .later }
def RingCountsUptoCardSaid : Prop := Claim7.holds Tryz.pinned (.plain (OpenSpec.upto ringCountsSpec)) ringCountsUptoCard

/-- THE SECOND FORM's CARD OF 'joinlearnlaw10.RingEntries'. -/
def ringEntriesUptoCard : Claim7 := { stood := { row := ringEntriesUptoRow, standIns := [], harness := (true, "57c4c2e7104c19887f1c6e8dc35ee261f4e82ed5c2dc01acfc539184dc9da3f3"), looks := true }, kinds := [], alts := [], laidByText := true, laidKinds := [.data, .data, .data, .sentinel, .sentinel], laidTests := true, laidLooks := .later }
def RingEntriesUptoCardSaid : Prop := Claim7.holds Tryz.pinned (.plain (OpenSpec.upto ringEntriesSpec)) ringEntriesUptoCard

/-- THE SECOND FORM's CARD OF 'joinlearnlaw10.RingLaws'. -/
def ringLawsUptoCard : Claim7 := { stood := { row := ringLawsUptoRow, standIns := [], harness := (true, "57c4c2e7104c19887f1c6e8dc35ee261f4e82ed5c2dc01acfc539184dc9da3f3"), looks := true }, kinds := [], alts := [], laidByText := true, laidKinds := [.data, .data, .data, .sentinel, .sentinel], laidTests := true, laidLooks := .later }
def RingLawsUptoCardSaid : Prop := Claim7.holds Tryz.pinned (.plain (OpenSpec.upto ringLawsSpec)) ringLawsUptoCard
end Rows
end Go.Proofs.YtikfmknnbjocmaaGreatDoor
