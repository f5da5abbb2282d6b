/-
  DERIVED. GIVEN WITH THE SEED: THE CARDS: each row of YtkieffpjjfebjaaGreatDoorRows.lean that lists a variable, with what it lists TIED to the program's text (the seventh form; the later family's looks); each row that meets fmt, with fmt's text TOLD by the authors' own Lean function (tested against real Go, not proved from fmt's source: count such statements apart). THE CARD IS WHAT COUNTS. Prove the row's statement (the work); the ties are given (YtkieffpjjfebjaaGreatDoorTie.lean); close each card by the builder's one call (the guide's Derived/Test/ToyasCard.lean, 'card_holds'). Laid BY PROGRAM, IN A SANDBOX (cutbox-door.mjs). By AI agents, Wed Nov 11 2026. No macro, syntax, notation, axiom, sorry.
-/
import Derived.Test.YtkieffpjjfebjaaGreatDoorRows
import GoSem.ClaimSeven
namespace Go.Proofs.YtkieffpjjfebjaaGreatDoor
namespace Rows

/-- THE TIED CARD OF 'strongtxlaw26.ExploreFollows'. -/
def exploreFollowsCard : Claim7 := { stood := { row := exploreFollowsRow, standIns := [], harness := (true, "ad3f46fabf3e0f6fa36612f8ec912cd3be0b93ed6c78d83dabc4262986db39b4"), looks := true }, kinds := [], alts := [], laidByText := true, laidKinds := [.data, .data], laidTests := true, laidLooks := .later }
def ExploreFollowsCardSaid : Prop := Claim7.holds Tryz.pinned (.plain (OpenSpec.ofChange exploreFollowsSpec)) exploreFollowsCard

/-- THE TIED CARD OF 'strongtxlaw26.ExploreRefuses'. -/
def exploreRefusesCard : Claim7 := { stood := { row := exploreRefusesRow, standIns := [], harness := (true, "ad3f46fabf3e0f6fa36612f8ec912cd3be0b93ed6c78d83dabc4262986db39b4"), looks := true }, kinds := [], alts := [], laidByText := true, laidKinds := [.data, .data], laidTests := true, laidLooks := .later }
def ExploreRefusesCardSaid : Prop := Claim7.holds Tryz.pinned (.plain (OpenSpec.ofChange exploreRefusesSpec)) exploreRefusesCard

/-- THE TIED CARD OF 'strongtxlaw26.ExploreWitness'. -/
def exploreWitnessCard : Claim7 := { stood := { row := exploreWitnessRow, standIns := [], harness := (true, "ad3f46fabf3e0f6fa36612f8ec912cd3be0b93ed6c78d83dabc4262986db39b4"), looks := true }, kinds := [], alts := [], laidByText := true, laidKinds := [.data, .data], laidTests := true, laidLooks := .later }
def ExploreWitnessCardSaid : Prop := Claim7.holds Tryz.pinned (.plain (OpenSpec.ofChange exploreWitnessSpec)) exploreWitnessCard

/-- THE TIED CARD OF 'strongtxlaw26.ExploreCovers'. -/
def exploreCoversCard : Claim7 := { stood := { row := exploreCoversRow, standIns := [], harness := (true, "ad3f46fabf3e0f6fa36612f8ec912cd3be0b93ed6c78d83dabc4262986db39b4"), looks := true }, kinds := [], alts := [], laidByText := true, laidKinds := [.data, .data], laidTests := true, laidLooks := .later }
def ExploreCoversCardSaid : Prop := Claim7.holds Tryz.pinned (.plain (OpenSpec.ofChange exploreCoversSpec)) exploreCoversCard

/-- THE TIED CARD OF 'strongtxlaw26.ExploreThreads'. -/
def exploreThreadsCard : Claim7 := { stood := { row := exploreThreadsRow, standIns := [], harness := (true, "ad3f46fabf3e0f6fa36612f8ec912cd3be0b93ed6c78d83dabc4262986db39b4"), looks := true }, kinds := [], alts := [], laidByText := true, laidKinds := [.data, .data], laidTests := true, laidLooks := .later }
def ExploreThreadsCardSaid : Prop := Claim7.holds Tryz.pinned (.plain (OpenSpec.ofChange exploreThreadsSpec)) exploreThreadsCard

/-- THE TIED CARD OF 'strongtxlaw26.ExploreCounts'. -/
def exploreCountsCard : Claim7 := { stood := { row := exploreCountsRow, standIns := [], harness := (true, "ad3f46fabf3e0f6fa36612f8ec912cd3be0b93ed6c78d83dabc4262986db39b4"), looks := true }, kinds := [], alts := [], laidByText := true, laidKinds := [.data, .data], laidTests := true, laidLooks := .later }
def ExploreCountsCardSaid : Prop := Claim7.holds Tryz.pinned (.plain (OpenSpec.ofChange exploreCountsSpec)) exploreCountsCard

/-- THE SECOND FORM's CARD OF 'strongtxlaw26.ExploreFollows'. -/
def exploreFollowsUptoCard : Claim7 := { stood := { row := exploreFollowsUptoRow, standIns := [], harness := (true, "ad3f46fabf3e0f6fa36612f8ec912cd3be0b93ed6c78d83dabc4262986db39b4"), looks := true }, kinds := [], alts := [], laidByText := true, laidKinds := [.data, .data], laidTests := true, laidLooks := .later }
def ExploreFollowsUptoCardSaid : Prop := Claim7.holds Tryz.pinned (.plain (OpenSpec.upto exploreFollowsSpec)) exploreFollowsUptoCard

/-- THE SECOND FORM's CARD OF 'strongtxlaw26.ExploreRefuses'. -/
def exploreRefusesUptoCard : Claim7 := { stood := { row := exploreRefusesUptoRow, standIns := [], harness := (true, "ad3f46fabf3e0f6fa36612f8ec912cd3be0b93ed6c78d83dabc4262986db39b4"), looks := true }, kinds := [], alts := [], laidByText := true, laidKinds := [.data, .data], laidTests := true, laidLooks := .later }
def ExploreRefusesUptoCardSaid : Prop := Claim7.holds Tryz.pinned (.plain (OpenSpec.upto exploreRefusesSpec)) exploreRefusesUptoCard

/-- THE SECOND FORM's CARD OF 'strongtxlaw26.ExploreWitness'. -/
def exploreWitnessUptoCard : Claim7 := { stood := { row := exploreWitnessUptoRow, standIns := [], harness := (true, "ad3f46fabf3e0f6fa36612f8ec912cd3be0b93ed6c78d83dabc4262986db39b4"), looks := true }, kinds := [], alts := [], laidByText := true, laidKinds := [.data, .data], laidTests := true, laidLooks := .later }
def ExploreWitnessUptoCardSaid : Prop := Claim7.holds Tryz.pinned (.plain (OpenSpec.upto exploreWitnessSpec)) exploreWitnessUptoCard

/-- THE SECOND FORM's CARD OF 'strongtxlaw26.ExploreCovers'. -/
def exploreCoversUptoCard : Claim7 := { stood := { row := exploreCoversUptoRow, standIns := [], harness := (true, "ad3f46fabf3e0f6fa36612f8ec912cd3be0b93ed6c78d83dabc4262986db39b4"), looks := true }, kinds := [], alts := [], laidByText := true, laidKinds := [.data, .data], laidTests := true, laidLooks := .later }
def ExploreCoversUptoCardSaid : Prop := Claim7.holds Tryz.pinned (.plain (OpenSpec.upto exploreCoversSpec)) exploreCoversUptoCard

/-- THE SECOND FORM's CARD OF 'strongtxlaw26.ExploreThreads'. -/
def exploreThreadsUptoCard : Claim7 := { stood := { row := exploreThreadsUptoRow, standIns := [], harness := (true, "ad3f46fabf3e0f6fa36612f8ec912cd3be0b93ed6c78d83dabc4262986db39b4"), looks := true }, kinds := [], alts := [], laidByText := true, laidKinds := [.data, .data], laidTests := true, laidLooks := .later }
def ExploreThreadsUptoCardSaid : Prop := Claim7.holds Tryz.pinned (.plain (OpenSpec.upto exploreThreadsSpec)) exploreThreadsUptoCard

/-- THE SECOND FORM's CARD OF 'strongtxlaw26.ExploreCounts'. -/
def exploreCountsUptoCard : Claim7 := { stood := { row := exploreCountsUptoRow, standIns := [], harness := (true, "ad3f46fabf3e0f6fa36612f8ec912cd3be0b93ed6c78d83dabc4262986db39b4"), looks := true }, kinds := [], alts := [], laidByText := true, laidKinds := [.data, .data], laidTests := true, laidLooks := .later }
def ExploreCountsUptoCardSaid : Prop := Claim7.holds Tryz.pinned (.plain (OpenSpec.upto exploreCountsSpec)) exploreCountsUptoCard
end Rows
end Go.Proofs.YtkieffpjjfebjaaGreatDoor
