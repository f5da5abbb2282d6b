/-
  DERIVED. GIVEN WITH THE SEED: THE CARDS: each row of YtllddgdmmfmpkaaGreatDoorRows.lean that lists a variable, with what it lists TIED to the program's text (the seventh form; the later family's looks); each row that meets fmt, with fmt's text TOLD by the authors' own Lean function (tested against real Go, not proved from fmt's source: count such statements apart). THE CARD IS WHAT COUNTS. Prove the row's statement (the work); the ties are given (YtllddgdmmfmpkaaGreatDoorTie.lean); close each card by the builder's one call (the guide's Derived/Test/ToyasCard.lean, 'card_holds'). Laid BY PROGRAM, IN A SANDBOX (cutbox-door.mjs). By AI agents, Wed Nov 11 2026. No macro, syntax, notation, axiom, sorry.
-/
import Derived.Test.YtllddgdmmfmpkaaGreatDoorRows
import GoSem.ClaimSeven
namespace Go.Proofs.YtllddgdmmfmpkaaGreatDoor
namespace Rows

/-- THE TIED CARD OF 'strongtxtop.TopCounts'. -/
def topCountsCard : Claim7 := { stood := { row := topCountsRow, standIns := [], harness := (true, "e13b68d5591301e38a58e6f3263680e8e4c198e9d561b609cf9fc46f28e45ba7"), looks := false }, kinds := [], alts := [], laidByText := true, laidKinds := [.data], laidTests := true, laidLooks := .later }
def TopCountsCardSaid : Prop := Claim7.holds Tryz.pinned (.plain (OpenSpec.ofChange topCountsSpec)) topCountsCard

/-- THE SECOND FORM's CARD OF 'strongtxtop.TopCounts'. -/
def topCountsUptoCard : Claim7 := { stood := { row := topCountsUptoRow, standIns := [], harness := (true, "e13b68d5591301e38a58e6f3263680e8e4c198e9d561b609cf9fc46f28e45ba7"), looks := false }, kinds := [], alts := [], laidByText := true, laidKinds := [.data], laidTests := true, laidLooks := .later }
def TopCountsUptoCardSaid : Prop := Claim7.holds Tryz.pinned (.plain (OpenSpec.upto topCountsSpec)) topCountsUptoCard
end Rows
end Go.Proofs.YtllddgdmmfmpkaaGreatDoor
