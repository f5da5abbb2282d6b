/-
  DERIVED. GIVEN WITH THE SEED: THE CARDS: each row of YtikpjajangpdjaaGreatDoorRows.lean that lists a variable, with what it lists TIED to the program's text (the seventh form; the later family's looks); each row that meets fmt, with fmt's text TOLD by the authors' own Lean function (tested against real Go, not proved from fmt's source: count such statements apart). THE CARD IS WHAT COUNTS. Prove the row's statement (the work); the ties are given (YtikpjajangpdjaaGreatDoorTie.lean); close each card by the builder's one call (the guide's Derived/Test/ToyasCard.lean, 'card_holds'). Laid BY PROGRAM, IN A SANDBOX (cutbox-door.mjs). By AI agents, Wed Nov 11 2026. No macro, syntax, notation, axiom, sorry.
-/
import Derived.Test.YtikpjajangpdjaaGreatDoorRows
import GoSem.ClaimSeven
namespace Go.Proofs.YtikpjajangpdjaaGreatDoor
namespace Rows

/-- THE TIED CARD OF 'strongtxtop.TopExplored'. -/
def topExploredCard : Claim7 := { stood := { row := topExploredRow, standIns := [], harness := (true, "c5e1e763f727a5cb83db3a54ffe1ba61285379f700b1e1136c066db32cedc651"), looks := true }, kinds := [], alts := [], laidByText := true, laidKinds := [.data, .data], laidTests := true, laidLooks := .later }
def TopExploredCardSaid : Prop := Claim7.holds Tryz.pinned (.plain (OpenSpec.ofChange topExploredSpec)) topExploredCard

/-- THE SECOND FORM's CARD OF 'strongtxtop.TopExplored'. -/
def topExploredUptoCard : Claim7 := { stood := { row := topExploredUptoRow, standIns := [], harness := (true, "c5e1e763f727a5cb83db3a54ffe1ba61285379f700b1e1136c066db32cedc651"), looks := true }, kinds := [], alts := [], laidByText := true, laidKinds := [.data, .data], laidTests := true, laidLooks := .later }
def TopExploredUptoCardSaid : Prop := Claim7.holds Tryz.pinned (.plain (OpenSpec.upto topExploredSpec)) topExploredUptoCard
end Rows
end Go.Proofs.YtikpjajangpdjaaGreatDoor
