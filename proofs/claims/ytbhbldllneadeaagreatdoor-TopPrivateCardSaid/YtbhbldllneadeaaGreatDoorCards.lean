/-
  DERIVED. GIVEN WITH THE SEED: THE CARDS: each row of YtbhbldllneadeaaGreatDoorRows.lean that lists a variable, with what it lists TIED to the program's text (the seventh form; the later family's looks); each row that meets fmt, with fmt's text TOLD by the authors' own Lean function (tested against real Go, not proved from fmt's source: count such statements apart). THE CARD IS WHAT COUNTS. Prove the row's statement (the work); the ties are given (YtbhbldllneadeaaGreatDoorTie.lean); close each card by the builder's one call (the guide's Derived/Test/ToyasCard.lean, 'card_holds'). Laid BY PROGRAM, IN A SANDBOX (cutbox-door.mjs). By AI agents, Wed Nov 11 2026. No macro, syntax, notation, axiom, sorry.
-/
import Derived.Test.YtbhbldllneadeaaGreatDoorRows
import GoSem.ClaimSeven
namespace Go.Proofs.YtbhbldllneadeaaGreatDoor
namespace Rows

/-- THE TIED CARD OF 'strongtxtop.TopIdiom'. -/
def topIdiomCard : Claim7 := { stood := { row := topIdiomRow, standIns := [], harness := (true, "a4be5ae416ba14f67331caf3f768570a2400d3f9cab56ec4d8b596c2691a87f7"), looks := true }, kinds := [], alts := [], laidByText := true, laidKinds := [.data, .data], laidTests := true, laidLooks := .later }
def TopIdiomCardSaid : Prop := Claim7.holds Tryz.pinned (.plain (OpenSpec.ofChange topIdiomSpec)) topIdiomCard

/-- THE TIED CARD OF 'strongtxtop.TopPrivate'. -/
def topPrivateCard : Claim7 := { stood := { row := topPrivateRow, standIns := [], harness := (true, "a4be5ae416ba14f67331caf3f768570a2400d3f9cab56ec4d8b596c2691a87f7"), looks := true }, kinds := [], alts := [], laidByText := true, laidKinds := [.data, .data], laidTests := true, laidLooks := .later }
def TopPrivateCardSaid : Prop := Claim7.holds Tryz.pinned (.plain (OpenSpec.ofChange topPrivateSpec)) topPrivateCard

/-- THE SECOND FORM's CARD OF 'strongtxtop.TopIdiom'. -/
def topIdiomUptoCard : Claim7 := { stood := { row := topIdiomUptoRow, standIns := [], harness := (true, "a4be5ae416ba14f67331caf3f768570a2400d3f9cab56ec4d8b596c2691a87f7"), looks := true }, kinds := [], alts := [], laidByText := true, laidKinds := [.data, .data], laidTests := true, laidLooks := .later }
def TopIdiomUptoCardSaid : Prop := Claim7.holds Tryz.pinned (.plain (OpenSpec.upto topIdiomSpec)) topIdiomUptoCard

/-- THE SECOND FORM's CARD OF 'strongtxtop.TopPrivate'. -/
def topPrivateUptoCard : Claim7 := { stood := { row := topPrivateUptoRow, standIns := [], harness := (true, "a4be5ae416ba14f67331caf3f768570a2400d3f9cab56ec4d8b596c2691a87f7"), looks := true }, kinds := [], alts := [], laidByText := true, laidKinds := [.data, .data], laidTests := true, laidLooks := .later }
def TopPrivateUptoCardSaid : Prop := Claim7.holds Tryz.pinned (.plain (OpenSpec.upto topPrivateSpec)) topPrivateUptoCard
end Rows
end Go.Proofs.YtbhbldllneadeaaGreatDoor
