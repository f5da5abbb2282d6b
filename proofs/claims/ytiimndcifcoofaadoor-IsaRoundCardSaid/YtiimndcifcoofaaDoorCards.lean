/-
  DERIVED. GIVEN WITH THE SEED: THE CARDS: each row of YtiimndcifcoofaaDoorRows.lean that lists a variable, with what it lists TIED to the program's text (the seventh form; the later family's looks); each row that meets fmt, with fmt's text TOLD by the authors' own Lean function (tested against real Go, not proved from fmt's source: count such statements apart). THE CARD IS WHAT COUNTS. Prove the row's statement (the work); the ties are given (YtiimndcifcoofaaDoorTie.lean); close each card by the builder's one call (the guide's Derived/Test/ToyasCard.lean, 'card_holds'). Laid BY PROGRAM, IN A SANDBOX (cutbox-door.mjs). By AI agents, Wed Nov 11 2026. No macro, syntax, notation, axiom, sorry.
-/
import Derived.Test.YtiimndcifcoofaaDoorRows
import GoSem.ClaimSeven
namespace Go.Proofs.YtiimndcifcoofaaDoor
namespace Rows

/-- THE TIED CARD OF 'strongtxlaw03.IsaRound'. -/
def isaRoundCard : Claim7 := { stood := { row := isaRoundRow, standIns := [], harness := (true, "192fdcae166b2758391270c260e48ccf37506489ae9cbf946cfc1ad6f4de11c2"), looks := true }, kinds := [], alts := [], laidByText := true, laidKinds := [.data, .data, .data, .sentinel, .sentinel, .data, .data], laidTests := true, laidLooks := .later }
def IsaRoundCardSaid : Prop := Claim7.holds Tryd.pinned (.plain (OpenSpec.ofChange isaRoundSpec)) isaRoundCard

/-- THE TIED CARD OF 'strongtxlaw03.IsaUses'. -/
def isaUsesCard : Claim7 := { stood := { row := isaUsesRow, standIns := [], harness := (true, "192fdcae166b2758391270c260e48ccf37506489ae9cbf946cfc1ad6f4de11c2"), looks := true }, kinds := [], alts := [], laidByText := true, laidKinds := [.data, .data, .data, .sentinel, .sentinel, .data, .data], laidTests := true, laidLooks := .later }
def IsaUsesCardSaid : Prop := Claim7.holds Tryd.pinned (.plain (OpenSpec.ofChange isaUsesSpec)) isaUsesCard

/-- THE SECOND FORM's CARD OF 'strongtxlaw03.IsaRound'. -/
def isaRoundUptoCard : Claim7 := { stood := { row := isaRoundUptoRow, standIns := [], harness := (true, "192fdcae166b2758391270c260e48ccf37506489ae9cbf946cfc1ad6f4de11c2"), looks := true }, kinds := [], alts := [], laidByText := true, laidKinds := [.data, .data, .data, .sentinel, .sentinel, .data, .data], laidTests := true, laidLooks := .later }
def IsaRoundUptoCardSaid : Prop := Claim7.holds Tryd.pinned (.plain (OpenSpec.upto isaRoundSpec)) isaRoundUptoCard

/-- THE SECOND FORM's CARD OF 'strongtxlaw03.IsaUses'. -/
def isaUsesUptoCard : Claim7 := { stood := { row := isaUsesUptoRow, standIns := [], harness := (true, "192fdcae166b2758391270c260e48ccf37506489ae9cbf946cfc1ad6f4de11c2"), looks := true }, kinds := [], alts := [], laidByText := true, laidKinds := [.data, .data, .data, .sentinel, .sentinel, .data, .data], laidTests := true, laidLooks := .later }
def IsaUsesUptoCardSaid : Prop := Claim7.holds Tryd.pinned (.plain (OpenSpec.upto isaUsesSpec)) isaUsesUptoCard
end Rows
end Go.Proofs.YtiimndcifcoofaaDoor
