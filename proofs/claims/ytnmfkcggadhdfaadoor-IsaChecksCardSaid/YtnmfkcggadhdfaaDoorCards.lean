/-
  DERIVED. GIVEN WITH THE SEED: THE CARDS: each row of YtnmfkcggadhdfaaDoorRows.lean that lists a variable, with what it lists TIED to the program's text (the seventh form; the later family's looks); each row that meets fmt, with fmt's text TOLD by the authors' own Lean function (tested against real Go, not proved from fmt's source: count such statements apart). THE CARD IS WHAT COUNTS. Prove the row's statement (the work); the ties are given (YtnmfkcggadhdfaaDoorTie.lean); close each card by the builder's one call (the guide's Derived/Test/ToyasCard.lean, 'card_holds'). Laid BY PROGRAM, IN A SANDBOX (cutbox-door.mjs). By AI agents, Wed Nov 11 2026. No macro, syntax, notation, axiom, sorry.
-/
import Derived.Test.YtnmfkcggadhdfaaDoorRows
import GoSem.ClaimSeven
namespace Go.Proofs.YtnmfkcggadhdfaaDoor
namespace Rows

/-- THE TIED CARD OF 'strongtxlaw03.IsaParses'. -/
def isaParsesCard : Claim7 := { stood := { row := isaParsesRow, standIns := [], harness := (true, "160f9faeb5b80ae6fb6bf80d471de21387d2c23b6e85a7a294cc917e9edc5112"), looks := true }, kinds := [], alts := [], laidByText := true, laidKinds := [.data, .data, .data, .sentinel, .sentinel, .data, .data], laidTests := true, laidLooks := .later }
def IsaParsesCardSaid : Prop := Claim7.holds Tryd.pinned (.plain (OpenSpec.ofChange isaParsesSpec)) isaParsesCard

/-- THE TIED CARD OF 'strongtxlaw03.IsaTexts'. -/
def isaTextsCard : Claim7 := { stood := { row := isaTextsRow, standIns := [], harness := (true, "160f9faeb5b80ae6fb6bf80d471de21387d2c23b6e85a7a294cc917e9edc5112"), looks := true }, kinds := [], alts := [], laidByText := true, laidKinds := [.data, .data, .data, .sentinel, .sentinel, .data, .data], laidTests := true, laidLooks := .later }
def IsaTextsCardSaid : Prop := Claim7.holds Tryd.pinned (.plain (OpenSpec.ofChange isaTextsSpec)) isaTextsCard

/-- THE TIED CARD OF 'strongtxlaw03.IsaRound'. -/
def isaRoundCard : Claim7 := { stood := { row := isaRoundRow, standIns := [], harness := (true, "160f9faeb5b80ae6fb6bf80d471de21387d2c23b6e85a7a294cc917e9edc5112"), looks := true }, kinds := [], alts := [], laidByText := true, laidKinds := [.data, .data, .data, .sentinel, .sentinel, .data, .data], laidTests := true, laidLooks := .later }
def IsaRoundCardSaid : Prop := Claim7.holds Tryd.pinned (.plain (OpenSpec.ofChange isaRoundSpec)) isaRoundCard

/-- THE TIED CARD OF 'strongtxlaw03.IsaChecks'. -/
def isaChecksCard : Claim7 := { stood := { row := isaChecksRow, standIns := [], harness := (true, "160f9faeb5b80ae6fb6bf80d471de21387d2c23b6e85a7a294cc917e9edc5112"), looks := true }, kinds := [], alts := [], laidByText := true, laidKinds := [.data, .data, .data, .sentinel, .sentinel, .data, .data], laidTests := true, laidLooks := .later }
def IsaChecksCardSaid : Prop := Claim7.holds Tryd.pinned (.plain (OpenSpec.ofChange isaChecksSpec)) isaChecksCard

/-- THE TIED CARD OF 'strongtxlaw03.IsaUses'. -/
def isaUsesCard : Claim7 := { stood := { row := isaUsesRow, standIns := [], harness := (true, "160f9faeb5b80ae6fb6bf80d471de21387d2c23b6e85a7a294cc917e9edc5112"), looks := true }, kinds := [], alts := [], laidByText := true, laidKinds := [.data, .data, .data, .sentinel, .sentinel, .data, .data], laidTests := true, laidLooks := .later }
def IsaUsesCardSaid : Prop := Claim7.holds Tryd.pinned (.plain (OpenSpec.ofChange isaUsesSpec)) isaUsesCard

/-- THE SECOND FORM's CARD OF 'strongtxlaw03.IsaParses'. -/
def isaParsesUptoCard : Claim7 := { stood := { row := isaParsesUptoRow, standIns := [], harness := (true, "160f9faeb5b80ae6fb6bf80d471de21387d2c23b6e85a7a294cc917e9edc5112"), looks := true }, kinds := [], alts := [], laidByText := true, laidKinds := [.data, .data, .data, .sentinel, .sentinel, .data, .data], laidTests := true, laidLooks := .later }
def IsaParsesUptoCardSaid : Prop := Claim7.holds Tryd.pinned (.plain (OpenSpec.upto isaParsesSpec)) isaParsesUptoCard

/-- THE SECOND FORM's CARD OF 'strongtxlaw03.IsaTexts'. -/
def isaTextsUptoCard : Claim7 := { stood := { row := isaTextsUptoRow, standIns := [], harness := (true, "160f9faeb5b80ae6fb6bf80d471de21387d2c23b6e85a7a294cc917e9edc5112"), looks := true }, kinds := [], alts := [], laidByText := true, laidKinds := [.data, .data, .data, .sentinel, .sentinel, .data, .data], laidTests := true, laidLooks := .later }
def IsaTextsUptoCardSaid : Prop := Claim7.holds Tryd.pinned (.plain (OpenSpec.upto isaTextsSpec)) isaTextsUptoCard

/-- THE SECOND FORM's CARD OF 'strongtxlaw03.IsaRound'. -/
def isaRoundUptoCard : Claim7 := { stood := { row := isaRoundUptoRow, standIns := [], harness := (true, "160f9faeb5b80ae6fb6bf80d471de21387d2c23b6e85a7a294cc917e9edc5112"), looks := true }, kinds := [], alts := [], laidByText := true, laidKinds := [.data, .data, .data, .sentinel, .sentinel, .data, .data], laidTests := true, laidLooks := .later }
def IsaRoundUptoCardSaid : Prop := Claim7.holds Tryd.pinned (.plain (OpenSpec.upto isaRoundSpec)) isaRoundUptoCard

/-- THE SECOND FORM's CARD OF 'strongtxlaw03.IsaChecks'. -/
def isaChecksUptoCard : Claim7 := { stood := { row := isaChecksUptoRow, standIns := [], harness := (true, "160f9faeb5b80ae6fb6bf80d471de21387d2c23b6e85a7a294cc917e9edc5112"), looks := true }, kinds := [], alts := [], laidByText := true, laidKinds := [.data, .data, .data, .sentinel, .sentinel, .data, .data], laidTests := true, laidLooks := .later }
def IsaChecksUptoCardSaid : Prop := Claim7.holds Tryd.pinned (.plain (OpenSpec.upto isaChecksSpec)) isaChecksUptoCard

/-- THE SECOND FORM's CARD OF 'strongtxlaw03.IsaUses'. -/
def isaUsesUptoCard : Claim7 := { stood := { row := isaUsesUptoRow, standIns := [], harness := (true, "160f9faeb5b80ae6fb6bf80d471de21387d2c23b6e85a7a294cc917e9edc5112"), looks := true }, kinds := [], alts := [], laidByText := true, laidKinds := [.data, .data, .data, .sentinel, .sentinel, .data, .data], laidTests := true, laidLooks := .later }
def IsaUsesUptoCardSaid : Prop := Claim7.holds Tryd.pinned (.plain (OpenSpec.upto isaUsesSpec)) isaUsesUptoCard
end Rows
end Go.Proofs.YtnmfkcggadhdfaaDoor
