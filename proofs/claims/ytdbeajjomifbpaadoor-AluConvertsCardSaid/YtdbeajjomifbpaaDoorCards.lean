/-
  DERIVED. GIVEN WITH THE SEED: THE CARDS: each row of YtdbeajjomifbpaaDoorRows.lean that lists a variable, with what it lists TIED to the program's text (the seventh form; the later family's looks); each row that meets fmt, with fmt's text TOLD by the authors' own Lean function (tested against real Go, not proved from fmt's source: count such statements apart). THE CARD IS WHAT COUNTS. Prove the row's statement (the work); the ties are given (YtdbeajjomifbpaaDoorTie.lean); close each card by the builder's one call (the guide's Derived/Test/ToyasCard.lean, 'card_holds'). Laid BY PROGRAM, IN A SANDBOX (cutbox-door.mjs). By AI agents, Wed Nov 11 2026. No macro, syntax, notation, axiom, sorry.
-/
import Derived.Test.YtdbeajjomifbpaaDoorRows
import GoSem.ClaimSeven
namespace Go.Proofs.YtdbeajjomifbpaaDoor
namespace Rows

/-- THE TIED CARD OF 'strongtxlaw02.AluApplies'. -/
def aluAppliesCard : Claim7 := { stood := { row := aluAppliesRow, standIns := [], harness := (true, "523a3da0fe8b6e1049688d24bd9957c0d8c4d27a9959168b54ed92fc39f641dd"), looks := false }, kinds := [], alts := [], laidByText := true, laidKinds := [.data], laidTests := true, laidLooks := .later }
def AluAppliesCardSaid : Prop := Claim7.holds Tryd.pinned (.plain (OpenSpec.ofChange aluAppliesSpec)) aluAppliesCard

/-- THE TIED CARD OF 'strongtxlaw02.AluAll'. -/
def aluAllCard : Claim7 := { stood := { row := aluAllRow, standIns := [], harness := (true, "523a3da0fe8b6e1049688d24bd9957c0d8c4d27a9959168b54ed92fc39f641dd"), looks := false }, kinds := [], alts := [], laidByText := true, laidKinds := [.data], laidTests := true, laidLooks := .later }
def AluAllCardSaid : Prop := Claim7.holds Tryd.pinned (.plain (OpenSpec.ofChange aluAllSpec)) aluAllCard

/-- THE TIED CARD OF 'strongtxlaw02.AluWhole'. -/
def aluWholeCard : Claim7 := { stood := { row := aluWholeRow, standIns := [], harness := (true, "523a3da0fe8b6e1049688d24bd9957c0d8c4d27a9959168b54ed92fc39f641dd"), looks := false }, kinds := [], alts := [], laidByText := true, laidKinds := [.data], laidTests := true, laidLooks := .later }
def AluWholeCardSaid : Prop := Claim7.holds Tryd.pinned (.plain (OpenSpec.ofChange aluWholeSpec)) aluWholeCard

/-- THE TIED CARD OF 'strongtxlaw02.AluFloats'. -/
def aluFloatsCard : Claim7 := { stood := { row := aluFloatsRow, standIns := [], harness := (true, "523a3da0fe8b6e1049688d24bd9957c0d8c4d27a9959168b54ed92fc39f641dd"), looks := false }, kinds := [], alts := [], laidByText := true, laidKinds := [.data], laidTests := true, laidLooks := .later }
def AluFloatsCardSaid : Prop := Claim7.holds Tryd.pinned (.plain (OpenSpec.ofChange aluFloatsSpec)) aluFloatsCard

/-- THE TIED CARD OF 'strongtxlaw02.AluMinMax'. -/
def aluMinMaxCard : Claim7 := { stood := { row := aluMinMaxRow, standIns := [], harness := (true, "523a3da0fe8b6e1049688d24bd9957c0d8c4d27a9959168b54ed92fc39f641dd"), looks := false }, kinds := [], alts := [], laidByText := true, laidKinds := [.data], laidTests := true, laidLooks := .later }
def AluMinMaxCardSaid : Prop := Claim7.holds Tryd.pinned (.plain (OpenSpec.ofChange aluMinMaxSpec)) aluMinMaxCard

/-- THE TIED CARD OF 'strongtxlaw02.AluCompares'. -/
def aluComparesCard : Claim7 := { stood := { row := aluComparesRow, standIns := [], harness := (true, "523a3da0fe8b6e1049688d24bd9957c0d8c4d27a9959168b54ed92fc39f641dd"), looks := false }, kinds := [], alts := [], laidByText := true, laidKinds := [.data], laidTests := true, laidLooks := .later }
def AluComparesCardSaid : Prop := Claim7.holds Tryd.pinned (.plain (OpenSpec.ofChange aluComparesSpec)) aluComparesCard

/-- THE TIED CARD OF 'strongtxlaw02.AluConverts'. -/
def aluConvertsCard : Claim7 := { stood := { row := aluConvertsRow, standIns := [], harness := (true, "523a3da0fe8b6e1049688d24bd9957c0d8c4d27a9959168b54ed92fc39f641dd"), looks := false }, kinds := [], alts := [], laidByText := true, laidKinds := [.data], laidTests := true, laidLooks := .later }
def AluConvertsCardSaid : Prop := Claim7.holds Tryd.pinned (.plain (OpenSpec.ofChange aluConvertsSpec)) aluConvertsCard

/-- THE TIED CARD OF 'strongtxlaw02.AluNames'. -/
def aluNamesCard : Claim7 := { stood := { row := aluNamesRow, standIns := [], harness := (true, "523a3da0fe8b6e1049688d24bd9957c0d8c4d27a9959168b54ed92fc39f641dd"), looks := false }, kinds := [], alts := [], laidByText := true, laidKinds := [.data], laidTests := true, laidLooks := .later }
def AluNamesCardSaid : Prop := Claim7.holds Tryd.pinned (.plain (OpenSpec.ofChange aluNamesSpec)) aluNamesCard

/-- THE SECOND FORM's CARD OF 'strongtxlaw02.AluApplies'. -/
def aluAppliesUptoCard : Claim7 := { stood := { row := aluAppliesUptoRow, standIns := [], harness := (true, "523a3da0fe8b6e1049688d24bd9957c0d8c4d27a9959168b54ed92fc39f641dd"), looks := false }, kinds := [], alts := [], laidByText := true, laidKinds := [.data], laidTests := true, laidLooks := .later }
def AluAppliesUptoCardSaid : Prop := Claim7.holds Tryd.pinned (.plain (OpenSpec.upto aluAppliesSpec)) aluAppliesUptoCard

/-- THE SECOND FORM's CARD OF 'strongtxlaw02.AluAll'. -/
def aluAllUptoCard : Claim7 := { stood := { row := aluAllUptoRow, standIns := [], harness := (true, "523a3da0fe8b6e1049688d24bd9957c0d8c4d27a9959168b54ed92fc39f641dd"), looks := false }, kinds := [], alts := [], laidByText := true, laidKinds := [.data], laidTests := true, laidLooks := .later }
def AluAllUptoCardSaid : Prop := Claim7.holds Tryd.pinned (.plain (OpenSpec.upto aluAllSpec)) aluAllUptoCard

/-- THE SECOND FORM's CARD OF 'strongtxlaw02.AluWhole'. -/
def aluWholeUptoCard : Claim7 := { stood := { row := aluWholeUptoRow, standIns := [], harness := (true, "523a3da0fe8b6e1049688d24bd9957c0d8c4d27a9959168b54ed92fc39f641dd"), looks := false }, kinds := [], alts := [], laidByText := true, laidKinds := [.data], laidTests := true, laidLooks := .later }
def AluWholeUptoCardSaid : Prop := Claim7.holds Tryd.pinned (.plain (OpenSpec.upto aluWholeSpec)) aluWholeUptoCard

/-- THE SECOND FORM's CARD OF 'strongtxlaw02.AluFloats'. -/
def aluFloatsUptoCard : Claim7 := { stood := { row := aluFloatsUptoRow, standIns := [], harness := (true, "523a3da0fe8b6e1049688d24bd9957c0d8c4d27a9959168b54ed92fc39f641dd"), looks := false }, kinds := [], alts := [], laidByText := true, laidKinds := [.data], laidTests := true, laidLooks := .later }
def AluFloatsUptoCardSaid : Prop := Claim7.holds Tryd.pinned (.plain (OpenSpec.upto aluFloatsSpec)) aluFloatsUptoCard

/-- THE SECOND FORM's CARD OF 'strongtxlaw02.AluMinMax'. -/
def aluMinMaxUptoCard : Claim7 := { stood := { row := aluMinMaxUptoRow, standIns := [], harness := (true, "523a3da0fe8b6e1049688d24bd9957c0d8c4d27a9959168b54ed92fc39f641dd"), looks := false }, kinds := [], alts := [], laidByText := true, laidKinds := [.data], laidTests := true, laidLooks := .later }
def AluMinMaxUptoCardSaid : Prop := Claim7.holds Tryd.pinned (.plain (OpenSpec.upto aluMinMaxSpec)) aluMinMaxUptoCard

/-- THE SECOND FORM's CARD OF 'strongtxlaw02.AluCompares'. -/
def aluComparesUptoCard : Claim7 := { stood := { row := aluComparesUptoRow, standIns := [], harness := (true, "523a3da0fe8b6e1049688d24bd9957c0d8c4d27a9959168b54ed92fc39f641dd"), looks := false }, kinds := [], alts := [], laidByText := true, laidKinds := [.data], laidTests := true, laidLooks := .later }
def AluComparesUptoCardSaid : Prop := Claim7.holds Tryd.pinned (.plain (OpenSpec.upto aluComparesSpec)) aluComparesUptoCard

/-- THE SECOND FORM's CARD OF 'strongtxlaw02.AluConverts'. -/
def aluConvertsUptoCard : Claim7 := { stood := { row := aluConvertsUptoRow, standIns := [], harness := (true, "523a3da0fe8b6e1049688d24bd9957c0d8c4d27a9959168b54ed92fc39f641dd"), looks := false }, kinds := [], alts := [], laidByText := true, laidKinds := [.data], laidTests := true, laidLooks := .later }
def AluConvertsUptoCardSaid : Prop := Claim7.holds Tryd.pinned (.plain (OpenSpec.upto aluConvertsSpec)) aluConvertsUptoCard

/-- THE SECOND FORM's CARD OF 'strongtxlaw02.AluNames'. -/
def aluNamesUptoCard : Claim7 := { stood := { row := aluNamesUptoRow, standIns := [], harness := (true, "523a3da0fe8b6e1049688d24bd9957c0d8c4d27a9959168b54ed92fc39f641dd"), looks := false }, kinds := [], alts := [], laidByText := true, laidKinds := [.data], laidTests := true, laidLooks := .later }
def AluNamesUptoCardSaid : Prop := Claim7.holds Tryd.pinned (.plain (OpenSpec.upto aluNamesSpec)) aluNamesUptoCard
end Rows
end Go.Proofs.YtdbeajjomifbpaaDoor
