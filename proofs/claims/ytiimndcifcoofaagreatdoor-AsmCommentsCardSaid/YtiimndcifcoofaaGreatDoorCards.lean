/-
  DERIVED. GIVEN WITH THE SEED: THE CARDS: each row of YtiimndcifcoofaaGreatDoorRows.lean that lists a variable, with what it lists TIED to the program's text (the seventh form; the later family's looks); each row that meets fmt, with fmt's text TOLD by the authors' own Lean function (tested against real Go, not proved from fmt's source: count such statements apart). THE CARD IS WHAT COUNTS. Prove the row's statement (the work); the ties are given (YtiimndcifcoofaaGreatDoorTie.lean); close each card by the builder's one call (the guide's Derived/Test/ToyasCard.lean, 'card_holds'). Laid BY PROGRAM, IN A SANDBOX (cutbox-door.mjs). By AI agents, Wed Nov 11 2026. No macro, syntax, notation, axiom, sorry.
-/
import Derived.Test.YtiimndcifcoofaaGreatDoorRows
import GoSem.ClaimSeven
namespace Go.Proofs.YtiimndcifcoofaaGreatDoor
namespace Rows

/-- THE TIED CARD OF 'strongtxlaw03.IsaNear'. -/
def isaNearCard : Claim7 := { stood := { row := isaNearRow, standIns := [], harness := (true, "4b09c122c01dd74a19c302e536874e3d3282ba878cca02cee10ad6e8cbbd403e"), looks := true }, kinds := [], alts := [], laidByText := true, laidKinds := [.data, .data, .data, .sentinel, .sentinel, .data, .data], laidTests := true, laidLooks := .later }
def IsaNearCardSaid : Prop := Claim7.holds Tryz.pinned (.plain (OpenSpec.ofChange isaNearSpec)) isaNearCard

/-- THE TIED CARD OF 'strongtxlaw04.AsmAny'. -/
def asmAnyCard : Claim7 := { stood := { row := asmAnyRow, standIns := [], harness := (true, "4b09c122c01dd74a19c302e536874e3d3282ba878cca02cee10ad6e8cbbd403e"), looks := true }, kinds := [], alts := [], laidByText := true, laidKinds := [.data, .data, .data, .data, .sentinel, .sentinel, .data, .data, .pinned], laidTests := true, laidLooks := .later }
def AsmAnyCardSaid : Prop := Claim7.holds Tryz.pinned (.plain (OpenSpec.ofChange asmAnySpec)) asmAnyCard

/-- THE TIED CARD OF 'strongtxlaw04.AsmDisassembles'. -/
def asmDisassemblesCard : Claim7 := { stood := { row := asmDisassemblesRow, standIns := [], harness := (true, "4b09c122c01dd74a19c302e536874e3d3282ba878cca02cee10ad6e8cbbd403e"), looks := true }, kinds := [], alts := [], laidByText := true, laidKinds := [.data, .data, .data, .data, .sentinel, .sentinel, .data, .data, .pinned], laidTests := true, laidLooks := .later }
def AsmDisassemblesCardSaid : Prop := Claim7.holds Tryz.pinned (.plain (OpenSpec.ofChange asmDisassemblesSpec)) asmDisassemblesCard

/-- THE TIED CARD OF 'strongtxlaw04.AsmRound'. -/
def asmRoundCard : Claim7 := { stood := { row := asmRoundRow, standIns := [], harness := (true, "4b09c122c01dd74a19c302e536874e3d3282ba878cca02cee10ad6e8cbbd403e"), looks := true }, kinds := [], alts := [], laidByText := true, laidKinds := [.data, .data, .data, .data, .sentinel, .sentinel, .data, .data, .pinned], laidTests := true, laidLooks := .later }
def AsmRoundCardSaid : Prop := Claim7.holds Tryz.pinned (.plain (OpenSpec.ofChange asmRoundSpec)) asmRoundCard

/-- THE TIED CARD OF 'strongtxlaw04.AsmComments'. -/
def asmCommentsCard : Claim7 := { stood := { row := asmCommentsRow, standIns := [], harness := (true, "4b09c122c01dd74a19c302e536874e3d3282ba878cca02cee10ad6e8cbbd403e"), looks := true }, kinds := [], alts := [], laidByText := true, laidKinds := [.data, .data, .data, .data, .sentinel, .sentinel, .data, .data, .pinned], laidTests := true, laidLooks := .later }
def AsmCommentsCardSaid : Prop := Claim7.holds Tryz.pinned (.plain (OpenSpec.ofChange asmCommentsSpec)) asmCommentsCard

/-- THE TIED CARD OF 'strongtxlaw04.AsmTexts'. -/
def asmTextsCard : Claim7 := { stood := { row := asmTextsRow, standIns := [], harness := (true, "4b09c122c01dd74a19c302e536874e3d3282ba878cca02cee10ad6e8cbbd403e"), looks := true }, kinds := [], alts := [], laidByText := true, laidKinds := [.data, .data, .data, .data, .sentinel, .sentinel, .data, .data, .pinned], laidTests := true, laidLooks := .later }
def AsmTextsCardSaid : Prop := Claim7.holds Tryz.pinned (.plain (OpenSpec.ofChange asmTextsSpec)) asmTextsCard

/-- THE TIED CARD OF 'strongtxlaw04.AsmLimits'. -/
def asmLimitsCard : Claim7 := { stood := { row := asmLimitsRow, standIns := [], harness := (true, "4b09c122c01dd74a19c302e536874e3d3282ba878cca02cee10ad6e8cbbd403e"), looks := true }, kinds := [], alts := [], laidByText := true, laidKinds := [.data, .data, .data, .data, .sentinel, .sentinel, .data, .data, .pinned], laidTests := true, laidLooks := .later }
def AsmLimitsCardSaid : Prop := Claim7.holds Tryz.pinned (.plain (OpenSpec.ofChange asmLimitsSpec)) asmLimitsCard

/-- THE SECOND FORM's CARD OF 'strongtxlaw03.IsaNear'. -/
def isaNearUptoCard : Claim7 := { stood := { row := isaNearUptoRow, standIns := [], harness := (true, "4b09c122c01dd74a19c302e536874e3d3282ba878cca02cee10ad6e8cbbd403e"), looks := true }, kinds := [], alts := [], laidByText := true, laidKinds := [.data, .data, .data, .sentinel, .sentinel, .data, .data], laidTests := true, laidLooks := .later }
def IsaNearUptoCardSaid : Prop := Claim7.holds Tryz.pinned (.plain (OpenSpec.upto isaNearSpec)) isaNearUptoCard

/-- THE SECOND FORM's CARD OF 'strongtxlaw04.AsmAny'. -/
def asmAnyUptoCard : Claim7 := { stood := { row := asmAnyUptoRow, standIns := [], harness := (true, "4b09c122c01dd74a19c302e536874e3d3282ba878cca02cee10ad6e8cbbd403e"), looks := true }, kinds := [], alts := [], laidByText := true, laidKinds := [.data, .data, .data, .data, .sentinel, .sentinel, .data, .data, .pinned], laidTests := true, laidLooks := .later }
def AsmAnyUptoCardSaid : Prop := Claim7.holds Tryz.pinned (.plain (OpenSpec.upto asmAnySpec)) asmAnyUptoCard

/-- THE SECOND FORM's CARD OF 'strongtxlaw04.AsmDisassembles'. -/
def asmDisassemblesUptoCard : Claim7 := { stood := { row := asmDisassemblesUptoRow, standIns := [], harness := (true, "4b09c122c01dd74a19c302e536874e3d3282ba878cca02cee10ad6e8cbbd403e"), looks := true }, kinds := [], alts := [], laidByText := true, laidKinds := [.data, .data, .data, .data, .sentinel, .sentinel, .data, .data, .pinned], laidTests := true, laidLooks := .later }
def AsmDisassemblesUptoCardSaid : Prop := Claim7.holds Tryz.pinned (.plain (OpenSpec.upto asmDisassemblesSpec)) asmDisassemblesUptoCard

/-- THE SECOND FORM's CARD OF 'strongtxlaw04.AsmRound'. -/
def asmRoundUptoCard : Claim7 := { stood := { row := asmRoundUptoRow, standIns := [], harness := (true, "4b09c122c01dd74a19c302e536874e3d3282ba878cca02cee10ad6e8cbbd403e"), looks := true }, kinds := [], alts := [], laidByText := true, laidKinds := [.data, .data, .data, .data, .sentinel, .sentinel, .data, .data, .pinned], laidTests := true, laidLooks := .later }
def AsmRoundUptoCardSaid : Prop := Claim7.holds Tryz.pinned (.plain (OpenSpec.upto asmRoundSpec)) asmRoundUptoCard

/-- THE SECOND FORM's CARD OF 'strongtxlaw04.AsmComments'. -/
def asmCommentsUptoCard : Claim7 := { stood := { row := asmCommentsUptoRow, standIns := [], harness := (true, "4b09c122c01dd74a19c302e536874e3d3282ba878cca02cee10ad6e8cbbd403e"), looks := true }, kinds := [], alts := [], laidByText := true, laidKinds := [.data, .data, .data, .data, .sentinel, .sentinel, .data, .data, .pinned], laidTests := true, laidLooks := .later }
def AsmCommentsUptoCardSaid : Prop := Claim7.holds Tryz.pinned (.plain (OpenSpec.upto asmCommentsSpec)) asmCommentsUptoCard

/-- THE SECOND FORM's CARD OF 'strongtxlaw04.AsmTexts'. -/
def asmTextsUptoCard : Claim7 := { stood := { row := asmTextsUptoRow, standIns := [], harness := (true, "4b09c122c01dd74a19c302e536874e3d3282ba878cca02cee10ad6e8cbbd403e"), looks := true }, kinds := [], alts := [], laidByText := true, laidKinds := [.data, .data, .data, .data, .sentinel, .sentinel, .data, .data, .pinned], laidTests := true, laidLooks := .later }
def AsmTextsUptoCardSaid : Prop := Claim7.holds Tryz.pinned (.plain (OpenSpec.upto asmTextsSpec)) asmTextsUptoCard

/-- THE SECOND FORM's CARD OF 'strongtxlaw04.AsmLimits'. -/
def asmLimitsUptoCard : Claim7 := { stood := { row := asmLimitsUptoRow, standIns := [], harness := (true, "4b09c122c01dd74a19c302e536874e3d3282ba878cca02cee10ad6e8cbbd403e"), looks := true }, kinds := [], alts := [], laidByText := true, laidKinds := [.data, .data, .data, .data, .sentinel, .sentinel, .data, .data, .pinned], laidTests := true, laidLooks := .later }
def AsmLimitsUptoCardSaid : Prop := Claim7.holds Tryz.pinned (.plain (OpenSpec.upto asmLimitsSpec)) asmLimitsUptoCard
end Rows
end Go.Proofs.YtiimndcifcoofaaGreatDoor
