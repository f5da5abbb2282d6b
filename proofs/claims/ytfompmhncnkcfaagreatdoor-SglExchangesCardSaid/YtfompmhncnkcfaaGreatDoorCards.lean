/-
  DERIVED. GIVEN WITH THE SEED: THE CARDS: each row of YtfompmhncnkcfaaGreatDoorRows.lean that lists a variable, with what it lists TIED to the program's text (the seventh form; the later family's looks); each row that meets fmt, with fmt's text TOLD by the authors' own Lean function (tested against real Go, not proved from fmt's source: count such statements apart). THE CARD IS WHAT COUNTS. Prove the row's statement (the work); the ties are given (YtfompmhncnkcfaaGreatDoorTie.lean); close each card by the builder's one call (the guide's Derived/Test/ToyasCard.lean, 'card_holds'). Laid BY PROGRAM, IN A SANDBOX (cutbox-door.mjs). By AI agents, Wed Nov 11 2026. No macro, syntax, notation, axiom, sorry.
-/
import Derived.Test.YtfompmhncnkcfaaGreatDoorRows
import GoSem.ClaimSeven
namespace Go.Proofs.YtfompmhncnkcfaaGreatDoor
namespace Rows

/-- THE TIED CARD OF 'strongtxlaw22.SglFollows'. -/
def sglFollowsCard : Claim7 := { stood := { row := sglFollowsRow, standIns := [], harness := (true, "0a2ddd185825abc974758232ef3fcd8a3e2914bd24a760173e0777678cfe3d1b"), looks := true }, kinds := [], alts := [], laidByText := true, laidKinds := [.data], laidTests := true, laidLooks := .later }
def SglFollowsCardSaid : Prop := Claim7.holds Tryz.pinned (.plain (OpenSpec.ofChange sglFollowsSpec)) sglFollowsCard

/-- THE TIED CARD OF 'strongtxlaw22.SglRuns'. -/
def sglRunsCard : Claim7 := { stood := { row := sglRunsRow, standIns := [], harness := (true, "0a2ddd185825abc974758232ef3fcd8a3e2914bd24a760173e0777678cfe3d1b"), looks := true }, kinds := [], alts := [], laidByText := true, laidKinds := [.data], laidTests := true, laidLooks := .later }
def SglRunsCardSaid : Prop := Claim7.holds Tryz.pinned (.plain (OpenSpec.ofChange sglRunsSpec)) sglRunsCard

/-- THE TIED CARD OF 'strongtxlaw22.SglForced'. -/
def sglForcedCard : Claim7 := { stood := { row := sglForcedRow, standIns := [], harness := (true, "0a2ddd185825abc974758232ef3fcd8a3e2914bd24a760173e0777678cfe3d1b"), looks := true }, kinds := [], alts := [], laidByText := true, laidKinds := [.data], laidTests := true, laidLooks := .later }
def SglForcedCardSaid : Prop := Claim7.holds Tryz.pinned (.plain (OpenSpec.ofChange sglForcedSpec)) sglForcedCard

/-- THE TIED CARD OF 'strongtxlaw22.SglAtomic'. -/
def sglAtomicCard : Claim7 := { stood := { row := sglAtomicRow, standIns := [], harness := (true, "0a2ddd185825abc974758232ef3fcd8a3e2914bd24a760173e0777678cfe3d1b"), looks := true }, kinds := [], alts := [], laidByText := true, laidKinds := [.data], laidTests := true, laidLooks := .later }
def SglAtomicCardSaid : Prop := Claim7.holds Tryz.pinned (.plain (OpenSpec.ofChange sglAtomicSpec)) sglAtomicCard

/-- THE TIED CARD OF 'strongtxlaw22.SglExchanges'. -/
def sglExchangesCard : Claim7 := { stood := { row := sglExchangesRow, standIns := [], harness := (true, "0a2ddd185825abc974758232ef3fcd8a3e2914bd24a760173e0777678cfe3d1b"), looks := true }, kinds := [], alts := [], laidByText := true, laidKinds := [.data], laidTests := true, laidLooks := .later }
def SglExchangesCardSaid : Prop := Claim7.holds Tryz.pinned (.plain (OpenSpec.ofChange sglExchangesSpec)) sglExchangesCard

/-- THE TIED CARD OF 'strongtxlaw22.SglNil'. -/
def sglNilCard : Claim7 := { stood := { row := sglNilRow, standIns := [], harness := (true, "0a2ddd185825abc974758232ef3fcd8a3e2914bd24a760173e0777678cfe3d1b"), looks := true }, kinds := [], alts := [], laidByText := true, laidKinds := [.data], laidTests := true, laidLooks := .later }
def SglNilCardSaid : Prop := Claim7.holds Tryz.pinned (.plain (OpenSpec.ofChange sglNilSpec)) sglNilCard

/-- THE SECOND FORM's CARD OF 'strongtxlaw22.SglFollows'. -/
def sglFollowsUptoCard : Claim7 := { stood := { row := sglFollowsUptoRow, standIns := [], harness := (true, "0a2ddd185825abc974758232ef3fcd8a3e2914bd24a760173e0777678cfe3d1b"), looks := true }, kinds := [], alts := [], laidByText := true, laidKinds := [.data], laidTests := true, laidLooks := .later }
def SglFollowsUptoCardSaid : Prop := Claim7.holds Tryz.pinned (.plain (OpenSpec.upto sglFollowsSpec)) sglFollowsUptoCard

/-- THE SECOND FORM's CARD OF 'strongtxlaw22.SglRuns'. -/
def sglRunsUptoCard : Claim7 := { stood := { row := sglRunsUptoRow, standIns := [], harness := (true, "0a2ddd185825abc974758232ef3fcd8a3e2914bd24a760173e0777678cfe3d1b"), looks := true }, kinds := [], alts := [], laidByText := true, laidKinds := [.data], laidTests := true, laidLooks := .later }
def SglRunsUptoCardSaid : Prop := Claim7.holds Tryz.pinned (.plain (OpenSpec.upto sglRunsSpec)) sglRunsUptoCard

/-- THE SECOND FORM's CARD OF 'strongtxlaw22.SglForced'. -/
def sglForcedUptoCard : Claim7 := { stood := { row := sglForcedUptoRow, standIns := [], harness := (true, "0a2ddd185825abc974758232ef3fcd8a3e2914bd24a760173e0777678cfe3d1b"), looks := true }, kinds := [], alts := [], laidByText := true, laidKinds := [.data], laidTests := true, laidLooks := .later }
def SglForcedUptoCardSaid : Prop := Claim7.holds Tryz.pinned (.plain (OpenSpec.upto sglForcedSpec)) sglForcedUptoCard

/-- THE SECOND FORM's CARD OF 'strongtxlaw22.SglAtomic'. -/
def sglAtomicUptoCard : Claim7 := { stood := { row := sglAtomicUptoRow, standIns := [], harness := (true, "0a2ddd185825abc974758232ef3fcd8a3e2914bd24a760173e0777678cfe3d1b"), looks := true }, kinds := [], alts := [], laidByText := true, laidKinds := [.data], laidTests := true, laidLooks := .later }
def SglAtomicUptoCardSaid : Prop := Claim7.holds Tryz.pinned (.plain (OpenSpec.upto sglAtomicSpec)) sglAtomicUptoCard

/-- THE SECOND FORM's CARD OF 'strongtxlaw22.SglExchanges'. -/
def sglExchangesUptoCard : Claim7 := { stood := { row := sglExchangesUptoRow, standIns := [], harness := (true, "0a2ddd185825abc974758232ef3fcd8a3e2914bd24a760173e0777678cfe3d1b"), looks := true }, kinds := [], alts := [], laidByText := true, laidKinds := [.data], laidTests := true, laidLooks := .later }
def SglExchangesUptoCardSaid : Prop := Claim7.holds Tryz.pinned (.plain (OpenSpec.upto sglExchangesSpec)) sglExchangesUptoCard

/-- THE SECOND FORM's CARD OF 'strongtxlaw22.SglNil'. -/
def sglNilUptoCard : Claim7 := { stood := { row := sglNilUptoRow, standIns := [], harness := (true, "0a2ddd185825abc974758232ef3fcd8a3e2914bd24a760173e0777678cfe3d1b"), looks := true }, kinds := [], alts := [], laidByText := true, laidKinds := [.data], laidTests := true, laidLooks := .later }
def SglNilUptoCardSaid : Prop := Claim7.holds Tryz.pinned (.plain (OpenSpec.upto sglNilSpec)) sglNilUptoCard
end Rows
end Go.Proofs.YtfompmhncnkcfaaGreatDoor
