/-
  DERIVED. GIVEN WITH THE SEED: THE CARDS: each row of YtofjnldidkiihaaDoorRows.lean that lists a variable, with what it lists TIED to the program's text (the seventh form; the later family's looks); each row that meets fmt, with fmt's text TOLD by the authors' own Lean function (tested against real Go, not proved from fmt's source: count such statements apart). THE CARD IS WHAT COUNTS. Prove the row's statement (the work); the ties are given (YtofjnldidkiihaaDoorTie.lean); close each card by the builder's one call (the guide's Derived/Test/ToyasCard.lean, 'card_holds'). Laid BY PROGRAM, IN A SANDBOX (cutbox-door.mjs). By AI agents, Wed Nov 11 2026. No macro, syntax, notation, axiom, sorry.
-/
import Derived.Test.YtofjnldidkiihaaDoorRows
import GoSem.ClaimSeven
namespace Go.Proofs.YtofjnldidkiihaaDoor
namespace Rows

/-- THE TIED CARD OF 'strongtxlaw25.TdrfFinds'. -/
def tdrfFindsCard : Claim7 := { stood := { row := tdrfFindsRow, standIns := [], harness := (true, "2bc852bd85afda713ef57f9a4728bd5aad2482ca4d7857e69830dd42229a96e7"), looks := false }, kinds := [], alts := [], laidByText := true, laidKinds := [.data], laidTests := true, laidLooks := .later }
def TdrfFindsCardSaid : Prop := Claim7.holds Tryd.pinned (.plain (OpenSpec.ofChange tdrfFindsSpec)) tdrfFindsCard

/-- THE TIED CARD OF 'strongtxlaw25.TdrfAny'. -/
def tdrfAnyCard : Claim7 := { stood := { row := tdrfAnyRow, standIns := [], harness := (true, "2bc852bd85afda713ef57f9a4728bd5aad2482ca4d7857e69830dd42229a96e7"), looks := false }, kinds := [], alts := [], laidByText := true, laidKinds := [.data], laidTests := true, laidLooks := .later }
def TdrfAnyCardSaid : Prop := Claim7.holds Tryd.pinned (.plain (OpenSpec.ofChange tdrfAnySpec)) tdrfAnyCard

/-- THE TIED CARD OF 'strongtxlaw25.TdrfOnline'. -/
def tdrfOnlineCard : Claim7 := { stood := { row := tdrfOnlineRow, standIns := [], harness := (true, "2bc852bd85afda713ef57f9a4728bd5aad2482ca4d7857e69830dd42229a96e7"), looks := false }, kinds := [], alts := [], laidByText := true, laidKinds := [.data], laidTests := true, laidLooks := .later }
def TdrfOnlineCardSaid : Prop := Claim7.holds Tryd.pinned (.plain (OpenSpec.ofChange tdrfOnlineSpec)) tdrfOnlineCard

/-- THE TIED CARD OF 'strongtxlaw25.TdrfFree'. -/
def tdrfFreeCard : Claim7 := { stood := { row := tdrfFreeRow, standIns := [], harness := (true, "2bc852bd85afda713ef57f9a4728bd5aad2482ca4d7857e69830dd42229a96e7"), looks := false }, kinds := [], alts := [], laidByText := true, laidKinds := [.data], laidTests := true, laidLooks := .later }
def TdrfFreeCardSaid : Prop := Claim7.holds Tryd.pinned (.plain (OpenSpec.ofChange tdrfFreeSpec)) tdrfFreeCard

/-- THE TIED CARD OF 'strongtxlaw24.OrderPartial'. -/
def orderPartialCard : Claim7 := { stood := { row := orderPartialRow, standIns := [], harness := (true, "2bc852bd85afda713ef57f9a4728bd5aad2482ca4d7857e69830dd42229a96e7"), looks := false }, kinds := [], alts := [], laidByText := true, laidKinds := [.data], laidTests := true, laidLooks := .later }
def OrderPartialCardSaid : Prop := Claim7.holds Tryd.pinned (.plain (OpenSpec.ofChange orderPartialSpec)) orderPartialCard

/-- THE TIED CARD OF 'strongtxlaw24.OrderPublishes'. -/
def orderPublishesCard : Claim7 := { stood := { row := orderPublishesRow, standIns := [], harness := (true, "2bc852bd85afda713ef57f9a4728bd5aad2482ca4d7857e69830dd42229a96e7"), looks := false }, kinds := [], alts := [], laidByText := true, laidKinds := [.data], laidTests := true, laidLooks := .later }
def OrderPublishesCardSaid : Prop := Claim7.holds Tryd.pinned (.plain (OpenSpec.ofChange orderPublishesSpec)) orderPublishesCard

/-- THE TIED CARD OF 'strongtxlaw25.TdrfRefuses'. -/
def tdrfRefusesCard : Claim7 := { stood := { row := tdrfRefusesRow, standIns := [], harness := (true, "2bc852bd85afda713ef57f9a4728bd5aad2482ca4d7857e69830dd42229a96e7"), looks := false }, kinds := [], alts := [], laidByText := true, laidKinds := [.data], laidTests := true, laidLooks := .later }
def TdrfRefusesCardSaid : Prop := Claim7.holds Tryd.pinned (.plain (OpenSpec.ofChange tdrfRefusesSpec)) tdrfRefusesCard

/-- THE TIED CARD OF 'strongtxlaw25.TdrfClocks'. -/
def tdrfClocksCard : Claim7 := { stood := { row := tdrfClocksRow, standIns := [], harness := (true, "2bc852bd85afda713ef57f9a4728bd5aad2482ca4d7857e69830dd42229a96e7"), looks := false }, kinds := [], alts := [], laidByText := true, laidKinds := [.data], laidTests := true, laidLooks := .later }
def TdrfClocksCardSaid : Prop := Claim7.holds Tryd.pinned (.plain (OpenSpec.ofChange tdrfClocksSpec)) tdrfClocksCard

/-- THE TIED CARD OF 'strongtxlaw24.OrderAny'. -/
def orderAnyCard : Claim7 := { stood := { row := orderAnyRow, standIns := [], harness := (true, "2bc852bd85afda713ef57f9a4728bd5aad2482ca4d7857e69830dd42229a96e7"), looks := false }, kinds := [], alts := [], laidByText := true, laidKinds := [.data], laidTests := true, laidLooks := .later }
def OrderAnyCardSaid : Prop := Claim7.holds Tryd.pinned (.plain (OpenSpec.ofChange orderAnySpec)) orderAnyCard

/-- THE TIED CARD OF 'strongtxlaw24.OrderMade'. -/
def orderMadeCard : Claim7 := { stood := { row := orderMadeRow, standIns := [], harness := (true, "2bc852bd85afda713ef57f9a4728bd5aad2482ca4d7857e69830dd42229a96e7"), looks := false }, kinds := [], alts := [], laidByText := true, laidKinds := [.data], laidTests := true, laidLooks := .later }
def OrderMadeCardSaid : Prop := Claim7.holds Tryd.pinned (.plain (OpenSpec.ofChange orderMadeSpec)) orderMadeCard

/-- THE TIED CARD OF 'strongtxlaw24.OrderSpoiled'. -/
def orderSpoiledCard : Claim7 := { stood := { row := orderSpoiledRow, standIns := [], harness := (true, "2bc852bd85afda713ef57f9a4728bd5aad2482ca4d7857e69830dd42229a96e7"), looks := false }, kinds := [], alts := [], laidByText := true, laidKinds := [.data], laidTests := true, laidLooks := .later }
def OrderSpoiledCardSaid : Prop := Claim7.holds Tryd.pinned (.plain (OpenSpec.ofChange orderSpoiledSpec)) orderSpoiledCard

/-- THE TIED CARD OF 'strongtxlaw24.OrderRaces'. -/
def orderRacesCard : Claim7 := { stood := { row := orderRacesRow, standIns := [], harness := (true, "2bc852bd85afda713ef57f9a4728bd5aad2482ca4d7857e69830dd42229a96e7"), looks := false }, kinds := [], alts := [], laidByText := true, laidKinds := [.data], laidTests := true, laidLooks := .later }
def OrderRacesCardSaid : Prop := Claim7.holds Tryd.pinned (.plain (OpenSpec.ofChange orderRacesSpec)) orderRacesCard

/-- THE TIED CARD OF 'strongtxlaw24.OrderGrows'. -/
def orderGrowsCard : Claim7 := { stood := { row := orderGrowsRow, standIns := [], harness := (true, "2bc852bd85afda713ef57f9a4728bd5aad2482ca4d7857e69830dd42229a96e7"), looks := false }, kinds := [], alts := [], laidByText := true, laidKinds := [.data], laidTests := true, laidLooks := .later }
def OrderGrowsCardSaid : Prop := Claim7.holds Tryd.pinned (.plain (OpenSpec.ofChange orderGrowsSpec)) orderGrowsCard

/-- THE SECOND FORM's CARD OF 'strongtxlaw25.TdrfFinds'. -/
def tdrfFindsUptoCard : Claim7 := { stood := { row := tdrfFindsUptoRow, standIns := [], harness := (true, "2bc852bd85afda713ef57f9a4728bd5aad2482ca4d7857e69830dd42229a96e7"), looks := false }, kinds := [], alts := [], laidByText := true, laidKinds := [.data], laidTests := true, laidLooks := .later }
def TdrfFindsUptoCardSaid : Prop := Claim7.holds Tryd.pinned (.plain (OpenSpec.upto tdrfFindsSpec)) tdrfFindsUptoCard

/-- THE SECOND FORM's CARD OF 'strongtxlaw25.TdrfAny'. -/
def tdrfAnyUptoCard : Claim7 := { stood := { row := tdrfAnyUptoRow, standIns := [], harness := (true, "2bc852bd85afda713ef57f9a4728bd5aad2482ca4d7857e69830dd42229a96e7"), looks := false }, kinds := [], alts := [], laidByText := true, laidKinds := [.data], laidTests := true, laidLooks := .later }
def TdrfAnyUptoCardSaid : Prop := Claim7.holds Tryd.pinned (.plain (OpenSpec.upto tdrfAnySpec)) tdrfAnyUptoCard

/-- THE SECOND FORM's CARD OF 'strongtxlaw25.TdrfOnline'. -/
def tdrfOnlineUptoCard : Claim7 := { stood := { row := tdrfOnlineUptoRow, standIns := [], harness := (true, "2bc852bd85afda713ef57f9a4728bd5aad2482ca4d7857e69830dd42229a96e7"), looks := false }, kinds := [], alts := [], laidByText := true, laidKinds := [.data], laidTests := true, laidLooks := .later }
def TdrfOnlineUptoCardSaid : Prop := Claim7.holds Tryd.pinned (.plain (OpenSpec.upto tdrfOnlineSpec)) tdrfOnlineUptoCard

/-- THE SECOND FORM's CARD OF 'strongtxlaw25.TdrfFree'. -/
def tdrfFreeUptoCard : Claim7 := { stood := { row := tdrfFreeUptoRow, standIns := [], harness := (true, "2bc852bd85afda713ef57f9a4728bd5aad2482ca4d7857e69830dd42229a96e7"), looks := false }, kinds := [], alts := [], laidByText := true, laidKinds := [.data], laidTests := true, laidLooks := .later }
def TdrfFreeUptoCardSaid : Prop := Claim7.holds Tryd.pinned (.plain (OpenSpec.upto tdrfFreeSpec)) tdrfFreeUptoCard

/-- THE SECOND FORM's CARD OF 'strongtxlaw24.OrderPartial'. -/
def orderPartialUptoCard : Claim7 := { stood := { row := orderPartialUptoRow, standIns := [], harness := (true, "2bc852bd85afda713ef57f9a4728bd5aad2482ca4d7857e69830dd42229a96e7"), looks := false }, kinds := [], alts := [], laidByText := true, laidKinds := [.data], laidTests := true, laidLooks := .later }
def OrderPartialUptoCardSaid : Prop := Claim7.holds Tryd.pinned (.plain (OpenSpec.upto orderPartialSpec)) orderPartialUptoCard

/-- THE SECOND FORM's CARD OF 'strongtxlaw24.OrderPublishes'. -/
def orderPublishesUptoCard : Claim7 := { stood := { row := orderPublishesUptoRow, standIns := [], harness := (true, "2bc852bd85afda713ef57f9a4728bd5aad2482ca4d7857e69830dd42229a96e7"), looks := false }, kinds := [], alts := [], laidByText := true, laidKinds := [.data], laidTests := true, laidLooks := .later }
def OrderPublishesUptoCardSaid : Prop := Claim7.holds Tryd.pinned (.plain (OpenSpec.upto orderPublishesSpec)) orderPublishesUptoCard

/-- THE SECOND FORM's CARD OF 'strongtxlaw25.TdrfRefuses'. -/
def tdrfRefusesUptoCard : Claim7 := { stood := { row := tdrfRefusesUptoRow, standIns := [], harness := (true, "2bc852bd85afda713ef57f9a4728bd5aad2482ca4d7857e69830dd42229a96e7"), looks := false }, kinds := [], alts := [], laidByText := true, laidKinds := [.data], laidTests := true, laidLooks := .later }
def TdrfRefusesUptoCardSaid : Prop := Claim7.holds Tryd.pinned (.plain (OpenSpec.upto tdrfRefusesSpec)) tdrfRefusesUptoCard

/-- THE SECOND FORM's CARD OF 'strongtxlaw25.TdrfClocks'. -/
def tdrfClocksUptoCard : Claim7 := { stood := { row := tdrfClocksUptoRow, standIns := [], harness := (true, "2bc852bd85afda713ef57f9a4728bd5aad2482ca4d7857e69830dd42229a96e7"), looks := false }, kinds := [], alts := [], laidByText := true, laidKinds := [.data], laidTests := true, laidLooks := .later }
def TdrfClocksUptoCardSaid : Prop := Claim7.holds Tryd.pinned (.plain (OpenSpec.upto tdrfClocksSpec)) tdrfClocksUptoCard

/-- THE SECOND FORM's CARD OF 'strongtxlaw24.OrderAny'. -/
def orderAnyUptoCard : Claim7 := { stood := { row := orderAnyUptoRow, standIns := [], harness := (true, "2bc852bd85afda713ef57f9a4728bd5aad2482ca4d7857e69830dd42229a96e7"), looks := false }, kinds := [], alts := [], laidByText := true, laidKinds := [.data], laidTests := true, laidLooks := .later }
def OrderAnyUptoCardSaid : Prop := Claim7.holds Tryd.pinned (.plain (OpenSpec.upto orderAnySpec)) orderAnyUptoCard

/-- THE SECOND FORM's CARD OF 'strongtxlaw24.OrderMade'. -/
def orderMadeUptoCard : Claim7 := { stood := { row := orderMadeUptoRow, standIns := [], harness := (true, "2bc852bd85afda713ef57f9a4728bd5aad2482ca4d7857e69830dd42229a96e7"), looks := false }, kinds := [], alts := [], laidByText := true, laidKinds := [.data], laidTests := true, laidLooks := .later }
def OrderMadeUptoCardSaid : Prop := Claim7.holds Tryd.pinned (.plain (OpenSpec.upto orderMadeSpec)) orderMadeUptoCard

/-- THE SECOND FORM's CARD OF 'strongtxlaw24.OrderSpoiled'. -/
def orderSpoiledUptoCard : Claim7 := { stood := { row := orderSpoiledUptoRow, standIns := [], harness := (true, "2bc852bd85afda713ef57f9a4728bd5aad2482ca4d7857e69830dd42229a96e7"), looks := false }, kinds := [], alts := [], laidByText := true, laidKinds := [.data], laidTests := true, laidLooks := .later }
def OrderSpoiledUptoCardSaid : Prop := Claim7.holds Tryd.pinned (.plain (OpenSpec.upto orderSpoiledSpec)) orderSpoiledUptoCard

/-- THE SECOND FORM's CARD OF 'strongtxlaw24.OrderRaces'. -/
def orderRacesUptoCard : Claim7 := { stood := { row := orderRacesUptoRow, standIns := [], harness := (true, "2bc852bd85afda713ef57f9a4728bd5aad2482ca4d7857e69830dd42229a96e7"), looks := false }, kinds := [], alts := [], laidByText := true, laidKinds := [.data], laidTests := true, laidLooks := .later }
def OrderRacesUptoCardSaid : Prop := Claim7.holds Tryd.pinned (.plain (OpenSpec.upto orderRacesSpec)) orderRacesUptoCard

/-- THE SECOND FORM's CARD OF 'strongtxlaw24.OrderGrows'. -/
def orderGrowsUptoCard : Claim7 := { stood := { row := orderGrowsUptoRow, standIns := [], harness := (true, "2bc852bd85afda713ef57f9a4728bd5aad2482ca4d7857e69830dd42229a96e7"), looks := false }, kinds := [], alts := [], laidByText := true, laidKinds := [.data], laidTests := true, laidLooks := .later }
def OrderGrowsUptoCardSaid : Prop := Claim7.holds Tryd.pinned (.plain (OpenSpec.upto orderGrowsSpec)) orderGrowsUptoCard
end Rows
end Go.Proofs.YtofjnldidkiihaaDoor
