/-
  NARROWER THAN 'FOR EVERY INPUT', by the rows' own cells (each row's printed sentence says how): TdrfFinds: laid · TdrfAny: laid · TdrfOnline: laid · TdrfFree: laid · OrderPartial: laid · OrderPublishes: laid · TdrfRefuses: laid · TdrfClocks: laid · OrderAny: laid · OrderMade: laid · OrderSpoiled: laid · OrderRaces: laid · OrderGrows: laid.
  DERIVED. THE GIVEN ROWS OF THIS SEAT. 13 by the template 'for every input the law returns true; each argument reads behind the call as it read before'; 0 by the template 'total and deterministic' (their statements: YtofjnldidkiihaaDoorTotals.lean).
  GIVEN WITH THE SEED: the statements are not yours to turn. If you find one false, say at which input.
  Laid BY PROGRAM, IN A SANDBOX (cutbox-rows.mjs): the forced cells as the released guide's own fill.sh prints them over the translation 8ce567cc695d6c7e… (all of the seat's roots in one cut). By AI agents, Wed Nov 11 2026. No macro, syntax, notation, axiom, sorry.
-/
import Derived.Test.YtofjnldidkiihaaDoorChecked
import GoSem.Claim
import GoSem.ClaimJoined
import GoSem.ClaimMapViews
import Derived.JoinedTies
import Derived.KernelRfl
namespace Go.Proofs.YtofjnldidkiihaaDoor
/- THE CELL 'sum', in the pinned program and in every row, IS THE sha256 OF THE DUMP (.gsa) THAT YtofjnldidkiihaaDoorProg.lean LOADS. Nothing in Lean hashes anything: it is a label: what it is worth is what the hold of that sum in a sandbox is worth. -/
noncomputable def Tryd.pinned : Pinned := { name := "ytofjnldidkiihaadoor", sum := "8ce567cc695d6c7e9e56278d88d3560ee696e8fd6d9b1194d001354cbc5b93c7", checked := Tryd.checked }
namespace Rows
def none {H : Type} : Left H := { results := [], args := [] }

/- WHAT THE LISTED PACKAGE-LEVEL VARIABLES READ AS WHEN THE CALL BEGINS. Each datum BY PROGRAM (the guide's laid-datum.mjs) off the statement by which the dump's own 'gosem.cut.vars' lays the variable. In a bare row this is a premise. The card (YtofjnldidkiihaaDoorCards.lean) ties it to the program's text. -/
def laid_strongtx_tdrf_none {H : Type} : DataW H := .agg [.lit (.int .i64 (-1)), .lit (.int .i64 (-1)), .lit (.int .i64 (-1))]
def laid_strongtx_order_none {H : Type} : DataW H := .agg [.lit (.int .i64 (-1)), .lit (.int .i64 (-1)), .lit (.int .i64 (-1))]

/-- 'strongtxlaw25.TdrfFinds': WHATEVER THE INPUT: true; the input reads as it did. -/
def tdrfFindsSpec : ChangeSpec := { name := "tdrfFinds", fn := fun _ => fun
  | [d1, d2] => { results := [.lit (.bool true)], args := [d1, d2] }
  | _ => none }
def tdrfFindsRow : OpenClaim := { program := "ytofjnldidkiihaadoor", sum := "8ce567cc695d6c7e9e56278d88d3560ee696e8fd6d9b1194d001354cbc5b93c7", func := "strongtx/strongtxlaw25.TdrfFinds", spec := "tdrfFinds", unfollowed := true, recurses := true, named := ["strongtx/tdrf.none"], apart := false, laid := [("strongtx/tdrf.none", laid_strongtx_tdrf_none)] }
def TdrfFindsSaid : Prop := tdrfFindsRow.holds Tryd.pinned (OpenSpec.ofChange tdrfFindsSpec)

/-- ITS FALSE NEIGHBOUR: 'it returns false'. Refute it at one input. -/
def tdrfFindsWrong : ChangeSpec := { name := "tdrfFinds", fn := fun _ => fun
  | [d1, d2] => { results := [.lit (.bool false)], args := [d1, d2] }
  | _ => none }
def TdrfFindsWrongFalsely : Prop := tdrfFindsRow.holds Tryd.pinned (OpenSpec.ofChange tdrfFindsWrong)

/-- 'strongtxlaw25.TdrfAny': WHATEVER THE INPUT: true; the input reads as it did. -/
def tdrfAnySpec : ChangeSpec := { name := "tdrfAny", fn := fun _ => fun
  | [d1, d2] => { results := [.lit (.bool true)], args := [d1, d2] }
  | _ => none }
def tdrfAnyRow : OpenClaim := { program := "ytofjnldidkiihaadoor", sum := "8ce567cc695d6c7e9e56278d88d3560ee696e8fd6d9b1194d001354cbc5b93c7", func := "strongtx/strongtxlaw25.TdrfAny", spec := "tdrfAny", unfollowed := true, recurses := true, named := ["strongtx/tdrf.none"], apart := false, laid := [("strongtx/tdrf.none", laid_strongtx_tdrf_none)] }
def TdrfAnySaid : Prop := tdrfAnyRow.holds Tryd.pinned (OpenSpec.ofChange tdrfAnySpec)

/-- ITS FALSE NEIGHBOUR: 'it returns false'. Refute it at one input. -/
def tdrfAnyWrong : ChangeSpec := { name := "tdrfAny", fn := fun _ => fun
  | [d1, d2] => { results := [.lit (.bool false)], args := [d1, d2] }
  | _ => none }
def TdrfAnyWrongFalsely : Prop := tdrfAnyRow.holds Tryd.pinned (OpenSpec.ofChange tdrfAnyWrong)

/-- 'strongtxlaw25.TdrfOnline': WHATEVER THE INPUT: true; the input reads as it did. -/
def tdrfOnlineSpec : ChangeSpec := { name := "tdrfOnline", fn := fun _ => fun
  | [d1, d2, d3] => { results := [.lit (.bool true)], args := [d1, d2, d3] }
  | _ => none }
def tdrfOnlineRow : OpenClaim := { program := "ytofjnldidkiihaadoor", sum := "8ce567cc695d6c7e9e56278d88d3560ee696e8fd6d9b1194d001354cbc5b93c7", func := "strongtx/strongtxlaw25.TdrfOnline", spec := "tdrfOnline", unfollowed := true, recurses := true, named := ["strongtx/tdrf.none"], apart := false, laid := [("strongtx/tdrf.none", laid_strongtx_tdrf_none)] }
def TdrfOnlineSaid : Prop := tdrfOnlineRow.holds Tryd.pinned (OpenSpec.ofChange tdrfOnlineSpec)

/-- ITS FALSE NEIGHBOUR: 'it returns false'. Refute it at one input. -/
def tdrfOnlineWrong : ChangeSpec := { name := "tdrfOnline", fn := fun _ => fun
  | [d1, d2, d3] => { results := [.lit (.bool false)], args := [d1, d2, d3] }
  | _ => none }
def TdrfOnlineWrongFalsely : Prop := tdrfOnlineRow.holds Tryd.pinned (OpenSpec.ofChange tdrfOnlineWrong)

/-- 'strongtxlaw25.TdrfFree': WHATEVER THE INPUT: true; the input reads as it did. -/
def tdrfFreeSpec : ChangeSpec := { name := "tdrfFree", fn := fun _ => fun
  | [d1, d2] => { results := [.lit (.bool true)], args := [d1, d2] }
  | _ => none }
def tdrfFreeRow : OpenClaim := { program := "ytofjnldidkiihaadoor", sum := "8ce567cc695d6c7e9e56278d88d3560ee696e8fd6d9b1194d001354cbc5b93c7", func := "strongtx/strongtxlaw25.TdrfFree", spec := "tdrfFree", unfollowed := true, recurses := true, named := ["strongtx/tdrf.none"], apart := false, laid := [("strongtx/tdrf.none", laid_strongtx_tdrf_none)] }
def TdrfFreeSaid : Prop := tdrfFreeRow.holds Tryd.pinned (OpenSpec.ofChange tdrfFreeSpec)

/-- ITS FALSE NEIGHBOUR: 'it returns false'. Refute it at one input. -/
def tdrfFreeWrong : ChangeSpec := { name := "tdrfFree", fn := fun _ => fun
  | [d1, d2] => { results := [.lit (.bool false)], args := [d1, d2] }
  | _ => none }
def TdrfFreeWrongFalsely : Prop := tdrfFreeRow.holds Tryd.pinned (OpenSpec.ofChange tdrfFreeWrong)

/-- 'strongtxlaw24.OrderPartial': WHATEVER THE INPUT: true; the input reads as it did. -/
def orderPartialSpec : ChangeSpec := { name := "orderPartial", fn := fun _ => fun
  | [d1, d2] => { results := [.lit (.bool true)], args := [d1, d2] }
  | _ => none }
def orderPartialRow : OpenClaim := { program := "ytofjnldidkiihaadoor", sum := "8ce567cc695d6c7e9e56278d88d3560ee696e8fd6d9b1194d001354cbc5b93c7", func := "strongtx/strongtxlaw24.OrderPartial", spec := "orderPartial", unfollowed := true, recurses := true, named := ["strongtx/order.none"], apart := false, laid := [("strongtx/order.none", laid_strongtx_order_none)] }
def OrderPartialSaid : Prop := orderPartialRow.holds Tryd.pinned (OpenSpec.ofChange orderPartialSpec)

/-- ITS FALSE NEIGHBOUR: 'it returns false'. Refute it at one input. -/
def orderPartialWrong : ChangeSpec := { name := "orderPartial", fn := fun _ => fun
  | [d1, d2] => { results := [.lit (.bool false)], args := [d1, d2] }
  | _ => none }
def OrderPartialWrongFalsely : Prop := orderPartialRow.holds Tryd.pinned (OpenSpec.ofChange orderPartialWrong)

/-- 'strongtxlaw24.OrderPublishes': WHATEVER THE INPUT: true; the input reads as it did. -/
def orderPublishesSpec : ChangeSpec := { name := "orderPublishes", fn := fun _ => fun
  | [d1, d2] => { results := [.lit (.bool true)], args := [d1, d2] }
  | _ => none }
def orderPublishesRow : OpenClaim := { program := "ytofjnldidkiihaadoor", sum := "8ce567cc695d6c7e9e56278d88d3560ee696e8fd6d9b1194d001354cbc5b93c7", func := "strongtx/strongtxlaw24.OrderPublishes", spec := "orderPublishes", unfollowed := true, recurses := true, named := ["strongtx/order.none"], apart := false, laid := [("strongtx/order.none", laid_strongtx_order_none)] }
def OrderPublishesSaid : Prop := orderPublishesRow.holds Tryd.pinned (OpenSpec.ofChange orderPublishesSpec)

/-- ITS FALSE NEIGHBOUR: 'it returns false'. Refute it at one input. -/
def orderPublishesWrong : ChangeSpec := { name := "orderPublishes", fn := fun _ => fun
  | [d1, d2] => { results := [.lit (.bool false)], args := [d1, d2] }
  | _ => none }
def OrderPublishesWrongFalsely : Prop := orderPublishesRow.holds Tryd.pinned (OpenSpec.ofChange orderPublishesWrong)

/-- 'strongtxlaw25.TdrfRefuses': WHATEVER THE INPUT: true; the input reads as it did. -/
def tdrfRefusesSpec : ChangeSpec := { name := "tdrfRefuses", fn := fun _ => fun
  | [d1, d2] => { results := [.lit (.bool true)], args := [d1, d2] }
  | _ => none }
def tdrfRefusesRow : OpenClaim := { program := "ytofjnldidkiihaadoor", sum := "8ce567cc695d6c7e9e56278d88d3560ee696e8fd6d9b1194d001354cbc5b93c7", func := "strongtx/strongtxlaw25.TdrfRefuses", spec := "tdrfRefuses", unfollowed := true, recurses := true, named := ["strongtx/tdrf.none"], apart := false, laid := [("strongtx/tdrf.none", laid_strongtx_tdrf_none)] }
def TdrfRefusesSaid : Prop := tdrfRefusesRow.holds Tryd.pinned (OpenSpec.ofChange tdrfRefusesSpec)

/-- ITS FALSE NEIGHBOUR: 'it returns false'. Refute it at one input. -/
def tdrfRefusesWrong : ChangeSpec := { name := "tdrfRefuses", fn := fun _ => fun
  | [d1, d2] => { results := [.lit (.bool false)], args := [d1, d2] }
  | _ => none }
def TdrfRefusesWrongFalsely : Prop := tdrfRefusesRow.holds Tryd.pinned (OpenSpec.ofChange tdrfRefusesWrong)

/-- 'strongtxlaw25.TdrfClocks': WHATEVER THE INPUT: true; the input reads as it did. -/
def tdrfClocksSpec : ChangeSpec := { name := "tdrfClocks", fn := fun _ => fun
  | [d1, d2] => { results := [.lit (.bool true)], args := [d1, d2] }
  | _ => none }
def tdrfClocksRow : OpenClaim := { program := "ytofjnldidkiihaadoor", sum := "8ce567cc695d6c7e9e56278d88d3560ee696e8fd6d9b1194d001354cbc5b93c7", func := "strongtx/strongtxlaw25.TdrfClocks", spec := "tdrfClocks", unfollowed := true, recurses := true, named := ["strongtx/tdrf.none"], apart := false, laid := [("strongtx/tdrf.none", laid_strongtx_tdrf_none)] }
def TdrfClocksSaid : Prop := tdrfClocksRow.holds Tryd.pinned (OpenSpec.ofChange tdrfClocksSpec)

/-- ITS FALSE NEIGHBOUR: 'it returns false'. Refute it at one input. -/
def tdrfClocksWrong : ChangeSpec := { name := "tdrfClocks", fn := fun _ => fun
  | [d1, d2] => { results := [.lit (.bool false)], args := [d1, d2] }
  | _ => none }
def TdrfClocksWrongFalsely : Prop := tdrfClocksRow.holds Tryd.pinned (OpenSpec.ofChange tdrfClocksWrong)

/-- 'strongtxlaw24.OrderAny': WHATEVER THE INPUT: true; the input reads as it did. -/
def orderAnySpec : ChangeSpec := { name := "orderAny", fn := fun _ => fun
  | [d1, d2, d3, d4] => { results := [.lit (.bool true)], args := [d1, d2, d3, d4] }
  | _ => none }
def orderAnyRow : OpenClaim := { program := "ytofjnldidkiihaadoor", sum := "8ce567cc695d6c7e9e56278d88d3560ee696e8fd6d9b1194d001354cbc5b93c7", func := "strongtx/strongtxlaw24.OrderAny", spec := "orderAny", unfollowed := true, recurses := true, named := ["strongtx/order.none"], apart := false, laid := [("strongtx/order.none", laid_strongtx_order_none)] }
def OrderAnySaid : Prop := orderAnyRow.holds Tryd.pinned (OpenSpec.ofChange orderAnySpec)

/-- ITS FALSE NEIGHBOUR: 'it returns false'. Refute it at one input. -/
def orderAnyWrong : ChangeSpec := { name := "orderAny", fn := fun _ => fun
  | [d1, d2, d3, d4] => { results := [.lit (.bool false)], args := [d1, d2, d3, d4] }
  | _ => none }
def OrderAnyWrongFalsely : Prop := orderAnyRow.holds Tryd.pinned (OpenSpec.ofChange orderAnyWrong)

/-- 'strongtxlaw24.OrderMade': WHATEVER THE INPUT: true; the input reads as it did. -/
def orderMadeSpec : ChangeSpec := { name := "orderMade", fn := fun _ => fun
  | [d1, d2, d3, d4] => { results := [.lit (.bool true)], args := [d1, d2, d3, d4] }
  | _ => none }
def orderMadeRow : OpenClaim := { program := "ytofjnldidkiihaadoor", sum := "8ce567cc695d6c7e9e56278d88d3560ee696e8fd6d9b1194d001354cbc5b93c7", func := "strongtx/strongtxlaw24.OrderMade", spec := "orderMade", unfollowed := true, recurses := true, named := ["strongtx/order.none"], apart := false, laid := [("strongtx/order.none", laid_strongtx_order_none)] }
def OrderMadeSaid : Prop := orderMadeRow.holds Tryd.pinned (OpenSpec.ofChange orderMadeSpec)

/-- ITS FALSE NEIGHBOUR: 'it returns false'. Refute it at one input. -/
def orderMadeWrong : ChangeSpec := { name := "orderMade", fn := fun _ => fun
  | [d1, d2, d3, d4] => { results := [.lit (.bool false)], args := [d1, d2, d3, d4] }
  | _ => none }
def OrderMadeWrongFalsely : Prop := orderMadeRow.holds Tryd.pinned (OpenSpec.ofChange orderMadeWrong)

/-- 'strongtxlaw24.OrderSpoiled': WHATEVER THE INPUT: true; the input reads as it did. -/
def orderSpoiledSpec : ChangeSpec := { name := "orderSpoiled", fn := fun _ => fun
  | [d1, d2, d3, d4, d5] => { results := [.lit (.bool true)], args := [d1, d2, d3, d4, d5] }
  | _ => none }
def orderSpoiledRow : OpenClaim := { program := "ytofjnldidkiihaadoor", sum := "8ce567cc695d6c7e9e56278d88d3560ee696e8fd6d9b1194d001354cbc5b93c7", func := "strongtx/strongtxlaw24.OrderSpoiled", spec := "orderSpoiled", unfollowed := true, recurses := true, named := ["strongtx/order.none"], apart := false, laid := [("strongtx/order.none", laid_strongtx_order_none)] }
def OrderSpoiledSaid : Prop := orderSpoiledRow.holds Tryd.pinned (OpenSpec.ofChange orderSpoiledSpec)

/-- ITS FALSE NEIGHBOUR: 'it returns false'. Refute it at one input. -/
def orderSpoiledWrong : ChangeSpec := { name := "orderSpoiled", fn := fun _ => fun
  | [d1, d2, d3, d4, d5] => { results := [.lit (.bool false)], args := [d1, d2, d3, d4, d5] }
  | _ => none }
def OrderSpoiledWrongFalsely : Prop := orderSpoiledRow.holds Tryd.pinned (OpenSpec.ofChange orderSpoiledWrong)

/-- 'strongtxlaw24.OrderRaces': WHATEVER THE INPUT: true; the input reads as it did. -/
def orderRacesSpec : ChangeSpec := { name := "orderRaces", fn := fun _ => fun
  | [d1, d2] => { results := [.lit (.bool true)], args := [d1, d2] }
  | _ => none }
def orderRacesRow : OpenClaim := { program := "ytofjnldidkiihaadoor", sum := "8ce567cc695d6c7e9e56278d88d3560ee696e8fd6d9b1194d001354cbc5b93c7", func := "strongtx/strongtxlaw24.OrderRaces", spec := "orderRaces", unfollowed := true, recurses := true, named := ["strongtx/order.none"], apart := false, laid := [("strongtx/order.none", laid_strongtx_order_none)] }
def OrderRacesSaid : Prop := orderRacesRow.holds Tryd.pinned (OpenSpec.ofChange orderRacesSpec)

/-- ITS FALSE NEIGHBOUR: 'it returns false'. Refute it at one input. -/
def orderRacesWrong : ChangeSpec := { name := "orderRaces", fn := fun _ => fun
  | [d1, d2] => { results := [.lit (.bool false)], args := [d1, d2] }
  | _ => none }
def OrderRacesWrongFalsely : Prop := orderRacesRow.holds Tryd.pinned (OpenSpec.ofChange orderRacesWrong)

/-- 'strongtxlaw24.OrderGrows': WHATEVER THE INPUT: true; the input reads as it did. -/
def orderGrowsSpec : ChangeSpec := { name := "orderGrows", fn := fun _ => fun
  | [d1, d2] => { results := [.lit (.bool true)], args := [d1, d2] }
  | _ => none }
def orderGrowsRow : OpenClaim := { program := "ytofjnldidkiihaadoor", sum := "8ce567cc695d6c7e9e56278d88d3560ee696e8fd6d9b1194d001354cbc5b93c7", func := "strongtx/strongtxlaw24.OrderGrows", spec := "orderGrows", unfollowed := true, recurses := true, named := ["strongtx/order.none"], apart := false, laid := [("strongtx/order.none", laid_strongtx_order_none)] }
def OrderGrowsSaid : Prop := orderGrowsRow.holds Tryd.pinned (OpenSpec.ofChange orderGrowsSpec)

/-- ITS FALSE NEIGHBOUR: 'it returns false'. Refute it at one input. -/
def orderGrowsWrong : ChangeSpec := { name := "orderGrows", fn := fun _ => fun
  | [d1, d2] => { results := [.lit (.bool false)], args := [d1, d2] }
  | _ => none }
def OrderGrowsWrongFalsely : Prop := orderGrowsRow.holds Tryd.pinned (OpenSpec.ofChange orderGrowsWrong)

/- THE SECOND FORM. 'bulk': how many values and letters a reading holds, each counted each time it is reached (what is shared counts as often as it is met; a slice's spare places count too). A statement '..UptoSaid' is the law's where the arguments, and the package variables that the reading takes, are together of bulk at most 1048576: NARROWER than '..Said'. Prove '..Said' where nothing that the law and all that it calls make is longer than what came in: it says more and counts as full. Else prove '..UptoSaid'. A law counts once. -/
mutual
def uptoBulk {H : Type} : DataW H → Nat
  | .lit (.string bytes) => bytes.length + 1
  | .lit _ => 1
  | .nil => 1
  | .ptr d => uptoBulk d + 1
  | .slice elems spare => uptoBulkAll elems + uptoBulkAll spare + 1
  | .agg parts => uptoBulkAll parts + 1
  | .iface _ d => uptoBulk d + 1
  | .map entries => uptoBulkEntries entries + 1
  | .held _ => 1
def uptoBulkAll {H : Type} : List (DataW H) → Nat
  | [] => 0
  | d :: r => uptoBulk d + uptoBulkAll r
def uptoBulkEntries {H : Type} : List (Lit × DataW H) → Nat
  | [] => 0
  | x :: r => uptoBulkEntry x + uptoBulkEntries r
def uptoBulkEntry {H : Type} : Lit × DataW H → Nat
  | (.string bytes, d) => bytes.length + uptoBulk d + 1
  | (_, d) => uptoBulk d + 1
 end
def uptoSmall : (H : Type) → List (DataW H) → Bool := fun _ ds => decide (uptoBulkAll ds ≤ 1048576)
def OpenSpec.upto (s : _root_.Go.ChangeSpec) : _root_.Go.OpenSpec := { _root_.Go.OpenSpec.ofChange s with cond := some uptoSmall }

/-- 'strongtxlaw25.TdrfFinds', WHERE WHAT IT READS IS OF BULK AT MOST 1048576: true; the input reads as it did. -/
def tdrfFindsUptoRow : OpenClaim := { program := "ytofjnldidkiihaadoor", sum := "8ce567cc695d6c7e9e56278d88d3560ee696e8fd6d9b1194d001354cbc5b93c7", func := "strongtx/strongtxlaw25.TdrfFinds", spec := "tdrfFinds", unfollowed := true, recurses := true, named := ["strongtx/tdrf.none"], apart := false, laid := [("strongtx/tdrf.none", laid_strongtx_tdrf_none)], narrowed := true }
def TdrfFindsUptoSaid : Prop := tdrfFindsUptoRow.holds Tryd.pinned (OpenSpec.upto tdrfFindsSpec)

/-- 'strongtxlaw25.TdrfAny', WHERE WHAT IT READS IS OF BULK AT MOST 1048576: true; the input reads as it did. -/
def tdrfAnyUptoRow : OpenClaim := { program := "ytofjnldidkiihaadoor", sum := "8ce567cc695d6c7e9e56278d88d3560ee696e8fd6d9b1194d001354cbc5b93c7", func := "strongtx/strongtxlaw25.TdrfAny", spec := "tdrfAny", unfollowed := true, recurses := true, named := ["strongtx/tdrf.none"], apart := false, laid := [("strongtx/tdrf.none", laid_strongtx_tdrf_none)], narrowed := true }
def TdrfAnyUptoSaid : Prop := tdrfAnyUptoRow.holds Tryd.pinned (OpenSpec.upto tdrfAnySpec)

/-- 'strongtxlaw25.TdrfOnline', WHERE WHAT IT READS IS OF BULK AT MOST 1048576: true; the input reads as it did. -/
def tdrfOnlineUptoRow : OpenClaim := { program := "ytofjnldidkiihaadoor", sum := "8ce567cc695d6c7e9e56278d88d3560ee696e8fd6d9b1194d001354cbc5b93c7", func := "strongtx/strongtxlaw25.TdrfOnline", spec := "tdrfOnline", unfollowed := true, recurses := true, named := ["strongtx/tdrf.none"], apart := false, laid := [("strongtx/tdrf.none", laid_strongtx_tdrf_none)], narrowed := true }
def TdrfOnlineUptoSaid : Prop := tdrfOnlineUptoRow.holds Tryd.pinned (OpenSpec.upto tdrfOnlineSpec)

/-- 'strongtxlaw25.TdrfFree', WHERE WHAT IT READS IS OF BULK AT MOST 1048576: true; the input reads as it did. -/
def tdrfFreeUptoRow : OpenClaim := { program := "ytofjnldidkiihaadoor", sum := "8ce567cc695d6c7e9e56278d88d3560ee696e8fd6d9b1194d001354cbc5b93c7", func := "strongtx/strongtxlaw25.TdrfFree", spec := "tdrfFree", unfollowed := true, recurses := true, named := ["strongtx/tdrf.none"], apart := false, laid := [("strongtx/tdrf.none", laid_strongtx_tdrf_none)], narrowed := true }
def TdrfFreeUptoSaid : Prop := tdrfFreeUptoRow.holds Tryd.pinned (OpenSpec.upto tdrfFreeSpec)

/-- 'strongtxlaw24.OrderPartial', WHERE WHAT IT READS IS OF BULK AT MOST 1048576: true; the input reads as it did. -/
def orderPartialUptoRow : OpenClaim := { program := "ytofjnldidkiihaadoor", sum := "8ce567cc695d6c7e9e56278d88d3560ee696e8fd6d9b1194d001354cbc5b93c7", func := "strongtx/strongtxlaw24.OrderPartial", spec := "orderPartial", unfollowed := true, recurses := true, named := ["strongtx/order.none"], apart := false, laid := [("strongtx/order.none", laid_strongtx_order_none)], narrowed := true }
def OrderPartialUptoSaid : Prop := orderPartialUptoRow.holds Tryd.pinned (OpenSpec.upto orderPartialSpec)

/-- 'strongtxlaw24.OrderPublishes', WHERE WHAT IT READS IS OF BULK AT MOST 1048576: true; the input reads as it did. -/
def orderPublishesUptoRow : OpenClaim := { program := "ytofjnldidkiihaadoor", sum := "8ce567cc695d6c7e9e56278d88d3560ee696e8fd6d9b1194d001354cbc5b93c7", func := "strongtx/strongtxlaw24.OrderPublishes", spec := "orderPublishes", unfollowed := true, recurses := true, named := ["strongtx/order.none"], apart := false, laid := [("strongtx/order.none", laid_strongtx_order_none)], narrowed := true }
def OrderPublishesUptoSaid : Prop := orderPublishesUptoRow.holds Tryd.pinned (OpenSpec.upto orderPublishesSpec)

/-- 'strongtxlaw25.TdrfRefuses', WHERE WHAT IT READS IS OF BULK AT MOST 1048576: true; the input reads as it did. -/
def tdrfRefusesUptoRow : OpenClaim := { program := "ytofjnldidkiihaadoor", sum := "8ce567cc695d6c7e9e56278d88d3560ee696e8fd6d9b1194d001354cbc5b93c7", func := "strongtx/strongtxlaw25.TdrfRefuses", spec := "tdrfRefuses", unfollowed := true, recurses := true, named := ["strongtx/tdrf.none"], apart := false, laid := [("strongtx/tdrf.none", laid_strongtx_tdrf_none)], narrowed := true }
def TdrfRefusesUptoSaid : Prop := tdrfRefusesUptoRow.holds Tryd.pinned (OpenSpec.upto tdrfRefusesSpec)

/-- 'strongtxlaw25.TdrfClocks', WHERE WHAT IT READS IS OF BULK AT MOST 1048576: true; the input reads as it did. -/
def tdrfClocksUptoRow : OpenClaim := { program := "ytofjnldidkiihaadoor", sum := "8ce567cc695d6c7e9e56278d88d3560ee696e8fd6d9b1194d001354cbc5b93c7", func := "strongtx/strongtxlaw25.TdrfClocks", spec := "tdrfClocks", unfollowed := true, recurses := true, named := ["strongtx/tdrf.none"], apart := false, laid := [("strongtx/tdrf.none", laid_strongtx_tdrf_none)], narrowed := true }
def TdrfClocksUptoSaid : Prop := tdrfClocksUptoRow.holds Tryd.pinned (OpenSpec.upto tdrfClocksSpec)

/-- 'strongtxlaw24.OrderAny', WHERE WHAT IT READS IS OF BULK AT MOST 1048576: true; the input reads as it did. -/
def orderAnyUptoRow : OpenClaim := { program := "ytofjnldidkiihaadoor", sum := "8ce567cc695d6c7e9e56278d88d3560ee696e8fd6d9b1194d001354cbc5b93c7", func := "strongtx/strongtxlaw24.OrderAny", spec := "orderAny", unfollowed := true, recurses := true, named := ["strongtx/order.none"], apart := false, laid := [("strongtx/order.none", laid_strongtx_order_none)], narrowed := true }
def OrderAnyUptoSaid : Prop := orderAnyUptoRow.holds Tryd.pinned (OpenSpec.upto orderAnySpec)

/-- 'strongtxlaw24.OrderMade', WHERE WHAT IT READS IS OF BULK AT MOST 1048576: true; the input reads as it did. -/
def orderMadeUptoRow : OpenClaim := { program := "ytofjnldidkiihaadoor", sum := "8ce567cc695d6c7e9e56278d88d3560ee696e8fd6d9b1194d001354cbc5b93c7", func := "strongtx/strongtxlaw24.OrderMade", spec := "orderMade", unfollowed := true, recurses := true, named := ["strongtx/order.none"], apart := false, laid := [("strongtx/order.none", laid_strongtx_order_none)], narrowed := true }
def OrderMadeUptoSaid : Prop := orderMadeUptoRow.holds Tryd.pinned (OpenSpec.upto orderMadeSpec)

/-- 'strongtxlaw24.OrderSpoiled', WHERE WHAT IT READS IS OF BULK AT MOST 1048576: true; the input reads as it did. -/
def orderSpoiledUptoRow : OpenClaim := { program := "ytofjnldidkiihaadoor", sum := "8ce567cc695d6c7e9e56278d88d3560ee696e8fd6d9b1194d001354cbc5b93c7", func := "strongtx/strongtxlaw24.OrderSpoiled", spec := "orderSpoiled", unfollowed := true, recurses := true, named := ["strongtx/order.none"], apart := false, laid := [("strongtx/order.none", laid_strongtx_order_none)], narrowed := true }
def OrderSpoiledUptoSaid : Prop := orderSpoiledUptoRow.holds Tryd.pinned (OpenSpec.upto orderSpoiledSpec)

/-- 'strongtxlaw24.OrderRaces', WHERE WHAT IT READS IS OF BULK AT MOST 1048576: true; the input reads as it did. -/
def orderRacesUptoRow : OpenClaim := { program := "ytofjnldidkiihaadoor", sum := "8ce567cc695d6c7e9e56278d88d3560ee696e8fd6d9b1194d001354cbc5b93c7", func := "strongtx/strongtxlaw24.OrderRaces", spec := "orderRaces", unfollowed := true, recurses := true, named := ["strongtx/order.none"], apart := false, laid := [("strongtx/order.none", laid_strongtx_order_none)], narrowed := true }
def OrderRacesUptoSaid : Prop := orderRacesUptoRow.holds Tryd.pinned (OpenSpec.upto orderRacesSpec)

/-- 'strongtxlaw24.OrderGrows', WHERE WHAT IT READS IS OF BULK AT MOST 1048576: true; the input reads as it did. -/
def orderGrowsUptoRow : OpenClaim := { program := "ytofjnldidkiihaadoor", sum := "8ce567cc695d6c7e9e56278d88d3560ee696e8fd6d9b1194d001354cbc5b93c7", func := "strongtx/strongtxlaw24.OrderGrows", spec := "orderGrows", unfollowed := true, recurses := true, named := ["strongtx/order.none"], apart := false, laid := [("strongtx/order.none", laid_strongtx_order_none)], narrowed := true }
def OrderGrowsUptoSaid : Prop := orderGrowsUptoRow.holds Tryd.pinned (OpenSpec.upto orderGrowsSpec)

end Rows
end Go.Proofs.YtofjnldidkiihaaDoor
