/- What the laws share, part 2. No condition. -/
import Derived.Lib.Join
import Derived.Deep.Quiet
import Derived.OrdersIn
import Derived.TacticsIn
import Derived.RangeFuncCalls
import Derived.Laws.FloatArith
import Derived.Great.BuildSlice
import Derived.Laws.Append
import Derived.Laws.StructEq
import Derived.Laws.MakeOwn
import Derived.ChangeKeysEq
import Derived.Deep.QuietTactic
import Derived.RangeFuncFrom
import Derived.RangeFuncLeaves
import Derived.Test.YtiimndcifcoofaaGreatDoorRows
import Derived.Test.YtiimndcifcoofaaGreatDoorX1
namespace Go.Proofs.YtiimndcifcoofaaGreatDoor
open Go Go.Lib
theorem rnumG_cons {v : Int} {c : UInt8} {r : List UInt8} : rnumG v (c :: r) = if 48 ≤ c.toNat ∧ c.toNat ≤ 57 then (if v < -922337203685477580 ∨ (v = -922337203685477580 ∧ (c.toNat : Int) - 48 > 8) then none else rnumG (10 * v - ((c.toNat : Int) - 48)) r) else none := rfl
theorem rnum_cons {c : UInt8} {r : List UInt8} : rnum (c :: r) = if c.toNat = 45 then (if r = [] then none else rnumG 0 r) else (match rnumG 0 (c :: r) with | some v => if v = -9223372036854775808 then none else some (-v) | none => none) := rfl
theorem rnumG_app : ∀ (l r : List UInt8) (v : Int), rnumG v (l ++ r) = (rnumG v l).bind fun w => rnumG w r
  | [], r, v => rfl
  | c :: l, r, v => by
    rw [List.cons_append, rnumG_cons, rnumG_cons]
    split
    · split
      · rfl
      · exact rnumG_app l r _
    · rfl
theorem rnumG_dec (u : Nat) : u ≤ 9223372036854775808 → rnumG 0 (decDigits u) = some (-(u : Int)) := by
  induction u using Nat.strongRecOn with
  | _ u ih =>
    intro hu
    by_cases h : u < 10
    · rw [decDigits, dif_pos h]
      have hd := dig_toNat h
      unfold rnumG
      rw [hd, if_pos (by omega), if_neg (by omega)]
      show some (10 * 0 - (((48 + u : Nat) : Int) - 48)) = _
      congr 1
      omega
    · rw [decDigits, dif_neg h, rnumG_app, ih (u / 10) (by omega) (by omega)]
      have hd := dig_toNat (d := u % 10) (by omega)
      show rnumG (-((u / 10 : Nat) : Int)) [UInt8.ofNat (48 + u % 10)] = _
      unfold rnumG
      rw [hd, if_pos (by omega), if_neg (by omega)]
      show some (10 * -((u / 10 : Nat) : Int) - (((48 + u % 10 : Nat) : Int) - 48)) = _
      congr 1
      omega
theorem rnum_itoa {n : Int} (h1 : -9223372036854775808 ≤ n) (h2 : n ≤ 9223372036854775807) : rnum (itoa n) = some n := by
  unfold itoa
  by_cases hn : n < 0
  · rw [if_pos hn]
    have h := rnumG_dec n.natAbs (by omega)
    obtain ⟨c, r, hc, _⟩ := dec_head n.natAbs
    rw [rnum_cons, if_pos (by decide), if_neg (by rw [hc]; simp), h]
    congr 1
    omega
  · rw [if_neg hn]
    have h := rnumG_dec n.toNat (by omega)
    obtain ⟨c, r, hc, h48, h57⟩ := dec_head n.toNat
    rw [hc] at h ⊢
    rw [rnum_cons, if_neg (by omega), h]
    simp only
    rw [if_neg (by omega)]
    congr 1
    omega
end Go.Proofs.YtiimndcifcoofaaGreatDoor
namespace Go.Proofs.YtiimndcifcoofaaGreatDoor
open Go
structure Stop (p : Prop) : Prop where
  h : p
end Go.Proofs.YtiimndcifcoofaaGreatDoor
namespace Go.Proofs.YtiimndcifcoofaaGreatDoor
open Go
set_option maxRecDepth 100000
def ir_kit_Program : IFn := ⟨26,
 (.seq (.region [
 ⟨some 4, .mov (.const (.bool false)), none⟩])
 (.seq (.seq (.region [
 ⟨some 6, .mov (.tmp 0), none⟩,
 ⟨some 7, .len (.tmp 6), none⟩,
 ⟨some 8, .mov (.tmp 1), none⟩,
 ⟨some 9, .len (.tmp 8), none⟩,
 ⟨some 10, .bin .neq (.tmp 7) (.tmp 9), none⟩])
 (.cond (.tmp 10)
  (.seq (.region [
  ⟨some 4, .mov (.const (.bool false)), none⟩])
  .ret)
  .skip))
 (.seq (.seq (.region [
 ⟨some 5, .mov (.const (.int .i64 0)), none⟩])
 (.block 0
  (.loop 67106864
   (.seq (.seq (.region [
   ⟨some 11, .mov (.tmp 5), none⟩,
   ⟨some 12, .mov (.tmp 0), none⟩,
   ⟨some 13, .len (.tmp 12), none⟩,
   ⟨some 14, .bin .lss (.tmp 11) (.tmp 13), none⟩])
   (.cond (.tmp 14)
    .skip
    (.exit 0)))
   (.seq (.block 1
    (.seq (.draw (.f ⟨some 17, .mov (.tmp 0), none⟩
    (.f ⟨some 18, .mov (.tmp 5), none⟩
    (.f ⟨some 19, .ixs 5 (.tmp 17) (.tmp 18), none⟩
    (.f ⟨some 20, .ldN 5 (.tmp 19), none⟩
    (.f ⟨some 21, .mov (.tmp 1), none⟩
    (.f ⟨some 22, .mov (.tmp 5), none⟩
    (.f ⟨some 23, .ixs 5 (.tmp 21) (.tmp 22), none⟩
    (.f ⟨some 24, .ldN 5 (.tmp 23), none⟩
    (.f ⟨some 25, .ageq true [0, 0, 0, 0, 0] (.tmp 20) (.tmp 24), none⟩
    .done))))))))))
    (.cond (.tmp 25)
     (.seq (.region [
     ⟨some 4, .mov (.const (.bool false)), none⟩])
     .ret)
     .skip)))
   (.region [
   ⟨some 15, .mov (.tmp 5), none⟩,
   ⟨some 16, .bin .add (.tmp 15) (.const (.int .i64 1)), none⟩,
   ⟨some 5, .mov (.tmp 16), none⟩]))))))
 (.seq (.region [
 ⟨some 4, .mov (.const (.bool true)), none⟩])
 .ret)))),
 [.tmp 4]⟩
theorem low_kit_Program : lowFn Tryz.prog movers 26 = some ⟨ir_kit_Program.n, strip ir_kit_Program.body, ir_kit_Program.res⟩ := by kernel_rfl
end Go.Proofs.YtiimndcifcoofaaGreatDoor
namespace Go.Proofs.YtiimndcifcoofaaGreatDoor
open Go
set_option maxRecDepth 100000
def ir_ref04_Lines : IFn := ⟨36,
 (.seq (.region [
 ⟨some 2, .mov (.const (.slice none 0 0)), none⟩])
 (.seq (.region [
 ⟨some 3, .mov (.const (.slice none 0 0)), none⟩])
 (.seq (.region [
 ⟨some 4, .mov (.const (.int .i64 0)), none⟩])
 (.seq (.seq (.region [
 ⟨some 5, .mov (.const (.int .i64 0)), none⟩])
 (.block 0
  (.loop 33554424
   (.seq (.seq (.region [
   ⟨some 6, .mov (.tmp 5), none⟩,
   ⟨some 7, .mov (.tmp 0), none⟩,
   ⟨some 8, .lens (.tmp 7), none⟩,
   ⟨some 9, .bin .lss (.tmp 6) (.tmp 8), none⟩])
   (.cond (.tmp 9)
    .skip
    (.exit 0)))
   (.seq (.block 1
    (.seq (.region [
    ⟨some 12, .mov (.tmp 0), none⟩,
    ⟨some 13, .mov (.tmp 5), none⟩,
    ⟨some 14, .sidx (.tmp 12) (.tmp 13), none⟩,
    ⟨some 15, .bin .eql (.tmp 14) (.const (.int .u8 10)), none⟩])
    (.cond (.tmp 15)
     (.seq (.region [
     ⟨some 16, .mov (.tmp 3), none⟩,
     ⟨some 17, .mov (.tmp 0), none⟩,
     ⟨some 18, .mov (.tmp 4), none⟩,
     ⟨some 19, .mov (.tmp 5), none⟩,
     ⟨some 20, .sslc (.tmp 17) (some (.tmp 18)) (some (.tmp 19)), none⟩,
     ⟨some 21, .blds 9 1 [(.string ⟨#[]⟩)] [(0, 1, (.tmp 20))], none⟩,
     ⟨some 22, .app 9 1 16 [(.string ⟨#[]⟩)] (.tmp 16) (.tmp 21), none⟩,
     ⟨some 3, .mov (.tmp 22), none⟩])
     (.region [
     ⟨some 23, .mov (.tmp 5), none⟩,
     ⟨some 24, .bin .add (.tmp 23) (.const (.int .i64 1)), none⟩,
     ⟨some 4, .mov (.tmp 24), none⟩]))
     .skip)))
   (.region [
   ⟨some 10, .mov (.tmp 5), none⟩,
   ⟨some 11, .bin .add (.tmp 10) (.const (.int .i64 1)), none⟩,
   ⟨some 5, .mov (.tmp 11), none⟩]))))))
 (.seq (.seq (.region [
 ⟨some 25, .mov (.tmp 4), none⟩,
 ⟨some 26, .mov (.tmp 0), none⟩,
 ⟨some 27, .lens (.tmp 26), none⟩,
 ⟨some 28, .bin .lss (.tmp 25) (.tmp 27), none⟩])
 (.cond (.tmp 28)
  (.region [
  ⟨some 29, .mov (.tmp 3), none⟩,
  ⟨some 30, .mov (.tmp 0), none⟩,
  ⟨some 31, .mov (.tmp 4), none⟩,
  ⟨some 32, .sslc (.tmp 30) (some (.tmp 31)) none, none⟩,
  ⟨some 33, .blds 9 1 [(.string ⟨#[]⟩)] [(0, 1, (.tmp 32))], none⟩,
  ⟨some 34, .app 9 1 16 [(.string ⟨#[]⟩)] (.tmp 29) (.tmp 33), none⟩,
  ⟨some 3, .mov (.tmp 34), none⟩])
  .skip))
 (.seq (.region [
 ⟨some 35, .mov (.tmp 3), none⟩,
 ⟨some 2, .mov (.tmp 35), none⟩])
 .ret)))))),
 [.tmp 2]⟩
theorem low_ref04_Lines : lowFn Tryz.prog movers 32 = some ⟨ir_ref04_Lines.n, strip ir_ref04_Lines.body, ir_ref04_Lines.res⟩ := by kernel_rfl
end Go.Proofs.YtiimndcifcoofaaGreatDoor
namespace Go.Proofs.YtiimndcifcoofaaGreatDoor
open Go
set_option maxRecDepth 100000
def ir_law04_AsmRound : IFn := ⟨79,
 (.seq (.region [
 ⟨some 4, .mov (.const (.bool false)), none⟩])
 (.seq (.seq (.region [
 ⟨some 14, .mov (.tmp 0), none⟩,
 ⟨some 15, .len (.tmp 14), none⟩,
 ⟨some 16, .bin .gtr (.tmp 15) (.const (.int .i64 60)), none⟩])
 (.cond (.tmp 16)
  (.seq (.region [
  ⟨some 17, .call 23 [], none⟩,
  ⟨some 4, .mov (.tmp 17), none⟩])
  .ret)
  .skip))
 (.seq (.region [
 ⟨some 18, .mov (.tmp 0), none⟩,
 ⟨some 19, .call 29 [(.tmp 18), (.const (.int .i64 40)), (.const (.bool true)), (.const (.bool true))], none⟩,
 ⟨some 5, .mov (.tmp 19), none⟩])
 (.seq (.seq (.region [
 ⟨some 6, .mov (.const (.int .i64 0)), none⟩])
 (.block 0
  (.loop 1125899905794496
   (.seq (.seq (.region [
   ⟨some 20, .mov (.tmp 6), none⟩,
   ⟨some 21, .mov (.tmp 5), none⟩,
   ⟨some 22, .len (.tmp 21), none⟩,
   ⟨some 23, .bin .lss (.tmp 20) (.tmp 22), none⟩])
   (.cond (.tmp 23)
    .skip
    (.exit 0)))
   (.seq (.block 1
    (.seq (.region [
    ⟨some 27, .mov (.tmp 5), none⟩,
    ⟨some 28, .mov (.tmp 6), none⟩,
    ⟨some 29, .ixs 5 (.tmp 27) (.tmp 28), none⟩,
    ⟨some 30, .ldN 5 (.tmp 29), none⟩,
    ⟨some 31, .call 30 [(.tmp 30)], none⟩,
    ⟨some 26, .mov (.tmp 31), none⟩,
    ⟨some 32, .ext (.tmp 26) 0, none⟩,
    ⟨some 33, .ext (.tmp 26) 1, none⟩,
    ⟨some 7, .mov (.tmp 32), none⟩,
    ⟨some 8, .mov (.tmp 33), none⟩])
    (.seq (.region [
    ⟨some 34, .mov (.tmp 8), none⟩,
    ⟨some 35, .mov (.tmp 34), none⟩,
    ⟨some 36, .mov (.tmp 6), some (35, true)⟩,
    ⟨some 37, .mov (.tmp 1), some (35, true)⟩,
    ⟨some 38, .len (.tmp 37), some (35, true)⟩,
    ⟨some 39, .bin .lss (.tmp 36) (.tmp 38), some (35, true)⟩,
    ⟨some 40, .pick (.tmp 35) (.tmp 39) (.const (.bool false)), none⟩])
    (.cond (.tmp 40)
     (.region [
     ⟨some 41, .mov (.tmp 5), none⟩,
     ⟨some 42, .mov (.tmp 6), none⟩,
     ⟨some 43, .mov (.tmp 1), none⟩,
     ⟨some 44, .mov (.tmp 6), none⟩,
     ⟨some 45, .ixs 1 (.tmp 43) (.tmp 44), none⟩,
     ⟨some 46, .ld (.tmp 45), none⟩,
     ⟨some 47, .call 31 [(.tmp 46), (.const (.int .i64 60))], none⟩,
     ⟨some 48, .ixs 5 (.tmp 41) (.tmp 42), none⟩,
     ⟨some 49, .fad 4 (.tmp 48), none⟩,
     ⟨none, .st (.tmp 49) (.tmp 47), none⟩])
     .skip))))
   (.region [
   ⟨some 24, .mov (.tmp 6), none⟩,
   ⟨some 25, .bin .add (.tmp 24) (.const (.int .i64 1)), none⟩,
   ⟨some 6, .mov (.tmp 25), none⟩]))))))
 (.seq (.region [
 ⟨some 51, .mov (.tmp 5), none⟩,
 ⟨some 52, .call 27 [(.tmp 51)], none⟩,
 ⟨some 50, .mov (.tmp 52), none⟩,
 ⟨some 53, .ext (.tmp 50) 0, none⟩,
 ⟨some 54, .ext (.tmp 50) 1, none⟩,
 ⟨some 9, .mov (.tmp 53), none⟩,
 ⟨some 10, .mov (.tmp 54), none⟩])
 (.seq (.region [
 ⟨some 56, .mov (.tmp 9), none⟩,
 ⟨some 57, .call 24 [(.tmp 56)], none⟩,
 ⟨some 55, .mov (.tmp 57), none⟩,
 ⟨some 58, .ext (.tmp 55) 0, none⟩,
 ⟨some 59, .ext (.tmp 55) 1, none⟩,
 ⟨some 60, .ext (.tmp 55) 2, none⟩,
 ⟨some 11, .mov (.tmp 58), none⟩,
 ⟨some 12, .mov (.tmp 59), none⟩,
 ⟨some 13, .mov (.tmp 60), none⟩])
 (.seq (.region [
 ⟨some 61, .mov (.tmp 10), none⟩,
 ⟨some 62, .bin .eql (.tmp 61) (.const (.int .i64 0)), none⟩,
 ⟨some 63, .mov (.tmp 62), none⟩,
 ⟨some 64, .mov (.tmp 13), some (63, true)⟩,
 ⟨some 65, .bin .eql (.tmp 64) (.const (.int .i64 0)), some (63, true)⟩,
 ⟨some 66, .pick (.tmp 63) (.tmp 65) (.const (.bool false)), none⟩,
 ⟨some 67, .mov (.tmp 66), none⟩,
 ⟨some 68, .mov (.tmp 12), some (67, true)⟩,
 ⟨some 69, .bin .eql (.tmp 68) (.const (.int .i64 0)), some (67, true)⟩,
 ⟨some 70, .pick (.tmp 67) (.tmp 69) (.const (.bool false)), none⟩,
 ⟨some 71, .mov (.tmp 70), none⟩,
 ⟨some 72, .mov (.tmp 11), some (71, true)⟩,
 ⟨some 73, .mov (.tmp 5), some (71, true)⟩,
 ⟨some 74, .call 26 [(.tmp 72), (.tmp 73)], some (71, true)⟩,
 ⟨some 75, .pick (.tmp 71) (.tmp 74) (.const (.bool false)), none⟩,
 ⟨some 76, .mov (.tmp 75), none⟩,
 ⟨some 77, .call 23 [], some (76, true)⟩,
 ⟨some 78, .pick (.tmp 76) (.tmp 77) (.const (.bool false)), none⟩,
 ⟨some 4, .mov (.tmp 78), none⟩])
 .ret))))))),
 [.tmp 4]⟩
theorem low_law04_AsmRound : lowFn Tryz.prog movers 6 = some ⟨ir_law04_AsmRound.n, strip ir_law04_AsmRound.body, ir_law04_AsmRound.res⟩ := by kernel_rfl
def ir_law04_AsmComments : IFn := ⟨70,
 (.seq (.region [
 ⟨some 4, .mov (.const (.bool false)), none⟩])
 (.seq (.seq (.region [
 ⟨some 14, .mov (.tmp 0), none⟩,
 ⟨some 15, .len (.tmp 14), none⟩,
 ⟨some 16, .bin .gtr (.tmp 15) (.const (.int .i64 40)), none⟩])
 (.cond (.tmp 16)
  (.seq (.region [
  ⟨some 17, .call 23 [], none⟩,
  ⟨some 4, .mov (.tmp 17), none⟩])
  .ret)
  .skip))
 (.seq (.region [
 ⟨some 18, .mov (.tmp 0), none⟩,
 ⟨some 19, .call 29 [(.tmp 18), (.const (.int .i64 30)), (.const (.bool true)), (.const (.bool true))], none⟩,
 ⟨some 5, .mov (.tmp 19), none⟩])
 (.seq (.region [
 ⟨some 21, .mov (.tmp 5), none⟩,
 ⟨some 22, .call 27 [(.tmp 21)], none⟩,
 ⟨some 20, .mov (.tmp 22), none⟩,
 ⟨some 23, .ext (.tmp 20) 0, none⟩,
 ⟨some 24, .ext (.tmp 20) 1, none⟩,
 ⟨some 6, .mov (.tmp 23), none⟩,
 ⟨some 7, .mov (.tmp 24), none⟩])
 (.seq (.seq (.region [
 ⟨some 25, .mov (.tmp 7), none⟩,
 ⟨some 26, .bin .neq (.tmp 25) (.const (.int .i64 0)), none⟩])
 (.cond (.tmp 26)
  (.seq (.region [
  ⟨some 4, .mov (.const (.bool false)), none⟩])
  .ret)
  .skip))
 (.seq (.region [
 ⟨some 8, .mov (.const (.string ⟨#[35, 32, 104, 101, 97, 100, 10]⟩)), none⟩])
 (.seq (.region [
 ⟨some 27, .mov (.tmp 6), none⟩,
 ⟨some 28, .call 32 [(.tmp 27)], none⟩,
 ⟨some 9, .mov (.tmp 28), none⟩])
 (.seq (.seq (.region [
 ⟨some 10, .mov (.const (.int .i64 0)), none⟩])
 (.block 0
  (.loop 1125899369972992
   (.seq (.seq (.region [
   ⟨some 29, .mov (.tmp 10), none⟩,
   ⟨some 30, .mov (.tmp 9), none⟩,
   ⟨some 31, .len (.tmp 30), none⟩,
   ⟨some 32, .bin .lss (.tmp 29) (.tmp 31), none⟩])
   (.cond (.tmp 32)
    .skip
    (.exit 0)))
   (.seq (.block 1
    (.seq (.region [
    ⟨some 35, .mov (.tmp 8), none⟩,
    ⟨some 36, .scat (.tmp 35) (.const (.string ⟨#[32]⟩)), none⟩,
    ⟨some 37, .mov (.tmp 9), none⟩,
    ⟨some 38, .mov (.tmp 10), none⟩,
    ⟨some 39, .ixs 1 (.tmp 37) (.tmp 38), none⟩,
    ⟨some 40, .ld (.tmp 39), none⟩,
    ⟨some 41, .scat (.tmp 36) (.tmp 40), none⟩,
    ⟨some 42, .scat (.tmp 41) (.const (.string ⟨#[32, 32, 35, 32, 110, 111, 112, 58, 32, 55, 10]⟩)), none⟩,
    ⟨some 8, .mov (.tmp 42), none⟩])
    (.seq (.region [
    ⟨some 43, .mov (.tmp 1), none⟩,
    ⟨some 44, .call 31 [(.tmp 43), (.const (.int .i64 3))], none⟩,
    ⟨some 45, .mov (.tmp 10), none⟩,
    ⟨some 46, .bin .rem (.tmp 45) (.const (.int .i64 3)), none⟩,
    ⟨some 47, .bin .eql (.tmp 44) (.tmp 46), none⟩])
    (.cond (.tmp 47)
     (.region [
     ⟨some 48, .mov (.tmp 8), none⟩,
     ⟨some 49, .scat (.tmp 48) (.const (.string ⟨#[32, 32, 32, 10, 35, 10]⟩)), none⟩,
     ⟨some 8, .mov (.tmp 49), none⟩])
     .skip))))
   (.region [
   ⟨some 33, .mov (.tmp 10), none⟩,
   ⟨some 34, .bin .add (.tmp 33) (.const (.int .i64 1)), none⟩,
   ⟨some 10, .mov (.tmp 34), none⟩]))))))
 (.seq (.region [
 ⟨some 51, .mov (.tmp 8), none⟩,
 ⟨some 52, .call 24 [(.tmp 51)], none⟩,
 ⟨some 50, .mov (.tmp 52), none⟩,
 ⟨some 53, .ext (.tmp 50) 0, none⟩,
 ⟨some 54, .ext (.tmp 50) 1, none⟩,
 ⟨some 55, .ext (.tmp 50) 2, none⟩,
 ⟨some 11, .mov (.tmp 53), none⟩,
 ⟨some 12, .mov (.tmp 54), none⟩,
 ⟨some 13, .mov (.tmp 55), none⟩])
 (.seq (.region [
 ⟨some 56, .mov (.tmp 13), none⟩,
 ⟨some 57, .bin .eql (.tmp 56) (.const (.int .i64 0)), none⟩,
 ⟨some 58, .mov (.tmp 57), none⟩,
 ⟨some 59, .mov (.tmp 12), some (58, true)⟩,
 ⟨some 60, .bin .eql (.tmp 59) (.const (.int .i64 0)), some (58, true)⟩,
 ⟨some 61, .pick (.tmp 58) (.tmp 60) (.const (.bool false)), none⟩,
 ⟨some 62, .mov (.tmp 61), none⟩,
 ⟨some 63, .mov (.tmp 11), some (62, true)⟩,
 ⟨some 64, .mov (.tmp 5), some (62, true)⟩,
 ⟨some 65, .call 26 [(.tmp 63), (.tmp 64)], some (62, true)⟩,
 ⟨some 66, .pick (.tmp 62) (.tmp 65) (.const (.bool false)), none⟩,
 ⟨some 67, .mov (.tmp 66), none⟩,
 ⟨some 68, .call 23 [], some (67, true)⟩,
 ⟨some 69, .pick (.tmp 67) (.tmp 68) (.const (.bool false)), none⟩,
 ⟨some 4, .mov (.tmp 69), none⟩])
 .ret)))))))))),
 [.tmp 4]⟩
theorem low_law04_AsmComments : lowFn Tryz.prog movers 7 = some ⟨ir_law04_AsmComments.n, strip ir_law04_AsmComments.body, ir_law04_AsmComments.res⟩ := by kernel_rfl
end Go.Proofs.YtiimndcifcoofaaGreatDoor
