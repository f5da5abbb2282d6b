/- The lowered code of this seat's functions, printed by program; each is checked against the loaded program by the kernel. No condition. -/
import Derived.Test.YtcelbfijiebjhaaVe
import Derived.Test.YtcelbfijiebjhaaRows
namespace Go.Proofs.Ytcelbfijiebjhaa
open Go
set_option maxRecDepth 100000
theorem mixed : Try.prog.follows .mixedOrders = true := by kernel_rfl
/-- Functions that do not leave the class alone. -/
def movers : List Nat := []

/-- strongtx/strongtxlaw07.LayoutAny -/
def ir_law07_LayoutAny : IFn := ⟨14,
 (.seq (.region [
 ⟨some 3, .box 24 (.tmp 0), none⟩,
 ⟨some 6, .mov (.const (.bool false)), none⟩])
 (.seq (.region [
 ⟨some 7, .ldN 13 (.tmp 3), none⟩,
 ⟨some 8, .mov (.tmp 1), none⟩,
 ⟨some 9, .mov (.tmp 2), none⟩,
 ⟨some 10, .call 7 [(.tmp 7), (.tmp 8), (.tmp 9)], none⟩,
 ⟨some 11, .mov (.tmp 10), none⟩,
 ⟨some 12, .call 8 [], some (11, true)⟩,
 ⟨some 13, .pick (.tmp 11) (.tmp 12) (.const (.bool false)), none⟩,
 ⟨some 6, .mov (.tmp 13), none⟩])
 .ret)),
 [.tmp 6]⟩
theorem low_law07_LayoutAny : lowFn Try.prog movers 3 = some ⟨ir_law07_LayoutAny.n, strip ir_law07_LayoutAny.body, ir_law07_LayoutAny.res⟩ := by kernel_rfl

/-- strongtx/strongtxlaw07.LayoutNear -/
def ir_law07_LayoutNear : IFn := ⟨68,
 (.seq (.region [
 ⟨some 5, .box 28 (.tmp 0), none⟩,
 ⟨some 10, .mov (.const (.bool false)), none⟩])
 (.seq (.region [
 ⟨some 14, .ixa 5 1 (.tmp 5) (.const (.int .i64 0)), none⟩,
 ⟨some 15, .ld (.tmp 14), none⟩,
 ⟨some 16, .ixa 5 1 (.tmp 5) (.const (.int .i64 1)), none⟩,
 ⟨some 17, .ld (.tmp 16), none⟩,
 ⟨some 18, .ixa 5 1 (.tmp 5) (.const (.int .i64 2)), none⟩,
 ⟨some 19, .ld (.tmp 18), none⟩,
 ⟨some 20, .ixa 5 1 (.tmp 5) (.const (.int .i64 3)), none⟩,
 ⟨some 21, .ld (.tmp 20), none⟩,
 ⟨some 22, .ixa 5 1 (.tmp 5) (.const (.int .i64 4)), none⟩,
 ⟨some 23, .ld (.tmp 22), none⟩,
 ⟨some 24, .call 9 [(.tmp 15), (.tmp 17), (.tmp 19), (.tmp 21), (.tmp 23)], none⟩,
 ⟨some 11, .new 24 (.agg #[.int .i64 0, .int .i64 0, .int .i64 0, .int .i64 0, .int .i64 0, .int .i64 0, .int .i64 0, .int .i64 0, .int .i64 0, .int .i64 0, .int .i64 0, .int .i64 0, .bool false]), none⟩,
 ⟨none, .stN 13 (.tmp 11) (.tmp 24), none⟩])
 (.seq (.region [
 ⟨some 25, .mov (.tmp 4), none⟩,
 ⟨some 26, .call 10 [(.tmp 25), (.const (.int .i64 90))], none⟩,
 ⟨some 27, .bin .sub (.tmp 26) (.const (.int .i64 3)), none⟩,
 ⟨some 12, .mov (.tmp 27), none⟩])
 (.seq (.seq (.region [
 ⟨some 13, .mov (.const (.int .i64 (-1))), none⟩])
 (.block 0
  (.loop 274609480704
   (.seq (.seq (.region [
   ⟨some 28, .mov (.tmp 13), none⟩,
   ⟨some 29, .bin .lss (.tmp 28) (.const (.int .i64 9)), none⟩])
   (.cond (.tmp 29)
    .skip
    (.exit 0)))
   (.seq (.block 1
    (.seq (.region [
    ⟨some 32, .ldN 13 (.tmp 11), none⟩,
    ⟨some 33, .mov (.tmp 13), none⟩,
    ⟨some 34, .mov (.tmp 12), none⟩,
    ⟨some 35, .conv .u64 (.tmp 34), none⟩,
    ⟨some 36, .call 7 [(.tmp 32), (.tmp 33), (.tmp 35)], none⟩,
    ⟨some 37, .not (.tmp 36), none⟩])
    (.cond (.tmp 37)
     (.seq (.region [
     ⟨some 10, .mov (.const (.bool false)), none⟩])
     .ret)
     .skip)))
   (.region [
   ⟨some 30, .mov (.tmp 13), none⟩,
   ⟨some 31, .bin .add (.tmp 30) (.const (.int .i64 1)), none⟩,
   ⟨some 13, .mov (.tmp 31), none⟩]))))))
 (.seq (.draw (.f ⟨some 38, .ldN 13 (.tmp 11), none⟩
 (.f ⟨some 39, .mov (.tmp 1), none⟩
 (.f ⟨some 40, .mov (.tmp 2), none⟩
 (.f ⟨some 41, .call 11 [(.tmp 38), (.tmp 39), (.tmp 40)], none⟩
 (.f ⟨some 42, .mov (.tmp 12), none⟩
 (.f ⟨some 43, .mov (.tmp 12), none⟩
 (.f ⟨some 44, .conv .u64 (.tmp 43), none⟩
 (.f ⟨some 45, .call 7 [(.tmp 41), (.tmp 42), (.tmp 44)], none⟩
 (.f ⟨some 46, .mov (.tmp 45), none⟩
 (.f ⟨some 47, .ldN 13 (.tmp 11), some (46, true)⟩
 (.f ⟨some 48, .mov (.tmp 1), some (46, true)⟩
 (.f ⟨some 49, .mov (.tmp 3), some (46, true)⟩
 (.f ⟨some 50, .call 10 [(.tmp 49), (.const (.int .i64 70))], some (46, true)⟩
 (.f ⟨some 51, .bin .sub (.tmp 50) (.const (.int .i64 2)), some (46, true)⟩
 (.f ⟨some 52, .call 11 [(.tmp 47), (.tmp 48), (.tmp 51)], some (46, true)⟩
 (.f ⟨some 53, .mov (.tmp 12), some (46, true)⟩
 (.f ⟨some 54, .mov (.tmp 12), some (46, true)⟩
 (.f ⟨some 55, .conv .u64 (.tmp 54), some (46, true)⟩
 (.f ⟨some 56, .call 7 [(.tmp 52), (.tmp 53), (.tmp 55)], some (46, true)⟩
 (.f ⟨some 57, .pick (.tmp 46) (.tmp 56) (.const (.bool false)), none⟩
 (.f ⟨some 58, .mov (.tmp 57), none⟩
 (.f ⟨some 59, .ldN 13 (.tmp 11), some (58, true)⟩
 (.f ⟨some 60, .mov (.tmp 12), some (58, true)⟩
 (.f ⟨some 61, .mov (.tmp 4), some (58, true)⟩
 (.f ⟨some 62, .conv .u64 (.tmp 61), some (58, true)⟩
 (.f ⟨some 63, .call 7 [(.tmp 59), (.tmp 60), (.tmp 62)], some (58, true)⟩
 (.f ⟨some 64, .pick (.tmp 58) (.tmp 63) (.const (.bool false)), none⟩
 (.f ⟨some 65, .mov (.tmp 64), none⟩
 (.f ⟨some 66, .call 8 [], some (65, true)⟩
 (.f ⟨some 67, .pick (.tmp 65) (.tmp 66) (.const (.bool false)), none⟩
 (.f ⟨some 10, .mov (.tmp 67), none⟩
 .done))))))))))))))))))))))))))))))))
 .ret))))),
 [.tmp 10]⟩
theorem low_law07_LayoutNear : lowFn Try.prog movers 4 = some ⟨ir_law07_LayoutNear.n, strip ir_law07_LayoutNear.body, ir_law07_LayoutNear.res⟩ := by kernel_rfl

/-- strongtx/strongtxlaw07.LayoutPacks -/
def ir_law07_LayoutPacks : IFn := ⟨148,
 (.seq (.region [
 ⟨some 3, .box 28 (.tmp 0), none⟩,
 ⟨some 4, .box 22 (.tmp 1), none⟩,
 ⟨some 6, .mov (.const (.bool false)), none⟩])
 (.seq (.region [
 ⟨some 15, .ixa 5 1 (.tmp 3) (.const (.int .i64 0)), none⟩,
 ⟨some 16, .ld (.tmp 15), none⟩,
 ⟨some 17, .ixa 5 1 (.tmp 3) (.const (.int .i64 1)), none⟩,
 ⟨some 18, .ld (.tmp 17), none⟩,
 ⟨some 19, .ixa 5 1 (.tmp 3) (.const (.int .i64 2)), none⟩,
 ⟨some 20, .ld (.tmp 19), none⟩,
 ⟨some 21, .ixa 5 1 (.tmp 3) (.const (.int .i64 3)), none⟩,
 ⟨some 22, .ld (.tmp 21), none⟩,
 ⟨some 23, .ixa 5 1 (.tmp 3) (.const (.int .i64 4)), none⟩,
 ⟨some 24, .ld (.tmp 23), none⟩,
 ⟨some 25, .call 9 [(.tmp 16), (.tmp 18), (.tmp 20), (.tmp 22), (.tmp 24)], none⟩,
 ⟨some 7, .new 24 (.agg #[.int .i64 0, .int .i64 0, .int .i64 0, .int .i64 0, .int .i64 0, .int .i64 0, .int .i64 0, .int .i64 0, .int .i64 0, .int .i64 0, .int .i64 0, .int .i64 0, .bool false]), none⟩,
 ⟨none, .stN 13 (.tmp 7) (.tmp 25), none⟩])
 (.seq (.region [
 ⟨some 26, .fad 0 (.tmp 7), none⟩,
 ⟨none, .st (.tmp 26) (.const (.int .i64 64)), none⟩])
 (.seq (.region [
 ⟨some 8, .mov (.const (.int .i64 64)), none⟩])
 (.seq (.seq (.region [
 ⟨some 9, .mov (.const (.int .i64 0)), none⟩])
 (.block 0
  (.loop 2251799679468288
   (.seq (.seq (.region [
   ⟨some 27, .mov (.tmp 9), none⟩,
   ⟨some 28, .bin .lss (.tmp 27) (.const (.int .i64 4)), none⟩])
   (.cond (.tmp 28)
    .skip
    (.exit 0)))
   (.seq (.block 1
    (.seq (.draw (.f ⟨some 31, .mov (.tmp 9), none⟩
    (.f ⟨some 32, .mov (.tmp 9), none⟩
    (.f ⟨some 33, .ixa 4 1 (.tmp 4) (.tmp 32), none⟩
    (.f ⟨some 34, .ld (.tmp 33), none⟩
    (.f ⟨some 35, .mov (.tmp 8), none⟩
    (.f ⟨some 36, .mov (.tmp 9), none⟩
    (.f ⟨some 37, .bin .shr (.tmp 35) (.tmp 36), none⟩
    (.f ⟨some 38, .bin .add (.tmp 37) (.const (.int .i64 1)), none⟩
    (.f ⟨some 39, .call 10 [(.tmp 34), (.tmp 38)], none⟩
    (.f ⟨some 40, .bin .quo (.tmp 39) (.const (.int .i64 2)), none⟩
    (.f ⟨some 41, .fad 3 (.tmp 7), none⟩
    (.f ⟨some 42, .ixa 4 1 (.tmp 41) (.tmp 31), none⟩
    (.m ⟨none, .st (.tmp 42) (.tmp 40), none⟩
    .done))))))))))))))
    (.region [
    ⟨some 43, .mov (.tmp 8), none⟩,
    ⟨some 44, .mov (.tmp 9), none⟩,
    ⟨some 45, .fad 3 (.tmp 7), none⟩,
    ⟨some 46, .ixa 4 1 (.tmp 45) (.tmp 44), none⟩,
    ⟨some 47, .ld (.tmp 46), none⟩,
    ⟨some 48, .mov (.tmp 9), none⟩,
    ⟨some 49, .bin .shl (.tmp 47) (.tmp 48), none⟩,
    ⟨some 50, .bin .sub (.tmp 43) (.tmp 49), none⟩,
    ⟨some 8, .mov (.tmp 50), none⟩])))
   (.region [
   ⟨some 29, .mov (.tmp 9), none⟩,
   ⟨some 30, .bin .add (.tmp 29) (.const (.int .i64 1)), none⟩,
   ⟨some 9, .mov (.tmp 30), none⟩]))))))
 (.seq (.region [
 ⟨some 51, .mov (.tmp 2), none⟩,
 ⟨some 52, .mov (.tmp 8), none⟩,
 ⟨some 53, .bin .add (.tmp 52) (.const (.int .i64 1)), none⟩,
 ⟨some 54, .call 10 [(.tmp 51), (.tmp 53)], none⟩,
 ⟨some 55, .fad 2 (.tmp 7), none⟩,
 ⟨none, .st (.tmp 55) (.tmp 54), none⟩])
 (.seq (.seq (.region [
 ⟨some 56, .ldN 13 (.tmp 7), none⟩,
 ⟨some 57, .call 12 [(.tmp 56)], none⟩,
 ⟨some 58, .bin .neq (.tmp 57) (.const (.int .i64 0)), none⟩])
 (.cond (.tmp 58)
  (.seq (.region [
  ⟨some 6, .mov (.const (.bool false)), none⟩])
  .ret)
  .skip))
 (.seq (.draw (.f ⟨some 59, .fad 2 (.tmp 7), none⟩
 (.f ⟨some 60, .ld (.tmp 59), none⟩
 (.f ⟨some 61, .ldN 13 (.tmp 7), none⟩
 (.f ⟨some 62, .call 13 [(.tmp 61)], none⟩
 (.f ⟨some 10, .mov (.tmp 60), none⟩
 (.f ⟨some 11, .mov (.tmp 62), none⟩
 .done)))))))
 (.seq (.seq (.region [
 ⟨some 12, .mov (.const (.int .i64 0)), none⟩])
 (.block 2
  (.loop 649037107316844230194275186406464
   (.seq (.seq (.region [
   ⟨some 63, .mov (.tmp 12), none⟩,
   ⟨some 64, .mov (.tmp 11), none⟩,
   ⟨some 65, .bin .lss (.tmp 63) (.tmp 64), none⟩])
   (.cond (.tmp 65)
    .skip
    (.exit 2)))
   (.seq (.block 3
    (.seq (.region [
    ⟨some 68, .ldN 13 (.tmp 7), none⟩,
    ⟨some 69, .mov (.tmp 12), none⟩,
    ⟨some 70, .call 14 [(.tmp 68), (.tmp 69)], none⟩,
    ⟨some 13, .mov (.tmp 70), none⟩])
    (.seq (.seq (.region [
    ⟨some 71, .mov (.tmp 13), none⟩,
    ⟨some 72, .bin .lss (.tmp 71) (.const (.int .i64 0)), none⟩,
    ⟨some 73, .mov (.tmp 72), none⟩,
    ⟨some 74, .mov (.tmp 13), some (73, false)⟩,
    ⟨some 75, .bin .geq (.tmp 74) (.const (.int .i64 4)), some (73, false)⟩,
    ⟨some 76, .pick (.tmp 73) (.const (.bool true)) (.tmp 75), none⟩,
    ⟨some 77, .mov (.tmp 76), none⟩,
    ⟨some 78, .ldN 13 (.tmp 7), some (77, false)⟩,
    ⟨some 79, .mov (.tmp 12), some (77, false)⟩,
    ⟨some 80, .call 15 [(.tmp 78), (.tmp 79)], some (77, false)⟩,
    ⟨some 81, .mov (.tmp 10), some (77, false)⟩,
    ⟨some 82, .bin .neq (.tmp 80) (.tmp 81), some (77, false)⟩,
    ⟨some 83, .pick (.tmp 77) (.const (.bool true)) (.tmp 82), none⟩,
    ⟨some 84, .mov (.tmp 83), none⟩,
    ⟨some 85, .ldN 13 (.tmp 7), some (84, false)⟩,
    ⟨some 86, .mov (.tmp 10), some (84, false)⟩,
    ⟨some 87, .conv .u64 (.tmp 86), some (84, false)⟩,
    ⟨some 88, .call 16 [(.tmp 85), (.tmp 87)], some (84, false)⟩,
    ⟨some 89, .mov (.tmp 12), some (84, false)⟩,
    ⟨some 90, .bin .neq (.tmp 88) (.tmp 89), some (84, false)⟩,
    ⟨some 91, .pick (.tmp 84) (.const (.bool true)) (.tmp 90), none⟩])
    (.cond (.tmp 91)
     (.seq (.region [
     ⟨some 6, .mov (.const (.bool false)), none⟩])
     .ret)
     .skip))
    (.seq (.seq (.region [
    ⟨some 14, .mov (.const (.int .i64 1)), none⟩])
    (.block 4
     (.loop 40559867447146199326794906091584
      (.seq (.seq (.region [
      ⟨some 92, .mov (.tmp 14), none⟩,
      ⟨some 93, .mov (.tmp 13), none⟩,
      ⟨some 94, .bin .shl (.const (.int .i64 1)) (.tmp 93), none⟩,
      ⟨some 95, .bin .lss (.tmp 92) (.tmp 94), none⟩])
      (.cond (.tmp 95)
       .skip
       (.exit 4)))
      (.seq (.block 5
       (.seq (.region [
       ⟨some 98, .ldN 13 (.tmp 7), none⟩,
       ⟨some 99, .mov (.tmp 10), none⟩,
       ⟨some 100, .mov (.tmp 14), none⟩,
       ⟨some 101, .bin .add (.tmp 99) (.tmp 100), none⟩,
       ⟨some 102, .conv .u64 (.tmp 101), none⟩,
       ⟨some 103, .call 16 [(.tmp 98), (.tmp 102)], none⟩,
       ⟨some 104, .bin .neq (.tmp 103) (.const (.int .i64 (-1))), none⟩])
       (.cond (.tmp 104)
        (.seq (.region [
        ⟨some 6, .mov (.const (.bool false)), none⟩])
        .ret)
        .skip)))
      (.region [
      ⟨some 96, .mov (.tmp 14), none⟩,
      ⟨some 97, .bin .add (.tmp 96) (.const (.int .i64 1)), none⟩,
      ⟨some 14, .mov (.tmp 97), none⟩]))))))
    (.region [
    ⟨some 105, .mov (.tmp 10), none⟩,
    ⟨some 106, .mov (.tmp 13), none⟩,
    ⟨some 107, .bin .shl (.const (.int .i64 1)) (.tmp 106), none⟩,
    ⟨some 108, .bin .add (.tmp 105) (.tmp 107), none⟩,
    ⟨some 10, .mov (.tmp 108), none⟩])))))
   (.region [
   ⟨some 66, .mov (.tmp 12), none⟩,
   ⟨some 67, .bin .add (.tmp 66) (.const (.int .i64 1)), none⟩,
   ⟨some 12, .mov (.tmp 67), none⟩]))))))
 (.seq (.region [
 ⟨some 109, .mov (.tmp 11), none⟩,
 ⟨some 110, .fad 3 (.tmp 7), none⟩,
 ⟨some 111, .ixa 4 1 (.tmp 110) (.const (.int .i64 0)), none⟩,
 ⟨some 112, .ld (.tmp 111), none⟩,
 ⟨some 113, .fad 3 (.tmp 7), none⟩,
 ⟨some 114, .ixa 4 1 (.tmp 113) (.const (.int .i64 1)), none⟩,
 ⟨some 115, .ld (.tmp 114), none⟩,
 ⟨some 116, .bin .add (.tmp 112) (.tmp 115), none⟩,
 ⟨some 117, .fad 3 (.tmp 7), none⟩,
 ⟨some 118, .ixa 4 1 (.tmp 117) (.const (.int .i64 2)), none⟩,
 ⟨some 119, .ld (.tmp 118), none⟩,
 ⟨some 120, .bin .add (.tmp 116) (.tmp 119), none⟩,
 ⟨some 121, .fad 3 (.tmp 7), none⟩,
 ⟨some 122, .ixa 4 1 (.tmp 121) (.const (.int .i64 3)), none⟩,
 ⟨some 123, .ld (.tmp 122), none⟩,
 ⟨some 124, .bin .add (.tmp 120) (.tmp 123), none⟩,
 ⟨some 125, .bin .eql (.tmp 109) (.tmp 124), none⟩,
 ⟨some 126, .mov (.tmp 125), none⟩,
 ⟨some 127, .mov (.tmp 10), some (126, true)⟩,
 ⟨some 128, .fad 0 (.tmp 7), some (126, true)⟩,
 ⟨some 129, .ld (.tmp 128), some (126, true)⟩,
 ⟨some 130, .bin .leq (.tmp 127) (.tmp 129), some (126, true)⟩,
 ⟨some 131, .pick (.tmp 126) (.tmp 130) (.const (.bool false)), none⟩,
 ⟨some 132, .mov (.tmp 131), none⟩,
 ⟨some 133, .ldN 13 (.tmp 7), some (132, true)⟩,
 ⟨some 134, .mov (.tmp 10), some (132, true)⟩,
 ⟨some 135, .conv .u64 (.tmp 134), some (132, true)⟩,
 ⟨some 136, .call 16 [(.tmp 133), (.tmp 135)], some (132, true)⟩,
 ⟨some 137, .bin .eql (.tmp 136) (.const (.int .i64 (-1))), some (132, true)⟩,
 ⟨some 138, .pick (.tmp 132) (.tmp 137) (.const (.bool false)), none⟩,
 ⟨some 139, .mov (.tmp 138), none⟩,
 ⟨some 140, .ldN 13 (.tmp 7), some (139, true)⟩,
 ⟨some 141, .mov (.tmp 11), some (139, true)⟩,
 ⟨some 142, .call 14 [(.tmp 140), (.tmp 141)], some (139, true)⟩,
 ⟨some 143, .bin .eql (.tmp 142) (.const (.int .i64 (-1))), some (139, true)⟩,
 ⟨some 144, .pick (.tmp 139) (.tmp 143) (.const (.bool false)), none⟩,
 ⟨some 145, .mov (.tmp 144), none⟩,
 ⟨some 146, .call 8 [], some (145, true)⟩,
 ⟨some 147, .pick (.tmp 145) (.tmp 146) (.const (.bool false)), none⟩,
 ⟨some 6, .mov (.tmp 147), none⟩])
 .ret)))))))))),
 [.tmp 6]⟩
theorem low_law07_LayoutPacks : lowFn Try.prog movers 5 = some ⟨ir_law07_LayoutPacks.n, strip ir_law07_LayoutPacks.body, ir_law07_LayoutPacks.res⟩ := by kernel_rfl

/-- strongtx/strongtxlaw07.LayoutOrecs -/
def ir_law07_LayoutOrecs : IFn := ⟨80,
 (.seq (.region [
 ⟨some 1, .box 28 (.tmp 0), none⟩,
 ⟨some 2, .mov (.const (.bool false)), none⟩])
 (.seq (.region [
 ⟨some 7, .ixa 5 1 (.tmp 1) (.const (.int .i64 0)), none⟩,
 ⟨some 8, .ld (.tmp 7), none⟩,
 ⟨some 9, .ixa 5 1 (.tmp 1) (.const (.int .i64 1)), none⟩,
 ⟨some 10, .ld (.tmp 9), none⟩,
 ⟨some 11, .ixa 5 1 (.tmp 1) (.const (.int .i64 2)), none⟩,
 ⟨some 12, .ld (.tmp 11), none⟩,
 ⟨some 13, .ixa 5 1 (.tmp 1) (.const (.int .i64 3)), none⟩,
 ⟨some 14, .ld (.tmp 13), none⟩,
 ⟨some 15, .ixa 5 1 (.tmp 1) (.const (.int .i64 4)), none⟩,
 ⟨some 16, .ld (.tmp 15), none⟩,
 ⟨some 17, .call 9 [(.tmp 8), (.tmp 10), (.tmp 12), (.tmp 14), (.tmp 16)], none⟩,
 ⟨some 3, .new 24 (.agg #[.int .i64 0, .int .i64 0, .int .i64 0, .int .i64 0, .int .i64 0, .int .i64 0, .int .i64 0, .int .i64 0, .int .i64 0, .int .i64 0, .int .i64 0, .int .i64 0, .bool false]), none⟩,
 ⟨none, .stN 13 (.tmp 3) (.tmp 17), none⟩])
 (.seq (.draw (.f ⟨some 18, .fad 0 (.tmp 3), none⟩
 (.f ⟨some 19, .ld (.tmp 18), none⟩
 (.f ⟨some 20, .ldN 13 (.tmp 3), none⟩
 (.f ⟨some 21, .call 13 [(.tmp 20)], none⟩
 (.f ⟨some 22, .bin .add (.tmp 19) (.tmp 21), none⟩
 (.f ⟨some 4, .mov (.tmp 22), none⟩
 .done)))))))
 (.seq (.seq (.region [
 ⟨some 5, .mov (.const (.int .i64 0)), none⟩])
 (.block 0
  (.loop 295147905179344437348
   (.seq (.seq (.region [
   ⟨some 23, .mov (.tmp 5), none⟩,
   ⟨some 24, .mov (.tmp 4), none⟩,
   ⟨some 25, .bin .lss (.tmp 23) (.tmp 24), none⟩])
   (.cond (.tmp 25)
    .skip
    (.exit 0)))
   (.seq (.block 1
    (.seq (.region [
    ⟨some 28, .ldN 13 (.tmp 3), none⟩,
    ⟨some 29, .mov (.tmp 5), none⟩,
    ⟨some 30, .call 17 [(.tmp 28), (.tmp 29)], none⟩,
    ⟨some 6, .mov (.tmp 30), none⟩])
    (.seq (.region [
    ⟨some 31, .mov (.tmp 6), none⟩,
    ⟨some 32, .bin .lss (.tmp 31) (.const (.int .i64 0)), none⟩,
    ⟨some 33, .mov (.tmp 32), none⟩,
    ⟨some 34, .mov (.tmp 6), some (33, false)⟩,
    ⟨some 35, .fad 1 (.tmp 3), some (33, false)⟩,
    ⟨some 36, .ld (.tmp 35), some (33, false)⟩,
    ⟨some 37, .bin .geq (.tmp 34) (.tmp 36), some (33, false)⟩,
    ⟨some 38, .pick (.tmp 33) (.const (.bool true)) (.tmp 37), none⟩,
    ⟨some 39, .mov (.tmp 38), none⟩,
    ⟨some 40, .mov (.tmp 5), some (39, false)⟩,
    ⟨some 41, .fad 1 (.tmp 3), some (39, false)⟩,
    ⟨some 42, .ld (.tmp 41), some (39, false)⟩,
    ⟨some 43, .bin .add (.tmp 40) (.tmp 42), some (39, false)⟩,
    ⟨some 44, .mov (.tmp 4), some (39, false)⟩,
    ⟨some 45, .bin .lss (.tmp 43) (.tmp 44), some (39, false)⟩,
    ⟨some 46, .mov (.tmp 45), some (39, false)⟩,
    ⟨some 47, .ldN 13 (.tmp 3), some (46, true)⟩,
    ⟨some 48, .mov (.tmp 5), some (46, true)⟩,
    ⟨some 49, .fad 1 (.tmp 3), some (46, true)⟩,
    ⟨some 50, .ld (.tmp 49), some (46, true)⟩,
    ⟨some 51, .bin .add (.tmp 48) (.tmp 50), some (46, true)⟩,
    ⟨some 52, .call 17 [(.tmp 47), (.tmp 51)], some (46, true)⟩,
    ⟨some 53, .mov (.tmp 6), some (46, true)⟩,
    ⟨some 54, .bin .neq (.tmp 52) (.tmp 53), some (46, true)⟩,
    ⟨some 55, .pick (.tmp 46) (.tmp 54) (.const (.bool false)), some (39, false)⟩,
    ⟨some 56, .pick (.tmp 39) (.const (.bool true)) (.tmp 55), none⟩,
    ⟨some 57, .mov (.tmp 56), none⟩,
    ⟨some 58, .mov (.tmp 5), some (57, false)⟩,
    ⟨some 59, .fad 1 (.tmp 3), some (57, false)⟩,
    ⟨some 60, .ld (.tmp 59), some (57, false)⟩,
    ⟨some 61, .bin .lss (.tmp 58) (.tmp 60), some (57, false)⟩,
    ⟨some 62, .mov (.tmp 61), some (57, false)⟩,
    ⟨some 63, .mov (.tmp 6), some (62, true)⟩,
    ⟨some 64, .mov (.tmp 5), some (62, true)⟩,
    ⟨some 65, .bin .neq (.tmp 63) (.tmp 64), some (62, true)⟩,
    ⟨some 66, .pick (.tmp 62) (.tmp 65) (.const (.bool false)), some (57, false)⟩,
    ⟨some 67, .pick (.tmp 57) (.const (.bool true)) (.tmp 66), none⟩])
    (.cond (.tmp 67)
     (.seq (.region [
     ⟨some 2, .mov (.const (.bool false)), none⟩])
     .ret)
     .skip))))
   (.region [
   ⟨some 26, .mov (.tmp 5), none⟩,
   ⟨some 27, .bin .add (.tmp 26) (.const (.int .i64 1)), none⟩,
   ⟨some 5, .mov (.tmp 27), none⟩]))))))
 (.seq (.region [
 ⟨some 68, .ldN 13 (.tmp 3), none⟩,
 ⟨some 69, .call 17 [(.tmp 68), (.const (.int .i64 (-1)))], none⟩,
 ⟨some 70, .bin .eql (.tmp 69) (.const (.int .i64 (-1))), none⟩,
 ⟨some 71, .mov (.tmp 70), none⟩,
 ⟨some 72, .ldN 13 (.tmp 3), some (71, true)⟩,
 ⟨some 73, .mov (.tmp 4), some (71, true)⟩,
 ⟨some 74, .call 17 [(.tmp 72), (.tmp 73)], some (71, true)⟩,
 ⟨some 75, .bin .eql (.tmp 74) (.const (.int .i64 (-1))), some (71, true)⟩,
 ⟨some 76, .pick (.tmp 71) (.tmp 75) (.const (.bool false)), none⟩,
 ⟨some 77, .mov (.tmp 76), none⟩,
 ⟨some 78, .call 8 [], some (77, true)⟩,
 ⟨some 79, .pick (.tmp 77) (.tmp 78) (.const (.bool false)), none⟩,
 ⟨some 2, .mov (.tmp 79), none⟩])
 .ret))))),
 [.tmp 2]⟩
theorem low_law07_LayoutOrecs : lowFn Try.prog movers 6 = some ⟨ir_law07_LayoutOrecs.n, strip ir_law07_LayoutOrecs.body, ir_law07_LayoutOrecs.res⟩ := by kernel_rfl

/-- strongtx/strongtxlaw07.agrees -/
def ir_law07_agrees : IFn := ⟨55,
 (.seq (.region [
 ⟨some 3, .box 24 (.tmp 0), none⟩,
 ⟨some 6, .mov (.const (.bool false)), none⟩])
 (.seq (.draw (.f ⟨some 7, .ldN 13 (.tmp 3), none⟩
 (.f ⟨some 8, .call 12 [(.tmp 7)], none⟩
 (.f ⟨some 9, .ldN 13 (.tmp 3), none⟩
 (.f ⟨some 10, .call 18 [(.tmp 9)], none⟩
 (.f ⟨some 11, .bin .eql (.tmp 8) (.tmp 10), none⟩
 (.f ⟨some 12, .mov (.tmp 11), none⟩
 (.f ⟨some 13, .ldN 13 (.tmp 3), some (12, true)⟩
 (.f ⟨some 14, .call 13 [(.tmp 13)], some (12, true)⟩
 (.f ⟨some 15, .ldN 13 (.tmp 3), some (12, true)⟩
 (.f ⟨some 16, .call 19 [(.tmp 15)], some (12, true)⟩
 (.f ⟨some 17, .bin .eql (.tmp 14) (.tmp 16), some (12, true)⟩
 (.f ⟨some 18, .pick (.tmp 12) (.tmp 17) (.const (.bool false)), none⟩
 (.f ⟨some 19, .mov (.tmp 18), none⟩
 (.f ⟨some 20, .ldN 13 (.tmp 3), some (19, true)⟩
 (.f ⟨some 21, .mov (.tmp 1), some (19, true)⟩
 (.f ⟨some 22, .call 14 [(.tmp 20), (.tmp 21)], some (19, true)⟩
 (.f ⟨some 23, .ldN 13 (.tmp 3), some (19, true)⟩
 (.f ⟨some 24, .mov (.tmp 1), some (19, true)⟩
 (.f ⟨some 25, .call 20 [(.tmp 23), (.tmp 24)], some (19, true)⟩
 (.f ⟨some 26, .bin .eql (.tmp 22) (.tmp 25), some (19, true)⟩
 (.f ⟨some 27, .pick (.tmp 19) (.tmp 26) (.const (.bool false)), none⟩
 (.f ⟨some 28, .mov (.tmp 27), none⟩
 (.f ⟨some 29, .ldN 13 (.tmp 3), some (28, true)⟩
 (.f ⟨some 30, .mov (.tmp 1), some (28, true)⟩
 (.f ⟨some 31, .call 15 [(.tmp 29), (.tmp 30)], some (28, true)⟩
 (.f ⟨some 32, .ldN 13 (.tmp 3), some (28, true)⟩
 (.f ⟨some 33, .mov (.tmp 1), some (28, true)⟩
 (.f ⟨some 34, .call 21 [(.tmp 32), (.tmp 33)], some (28, true)⟩
 (.f ⟨some 35, .bin .eql (.tmp 31) (.tmp 34), some (28, true)⟩
 (.f ⟨some 36, .pick (.tmp 28) (.tmp 35) (.const (.bool false)), none⟩
 (.f ⟨some 37, .mov (.tmp 36), none⟩
 (.f ⟨some 38, .ldN 13 (.tmp 3), some (37, true)⟩
 (.f ⟨some 39, .mov (.tmp 2), some (37, true)⟩
 (.f ⟨some 40, .call 16 [(.tmp 38), (.tmp 39)], some (37, true)⟩
 (.f ⟨some 41, .ldN 13 (.tmp 3), some (37, true)⟩
 (.f ⟨some 42, .mov (.tmp 2), some (37, true)⟩
 (.f ⟨some 43, .call 22 [(.tmp 41), (.tmp 42)], some (37, true)⟩
 (.f ⟨some 44, .bin .eql (.tmp 40) (.tmp 43), some (37, true)⟩
 (.f ⟨some 45, .pick (.tmp 37) (.tmp 44) (.const (.bool false)), none⟩
 (.f ⟨some 46, .mov (.tmp 45), none⟩
 (.f ⟨some 47, .ldN 13 (.tmp 3), some (46, true)⟩
 (.f ⟨some 48, .mov (.tmp 1), some (46, true)⟩
 (.f ⟨some 49, .call 17 [(.tmp 47), (.tmp 48)], some (46, true)⟩
 (.f ⟨some 50, .ldN 13 (.tmp 3), some (46, true)⟩
 (.f ⟨some 51, .mov (.tmp 1), some (46, true)⟩
 (.f ⟨some 52, .call 23 [(.tmp 50), (.tmp 51)], some (46, true)⟩
 (.f ⟨some 53, .bin .eql (.tmp 49) (.tmp 52), some (46, true)⟩
 (.f ⟨some 54, .pick (.tmp 46) (.tmp 53) (.const (.bool false)), none⟩
 (.f ⟨some 6, .mov (.tmp 54), none⟩
 .done))))))))))))))))))))))))))))))))))))))))))))))))))
 .ret)),
 [.tmp 6]⟩
theorem low_law07_agrees : lowFn Try.prog movers 7 = some ⟨ir_law07_agrees.n, strip ir_law07_agrees.body, ir_law07_agrees.res⟩ := by kernel_rfl

/-- strongtx/strongtxlaw07.awake -/
def ir_law07_awake : IFn := ⟨36,
 (.seq (.region [
 ⟨some 0, .mov (.const (.bool false)), none⟩])
 (.seq (.region [
 ⟨some 2, .call 24 [], none⟩,
 ⟨some 1, .new 24 (.agg #[.int .i64 0, .int .i64 0, .int .i64 0, .int .i64 0, .int .i64 0, .int .i64 0, .int .i64 0, .int .i64 0, .int .i64 0, .int .i64 0, .int .i64 0, .int .i64 0, .bool false]), none⟩,
 ⟨none, .stN 13 (.tmp 1) (.tmp 2), none⟩])
 (.seq (.region [
 ⟨some 3, .ldN 13 (.tmp 1), none⟩,
 ⟨some 4, .call 12 [(.tmp 3)], none⟩,
 ⟨some 5, .bin .eql (.tmp 4) (.const (.int .i64 0)), none⟩,
 ⟨some 6, .mov (.tmp 5), none⟩,
 ⟨some 7, .ldN 13 (.tmp 1), some (6, true)⟩,
 ⟨some 8, .call 13 [(.tmp 7)], some (6, true)⟩,
 ⟨some 9, .bin .eql (.tmp 8) (.const (.int .i64 3)), some (6, true)⟩,
 ⟨some 10, .pick (.tmp 6) (.tmp 9) (.const (.bool false)), none⟩,
 ⟨some 11, .mov (.tmp 10), none⟩,
 ⟨some 12, .ldN 13 (.tmp 1), some (11, true)⟩,
 ⟨some 13, .call 15 [(.tmp 12), (.const (.int .i64 2))], some (11, true)⟩,
 ⟨some 14, .bin .eql (.tmp 13) (.const (.int .i64 6)), some (11, true)⟩,
 ⟨some 15, .pick (.tmp 11) (.tmp 14) (.const (.bool false)), none⟩,
 ⟨some 16, .mov (.tmp 15), none⟩,
 ⟨some 17, .ldN 13 (.tmp 1), some (16, true)⟩,
 ⟨some 18, .call 14 [(.tmp 17), (.const (.int .i64 2))], some (16, true)⟩,
 ⟨some 19, .bin .eql (.tmp 18) (.const (.int .i64 1)), some (16, true)⟩,
 ⟨some 20, .pick (.tmp 16) (.tmp 19) (.const (.bool false)), none⟩,
 ⟨some 21, .mov (.tmp 20), none⟩,
 ⟨some 22, .ldN 13 (.tmp 1), some (21, true)⟩,
 ⟨some 23, .call 16 [(.tmp 22), (.const (.int .u64 5))], some (21, true)⟩,
 ⟨some 24, .bin .eql (.tmp 23) (.const (.int .i64 1)), some (21, true)⟩,
 ⟨some 25, .pick (.tmp 21) (.tmp 24) (.const (.bool false)), none⟩,
 ⟨some 26, .mov (.tmp 25), none⟩,
 ⟨some 27, .ldN 13 (.tmp 1), some (26, true)⟩,
 ⟨some 28, .call 17 [(.tmp 27), (.const (.int .i64 18))], some (26, true)⟩,
 ⟨some 29, .bin .eql (.tmp 28) (.const (.int .i64 0)), some (26, true)⟩,
 ⟨some 30, .pick (.tmp 26) (.tmp 29) (.const (.bool false)), none⟩,
 ⟨some 31, .mov (.tmp 30), none⟩,
 ⟨some 32, .bld [(.int .i64 0), (.int .i64 0), (.int .i64 0), (.int .i64 0), (.int .i64 0), (.int .i64 0), (.int .i64 0), (.int .i64 0), (.int .i64 0), (.int .i64 0), (.int .i64 0), (.int .i64 0), (.bool false)] [], some (31, true)⟩,
 ⟨some 33, .call 12 [(.tmp 32)], some (31, true)⟩,
 ⟨some 34, .bin .eql (.tmp 33) (.const (.int .i64 50)), some (31, true)⟩,
 ⟨some 35, .pick (.tmp 31) (.tmp 34) (.const (.bool false)), none⟩,
 ⟨some 0, .mov (.tmp 35), none⟩])
 .ret))),
 [.tmp 0]⟩
theorem low_law07_awake : lowFn Try.prog movers 8 = some ⟨ir_law07_awake.n, strip ir_law07_awake.body, ir_law07_awake.res⟩ := by kernel_rfl

/-- strongtx/strongtxmake.Config -/
def ir_make_Config : IFn := ⟨78,
 (.seq (.region [
 ⟨some 10, .new 24 (.agg #[.int .i64 0, .int .i64 0, .int .i64 0, .int .i64 0, .int .i64 0, .int .i64 0, .int .i64 0, .int .i64 0, .int .i64 0, .int .i64 0, .int .i64 0, .int .i64 0, .bool false]), none⟩])
 (.seq (.region [
 ⟨some 15, .mov (.tmp 0), none⟩,
 ⟨some 16, .call 10 [(.tmp 15), (.const (.int .i64 9))], none⟩,
 ⟨some 17, .bin .add (.const (.int .i64 4)) (.tmp 16), none⟩,
 ⟨some 18, .mov (.tmp 1), none⟩,
 ⟨some 19, .call 10 [(.tmp 18), (.const (.int .i64 8))], none⟩,
 ⟨some 20, .bin .add (.const (.int .i64 1)) (.tmp 19), none⟩,
 ⟨some 21, .bld [(.int .i64 0), (.int .i64 0), (.int .i64 0), (.int .i64 0), (.int .i64 0), (.int .i64 0), (.int .i64 0), (.int .i64 0), (.int .i64 0), (.int .i64 0), (.int .i64 0), (.int .i64 0), (.bool false)] [(0, 1, (.tmp 17)), (1, 1, (.tmp 20))], none⟩,
 ⟨some 11, .new 24 (.agg #[.int .i64 0, .int .i64 0, .int .i64 0, .int .i64 0, .int .i64 0, .int .i64 0, .int .i64 0, .int .i64 0, .int .i64 0, .int .i64 0, .int .i64 0, .int .i64 0, .bool false]), none⟩,
 ⟨none, .stN 13 (.tmp 11) (.tmp 21), none⟩])
 (.seq (.region [
 ⟨some 22, .mov (.tmp 2), none⟩,
 ⟨some 23, .call 10 [(.tmp 22), (.const (.int .i64 6))], none⟩,
 ⟨some 24, .bin .add (.const (.int .i64 1)) (.tmp 23), none⟩,
 ⟨some 25, .fad 7 (.tmp 11), none⟩,
 ⟨none, .st (.tmp 25) (.tmp 24), none⟩])
 (.seq (.region [
 ⟨some 26, .mov (.tmp 2), none⟩,
 ⟨some 27, .bin .quo (.tmp 26) (.const (.int .i64 7)), none⟩,
 ⟨some 28, .call 10 [(.tmp 27), (.const (.int .i64 8))], none⟩,
 ⟨some 29, .bin .add (.const (.int .i64 1)) (.tmp 28), none⟩,
 ⟨some 30, .fad 8 (.tmp 11), none⟩,
 ⟨none, .st (.tmp 30) (.tmp 29), none⟩])
 (.seq (.region [
 ⟨some 31, .mov (.tmp 3), none⟩,
 ⟨some 32, .call 10 [(.tmp 31), (.const (.int .i64 3))], none⟩,
 ⟨some 33, .fad 9 (.tmp 11), none⟩,
 ⟨none, .st (.tmp 33) (.tmp 32), none⟩])
 (.seq (.region [
 ⟨some 34, .mov (.tmp 3), none⟩,
 ⟨some 35, .bin .quo (.tmp 34) (.const (.int .i64 3)), none⟩,
 ⟨some 36, .call 10 [(.tmp 35), (.const (.int .i64 3))], none⟩,
 ⟨some 37, .fad 10 (.tmp 11), none⟩,
 ⟨none, .st (.tmp 37) (.tmp 36), none⟩])
 (.seq (.region [
 ⟨some 38, .fad 11 (.tmp 11), none⟩,
 ⟨none, .st (.tmp 38) (.const (.int .i64 50)), none⟩])
 (.seq (.seq (.region [
 ⟨some 39, .mov (.tmp 4), none⟩,
 ⟨some 40, .call 10 [(.tmp 39), (.const (.int .i64 5))], none⟩,
 ⟨some 41, .bin .eql (.tmp 40) (.const (.int .i64 0)), none⟩])
 (.cond (.tmp 41)
  (.region [
  ⟨some 42, .mov (.tmp 4), none⟩,
  ⟨some 43, .bin .quo (.tmp 42) (.const (.int .i64 5)), none⟩,
  ⟨some 44, .call 10 [(.tmp 43), (.const (.int .i64 4))], none⟩,
  ⟨some 45, .fad 11 (.tmp 11), none⟩,
  ⟨none, .st (.tmp 45) (.tmp 44), none⟩])
  .skip))
 (.seq (.region [
 ⟨some 46, .fad 2 (.tmp 11), none⟩,
 ⟨none, .st (.tmp 46) (.const (.int .i64 2)), none⟩])
 (.seq (.region [
 ⟨some 47, .fad 0 (.tmp 11), none⟩,
 ⟨some 48, .ld (.tmp 47), none⟩,
 ⟨some 49, .bin .sub (.tmp 48) (.const (.int .i64 2)), none⟩,
 ⟨some 12, .mov (.tmp 49), none⟩])
 (.seq (.seq (.region [
 ⟨some 13, .mov (.const (.int .i64 0)), none⟩])
 (.block 0
  (.loop 151115726325928740024320
   (.seq (.seq (.region [
   ⟨some 50, .mov (.tmp 13), none⟩,
   ⟨some 51, .bin .lss (.tmp 50) (.const (.int .i64 2)), none⟩])
   (.cond (.tmp 51)
    .skip
    (.exit 0)))
   (.seq (.block 1
    (.seq (.draw (.f ⟨some 54, .mov (.tmp 3), none⟩
    (.f ⟨some 55, .mov (.tmp 13), none⟩
    (.f ⟨some 56, .bin .mul (.const (.int .i64 20)) (.tmp 55), none⟩
    (.f ⟨some 57, .bin .add (.const (.int .i64 9)) (.tmp 56), none⟩
    (.f ⟨some 58, .bin .quo (.tmp 54) (.tmp 57), none⟩
    (.f ⟨some 59, .mov (.tmp 12), none⟩
    (.f ⟨some 60, .mov (.tmp 13), none⟩
    (.f ⟨some 61, .bin .shr (.tmp 59) (.tmp 60), none⟩
    (.f ⟨some 62, .bin .add (.tmp 61) (.const (.int .i64 1)), none⟩
    (.f ⟨some 63, .call 10 [(.tmp 58), (.tmp 62)], none⟩
    (.f ⟨some 14, .mov (.tmp 63), none⟩
    .done))))))))))))
    (.seq (.region [
    ⟨some 64, .mov (.tmp 13), none⟩,
    ⟨some 65, .mov (.tmp 14), none⟩,
    ⟨some 66, .mm false (.tmp 65) (.const (.int .i64 2)), none⟩,
    ⟨some 67, .fad 3 (.tmp 11), none⟩,
    ⟨some 68, .ixa 4 1 (.tmp 67) (.tmp 64), none⟩,
    ⟨none, .st (.tmp 68) (.tmp 66), none⟩])
    (.region [
    ⟨some 69, .mov (.tmp 12), none⟩,
    ⟨some 70, .mov (.tmp 13), none⟩,
    ⟨some 71, .fad 3 (.tmp 11), none⟩,
    ⟨some 72, .ixa 4 1 (.tmp 71) (.tmp 70), none⟩,
    ⟨some 73, .ld (.tmp 72), none⟩,
    ⟨some 74, .mov (.tmp 13), none⟩,
    ⟨some 75, .bin .shl (.tmp 73) (.tmp 74), none⟩,
    ⟨some 76, .bin .sub (.tmp 69) (.tmp 75), none⟩,
    ⟨some 12, .mov (.tmp 76), none⟩]))))
   (.region [
   ⟨some 52, .mov (.tmp 13), none⟩,
   ⟨some 53, .bin .add (.tmp 52) (.const (.int .i64 1)), none⟩,
   ⟨some 13, .mov (.tmp 53), none⟩]))))))
 (.seq (.region [
 ⟨some 77, .ldN 13 (.tmp 11), none⟩,
 ⟨none, .stN 13 (.tmp 10) (.tmp 77), none⟩])
 .ret)))))))))))),
 [.cellN 10 13]⟩
theorem low_make_Config : lowFn Try.prog movers 9 = some ⟨ir_make_Config.n, strip ir_make_Config.body, ir_make_Config.res⟩ := by kernel_rfl

/-- strongtx/strongtxkit.Place -/
def ir_kit_Place : IFn := ⟨11,
 (.seq (.region [
 ⟨some 4, .mov (.const (.int .i64 0)), none⟩])
 (.seq (.region [
 ⟨some 5, .mov (.tmp 0), none⟩,
 ⟨some 6, .conv .u64 (.tmp 5), none⟩,
 ⟨some 7, .mov (.tmp 1), none⟩,
 ⟨some 8, .conv .u64 (.tmp 7), none⟩,
 ⟨some 9, .bin .rem (.tmp 6) (.tmp 8), none⟩,
 ⟨some 10, .conv .i64 (.tmp 9), none⟩,
 ⟨some 4, .mov (.tmp 10), none⟩])
 .ret)),
 [.tmp 4]⟩
theorem low_kit_Place : lowFn Try.prog movers 10 = some ⟨ir_kit_Place.n, strip ir_kit_Place.body, ir_kit_Place.res⟩ := by kernel_rfl

/-- strongtx/strongtxlaw07.spoil -/
def ir_law07_spoil : IFn := ⟨51,
 (.seq (.region [
 ⟨some 3, .box 24 (.tmp 0), none⟩,
 ⟨some 6, .new 24 (.agg #[.int .i64 0, .int .i64 0, .int .i64 0, .int .i64 0, .int .i64 0, .int .i64 0, .int .i64 0, .int .i64 0, .int .i64 0, .int .i64 0, .int .i64 0, .int .i64 0, .bool false]), none⟩])
 (.seq (.seq (.region [
 ⟨some 7, .mov (.tmp 1), none⟩,
 ⟨some 8, .call 10 [(.tmp 7), (.const (.int .i64 12))], none⟩])
 (.block 0
  (.seq (.region [
  ⟨some 12, .bin .eql (.tmp 8) (.const (.int .i64 0)), none⟩,
  ⟨some 11, .mov (.tmp 12), none⟩])
  (.cond (.tmp 11)
   (.region [
   ⟨some 13, .mov (.tmp 2), none⟩,
   ⟨some 14, .fad 0 (.tmp 3), none⟩,
   ⟨none, .st (.tmp 14) (.tmp 13), none⟩])
   (.seq (.region [
   ⟨some 16, .bin .eql (.tmp 8) (.const (.int .i64 1)), none⟩,
   ⟨some 15, .mov (.tmp 16), none⟩])
   (.cond (.tmp 15)
    (.region [
    ⟨some 17, .mov (.tmp 2), none⟩,
    ⟨some 18, .fad 1 (.tmp 3), none⟩,
    ⟨none, .st (.tmp 18) (.tmp 17), none⟩])
    (.seq (.region [
    ⟨some 20, .bin .eql (.tmp 8) (.const (.int .i64 2)), none⟩,
    ⟨some 19, .mov (.tmp 20), none⟩])
    (.cond (.tmp 19)
     (.region [
     ⟨some 21, .mov (.tmp 2), none⟩,
     ⟨some 22, .fad 2 (.tmp 3), none⟩,
     ⟨none, .st (.tmp 22) (.tmp 21), none⟩])
     (.seq (.seq (.region [
     ⟨some 24, .bin .eql (.tmp 8) (.const (.int .i64 3)), none⟩,
     ⟨some 23, .mov (.tmp 24), none⟩])
     (.cond (.tmp 23)
      .skip
      (.seq (.region [
      ⟨some 25, .bin .eql (.tmp 8) (.const (.int .i64 4)), none⟩,
      ⟨some 23, .mov (.tmp 25), none⟩])
      (.cond (.tmp 23)
       .skip
       (.seq (.region [
       ⟨some 26, .bin .eql (.tmp 8) (.const (.int .i64 5)), none⟩,
       ⟨some 23, .mov (.tmp 26), none⟩])
       (.cond (.tmp 23)
        .skip
        (.region [
        ⟨some 27, .bin .eql (.tmp 8) (.const (.int .i64 6)), none⟩,
        ⟨some 23, .mov (.tmp 27), none⟩])))))))
     (.cond (.tmp 23)
      (.region [
      ⟨some 28, .mov (.tmp 1), none⟩,
      ⟨some 29, .call 10 [(.tmp 28), (.const (.int .i64 12))], none⟩,
      ⟨some 30, .bin .sub (.tmp 29) (.const (.int .i64 3)), none⟩,
      ⟨some 31, .mov (.tmp 2), none⟩,
      ⟨some 32, .fad 3 (.tmp 3), none⟩,
      ⟨some 33, .ixa 4 1 (.tmp 32) (.tmp 30), none⟩,
      ⟨none, .st (.tmp 33) (.tmp 31), none⟩])
      (.seq (.region [
      ⟨some 35, .bin .eql (.tmp 8) (.const (.int .i64 7)), none⟩,
      ⟨some 34, .mov (.tmp 35), none⟩])
      (.cond (.tmp 34)
       (.region [
       ⟨some 36, .mov (.tmp 2), none⟩,
       ⟨some 37, .fad 7 (.tmp 3), none⟩,
       ⟨none, .st (.tmp 37) (.tmp 36), none⟩])
       (.seq (.region [
       ⟨some 39, .bin .eql (.tmp 8) (.const (.int .i64 8)), none⟩,
       ⟨some 38, .mov (.tmp 39), none⟩])
       (.cond (.tmp 38)
        (.region [
        ⟨some 40, .mov (.tmp 2), none⟩,
        ⟨some 41, .fad 8 (.tmp 3), none⟩,
        ⟨none, .st (.tmp 41) (.tmp 40), none⟩])
        (.seq (.region [
        ⟨some 43, .bin .eql (.tmp 8) (.const (.int .i64 9)), none⟩,
        ⟨some 42, .mov (.tmp 43), none⟩])
        (.cond (.tmp 42)
         (.region [
         ⟨some 44, .mov (.tmp 2), none⟩,
         ⟨some 45, .fad 9 (.tmp 3), none⟩,
         ⟨none, .st (.tmp 45) (.tmp 44), none⟩])
         (.seq (.region [
         ⟨some 47, .bin .eql (.tmp 8) (.const (.int .i64 10)), none⟩,
         ⟨some 46, .mov (.tmp 47), none⟩])
         (.cond (.tmp 46)
          (.region [
          ⟨some 48, .mov (.tmp 2), none⟩,
          ⟨some 49, .fad 10 (.tmp 3), none⟩,
          ⟨none, .st (.tmp 49) (.tmp 48), none⟩])
          (.region [
          ⟨some 9, .mov (.tmp 2), none⟩,
          ⟨some 10, .fad 11 (.tmp 3), none⟩,
          ⟨none, .st (.tmp 10) (.tmp 9), none⟩])))))))))))))))))))
 (.seq (.region [
 ⟨some 50, .ldN 13 (.tmp 3), none⟩,
 ⟨none, .stN 13 (.tmp 6) (.tmp 50), none⟩])
 .ret))),
 [.cellN 6 13]⟩
theorem low_law07_spoil : lowFn Try.prog movers 11 = some ⟨ir_law07_spoil.n, strip ir_law07_spoil.body, ir_law07_spoil.res⟩ := by kernel_rfl

/-- strongtx/layout.Check -/
def ir_layout_Check : IFn := ⟨70,
 (.seq (.region [
 ⟨some 1, .box 24 (.tmp 0), none⟩,
 ⟨some 2, .mov (.const (.int .i64 0)), none⟩])
 (.seq (.region [
 ⟨some 7, .ldN 13 (.tmp 1), none⟩,
 ⟨some 8, .call 25 [(.tmp 7)], none⟩,
 ⟨some 6, .mov (.tmp 8), none⟩,
 ⟨some 9, .ext (.tmp 6) 0, none⟩,
 ⟨some 10, .ext (.tmp 6) 1, none⟩,
 ⟨some 11, .ext (.tmp 6) 2, none⟩,
 ⟨some 3, .mov (.tmp 9), none⟩,
 ⟨some 4, .mov (.tmp 10), none⟩,
 ⟨some 5, .mov (.tmp 11), none⟩])
 (.seq (.block 0
  (.seq (.region [
  ⟨some 13, .fad 0 (.tmp 1), none⟩,
  ⟨some 14, .ld (.tmp 13), none⟩,
  ⟨some 15, .call 26 [(.tmp 14), (.const (.int .i64 1)), (.const (.int .i64 64))], none⟩,
  ⟨some 16, .not (.tmp 15), none⟩,
  ⟨some 17, .mov (.tmp 16), none⟩,
  ⟨some 18, .fad 1 (.tmp 1), some (17, false)⟩,
  ⟨some 19, .ld (.tmp 18), some (17, false)⟩,
  ⟨some 20, .call 26 [(.tmp 19), (.const (.int .i64 1)), (.const (.int .i64 64))], some (17, false)⟩,
  ⟨some 21, .not (.tmp 20), some (17, false)⟩,
  ⟨some 22, .pick (.tmp 17) (.const (.bool true)) (.tmp 21), none⟩,
  ⟨some 12, .mov (.tmp 22), none⟩])
  (.cond (.tmp 12)
   (.seq (.region [
   ⟨some 2, .mov (.const (.int .i64 50)), none⟩])
   .ret)
   (.seq (.region [
   ⟨some 24, .mov (.tmp 5), none⟩,
   ⟨some 25, .not (.tmp 24), none⟩,
   ⟨some 26, .mov (.tmp 25), none⟩,
   ⟨some 27, .fad 2 (.tmp 1), some (26, false)⟩,
   ⟨some 28, .ld (.tmp 27), some (26, false)⟩,
   ⟨some 29, .fad 0 (.tmp 1), some (26, false)⟩,
   ⟨some 30, .ld (.tmp 29), some (26, false)⟩,
   ⟨some 31, .call 26 [(.tmp 28), (.const (.int .i64 0)), (.tmp 30)], some (26, false)⟩,
   ⟨some 32, .not (.tmp 31), some (26, false)⟩,
   ⟨some 33, .pick (.tmp 26) (.const (.bool true)) (.tmp 32), none⟩,
   ⟨some 34, .mov (.tmp 33), none⟩,
   ⟨some 35, .mov (.tmp 4), some (34, false)⟩,
   ⟨some 36, .fad 0 (.tmp 1), some (34, false)⟩,
   ⟨some 37, .ld (.tmp 36), some (34, false)⟩,
   ⟨some 38, .fad 2 (.tmp 1), some (34, false)⟩,
   ⟨some 39, .ld (.tmp 38), some (34, false)⟩,
   ⟨some 40, .bin .sub (.tmp 37) (.tmp 39), some (34, false)⟩,
   ⟨some 41, .bin .gtr (.tmp 35) (.tmp 40), some (34, false)⟩,
   ⟨some 42, .pick (.tmp 34) (.const (.bool true)) (.tmp 41), none⟩,
   ⟨some 23, .mov (.tmp 42), none⟩])
   (.cond (.tmp 23)
    (.seq (.region [
    ⟨some 2, .mov (.const (.int .i64 51)), none⟩])
    .ret)
    (.seq (.region [
    ⟨some 44, .fad 7 (.tmp 1), none⟩,
    ⟨some 45, .ld (.tmp 44), none⟩,
    ⟨some 46, .call 26 [(.tmp 45), (.const (.int .i64 1)), (.const (.int .i64 32))], none⟩,
    ⟨some 47, .not (.tmp 46), none⟩,
    ⟨some 48, .mov (.tmp 47), none⟩,
    ⟨some 49, .fad 8 (.tmp 1), some (48, false)⟩,
    ⟨some 50, .ld (.tmp 49), some (48, false)⟩,
    ⟨some 51, .call 26 [(.tmp 50), (.const (.int .i64 1)), (.const (.int .i64 32))], some (48, false)⟩,
    ⟨some 52, .not (.tmp 51), some (48, false)⟩,
    ⟨some 53, .pick (.tmp 48) (.const (.bool true)) (.tmp 52), none⟩,
    ⟨some 43, .mov (.tmp 53), none⟩])
    (.cond (.tmp 43)
     (.seq (.region [
     ⟨some 2, .mov (.const (.int .i64 52)), none⟩])
     .ret)
     (.seq (.region [
     ⟨some 55, .fad 9 (.tmp 1), none⟩,
     ⟨some 56, .ld (.tmp 55), none⟩,
     ⟨some 57, .call 26 [(.tmp 56), (.const (.int .i64 0)), (.const (.int .i64 8))], none⟩,
     ⟨some 58, .not (.tmp 57), none⟩,
     ⟨some 59, .mov (.tmp 58), none⟩,
     ⟨some 60, .fad 10 (.tmp 1), some (59, false)⟩,
     ⟨some 61, .ld (.tmp 60), some (59, false)⟩,
     ⟨some 62, .call 26 [(.tmp 61), (.const (.int .i64 0)), (.const (.int .i64 8))], some (59, false)⟩,
     ⟨some 63, .not (.tmp 62), some (59, false)⟩,
     ⟨some 64, .pick (.tmp 59) (.const (.bool true)) (.tmp 63), none⟩,
     ⟨some 54, .mov (.tmp 64), none⟩])
     (.cond (.tmp 54)
      (.seq (.region [
      ⟨some 2, .mov (.const (.int .i64 52)), none⟩])
      .ret)
      (.seq (.region [
      ⟨some 66, .fad 11 (.tmp 1), none⟩,
      ⟨some 67, .ld (.tmp 66), none⟩,
      ⟨some 68, .call 26 [(.tmp 67), (.const (.int .i64 0)), (.const (.int .i64 1099511627776))], none⟩,
      ⟨some 69, .not (.tmp 68), none⟩,
      ⟨some 65, .mov (.tmp 69), none⟩])
      (.cond (.tmp 65)
       (.seq (.region [
       ⟨some 2, .mov (.const (.int .i64 53)), none⟩])
       .ret)
       .skip)))))))))))
 (.seq (.region [
 ⟨some 2, .mov (.const (.int .i64 0)), none⟩])
 .ret)))),
 [.tmp 2]⟩
theorem low_layout_Check : lowFn Try.prog movers 12 = some ⟨ir_layout_Check.n, strip ir_layout_Check.body, ir_layout_Check.res⟩ := by kernel_rfl

/-- strongtx/layout.Blocks -/
def ir_layout_Blocks : IFn := ⟨16,
 (.seq (.region [
 ⟨some 1, .box 24 (.tmp 0), none⟩,
 ⟨some 2, .mov (.const (.int .i64 0)), none⟩])
 (.seq (.seq (.region [
 ⟨some 6, .ldN 13 (.tmp 1), none⟩,
 ⟨some 7, .call 12 [(.tmp 6)], none⟩,
 ⟨some 8, .bin .neq (.tmp 7) (.const (.int .i64 0)), none⟩])
 (.cond (.tmp 8)
  (.seq (.region [
  ⟨some 2, .mov (.const (.int .i64 0)), none⟩])
  .ret)
  .skip))
 (.seq (.region [
 ⟨some 10, .ldN 13 (.tmp 1), none⟩,
 ⟨some 11, .call 25 [(.tmp 10)], none⟩,
 ⟨some 9, .mov (.tmp 11), none⟩,
 ⟨some 12, .ext (.tmp 9) 0, none⟩,
 ⟨some 13, .ext (.tmp 9) 1, none⟩,
 ⟨some 14, .ext (.tmp 9) 2, none⟩,
 ⟨some 3, .mov (.tmp 12), none⟩,
 ⟨some 4, .mov (.tmp 13), none⟩,
 ⟨some 5, .mov (.tmp 14), none⟩])
 (.seq (.region [
 ⟨some 15, .mov (.tmp 3), none⟩,
 ⟨some 2, .mov (.tmp 15), none⟩])
 .ret)))),
 [.tmp 2]⟩
theorem low_layout_Blocks : lowFn Try.prog movers 13 = some ⟨ir_layout_Blocks.n, strip ir_layout_Blocks.body, ir_layout_Blocks.res⟩ := by kernel_rfl

/-- strongtx/layout.Class -/
def ir_layout_Class : IFn := ⟨14,
 (.seq (.region [
 ⟨some 2, .box 24 (.tmp 0), none⟩,
 ⟨some 4, .mov (.const (.int .i64 0)), none⟩])
 (.seq (.region [
 ⟨some 8, .ldN 13 (.tmp 2), none⟩,
 ⟨some 9, .mov (.tmp 1), none⟩,
 ⟨some 10, .call 27 [(.tmp 8), (.tmp 9)], none⟩,
 ⟨some 7, .mov (.tmp 10), none⟩,
 ⟨some 11, .ext (.tmp 7) 0, none⟩,
 ⟨some 12, .ext (.tmp 7) 1, none⟩,
 ⟨some 5, .mov (.tmp 11), none⟩,
 ⟨some 6, .mov (.tmp 12), none⟩])
 (.seq (.region [
 ⟨some 13, .mov (.tmp 5), none⟩,
 ⟨some 4, .mov (.tmp 13), none⟩])
 .ret))),
 [.tmp 4]⟩
theorem low_layout_Class : lowFn Try.prog movers 14 = some ⟨ir_layout_Class.n, strip ir_layout_Class.body, ir_layout_Class.res⟩ := by kernel_rfl

/-- strongtx/layout.First -/
def ir_layout_First : IFn := ⟨14,
 (.seq (.region [
 ⟨some 2, .box 24 (.tmp 0), none⟩,
 ⟨some 4, .mov (.const (.int .i64 0)), none⟩])
 (.seq (.region [
 ⟨some 8, .ldN 13 (.tmp 2), none⟩,
 ⟨some 9, .mov (.tmp 1), none⟩,
 ⟨some 10, .call 27 [(.tmp 8), (.tmp 9)], none⟩,
 ⟨some 7, .mov (.tmp 10), none⟩,
 ⟨some 11, .ext (.tmp 7) 0, none⟩,
 ⟨some 12, .ext (.tmp 7) 1, none⟩,
 ⟨some 5, .mov (.tmp 11), none⟩,
 ⟨some 6, .mov (.tmp 12), none⟩])
 (.seq (.region [
 ⟨some 13, .mov (.tmp 6), none⟩,
 ⟨some 4, .mov (.tmp 13), none⟩])
 .ret))),
 [.tmp 4]⟩
theorem low_layout_First : lowFn Try.prog movers 15 = some ⟨ir_layout_First.n, strip ir_layout_First.body, ir_layout_First.res⟩ := by kernel_rfl

/-- strongtx/layout.Find -/
def ir_layout_Find : IFn := ⟨19,
 (.seq (.region [
 ⟨some 2, .box 24 (.tmp 0), none⟩,
 ⟨some 4, .mov (.const (.int .i64 0)), none⟩])
 (.seq (.seq (.region [
 ⟨some 6, .ldN 13 (.tmp 2), none⟩,
 ⟨some 7, .call 13 [(.tmp 6)], none⟩,
 ⟨some 8, .mov (.const (.int .i64 0)), none⟩])
 (.block 0
  (.loop 524080
   (.seq (.region [
   ⟨some 9, .bin .lss (.tmp 8) (.tmp 7), none⟩])
   (.seq (.cond (.tmp 9)
    .skip
    (.exit 0))
   (.seq (.block 1
    (.seq (.region [
    ⟨some 10, .mov (.tmp 8), none⟩,
    ⟨some 5, .mov (.tmp 10), none⟩])
    (.seq (.region [
    ⟨some 11, .ldN 13 (.tmp 2), none⟩,
    ⟨some 12, .mov (.tmp 5), none⟩,
    ⟨some 13, .call 15 [(.tmp 11), (.tmp 12)], none⟩,
    ⟨some 14, .conv .u64 (.tmp 13), none⟩,
    ⟨some 15, .mov (.tmp 1), none⟩,
    ⟨some 16, .bin .eql (.tmp 14) (.tmp 15), none⟩])
    (.cond (.tmp 16)
     (.seq (.region [
     ⟨some 17, .mov (.tmp 5), none⟩,
     ⟨some 4, .mov (.tmp 17), none⟩])
     .ret)
     .skip))))
   (.region [
   ⟨some 18, .bin .add (.tmp 8) (.const (.int .i64 1)), none⟩,
   ⟨some 8, .mov (.tmp 18), none⟩])))))))
 (.seq (.region [
 ⟨some 4, .mov (.const (.int .i64 (-1))), none⟩])
 .ret))),
 [.tmp 4]⟩
theorem low_layout_Find : lowFn Try.prog movers 16 = some ⟨ir_layout_Find.n, strip ir_layout_Find.body, ir_layout_Find.res⟩ := by kernel_rfl

/-- strongtx/layout.Orec -/
def ir_layout_Orec : IFn := ⟨25,
 (.seq (.region [
 ⟨some 2, .box 24 (.tmp 0), none⟩,
 ⟨some 4, .mov (.const (.int .i64 0)), none⟩])
 (.seq (.seq (.draw (.f ⟨some 5, .ldN 13 (.tmp 2), none⟩
 (.f ⟨some 6, .call 12 [(.tmp 5)], none⟩
 (.f ⟨some 7, .bin .neq (.tmp 6) (.const (.int .i64 0)), none⟩
 (.f ⟨some 8, .mov (.tmp 7), none⟩
 (.f ⟨some 9, .mov (.tmp 1), some (8, false)⟩
 (.f ⟨some 10, .bin .lss (.tmp 9) (.const (.int .i64 0)), some (8, false)⟩
 (.f ⟨some 11, .pick (.tmp 8) (.const (.bool true)) (.tmp 10), none⟩
 (.f ⟨some 12, .mov (.tmp 11), none⟩
 (.f ⟨some 13, .mov (.tmp 1), some (12, false)⟩
 (.f ⟨some 14, .fad 0 (.tmp 2), some (12, false)⟩
 (.f ⟨some 15, .ld (.tmp 14), some (12, false)⟩
 (.f ⟨some 16, .ldN 13 (.tmp 2), some (12, false)⟩
 (.f ⟨some 17, .call 13 [(.tmp 16)], some (12, false)⟩
 (.f ⟨some 18, .bin .add (.tmp 15) (.tmp 17), some (12, false)⟩
 (.f ⟨some 19, .bin .geq (.tmp 13) (.tmp 18), some (12, false)⟩
 (.f ⟨some 20, .pick (.tmp 12) (.const (.bool true)) (.tmp 19), none⟩
 .done)))))))))))))))))
 (.cond (.tmp 20)
  (.seq (.region [
  ⟨some 4, .mov (.const (.int .i64 (-1))), none⟩])
  .ret)
  .skip))
 (.seq (.region [
 ⟨some 21, .mov (.tmp 1), none⟩,
 ⟨some 22, .fad 1 (.tmp 2), none⟩,
 ⟨some 23, .ld (.tmp 22), none⟩,
 ⟨some 24, .bin .rem (.tmp 21) (.tmp 23), none⟩,
 ⟨some 4, .mov (.tmp 24), none⟩])
 .ret))),
 [.tmp 4]⟩
theorem low_layout_Orec : lowFn Try.prog movers 17 = some ⟨ir_layout_Orec.n, strip ir_layout_Orec.body, ir_layout_Orec.res⟩ := by kernel_rfl

/-- strongtx/strongtxref07.Check -/
def ir_ref07_Check : IFn := ⟨85,
 (.seq (.region [
 ⟨some 1, .box 24 (.tmp 0), none⟩,
 ⟨some 2, .mov (.const (.int .i64 0)), none⟩])
 (.seq (.seq (.region [
 ⟨some 6, .fad 0 (.tmp 1), none⟩,
 ⟨some 7, .ld (.tmp 6), none⟩,
 ⟨some 8, .call 28 [(.tmp 7), (.const (.int .i64 1)), (.const (.int .i64 64))], none⟩,
 ⟨some 9, .not (.tmp 8), none⟩,
 ⟨some 10, .mov (.tmp 9), none⟩,
 ⟨some 11, .fad 1 (.tmp 1), some (10, false)⟩,
 ⟨some 12, .ld (.tmp 11), some (10, false)⟩,
 ⟨some 13, .call 28 [(.tmp 12), (.const (.int .i64 1)), (.const (.int .i64 64))], some (10, false)⟩,
 ⟨some 14, .not (.tmp 13), some (10, false)⟩,
 ⟨some 15, .pick (.tmp 10) (.const (.bool true)) (.tmp 14), none⟩])
 (.cond (.tmp 15)
  (.seq (.region [
  ⟨some 2, .mov (.const (.int .i64 50)), none⟩])
  .ret)
  .skip))
 (.seq (.region [
 ⟨some 3, .mov (.const (.int .i64 0)), none⟩,
 ⟨some 4, .mov (.const (.int .i64 0)), none⟩])
 (.seq (.seq (.region [
 ⟨some 5, .mov (.const (.int .i64 0)), none⟩])
 (.block 0
  (.loop 1099511562300
   (.seq (.seq (.region [
   ⟨some 16, .mov (.tmp 5), none⟩,
   ⟨some 17, .bin .lss (.tmp 16) (.const (.int .i64 4)), none⟩])
   (.cond (.tmp 17)
    .skip
    (.exit 0)))
   (.seq (.block 1
    (.seq (.seq (.region [
    ⟨some 20, .mov (.tmp 5), none⟩,
    ⟨some 21, .fad 3 (.tmp 1), none⟩,
    ⟨some 22, .ixa 4 1 (.tmp 21) (.tmp 20), none⟩,
    ⟨some 23, .ld (.tmp 22), none⟩,
    ⟨some 24, .call 28 [(.tmp 23), (.const (.int .i64 0)), (.const (.int .i64 64))], none⟩,
    ⟨some 25, .not (.tmp 24), none⟩])
    (.cond (.tmp 25)
     (.seq (.region [
     ⟨some 2, .mov (.const (.int .i64 51)), none⟩])
     .ret)
     .skip))
    (.seq (.region [
    ⟨some 26, .mov (.tmp 3), none⟩,
    ⟨some 27, .mov (.tmp 5), none⟩,
    ⟨some 28, .fad 3 (.tmp 1), none⟩,
    ⟨some 29, .ixa 4 1 (.tmp 28) (.tmp 27), none⟩,
    ⟨some 30, .ld (.tmp 29), none⟩,
    ⟨some 31, .bin .add (.tmp 26) (.tmp 30), none⟩,
    ⟨some 3, .mov (.tmp 31), none⟩])
    (.region [
    ⟨some 32, .mov (.tmp 4), none⟩,
    ⟨some 33, .mov (.tmp 5), none⟩,
    ⟨some 34, .fad 3 (.tmp 1), none⟩,
    ⟨some 35, .ixa 4 1 (.tmp 34) (.tmp 33), none⟩,
    ⟨some 36, .ld (.tmp 35), none⟩,
    ⟨some 37, .mov (.tmp 5), none⟩,
    ⟨some 38, .bin .shl (.tmp 36) (.tmp 37), none⟩,
    ⟨some 39, .bin .add (.tmp 32) (.tmp 38), none⟩,
    ⟨some 4, .mov (.tmp 39), none⟩]))))
   (.region [
   ⟨some 18, .mov (.tmp 5), none⟩,
   ⟨some 19, .bin .add (.tmp 18) (.const (.int .i64 1)), none⟩,
   ⟨some 5, .mov (.tmp 19), none⟩]))))))
 (.seq (.seq (.region [
 ⟨some 40, .mov (.tmp 3), none⟩,
 ⟨some 41, .bin .gtr (.tmp 40) (.const (.int .i64 64)), none⟩,
 ⟨some 42, .mov (.tmp 41), none⟩,
 ⟨some 43, .fad 2 (.tmp 1), some (42, false)⟩,
 ⟨some 44, .ld (.tmp 43), some (42, false)⟩,
 ⟨some 45, .fad 0 (.tmp 1), some (42, false)⟩,
 ⟨some 46, .ld (.tmp 45), some (42, false)⟩,
 ⟨some 47, .call 28 [(.tmp 44), (.const (.int .i64 0)), (.tmp 46)], some (42, false)⟩,
 ⟨some 48, .not (.tmp 47), some (42, false)⟩,
 ⟨some 49, .pick (.tmp 42) (.const (.bool true)) (.tmp 48), none⟩,
 ⟨some 50, .mov (.tmp 49), none⟩,
 ⟨some 51, .fad 2 (.tmp 1), some (50, false)⟩,
 ⟨some 52, .ld (.tmp 51), some (50, false)⟩,
 ⟨some 53, .mov (.tmp 4), some (50, false)⟩,
 ⟨some 54, .bin .add (.tmp 52) (.tmp 53), some (50, false)⟩,
 ⟨some 55, .fad 0 (.tmp 1), some (50, false)⟩,
 ⟨some 56, .ld (.tmp 55), some (50, false)⟩,
 ⟨some 57, .bin .gtr (.tmp 54) (.tmp 56), some (50, false)⟩,
 ⟨some 58, .pick (.tmp 50) (.const (.bool true)) (.tmp 57), none⟩])
 (.cond (.tmp 58)
  (.seq (.region [
  ⟨some 2, .mov (.const (.int .i64 51)), none⟩])
  .ret)
  .skip))
 (.seq (.seq (.region [
 ⟨some 59, .fad 7 (.tmp 1), none⟩,
 ⟨some 60, .ld (.tmp 59), none⟩,
 ⟨some 61, .call 28 [(.tmp 60), (.const (.int .i64 1)), (.const (.int .i64 32))], none⟩,
 ⟨some 62, .not (.tmp 61), none⟩,
 ⟨some 63, .mov (.tmp 62), none⟩,
 ⟨some 64, .fad 8 (.tmp 1), some (63, false)⟩,
 ⟨some 65, .ld (.tmp 64), some (63, false)⟩,
 ⟨some 66, .call 28 [(.tmp 65), (.const (.int .i64 1)), (.const (.int .i64 32))], some (63, false)⟩,
 ⟨some 67, .not (.tmp 66), some (63, false)⟩,
 ⟨some 68, .pick (.tmp 63) (.const (.bool true)) (.tmp 67), none⟩,
 ⟨some 69, .mov (.tmp 68), none⟩,
 ⟨some 70, .fad 9 (.tmp 1), some (69, false)⟩,
 ⟨some 71, .ld (.tmp 70), some (69, false)⟩,
 ⟨some 72, .call 28 [(.tmp 71), (.const (.int .i64 0)), (.const (.int .i64 8))], some (69, false)⟩,
 ⟨some 73, .not (.tmp 72), some (69, false)⟩,
 ⟨some 74, .pick (.tmp 69) (.const (.bool true)) (.tmp 73), none⟩,
 ⟨some 75, .mov (.tmp 74), none⟩,
 ⟨some 76, .fad 10 (.tmp 1), some (75, false)⟩,
 ⟨some 77, .ld (.tmp 76), some (75, false)⟩,
 ⟨some 78, .call 28 [(.tmp 77), (.const (.int .i64 0)), (.const (.int .i64 8))], some (75, false)⟩,
 ⟨some 79, .not (.tmp 78), some (75, false)⟩,
 ⟨some 80, .pick (.tmp 75) (.const (.bool true)) (.tmp 79), none⟩])
 (.cond (.tmp 80)
  (.seq (.region [
  ⟨some 2, .mov (.const (.int .i64 52)), none⟩])
  .ret)
  .skip))
 (.seq (.seq (.region [
 ⟨some 81, .fad 11 (.tmp 1), none⟩,
 ⟨some 82, .ld (.tmp 81), none⟩,
 ⟨some 83, .call 28 [(.tmp 82), (.const (.int .i64 0)), (.const (.int .i64 1099511627776))], none⟩,
 ⟨some 84, .not (.tmp 83), none⟩])
 (.cond (.tmp 84)
  (.seq (.region [
  ⟨some 2, .mov (.const (.int .i64 53)), none⟩])
  .ret)
  .skip))
 (.seq (.region [
 ⟨some 2, .mov (.const (.int .i64 0)), none⟩])
 .ret)))))))),
 [.tmp 2]⟩
theorem low_ref07_Check : lowFn Try.prog movers 18 = some ⟨ir_ref07_Check.n, strip ir_ref07_Check.body, ir_ref07_Check.res⟩ := by kernel_rfl

/-- strongtx/strongtxref07.Blocks -/
def ir_ref07_Blocks : IFn := ⟨21,
 (.seq (.region [
 ⟨some 1, .box 24 (.tmp 0), none⟩,
 ⟨some 2, .mov (.const (.int .i64 0)), none⟩])
 (.seq (.seq (.region [
 ⟨some 3, .ldN 13 (.tmp 1), none⟩,
 ⟨some 4, .call 18 [(.tmp 3)], none⟩,
 ⟨some 5, .bin .neq (.tmp 4) (.const (.int .i64 0)), none⟩])
 (.cond (.tmp 5)
  (.seq (.region [
  ⟨some 2, .mov (.const (.int .i64 0)), none⟩])
  .ret)
  .skip))
 (.seq (.region [
 ⟨some 6, .fad 3 (.tmp 1), none⟩,
 ⟨some 7, .ixa 4 1 (.tmp 6) (.const (.int .i64 0)), none⟩,
 ⟨some 8, .ld (.tmp 7), none⟩,
 ⟨some 9, .fad 3 (.tmp 1), none⟩,
 ⟨some 10, .ixa 4 1 (.tmp 9) (.const (.int .i64 1)), none⟩,
 ⟨some 11, .ld (.tmp 10), none⟩,
 ⟨some 12, .bin .add (.tmp 8) (.tmp 11), none⟩,
 ⟨some 13, .fad 3 (.tmp 1), none⟩,
 ⟨some 14, .ixa 4 1 (.tmp 13) (.const (.int .i64 2)), none⟩,
 ⟨some 15, .ld (.tmp 14), none⟩,
 ⟨some 16, .bin .add (.tmp 12) (.tmp 15), none⟩,
 ⟨some 17, .fad 3 (.tmp 1), none⟩,
 ⟨some 18, .ixa 4 1 (.tmp 17) (.const (.int .i64 3)), none⟩,
 ⟨some 19, .ld (.tmp 18), none⟩,
 ⟨some 20, .bin .add (.tmp 16) (.tmp 19), none⟩,
 ⟨some 2, .mov (.tmp 20), none⟩])
 .ret))),
 [.tmp 2]⟩
theorem low_ref07_Blocks : lowFn Try.prog movers 19 = some ⟨ir_ref07_Blocks.n, strip ir_ref07_Blocks.body, ir_ref07_Blocks.res⟩ := by kernel_rfl

/-- strongtx/strongtxref07.Class -/
def ir_ref07_Class : IFn := ⟨29,
 (.seq (.region [
 ⟨some 2, .box 24 (.tmp 0), none⟩,
 ⟨some 4, .mov (.const (.int .i64 0)), none⟩])
 (.seq (.seq (.region [
 ⟨some 6, .mov (.tmp 1), none⟩,
 ⟨some 7, .bin .lss (.tmp 6) (.const (.int .i64 0)), none⟩,
 ⟨some 8, .mov (.tmp 7), none⟩,
 ⟨some 9, .mov (.tmp 1), some (8, false)⟩,
 ⟨some 10, .ldN 13 (.tmp 2), some (8, false)⟩,
 ⟨some 11, .call 19 [(.tmp 10)], some (8, false)⟩,
 ⟨some 12, .bin .geq (.tmp 9) (.tmp 11), some (8, false)⟩,
 ⟨some 13, .pick (.tmp 8) (.const (.bool true)) (.tmp 12), none⟩])
 (.cond (.tmp 13)
  (.seq (.region [
  ⟨some 4, .mov (.const (.int .i64 (-1))), none⟩])
  .ret)
  .skip))
 (.seq (.region [
 ⟨some 5, .mov (.const (.int .i64 0)), none⟩])
 (.seq (.block 0
  (.loop 268419106
   (.seq (.seq (.region [
   ⟨some 14, .mov (.tmp 1), none⟩,
   ⟨some 15, .mov (.tmp 5), none⟩,
   ⟨some 16, .fad 3 (.tmp 2), none⟩,
   ⟨some 17, .ixa 4 1 (.tmp 16) (.tmp 15), none⟩,
   ⟨some 18, .ld (.tmp 17), none⟩,
   ⟨some 19, .bin .geq (.tmp 14) (.tmp 18), none⟩])
   (.cond (.tmp 19)
    .skip
    (.exit 0)))
   (.block 1
    (.seq (.region [
    ⟨some 20, .mov (.tmp 1), none⟩,
    ⟨some 21, .mov (.tmp 5), none⟩,
    ⟨some 22, .fad 3 (.tmp 2), none⟩,
    ⟨some 23, .ixa 4 1 (.tmp 22) (.tmp 21), none⟩,
    ⟨some 24, .ld (.tmp 23), none⟩,
    ⟨some 25, .bin .sub (.tmp 20) (.tmp 24), none⟩,
    ⟨some 1, .mov (.tmp 25), none⟩])
    (.region [
    ⟨some 26, .mov (.tmp 5), none⟩,
    ⟨some 27, .bin .add (.tmp 26) (.const (.int .i64 1)), none⟩,
    ⟨some 5, .mov (.tmp 27), none⟩]))))))
 (.seq (.region [
 ⟨some 28, .mov (.tmp 5), none⟩,
 ⟨some 4, .mov (.tmp 28), none⟩])
 .ret))))),
 [.tmp 4]⟩
theorem low_ref07_Class : lowFn Try.prog movers 20 = some ⟨ir_ref07_Class.n, strip ir_ref07_Class.body, ir_ref07_Class.res⟩ := by kernel_rfl

/-- strongtx/strongtxref07.First -/
def ir_ref07_First : IFn := ⟨29,
 (.seq (.region [
 ⟨some 2, .box 24 (.tmp 0), none⟩,
 ⟨some 4, .mov (.const (.int .i64 0)), none⟩])
 (.seq (.seq (.region [
 ⟨some 7, .mov (.tmp 1), none⟩,
 ⟨some 8, .bin .lss (.tmp 7) (.const (.int .i64 0)), none⟩,
 ⟨some 9, .mov (.tmp 8), none⟩,
 ⟨some 10, .mov (.tmp 1), some (9, false)⟩,
 ⟨some 11, .ldN 13 (.tmp 2), some (9, false)⟩,
 ⟨some 12, .call 19 [(.tmp 11)], some (9, false)⟩,
 ⟨some 13, .bin .geq (.tmp 10) (.tmp 12), some (9, false)⟩,
 ⟨some 14, .pick (.tmp 9) (.const (.bool true)) (.tmp 13), none⟩])
 (.cond (.tmp 14)
  (.seq (.region [
  ⟨some 4, .mov (.const (.int .i64 (-1))), none⟩])
  .ret)
  .skip))
 (.seq (.region [
 ⟨some 15, .fad 2 (.tmp 2), none⟩,
 ⟨some 16, .ld (.tmp 15), none⟩,
 ⟨some 5, .mov (.tmp 16), none⟩])
 (.seq (.seq (.region [
 ⟨some 6, .mov (.const (.int .i64 0)), none⟩])
 (.block 0
  (.loop 268304480
   (.seq (.seq (.region [
   ⟨some 17, .mov (.tmp 6), none⟩,
   ⟨some 18, .mov (.tmp 1), none⟩,
   ⟨some 19, .bin .lss (.tmp 17) (.tmp 18), none⟩])
   (.cond (.tmp 19)
    .skip
    (.exit 0)))
   (.seq (.block 1
    (.region [
    ⟨some 22, .mov (.tmp 5), none⟩,
    ⟨some 23, .ldN 13 (.tmp 2), none⟩,
    ⟨some 24, .mov (.tmp 6), none⟩,
    ⟨some 25, .call 20 [(.tmp 23), (.tmp 24)], none⟩,
    ⟨some 26, .bin .shl (.const (.int .i64 1)) (.tmp 25), none⟩,
    ⟨some 27, .bin .add (.tmp 22) (.tmp 26), none⟩,
    ⟨some 5, .mov (.tmp 27), none⟩]))
   (.region [
   ⟨some 20, .mov (.tmp 6), none⟩,
   ⟨some 21, .bin .add (.tmp 20) (.const (.int .i64 1)), none⟩,
   ⟨some 6, .mov (.tmp 21), none⟩]))))))
 (.seq (.region [
 ⟨some 28, .mov (.tmp 5), none⟩,
 ⟨some 4, .mov (.tmp 28), none⟩])
 .ret))))),
 [.tmp 4]⟩
theorem low_ref07_First : lowFn Try.prog movers 21 = some ⟨ir_ref07_First.n, strip ir_ref07_First.body, ir_ref07_First.res⟩ := by kernel_rfl

/-- strongtx/strongtxref07.Find -/
def ir_ref07_Find : IFn := ⟨19,
 (.seq (.region [
 ⟨some 2, .box 24 (.tmp 0), none⟩,
 ⟨some 4, .mov (.const (.int .i64 0)), none⟩])
 (.seq (.seq (.region [
 ⟨some 5, .mov (.const (.int .i64 0)), none⟩])
 (.block 0
  (.loop 524272
   (.seq (.seq (.region [
   ⟨some 6, .mov (.tmp 5), none⟩,
   ⟨some 7, .ldN 13 (.tmp 2), none⟩,
   ⟨some 8, .call 19 [(.tmp 7)], none⟩,
   ⟨some 9, .bin .lss (.tmp 6) (.tmp 8), none⟩])
   (.cond (.tmp 9)
    .skip
    (.exit 0)))
   (.seq (.block 1
    (.seq (.region [
    ⟨some 12, .ldN 13 (.tmp 2), none⟩,
    ⟨some 13, .mov (.tmp 5), none⟩,
    ⟨some 14, .call 21 [(.tmp 12), (.tmp 13)], none⟩,
    ⟨some 15, .conv .u64 (.tmp 14), none⟩,
    ⟨some 16, .mov (.tmp 1), none⟩,
    ⟨some 17, .bin .eql (.tmp 15) (.tmp 16), none⟩])
    (.cond (.tmp 17)
     (.seq (.region [
     ⟨some 18, .mov (.tmp 5), none⟩,
     ⟨some 4, .mov (.tmp 18), none⟩])
     .ret)
     .skip)))
   (.region [
   ⟨some 10, .mov (.tmp 5), none⟩,
   ⟨some 11, .bin .add (.tmp 10) (.const (.int .i64 1)), none⟩,
   ⟨some 5, .mov (.tmp 11), none⟩]))))))
 (.seq (.region [
 ⟨some 4, .mov (.const (.int .i64 (-1))), none⟩])
 .ret))),
 [.tmp 4]⟩
theorem low_ref07_Find : lowFn Try.prog movers 22 = some ⟨ir_ref07_Find.n, strip ir_ref07_Find.body, ir_ref07_Find.res⟩ := by kernel_rfl

/-- strongtx/strongtxref07.Orec -/
def ir_ref07_Orec : IFn := ⟨25,
 (.seq (.region [
 ⟨some 2, .box 24 (.tmp 0), none⟩,
 ⟨some 4, .mov (.const (.int .i64 0)), none⟩])
 (.seq (.seq (.draw (.f ⟨some 5, .ldN 13 (.tmp 2), none⟩
 (.f ⟨some 6, .call 18 [(.tmp 5)], none⟩
 (.f ⟨some 7, .bin .neq (.tmp 6) (.const (.int .i64 0)), none⟩
 (.f ⟨some 8, .mov (.tmp 7), none⟩
 (.f ⟨some 9, .mov (.tmp 1), some (8, false)⟩
 (.f ⟨some 10, .bin .lss (.tmp 9) (.const (.int .i64 0)), some (8, false)⟩
 (.f ⟨some 11, .pick (.tmp 8) (.const (.bool true)) (.tmp 10), none⟩
 (.f ⟨some 12, .mov (.tmp 11), none⟩
 (.f ⟨some 13, .mov (.tmp 1), some (12, false)⟩
 (.f ⟨some 14, .fad 0 (.tmp 2), some (12, false)⟩
 (.f ⟨some 15, .ld (.tmp 14), some (12, false)⟩
 (.f ⟨some 16, .ldN 13 (.tmp 2), some (12, false)⟩
 (.f ⟨some 17, .call 19 [(.tmp 16)], some (12, false)⟩
 (.f ⟨some 18, .bin .add (.tmp 15) (.tmp 17), some (12, false)⟩
 (.f ⟨some 19, .bin .geq (.tmp 13) (.tmp 18), some (12, false)⟩
 (.f ⟨some 20, .pick (.tmp 12) (.const (.bool true)) (.tmp 19), none⟩
 .done)))))))))))))))))
 (.cond (.tmp 20)
  (.seq (.region [
  ⟨some 4, .mov (.const (.int .i64 (-1))), none⟩])
  .ret)
  .skip))
 (.seq (.region [
 ⟨some 21, .mov (.tmp 1), none⟩,
 ⟨some 22, .fad 1 (.tmp 2), none⟩,
 ⟨some 23, .ld (.tmp 22), none⟩,
 ⟨some 24, .bin .rem (.tmp 21) (.tmp 23), none⟩,
 ⟨some 4, .mov (.tmp 24), none⟩])
 .ret))),
 [.tmp 4]⟩
theorem low_ref07_Orec : lowFn Try.prog movers 23 = some ⟨ir_ref07_Orec.n, strip ir_ref07_Orec.body, ir_ref07_Orec.res⟩ := by kernel_rfl

/-- strongtx/strongtxlaw07.example -/
def ir_law07_example : IFn := ⟨3,
 (.seq (.region [
 ⟨some 0, .new 24 (.agg #[.int .i64 0, .int .i64 0, .int .i64 0, .int .i64 0, .int .i64 0, .int .i64 0, .int .i64 0, .int .i64 0, .int .i64 0, .int .i64 0, .int .i64 0, .int .i64 0, .bool false]), none⟩])
 (.seq (.region [
 ⟨some 1, .bld [(.int .i64 0), (.int .i64 0), (.int .i64 0), (.int .i64 0)] [(0, 1, (.const (.int .i64 2))), (1, 1, (.const (.int .i64 1))), (2, 1, (.const (.int .i64 0))), (3, 1, (.const (.int .i64 0)))], none⟩,
 ⟨some 2, .bld [(.int .i64 0), (.int .i64 0), (.int .i64 0), (.int .i64 0), (.int .i64 0), (.int .i64 0), (.int .i64 0), (.int .i64 0), (.int .i64 0), (.int .i64 0), (.int .i64 0), (.int .i64 0), (.bool false)] [(0, 1, (.const (.int .i64 16))), (1, 1, (.const (.int .i64 3))), (2, 1, (.const (.int .i64 4))), (3, 4, (.tmp 1)), (7, 1, (.const (.int .i64 1))), (8, 1, (.const (.int .i64 1)))], none⟩,
 ⟨none, .stN 13 (.tmp 0) (.tmp 2), none⟩])
 .ret)),
 [.cellN 0 13]⟩
theorem low_law07_example : lowFn Try.prog movers 24 = some ⟨ir_law07_example.n, strip ir_law07_example.body, ir_law07_example.res⟩ := by kernel_rfl

/-- strongtx/layout.heap -/
def ir_layout_heap : IFn := ⟨32,
 (.seq (.region [
 ⟨some 1, .box 24 (.tmp 0), none⟩,
 ⟨some 2, .mov (.const (.int .i64 0)), none⟩,
 ⟨some 3, .mov (.const (.int .i64 0)), none⟩,
 ⟨some 4, .mov (.const (.bool false)), none⟩])
 (.seq (.seq (.region [
 ⟨some 7, .fad 3 (.tmp 1), none⟩,
 ⟨some 8, .ldN 4 (.tmp 7), none⟩,
 ⟨some 9, .mov (.const (.int .i64 0)), none⟩])
 (.block 0
  (.loop 268435068
   (.seq (.region [
   ⟨some 10, .bin .lss (.tmp 9) (.const (.int .i64 4)), none⟩])
   (.seq (.cond (.tmp 10)
    .skip
    (.exit 0))
   (.seq (.block 1
    (.seq (.region [
    ⟨some 11, .mov (.tmp 9), none⟩,
    ⟨some 12, .idx 4 (.tmp 8) (.tmp 9), none⟩,
    ⟨some 5, .mov (.tmp 11), none⟩,
    ⟨some 6, .mov (.tmp 12), none⟩])
    (.seq (.seq (.region [
    ⟨some 13, .mov (.tmp 6), none⟩,
    ⟨some 14, .bin .lss (.tmp 13) (.const (.int .i64 0)), none⟩,
    ⟨some 15, .mov (.tmp 14), none⟩,
    ⟨some 16, .mov (.tmp 6), some (15, false)⟩,
    ⟨some 17, .bin .gtr (.tmp 16) (.const (.int .i64 64)), some (15, false)⟩,
    ⟨some 18, .pick (.tmp 15) (.const (.bool true)) (.tmp 17), none⟩])
    (.cond (.tmp 18)
     (.seq (.region [
     ⟨some 2, .mov (.const (.int .i64 0)), none⟩,
     ⟨some 3, .mov (.const (.int .i64 0)), none⟩,
     ⟨some 4, .mov (.const (.bool false)), none⟩])
     .ret)
     .skip))
    (.seq (.region [
    ⟨some 19, .mov (.tmp 2), none⟩,
    ⟨some 20, .mov (.tmp 6), none⟩,
    ⟨some 21, .bin .add (.tmp 19) (.tmp 20), none⟩,
    ⟨some 2, .mov (.tmp 21), none⟩])
    (.region [
    ⟨some 22, .mov (.tmp 3), none⟩,
    ⟨some 23, .mov (.tmp 6), none⟩,
    ⟨some 24, .mov (.tmp 5), none⟩,
    ⟨some 25, .bin .shl (.tmp 23) (.tmp 24), none⟩,
    ⟨some 26, .bin .add (.tmp 22) (.tmp 25), none⟩,
    ⟨some 3, .mov (.tmp 26), none⟩])))))
   (.region [
   ⟨some 27, .bin .add (.tmp 9) (.const (.int .i64 1)), none⟩,
   ⟨some 9, .mov (.tmp 27), none⟩])))))))
 (.seq (.region [
 ⟨some 28, .mov (.tmp 2), none⟩,
 ⟨some 29, .mov (.tmp 3), none⟩,
 ⟨some 30, .mov (.tmp 2), none⟩,
 ⟨some 31, .bin .leq (.tmp 30) (.const (.int .i64 64)), none⟩,
 ⟨some 2, .mov (.tmp 28), none⟩,
 ⟨some 3, .mov (.tmp 29), none⟩,
 ⟨some 4, .mov (.tmp 31), none⟩])
 .ret))),
 [.tmp 2, .tmp 3, .tmp 4]⟩
theorem low_layout_heap : lowFn Try.prog movers 25 = some ⟨ir_layout_heap.n, strip ir_layout_heap.body, ir_layout_heap.res⟩ := by kernel_rfl

/-- strongtx/layout.within -/
def ir_layout_within : IFn := ⟨15,
 (.seq (.region [
 ⟨some 6, .mov (.const (.bool false)), none⟩])
 (.seq (.region [
 ⟨some 7, .mov (.tmp 0), none⟩,
 ⟨some 8, .mov (.tmp 1), none⟩,
 ⟨some 9, .bin .geq (.tmp 7) (.tmp 8), none⟩,
 ⟨some 10, .mov (.tmp 9), none⟩,
 ⟨some 11, .mov (.tmp 0), some (10, true)⟩,
 ⟨some 12, .mov (.tmp 2), some (10, true)⟩,
 ⟨some 13, .bin .leq (.tmp 11) (.tmp 12), some (10, true)⟩,
 ⟨some 14, .pick (.tmp 10) (.tmp 13) (.const (.bool false)), none⟩,
 ⟨some 6, .mov (.tmp 14), none⟩])
 .ret)),
 [.tmp 6]⟩
theorem low_layout_within : lowFn Try.prog movers 26 = some ⟨ir_layout_within.n, strip ir_layout_within.body, ir_layout_within.res⟩ := by kernel_rfl

/-- strongtx/layout.locate -/
def ir_layout_locate : IFn := ⟨41,
 (.seq (.region [
 ⟨some 2, .box 24 (.tmp 0), none⟩,
 ⟨some 4, .mov (.const (.int .i64 0)), none⟩,
 ⟨some 5, .mov (.const (.int .i64 0)), none⟩])
 (.seq (.seq (.region [
 ⟨some 8, .ldN 13 (.tmp 2), none⟩,
 ⟨some 9, .call 12 [(.tmp 8)], none⟩,
 ⟨some 10, .bin .neq (.tmp 9) (.const (.int .i64 0)), none⟩,
 ⟨some 11, .mov (.tmp 10), none⟩,
 ⟨some 12, .mov (.tmp 1), some (11, false)⟩,
 ⟨some 13, .bin .lss (.tmp 12) (.const (.int .i64 0)), some (11, false)⟩,
 ⟨some 14, .pick (.tmp 11) (.const (.bool true)) (.tmp 13), none⟩])
 (.cond (.tmp 14)
  (.seq (.region [
  ⟨some 4, .mov (.const (.int .i64 (-1))), none⟩,
  ⟨some 5, .mov (.const (.int .i64 (-1))), none⟩])
  .ret)
  .skip))
 (.seq (.region [
 ⟨some 15, .fad 2 (.tmp 2), none⟩,
 ⟨some 16, .ld (.tmp 15), none⟩,
 ⟨some 5, .mov (.tmp 16), none⟩])
 (.seq (.seq (.region [
 ⟨some 17, .fad 3 (.tmp 2), none⟩,
 ⟨some 18, .ldN 4 (.tmp 17), none⟩,
 ⟨some 19, .mov (.const (.int .i64 0)), none⟩])
 (.block 0
  (.loop 2199022731506
   (.seq (.region [
   ⟨some 20, .bin .lss (.tmp 19) (.const (.int .i64 4)), none⟩])
   (.seq (.cond (.tmp 20)
    .skip
    (.exit 0))
   (.seq (.block 1
    (.seq (.region [
    ⟨some 21, .mov (.tmp 19), none⟩,
    ⟨some 22, .idx 4 (.tmp 18) (.tmp 19), none⟩,
    ⟨some 6, .mov (.tmp 21), none⟩,
    ⟨some 7, .mov (.tmp 22), none⟩])
    (.seq (.seq (.region [
    ⟨some 23, .mov (.tmp 1), none⟩,
    ⟨some 24, .mov (.tmp 7), none⟩,
    ⟨some 25, .bin .lss (.tmp 23) (.tmp 24), none⟩])
    (.cond (.tmp 25)
     (.seq (.draw (.f ⟨some 26, .mov (.tmp 6), none⟩
     (.f ⟨some 27, .mov (.tmp 5), none⟩
     (.f ⟨some 28, .mov (.tmp 1), none⟩
     (.f ⟨some 29, .mov (.tmp 6), none⟩
     (.f ⟨some 30, .bin .shl (.tmp 28) (.tmp 29), none⟩
     (.f ⟨some 31, .bin .add (.tmp 27) (.tmp 30), none⟩
     (.f ⟨some 4, .mov (.tmp 26), none⟩
     (.f ⟨some 5, .mov (.tmp 31), none⟩
     .done)))))))))
     .ret)
     .skip))
    (.seq (.region [
    ⟨some 32, .mov (.tmp 1), none⟩,
    ⟨some 33, .mov (.tmp 7), none⟩,
    ⟨some 34, .bin .sub (.tmp 32) (.tmp 33), none⟩,
    ⟨some 1, .mov (.tmp 34), none⟩])
    (.region [
    ⟨some 35, .mov (.tmp 5), none⟩,
    ⟨some 36, .mov (.tmp 7), none⟩,
    ⟨some 37, .mov (.tmp 6), none⟩,
    ⟨some 38, .bin .shl (.tmp 36) (.tmp 37), none⟩,
    ⟨some 39, .bin .add (.tmp 35) (.tmp 38), none⟩,
    ⟨some 5, .mov (.tmp 39), none⟩])))))
   (.region [
   ⟨some 40, .bin .add (.tmp 19) (.const (.int .i64 1)), none⟩,
   ⟨some 19, .mov (.tmp 40), none⟩])))))))
 (.seq (.region [
 ⟨some 4, .mov (.const (.int .i64 (-1))), none⟩,
 ⟨some 5, .mov (.const (.int .i64 (-1))), none⟩])
 .ret))))),
 [.tmp 4, .tmp 5]⟩
theorem low_layout_locate : lowFn Try.prog movers 27 = some ⟨ir_layout_locate.n, strip ir_layout_locate.body, ir_layout_locate.res⟩ := by kernel_rfl

/-- strongtx/strongtxref07.within -/
def ir_ref07_within : IFn := ⟨15,
 (.seq (.region [
 ⟨some 6, .mov (.const (.bool false)), none⟩])
 (.seq (.region [
 ⟨some 7, .mov (.tmp 0), none⟩,
 ⟨some 8, .mov (.tmp 1), none⟩,
 ⟨some 9, .bin .geq (.tmp 7) (.tmp 8), none⟩,
 ⟨some 10, .mov (.tmp 9), none⟩,
 ⟨some 11, .mov (.tmp 0), some (10, true)⟩,
 ⟨some 12, .mov (.tmp 2), some (10, true)⟩,
 ⟨some 13, .bin .leq (.tmp 11) (.tmp 12), some (10, true)⟩,
 ⟨some 14, .pick (.tmp 10) (.tmp 13) (.const (.bool false)), none⟩,
 ⟨some 6, .mov (.tmp 14), none⟩])
 .ret)),
 [.tmp 6]⟩
theorem low_ref07_within : lowFn Try.prog movers 28 = some ⟨ir_ref07_within.n, strip ir_ref07_within.body, ir_ref07_within.res⟩ := by kernel_rfl
end Go.Proofs.Ytcelbfijiebjhaa
