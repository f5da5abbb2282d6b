/- The lowered code of a package, printed by program; each function is checked against the loaded program by the kernel. No condition. -/
import Derived.Test.YtofjnldidkiihaaDoorIR
namespace Go.Proofs.YtofjnldidkiihaaDoor
open Go
set_option maxRecDepth 100000

/-- strongtx/strongtxref24.First -/
def ir_ref24_First : IFn := ⟨57,
 (.seq (.region [
 ⟨some 4, .new 28 (.agg #[.int .i64 0, .int .i64 0, .int .i64 0]), none⟩])
 (.seq (.region [
 ⟨some 8, .mov (.tmp 0), none⟩,
 ⟨some 9, .mov (.tmp 1), none⟩,
 ⟨some 10, .call 39 [(.tmp 8), (.tmp 9)], none⟩,
 ⟨some 5, .mov (.tmp 10), none⟩])
 (.seq (.seq (.region [
 ⟨some 11, .mov (.tmp 5), none⟩,
 ⟨some 12, .len (.tmp 11), none⟩,
 ⟨some 13, .bin .eql (.tmp 12) (.const (.int .i64 0)), none⟩])
 (.cond (.tmp 13)
  (.seq (.region [
  ⟨some 14, .call 22 [], none⟩,
  ⟨none, .stN 3 (.tmp 4) (.tmp 14), none⟩])
  .ret)
  .skip))
 (.seq (.region [
 ⟨some 15, .mov (.tmp 5), none⟩,
 ⟨some 16, .ixs 3 (.tmp 15) (.const (.int .i64 0)), none⟩,
 ⟨some 17, .ldN 3 (.tmp 16), none⟩,
 ⟨some 6, .new 28 (.agg #[.int .i64 0, .int .i64 0, .int .i64 0]), none⟩,
 ⟨none, .stN 3 (.tmp 6) (.tmp 17), none⟩])
 (.seq (.seq (.region [
 ⟨some 7, .mov (.const (.int .i64 1)), none⟩])
 (.block 0
  (.loop 72057594037665920
   (.seq (.seq (.region [
   ⟨some 18, .mov (.tmp 7), none⟩,
   ⟨some 19, .mov (.tmp 5), none⟩,
   ⟨some 20, .len (.tmp 19), none⟩,
   ⟨some 21, .bin .lss (.tmp 18) (.tmp 20), none⟩])
   (.cond (.tmp 21)
    .skip
    (.exit 0)))
   (.seq (.block 1
    (.seq (.draw (.f ⟨some 24, .mov (.tmp 5), none⟩
    (.f ⟨some 25, .mov (.tmp 7), none⟩
    (.f ⟨some 26, .ixs 3 (.tmp 24) (.tmp 25), none⟩
    (.f ⟨some 27, .fad 1 (.tmp 26), none⟩
    (.f ⟨some 28, .ld (.tmp 27), none⟩
    (.f ⟨some 29, .fad 1 (.tmp 6), none⟩
    (.f ⟨some 30, .ld (.tmp 29), none⟩
    (.f ⟨some 31, .bin .eql (.tmp 28) (.tmp 30), none⟩
    (.f ⟨some 32, .mov (.tmp 31), none⟩
    (.f ⟨some 33, .mov (.tmp 5), some (32, true)⟩
    (.f ⟨some 34, .mov (.tmp 7), some (32, true)⟩
    (.f ⟨some 35, .ixs 3 (.tmp 33) (.tmp 34), some (32, true)⟩
    (.f ⟨some 36, .fad 2 (.tmp 35), some (32, true)⟩
    (.f ⟨some 37, .ld (.tmp 36), some (32, true)⟩
    (.f ⟨some 38, .fad 2 (.tmp 6), some (32, true)⟩
    (.f ⟨some 39, .ld (.tmp 38), some (32, true)⟩
    (.f ⟨some 40, .bin .eql (.tmp 37) (.tmp 39), some (32, true)⟩
    (.f ⟨some 41, .pick (.tmp 32) (.tmp 40) (.const (.bool false)), none⟩
    (.f ⟨some 42, .mov (.tmp 41), none⟩
    (.f ⟨some 43, .mov (.tmp 5), some (42, true)⟩
    (.f ⟨some 44, .mov (.tmp 7), some (42, true)⟩
    (.f ⟨some 45, .ixs 3 (.tmp 43) (.tmp 44), some (42, true)⟩
    (.f ⟨some 46, .fad 0 (.tmp 45), some (42, true)⟩
    (.f ⟨some 47, .ld (.tmp 46), some (42, true)⟩
    (.f ⟨some 48, .fad 0 (.tmp 6), some (42, true)⟩
    (.f ⟨some 49, .ld (.tmp 48), some (42, true)⟩
    (.f ⟨some 50, .bin .gtr (.tmp 47) (.tmp 49), some (42, true)⟩
    (.f ⟨some 51, .pick (.tmp 42) (.tmp 50) (.const (.bool false)), none⟩
    .done)))))))))))))))))))))))))))))
    (.cond (.tmp 51)
     (.region [
     ⟨some 52, .mov (.tmp 5), none⟩,
     ⟨some 53, .mov (.tmp 7), none⟩,
     ⟨some 54, .ixs 3 (.tmp 52) (.tmp 53), none⟩,
     ⟨some 55, .ldN 3 (.tmp 54), none⟩,
     ⟨none, .stN 3 (.tmp 6) (.tmp 55), none⟩])
     .skip)))
   (.region [
   ⟨some 22, .mov (.tmp 7), none⟩,
   ⟨some 23, .bin .add (.tmp 22) (.const (.int .i64 1)), none⟩,
   ⟨some 7, .mov (.tmp 23), none⟩]))))))
 (.seq (.region [
 ⟨some 56, .ldN 3 (.tmp 6), none⟩,
 ⟨none, .stN 3 (.tmp 4) (.tmp 56), none⟩])
 .ret)))))),
 [.cellN 4 3]⟩
theorem low_ref24_First : lowFn Tryd.prog movers 20 = some ⟨ir_ref24_First.n, strip ir_ref24_First.body, ir_ref24_First.res⟩ := by kernel_rfl

/-- strongtx/strongtxref24.Check -/
def ir_ref24_Check : IFn := ⟨82,
 (.seq (.region [
 ⟨some 4, .mov (.const (.int .i64 0)), none⟩,
 ⟨some 5, .mov (.const (.int .i64 0)), none⟩])
 (.seq (.seq (.region [
 ⟨some 10, .mov (.tmp 1), none⟩,
 ⟨some 11, .bin .lss (.tmp 10) (.const (.int .i64 1)), none⟩,
 ⟨some 12, .mov (.tmp 11), none⟩,
 ⟨some 13, .mov (.tmp 1), some (12, false)⟩,
 ⟨some 14, .bin .gtr (.tmp 13) (.const (.int .i64 16)), some (12, false)⟩,
 ⟨some 15, .pick (.tmp 12) (.const (.bool true)) (.tmp 14), none⟩])
 (.cond (.tmp 15)
  (.seq (.region [
  ⟨some 4, .mov (.const (.int .i64 0)), none⟩,
  ⟨some 5, .mov (.const (.int .i64 54)), none⟩])
  .ret)
  .skip))
 (.seq (.seq (.region [
 ⟨some 16, .mov (.tmp 0), none⟩,
 ⟨some 17, .len (.tmp 16), none⟩,
 ⟨some 18, .bin .gtr (.tmp 17) (.const (.int .i64 65536)), none⟩])
 (.cond (.tmp 18)
  (.seq (.region [
  ⟨some 4, .mov (.const (.int .i64 0)), none⟩,
  ⟨some 5, .mov (.const (.int .i64 3)), none⟩])
  .ret)
  .skip))
 (.seq (.region [
 ⟨some 19, .mov (.tmp 1), none⟩,
 ⟨some 20, .mk 3 1 8 [(.int .i64 0)] (.tmp 19) (.tmp 19), none⟩,
 ⟨some 6, .mov (.tmp 20), none⟩])
 (.seq (.seq (.region [
 ⟨some 7, .mov (.const (.int .i64 0)), none⟩])
 (.block 0
  (.loop 4835703278458516696728496
   (.seq (.seq (.region [
   ⟨some 21, .mov (.tmp 7), none⟩,
   ⟨some 22, .mov (.tmp 0), none⟩,
   ⟨some 23, .len (.tmp 22), none⟩,
   ⟨some 24, .bin .lss (.tmp 21) (.tmp 23), none⟩])
   (.cond (.tmp 24)
    .skip
    (.exit 0)))
   (.seq (.block 1
    (.seq (.region [
    ⟨some 8, .mov (.const (.int .i64 0)), none⟩,
    ⟨some 9, .mov (.const (.int .i64 0)), none⟩])
    (.seq (.seq (.region [
    ⟨some 27, .mov (.tmp 7), none⟩,
    ⟨some 28, .bin .gtr (.tmp 27) (.const (.int .i64 0)), none⟩])
    (.cond (.tmp 28)
     (.region [
     ⟨some 29, .mov (.tmp 0), none⟩,
     ⟨some 30, .mov (.tmp 7), none⟩,
     ⟨some 31, .bin .sub (.tmp 30) (.const (.int .i64 1)), none⟩,
     ⟨some 32, .ixs 6 (.tmp 29) (.tmp 31), none⟩,
     ⟨some 33, .fad 0 (.tmp 32), none⟩,
     ⟨some 34, .ld (.tmp 33), none⟩,
     ⟨some 8, .mov (.tmp 34), none⟩])
     .skip))
    (.seq (.seq (.region [
    ⟨some 35, .mov (.tmp 0), none⟩,
    ⟨some 36, .mov (.tmp 7), none⟩,
    ⟨some 37, .ixs 6 (.tmp 35) (.tmp 36), none⟩,
    ⟨some 38, .fad 1 (.tmp 37), none⟩,
    ⟨some 39, .ld (.tmp 38), none⟩,
    ⟨some 40, .bin .geq (.tmp 39) (.const (.int .i64 0)), none⟩,
    ⟨some 41, .mov (.tmp 40), none⟩,
    ⟨some 42, .mov (.tmp 0), some (41, true)⟩,
    ⟨some 43, .mov (.tmp 7), some (41, true)⟩,
    ⟨some 44, .ixs 6 (.tmp 42) (.tmp 43), some (41, true)⟩,
    ⟨some 45, .fad 1 (.tmp 44), some (41, true)⟩,
    ⟨some 46, .ld (.tmp 45), some (41, true)⟩,
    ⟨some 47, .mov (.tmp 1), some (41, true)⟩,
    ⟨some 48, .bin .lss (.tmp 46) (.tmp 47), some (41, true)⟩,
    ⟨some 49, .pick (.tmp 41) (.tmp 48) (.const (.bool false)), none⟩])
    (.cond (.tmp 49)
     (.region [
     ⟨some 50, .mov (.tmp 6), none⟩,
     ⟨some 51, .mov (.tmp 0), none⟩,
     ⟨some 52, .mov (.tmp 7), none⟩,
     ⟨some 53, .ixs 6 (.tmp 51) (.tmp 52), none⟩,
     ⟨some 54, .fad 1 (.tmp 53), none⟩,
     ⟨some 55, .ld (.tmp 54), none⟩,
     ⟨some 56, .ixs 1 (.tmp 50) (.tmp 55), none⟩,
     ⟨some 57, .ld (.tmp 56), none⟩,
     ⟨some 9, .mov (.tmp 57), none⟩])
     .skip))
    (.seq (.seq (.region [
    ⟨some 58, .mov (.tmp 0), none⟩,
    ⟨some 59, .mov (.tmp 7), none⟩,
    ⟨some 60, .ixs 6 (.tmp 58) (.tmp 59), none⟩,
    ⟨some 61, .ldN 6 (.tmp 60), none⟩,
    ⟨some 62, .mov (.tmp 1), none⟩,
    ⟨some 63, .mov (.tmp 7), none⟩,
    ⟨some 64, .bin .eql (.tmp 63) (.const (.int .i64 0)), none⟩,
    ⟨some 65, .mov (.tmp 8), none⟩,
    ⟨some 66, .mov (.tmp 9), none⟩,
    ⟨some 67, .call 40 [(.tmp 61), (.tmp 62), (.tmp 64), (.tmp 65), (.tmp 66)], none⟩,
    ⟨some 68, .not (.tmp 67), none⟩])
    (.cond (.tmp 68)
     (.seq (.region [
     ⟨some 69, .mov (.tmp 7), none⟩,
     ⟨some 4, .mov (.tmp 69), none⟩,
     ⟨some 5, .mov (.const (.int .i64 91)), none⟩])
     .ret)
     .skip))
    (.draw (.f ⟨some 70, .mov (.tmp 6), none⟩
    (.f ⟨some 71, .mov (.tmp 0), none⟩
    (.f ⟨some 72, .mov (.tmp 7), none⟩
    (.f ⟨some 73, .ixs 6 (.tmp 71) (.tmp 72), none⟩
    (.f ⟨some 74, .fad 1 (.tmp 73), none⟩
    (.f ⟨some 75, .ld (.tmp 74), none⟩
    (.f ⟨some 76, .mov (.tmp 0), none⟩
    (.f ⟨some 77, .mov (.tmp 7), none⟩
    (.f ⟨some 78, .ixs 6 (.tmp 76) (.tmp 77), none⟩
    (.f ⟨some 79, .fad 2 (.tmp 78), none⟩
    (.f ⟨some 80, .ld (.tmp 79), none⟩
    (.f ⟨some 81, .ixs 1 (.tmp 70) (.tmp 75), none⟩
    (.m ⟨none, .st (.tmp 81) (.tmp 80), none⟩
    .done)))))))))))))))))))
   (.region [
   ⟨some 25, .mov (.tmp 7), none⟩,
   ⟨some 26, .bin .add (.tmp 25) (.const (.int .i64 1)), none⟩,
   ⟨some 7, .mov (.tmp 26), none⟩]))))))
 (.seq (.region [
 ⟨some 4, .mov (.const (.int .i64 0)), none⟩,
 ⟨some 5, .mov (.const (.int .i64 0)), none⟩])
 .ret)))))),
 [.tmp 4, .tmp 5]⟩
theorem low_ref24_Check : lowFn Tryd.prog movers 21 = some ⟨ir_ref24_Check.n, strip ir_ref24_Check.body, ir_ref24_Check.res⟩ := by kernel_rfl

/-- strongtx/strongtxref24.None -/
def ir_ref24_None : IFn := ⟨2,
 (.seq (.region [
 ⟨some 0, .new 28 (.agg #[.int .i64 0, .int .i64 0, .int .i64 0]), none⟩])
 (.seq (.region [
 ⟨some 1, .bld [(.int .i64 0), (.int .i64 0), (.int .i64 0)] [(0, 1, (.const (.int .i64 (-1)))), (1, 1, (.const (.int .i64 (-1)))), (2, 1, (.const (.int .i64 (-1))))], none⟩,
 ⟨none, .stN 3 (.tmp 0) (.tmp 1), none⟩])
 .ret)),
 [.cellN 0 3]⟩
theorem low_ref24_None : lowFn Tryd.prog movers 22 = some ⟨ir_ref24_None.n, strip ir_ref24_None.body, ir_ref24_None.res⟩ := by kernel_rfl

/-- strongtx/strongtxref24.Clock -/
def ir_ref24_Clock : IFn := ⟨85,
 (.seq (.region [
 ⟨some 6, .mov (.const (.slice none 0 0)), none⟩])
 (.seq (.seq (.region [
 ⟨some 12, .mov (.tmp 2), none⟩,
 ⟨some 13, .bin .lss (.tmp 12) (.const (.int .i64 0)), none⟩,
 ⟨some 14, .mov (.tmp 13), none⟩,
 ⟨some 15, .mov (.tmp 2), some (14, false)⟩,
 ⟨some 16, .mov (.tmp 1), some (14, false)⟩,
 ⟨some 17, .bin .geq (.tmp 15) (.tmp 16), some (14, false)⟩,
 ⟨some 18, .pick (.tmp 14) (.const (.bool true)) (.tmp 17), none⟩])
 (.cond (.tmp 18)
  (.seq (.region [
  ⟨some 6, .mov (.const (.slice none 0 0)), none⟩])
  .ret)
  .skip))
 (.seq (.region [
 ⟨some 19, .mov (.tmp 1), none⟩,
 ⟨some 20, .mk 3 1 8 [(.int .i64 0)] (.tmp 19) (.tmp 19), none⟩,
 ⟨some 7, .mov (.tmp 20), none⟩])
 (.seq (.region [
 ⟨some 8, .mov (.const (.int .i64 (-1))), none⟩])
 (.seq (.seq (.region [
 ⟨some 9, .mov (.const (.int .i64 0)), none⟩])
 (.block 0
  (.loop 8796090925824
   (.seq (.seq (.region [
   ⟨some 21, .mov (.tmp 9), none⟩,
   ⟨some 22, .mov (.tmp 0), none⟩,
   ⟨some 23, .len (.tmp 22), none⟩,
   ⟨some 24, .bin .lss (.tmp 21) (.tmp 23), none⟩])
   (.cond (.tmp 24)
    .skip
    (.exit 0)))
   (.seq (.block 1
    (.seq (.region [
    ⟨some 27, .mov (.tmp 0), none⟩,
    ⟨some 28, .mov (.tmp 9), none⟩,
    ⟨some 29, .ixs 6 (.tmp 27) (.tmp 28), none⟩,
    ⟨some 30, .fad 1 (.tmp 29), none⟩,
    ⟨some 31, .ld (.tmp 30), none⟩,
    ⟨some 32, .mov (.tmp 2), none⟩,
    ⟨some 33, .bin .eql (.tmp 31) (.tmp 32), none⟩,
    ⟨some 34, .mov (.tmp 33), none⟩,
    ⟨some 35, .mov (.tmp 0), some (34, true)⟩,
    ⟨some 36, .mov (.tmp 9), some (34, true)⟩,
    ⟨some 37, .ixs 6 (.tmp 35) (.tmp 36), some (34, true)⟩,
    ⟨some 38, .fad 2 (.tmp 37), some (34, true)⟩,
    ⟨some 39, .ld (.tmp 38), some (34, true)⟩,
    ⟨some 40, .bin .neq (.tmp 39) (.const (.int .i64 3)), some (34, true)⟩,
    ⟨some 41, .pick (.tmp 34) (.tmp 40) (.const (.bool false)), none⟩])
    (.cond (.tmp 41)
     (.region [
     ⟨some 42, .mov (.tmp 9), none⟩,
     ⟨some 8, .mov (.tmp 42), none⟩])
     .skip)))
   (.region [
   ⟨some 25, .mov (.tmp 9), none⟩,
   ⟨some 26, .bin .add (.tmp 25) (.const (.int .i64 1)), none⟩,
   ⟨some 9, .mov (.tmp 26), none⟩]))))))
 (.seq (.seq (.region [
 ⟨some 43, .mov (.tmp 8), none⟩,
 ⟨some 44, .bin .lss (.tmp 43) (.const (.int .i64 0)), none⟩])
 (.cond (.tmp 44)
  (.seq (.region [
  ⟨some 45, .mov (.tmp 7), none⟩,
  ⟨some 6, .mov (.tmp 45), none⟩])
  .ret)
  .skip))
 (.seq (.region [
 ⟨some 46, .mov (.tmp 0), none⟩,
 ⟨some 47, .call 52 [(.tmp 46)], none⟩,
 ⟨some 10, .mov (.tmp 47), none⟩])
 (.seq (.seq (.region [
 ⟨some 11, .mov (.const (.int .i64 0)), none⟩])
 (.block 2
  (.loop 19342813113552591818590208
   (.seq (.seq (.region [
   ⟨some 48, .mov (.tmp 11), none⟩,
   ⟨some 49, .mov (.tmp 0), none⟩,
   ⟨some 50, .len (.tmp 49), none⟩,
   ⟨some 51, .bin .lss (.tmp 48) (.tmp 50), none⟩])
   (.cond (.tmp 51)
    .skip
    (.exit 2)))
   (.seq (.block 3
    (.seq (.region [
    ⟨some 54, .mov (.tmp 0), none⟩,
    ⟨some 55, .mov (.tmp 11), none⟩,
    ⟨some 56, .ixs 6 (.tmp 54) (.tmp 55), none⟩,
    ⟨some 57, .fad 2 (.tmp 56), none⟩,
    ⟨some 58, .ld (.tmp 57), none⟩,
    ⟨some 59, .bin .eql (.tmp 58) (.const (.int .i64 4)), none⟩,
    ⟨some 60, .mov (.tmp 59), none⟩,
    ⟨some 61, .mov (.tmp 11), some (60, true)⟩,
    ⟨some 62, .mov (.tmp 8), some (60, true)⟩,
    ⟨some 63, .bin .eql (.tmp 61) (.tmp 62), some (60, true)⟩,
    ⟨some 64, .mov (.tmp 63), some (60, true)⟩,
    ⟨some 65, .mov (.tmp 10), some (64, false)⟩,
    ⟨some 66, .mov (.tmp 11), some (64, false)⟩,
    ⟨some 67, .ixs 1 (.tmp 65) (.tmp 66), some (64, false)⟩,
    ⟨some 68, .ld (.tmp 67), some (64, false)⟩,
    ⟨some 69, .mov (.tmp 8), some (64, false)⟩,
    ⟨some 70, .ixs 1 (.tmp 68) (.tmp 69), some (64, false)⟩,
    ⟨some 71, .ld (.tmp 70), some (64, false)⟩,
    ⟨some 72, .pick (.tmp 64) (.const (.bool true)) (.tmp 71), some (60, true)⟩,
    ⟨some 73, .pick (.tmp 60) (.tmp 72) (.const (.bool false)), none⟩])
    (.cond (.tmp 73)
     (.region [
     ⟨some 74, .mov (.tmp 7), none⟩,
     ⟨some 75, .mov (.tmp 0), none⟩,
     ⟨some 76, .mov (.tmp 11), none⟩,
     ⟨some 77, .ixs 6 (.tmp 75) (.tmp 76), none⟩,
     ⟨some 78, .fad 1 (.tmp 77), none⟩,
     ⟨some 79, .ld (.tmp 78), none⟩,
     ⟨some 80, .ixs 1 (.tmp 74) (.tmp 79), none⟩,
     ⟨some 81, .ld (.tmp 80), none⟩,
     ⟨some 82, .bin .add (.tmp 81) (.const (.int .i64 1)), none⟩,
     ⟨some 83, .ixs 1 (.tmp 74) (.tmp 79), none⟩,
     ⟨none, .st (.tmp 83) (.tmp 82), none⟩])
     .skip)))
   (.region [
   ⟨some 52, .mov (.tmp 11), none⟩,
   ⟨some 53, .bin .add (.tmp 52) (.const (.int .i64 1)), none⟩,
   ⟨some 11, .mov (.tmp 53), none⟩]))))))
 (.seq (.region [
 ⟨some 84, .mov (.tmp 7), none⟩,
 ⟨some 6, .mov (.tmp 84), none⟩])
 .ret))))))))),
 [.tmp 6]⟩
theorem low_ref24_Clock : lowFn Tryd.prog movers 31 = some ⟨ir_ref24_Clock.n, strip ir_ref24_Clock.body, ir_ref24_Clock.res⟩ := by kernel_rfl

/-- strongtx/strongtxref24.Races -/
def ir_ref24_Races : IFn := ⟨90,
 (.seq (.region [
 ⟨some 4, .mov (.const (.slice none 0 0)), none⟩])
 (.seq (.seq (.region [
 ⟨some 14, .mov (.tmp 0), none⟩,
 ⟨some 15, .mov (.tmp 1), none⟩,
 ⟨some 16, .call 21 [(.tmp 14), (.tmp 15)], none⟩,
 ⟨some 13, .mov (.tmp 16), none⟩,
 ⟨some 17, .ext (.tmp 13) 0, none⟩,
 ⟨some 18, .ext (.tmp 13) 1, none⟩,
 ⟨some 5, .mov (.tmp 17), none⟩,
 ⟨some 6, .mov (.tmp 18), none⟩])
 (.seq (.region [
 ⟨some 19, .mov (.tmp 6), none⟩,
 ⟨some 20, .bin .neq (.tmp 19) (.const (.int .i64 0)), none⟩])
 (.cond (.tmp 20)
  (.seq (.region [
  ⟨some 4, .mov (.const (.slice none 0 0)), none⟩])
  .ret)
  .skip)))
 (.seq (.region [
 ⟨some 21, .mov (.tmp 0), none⟩,
 ⟨some 22, .call 52 [(.tmp 21)], none⟩,
 ⟨some 7, .mov (.tmp 22), none⟩])
 (.seq (.region [
 ⟨some 8, .mov (.const (.slice none 0 0)), none⟩])
 (.seq (.seq (.region [
 ⟨some 9, .mov (.const (.int .i64 0)), none⟩])
 (.block 0
  (.loop 618970019642690137441181440
   (.seq (.seq (.region [
   ⟨some 23, .mov (.tmp 9), none⟩,
   ⟨some 24, .mov (.tmp 0), none⟩,
   ⟨some 25, .len (.tmp 24), none⟩,
   ⟨some 26, .bin .lss (.tmp 23) (.tmp 25), none⟩])
   (.cond (.tmp 26)
    .skip
    (.exit 0)))
   (.seq (.block 1
    (.seq (.seq (.region [
    ⟨some 29, .mov (.tmp 0), none⟩,
    ⟨some 30, .mov (.tmp 9), none⟩,
    ⟨some 31, .ixs 6 (.tmp 29) (.tmp 30), none⟩,
    ⟨some 32, .fad 2 (.tmp 31), none⟩,
    ⟨some 33, .ld (.tmp 32), none⟩,
    ⟨some 34, .bin .eql (.tmp 33) (.const (.int .i64 3)), none⟩])
    (.cond (.tmp 34)
     (.exit 1)
     .skip))
    (.seq (.region [
    ⟨some 35, .mov (.tmp 9), none⟩,
    ⟨some 10, .mov (.tmp 35), none⟩])
    (.seq (.seq (.region [
    ⟨some 36, .mov (.tmp 0), none⟩,
    ⟨some 37, .mov (.tmp 9), none⟩,
    ⟨some 38, .ixs 6 (.tmp 36) (.tmp 37), none⟩,
    ⟨some 39, .fad 2 (.tmp 38), none⟩,
    ⟨some 40, .ld (.tmp 39), none⟩,
    ⟨some 41, .bin .eql (.tmp 40) (.const (.int .i64 4)), none⟩])
    (.cond (.tmp 41)
     (.region [
     ⟨some 42, .mov (.tmp 0), none⟩,
     ⟨some 43, .mov (.tmp 9), none⟩,
     ⟨some 44, .call 58 [(.tmp 42), (.tmp 43)], none⟩,
     ⟨some 10, .mov (.tmp 44), none⟩])
     .skip))
    (.seq (.region [
    ⟨some 11, .mov (.const (.int .i64 0)), none⟩])
    (.block 2
     (.loop 618970019642654953077479680
      (.seq (.seq (.region [
      ⟨some 45, .mov (.tmp 11), none⟩,
      ⟨some 46, .bin .lss (.tmp 45) (.const (.int .i64 64)), none⟩])
      (.cond (.tmp 46)
       .skip
       (.exit 2)))
      (.seq (.block 3
       (.seq (.region [
       ⟨some 12, .mov (.const (.int .i64 0)), none⟩])
       (.block 4
        (.loop 618970019642127187496145152
         (.seq (.seq (.region [
         ⟨some 49, .mov (.tmp 12), none⟩,
         ⟨some 50, .mov (.tmp 9), none⟩,
         ⟨some 51, .bin .lss (.tmp 49) (.tmp 50), none⟩])
         (.cond (.tmp 51)
          .skip
          (.exit 4)))
         (.seq (.block 5
          (.seq (.draw (.f ⟨some 54, .mov (.tmp 0), none⟩
          (.f ⟨some 55, .mov (.tmp 12), none⟩
          (.f ⟨some 56, .ixs 6 (.tmp 54) (.tmp 55), none⟩
          (.f ⟨some 57, .fad 2 (.tmp 56), none⟩
          (.f ⟨some 58, .ld (.tmp 57), none⟩
          (.f ⟨some 59, .bin .neq (.tmp 58) (.const (.int .i64 3)), none⟩
          (.f ⟨some 60, .mov (.tmp 59), none⟩
          (.f ⟨some 61, .mov (.tmp 0), some (60, true)⟩
          (.f ⟨some 62, .mov (.tmp 12), some (60, true)⟩
          (.f ⟨some 63, .ixs 6 (.tmp 61) (.tmp 62), some (60, true)⟩
          (.f ⟨some 64, .ldN 6 (.tmp 63), some (60, true)⟩
          (.f ⟨some 65, .mov (.tmp 0), some (60, true)⟩
          (.f ⟨some 66, .mov (.tmp 9), some (60, true)⟩
          (.f ⟨some 67, .ixs 6 (.tmp 65) (.tmp 66), some (60, true)⟩
          (.f ⟨some 68, .ldN 6 (.tmp 67), some (60, true)⟩
          (.f ⟨some 69, .mov (.tmp 11), some (60, true)⟩
          (.f ⟨some 70, .call 59 [(.tmp 64), (.tmp 68), (.tmp 69)], some (60, true)⟩
          (.f ⟨some 71, .pick (.tmp 60) (.tmp 70) (.const (.bool false)), none⟩
          (.f ⟨some 72, .mov (.tmp 71), none⟩
          (.f ⟨some 73, .mov (.tmp 7), some (72, true)⟩
          (.f ⟨some 74, .mov (.tmp 12), some (72, true)⟩
          (.f ⟨some 75, .ixs 1 (.tmp 73) (.tmp 74), some (72, true)⟩
          (.f ⟨some 76, .ld (.tmp 75), some (72, true)⟩
          (.f ⟨some 77, .mov (.tmp 10), some (72, true)⟩
          (.f ⟨some 78, .ixs 1 (.tmp 76) (.tmp 77), some (72, true)⟩
          (.f ⟨some 79, .ld (.tmp 78), some (72, true)⟩
          (.f ⟨some 80, .not (.tmp 79), some (72, true)⟩
          (.f ⟨some 81, .pick (.tmp 72) (.tmp 80) (.const (.bool false)), none⟩
          .done)))))))))))))))))))))))))))))
          (.cond (.tmp 81)
           (.region [
           ⟨some 82, .mov (.tmp 8), none⟩,
           ⟨some 83, .mov (.tmp 12), none⟩,
           ⟨some 84, .mov (.tmp 9), none⟩,
           ⟨some 85, .mov (.tmp 11), none⟩,
           ⟨some 86, .bld [(.int .i64 0), (.int .i64 0), (.int .i64 0)] [(0, 1, (.tmp 83)), (1, 1, (.tmp 84)), (2, 1, (.tmp 85))], none⟩,
           ⟨some 87, .blds 28 1 [(.int .i64 0), (.int .i64 0), (.int .i64 0)] [(0, 3, (.tmp 86))], none⟩,
           ⟨some 88, .app 28 3 24 [(.int .i64 0), (.int .i64 0), (.int .i64 0)] (.tmp 82) (.tmp 87), none⟩,
           ⟨some 8, .mov (.tmp 88), none⟩])
           .skip)))
         (.region [
         ⟨some 52, .mov (.tmp 12), none⟩,
         ⟨some 53, .bin .add (.tmp 52) (.const (.int .i64 1)), none⟩,
         ⟨some 12, .mov (.tmp 53), none⟩])))))))
      (.region [
      ⟨some 47, .mov (.tmp 11), none⟩,
      ⟨some 48, .bin .add (.tmp 47) (.const (.int .i64 1)), none⟩,
      ⟨some 11, .mov (.tmp 48), none⟩]))))))))))
   (.region [
   ⟨some 27, .mov (.tmp 9), none⟩,
   ⟨some 28, .bin .add (.tmp 27) (.const (.int .i64 1)), none⟩,
   ⟨some 9, .mov (.tmp 28), none⟩]))))))
 (.seq (.region [
 ⟨some 89, .mov (.tmp 8), none⟩,
 ⟨some 4, .mov (.tmp 89), none⟩])
 .ret)))))),
 [.tmp 4]⟩
theorem low_ref24_Races : lowFn Tryd.prog movers 39 = some ⟨ir_ref24_Races.n, strip ir_ref24_Races.body, ir_ref24_Races.res⟩ := by kernel_rfl

/-- strongtx/strongtxref24.Fits -/
def ir_ref24_Fits : IFn := ⟨75,
 (.seq (.region [
 ⟨some 5, .box 42 (.tmp 0), none⟩,
 ⟨some 10, .mov (.const (.bool false)), none⟩])
 (.seq (.seq (.region [
 ⟨some 11, .fad 1 (.tmp 5), none⟩,
 ⟨some 12, .ld (.tmp 11), none⟩,
 ⟨some 13, .bin .lss (.tmp 12) (.const (.int .i64 0)), none⟩,
 ⟨some 14, .mov (.tmp 13), none⟩,
 ⟨some 15, .fad 1 (.tmp 5), some (14, false)⟩,
 ⟨some 16, .ld (.tmp 15), some (14, false)⟩,
 ⟨some 17, .mov (.tmp 1), some (14, false)⟩,
 ⟨some 18, .bin .geq (.tmp 16) (.tmp 17), some (14, false)⟩,
 ⟨some 19, .pick (.tmp 14) (.const (.bool true)) (.tmp 18), none⟩,
 ⟨some 20, .mov (.tmp 19), none⟩,
 ⟨some 21, .fad 2 (.tmp 5), some (20, false)⟩,
 ⟨some 22, .ld (.tmp 21), some (20, false)⟩,
 ⟨some 23, .bin .lss (.tmp 22) (.const (.int .i64 1)), some (20, false)⟩,
 ⟨some 24, .pick (.tmp 20) (.const (.bool true)) (.tmp 23), none⟩,
 ⟨some 25, .mov (.tmp 24), none⟩,
 ⟨some 26, .fad 2 (.tmp 5), some (25, false)⟩,
 ⟨some 27, .ld (.tmp 26), some (25, false)⟩,
 ⟨some 28, .bin .gtr (.tmp 27) (.const (.int .i64 4)), some (25, false)⟩,
 ⟨some 29, .pick (.tmp 25) (.const (.bool true)) (.tmp 28), none⟩,
 ⟨some 30, .mov (.tmp 29), none⟩,
 ⟨some 31, .mov (.tmp 2), some (30, false)⟩,
 ⟨some 32, .not (.tmp 31), some (30, false)⟩,
 ⟨some 33, .mov (.tmp 32), some (30, false)⟩,
 ⟨some 34, .fad 0 (.tmp 5), some (33, true)⟩,
 ⟨some 35, .ld (.tmp 34), some (33, true)⟩,
 ⟨some 36, .mov (.tmp 3), some (33, true)⟩,
 ⟨some 37, .bin .lss (.tmp 35) (.tmp 36), some (33, true)⟩,
 ⟨some 38, .pick (.tmp 33) (.tmp 37) (.const (.bool false)), some (30, false)⟩,
 ⟨some 39, .pick (.tmp 30) (.const (.bool true)) (.tmp 38), none⟩])
 (.cond (.tmp 39)
  (.seq (.region [
  ⟨some 10, .mov (.const (.bool false)), none⟩])
  .ret)
  .skip))
 (.seq (.seq (.region [
 ⟨some 40, .fad 3 (.tmp 5), none⟩,
 ⟨some 41, .ld (.tmp 40), none⟩,
 ⟨some 42, .bin .lss (.tmp 41) (.const (.int .i64 0)), none⟩,
 ⟨some 43, .mov (.tmp 42), none⟩,
 ⟨some 44, .fad 3 (.tmp 5), some (43, false)⟩,
 ⟨some 45, .ld (.tmp 44), some (43, false)⟩,
 ⟨some 46, .bin .geq (.tmp 45) (.const (.int .i64 64)), some (43, false)⟩,
 ⟨some 47, .pick (.tmp 43) (.const (.bool true)) (.tmp 46), none⟩,
 ⟨some 48, .mov (.tmp 47), none⟩,
 ⟨some 49, .fad 4 (.tmp 5), some (48, false)⟩,
 ⟨some 50, .ld (.tmp 49), some (48, false)⟩,
 ⟨some 51, .call 60 [(.tmp 50)], some (48, false)⟩,
 ⟨some 52, .not (.tmp 51), some (48, false)⟩,
 ⟨some 53, .pick (.tmp 48) (.const (.bool true)) (.tmp 52), none⟩,
 ⟨some 54, .mov (.tmp 53), none⟩,
 ⟨some 55, .fad 5 (.tmp 5), some (54, false)⟩,
 ⟨some 56, .ld (.tmp 55), some (54, false)⟩,
 ⟨some 57, .call 60 [(.tmp 56)], some (54, false)⟩,
 ⟨some 58, .not (.tmp 57), some (54, false)⟩,
 ⟨some 59, .pick (.tmp 54) (.const (.bool true)) (.tmp 58), none⟩])
 (.cond (.tmp 59)
  (.seq (.region [
  ⟨some 10, .mov (.const (.bool false)), none⟩])
  .ret)
  .skip))
 (.seq (.seq (.region [
 ⟨some 60, .fad 2 (.tmp 5), none⟩,
 ⟨some 61, .ld (.tmp 60), none⟩,
 ⟨some 62, .bin .eql (.tmp 61) (.const (.int .i64 4)), none⟩])
 (.cond (.tmp 62)
  (.seq (.region [
  ⟨some 63, .mov (.tmp 4), none⟩,
  ⟨some 64, .bin .eql (.tmp 63) (.const (.int .i64 3)), none⟩,
  ⟨some 10, .mov (.tmp 64), none⟩])
  .ret)
  .skip))
 (.seq (.region [
 ⟨some 65, .fad 4 (.tmp 5), none⟩,
 ⟨some 66, .ld (.tmp 65), none⟩,
 ⟨some 67, .len (.tmp 66), none⟩,
 ⟨some 68, .bin .eql (.tmp 67) (.const (.int .i64 0)), none⟩,
 ⟨some 69, .mov (.tmp 68), none⟩,
 ⟨some 70, .fad 5 (.tmp 5), some (69, true)⟩,
 ⟨some 71, .ld (.tmp 70), some (69, true)⟩,
 ⟨some 72, .len (.tmp 71), some (69, true)⟩,
 ⟨some 73, .bin .eql (.tmp 72) (.const (.int .i64 0)), some (69, true)⟩,
 ⟨some 74, .pick (.tmp 69) (.tmp 73) (.const (.bool false)), none⟩,
 ⟨some 10, .mov (.tmp 74), none⟩])
 .ret))))),
 [.tmp 10]⟩
theorem low_ref24_Fits : lowFn Tryd.prog movers 40 = some ⟨ir_ref24_Fits.n, strip ir_ref24_Fits.body, ir_ref24_Fits.res⟩ := by kernel_rfl

/-- strongtx/strongtxref24.closure -/
def ir_ref24_closure : IFn := ⟨135,
 (.seq (.region [
 ⟨some 2, .mov (.const (.slice none 0 0)), none⟩])
 (.seq (.region [
 ⟨some 13, .mov (.tmp 0), none⟩,
 ⟨some 14, .len (.tmp 13), none⟩,
 ⟨some 3, .mov (.tmp 14), none⟩])
 (.seq (.region [
 ⟨some 15, .mov (.tmp 0), none⟩,
 ⟨some 16, .call 70 [(.tmp 15)], none⟩,
 ⟨some 4, .mov (.tmp 16), none⟩])
 (.seq (.region [
 ⟨some 5, .mov (.const (.slice none 0 0)), none⟩])
 (.seq (.seq (.region [
 ⟨some 6, .mov (.const (.int .i64 0)), none⟩])
 (.block 0
  (.loop 77371252455336267181065184
   (.seq (.seq (.region [
   ⟨some 17, .mov (.tmp 6), none⟩,
   ⟨some 18, .mov (.tmp 3), none⟩,
   ⟨some 19, .bin .lss (.tmp 17) (.tmp 18), none⟩])
   (.cond (.tmp 19)
    .skip
    (.exit 0)))
   (.seq (.block 1
    (.seq (.region [
    ⟨some 22, .mov (.tmp 3), none⟩,
    ⟨some 23, .mk 4 1 1 [(.bool false)] (.tmp 22) (.tmp 22), none⟩,
    ⟨some 7, .mov (.tmp 23), none⟩])
    (.seq (.seq (.region [
    ⟨some 24, .mov (.tmp 6), none⟩,
    ⟨some 25, .bin .add (.tmp 24) (.const (.int .i64 1)), none⟩,
    ⟨some 8, .mov (.tmp 25), none⟩])
    (.block 2
     (.loop 4835703278458516631716608
      (.seq (.seq (.region [
      ⟨some 26, .mov (.tmp 8), none⟩,
      ⟨some 27, .mov (.tmp 3), none⟩,
      ⟨some 28, .bin .lss (.tmp 26) (.tmp 27), none⟩])
      (.cond (.tmp 28)
       .skip
       (.exit 2)))
      (.seq (.block 3
       (.seq (.draw (.f ⟨some 31, .mov (.tmp 0), none⟩
       (.f ⟨some 32, .mov (.tmp 6), none⟩
       (.f ⟨some 33, .ixs 6 (.tmp 31) (.tmp 32), none⟩
       (.f ⟨some 34, .fad 1 (.tmp 33), none⟩
       (.f ⟨some 35, .ld (.tmp 34), none⟩
       (.f ⟨some 36, .mov (.tmp 0), none⟩
       (.f ⟨some 37, .mov (.tmp 8), none⟩
       (.f ⟨some 38, .ixs 6 (.tmp 36) (.tmp 37), none⟩
       (.f ⟨some 39, .fad 1 (.tmp 38), none⟩
       (.f ⟨some 40, .ld (.tmp 39), none⟩
       (.f ⟨some 41, .bin .eql (.tmp 35) (.tmp 40), none⟩
       (.f ⟨some 42, .mov (.tmp 41), none⟩
       (.f ⟨some 43, .mov (.tmp 0), some (42, false)⟩
       (.f ⟨some 44, .mov (.tmp 6), some (42, false)⟩
       (.f ⟨some 45, .ixs 6 (.tmp 43) (.tmp 44), some (42, false)⟩
       (.f ⟨some 46, .fad 2 (.tmp 45), some (42, false)⟩
       (.f ⟨some 47, .ld (.tmp 46), some (42, false)⟩
       (.f ⟨some 48, .bin .eql (.tmp 47) (.const (.int .i64 4)), some (42, false)⟩
       (.f ⟨some 49, .mov (.tmp 48), some (42, false)⟩
       (.f ⟨some 50, .mov (.tmp 0), some (49, true)⟩
       (.f ⟨some 51, .mov (.tmp 8), some (49, true)⟩
       (.f ⟨some 52, .ixs 6 (.tmp 50) (.tmp 51), some (49, true)⟩
       (.f ⟨some 53, .fad 2 (.tmp 52), some (49, true)⟩
       (.f ⟨some 54, .ld (.tmp 53), some (49, true)⟩
       (.f ⟨some 55, .bin .eql (.tmp 54) (.const (.int .i64 4)), some (49, true)⟩
       (.f ⟨some 56, .mov (.tmp 55), some (49, true)⟩
       (.f ⟨some 57, .mov (.tmp 0), some (56, false)⟩
       (.f ⟨some 58, .mov (.tmp 8), some (56, false)⟩
       (.f ⟨some 59, .ixs 6 (.tmp 57) (.tmp 58), some (56, false)⟩
       (.f ⟨some 60, .fad 2 (.tmp 59), some (56, false)⟩
       (.f ⟨some 61, .ld (.tmp 60), some (56, false)⟩
       (.f ⟨some 62, .bin .eql (.tmp 61) (.const (.int .i64 3)), some (56, false)⟩
       (.f ⟨some 63, .pick (.tmp 56) (.const (.bool true)) (.tmp 62), some (49, true)⟩
       (.f ⟨some 64, .pick (.tmp 49) (.tmp 63) (.const (.bool false)), some (42, false)⟩
       (.f ⟨some 65, .pick (.tmp 42) (.const (.bool true)) (.tmp 64), none⟩
       (.f ⟨some 9, .mov (.tmp 65), none⟩
       .done)))))))))))))))))))))))))))))))))))))
       (.region [
       ⟨some 66, .mov (.tmp 7), none⟩,
       ⟨some 67, .mov (.tmp 8), none⟩,
       ⟨some 68, .mov (.tmp 4), none⟩,
       ⟨some 69, .mov (.tmp 6), none⟩,
       ⟨some 70, .ixs 1 (.tmp 68) (.tmp 69), none⟩,
       ⟨some 71, .ld (.tmp 70), none⟩,
       ⟨some 72, .mov (.tmp 71), none⟩,
       ⟨some 73, .mov (.tmp 4), some (72, true)⟩,
       ⟨some 74, .mov (.tmp 8), some (72, true)⟩,
       ⟨some 75, .ixs 1 (.tmp 73) (.tmp 74), some (72, true)⟩,
       ⟨some 76, .ld (.tmp 75), some (72, true)⟩,
       ⟨some 77, .pick (.tmp 72) (.tmp 76) (.const (.bool false)), none⟩,
       ⟨some 78, .mov (.tmp 77), none⟩,
       ⟨some 79, .mov (.tmp 9), some (78, true)⟩,
       ⟨some 80, .pick (.tmp 78) (.tmp 79) (.const (.bool false)), none⟩,
       ⟨some 81, .ixs 1 (.tmp 66) (.tmp 67), none⟩,
       ⟨none, .st (.tmp 81) (.tmp 80), none⟩])))
      (.region [
      ⟨some 29, .mov (.tmp 8), none⟩,
      ⟨some 30, .bin .add (.tmp 29) (.const (.int .i64 1)), none⟩,
      ⟨some 8, .mov (.tmp 30), none⟩]))))))
    (.region [
    ⟨some 82, .mov (.tmp 5), none⟩,
    ⟨some 83, .mov (.tmp 7), none⟩,
    ⟨some 84, .blds 80 1 [(.slice none 0 0)] [(0, 1, (.tmp 83))], none⟩,
    ⟨some 85, .app 80 1 24 [(.slice none 0 0)] (.tmp 82) (.tmp 84), none⟩,
    ⟨some 5, .mov (.tmp 85), none⟩]))))
   (.region [
   ⟨some 20, .mov (.tmp 6), none⟩,
   ⟨some 21, .bin .add (.tmp 20) (.const (.int .i64 1)), none⟩,
   ⟨some 6, .mov (.tmp 21), none⟩]))))))
 (.seq (.seq (.region [
 ⟨some 10, .mov (.const (.int .i64 0)), none⟩])
 (.block 4
  (.loop 21778071482939984290403519539365984345088
   (.seq (.seq (.region [
   ⟨some 86, .mov (.tmp 10), none⟩,
   ⟨some 87, .mov (.tmp 3), none⟩,
   ⟨some 88, .bin .lss (.tmp 86) (.tmp 87), none⟩])
   (.cond (.tmp 88)
    .skip
    (.exit 4)))
   (.seq (.block 5
    (.seq (.region [
    ⟨some 11, .mov (.const (.int .i64 0)), none⟩])
    (.block 6
     (.loop 21778071482937585781577404115083367290880
      (.seq (.seq (.region [
      ⟨some 91, .mov (.tmp 11), none⟩,
      ⟨some 92, .mov (.tmp 10), none⟩,
      ⟨some 93, .bin .lss (.tmp 91) (.tmp 92), none⟩])
      (.cond (.tmp 93)
       .skip
       (.exit 6)))
      (.seq (.block 7
       (.seq (.region [
       ⟨some 96, .mov (.tmp 10), none⟩,
       ⟨some 97, .bin .add (.tmp 96) (.const (.int .i64 1)), none⟩,
       ⟨some 12, .mov (.tmp 97), none⟩])
       (.block 8
        (.loop 21778071482623149011598917525258989735936
         (.seq (.seq (.region [
         ⟨some 98, .mov (.tmp 12), none⟩,
         ⟨some 99, .mov (.tmp 3), none⟩,
         ⟨some 100, .bin .lss (.tmp 98) (.tmp 99), none⟩,
         ⟨some 101, .mov (.tmp 100), none⟩,
         ⟨some 102, .mov (.tmp 5), some (101, true)⟩,
         ⟨some 103, .mov (.tmp 11), some (101, true)⟩,
         ⟨some 104, .ixs 1 (.tmp 102) (.tmp 103), some (101, true)⟩,
         ⟨some 105, .ld (.tmp 104), some (101, true)⟩,
         ⟨some 106, .mov (.tmp 10), some (101, true)⟩,
         ⟨some 107, .ixs 1 (.tmp 105) (.tmp 106), some (101, true)⟩,
         ⟨some 108, .ld (.tmp 107), some (101, true)⟩,
         ⟨some 109, .pick (.tmp 101) (.tmp 108) (.const (.bool false)), none⟩])
         (.cond (.tmp 109)
          .skip
          (.exit 8)))
         (.seq (.block 9
          (.draw (.f ⟨some 112, .mov (.tmp 5), none⟩
          (.f ⟨some 113, .mov (.tmp 11), none⟩
          (.f ⟨some 114, .ixs 1 (.tmp 112) (.tmp 113), none⟩
          (.f ⟨some 115, .ld (.tmp 114), none⟩
          (.f ⟨some 116, .mov (.tmp 12), none⟩
          (.f ⟨some 117, .mov (.tmp 5), none⟩
          (.f ⟨some 118, .mov (.tmp 11), none⟩
          (.f ⟨some 119, .ixs 1 (.tmp 117) (.tmp 118), none⟩
          (.f ⟨some 120, .ld (.tmp 119), none⟩
          (.f ⟨some 121, .mov (.tmp 12), none⟩
          (.f ⟨some 122, .ixs 1 (.tmp 120) (.tmp 121), none⟩
          (.f ⟨some 123, .ld (.tmp 122), none⟩
          (.f ⟨some 124, .mov (.tmp 123), none⟩
          (.f ⟨some 125, .mov (.tmp 5), some (124, false)⟩
          (.f ⟨some 126, .mov (.tmp 10), some (124, false)⟩
          (.f ⟨some 127, .ixs 1 (.tmp 125) (.tmp 126), some (124, false)⟩
          (.f ⟨some 128, .ld (.tmp 127), some (124, false)⟩
          (.f ⟨some 129, .mov (.tmp 12), some (124, false)⟩
          (.f ⟨some 130, .ixs 1 (.tmp 128) (.tmp 129), some (124, false)⟩
          (.f ⟨some 131, .ld (.tmp 130), some (124, false)⟩
          (.f ⟨some 132, .pick (.tmp 124) (.const (.bool true)) (.tmp 131), none⟩
          (.f ⟨some 133, .ixs 1 (.tmp 115) (.tmp 116), none⟩
          (.m ⟨none, .st (.tmp 133) (.tmp 132), none⟩
          .done)))))))))))))))))))))))))
         (.region [
         ⟨some 110, .mov (.tmp 12), none⟩,
         ⟨some 111, .bin .add (.tmp 110) (.const (.int .i64 1)), none⟩,
         ⟨some 12, .mov (.tmp 111), none⟩])))))))
      (.region [
      ⟨some 94, .mov (.tmp 11), none⟩,
      ⟨some 95, .bin .add (.tmp 94) (.const (.int .i64 1)), none⟩,
      ⟨some 11, .mov (.tmp 95), none⟩])))))))
   (.region [
   ⟨some 89, .mov (.tmp 10), none⟩,
   ⟨some 90, .bin .add (.tmp 89) (.const (.int .i64 1)), none⟩,
   ⟨some 10, .mov (.tmp 90), none⟩]))))))
 (.seq (.region [
 ⟨some 134, .mov (.tmp 5), none⟩,
 ⟨some 2, .mov (.tmp 134), none⟩])
 .ret))))))),
 [.tmp 2]⟩
theorem low_ref24_closure : lowFn Tryd.prog movers 52 = some ⟨ir_ref24_closure.n, strip ir_ref24_closure.body, ir_ref24_closure.res⟩ := by kernel_rfl

/-- strongtx/strongtxref24.Before -/
def ir_ref24_Before : IFn := ⟨47,
 (.seq (.region [
 ⟨some 8, .mov (.const (.bool false)), none⟩])
 (.seq (.seq (.region [
 ⟨some 12, .mov (.tmp 0), none⟩,
 ⟨some 13, .mov (.tmp 1), none⟩,
 ⟨some 14, .call 21 [(.tmp 12), (.tmp 13)], none⟩,
 ⟨some 11, .mov (.tmp 14), none⟩,
 ⟨some 15, .ext (.tmp 11) 0, none⟩,
 ⟨some 16, .ext (.tmp 11) 1, none⟩,
 ⟨some 9, .mov (.tmp 15), none⟩,
 ⟨some 10, .mov (.tmp 16), none⟩])
 (.seq (.region [
 ⟨some 17, .mov (.tmp 10), none⟩,
 ⟨some 18, .bin .neq (.tmp 17) (.const (.int .i64 0)), none⟩,
 ⟨some 19, .mov (.tmp 18), none⟩,
 ⟨some 20, .mov (.tmp 2), some (19, false)⟩,
 ⟨some 21, .bin .lss (.tmp 20) (.const (.int .i64 0)), some (19, false)⟩,
 ⟨some 22, .pick (.tmp 19) (.const (.bool true)) (.tmp 21), none⟩,
 ⟨some 23, .mov (.tmp 22), none⟩,
 ⟨some 24, .mov (.tmp 3), some (23, false)⟩,
 ⟨some 25, .bin .lss (.tmp 24) (.const (.int .i64 0)), some (23, false)⟩,
 ⟨some 26, .pick (.tmp 23) (.const (.bool true)) (.tmp 25), none⟩,
 ⟨some 27, .mov (.tmp 26), none⟩,
 ⟨some 28, .mov (.tmp 2), some (27, false)⟩,
 ⟨some 29, .mov (.tmp 0), some (27, false)⟩,
 ⟨some 30, .len (.tmp 29), some (27, false)⟩,
 ⟨some 31, .bin .geq (.tmp 28) (.tmp 30), some (27, false)⟩,
 ⟨some 32, .pick (.tmp 27) (.const (.bool true)) (.tmp 31), none⟩,
 ⟨some 33, .mov (.tmp 32), none⟩,
 ⟨some 34, .mov (.tmp 3), some (33, false)⟩,
 ⟨some 35, .mov (.tmp 0), some (33, false)⟩,
 ⟨some 36, .len (.tmp 35), some (33, false)⟩,
 ⟨some 37, .bin .geq (.tmp 34) (.tmp 36), some (33, false)⟩,
 ⟨some 38, .pick (.tmp 33) (.const (.bool true)) (.tmp 37), none⟩])
 (.cond (.tmp 38)
  (.seq (.region [
  ⟨some 8, .mov (.const (.bool false)), none⟩])
  .ret)
  .skip)))
 (.seq (.region [
 ⟨some 39, .mov (.tmp 0), none⟩,
 ⟨some 40, .call 52 [(.tmp 39)], none⟩,
 ⟨some 41, .mov (.tmp 2), none⟩,
 ⟨some 42, .ixs 1 (.tmp 40) (.tmp 41), none⟩,
 ⟨some 43, .ld (.tmp 42), none⟩,
 ⟨some 44, .mov (.tmp 3), none⟩,
 ⟨some 45, .ixs 1 (.tmp 43) (.tmp 44), none⟩,
 ⟨some 46, .ld (.tmp 45), none⟩,
 ⟨some 8, .mov (.tmp 46), none⟩])
 .ret))),
 [.tmp 8]⟩
theorem low_ref24_Before : lowFn Tryd.prog movers 54 = some ⟨ir_ref24_Before.n, strip ir_ref24_Before.body, ir_ref24_Before.res⟩ := by kernel_rfl

/-- strongtx/strongtxref24.begin -/
def ir_ref24_begin : IFn := ⟨24,
 (.seq (.region [
 ⟨some 4, .mov (.const (.int .i64 0)), none⟩])
 (.seq (.seq (.region [
 ⟨some 6, .mov (.tmp 1), none⟩,
 ⟨some 7, .bin .sub (.tmp 6) (.const (.int .i64 1)), none⟩,
 ⟨some 5, .mov (.tmp 7), none⟩])
 (.block 0
  (.loop 16777008
   (.seq (.seq (.region [
   ⟨some 8, .mov (.tmp 5), none⟩,
   ⟨some 9, .bin .geq (.tmp 8) (.const (.int .i64 0)), none⟩])
   (.cond (.tmp 9)
    .skip
    (.exit 0)))
   (.seq (.block 1
    (.seq (.draw (.f ⟨some 12, .mov (.tmp 0), none⟩
    (.f ⟨some 13, .mov (.tmp 5), none⟩
    (.f ⟨some 14, .ixs 6 (.tmp 12) (.tmp 13), none⟩
    (.f ⟨some 15, .fad 1 (.tmp 14), none⟩
    (.f ⟨some 16, .ld (.tmp 15), none⟩
    (.f ⟨some 17, .mov (.tmp 0), none⟩
    (.f ⟨some 18, .mov (.tmp 1), none⟩
    (.f ⟨some 19, .ixs 6 (.tmp 17) (.tmp 18), none⟩
    (.f ⟨some 20, .fad 1 (.tmp 19), none⟩
    (.f ⟨some 21, .ld (.tmp 20), none⟩
    (.f ⟨some 22, .bin .eql (.tmp 16) (.tmp 21), none⟩
    .done))))))))))))
    (.cond (.tmp 22)
     (.seq (.region [
     ⟨some 23, .mov (.tmp 5), none⟩,
     ⟨some 4, .mov (.tmp 23), none⟩])
     .ret)
     .skip)))
   (.region [
   ⟨some 10, .mov (.tmp 5), none⟩,
   ⟨some 11, .bin .sub (.tmp 10) (.const (.int .i64 1)), none⟩,
   ⟨some 5, .mov (.tmp 11), none⟩]))))))
 (.seq (.region [
 ⟨some 4, .mov (.const (.int .i64 (-1))), none⟩])
 .ret))),
 [.tmp 4]⟩
theorem low_ref24_begin : lowFn Tryd.prog movers 58 = some ⟨ir_ref24_begin.n, strip ir_ref24_begin.body, ir_ref24_begin.res⟩ := by kernel_rfl

/-- strongtx/strongtxref24.conflict -/
def ir_ref24_conflict : IFn := ⟨60,
 (.seq (.region [
 ⟨some 3, .box 42 (.tmp 0), none⟩,
 ⟨some 4, .box 42 (.tmp 1), none⟩,
 ⟨some 6, .mov (.const (.bool false)), none⟩])
 (.seq (.seq (.region [
 ⟨some 7, .fad 1 (.tmp 3), none⟩,
 ⟨some 8, .ld (.tmp 7), none⟩,
 ⟨some 9, .fad 1 (.tmp 4), none⟩,
 ⟨some 10, .ld (.tmp 9), none⟩,
 ⟨some 11, .bin .eql (.tmp 8) (.tmp 10), none⟩])
 (.cond (.tmp 11)
  (.seq (.region [
  ⟨some 6, .mov (.const (.bool false)), none⟩])
  .ret)
  .skip))
 (.seq (.seq (.region [
 ⟨some 12, .fad 2 (.tmp 3), none⟩,
 ⟨some 13, .ld (.tmp 12), none⟩,
 ⟨some 14, .bin .eql (.tmp 13) (.const (.int .i64 4)), none⟩])
 (.cond (.tmp 14)
  (.region [
  ⟨some 15, .ldN 6 (.tmp 4), none⟩,
  ⟨some 16, .ldN 6 (.tmp 3), none⟩,
  ⟨none, .stN 6 (.tmp 3) (.tmp 15), none⟩,
  ⟨none, .stN 6 (.tmp 4) (.tmp 16), none⟩])
  .skip))
 (.seq (.block 0
  (.seq (.region [
  ⟨some 18, .fad 2 (.tmp 3), none⟩,
  ⟨some 19, .ld (.tmp 18), none⟩,
  ⟨some 20, .bin .eql (.tmp 19) (.const (.int .i64 4)), none⟩,
  ⟨some 21, .mov (.tmp 20), none⟩,
  ⟨some 22, .fad 3 (.tmp 3), some (21, false)⟩,
  ⟨some 23, .ld (.tmp 22), some (21, false)⟩,
  ⟨some 24, .mov (.tmp 2), some (21, false)⟩,
  ⟨some 25, .bin .neq (.tmp 23) (.tmp 24), some (21, false)⟩,
  ⟨some 26, .pick (.tmp 21) (.const (.bool true)) (.tmp 25), none⟩,
  ⟨some 17, .mov (.tmp 26), none⟩])
  (.cond (.tmp 17)
   (.seq (.region [
   ⟨some 6, .mov (.const (.bool false)), none⟩])
   .ret)
   (.seq (.region [
   ⟨some 28, .fad 2 (.tmp 4), none⟩,
   ⟨some 29, .ld (.tmp 28), none⟩,
   ⟨some 30, .bin .neq (.tmp 29) (.const (.int .i64 4)), none⟩,
   ⟨some 27, .mov (.tmp 30), none⟩])
   (.cond (.tmp 27)
    (.seq (.region [
    ⟨some 31, .fad 3 (.tmp 4), none⟩,
    ⟨some 32, .ld (.tmp 31), none⟩,
    ⟨some 33, .mov (.tmp 2), none⟩,
    ⟨some 34, .bin .eql (.tmp 32) (.tmp 33), none⟩,
    ⟨some 35, .mov (.tmp 34), none⟩,
    ⟨some 36, .fad 2 (.tmp 3), some (35, true)⟩,
    ⟨some 37, .ld (.tmp 36), some (35, true)⟩,
    ⟨some 38, .bin .eql (.tmp 37) (.const (.int .i64 2)), some (35, true)⟩,
    ⟨some 39, .mov (.tmp 38), some (35, true)⟩,
    ⟨some 40, .fad 2 (.tmp 4), some (39, false)⟩,
    ⟨some 41, .ld (.tmp 40), some (39, false)⟩,
    ⟨some 42, .bin .eql (.tmp 41) (.const (.int .i64 2)), some (39, false)⟩,
    ⟨some 43, .pick (.tmp 39) (.const (.bool true)) (.tmp 42), some (35, true)⟩,
    ⟨some 44, .pick (.tmp 35) (.tmp 43) (.const (.bool false)), none⟩,
    ⟨some 6, .mov (.tmp 44), none⟩])
    .ret)
    .skip)))))
 (.seq (.region [
 ⟨some 45, .fad 5 (.tmp 4), none⟩,
 ⟨some 46, .ld (.tmp 45), none⟩,
 ⟨some 47, .mov (.tmp 2), none⟩,
 ⟨some 48, .call 57 [(.tmp 46), (.tmp 47)], none⟩,
 ⟨some 49, .mov (.tmp 48), none⟩,
 ⟨some 50, .fad 2 (.tmp 3), some (49, false)⟩,
 ⟨some 51, .ld (.tmp 50), some (49, false)⟩,
 ⟨some 52, .bin .eql (.tmp 51) (.const (.int .i64 2)), some (49, false)⟩,
 ⟨some 53, .mov (.tmp 52), some (49, false)⟩,
 ⟨some 54, .fad 4 (.tmp 4), some (53, true)⟩,
 ⟨some 55, .ld (.tmp 54), some (53, true)⟩,
 ⟨some 56, .mov (.tmp 2), some (53, true)⟩,
 ⟨some 57, .call 57 [(.tmp 55), (.tmp 56)], some (53, true)⟩,
 ⟨some 58, .pick (.tmp 53) (.tmp 57) (.const (.bool false)), some (49, false)⟩,
 ⟨some 59, .pick (.tmp 49) (.const (.bool true)) (.tmp 58), none⟩,
 ⟨some 6, .mov (.tmp 59), none⟩])
 .ret))))),
 [.tmp 6]⟩
theorem low_ref24_conflict : lowFn Tryd.prog movers 59 = some ⟨ir_ref24_conflict.n, strip ir_ref24_conflict.body, ir_ref24_conflict.res⟩ := by kernel_rfl

/-- strongtx/strongtxref24.words -/
def ir_ref24_words : IFn := ⟨22,
 (.seq (.region [
 ⟨some 2, .mov (.const (.bool false)), none⟩])
 (.seq (.seq (.region [
 ⟨some 3, .mov (.const (.int .i64 0)), none⟩])
 (.block 0
  (.loop 4194300
   (.seq (.seq (.region [
   ⟨some 4, .mov (.tmp 3), none⟩,
   ⟨some 5, .mov (.tmp 0), none⟩,
   ⟨some 6, .len (.tmp 5), none⟩,
   ⟨some 7, .bin .lss (.tmp 4) (.tmp 6), none⟩])
   (.cond (.tmp 7)
    .skip
    (.exit 0)))
   (.seq (.block 1
    (.seq (.region [
    ⟨some 10, .mov (.tmp 0), none⟩,
    ⟨some 11, .mov (.tmp 3), none⟩,
    ⟨some 12, .ixs 1 (.tmp 10) (.tmp 11), none⟩,
    ⟨some 13, .ld (.tmp 12), none⟩,
    ⟨some 14, .bin .lss (.tmp 13) (.const (.int .i64 0)), none⟩,
    ⟨some 15, .mov (.tmp 14), none⟩,
    ⟨some 16, .mov (.tmp 0), some (15, false)⟩,
    ⟨some 17, .mov (.tmp 3), some (15, false)⟩,
    ⟨some 18, .ixs 1 (.tmp 16) (.tmp 17), some (15, false)⟩,
    ⟨some 19, .ld (.tmp 18), some (15, false)⟩,
    ⟨some 20, .bin .geq (.tmp 19) (.const (.int .i64 64)), some (15, false)⟩,
    ⟨some 21, .pick (.tmp 15) (.const (.bool true)) (.tmp 20), none⟩])
    (.cond (.tmp 21)
     (.seq (.region [
     ⟨some 2, .mov (.const (.bool false)), none⟩])
     .ret)
     .skip)))
   (.region [
   ⟨some 8, .mov (.tmp 3), none⟩,
   ⟨some 9, .bin .add (.tmp 8) (.const (.int .i64 1)), none⟩,
   ⟨some 3, .mov (.tmp 9), none⟩]))))))
 (.seq (.region [
 ⟨some 2, .mov (.const (.bool true)), none⟩])
 .ret))),
 [.tmp 2]⟩
theorem low_ref24_words : lowFn Tryd.prog movers 60 = some ⟨ir_ref24_words.n, strip ir_ref24_words.body, ir_ref24_words.res⟩ := by kernel_rfl

/-- strongtx/strongtxref24.counts -/
def ir_ref24_counts : IFn := ⟨35,
 (.seq (.region [
 ⟨some 2, .mov (.const (.slice none 0 0)), none⟩])
 (.seq (.region [
 ⟨some 5, .mov (.tmp 0), none⟩,
 ⟨some 6, .len (.tmp 5), none⟩,
 ⟨some 7, .mk 4 1 1 [(.bool false)] (.tmp 6) (.tmp 6), none⟩,
 ⟨some 3, .mov (.tmp 7), none⟩])
 (.seq (.seq (.region [
 ⟨some 4, .mov (.const (.int .i64 0)), none⟩])
 (.block 0
  (.loop 17179868944
   (.seq (.seq (.region [
   ⟨some 8, .mov (.tmp 4), none⟩,
   ⟨some 9, .mov (.tmp 0), none⟩,
   ⟨some 10, .len (.tmp 9), none⟩,
   ⟨some 11, .bin .lss (.tmp 8) (.tmp 10), none⟩])
   (.cond (.tmp 11)
    .skip
    (.exit 0)))
   (.seq (.block 1
    (.seq (.region [
    ⟨some 14, .mov (.tmp 3), none⟩,
    ⟨some 15, .mov (.tmp 4), none⟩,
    ⟨some 16, .mov (.tmp 0), none⟩,
    ⟨some 17, .mov (.tmp 4), none⟩,
    ⟨some 18, .ixs 6 (.tmp 16) (.tmp 17), none⟩,
    ⟨some 19, .fad 2 (.tmp 18), none⟩,
    ⟨some 20, .ld (.tmp 19), none⟩,
    ⟨some 21, .bin .neq (.tmp 20) (.const (.int .i64 3)), none⟩,
    ⟨some 22, .ixs 1 (.tmp 14) (.tmp 15), none⟩,
    ⟨none, .st (.tmp 22) (.tmp 21), none⟩])
    (.seq (.region [
    ⟨some 23, .mov (.tmp 0), none⟩,
    ⟨some 24, .mov (.tmp 4), none⟩,
    ⟨some 25, .ixs 6 (.tmp 23) (.tmp 24), none⟩,
    ⟨some 26, .fad 2 (.tmp 25), none⟩,
    ⟨some 27, .ld (.tmp 26), none⟩,
    ⟨some 28, .bin .eql (.tmp 27) (.const (.int .i64 4)), none⟩])
    (.cond (.tmp 28)
     (.region [
     ⟨some 29, .mov (.tmp 3), none⟩,
     ⟨some 30, .mov (.tmp 0), none⟩,
     ⟨some 31, .mov (.tmp 4), none⟩,
     ⟨some 32, .call 58 [(.tmp 30), (.tmp 31)], none⟩,
     ⟨some 33, .ixs 1 (.tmp 29) (.tmp 32), none⟩,
     ⟨none, .st (.tmp 33) (.const (.bool true)), none⟩])
     .skip))))
   (.region [
   ⟨some 12, .mov (.tmp 4), none⟩,
   ⟨some 13, .bin .add (.tmp 12) (.const (.int .i64 1)), none⟩,
   ⟨some 4, .mov (.tmp 13), none⟩]))))))
 (.seq (.region [
 ⟨some 34, .mov (.tmp 3), none⟩,
 ⟨some 2, .mov (.tmp 34), none⟩])
 .ret)))),
 [.tmp 2]⟩
theorem low_ref24_counts : lowFn Tryd.prog movers 70 = some ⟨ir_ref24_counts.n, strip ir_ref24_counts.body, ir_ref24_counts.res⟩ := by kernel_rfl
end Go.Proofs.YtofjnldidkiihaaDoor
