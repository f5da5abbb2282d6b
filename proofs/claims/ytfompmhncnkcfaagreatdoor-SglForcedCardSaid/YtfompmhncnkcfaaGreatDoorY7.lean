/- What the laws share, part 7. No condition. -/
import Derived.Test.YtfompmhncnkcfaaGreatDoorRows
import Derived.Test.YtfompmhncnkcfaaGreatDoorY6
namespace Go.Proofs.YtfompmhncnkcfaaGreatDoor
open Go
set_option maxRecDepth 100000
theorem mixed : Tryz.prog.follows .mixedOrders = true := by kernel_rfl
def movers : List Nat := [9, 11, 12, 13, 14, 15, 17, 18, 19, 20, 29, 31, 32, 33, 34, 41, 42, 43, 44, 45, 46, 47, 48, 53, 57, 58, 59, 60, 61, 62, 63, 65, 66, 68, 69, 70, 71, 72, 82, 83, 84, 88, 90, 100, 101, 102, 117, 119]
end Go.Proofs.YtfompmhncnkcfaaGreatDoor
namespace Go.Proofs.YtfompmhncnkcfaaGreatDoor
open Go
set_option maxRecDepth 100000
def ir_alu_Apply : IFn := ⟨42,
 (.seq (.region [
 ⟨some 6, .mov (.const (.int .u64 0)), none⟩,
 ⟨some 7, .mov (.const (.int .i64 0)), none⟩])
 (.seq (.block 0
  (.seq (.region [
  ⟨some 9, .mov (.tmp 0), none⟩,
  ⟨some 10, .bin .lss (.tmp 9) (.const (.int .i64 0)), none⟩,
  ⟨some 11, .mov (.tmp 10), none⟩,
  ⟨some 12, .mov (.tmp 0), some (11, false)⟩,
  ⟨some 13, .bin .geq (.tmp 12) (.const (.int .i64 22)), some (11, false)⟩,
  ⟨some 14, .pick (.tmp 11) (.const (.bool true)) (.tmp 13), none⟩,
  ⟨some 8, .mov (.tmp 14), none⟩])
  (.cond (.tmp 8)
   (.seq (.region [
   ⟨some 6, .mov (.const (.int .u64 0)), none⟩,
   ⟨some 7, .mov (.const (.int .i64 10)), none⟩])
   .ret)
   (.seq (.region [
   ⟨some 16, .mov (.tmp 0), none⟩,
   ⟨some 17, .bin .eql (.tmp 16) (.const (.int .i64 20)), none⟩,
   ⟨some 15, .mov (.tmp 17), none⟩])
   (.cond (.tmp 15)
    (.seq (.region [
    ⟨some 18, .mov (.tmp 1), none⟩,
    ⟨some 19, .conv .i64 (.tmp 18), none⟩,
    ⟨some 20, .i2f (.tmp 19), none⟩,
    ⟨some 21, .fbits (.tmp 20), none⟩,
    ⟨some 6, .mov (.tmp 21), none⟩,
    ⟨some 7, .mov (.const (.int .i64 0)), none⟩])
    .ret)
    (.seq (.region [
    ⟨some 23, .mov (.tmp 0), none⟩,
    ⟨some 24, .bin .eql (.tmp 23) (.const (.int .i64 21)), none⟩,
    ⟨some 22, .mov (.tmp 24), none⟩])
    (.cond (.tmp 22)
     (.seq (.region [
     ⟨some 25, .mov (.tmp 1), none⟩,
     ⟨some 26, .ffrom (.tmp 25), none⟩,
     ⟨some 27, .call 104 [(.tmp 26)], none⟩,
     ⟨some 28, .conv .u64 (.tmp 27), none⟩,
     ⟨some 6, .mov (.tmp 28), none⟩,
     ⟨some 7, .mov (.const (.int .i64 0)), none⟩])
     .ret)
     (.seq (.region [
     ⟨some 30, .mov (.tmp 0), none⟩,
     ⟨some 31, .bin .geq (.tmp 30) (.const (.int .i64 12)), none⟩,
     ⟨some 29, .mov (.tmp 31), none⟩])
     (.cond (.tmp 29)
      (.seq (.region [
      ⟨some 32, .mov (.tmp 0), none⟩,
      ⟨some 33, .mov (.tmp 1), none⟩,
      ⟨some 34, .ffrom (.tmp 33), none⟩,
      ⟨some 35, .mov (.tmp 2), none⟩,
      ⟨some 36, .ffrom (.tmp 35), none⟩,
      ⟨some 37, .call 106 [(.tmp 32), (.tmp 34), (.tmp 36)], none⟩,
      ⟨some 6, .mov (.tmp 37), none⟩,
      ⟨some 7, .mov (.const (.int .i64 0)), none⟩])
      .ret)
      .skip)))))))))
 (.seq (.region [
 ⟨some 38, .mov (.tmp 0), none⟩,
 ⟨some 39, .mov (.tmp 1), none⟩,
 ⟨some 40, .mov (.tmp 2), none⟩,
 ⟨some 41, .call 107 [(.tmp 38), (.tmp 39), (.tmp 40)], none⟩,
 ⟨some 6, .mov (.tmp 41), none⟩,
 ⟨some 7, .mov (.const (.int .i64 0)), none⟩])
 .ret))),
 [.tmp 6, .tmp 7]⟩
theorem low_alu_Apply : lowFn Tryz.prog movers 89 = some ⟨ir_alu_Apply.n, strip ir_alu_Apply.body, ir_alu_Apply.res⟩ := by kernel_rfl
def ir_alu_toInt : IFn := ⟨14,
 (.seq (.region [
 ⟨some 2, .mov (.const (.int .i64 0)), none⟩])
 (.seq (.block 0
  (.seq (.region [
  ⟨some 4, .mov (.tmp 0), none⟩,
  ⟨some 5, .call 122 [(.tmp 4)], none⟩,
  ⟨some 3, .mov (.tmp 5), none⟩])
  (.cond (.tmp 3)
   (.seq (.region [
   ⟨some 2, .mov (.const (.int .i64 0)), none⟩])
   .ret)
   (.seq (.region [
   ⟨some 7, .mov (.tmp 0), none⟩,
   ⟨some 8, .fbin .geq (.tmp 7) (.const (.float .f64 4890909195324358656)), none⟩,
   ⟨some 6, .mov (.tmp 8), none⟩])
   (.cond (.tmp 6)
    (.seq (.region [
    ⟨some 2, .mov (.const (.int .i64 9223372036854775807)), none⟩])
    .ret)
    (.seq (.region [
    ⟨some 10, .mov (.tmp 0), none⟩,
    ⟨some 11, .fbin .lss (.tmp 10) (.const (.float .f64 14114281232179134464)), none⟩,
    ⟨some 9, .mov (.tmp 11), none⟩])
    (.cond (.tmp 9)
     (.seq (.region [
     ⟨some 2, .mov (.const (.int .i64 (-9223372036854775808))), none⟩])
     .ret)
     .skip)))))))
 (.seq (.region [
 ⟨some 12, .mov (.tmp 0), none⟩,
 ⟨some 13, .f2i .i64 (.tmp 12), none⟩,
 ⟨some 2, .mov (.tmp 13), none⟩])
 .ret))),
 [.tmp 2]⟩
theorem low_alu_toInt : lowFn Tryz.prog movers 104 = some ⟨ir_alu_toInt.n, strip ir_alu_toInt.body, ir_alu_toInt.res⟩ := by kernel_rfl
def ir_alu_floats : IFn := ⟨64,
 (.seq (.region [
 ⟨some 6, .mov (.const (.int .u64 0)), none⟩])
 (.seq (.region [
 ⟨some 8, .mov (.tmp 1), none⟩,
 ⟨some 9, .call 122 [(.tmp 8)], none⟩,
 ⟨some 10, .mov (.tmp 9), none⟩,
 ⟨some 11, .mov (.tmp 2), some (10, false)⟩,
 ⟨some 12, .call 122 [(.tmp 11)], some (10, false)⟩,
 ⟨some 13, .pick (.tmp 10) (.const (.bool true)) (.tmp 12), none⟩,
 ⟨some 7, .mov (.tmp 13), none⟩])
 (.seq (.seq (.region [
 ⟨some 14, .mov (.tmp 0), none⟩])
 (.block 0
  (.seq (.region [
  ⟨some 16, .bin .eql (.tmp 14) (.const (.int .i64 12)), none⟩,
  ⟨some 15, .mov (.tmp 16), none⟩])
  (.cond (.tmp 15)
   (.seq (.region [
   ⟨some 17, .mov (.tmp 1), none⟩,
   ⟨some 18, .mov (.tmp 2), none⟩,
   ⟨some 19, .flt .add (.tmp 17) (.tmp 18), none⟩,
   ⟨some 20, .call 123 [(.tmp 19)], none⟩,
   ⟨some 6, .mov (.tmp 20), none⟩])
   .ret)
   (.seq (.region [
   ⟨some 22, .bin .eql (.tmp 14) (.const (.int .i64 13)), none⟩,
   ⟨some 21, .mov (.tmp 22), none⟩])
   (.cond (.tmp 21)
    (.seq (.region [
    ⟨some 23, .mov (.tmp 1), none⟩,
    ⟨some 24, .mov (.tmp 2), none⟩,
    ⟨some 25, .flt .sub (.tmp 23) (.tmp 24), none⟩,
    ⟨some 26, .call 123 [(.tmp 25)], none⟩,
    ⟨some 6, .mov (.tmp 26), none⟩])
    .ret)
    (.seq (.region [
    ⟨some 28, .bin .eql (.tmp 14) (.const (.int .i64 14)), none⟩,
    ⟨some 27, .mov (.tmp 28), none⟩])
    (.cond (.tmp 27)
     (.seq (.region [
     ⟨some 29, .mov (.tmp 1), none⟩,
     ⟨some 30, .mov (.tmp 2), none⟩,
     ⟨some 31, .flt .mul (.tmp 29) (.tmp 30), none⟩,
     ⟨some 32, .call 123 [(.tmp 31)], none⟩,
     ⟨some 6, .mov (.tmp 32), none⟩])
     .ret)
     (.seq (.region [
     ⟨some 34, .bin .eql (.tmp 14) (.const (.int .i64 15)), none⟩,
     ⟨some 33, .mov (.tmp 34), none⟩])
     (.cond (.tmp 33)
      (.seq (.region [
      ⟨some 35, .mov (.tmp 1), none⟩,
      ⟨some 36, .mov (.tmp 2), none⟩,
      ⟨some 37, .flt .quo (.tmp 35) (.tmp 36), none⟩,
      ⟨some 38, .call 123 [(.tmp 37)], none⟩,
      ⟨some 6, .mov (.tmp 38), none⟩])
      .ret)
      (.seq (.region [
      ⟨some 40, .bin .eql (.tmp 14) (.const (.int .i64 18)), none⟩,
      ⟨some 39, .mov (.tmp 40), none⟩])
      (.cond (.tmp 39)
       (.seq (.region [
       ⟨some 41, .mov (.tmp 1), none⟩,
       ⟨some 42, .mov (.tmp 2), none⟩,
       ⟨some 43, .fbin .eql (.tmp 41) (.tmp 42), none⟩,
       ⟨some 44, .call 124 [(.tmp 43)], none⟩,
       ⟨some 6, .mov (.tmp 44), none⟩])
       .ret)
       (.seq (.region [
       ⟨some 46, .bin .eql (.tmp 14) (.const (.int .i64 19)), none⟩,
       ⟨some 45, .mov (.tmp 46), none⟩])
       (.cond (.tmp 45)
        (.seq (.region [
        ⟨some 47, .mov (.tmp 1), none⟩,
        ⟨some 48, .mov (.tmp 2), none⟩,
        ⟨some 49, .fbin .lss (.tmp 47) (.tmp 48), none⟩,
        ⟨some 50, .call 124 [(.tmp 49)], none⟩,
        ⟨some 6, .mov (.tmp 50), none⟩])
        .ret)
        .skip))))))))))))))
 (.seq (.block 1
  (.seq (.region [
  ⟨some 52, .mov (.tmp 7), none⟩,
  ⟨some 51, .mov (.tmp 52), none⟩])
  (.cond (.tmp 51)
   (.seq (.region [
   ⟨some 6, .mov (.const (.int .u64 9221120237041090560)), none⟩])
   .ret)
   (.seq (.region [
   ⟨some 54, .mov (.tmp 0), none⟩,
   ⟨some 55, .bin .eql (.tmp 54) (.const (.int .i64 16)), none⟩,
   ⟨some 53, .mov (.tmp 55), none⟩])
   (.cond (.tmp 53)
    (.seq (.region [
    ⟨some 56, .mov (.tmp 1), none⟩,
    ⟨some 57, .mov (.tmp 2), none⟩,
    ⟨some 58, .call 125 [(.tmp 56), (.tmp 57)], none⟩,
    ⟨some 59, .call 123 [(.tmp 58)], none⟩,
    ⟨some 6, .mov (.tmp 59), none⟩])
    .ret)
    .skip)))))
 (.seq (.region [
 ⟨some 60, .mov (.tmp 1), none⟩,
 ⟨some 61, .mov (.tmp 2), none⟩,
 ⟨some 62, .call 126 [(.tmp 60), (.tmp 61)], none⟩,
 ⟨some 63, .call 123 [(.tmp 62)], none⟩,
 ⟨some 6, .mov (.tmp 63), none⟩])
 .ret))))),
 [.tmp 6]⟩
theorem low_alu_floats : lowFn Tryz.prog movers 106 = some ⟨ir_alu_floats.n, strip ir_alu_floats.body, ir_alu_floats.res⟩ := by kernel_rfl
def ir_alu_integers : IFn := ⟨74,
 (.seq (.region [
 ⟨some 6, .mov (.const (.int .u64 0)), none⟩])
 (.seq (.seq (.region [
 ⟨some 7, .mov (.tmp 0), none⟩])
 (.block 0
  (.seq (.region [
  ⟨some 9, .bin .eql (.tmp 7) (.const (.int .i64 0)), none⟩,
  ⟨some 8, .mov (.tmp 9), none⟩])
  (.cond (.tmp 8)
   (.seq (.region [
   ⟨some 10, .mov (.tmp 1), none⟩,
   ⟨some 11, .mov (.tmp 2), none⟩,
   ⟨some 12, .bin .add (.tmp 10) (.tmp 11), none⟩,
   ⟨some 6, .mov (.tmp 12), none⟩])
   .ret)
   (.seq (.region [
   ⟨some 14, .bin .eql (.tmp 7) (.const (.int .i64 1)), none⟩,
   ⟨some 13, .mov (.tmp 14), none⟩])
   (.cond (.tmp 13)
    (.seq (.region [
    ⟨some 15, .mov (.tmp 1), none⟩,
    ⟨some 16, .mov (.tmp 2), none⟩,
    ⟨some 17, .bin .sub (.tmp 15) (.tmp 16), none⟩,
    ⟨some 6, .mov (.tmp 17), none⟩])
    .ret)
    (.seq (.region [
    ⟨some 19, .bin .eql (.tmp 7) (.const (.int .i64 2)), none⟩,
    ⟨some 18, .mov (.tmp 19), none⟩])
    (.cond (.tmp 18)
     (.seq (.region [
     ⟨some 20, .mov (.tmp 1), none⟩,
     ⟨some 21, .mov (.tmp 2), none⟩,
     ⟨some 22, .bin .mul (.tmp 20) (.tmp 21), none⟩,
     ⟨some 6, .mov (.tmp 22), none⟩])
     .ret)
     (.seq (.region [
     ⟨some 24, .bin .eql (.tmp 7) (.const (.int .i64 3)), none⟩,
     ⟨some 23, .mov (.tmp 24), none⟩])
     (.cond (.tmp 23)
      (.seq (.region [
      ⟨some 25, .mov (.tmp 1), none⟩,
      ⟨some 26, .mov (.tmp 2), none⟩,
      ⟨some 27, .bin .and (.tmp 25) (.tmp 26), none⟩,
      ⟨some 6, .mov (.tmp 27), none⟩])
      .ret)
      (.seq (.region [
      ⟨some 29, .bin .eql (.tmp 7) (.const (.int .i64 4)), none⟩,
      ⟨some 28, .mov (.tmp 29), none⟩])
      (.cond (.tmp 28)
       (.seq (.region [
       ⟨some 30, .mov (.tmp 1), none⟩,
       ⟨some 31, .mov (.tmp 2), none⟩,
       ⟨some 32, .bin .or (.tmp 30) (.tmp 31), none⟩,
       ⟨some 6, .mov (.tmp 32), none⟩])
       .ret)
       (.seq (.region [
       ⟨some 34, .bin .eql (.tmp 7) (.const (.int .i64 5)), none⟩,
       ⟨some 33, .mov (.tmp 34), none⟩])
       (.cond (.tmp 33)
        (.seq (.region [
        ⟨some 35, .mov (.tmp 1), none⟩,
        ⟨some 36, .mov (.tmp 2), none⟩,
        ⟨some 37, .bin .xor (.tmp 35) (.tmp 36), none⟩,
        ⟨some 6, .mov (.tmp 37), none⟩])
        .ret)
        (.seq (.region [
        ⟨some 39, .bin .eql (.tmp 7) (.const (.int .i64 6)), none⟩,
        ⟨some 38, .mov (.tmp 39), none⟩])
        (.cond (.tmp 38)
         (.seq (.region [
         ⟨some 40, .mov (.tmp 1), none⟩,
         ⟨some 41, .mov (.tmp 2), none⟩,
         ⟨some 42, .bin .rem (.tmp 41) (.const (.int .u64 64)), none⟩,
         ⟨some 43, .bin .shl (.tmp 40) (.tmp 42), none⟩,
         ⟨some 6, .mov (.tmp 43), none⟩])
         .ret)
         (.seq (.region [
         ⟨some 45, .bin .eql (.tmp 7) (.const (.int .i64 7)), none⟩,
         ⟨some 44, .mov (.tmp 45), none⟩])
         (.cond (.tmp 44)
          (.seq (.region [
          ⟨some 46, .mov (.tmp 1), none⟩,
          ⟨some 47, .mov (.tmp 2), none⟩,
          ⟨some 48, .bin .rem (.tmp 47) (.const (.int .u64 64)), none⟩,
          ⟨some 49, .bin .shr (.tmp 46) (.tmp 48), none⟩,
          ⟨some 6, .mov (.tmp 49), none⟩])
          .ret)
          (.seq (.region [
          ⟨some 51, .bin .eql (.tmp 7) (.const (.int .i64 8)), none⟩,
          ⟨some 50, .mov (.tmp 51), none⟩])
          (.cond (.tmp 50)
           (.seq (.region [
           ⟨some 52, .mov (.tmp 1), none⟩,
           ⟨some 53, .mov (.tmp 2), none⟩,
           ⟨some 54, .bin .eql (.tmp 52) (.tmp 53), none⟩,
           ⟨some 55, .call 124 [(.tmp 54)], none⟩,
           ⟨some 6, .mov (.tmp 55), none⟩])
           .ret)
           (.seq (.region [
           ⟨some 57, .bin .eql (.tmp 7) (.const (.int .i64 9)), none⟩,
           ⟨some 56, .mov (.tmp 57), none⟩])
           (.cond (.tmp 56)
            (.seq (.region [
            ⟨some 58, .mov (.tmp 1), none⟩,
            ⟨some 59, .mov (.tmp 2), none⟩,
            ⟨some 60, .bin .neq (.tmp 58) (.tmp 59), none⟩,
            ⟨some 61, .call 124 [(.tmp 60)], none⟩,
            ⟨some 6, .mov (.tmp 61), none⟩])
            .ret)
            (.seq (.region [
            ⟨some 63, .bin .eql (.tmp 7) (.const (.int .i64 10)), none⟩,
            ⟨some 62, .mov (.tmp 63), none⟩])
            (.cond (.tmp 62)
             (.seq (.region [
             ⟨some 64, .mov (.tmp 1), none⟩,
             ⟨some 65, .conv .i64 (.tmp 64), none⟩,
             ⟨some 66, .mov (.tmp 2), none⟩,
             ⟨some 67, .conv .i64 (.tmp 66), none⟩,
             ⟨some 68, .bin .lss (.tmp 65) (.tmp 67), none⟩,
             ⟨some 69, .call 124 [(.tmp 68)], none⟩,
             ⟨some 6, .mov (.tmp 69), none⟩])
             .ret)
             .skip))))))))))))))))))))))))
 (.seq (.region [
 ⟨some 70, .mov (.tmp 1), none⟩,
 ⟨some 71, .mov (.tmp 2), none⟩,
 ⟨some 72, .bin .lss (.tmp 70) (.tmp 71), none⟩,
 ⟨some 73, .call 124 [(.tmp 72)], none⟩,
 ⟨some 6, .mov (.tmp 73), none⟩])
 .ret))),
 [.tmp 6]⟩
theorem low_alu_integers : lowFn Tryz.prog movers 107 = some ⟨ir_alu_integers.n, strip ir_alu_integers.body, ir_alu_integers.res⟩ := by kernel_rfl
def ir_alu_plain : IFn := ⟨7,
 (.seq (.region [
 ⟨some 2, .mov (.const (.int .u64 0)), none⟩])
 (.seq (.seq (.region [
 ⟨some 3, .mov (.tmp 0), none⟩,
 ⟨some 4, .call 122 [(.tmp 3)], none⟩])
 (.cond (.tmp 4)
  (.seq (.region [
  ⟨some 2, .mov (.const (.int .u64 9221120237041090560)), none⟩])
  .ret)
  .skip))
 (.seq (.region [
 ⟨some 5, .mov (.tmp 0), none⟩,
 ⟨some 6, .fbits (.tmp 5), none⟩,
 ⟨some 2, .mov (.tmp 6), none⟩])
 .ret))),
 [.tmp 2]⟩
theorem low_alu_plain : lowFn Tryz.prog movers 123 = some ⟨ir_alu_plain.n, strip ir_alu_plain.body, ir_alu_plain.res⟩ := by kernel_rfl
def ir_alu_truth : IFn := ⟨4,
 (.seq (.region [
 ⟨some 2, .mov (.const (.int .u64 0)), none⟩])
 (.seq (.seq (.region [
 ⟨some 3, .mov (.tmp 0), none⟩])
 (.cond (.tmp 3)
  (.seq (.region [
  ⟨some 2, .mov (.const (.int .u64 1)), none⟩])
  .ret)
  .skip))
 (.seq (.region [
 ⟨some 2, .mov (.const (.int .u64 0)), none⟩])
 .ret))),
 [.tmp 2]⟩
theorem low_alu_truth : lowFn Tryz.prog movers 124 = some ⟨ir_alu_truth.n, strip ir_alu_truth.body, ir_alu_truth.res⟩ := by kernel_rfl
end Go.Proofs.YtfompmhncnkcfaaGreatDoor
namespace Go.Proofs.YtfompmhncnkcfaaGreatDoor
open Go
set_option maxRecDepth 100000
def ir_ref02_number : IFn := ⟨9,
 (.seq (.region [
 ⟨some 2, .mov (.const (.int .u64 0)), none⟩])
 (.seq (.region [
 ⟨some 4, .mov (.tmp 0), none⟩,
 ⟨some 5, .fbits (.tmp 4), none⟩,
 ⟨some 3, .mov (.tmp 5), none⟩])
 (.seq (.seq (.region [
 ⟨some 6, .mov (.tmp 3), none⟩,
 ⟨some 7, .call 110 [(.tmp 6)], none⟩])
 (.cond (.tmp 7)
  (.seq (.region [
  ⟨some 2, .mov (.const (.int .u64 9221120237041090560)), none⟩])
  .ret)
  .skip))
 (.seq (.region [
 ⟨some 8, .mov (.tmp 3), none⟩,
 ⟨some 2, .mov (.tmp 8), none⟩])
 .ret)))),
 [.tmp 2]⟩
theorem low_ref02_number : lowFn Tryz.prog movers 109 = some ⟨ir_ref02_number.n, strip ir_ref02_number.body, ir_ref02_number.res⟩ := by kernel_rfl
def ir_ref02_nan : IFn := ⟨12,
 (.seq (.region [
 ⟨some 2, .mov (.const (.bool false)), none⟩])
 (.seq (.region [
 ⟨some 3, .mov (.tmp 0), none⟩,
 ⟨some 4, .bin .shr (.tmp 3) (.const (.int .u64 52)), none⟩,
 ⟨some 5, .bin .and (.tmp 4) (.const (.int .u64 2047)), none⟩,
 ⟨some 6, .bin .eql (.tmp 5) (.const (.int .u64 2047)), none⟩,
 ⟨some 7, .mov (.tmp 6), none⟩,
 ⟨some 8, .mov (.tmp 0), some (7, true)⟩,
 ⟨some 9, .bin .and (.tmp 8) (.const (.int .u64 4503599627370495)), some (7, true)⟩,
 ⟨some 10, .bin .neq (.tmp 9) (.const (.int .u64 0)), some (7, true)⟩,
 ⟨some 11, .pick (.tmp 7) (.tmp 10) (.const (.bool false)), none⟩,
 ⟨some 2, .mov (.tmp 11), none⟩])
 .ret)),
 [.tmp 2]⟩
theorem low_ref02_nan : lowFn Tryz.prog movers 110 = some ⟨ir_ref02_nan.n, strip ir_ref02_nan.body, ir_ref02_nan.res⟩ := by kernel_rfl
end Go.Proofs.YtfompmhncnkcfaaGreatDoor
namespace Go.Proofs.YtfompmhncnkcfaaGreatDoor
open Go
set_option maxRecDepth 100000
def ir_math_IsNaN : IFn := ⟨6,
 (.seq (.region [
 ⟨some 2, .mov (.const (.bool false)), none⟩])
 (.seq (.region [
 ⟨some 3, .mov (.tmp 0), none⟩,
 ⟨some 4, .mov (.tmp 0), none⟩,
 ⟨some 5, .fbin .neq (.tmp 3) (.tmp 4), none⟩,
 ⟨some 2, .mov (.tmp 5), none⟩])
 .ret)),
 [.tmp 2]⟩
theorem low_math_IsNaN : lowFn Tryz.prog movers 122 = some ⟨ir_math_IsNaN.n, strip ir_math_IsNaN.body, ir_math_IsNaN.res⟩ := by kernel_rfl
def ir_math_Min : IFn := ⟨11,
 (.seq (.region [
 ⟨some 4, .mov (.const (.float .f64 0)), none⟩])
 (.seq (.cond (.const (.bool true))
  (.seq (.region [
  ⟨some 5, .mov (.tmp 0), none⟩,
  ⟨some 6, .mov (.tmp 1), none⟩,
  ⟨some 7, .fpk true (.tmp 5) (.tmp 6), none⟩,
  ⟨some 4, .mov (.tmp 7), none⟩])
  .ret)
  .skip)
 (.seq (.region [
 ⟨some 8, .mov (.tmp 0), none⟩,
 ⟨some 9, .mov (.tmp 1), none⟩,
 ⟨some 10, .call 133 [(.tmp 8), (.tmp 9)], none⟩,
 ⟨some 4, .mov (.tmp 10), none⟩])
 .ret))),
 [.tmp 4]⟩
theorem low_math_Min : lowFn Tryz.prog movers 125 = some ⟨ir_math_Min.n, strip ir_math_Min.body, ir_math_Min.res⟩ := by kernel_rfl
def ir_math_Max : IFn := ⟨11,
 (.seq (.region [
 ⟨some 4, .mov (.const (.float .f64 0)), none⟩])
 (.seq (.cond (.const (.bool true))
  (.seq (.region [
  ⟨some 5, .mov (.tmp 0), none⟩,
  ⟨some 6, .mov (.tmp 1), none⟩,
  ⟨some 7, .fpk false (.tmp 5) (.tmp 6), none⟩,
  ⟨some 4, .mov (.tmp 7), none⟩])
  .ret)
  .skip)
 (.seq (.region [
 ⟨some 8, .mov (.tmp 0), none⟩,
 ⟨some 9, .mov (.tmp 1), none⟩,
 ⟨some 10, .call 135 [(.tmp 8), (.tmp 9)], none⟩,
 ⟨some 4, .mov (.tmp 10), none⟩])
 .ret))),
 [.tmp 4]⟩
theorem low_math_Max : lowFn Tryz.prog movers 126 = some ⟨ir_math_Max.n, strip ir_math_Max.body, ir_math_Max.res⟩ := by kernel_rfl
end Go.Proofs.YtfompmhncnkcfaaGreatDoor
namespace Go.Proofs.YtfompmhncnkcfaaGreatDoor
open Go
set_option maxRecDepth 100000
def ir_isa_Check : IFn := ⟨56,
 (.seq (.region [
 ⟨some 1, .box 69 (.tmp 0), none⟩,
 ⟨some 2, .mov (.const (.int .i64 0)), none⟩])
 (.seq (.seq (.region [
 ⟨some 6, .fad 0 (.tmp 1), none⟩,
 ⟨some 7, .ld (.tmp 6), none⟩,
 ⟨some 8, .bin .lss (.tmp 7) (.const (.int .i64 0)), none⟩,
 ⟨some 9, .mov (.tmp 8), none⟩,
 ⟨some 10, .fad 0 (.tmp 1), some (9, false)⟩,
 ⟨some 11, .ld (.tmp 10), some (9, false)⟩,
 ⟨some 12, .bin .geq (.tmp 11) (.const (.int .i64 18)), some (9, false)⟩,
 ⟨some 13, .pick (.tmp 9) (.const (.bool true)) (.tmp 12), none⟩])
 (.cond (.tmp 13)
  (.seq (.region [
  ⟨some 2, .mov (.const (.int .i64 10)), none⟩])
  .ret)
  .skip))
 (.seq (.seq (.region [
 ⟨some 14, .fad 1 (.tmp 1), none⟩,
 ⟨some 15, .ld (.tmp 14), none⟩,
 ⟨some 16, .fad 2 (.tmp 1), none⟩,
 ⟨some 17, .ld (.tmp 16), none⟩,
 ⟨some 18, .fad 3 (.tmp 1), none⟩,
 ⟨some 19, .ld (.tmp 18), none⟩,
 ⟨some 20, .bld [(.int .i64 0), (.int .i64 0), (.int .i64 0)] [(0, 1, (.tmp 15)), (1, 1, (.tmp 17)), (2, 1, (.tmp 19))], none⟩,
 ⟨some 21, .mov (.const (.int .i64 0)), none⟩])
 (.block 0
  (.loop 9007199252643900
   (.seq (.region [
   ⟨some 22, .bin .lss (.tmp 21) (.const (.int .i64 3)), none⟩])
   (.seq (.cond (.tmp 22)
    .skip
    (.exit 0))
   (.seq (.block 1
    (.seq (.region [
    ⟨some 23, .mov (.tmp 21), none⟩,
    ⟨some 24, .idx 3 (.tmp 20) (.tmp 21), none⟩,
    ⟨some 3, .mov (.tmp 23), none⟩,
    ⟨some 4, .mov (.tmp 24), none⟩])
    (.seq (.draw (.f ⟨some 25, .fad 0 (.tmp 1), none⟩
    (.f ⟨some 26, .ld (.tmp 25), none⟩
    (.f ⟨some 27, .ixa 18 2 (.global 0) (.tmp 26), none⟩
    (.f ⟨some 28, .fad 1 (.tmp 27), none⟩
    (.f ⟨some 29, .ld (.tmp 28), none⟩
    (.f ⟨some 30, .mov (.tmp 3), none⟩
    (.f ⟨some 31, .mov (.tmp 3), none⟩
    (.f ⟨some 32, .bin .add (.tmp 31) (.const (.int .i64 1)), none⟩
    (.f ⟨some 33, .sslc (.const (.string ⟨#[65, 66, 67]⟩)) (some (.tmp 30)) (some (.tmp 32)), none⟩
    (.f ⟨some 34, .call 113 [(.tmp 29), (.tmp 33)], none⟩
    (.f ⟨some 5, .mov (.tmp 34), none⟩
    .done))))))))))))
    (.seq (.region [
    ⟨some 35, .mov (.tmp 5), none⟩,
    ⟨some 36, .mov (.tmp 35), none⟩,
    ⟨some 37, .mov (.tmp 4), some (36, true)⟩,
    ⟨some 38, .bin .lss (.tmp 37) (.const (.int .i64 0)), some (36, true)⟩,
    ⟨some 39, .mov (.tmp 38), some (36, true)⟩,
    ⟨some 40, .mov (.tmp 4), some (39, false)⟩,
    ⟨some 41, .bin .geq (.tmp 40) (.const (.int .i64 8)), some (39, false)⟩,
    ⟨some 42, .pick (.tmp 39) (.const (.bool true)) (.tmp 41), some (36, true)⟩,
    ⟨some 43, .pick (.tmp 36) (.tmp 42) (.const (.bool false)), none⟩,
    ⟨some 44, .mov (.tmp 43), none⟩,
    ⟨some 45, .mov (.tmp 5), some (44, false)⟩,
    ⟨some 46, .not (.tmp 45), some (44, false)⟩,
    ⟨some 47, .mov (.tmp 46), some (44, false)⟩,
    ⟨some 48, .mov (.tmp 4), some (47, true)⟩,
    ⟨some 49, .bin .neq (.tmp 48) (.const (.int .i64 0)), some (47, true)⟩,
    ⟨some 50, .pick (.tmp 47) (.tmp 49) (.const (.bool false)), some (44, false)⟩,
    ⟨some 51, .pick (.tmp 44) (.const (.bool true)) (.tmp 50), none⟩])
    (.cond (.tmp 51)
     (.seq (.region [
     ⟨some 2, .mov (.const (.int .i64 11)), none⟩])
     .ret)
     .skip)))))
   (.region [
   ⟨some 52, .bin .add (.tmp 21) (.const (.int .i64 1)), none⟩,
   ⟨some 21, .mov (.tmp 52), none⟩])))))))
 (.seq (.seq (.region [
 ⟨some 53, .ldN 5 (.tmp 1), none⟩,
 ⟨some 54, .call 114 [(.tmp 53)], none⟩,
 ⟨some 55, .not (.tmp 54), none⟩])
 (.cond (.tmp 55)
  (.seq (.region [
  ⟨some 2, .mov (.const (.int .i64 11)), none⟩])
  .ret)
  .skip))
 (.seq (.region [
 ⟨some 2, .mov (.const (.int .i64 0)), none⟩])
 .ret))))),
 [.tmp 2]⟩
theorem low_isa_Check : lowFn Tryz.prog movers 96 = some ⟨ir_isa_Check.n, strip ir_isa_Check.body, ir_isa_Check.res⟩ := by kernel_rfl
def ir_isa_Place : IFn := ⟨21,
 (.seq (.region [
 ⟨some 1, .box 69 (.tmp 0), none⟩,
 ⟨some 2, .mov (.const (.int .i64 0)), none⟩])
 (.seq (.seq (.region [
 ⟨some 3, .ldN 5 (.tmp 1), none⟩,
 ⟨some 4, .call 96 [(.tmp 3)], none⟩,
 ⟨some 5, .bin .eql (.tmp 4) (.const (.int .i64 0)), none⟩])
 (.cond (.tmp 5)
  (.seq (.region [
  ⟨some 6, .fad 0 (.tmp 1), none⟩,
  ⟨some 7, .ld (.tmp 6), none⟩])
  (.block 0
   (.seq (.seq (.region [
   ⟨some 9, .bin .eql (.tmp 7) (.const (.int .i64 8)), none⟩,
   ⟨some 8, .mov (.tmp 9), none⟩])
   (.cond (.tmp 8)
    .skip
    (.seq (.region [
    ⟨some 10, .bin .eql (.tmp 7) (.const (.int .i64 9)), none⟩,
    ⟨some 8, .mov (.tmp 10), none⟩])
    (.cond (.tmp 8)
     .skip
     (.seq (.region [
     ⟨some 11, .bin .eql (.tmp 7) (.const (.int .i64 10)), none⟩,
     ⟨some 8, .mov (.tmp 11), none⟩])
     (.cond (.tmp 8)
      .skip
      (.seq (.region [
      ⟨some 12, .bin .eql (.tmp 7) (.const (.int .i64 11)), none⟩,
      ⟨some 8, .mov (.tmp 12), none⟩])
      (.cond (.tmp 8)
       .skip
       (.seq (.region [
       ⟨some 13, .bin .eql (.tmp 7) (.const (.int .i64 14)), none⟩,
       ⟨some 8, .mov (.tmp 13), none⟩])
       (.cond (.tmp 8)
        .skip
        (.region [
        ⟨some 14, .bin .eql (.tmp 7) (.const (.int .i64 15)), none⟩,
        ⟨some 8, .mov (.tmp 14), none⟩])))))))))))
   (.cond (.tmp 8)
    (.seq (.region [
    ⟨some 2, .mov (.const (.int .i64 1)), none⟩])
    .ret)
    (.seq (.seq (.region [
    ⟨some 16, .bin .eql (.tmp 7) (.const (.int .i64 7)), none⟩,
    ⟨some 15, .mov (.tmp 16), none⟩])
    (.cond (.tmp 15)
     .skip
     (.seq (.region [
     ⟨some 17, .bin .eql (.tmp 7) (.const (.int .i64 12)), none⟩,
     ⟨some 15, .mov (.tmp 17), none⟩])
     (.cond (.tmp 15)
      .skip
      (.seq (.region [
      ⟨some 18, .bin .eql (.tmp 7) (.const (.int .i64 13)), none⟩,
      ⟨some 15, .mov (.tmp 18), none⟩])
      (.cond (.tmp 15)
       .skip
       (.seq (.region [
       ⟨some 19, .bin .eql (.tmp 7) (.const (.int .i64 16)), none⟩,
       ⟨some 15, .mov (.tmp 19), none⟩])
       (.cond (.tmp 15)
        .skip
        (.region [
        ⟨some 20, .bin .eql (.tmp 7) (.const (.int .i64 17)), none⟩,
        ⟨some 15, .mov (.tmp 20), none⟩])))))))))
    (.cond (.tmp 15)
     (.seq (.region [
     ⟨some 2, .mov (.const (.int .i64 2)), none⟩])
     .ret)
     .skip))))))
  .skip))
 (.seq (.region [
 ⟨some 2, .mov (.const (.int .i64 0)), none⟩])
 .ret))),
 [.tmp 2]⟩
theorem low_isa_Place : lowFn Tryz.prog movers 97 = some ⟨ir_isa_Place.n, strip ir_isa_Place.body, ir_isa_Place.res⟩ := by kernel_rfl
def ir_isa_number : IFn := ⟨56,
 (.seq (.region [
 ⟨some 1, .box 69 (.tmp 0), none⟩,
 ⟨some 2, .mov (.const (.bool false)), none⟩])
 (.seq (.seq (.region [
 ⟨some 3, .fad 0 (.tmp 1), none⟩,
 ⟨some 4, .ld (.tmp 3), none⟩])
 (.block 0
  (.seq (.seq (.region [
  ⟨some 6, .bin .eql (.tmp 4) (.const (.int .i64 1)), none⟩,
  ⟨some 5, .mov (.tmp 6), none⟩])
  (.cond (.tmp 5)
   .skip
   (.seq (.region [
   ⟨some 7, .bin .eql (.tmp 4) (.const (.int .i64 10)), none⟩,
   ⟨some 5, .mov (.tmp 7), none⟩])
   (.cond (.tmp 5)
    .skip
    (.seq (.region [
    ⟨some 8, .bin .eql (.tmp 4) (.const (.int .i64 11)), none⟩,
    ⟨some 5, .mov (.tmp 8), none⟩])
    (.cond (.tmp 5)
     .skip
     (.seq (.region [
     ⟨some 9, .bin .eql (.tmp 4) (.const (.int .i64 12)), none⟩,
     ⟨some 5, .mov (.tmp 9), none⟩])
     (.cond (.tmp 5)
      .skip
      (.region [
      ⟨some 10, .bin .eql (.tmp 4) (.const (.int .i64 13)), none⟩,
      ⟨some 5, .mov (.tmp 10), none⟩])))))))))
  (.cond (.tmp 5)
   (.seq (.region [
   ⟨some 2, .mov (.const (.bool true)), none⟩])
   .ret)
   (.seq (.region [
   ⟨some 12, .bin .eql (.tmp 4) (.const (.int .i64 3)), none⟩,
   ⟨some 11, .mov (.tmp 12), none⟩])
   (.cond (.tmp 11)
    (.seq (.region [
    ⟨some 13, .fad 4 (.tmp 1), none⟩,
    ⟨some 14, .ld (.tmp 13), none⟩,
    ⟨some 15, .bin .geq (.tmp 14) (.const (.int .i64 0)), none⟩,
    ⟨some 16, .mov (.tmp 15), none⟩,
    ⟨some 17, .fad 4 (.tmp 1), some (16, true)⟩,
    ⟨some 18, .ld (.tmp 17), some (16, true)⟩,
    ⟨some 19, .bin .lss (.tmp 18) (.const (.int .i64 22)), some (16, true)⟩,
    ⟨some 20, .pick (.tmp 16) (.tmp 19) (.const (.bool false)), none⟩,
    ⟨some 2, .mov (.tmp 20), none⟩])
    .ret)
    (.seq (.seq (.region [
    ⟨some 22, .bin .eql (.tmp 4) (.const (.int .i64 4)), none⟩,
    ⟨some 21, .mov (.tmp 22), none⟩])
    (.cond (.tmp 21)
     .skip
     (.seq (.region [
     ⟨some 23, .bin .eql (.tmp 4) (.const (.int .i64 5)), none⟩,
     ⟨some 21, .mov (.tmp 23), none⟩])
     (.cond (.tmp 21)
      .skip
      (.region [
      ⟨some 24, .bin .eql (.tmp 4) (.const (.int .i64 6)), none⟩,
      ⟨some 21, .mov (.tmp 24), none⟩])))))
    (.cond (.tmp 21)
     (.seq (.region [
     ⟨some 25, .fad 4 (.tmp 1), none⟩,
     ⟨some 26, .ld (.tmp 25), none⟩,
     ⟨some 27, .bin .geq (.tmp 26) (.const (.int .i64 0)), none⟩,
     ⟨some 28, .mov (.tmp 27), none⟩,
     ⟨some 29, .fad 4 (.tmp 1), some (28, true)⟩,
     ⟨some 30, .ld (.tmp 29), some (28, true)⟩,
     ⟨some 31, .bin .leq (.tmp 30) (.const (.int .i64 64)), some (28, true)⟩,
     ⟨some 32, .pick (.tmp 28) (.tmp 31) (.const (.bool false)), none⟩,
     ⟨some 2, .mov (.tmp 32), none⟩])
     .ret)
     (.seq (.region [
     ⟨some 34, .bin .eql (.tmp 4) (.const (.int .i64 7)), none⟩,
     ⟨some 33, .mov (.tmp 34), none⟩])
     (.cond (.tmp 33)
      (.seq (.region [
      ⟨some 35, .fad 4 (.tmp 1), none⟩,
      ⟨some 36, .ld (.tmp 35), none⟩,
      ⟨some 37, .bin .geq (.tmp 36) (.const (.int .i64 1)), none⟩,
      ⟨some 38, .mov (.tmp 37), none⟩,
      ⟨some 39, .fad 4 (.tmp 1), some (38, true)⟩,
      ⟨some 40, .ld (.tmp 39), some (38, true)⟩,
      ⟨some 41, .bin .leq (.tmp 40) (.const (.int .i64 8)), some (38, true)⟩,
      ⟨some 42, .pick (.tmp 38) (.tmp 41) (.const (.bool false)), none⟩,
      ⟨some 2, .mov (.tmp 42), none⟩])
      .ret)
      (.seq (.region [
      ⟨some 44, .bin .eql (.tmp 4) (.const (.int .i64 14)), none⟩,
      ⟨some 43, .mov (.tmp 44), none⟩])
      (.cond (.tmp 43)
       (.seq (.region [
       ⟨some 45, .fad 4 (.tmp 1), none⟩,
       ⟨some 46, .ld (.tmp 45), none⟩,
       ⟨some 47, .bin .geq (.tmp 46) (.const (.int .i64 0)), none⟩,
       ⟨some 48, .mov (.tmp 47), none⟩,
       ⟨some 49, .fad 4 (.tmp 1), some (48, true)⟩,
       ⟨some 50, .ld (.tmp 49), some (48, true)⟩,
       ⟨some 51, .bin .lss (.tmp 50) (.const (.int .i64 4)), some (48, true)⟩,
       ⟨some 52, .pick (.tmp 48) (.tmp 51) (.const (.bool false)), none⟩,
       ⟨some 2, .mov (.tmp 52), none⟩])
       .ret)
       .skip))))))))))))
 (.seq (.region [
 ⟨some 53, .fad 4 (.tmp 1), none⟩,
 ⟨some 54, .ld (.tmp 53), none⟩,
 ⟨some 55, .bin .eql (.tmp 54) (.const (.int .i64 0)), none⟩,
 ⟨some 2, .mov (.tmp 55), none⟩])
 .ret))),
 [.tmp 2]⟩
theorem low_isa_number : lowFn Tryz.prog movers 114 = some ⟨ir_isa_number.n, strip ir_isa_number.body, ir_isa_number.res⟩ := by kernel_rfl
def ir_isa_Skips : IFn := ⟨15,
 (.seq (.region [
 ⟨some 1, .box 69 (.tmp 0), none⟩,
 ⟨some 2, .mov (.const (.int .i64 0)), none⟩,
 ⟨some 3, .mov (.const (.bool false)), none⟩])
 (.seq (.seq (.region [
 ⟨some 4, .ldN 5 (.tmp 1), none⟩,
 ⟨some 5, .call 96 [(.tmp 4)], none⟩,
 ⟨some 6, .bin .eql (.tmp 5) (.const (.int .i64 0)), none⟩])
 (.cond (.tmp 6)
  (.seq (.region [
  ⟨some 7, .fad 0 (.tmp 1), none⟩,
  ⟨some 8, .ld (.tmp 7), none⟩])
  (.block 0
   (.seq (.seq (.region [
   ⟨some 10, .bin .eql (.tmp 8) (.const (.int .i64 4)), none⟩,
   ⟨some 9, .mov (.tmp 10), none⟩])
   (.cond (.tmp 9)
    .skip
    (.seq (.region [
    ⟨some 11, .bin .eql (.tmp 8) (.const (.int .i64 5)), none⟩,
    ⟨some 9, .mov (.tmp 11), none⟩])
    (.cond (.tmp 9)
     .skip
     (.region [
     ⟨some 12, .bin .eql (.tmp 8) (.const (.int .i64 6)), none⟩,
     ⟨some 9, .mov (.tmp 12), none⟩])))))
   (.cond (.tmp 9)
    (.seq (.region [
    ⟨some 13, .fad 4 (.tmp 1), none⟩,
    ⟨some 14, .ld (.tmp 13), none⟩,
    ⟨some 2, .mov (.tmp 14), none⟩,
    ⟨some 3, .mov (.const (.bool true)), none⟩])
    .ret)
    .skip))))
  .skip))
 (.seq (.region [
 ⟨some 2, .mov (.const (.int .i64 0)), none⟩,
 ⟨some 3, .mov (.const (.bool false)), none⟩])
 .ret))),
 [.tmp 2, .tmp 3]⟩
theorem low_isa_Skips : lowFn Tryz.prog movers 115 = some ⟨ir_isa_Skips.n, strip ir_isa_Skips.body, ir_isa_Skips.res⟩ := by kernel_rfl
end Go.Proofs.YtfompmhncnkcfaaGreatDoor
namespace Go.Proofs.YtfompmhncnkcfaaGreatDoor
open Go
set_option maxRecDepth 100000
def ir_ref03_Check : IFn := ⟨64,
 (.seq (.region [
 ⟨some 1, .box 69 (.tmp 0), none⟩,
 ⟨some 2, .mov (.const (.int .i64 0)), none⟩])
 (.seq (.seq (.region [
 ⟨some 6, .fad 0 (.tmp 1), none⟩,
 ⟨some 7, .ld (.tmp 6), none⟩,
 ⟨some 8, .bin .lss (.tmp 7) (.const (.int .i64 0)), none⟩,
 ⟨some 9, .mov (.tmp 8), none⟩,
 ⟨some 10, .fad 0 (.tmp 1), some (9, false)⟩,
 ⟨some 11, .ld (.tmp 10), some (9, false)⟩,
 ⟨some 12, .bin .geq (.tmp 11) (.const (.int .i64 18)), some (9, false)⟩,
 ⟨some 13, .pick (.tmp 9) (.const (.bool true)) (.tmp 12), none⟩])
 (.cond (.tmp 13)
  (.seq (.region [
  ⟨some 2, .mov (.const (.int .i64 10)), none⟩])
  .ret)
  .skip))
 (.seq (.region [
 ⟨some 14, .fad 0 (.tmp 1), none⟩,
 ⟨some 15, .ld (.tmp 14), none⟩,
 ⟨some 16, .call 93 [(.tmp 15)], none⟩,
 ⟨some 3, .mov (.tmp 16), none⟩])
 (.seq (.seq (.draw (.f ⟨some 17, .fad 1 (.tmp 1), none⟩
 (.f ⟨some 18, .ld (.tmp 17), none⟩
 (.f ⟨some 19, .mov (.tmp 3), none⟩
 (.f ⟨some 20, .call 95 [(.tmp 19), (.const (.int .u8 114))], none⟩
 (.f ⟨some 21, .call 94 [(.tmp 18), (.tmp 20)], none⟩
 (.f ⟨some 22, .not (.tmp 21), none⟩
 (.f ⟨some 23, .mov (.tmp 22), none⟩
 (.f ⟨some 24, .fad 2 (.tmp 1), some (23, false)⟩
 (.f ⟨some 25, .ld (.tmp 24), some (23, false)⟩
 (.f ⟨some 26, .mov (.tmp 3), some (23, false)⟩
 (.f ⟨some 27, .call 95 [(.tmp 26), (.const (.int .u8 115))], some (23, false)⟩
 (.f ⟨some 28, .call 94 [(.tmp 25), (.tmp 27)], some (23, false)⟩
 (.f ⟨some 29, .not (.tmp 28), some (23, false)⟩
 (.f ⟨some 30, .pick (.tmp 23) (.const (.bool true)) (.tmp 29), none⟩
 (.f ⟨some 31, .mov (.tmp 30), none⟩
 (.f ⟨some 32, .fad 3 (.tmp 1), some (31, false)⟩
 (.f ⟨some 33, .ld (.tmp 32), some (31, false)⟩
 (.f ⟨some 34, .mov (.tmp 3), some (31, false)⟩
 (.f ⟨some 35, .call 95 [(.tmp 34), (.const (.int .u8 116))], some (31, false)⟩
 (.f ⟨some 36, .call 94 [(.tmp 33), (.tmp 35)], some (31, false)⟩
 (.f ⟨some 37, .not (.tmp 36), some (31, false)⟩
 (.f ⟨some 38, .pick (.tmp 31) (.const (.bool true)) (.tmp 37), none⟩
 .done)))))))))))))))))))))))
 (.cond (.tmp 38)
  (.seq (.region [
  ⟨some 2, .mov (.const (.int .i64 11)), none⟩])
  .ret)
  .skip))
 (.seq (.region [
 ⟨some 4, .mov (.const (.int .i64 0)), none⟩,
 ⟨some 5, .mov (.const (.int .i64 0)), none⟩])
 (.seq (.block 0
  (.seq (.region [
  ⟨some 40, .mov (.tmp 3), none⟩,
  ⟨some 41, .call 95 [(.tmp 40), (.const (.int .u8 105))], none⟩,
  ⟨some 39, .mov (.tmp 41), none⟩])
  (.cond (.tmp 39)
   (.seq (.region [
   ⟨some 2, .mov (.const (.int .i64 0)), none⟩])
   .ret)
   (.seq (.region [
   ⟨some 43, .mov (.tmp 3), none⟩,
   ⟨some 44, .call 95 [(.tmp 43), (.const (.int .u8 102))], none⟩,
   ⟨some 42, .mov (.tmp 44), none⟩])
   (.cond (.tmp 42)
    (.region [
    ⟨some 5, .mov (.const (.int .i64 21)), none⟩])
    (.seq (.region [
    ⟨some 46, .mov (.tmp 3), none⟩,
    ⟨some 47, .call 95 [(.tmp 46), (.const (.int .u8 106))], none⟩,
    ⟨some 45, .mov (.tmp 47), none⟩])
    (.cond (.tmp 45)
     (.region [
     ⟨some 5, .mov (.const (.int .i64 64)), none⟩])
     (.seq (.region [
     ⟨some 49, .mov (.tmp 3), none⟩,
     ⟨some 50, .call 95 [(.tmp 49), (.const (.int .u8 97))], none⟩,
     ⟨some 48, .mov (.tmp 50), none⟩])
     (.cond (.tmp 48)
      (.region [
      ⟨some 4, .mov (.const (.int .i64 1)), none⟩,
      ⟨some 5, .mov (.const (.int .i64 8)), none⟩])
      (.seq (.region [
      ⟨some 52, .mov (.tmp 3), none⟩,
      ⟨some 53, .call 95 [(.tmp 52), (.const (.int .u8 99))], none⟩,
      ⟨some 51, .mov (.tmp 53), none⟩])
      (.cond (.tmp 51)
       (.region [
       ⟨some 5, .mov (.const (.int .i64 3)), none⟩])
       .skip)))))))))))
 (.seq (.seq (.region [
 ⟨some 54, .fad 4 (.tmp 1), none⟩,
 ⟨some 55, .ld (.tmp 54), none⟩,
 ⟨some 56, .mov (.tmp 4), none⟩,
 ⟨some 57, .bin .lss (.tmp 55) (.tmp 56), none⟩,
 ⟨some 58, .mov (.tmp 57), none⟩,
 ⟨some 59, .fad 4 (.tmp 1), some (58, false)⟩,
 ⟨some 60, .ld (.tmp 59), some (58, false)⟩,
 ⟨some 61, .mov (.tmp 5), some (58, false)⟩,
 ⟨some 62, .bin .gtr (.tmp 60) (.tmp 61), some (58, false)⟩,
 ⟨some 63, .pick (.tmp 58) (.const (.bool true)) (.tmp 62), none⟩])
 (.cond (.tmp 63)
  (.seq (.region [
  ⟨some 2, .mov (.const (.int .i64 11)), none⟩])
  .ret)
  .skip))
 (.seq (.region [
 ⟨some 2, .mov (.const (.int .i64 0)), none⟩])
 .ret)))))))),
 [.tmp 2]⟩
theorem low_ref03_Check : lowFn Tryz.prog movers 74 = some ⟨ir_ref03_Check.n, strip ir_ref03_Check.body, ir_ref03_Check.res⟩ := by kernel_rfl
def ir_ref03_Place : IFn := ⟨21,
 (.seq (.region [
 ⟨some 1, .box 69 (.tmp 0), none⟩,
 ⟨some 2, .mov (.const (.int .i64 0)), none⟩])
 (.seq (.seq (.region [
 ⟨some 3, .ldN 5 (.tmp 1), none⟩,
 ⟨some 4, .call 74 [(.tmp 3)], none⟩,
 ⟨some 5, .bin .neq (.tmp 4) (.const (.int .i64 0)), none⟩])
 (.cond (.tmp 5)
  (.seq (.region [
  ⟨some 2, .mov (.const (.int .i64 0)), none⟩])
  .ret)
  .skip))
 (.seq (.seq (.region [
 ⟨some 6, .fad 0 (.tmp 1), none⟩,
 ⟨some 7, .ld (.tmp 6), none⟩])
 (.block 0
  (.seq (.seq (.region [
  ⟨some 9, .bin .eql (.tmp 7) (.const (.int .i64 8)), none⟩,
  ⟨some 8, .mov (.tmp 9), none⟩])
  (.cond (.tmp 8)
   .skip
   (.seq (.region [
   ⟨some 10, .bin .eql (.tmp 7) (.const (.int .i64 9)), none⟩,
   ⟨some 8, .mov (.tmp 10), none⟩])
   (.cond (.tmp 8)
    .skip
    (.seq (.region [
    ⟨some 11, .bin .eql (.tmp 7) (.const (.int .i64 10)), none⟩,
    ⟨some 8, .mov (.tmp 11), none⟩])
    (.cond (.tmp 8)
     .skip
     (.seq (.region [
     ⟨some 12, .bin .eql (.tmp 7) (.const (.int .i64 11)), none⟩,
     ⟨some 8, .mov (.tmp 12), none⟩])
     (.cond (.tmp 8)
      .skip
      (.seq (.region [
      ⟨some 13, .bin .eql (.tmp 7) (.const (.int .i64 14)), none⟩,
      ⟨some 8, .mov (.tmp 13), none⟩])
      (.cond (.tmp 8)
       .skip
       (.region [
       ⟨some 14, .bin .eql (.tmp 7) (.const (.int .i64 15)), none⟩,
       ⟨some 8, .mov (.tmp 14), none⟩])))))))))))
  (.cond (.tmp 8)
   (.seq (.region [
   ⟨some 2, .mov (.const (.int .i64 1)), none⟩])
   .ret)
   (.seq (.seq (.region [
   ⟨some 16, .bin .eql (.tmp 7) (.const (.int .i64 7)), none⟩,
   ⟨some 15, .mov (.tmp 16), none⟩])
   (.cond (.tmp 15)
    .skip
    (.seq (.region [
    ⟨some 17, .bin .eql (.tmp 7) (.const (.int .i64 12)), none⟩,
    ⟨some 15, .mov (.tmp 17), none⟩])
    (.cond (.tmp 15)
     .skip
     (.seq (.region [
     ⟨some 18, .bin .eql (.tmp 7) (.const (.int .i64 13)), none⟩,
     ⟨some 15, .mov (.tmp 18), none⟩])
     (.cond (.tmp 15)
      .skip
      (.seq (.region [
      ⟨some 19, .bin .eql (.tmp 7) (.const (.int .i64 16)), none⟩,
      ⟨some 15, .mov (.tmp 19), none⟩])
      (.cond (.tmp 15)
       .skip
       (.region [
       ⟨some 20, .bin .eql (.tmp 7) (.const (.int .i64 17)), none⟩,
       ⟨some 15, .mov (.tmp 20), none⟩])))))))))
   (.cond (.tmp 15)
    (.seq (.region [
    ⟨some 2, .mov (.const (.int .i64 2)), none⟩])
    .ret)
    .skip))))))
 (.seq (.region [
 ⟨some 2, .mov (.const (.int .i64 0)), none⟩])
 .ret)))),
 [.tmp 2]⟩
theorem low_ref03_Place : lowFn Tryz.prog movers 75 = some ⟨ir_ref03_Place.n, strip ir_ref03_Place.body, ir_ref03_Place.res⟩ := by kernel_rfl
def ir_ref03_Skips : IFn := ⟨16,
 (.seq (.region [
 ⟨some 1, .box 69 (.tmp 0), none⟩,
 ⟨some 2, .mov (.const (.int .i64 0)), none⟩,
 ⟨some 3, .mov (.const (.bool false)), none⟩])
 (.seq (.seq (.region [
 ⟨some 4, .ldN 5 (.tmp 1), none⟩,
 ⟨some 5, .call 74 [(.tmp 4)], none⟩,
 ⟨some 6, .bin .neq (.tmp 5) (.const (.int .i64 0)), none⟩,
 ⟨some 7, .mov (.tmp 6), none⟩,
 ⟨some 8, .fad 0 (.tmp 1), some (7, false)⟩,
 ⟨some 9, .ld (.tmp 8), some (7, false)⟩,
 ⟨some 10, .call 93 [(.tmp 9)], some (7, false)⟩,
 ⟨some 11, .call 95 [(.tmp 10), (.const (.int .u8 106))], some (7, false)⟩,
 ⟨some 12, .not (.tmp 11), some (7, false)⟩,
 ⟨some 13, .pick (.tmp 7) (.const (.bool true)) (.tmp 12), none⟩])
 (.cond (.tmp 13)
  (.seq (.region [
  ⟨some 2, .mov (.const (.int .i64 0)), none⟩,
  ⟨some 3, .mov (.const (.bool false)), none⟩])
  .ret)
  .skip))
 (.seq (.region [
 ⟨some 14, .fad 4 (.tmp 1), none⟩,
 ⟨some 15, .ld (.tmp 14), none⟩,
 ⟨some 2, .mov (.tmp 15), none⟩,
 ⟨some 3, .mov (.const (.bool true)), none⟩])
 .ret))),
 [.tmp 2, .tmp 3]⟩
theorem low_ref03_Skips : lowFn Tryz.prog movers 76 = some ⟨ir_ref03_Skips.n, strip ir_ref03_Skips.body, ir_ref03_Skips.res⟩ := by kernel_rfl
def ir_ref03_form : IFn := ⟨7,
 (.seq (.region [
 ⟨some 2, .mov (.const (.string ⟨#[]⟩)), none⟩])
 (.seq (.region [
 ⟨some 3, .blds 9 18 [(.string ⟨#[]⟩), (.string ⟨#[]⟩), (.string ⟨#[]⟩), (.string ⟨#[]⟩), (.string ⟨#[]⟩), (.string ⟨#[]⟩), (.string ⟨#[]⟩), (.string ⟨#[]⟩), (.string ⟨#[]⟩), (.string ⟨#[]⟩), (.string ⟨#[]⟩), (.string ⟨#[]⟩), (.string ⟨#[]⟩), (.string ⟨#[]⟩), (.string ⟨#[]⟩), (.string ⟨#[]⟩), (.string ⟨#[]⟩), (.string ⟨#[]⟩)] [(0, 1, (.const (.string ⟨#[]⟩))), (1, 1, (.const (.string ⟨#[114, 105]⟩))), (2, 1, (.const (.string ⟨#[114, 115]⟩))), (3, 1, (.const (.string ⟨#[114, 115, 116, 102]⟩))), (4, 1, (.const (.string ⟨#[106]⟩))), (5, 1, (.const (.string ⟨#[114, 106]⟩))), (6, 1, (.const (.string ⟨#[114, 106]⟩))), (7, 1, (.const (.string ⟨#[97]⟩))), (8, 1, (.const (.string ⟨#[]⟩))), (9, 1, (.const (.string ⟨#[]⟩))), (10, 1, (.const (.string ⟨#[114, 115, 105]⟩))), (11, 1, (.const (.string ⟨#[114, 115, 105]⟩))), (12, 1, (.const (.string ⟨#[114, 115, 105]⟩))), (13, 1, (.const (.string ⟨#[114, 115, 105]⟩))), (14, 1, (.const (.string ⟨#[114, 99]⟩))), (15, 1, (.const (.string ⟨#[114]⟩))), (16, 1, (.const (.string ⟨#[]⟩))), (17, 1, (.const (.string ⟨#[114]⟩)))], none⟩,
 ⟨some 4, .mov (.tmp 0), none⟩,
 ⟨some 5, .ixs 1 (.tmp 3) (.tmp 4), none⟩,
 ⟨some 6, .ld (.tmp 5), none⟩,
 ⟨some 2, .mov (.tmp 6), none⟩])
 .ret)),
 [.tmp 2]⟩
theorem low_ref03_form : lowFn Tryz.prog movers 93 = some ⟨ir_ref03_form.n, strip ir_ref03_form.body, ir_ref03_form.res⟩ := by kernel_rfl
def ir_ref03_register : IFn := ⟨14,
 (.seq (.region [
 ⟨some 4, .mov (.const (.bool false)), none⟩])
 (.seq (.seq (.region [
 ⟨some 5, .mov (.tmp 1), none⟩])
 (.cond (.tmp 5)
  (.seq (.region [
  ⟨some 6, .mov (.tmp 0), none⟩,
  ⟨some 7, .bin .geq (.tmp 6) (.const (.int .i64 0)), none⟩,
  ⟨some 8, .mov (.tmp 7), none⟩,
  ⟨some 9, .mov (.tmp 0), some (8, true)⟩,
  ⟨some 10, .bin .lss (.tmp 9) (.const (.int .i64 8)), some (8, true)⟩,
  ⟨some 11, .pick (.tmp 8) (.tmp 10) (.const (.bool false)), none⟩,
  ⟨some 4, .mov (.tmp 11), none⟩])
  .ret)
  .skip))
 (.seq (.region [
 ⟨some 12, .mov (.tmp 0), none⟩,
 ⟨some 13, .bin .eql (.tmp 12) (.const (.int .i64 0)), none⟩,
 ⟨some 4, .mov (.tmp 13), none⟩])
 .ret))),
 [.tmp 4]⟩
theorem low_ref03_register : lowFn Tryz.prog movers 94 = some ⟨ir_ref03_register.n, strip ir_ref03_register.body, ir_ref03_register.res⟩ := by kernel_rfl
def ir_ref03_has : IFn := ⟨17,
 (.seq (.region [
 ⟨some 4, .mov (.const (.bool false)), none⟩])
 (.seq (.seq (.region [
 ⟨some 5, .mov (.const (.int .i64 0)), none⟩])
 (.block 0
  (.loop 131056
   (.seq (.seq (.region [
   ⟨some 6, .mov (.tmp 5), none⟩,
   ⟨some 7, .mov (.tmp 0), none⟩,
   ⟨some 8, .lens (.tmp 7), none⟩,
   ⟨some 9, .bin .lss (.tmp 6) (.tmp 8), none⟩])
   (.cond (.tmp 9)
    .skip
    (.exit 0)))
   (.seq (.block 1
    (.seq (.region [
    ⟨some 12, .mov (.tmp 0), none⟩,
    ⟨some 13, .mov (.tmp 5), none⟩,
    ⟨some 14, .sidx (.tmp 12) (.tmp 13), none⟩,
    ⟨some 15, .mov (.tmp 1), none⟩,
    ⟨some 16, .bin .eql (.tmp 14) (.tmp 15), none⟩])
    (.cond (.tmp 16)
     (.seq (.region [
     ⟨some 4, .mov (.const (.bool true)), none⟩])
     .ret)
     .skip)))
   (.region [
   ⟨some 10, .mov (.tmp 5), none⟩,
   ⟨some 11, .bin .add (.tmp 10) (.const (.int .i64 1)), none⟩,
   ⟨some 5, .mov (.tmp 11), none⟩]))))))
 (.seq (.region [
 ⟨some 4, .mov (.const (.bool false)), none⟩])
 .ret))),
 [.tmp 4]⟩
theorem low_ref03_has : lowFn Tryz.prog movers 95 = some ⟨ir_ref03_has.n, strip ir_ref03_has.body, ir_ref03_has.res⟩ := by kernel_rfl
end Go.Proofs.YtfompmhncnkcfaaGreatDoor
namespace Go.Proofs.YtfompmhncnkcfaaGreatDoor
open Go
set_option maxRecDepth 100000
def ir_strings_Contains : IFn := ⟨9,
 (.seq (.region [
 ⟨some 4, .mov (.const (.bool false)), none⟩])
 (.seq (.region [
 ⟨some 5, .mov (.tmp 0), none⟩,
 ⟨some 6, .mov (.tmp 1), none⟩,
 ⟨some 7, .call 127 [(.tmp 5), (.tmp 6)], none⟩,
 ⟨some 8, .bin .geq (.tmp 7) (.const (.int .i64 0)), none⟩,
 ⟨some 4, .mov (.tmp 8), none⟩])
 .ret)),
 [.tmp 4]⟩
theorem low_strings_Contains : lowFn Tryz.prog movers 113 = some ⟨ir_strings_Contains.n, strip ir_strings_Contains.body, ir_strings_Contains.res⟩ := by kernel_rfl
def ir_strings_Index : IFn := ⟨8,
 (.seq (.region [
 ⟨some 4, .mov (.const (.int .i64 0)), none⟩])
 (.seq (.region [
 ⟨some 5, .mov (.tmp 0), none⟩,
 ⟨some 6, .mov (.tmp 1), none⟩,
 ⟨some 7, .call 136 [(.tmp 5), (.tmp 6)], none⟩,
 ⟨some 4, .mov (.tmp 7), none⟩])
 .ret)),
 [.tmp 4]⟩
theorem low_strings_Index : lowFn Tryz.prog movers 127 = some ⟨ir_strings_Index.n, strip ir_strings_Index.body, ir_strings_Index.res⟩ := by kernel_rfl
end Go.Proofs.YtfompmhncnkcfaaGreatDoor
namespace Go.Proofs.YtfompmhncnkcfaaGreatDoor
open Go
set_option maxRecDepth 100000
def ir_internal_stringslite_Index : IFn := ⟨143,
 (.seq (.region [
 ⟨some 4, .mov (.const (.int .i64 0)), none⟩])
 (.seq (.region [
 ⟨some 14, .mov (.tmp 1), none⟩,
 ⟨some 15, .lens (.tmp 14), none⟩,
 ⟨some 5, .mov (.tmp 15), none⟩])
 (.seq (.block 0
  (.seq (.region [
  ⟨some 17, .mov (.tmp 5), none⟩,
  ⟨some 18, .bin .eql (.tmp 17) (.const (.int .i64 0)), none⟩,
  ⟨some 19, .mov (.tmp 18), none⟩,
  ⟨some 20, .mov (.tmp 1), some (19, false)⟩,
  ⟨some 21, .mov (.tmp 0), some (19, false)⟩,
  ⟨some 22, .sbin .eql (.tmp 20) (.tmp 21), some (19, false)⟩,
  ⟨some 23, .pick (.tmp 19) (.const (.bool true)) (.tmp 22), none⟩,
  ⟨some 16, .mov (.tmp 23), none⟩])
  (.cond (.tmp 16)
   (.seq (.region [
   ⟨some 4, .mov (.const (.int .i64 0)), none⟩])
   .ret)
   (.seq (.region [
   ⟨some 25, .mov (.tmp 5), none⟩,
   ⟨some 26, .bin .eql (.tmp 25) (.const (.int .i64 1)), none⟩,
   ⟨some 24, .mov (.tmp 26), none⟩])
   (.cond (.tmp 24)
    (.seq (.region [
    ⟨some 27, .mov (.tmp 0), none⟩,
    ⟨some 28, .mov (.tmp 1), none⟩,
    ⟨some 29, .sidx (.tmp 28) (.const (.int .i64 0)), none⟩,
    ⟨some 30, .call 141 [(.tmp 27), (.tmp 29)], none⟩,
    ⟨some 4, .mov (.tmp 30), none⟩])
    .ret)
    (.seq (.region [
    ⟨some 32, .mov (.tmp 5), none⟩,
    ⟨some 33, .mov (.tmp 0), none⟩,
    ⟨some 34, .lens (.tmp 33), none⟩,
    ⟨some 35, .bin .geq (.tmp 32) (.tmp 34), none⟩,
    ⟨some 31, .mov (.tmp 35), none⟩])
    (.cond (.tmp 31)
     (.seq (.region [
     ⟨some 4, .mov (.const (.int .i64 (-1))), none⟩])
     .ret)
     (.seq (.region [
     ⟨some 37, .mov (.tmp 5), none⟩,
     ⟨some 38, .ld (.global 2), none⟩,
     ⟨some 39, .bin .leq (.tmp 37) (.tmp 38), none⟩,
     ⟨some 40, .mov (.tmp 39), none⟩,
     ⟨some 41, .mov (.tmp 0), some (40, true)⟩,
     ⟨some 42, .lens (.tmp 41), some (40, true)⟩,
     ⟨some 43, .bin .leq (.tmp 42) (.const (.int .i64 64)), some (40, true)⟩,
     ⟨some 44, .pick (.tmp 40) (.tmp 43) (.const (.bool false)), none⟩,
     ⟨some 36, .mov (.tmp 44), none⟩])
     (.cond (.tmp 36)
      (.seq (.region [
      ⟨some 45, .mov (.tmp 0), none⟩,
      ⟨some 46, .mov (.tmp 1), none⟩,
      ⟨some 47, .bad, none⟩,
      ⟨some 4, .mov (.tmp 47), none⟩])
      .ret)
      .skip)))))))))
 (.seq (.region [
 ⟨some 48, .mov (.tmp 1), none⟩,
 ⟨some 49, .sidx (.tmp 48) (.const (.int .i64 0)), none⟩,
 ⟨some 6, .mov (.tmp 49), none⟩])
 (.seq (.region [
 ⟨some 50, .mov (.tmp 1), none⟩,
 ⟨some 51, .sidx (.tmp 50) (.const (.int .i64 1)), none⟩,
 ⟨some 7, .mov (.tmp 51), none⟩])
 (.seq (.region [
 ⟨some 8, .mov (.const (.int .i64 0)), none⟩])
 (.seq (.region [
 ⟨some 52, .mov (.tmp 0), none⟩,
 ⟨some 53, .lens (.tmp 52), none⟩,
 ⟨some 54, .mov (.tmp 5), none⟩,
 ⟨some 55, .bin .sub (.tmp 53) (.tmp 54), none⟩,
 ⟨some 56, .bin .add (.tmp 55) (.const (.int .i64 1)), none⟩,
 ⟨some 9, .mov (.tmp 56), none⟩])
 (.seq (.region [
 ⟨some 10, .mov (.const (.int .i64 0)), none⟩])
 (.seq (.block 1
  (.loop 11150372599265311570767858992208992677149968
   (.seq (.seq (.region [
   ⟨some 57, .mov (.tmp 8), none⟩,
   ⟨some 58, .mov (.tmp 9), none⟩,
   ⟨some 59, .bin .lss (.tmp 57) (.tmp 58), none⟩])
   (.cond (.tmp 59)
    .skip
    (.exit 1)))
   (.block 2
    (.seq (.seq (.region [
    ⟨some 60, .mov (.tmp 0), none⟩,
    ⟨some 61, .mov (.tmp 8), none⟩,
    ⟨some 62, .sidx (.tmp 60) (.tmp 61), none⟩,
    ⟨some 63, .mov (.tmp 6), none⟩,
    ⟨some 64, .bin .neq (.tmp 62) (.tmp 63), none⟩])
    (.cond (.tmp 64)
     (.seq (.region [
     ⟨some 65, .mov (.tmp 0), none⟩,
     ⟨some 66, .mov (.tmp 8), none⟩,
     ⟨some 67, .bin .add (.tmp 66) (.const (.int .i64 1)), none⟩,
     ⟨some 68, .mov (.tmp 9), none⟩,
     ⟨some 69, .sslc (.tmp 65) (some (.tmp 67)) (some (.tmp 68)), none⟩,
     ⟨some 70, .mov (.tmp 6), none⟩,
     ⟨some 71, .call 141 [(.tmp 69), (.tmp 70)], none⟩,
     ⟨some 11, .mov (.tmp 71), none⟩])
     (.seq (.seq (.region [
     ⟨some 72, .mov (.tmp 11), none⟩,
     ⟨some 73, .bin .lss (.tmp 72) (.const (.int .i64 0)), none⟩])
     (.cond (.tmp 73)
      (.seq (.region [
      ⟨some 4, .mov (.const (.int .i64 (-1))), none⟩])
      .ret)
      .skip))
     (.region [
     ⟨some 74, .mov (.tmp 8), none⟩,
     ⟨some 75, .mov (.tmp 11), none⟩,
     ⟨some 76, .bin .add (.tmp 75) (.const (.int .i64 1)), none⟩,
     ⟨some 77, .bin .add (.tmp 74) (.tmp 76), none⟩,
     ⟨some 8, .mov (.tmp 77), none⟩])))
     .skip))
    (.seq (.seq (.region [
    ⟨some 78, .mov (.tmp 0), none⟩,
    ⟨some 79, .mov (.tmp 8), none⟩,
    ⟨some 80, .bin .add (.tmp 79) (.const (.int .i64 1)), none⟩,
    ⟨some 81, .sidx (.tmp 78) (.tmp 80), none⟩,
    ⟨some 82, .mov (.tmp 7), none⟩,
    ⟨some 83, .bin .eql (.tmp 81) (.tmp 82), none⟩,
    ⟨some 84, .mov (.tmp 83), none⟩,
    ⟨some 85, .mov (.tmp 0), some (84, true)⟩,
    ⟨some 86, .mov (.tmp 8), some (84, true)⟩,
    ⟨some 87, .mov (.tmp 8), some (84, true)⟩,
    ⟨some 88, .mov (.tmp 5), some (84, true)⟩,
    ⟨some 89, .bin .add (.tmp 87) (.tmp 88), some (84, true)⟩,
    ⟨some 90, .sslc (.tmp 85) (some (.tmp 86)) (some (.tmp 89)), some (84, true)⟩,
    ⟨some 91, .mov (.tmp 1), some (84, true)⟩,
    ⟨some 92, .sbin .eql (.tmp 90) (.tmp 91), some (84, true)⟩,
    ⟨some 93, .pick (.tmp 84) (.tmp 92) (.const (.bool false)), none⟩])
    (.cond (.tmp 93)
     (.seq (.region [
     ⟨some 94, .mov (.tmp 8), none⟩,
     ⟨some 4, .mov (.tmp 94), none⟩])
     .ret)
     .skip))
    (.seq (.region [
    ⟨some 95, .mov (.tmp 8), none⟩,
    ⟨some 96, .bin .add (.tmp 95) (.const (.int .i64 1)), none⟩,
    ⟨some 8, .mov (.tmp 96), none⟩])
    (.seq (.region [
    ⟨some 97, .mov (.tmp 10), none⟩,
    ⟨some 98, .bin .add (.tmp 97) (.const (.int .i64 1)), none⟩,
    ⟨some 10, .mov (.tmp 98), none⟩])
    (.seq (.region [
    ⟨some 99, .mov (.tmp 5), none⟩,
    ⟨some 100, .ld (.global 2), none⟩,
    ⟨some 101, .bin .leq (.tmp 99) (.tmp 100), none⟩,
    ⟨some 102, .mov (.tmp 101), none⟩,
    ⟨some 103, .mov (.tmp 10), some (102, true)⟩,
    ⟨some 104, .mov (.tmp 8), some (102, true)⟩,
    ⟨some 105, .call 143 [(.tmp 104)], some (102, true)⟩,
    ⟨some 106, .bin .gtr (.tmp 103) (.tmp 105), some (102, true)⟩,
    ⟨some 107, .pick (.tmp 102) (.tmp 106) (.const (.bool false)), none⟩])
    (.cond (.tmp 107)
     (.seq (.region [
     ⟨some 108, .mov (.tmp 0), none⟩,
     ⟨some 109, .mov (.tmp 8), none⟩,
     ⟨some 110, .sslc (.tmp 108) (some (.tmp 109)) none, none⟩,
     ⟨some 111, .mov (.tmp 1), none⟩,
     ⟨some 112, .bad, none⟩,
     ⟨some 12, .mov (.tmp 112), none⟩])
     (.seq (.seq (.region [
     ⟨some 113, .mov (.tmp 12), none⟩,
     ⟨some 114, .bin .geq (.tmp 113) (.const (.int .i64 0)), none⟩])
     (.cond (.tmp 114)
      (.seq (.region [
      ⟨some 115, .mov (.tmp 12), none⟩,
      ⟨some 116, .mov (.tmp 8), none⟩,
      ⟨some 117, .bin .add (.tmp 115) (.tmp 116), none⟩,
      ⟨some 4, .mov (.tmp 117), none⟩])
      .ret)
      .skip))
     (.seq (.region [
     ⟨some 4, .mov (.const (.int .i64 (-1))), none⟩])
     .ret)))
     (.seq (.region [
     ⟨some 118, .mov (.tmp 5), none⟩,
     ⟨some 119, .ld (.global 2), none⟩,
     ⟨some 120, .bin .gtr (.tmp 118) (.tmp 119), none⟩,
     ⟨some 121, .mov (.tmp 120), none⟩,
     ⟨some 122, .mov (.tmp 10), some (121, true)⟩,
     ⟨some 123, .mov (.tmp 8), some (121, true)⟩,
     ⟨some 124, .bin .shr (.tmp 123) (.const (.int .u64 4)), some (121, true)⟩,
     ⟨some 125, .bin .add (.const (.int .i64 4)) (.tmp 124), some (121, true)⟩,
     ⟨some 126, .bin .geq (.tmp 122) (.tmp 125), some (121, true)⟩,
     ⟨some 127, .pick (.tmp 121) (.tmp 126) (.const (.bool false)), none⟩,
     ⟨some 128, .mov (.tmp 127), none⟩,
     ⟨some 129, .mov (.tmp 8), some (128, true)⟩,
     ⟨some 130, .mov (.tmp 9), some (128, true)⟩,
     ⟨some 131, .bin .lss (.tmp 129) (.tmp 130), some (128, true)⟩,
     ⟨some 132, .pick (.tmp 128) (.tmp 131) (.const (.bool false)), none⟩])
     (.cond (.tmp 132)
      (.seq (.region [
      ⟨some 133, .mov (.tmp 0), none⟩,
      ⟨some 134, .mov (.tmp 8), none⟩,
      ⟨some 135, .sslc (.tmp 133) (some (.tmp 134)) none, none⟩,
      ⟨some 136, .mov (.tmp 1), none⟩,
      ⟨some 137, .call 144 [(.tmp 135), (.tmp 136)], none⟩,
      ⟨some 13, .mov (.tmp 137), none⟩])
      (.seq (.seq (.region [
      ⟨some 138, .mov (.tmp 13), none⟩,
      ⟨some 139, .bin .lss (.tmp 138) (.const (.int .i64 0)), none⟩])
      (.cond (.tmp 139)
       (.seq (.region [
       ⟨some 4, .mov (.const (.int .i64 (-1))), none⟩])
       .ret)
       .skip))
      (.seq (.region [
      ⟨some 140, .mov (.tmp 8), none⟩,
      ⟨some 141, .mov (.tmp 13), none⟩,
      ⟨some 142, .bin .add (.tmp 140) (.tmp 141), none⟩,
      ⟨some 4, .mov (.tmp 142), none⟩])
      .ret)))
      .skip))))))))))))
 (.seq (.region [
 ⟨some 4, .mov (.const (.int .i64 (-1))), none⟩])
 .ret)))))))))),
 [.tmp 4]⟩
theorem low_internal_stringslite_Index : lowFn Tryz.prog movers 136 = some ⟨ir_internal_stringslite_Index.n, strip ir_internal_stringslite_Index.body, ir_internal_stringslite_Index.res⟩ := by kernel_rfl
def ir_internal_stringslite_IndexByte : IFn := ⟨8,
 (.seq (.region [
 ⟨some 4, .mov (.const (.int .i64 0)), none⟩])
 (.seq (.region [
 ⟨some 5, .mov (.tmp 0), none⟩,
 ⟨some 6, .mov (.tmp 1), none⟩,
 ⟨some 7, .ibs (.tmp 5) (.tmp 6), none⟩,
 ⟨some 4, .mov (.tmp 7), none⟩])
 .ret)),
 [.tmp 4]⟩
theorem low_internal_stringslite_IndexByte : lowFn Tryz.prog movers 141 = some ⟨ir_internal_stringslite_IndexByte.n, strip ir_internal_stringslite_IndexByte.body, ir_internal_stringslite_IndexByte.res⟩ := by kernel_rfl
end Go.Proofs.YtfompmhncnkcfaaGreatDoor
