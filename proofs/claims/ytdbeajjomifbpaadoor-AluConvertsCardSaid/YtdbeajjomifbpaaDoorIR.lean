/- The lowered code of this seat's functions, printed by program; each is checked against the loaded program by the kernel. No condition. -/
import Derived.Test.YtdbeajjomifbpaaDoorVe
import Derived.Test.YtdbeajjomifbpaaDoorRows
namespace Go.Proofs.YtdbeajjomifbpaaDoor
open Go
set_option maxRecDepth 100000
theorem mixed : Tryd.prog.follows .mixedOrders = true := by kernel_rfl
/-- Functions that do not leave the class alone. -/
def movers : List Nat := []

/-- strongtx/strongtxlaw02.AluApplies -/
def ir_law02_AluApplies : IFn := ⟨36,
 (.seq (.region [
 ⟨some 6, .mov (.const (.bool false)), none⟩])
 (.seq (.region [
 ⟨some 12, .mov (.tmp 0), none⟩,
 ⟨some 13, .mov (.tmp 1), none⟩,
 ⟨some 14, .mov (.tmp 2), none⟩,
 ⟨some 15, .call 11 [(.tmp 12), (.tmp 13), (.tmp 14)], none⟩,
 ⟨some 11, .mov (.tmp 15), none⟩,
 ⟨some 16, .ext (.tmp 11) 0, none⟩,
 ⟨some 17, .ext (.tmp 11) 1, none⟩,
 ⟨some 7, .mov (.tmp 16), none⟩,
 ⟨some 8, .mov (.tmp 17), none⟩])
 (.seq (.region [
 ⟨some 19, .mov (.tmp 0), none⟩,
 ⟨some 20, .mov (.tmp 1), none⟩,
 ⟨some 21, .mov (.tmp 2), none⟩,
 ⟨some 22, .call 12 [(.tmp 19), (.tmp 20), (.tmp 21)], none⟩,
 ⟨some 18, .mov (.tmp 22), none⟩,
 ⟨some 23, .ext (.tmp 18) 0, none⟩,
 ⟨some 24, .ext (.tmp 18) 1, none⟩,
 ⟨some 9, .mov (.tmp 23), none⟩,
 ⟨some 10, .mov (.tmp 24), none⟩])
 (.seq (.region [
 ⟨some 25, .mov (.tmp 7), none⟩,
 ⟨some 26, .mov (.tmp 9), none⟩,
 ⟨some 27, .bin .eql (.tmp 25) (.tmp 26), none⟩,
 ⟨some 28, .mov (.tmp 27), none⟩,
 ⟨some 29, .mov (.tmp 8), some (28, true)⟩,
 ⟨some 30, .mov (.tmp 10), some (28, true)⟩,
 ⟨some 31, .bin .eql (.tmp 29) (.tmp 30), some (28, true)⟩,
 ⟨some 32, .pick (.tmp 28) (.tmp 31) (.const (.bool false)), none⟩,
 ⟨some 33, .mov (.tmp 32), none⟩,
 ⟨some 34, .call 13 [], some (33, true)⟩,
 ⟨some 35, .pick (.tmp 33) (.tmp 34) (.const (.bool false)), none⟩,
 ⟨some 6, .mov (.tmp 35), none⟩])
 .ret)))),
 [.tmp 6]⟩
theorem low_law02_AluApplies : lowFn Tryd.prog movers 3 = some ⟨ir_law02_AluApplies.n, strip ir_law02_AluApplies.body, ir_law02_AluApplies.res⟩ := by kernel_rfl

/-- strongtx/strongtxlaw02.AluAll -/
def ir_law02_AluAll : IFn := ⟨37,
 (.seq (.region [
 ⟨some 4, .mov (.const (.bool false)), none⟩])
 (.seq (.seq (.region [
 ⟨some 5, .mov (.const (.int .i64 0)), none⟩])
 (.block 0
  (.loop 68719476720
   (.seq (.seq (.region [
   ⟨some 10, .mov (.tmp 5), none⟩,
   ⟨some 11, .bin .lss (.tmp 10) (.const (.int .i64 22)), none⟩])
   (.cond (.tmp 11)
    .skip
    (.exit 0)))
   (.seq (.block 1
    (.seq (.region [
    ⟨some 15, .mov (.tmp 5), none⟩,
    ⟨some 16, .mov (.tmp 0), none⟩,
    ⟨some 17, .mov (.tmp 1), none⟩,
    ⟨some 18, .call 11 [(.tmp 15), (.tmp 16), (.tmp 17)], none⟩,
    ⟨some 14, .mov (.tmp 18), none⟩,
    ⟨some 19, .ext (.tmp 14) 0, none⟩,
    ⟨some 20, .ext (.tmp 14) 1, none⟩,
    ⟨some 6, .mov (.tmp 19), none⟩,
    ⟨some 7, .mov (.tmp 20), none⟩])
    (.seq (.region [
    ⟨some 22, .mov (.tmp 5), none⟩,
    ⟨some 23, .mov (.tmp 0), none⟩,
    ⟨some 24, .mov (.tmp 1), none⟩,
    ⟨some 25, .call 12 [(.tmp 22), (.tmp 23), (.tmp 24)], none⟩,
    ⟨some 21, .mov (.tmp 25), none⟩,
    ⟨some 26, .ext (.tmp 21) 0, none⟩,
    ⟨some 27, .ext (.tmp 21) 1, none⟩,
    ⟨some 8, .mov (.tmp 26), none⟩,
    ⟨some 9, .mov (.tmp 27), none⟩])
    (.seq (.region [
    ⟨some 28, .mov (.tmp 6), none⟩,
    ⟨some 29, .mov (.tmp 8), none⟩,
    ⟨some 30, .bin .neq (.tmp 28) (.tmp 29), none⟩,
    ⟨some 31, .mov (.tmp 30), none⟩,
    ⟨some 32, .mov (.tmp 7), some (31, false)⟩,
    ⟨some 33, .mov (.tmp 9), some (31, false)⟩,
    ⟨some 34, .bin .neq (.tmp 32) (.tmp 33), some (31, false)⟩,
    ⟨some 35, .pick (.tmp 31) (.const (.bool true)) (.tmp 34), none⟩])
    (.cond (.tmp 35)
     (.seq (.region [
     ⟨some 4, .mov (.const (.bool false)), none⟩])
     .ret)
     .skip)))))
   (.region [
   ⟨some 12, .mov (.tmp 5), none⟩,
   ⟨some 13, .bin .add (.tmp 12) (.const (.int .i64 1)), none⟩,
   ⟨some 5, .mov (.tmp 13), none⟩]))))))
 (.seq (.region [
 ⟨some 36, .call 13 [], none⟩,
 ⟨some 4, .mov (.tmp 36), none⟩])
 .ret))),
 [.tmp 4]⟩
theorem low_law02_AluAll : lowFn Tryd.prog movers 4 = some ⟨ir_law02_AluAll.n, strip ir_law02_AluAll.body, ir_law02_AluAll.res⟩ := by kernel_rfl

/-- strongtx/strongtxlaw02.AluWhole -/
def ir_law02_AluWhole : IFn := ⟨81,
 (.seq (.region [
 ⟨some 6, .mov (.const (.bool false)), none⟩])
 (.seq (.seq (.region [
 ⟨some 7, .mov (.tmp 0), none⟩,
 ⟨some 8, .mov (.tmp 1), none⟩,
 ⟨some 9, .call 14 [(.const (.int .i64 0)), (.tmp 7), (.tmp 8)], none⟩,
 ⟨some 10, .mov (.tmp 1), none⟩,
 ⟨some 11, .mov (.tmp 0), none⟩,
 ⟨some 12, .call 14 [(.const (.int .i64 0)), (.tmp 10), (.tmp 11)], none⟩,
 ⟨some 13, .bin .neq (.tmp 9) (.tmp 12), none⟩,
 ⟨some 14, .mov (.tmp 13), none⟩,
 ⟨some 15, .mov (.tmp 0), some (14, false)⟩,
 ⟨some 16, .mov (.tmp 1), some (14, false)⟩,
 ⟨some 17, .call 14 [(.const (.int .i64 2)), (.tmp 15), (.tmp 16)], some (14, false)⟩,
 ⟨some 18, .mov (.tmp 1), some (14, false)⟩,
 ⟨some 19, .mov (.tmp 0), some (14, false)⟩,
 ⟨some 20, .call 14 [(.const (.int .i64 2)), (.tmp 18), (.tmp 19)], some (14, false)⟩,
 ⟨some 21, .bin .neq (.tmp 17) (.tmp 20), some (14, false)⟩,
 ⟨some 22, .pick (.tmp 14) (.const (.bool true)) (.tmp 21), none⟩,
 ⟨some 23, .mov (.tmp 22), none⟩,
 ⟨some 24, .mov (.tmp 0), some (23, false)⟩,
 ⟨some 25, .mov (.tmp 1), some (23, false)⟩,
 ⟨some 26, .call 14 [(.const (.int .i64 0)), (.tmp 24), (.tmp 25)], some (23, false)⟩,
 ⟨some 27, .mov (.tmp 1), some (23, false)⟩,
 ⟨some 28, .call 14 [(.const (.int .i64 1)), (.tmp 26), (.tmp 27)], some (23, false)⟩,
 ⟨some 29, .mov (.tmp 0), some (23, false)⟩,
 ⟨some 30, .bin .neq (.tmp 28) (.tmp 29), some (23, false)⟩,
 ⟨some 31, .pick (.tmp 23) (.const (.bool true)) (.tmp 30), none⟩])
 (.cond (.tmp 31)
  (.seq (.region [
  ⟨some 6, .mov (.const (.bool false)), none⟩])
  .ret)
  .skip))
 (.seq (.seq (.region [
 ⟨some 32, .mov (.tmp 0), none⟩,
 ⟨some 33, .mov (.tmp 1), none⟩,
 ⟨some 34, .call 14 [(.const (.int .i64 0)), (.tmp 32), (.tmp 33)], none⟩,
 ⟨some 35, .mov (.tmp 2), none⟩,
 ⟨some 36, .call 14 [(.const (.int .i64 0)), (.tmp 34), (.tmp 35)], none⟩,
 ⟨some 37, .mov (.tmp 0), none⟩,
 ⟨some 38, .mov (.tmp 1), none⟩,
 ⟨some 39, .mov (.tmp 2), none⟩,
 ⟨some 40, .call 14 [(.const (.int .i64 0)), (.tmp 38), (.tmp 39)], none⟩,
 ⟨some 41, .call 14 [(.const (.int .i64 0)), (.tmp 37), (.tmp 40)], none⟩,
 ⟨some 42, .bin .neq (.tmp 36) (.tmp 41), none⟩,
 ⟨some 43, .mov (.tmp 42), none⟩,
 ⟨some 44, .mov (.tmp 0), some (43, false)⟩,
 ⟨some 45, .mov (.tmp 1), some (43, false)⟩,
 ⟨some 46, .call 14 [(.const (.int .i64 2)), (.tmp 44), (.tmp 45)], some (43, false)⟩,
 ⟨some 47, .mov (.tmp 2), some (43, false)⟩,
 ⟨some 48, .call 14 [(.const (.int .i64 2)), (.tmp 46), (.tmp 47)], some (43, false)⟩,
 ⟨some 49, .mov (.tmp 0), some (43, false)⟩,
 ⟨some 50, .mov (.tmp 1), some (43, false)⟩,
 ⟨some 51, .mov (.tmp 2), some (43, false)⟩,
 ⟨some 52, .call 14 [(.const (.int .i64 2)), (.tmp 50), (.tmp 51)], some (43, false)⟩,
 ⟨some 53, .call 14 [(.const (.int .i64 2)), (.tmp 49), (.tmp 52)], some (43, false)⟩,
 ⟨some 54, .bin .neq (.tmp 48) (.tmp 53), some (43, false)⟩,
 ⟨some 55, .pick (.tmp 43) (.const (.bool true)) (.tmp 54), none⟩])
 (.cond (.tmp 55)
  (.seq (.region [
  ⟨some 6, .mov (.const (.bool false)), none⟩])
  .ret)
  .skip))
 (.seq (.region [
 ⟨some 56, .mov (.tmp 0), none⟩,
 ⟨some 57, .mov (.tmp 1), none⟩,
 ⟨some 58, .call 14 [(.const (.int .i64 0)), (.tmp 56), (.tmp 57)], none⟩,
 ⟨some 59, .mov (.tmp 2), none⟩,
 ⟨some 60, .call 14 [(.const (.int .i64 2)), (.tmp 58), (.tmp 59)], none⟩,
 ⟨some 61, .mov (.tmp 0), none⟩,
 ⟨some 62, .mov (.tmp 2), none⟩,
 ⟨some 63, .call 14 [(.const (.int .i64 2)), (.tmp 61), (.tmp 62)], none⟩,
 ⟨some 64, .mov (.tmp 1), none⟩,
 ⟨some 65, .mov (.tmp 2), none⟩,
 ⟨some 66, .call 14 [(.const (.int .i64 2)), (.tmp 64), (.tmp 65)], none⟩,
 ⟨some 67, .call 14 [(.const (.int .i64 0)), (.tmp 63), (.tmp 66)], none⟩,
 ⟨some 68, .bin .eql (.tmp 60) (.tmp 67), none⟩,
 ⟨some 69, .mov (.tmp 68), none⟩,
 ⟨some 70, .mov (.tmp 0), some (69, true)⟩,
 ⟨some 71, .mov (.tmp 1), some (69, true)⟩,
 ⟨some 72, .call 14 [(.const (.int .i64 5)), (.tmp 70), (.tmp 71)], some (69, true)⟩,
 ⟨some 73, .mov (.tmp 1), some (69, true)⟩,
 ⟨some 74, .call 14 [(.const (.int .i64 5)), (.tmp 72), (.tmp 73)], some (69, true)⟩,
 ⟨some 75, .mov (.tmp 0), some (69, true)⟩,
 ⟨some 76, .bin .eql (.tmp 74) (.tmp 75), some (69, true)⟩,
 ⟨some 77, .pick (.tmp 69) (.tmp 76) (.const (.bool false)), none⟩,
 ⟨some 78, .mov (.tmp 77), none⟩,
 ⟨some 79, .call 13 [], some (78, true)⟩,
 ⟨some 80, .pick (.tmp 78) (.tmp 79) (.const (.bool false)), none⟩,
 ⟨some 6, .mov (.tmp 80), none⟩])
 .ret)))),
 [.tmp 6]⟩
theorem low_law02_AluWhole : lowFn Tryd.prog movers 5 = some ⟨ir_law02_AluWhole.n, strip ir_law02_AluWhole.body, ir_law02_AluWhole.res⟩ := by kernel_rfl

/-- strongtx/strongtxlaw02.AluFloats -/
def ir_law02_AluFloats : IFn := ⟨60,
 (.seq (.region [
 ⟨some 4, .mov (.const (.bool false)), none⟩])
 (.seq (.seq (.region [
 ⟨some 5, .mov (.const (.int .i64 12)), none⟩])
 (.block 0
  (.loop 2199023255536
   (.seq (.seq (.region [
   ⟨some 8, .mov (.tmp 5), none⟩,
   ⟨some 9, .bin .leq (.tmp 8) (.const (.int .i64 17)), none⟩])
   (.cond (.tmp 9)
    .skip
    (.exit 0)))
   (.seq (.block 1
    (.seq (.region [
    ⟨some 13, .mov (.tmp 5), none⟩,
    ⟨some 14, .mov (.tmp 0), none⟩,
    ⟨some 15, .mov (.tmp 1), none⟩,
    ⟨some 16, .call 11 [(.tmp 13), (.tmp 14), (.tmp 15)], none⟩,
    ⟨some 12, .mov (.tmp 16), none⟩,
    ⟨some 17, .ext (.tmp 12) 0, none⟩,
    ⟨some 18, .ext (.tmp 12) 1, none⟩,
    ⟨some 6, .mov (.tmp 17), none⟩,
    ⟨some 7, .mov (.tmp 18), none⟩])
    (.seq (.region [
    ⟨some 19, .mov (.tmp 7), none⟩,
    ⟨some 20, .bin .neq (.tmp 19) (.const (.int .i64 0)), none⟩,
    ⟨some 21, .mov (.tmp 20), none⟩,
    ⟨some 22, .mov (.tmp 6), some (21, false)⟩,
    ⟨some 23, .call 15 [(.tmp 22)], some (21, false)⟩,
    ⟨some 24, .mov (.tmp 23), some (21, false)⟩,
    ⟨some 25, .mov (.tmp 6), some (24, true)⟩,
    ⟨some 26, .bin .neq (.tmp 25) (.const (.int .u64 9221120237041090560)), some (24, true)⟩,
    ⟨some 27, .pick (.tmp 24) (.tmp 26) (.const (.bool false)), some (21, false)⟩,
    ⟨some 28, .pick (.tmp 21) (.const (.bool true)) (.tmp 27), none⟩,
    ⟨some 29, .mov (.tmp 28), none⟩,
    ⟨some 30, .mov (.tmp 0), some (29, false)⟩,
    ⟨some 31, .call 15 [(.tmp 30)], some (29, false)⟩,
    ⟨some 32, .mov (.tmp 31), some (29, false)⟩,
    ⟨some 33, .mov (.tmp 1), some (32, false)⟩,
    ⟨some 34, .call 15 [(.tmp 33)], some (32, false)⟩,
    ⟨some 35, .pick (.tmp 32) (.const (.bool true)) (.tmp 34), some (29, false)⟩,
    ⟨some 36, .mov (.tmp 35), some (29, false)⟩,
    ⟨some 37, .mov (.tmp 6), some (36, true)⟩,
    ⟨some 38, .bin .neq (.tmp 37) (.const (.int .u64 9221120237041090560)), some (36, true)⟩,
    ⟨some 39, .pick (.tmp 36) (.tmp 38) (.const (.bool false)), some (29, false)⟩,
    ⟨some 40, .pick (.tmp 29) (.const (.bool true)) (.tmp 39), none⟩])
    (.cond (.tmp 40)
     (.seq (.region [
     ⟨some 4, .mov (.const (.bool false)), none⟩])
     .ret)
     .skip))))
   (.region [
   ⟨some 10, .mov (.tmp 5), none⟩,
   ⟨some 11, .bin .add (.tmp 10) (.const (.int .i64 1)), none⟩,
   ⟨some 5, .mov (.tmp 11), none⟩]))))))
 (.seq (.region [
 ⟨some 41, .mov (.tmp 0), none⟩,
 ⟨some 42, .mov (.tmp 1), none⟩,
 ⟨some 43, .call 14 [(.const (.int .i64 12)), (.tmp 41), (.tmp 42)], none⟩,
 ⟨some 44, .mov (.tmp 1), none⟩,
 ⟨some 45, .mov (.tmp 0), none⟩,
 ⟨some 46, .call 14 [(.const (.int .i64 12)), (.tmp 44), (.tmp 45)], none⟩,
 ⟨some 47, .bin .eql (.tmp 43) (.tmp 46), none⟩,
 ⟨some 48, .mov (.tmp 47), none⟩,
 ⟨some 49, .mov (.tmp 0), some (48, true)⟩,
 ⟨some 50, .mov (.tmp 1), some (48, true)⟩,
 ⟨some 51, .call 14 [(.const (.int .i64 14)), (.tmp 49), (.tmp 50)], some (48, true)⟩,
 ⟨some 52, .mov (.tmp 1), some (48, true)⟩,
 ⟨some 53, .mov (.tmp 0), some (48, true)⟩,
 ⟨some 54, .call 14 [(.const (.int .i64 14)), (.tmp 52), (.tmp 53)], some (48, true)⟩,
 ⟨some 55, .bin .eql (.tmp 51) (.tmp 54), some (48, true)⟩,
 ⟨some 56, .pick (.tmp 48) (.tmp 55) (.const (.bool false)), none⟩,
 ⟨some 57, .mov (.tmp 56), none⟩,
 ⟨some 58, .call 13 [], some (57, true)⟩,
 ⟨some 59, .pick (.tmp 57) (.tmp 58) (.const (.bool false)), none⟩,
 ⟨some 4, .mov (.tmp 59), none⟩])
 .ret))),
 [.tmp 4]⟩
theorem low_law02_AluFloats : lowFn Tryd.prog movers 6 = some ⟨ir_law02_AluFloats.n, strip ir_law02_AluFloats.body, ir_law02_AluFloats.res⟩ := by kernel_rfl

/-- strongtx/strongtxlaw02.AluMinMax -/
def ir_law02_AluMinMax : IFn := ⟨75,
 (.seq (.region [
 ⟨some 4, .mov (.const (.bool false)), none⟩])
 (.seq (.region [
 ⟨some 9, .mov (.tmp 0), none⟩,
 ⟨some 10, .mov (.tmp 1), none⟩,
 ⟨some 11, .call 14 [(.const (.int .i64 16)), (.tmp 9), (.tmp 10)], none⟩,
 ⟨some 12, .mov (.tmp 0), none⟩,
 ⟨some 13, .mov (.tmp 1), none⟩,
 ⟨some 14, .call 14 [(.const (.int .i64 17)), (.tmp 12), (.tmp 13)], none⟩,
 ⟨some 5, .mov (.tmp 11), none⟩,
 ⟨some 6, .mov (.tmp 14), none⟩])
 (.seq (.seq (.region [
 ⟨some 15, .mov (.tmp 5), none⟩,
 ⟨some 16, .mov (.tmp 1), none⟩,
 ⟨some 17, .mov (.tmp 0), none⟩,
 ⟨some 18, .call 14 [(.const (.int .i64 16)), (.tmp 16), (.tmp 17)], none⟩,
 ⟨some 19, .bin .neq (.tmp 15) (.tmp 18), none⟩,
 ⟨some 20, .mov (.tmp 19), none⟩,
 ⟨some 21, .mov (.tmp 6), some (20, false)⟩,
 ⟨some 22, .mov (.tmp 1), some (20, false)⟩,
 ⟨some 23, .mov (.tmp 0), some (20, false)⟩,
 ⟨some 24, .call 14 [(.const (.int .i64 17)), (.tmp 22), (.tmp 23)], some (20, false)⟩,
 ⟨some 25, .bin .neq (.tmp 21) (.tmp 24), some (20, false)⟩,
 ⟨some 26, .pick (.tmp 20) (.const (.bool true)) (.tmp 25), none⟩])
 (.cond (.tmp 26)
  (.seq (.region [
  ⟨some 4, .mov (.const (.bool false)), none⟩])
  .ret)
  .skip))
 (.seq (.seq (.region [
 ⟨some 27, .mov (.tmp 0), none⟩,
 ⟨some 28, .call 15 [(.tmp 27)], none⟩,
 ⟨some 29, .mov (.tmp 28), none⟩,
 ⟨some 30, .mov (.tmp 1), some (29, false)⟩,
 ⟨some 31, .call 15 [(.tmp 30)], some (29, false)⟩,
 ⟨some 32, .pick (.tmp 29) (.const (.bool true)) (.tmp 31), none⟩])
 (.cond (.tmp 32)
  (.seq (.region [
  ⟨some 33, .mov (.tmp 5), none⟩,
  ⟨some 34, .bin .eql (.tmp 33) (.const (.int .u64 9221120237041090560)), none⟩,
  ⟨some 35, .mov (.tmp 34), none⟩,
  ⟨some 36, .mov (.tmp 6), some (35, true)⟩,
  ⟨some 37, .bin .eql (.tmp 36) (.const (.int .u64 9221120237041090560)), some (35, true)⟩,
  ⟨some 38, .pick (.tmp 35) (.tmp 37) (.const (.bool false)), none⟩,
  ⟨some 39, .mov (.tmp 38), none⟩,
  ⟨some 40, .call 13 [], some (39, true)⟩,
  ⟨some 41, .pick (.tmp 39) (.tmp 40) (.const (.bool false)), none⟩,
  ⟨some 4, .mov (.tmp 41), none⟩])
  .ret)
  .skip))
 (.seq (.region [
 ⟨some 42, .mov (.tmp 5), none⟩,
 ⟨some 43, .mov (.tmp 0), none⟩,
 ⟨some 44, .bin .eql (.tmp 42) (.tmp 43), none⟩,
 ⟨some 45, .mov (.tmp 44), none⟩,
 ⟨some 46, .mov (.tmp 6), some (45, true)⟩,
 ⟨some 47, .mov (.tmp 1), some (45, true)⟩,
 ⟨some 48, .bin .eql (.tmp 46) (.tmp 47), some (45, true)⟩,
 ⟨some 49, .pick (.tmp 45) (.tmp 48) (.const (.bool false)), none⟩,
 ⟨some 50, .mov (.tmp 49), none⟩,
 ⟨some 51, .mov (.tmp 5), some (50, false)⟩,
 ⟨some 52, .mov (.tmp 1), some (50, false)⟩,
 ⟨some 53, .bin .eql (.tmp 51) (.tmp 52), some (50, false)⟩,
 ⟨some 54, .mov (.tmp 53), some (50, false)⟩,
 ⟨some 55, .mov (.tmp 6), some (54, true)⟩,
 ⟨some 56, .mov (.tmp 0), some (54, true)⟩,
 ⟨some 57, .bin .eql (.tmp 55) (.tmp 56), some (54, true)⟩,
 ⟨some 58, .pick (.tmp 54) (.tmp 57) (.const (.bool false)), some (50, false)⟩,
 ⟨some 59, .pick (.tmp 50) (.const (.bool true)) (.tmp 58), none⟩,
 ⟨some 7, .mov (.tmp 59), none⟩])
 (.seq (.region [
 ⟨some 60, .call 14 [(.const (.int .i64 16)), (.const (.int .u64 0)), (.const (.int .u64 9223372036854775808))], none⟩,
 ⟨some 8, .mov (.tmp 60), none⟩])
 (.seq (.region [
 ⟨some 61, .mov (.tmp 7), none⟩,
 ⟨some 62, .mov (.tmp 61), none⟩,
 ⟨some 63, .mov (.tmp 6), some (62, true)⟩,
 ⟨some 64, .mov (.tmp 5), some (62, true)⟩,
 ⟨some 65, .call 14 [(.const (.int .i64 19)), (.tmp 63), (.tmp 64)], some (62, true)⟩,
 ⟨some 66, .bin .eql (.tmp 65) (.const (.int .u64 0)), some (62, true)⟩,
 ⟨some 67, .pick (.tmp 62) (.tmp 66) (.const (.bool false)), none⟩,
 ⟨some 68, .mov (.tmp 67), none⟩,
 ⟨some 69, .mov (.tmp 8), some (68, true)⟩,
 ⟨some 70, .bin .eql (.tmp 69) (.const (.int .u64 9223372036854775808)), some (68, true)⟩,
 ⟨some 71, .pick (.tmp 68) (.tmp 70) (.const (.bool false)), none⟩,
 ⟨some 72, .mov (.tmp 71), none⟩,
 ⟨some 73, .call 13 [], some (72, true)⟩,
 ⟨some 74, .pick (.tmp 72) (.tmp 73) (.const (.bool false)), none⟩,
 ⟨some 4, .mov (.tmp 74), none⟩])
 .ret))))))),
 [.tmp 4]⟩
theorem low_law02_AluMinMax : lowFn Tryd.prog movers 7 = some ⟨ir_law02_AluMinMax.n, strip ir_law02_AluMinMax.body, ir_law02_AluMinMax.res⟩ := by kernel_rfl

/-- strongtx/strongtxlaw02.AluCompares -/
def ir_law02_AluCompares : IFn := ⟨66,
 (.seq (.region [
 ⟨some 4, .mov (.const (.bool false)), none⟩])
 (.seq (.seq (.region [
 ⟨some 5, .mov (.const (.int .i64 0)), none⟩])
 (.block 0
  (.loop 549755813488
   (.seq (.seq (.region [
   ⟨some 9, .mov (.tmp 5), none⟩,
   ⟨some 10, .bin .lss (.tmp 9) (.const (.int .i64 2)), none⟩])
   (.cond (.tmp 10)
    .skip
    (.exit 0)))
   (.seq (.block 1
    (.seq (.region [
    ⟨some 13, .mov (.tmp 5), none⟩,
    ⟨some 14, .bin .add (.const (.int .i64 10)) (.tmp 13), none⟩,
    ⟨some 6, .mov (.tmp 14), none⟩])
    (.seq (.region [
    ⟨some 15, .mov (.tmp 6), none⟩,
    ⟨some 16, .mov (.tmp 0), none⟩,
    ⟨some 17, .mov (.tmp 1), none⟩,
    ⟨some 18, .call 14 [(.tmp 15), (.tmp 16), (.tmp 17)], none⟩,
    ⟨some 19, .mov (.tmp 6), none⟩,
    ⟨some 20, .mov (.tmp 1), none⟩,
    ⟨some 21, .mov (.tmp 0), none⟩,
    ⟨some 22, .call 14 [(.tmp 19), (.tmp 20), (.tmp 21)], none⟩,
    ⟨some 23, .bin .add (.tmp 18) (.tmp 22), none⟩,
    ⟨some 24, .mov (.tmp 0), none⟩,
    ⟨some 25, .mov (.tmp 1), none⟩,
    ⟨some 26, .call 14 [(.const (.int .i64 8)), (.tmp 24), (.tmp 25)], none⟩,
    ⟨some 27, .bin .add (.tmp 23) (.tmp 26), none⟩,
    ⟨some 28, .bin .neq (.tmp 27) (.const (.int .u64 1)), none⟩,
    ⟨some 29, .mov (.tmp 28), none⟩,
    ⟨some 30, .mov (.tmp 0), some (29, false)⟩,
    ⟨some 31, .mov (.tmp 1), some (29, false)⟩,
    ⟨some 32, .call 14 [(.const (.int .i64 8)), (.tmp 30), (.tmp 31)], some (29, false)⟩,
    ⟨some 33, .mov (.tmp 0), some (29, false)⟩,
    ⟨some 34, .mov (.tmp 1), some (29, false)⟩,
    ⟨some 35, .call 14 [(.const (.int .i64 9)), (.tmp 33), (.tmp 34)], some (29, false)⟩,
    ⟨some 36, .bin .add (.tmp 32) (.tmp 35), some (29, false)⟩,
    ⟨some 37, .bin .neq (.tmp 36) (.const (.int .u64 1)), some (29, false)⟩,
    ⟨some 38, .pick (.tmp 29) (.const (.bool true)) (.tmp 37), none⟩])
    (.cond (.tmp 38)
     (.seq (.region [
     ⟨some 4, .mov (.const (.bool false)), none⟩])
     .ret)
     .skip))))
   (.region [
   ⟨some 11, .mov (.tmp 5), none⟩,
   ⟨some 12, .bin .add (.tmp 11) (.const (.int .i64 1)), none⟩,
   ⟨some 5, .mov (.tmp 12), none⟩]))))))
 (.seq (.region [
 ⟨some 39, .mov (.tmp 0), none⟩,
 ⟨some 40, .mov (.tmp 1), none⟩,
 ⟨some 41, .call 14 [(.const (.int .i64 19)), (.tmp 39), (.tmp 40)], none⟩,
 ⟨some 42, .mov (.tmp 1), none⟩,
 ⟨some 43, .mov (.tmp 0), none⟩,
 ⟨some 44, .call 14 [(.const (.int .i64 19)), (.tmp 42), (.tmp 43)], none⟩,
 ⟨some 45, .bin .add (.tmp 41) (.tmp 44), none⟩,
 ⟨some 46, .mov (.tmp 0), none⟩,
 ⟨some 47, .mov (.tmp 1), none⟩,
 ⟨some 48, .call 14 [(.const (.int .i64 18)), (.tmp 46), (.tmp 47)], none⟩,
 ⟨some 49, .bin .add (.tmp 45) (.tmp 48), none⟩,
 ⟨some 7, .mov (.tmp 49), none⟩])
 (.seq (.region [
 ⟨some 8, .mov (.const (.int .u64 1)), none⟩])
 (.seq (.seq (.region [
 ⟨some 50, .mov (.tmp 0), none⟩,
 ⟨some 51, .call 15 [(.tmp 50)], none⟩,
 ⟨some 52, .mov (.tmp 51), none⟩,
 ⟨some 53, .mov (.tmp 1), some (52, false)⟩,
 ⟨some 54, .call 15 [(.tmp 53)], some (52, false)⟩,
 ⟨some 55, .pick (.tmp 52) (.const (.bool true)) (.tmp 54), none⟩])
 (.cond (.tmp 55)
  (.region [
  ⟨some 8, .mov (.const (.int .u64 0)), none⟩])
  .skip))
 (.seq (.region [
 ⟨some 56, .mov (.tmp 7), none⟩,
 ⟨some 57, .mov (.tmp 8), none⟩,
 ⟨some 58, .bin .eql (.tmp 56) (.tmp 57), none⟩,
 ⟨some 59, .mov (.tmp 58), none⟩,
 ⟨some 60, .call 14 [(.const (.int .i64 18)), (.const (.int .u64 0)), (.const (.int .u64 9223372036854775808))], some (59, true)⟩,
 ⟨some 61, .bin .eql (.tmp 60) (.const (.int .u64 1)), some (59, true)⟩,
 ⟨some 62, .pick (.tmp 59) (.tmp 61) (.const (.bool false)), none⟩,
 ⟨some 63, .mov (.tmp 62), none⟩,
 ⟨some 64, .call 13 [], some (63, true)⟩,
 ⟨some 65, .pick (.tmp 63) (.tmp 64) (.const (.bool false)), none⟩,
 ⟨some 4, .mov (.tmp 65), none⟩])
 .ret)))))),
 [.tmp 4]⟩
theorem low_law02_AluCompares : lowFn Tryd.prog movers 8 = some ⟨ir_law02_AluCompares.n, strip ir_law02_AluCompares.body, ir_law02_AluCompares.res⟩ := by kernel_rfl

/-- strongtx/strongtxlaw02.AluConverts -/
def ir_law02_AluConverts : IFn := ⟨45,
 (.seq (.region [
 ⟨some 4, .mov (.const (.bool false)), none⟩])
 (.seq (.region [
 ⟨some 7, .mov (.tmp 0), none⟩,
 ⟨some 8, .bin .shr (.tmp 7) (.const (.int .u64 11)), none⟩,
 ⟨some 5, .mov (.tmp 8), none⟩])
 (.seq (.seq (.region [
 ⟨some 9, .mov (.tmp 0), none⟩,
 ⟨some 10, .bin .and (.tmp 9) (.const (.int .u64 1)), none⟩,
 ⟨some 11, .bin .eql (.tmp 10) (.const (.int .u64 1)), none⟩])
 (.cond (.tmp 11)
  (.region [
  ⟨some 12, .mov (.tmp 5), none⟩,
  ⟨some 13, .neg (.tmp 12), none⟩,
  ⟨some 5, .mov (.tmp 13), none⟩])
  .skip))
 (.seq (.seq (.region [
 ⟨some 14, .mov (.tmp 5), none⟩,
 ⟨some 15, .mov (.tmp 1), none⟩,
 ⟨some 16, .call 14 [(.const (.int .i64 20)), (.tmp 14), (.tmp 15)], none⟩,
 ⟨some 17, .mov (.tmp 1), none⟩,
 ⟨some 18, .call 14 [(.const (.int .i64 21)), (.tmp 16), (.tmp 17)], none⟩,
 ⟨some 19, .mov (.tmp 5), none⟩,
 ⟨some 20, .bin .neq (.tmp 18) (.tmp 19), none⟩])
 (.cond (.tmp 20)
  (.seq (.region [
  ⟨some 4, .mov (.const (.bool false)), none⟩])
  .ret)
  .skip))
 (.seq (.region [
 ⟨some 21, .mov (.tmp 1), none⟩,
 ⟨some 22, .bin .or (.tmp 21) (.const (.int .u64 9218868437227405313)), none⟩,
 ⟨some 6, .mov (.tmp 22), none⟩])
 (.seq (.region [
 ⟨some 23, .mov (.tmp 0), none⟩,
 ⟨some 24, .call 14 [(.const (.int .i64 21)), (.const (.int .u64 9218868437227405312)), (.tmp 23)], none⟩,
 ⟨some 25, .bin .eql (.tmp 24) (.const (.int .u64 9223372036854775807)), none⟩,
 ⟨some 26, .mov (.tmp 25), none⟩,
 ⟨some 27, .mov (.tmp 0), some (26, true)⟩,
 ⟨some 28, .call 14 [(.const (.int .i64 21)), (.const (.int .u64 18442240474082181120)), (.tmp 27)], some (26, true)⟩,
 ⟨some 29, .bin .eql (.tmp 28) (.const (.int .u64 9223372036854775808)), some (26, true)⟩,
 ⟨some 30, .pick (.tmp 26) (.tmp 29) (.const (.bool false)), none⟩,
 ⟨some 31, .mov (.tmp 30), none⟩,
 ⟨some 32, .mov (.tmp 6), some (31, true)⟩,
 ⟨some 33, .mov (.tmp 0), some (31, true)⟩,
 ⟨some 34, .call 14 [(.const (.int .i64 21)), (.tmp 32), (.tmp 33)], some (31, true)⟩,
 ⟨some 35, .bin .eql (.tmp 34) (.const (.int .u64 0)), some (31, true)⟩,
 ⟨some 36, .pick (.tmp 31) (.tmp 35) (.const (.bool false)), none⟩,
 ⟨some 37, .mov (.tmp 36), none⟩,
 ⟨some 38, .mov (.tmp 0), some (37, true)⟩,
 ⟨some 39, .call 14 [(.const (.int .i64 21)), (.const (.int .u64 9223372036854775808)), (.tmp 38)], some (37, true)⟩,
 ⟨some 40, .bin .eql (.tmp 39) (.const (.int .u64 0)), some (37, true)⟩,
 ⟨some 41, .pick (.tmp 37) (.tmp 40) (.const (.bool false)), none⟩,
 ⟨some 42, .mov (.tmp 41), none⟩,
 ⟨some 43, .call 13 [], some (42, true)⟩,
 ⟨some 44, .pick (.tmp 42) (.tmp 43) (.const (.bool false)), none⟩,
 ⟨some 4, .mov (.tmp 44), none⟩])
 .ret)))))),
 [.tmp 4]⟩
theorem low_law02_AluConverts : lowFn Tryd.prog movers 9 = some ⟨ir_law02_AluConverts.n, strip ir_law02_AluConverts.body, ir_law02_AluConverts.res⟩ := by kernel_rfl

/-- strongtx/strongtxlaw02.AluNames -/
def ir_law02_AluNames : IFn := ⟨62,
 (.seq (.region [
 ⟨some 4, .mov (.const (.bool false)), none⟩])
 (.seq (.region [
 ⟨some 12, .mov (.tmp 1), none⟩,
 ⟨some 13, .call 16 [(.tmp 12)], none⟩,
 ⟨some 11, .mov (.tmp 13), none⟩,
 ⟨some 14, .ext (.tmp 11) 0, none⟩,
 ⟨some 15, .ext (.tmp 11) 1, none⟩,
 ⟨some 5, .mov (.tmp 14), none⟩,
 ⟨some 6, .mov (.tmp 15), none⟩])
 (.seq (.region [
 ⟨some 17, .mov (.tmp 1), none⟩,
 ⟨some 18, .call 17 [(.tmp 17)], none⟩,
 ⟨some 16, .mov (.tmp 18), none⟩,
 ⟨some 19, .ext (.tmp 16) 0, none⟩,
 ⟨some 20, .ext (.tmp 16) 1, none⟩,
 ⟨some 7, .mov (.tmp 19), none⟩,
 ⟨some 8, .mov (.tmp 20), none⟩])
 (.seq (.seq (.region [
 ⟨some 21, .mov (.tmp 5), none⟩,
 ⟨some 22, .mov (.tmp 7), none⟩,
 ⟨some 23, .bin .neq (.tmp 21) (.tmp 22), none⟩,
 ⟨some 24, .mov (.tmp 23), none⟩,
 ⟨some 25, .mov (.tmp 6), some (24, false)⟩,
 ⟨some 26, .mov (.tmp 8), some (24, false)⟩,
 ⟨some 27, .beq true (.tmp 25) (.tmp 26), some (24, false)⟩,
 ⟨some 28, .pick (.tmp 24) (.const (.bool true)) (.tmp 27), none⟩,
 ⟨some 29, .mov (.tmp 28), none⟩,
 ⟨some 30, .mov (.tmp 0), some (29, false)⟩,
 ⟨some 31, .call 18 [(.tmp 30)], some (29, false)⟩,
 ⟨some 32, .mov (.tmp 0), some (29, false)⟩,
 ⟨some 33, .call 19 [(.tmp 32)], some (29, false)⟩,
 ⟨some 34, .sbin .neq (.tmp 31) (.tmp 33), some (29, false)⟩,
 ⟨some 35, .pick (.tmp 29) (.const (.bool true)) (.tmp 34), none⟩])
 (.cond (.tmp 35)
  (.seq (.region [
  ⟨some 4, .mov (.const (.bool false)), none⟩])
  .ret)
  .skip))
 (.seq (.region [
 ⟨some 37, .mov (.tmp 0), none⟩,
 ⟨some 38, .call 18 [(.tmp 37)], none⟩,
 ⟨some 39, .call 16 [(.tmp 38)], none⟩,
 ⟨some 36, .mov (.tmp 39), none⟩,
 ⟨some 40, .ext (.tmp 36) 0, none⟩,
 ⟨some 41, .ext (.tmp 36) 1, none⟩,
 ⟨some 9, .mov (.tmp 40), none⟩,
 ⟨some 10, .mov (.tmp 41), none⟩])
 (.seq (.region [
 ⟨some 42, .mov (.tmp 10), none⟩,
 ⟨some 43, .mov (.tmp 0), none⟩,
 ⟨some 44, .bin .geq (.tmp 43) (.const (.int .i64 0)), none⟩,
 ⟨some 45, .mov (.tmp 44), none⟩,
 ⟨some 46, .mov (.tmp 0), some (45, true)⟩,
 ⟨some 47, .bin .lss (.tmp 46) (.const (.int .i64 22)), some (45, true)⟩,
 ⟨some 48, .pick (.tmp 45) (.tmp 47) (.const (.bool false)), none⟩,
 ⟨some 49, .beq false (.tmp 42) (.tmp 48), none⟩,
 ⟨some 50, .mov (.tmp 49), none⟩,
 ⟨some 51, .mov (.tmp 10), some (50, true)⟩,
 ⟨some 52, .not (.tmp 51), some (50, true)⟩,
 ⟨some 53, .mov (.tmp 52), some (50, true)⟩,
 ⟨some 54, .mov (.tmp 9), some (53, false)⟩,
 ⟨some 55, .mov (.tmp 0), some (53, false)⟩,
 ⟨some 56, .bin .eql (.tmp 54) (.tmp 55), some (53, false)⟩,
 ⟨some 57, .pick (.tmp 53) (.const (.bool true)) (.tmp 56), some (50, true)⟩,
 ⟨some 58, .pick (.tmp 50) (.tmp 57) (.const (.bool false)), none⟩,
 ⟨some 59, .mov (.tmp 58), none⟩,
 ⟨some 60, .call 13 [], some (59, true)⟩,
 ⟨some 61, .pick (.tmp 59) (.tmp 60) (.const (.bool false)), none⟩,
 ⟨some 4, .mov (.tmp 61), none⟩])
 .ret)))))),
 [.tmp 4]⟩
theorem low_law02_AluNames : lowFn Tryd.prog movers 10 = some ⟨ir_law02_AluNames.n, strip ir_law02_AluNames.body, ir_law02_AluNames.res⟩ := by kernel_rfl

/-- strongtx/alu.Apply -/
def ir_alu_Apply : IFn := ⟨42,
 (.seq (.region [
 ⟨some 6, .mov (.const (.int .u64 0)), none⟩,
 ⟨some 7, .mov (.const (.int .i64 0)), none⟩])
 (.seq (.block 0
  (.seq (.region [
  ⟨some 9, .mov (.tmp 0), none⟩,
  ⟨some 10, .bin .lss (.tmp 9) (.const (.int .i64 0)), none⟩,
  ⟨some 11, .mov (.tmp 10), none⟩,
  ⟨some 12, .mov (.tmp 0), some (11, false)⟩,
  ⟨some 13, .bin .geq (.tmp 12) (.const (.int .i64 22)), some (11, false)⟩,
  ⟨some 14, .pick (.tmp 11) (.const (.bool true)) (.tmp 13), none⟩,
  ⟨some 8, .mov (.tmp 14), none⟩])
  (.cond (.tmp 8)
   (.seq (.region [
   ⟨some 6, .mov (.const (.int .u64 0)), none⟩,
   ⟨some 7, .mov (.const (.int .i64 10)), none⟩])
   .ret)
   (.seq (.region [
   ⟨some 16, .mov (.tmp 0), none⟩,
   ⟨some 17, .bin .eql (.tmp 16) (.const (.int .i64 20)), none⟩,
   ⟨some 15, .mov (.tmp 17), none⟩])
   (.cond (.tmp 15)
    (.seq (.region [
    ⟨some 18, .mov (.tmp 1), none⟩,
    ⟨some 19, .conv .i64 (.tmp 18), none⟩,
    ⟨some 20, .i2f (.tmp 19), none⟩,
    ⟨some 21, .fbits (.tmp 20), none⟩,
    ⟨some 6, .mov (.tmp 21), none⟩,
    ⟨some 7, .mov (.const (.int .i64 0)), none⟩])
    .ret)
    (.seq (.region [
    ⟨some 23, .mov (.tmp 0), none⟩,
    ⟨some 24, .bin .eql (.tmp 23) (.const (.int .i64 21)), none⟩,
    ⟨some 22, .mov (.tmp 24), none⟩])
    (.cond (.tmp 22)
     (.seq (.region [
     ⟨some 25, .mov (.tmp 1), none⟩,
     ⟨some 26, .ffrom (.tmp 25), none⟩,
     ⟨some 27, .call 21 [(.tmp 26)], none⟩,
     ⟨some 28, .conv .u64 (.tmp 27), none⟩,
     ⟨some 6, .mov (.tmp 28), none⟩,
     ⟨some 7, .mov (.const (.int .i64 0)), none⟩])
     .ret)
     (.seq (.region [
     ⟨some 30, .mov (.tmp 0), none⟩,
     ⟨some 31, .bin .geq (.tmp 30) (.const (.int .i64 12)), none⟩,
     ⟨some 29, .mov (.tmp 31), none⟩])
     (.cond (.tmp 29)
      (.seq (.region [
      ⟨some 32, .mov (.tmp 0), none⟩,
      ⟨some 33, .mov (.tmp 1), none⟩,
      ⟨some 34, .ffrom (.tmp 33), none⟩,
      ⟨some 35, .mov (.tmp 2), none⟩,
      ⟨some 36, .ffrom (.tmp 35), none⟩,
      ⟨some 37, .call 23 [(.tmp 32), (.tmp 34), (.tmp 36)], none⟩,
      ⟨some 6, .mov (.tmp 37), none⟩,
      ⟨some 7, .mov (.const (.int .i64 0)), none⟩])
      .ret)
      .skip)))))))))
 (.seq (.region [
 ⟨some 38, .mov (.tmp 0), none⟩,
 ⟨some 39, .mov (.tmp 1), none⟩,
 ⟨some 40, .mov (.tmp 2), none⟩,
 ⟨some 41, .call 24 [(.tmp 38), (.tmp 39), (.tmp 40)], none⟩,
 ⟨some 6, .mov (.tmp 41), none⟩,
 ⟨some 7, .mov (.const (.int .i64 0)), none⟩])
 .ret))),
 [.tmp 6, .tmp 7]⟩
theorem low_alu_Apply : lowFn Tryd.prog movers 11 = some ⟨ir_alu_Apply.n, strip ir_alu_Apply.body, ir_alu_Apply.res⟩ := by kernel_rfl

/-- strongtx/strongtxref02.Apply -/
def ir_ref02_Apply : IFn := ⟨150,
 (.seq (.region [
 ⟨some 6, .mov (.const (.int .u64 0)), none⟩,
 ⟨some 7, .mov (.const (.int .i64 0)), none⟩])
 (.seq (.region [
 ⟨some 11, .mov (.tmp 1), none⟩,
 ⟨some 12, .ffrom (.tmp 11), none⟩,
 ⟨some 13, .mov (.tmp 2), none⟩,
 ⟨some 14, .ffrom (.tmp 13), none⟩,
 ⟨some 8, .mov (.tmp 12), none⟩,
 ⟨some 9, .mov (.tmp 14), none⟩])
 (.seq (.seq (.region [
 ⟨some 15, .mov (.tmp 0), none⟩])
 (.block 0
  (.seq (.region [
  ⟨some 17, .bin .eql (.tmp 15) (.const (.int .i64 0)), none⟩,
  ⟨some 16, .mov (.tmp 17), none⟩])
  (.cond (.tmp 16)
   (.seq (.region [
   ⟨some 18, .mov (.tmp 1), none⟩,
   ⟨some 19, .mov (.tmp 2), none⟩,
   ⟨some 20, .bin .add (.tmp 18) (.tmp 19), none⟩,
   ⟨some 6, .mov (.tmp 20), none⟩,
   ⟨some 7, .mov (.const (.int .i64 0)), none⟩])
   .ret)
   (.seq (.region [
   ⟨some 22, .bin .eql (.tmp 15) (.const (.int .i64 1)), none⟩,
   ⟨some 21, .mov (.tmp 22), none⟩])
   (.cond (.tmp 21)
    (.seq (.region [
    ⟨some 23, .mov (.tmp 1), none⟩,
    ⟨some 24, .mov (.tmp 2), none⟩,
    ⟨some 25, .bin .sub (.tmp 23) (.tmp 24), none⟩,
    ⟨some 6, .mov (.tmp 25), none⟩,
    ⟨some 7, .mov (.const (.int .i64 0)), none⟩])
    .ret)
    (.seq (.region [
    ⟨some 27, .bin .eql (.tmp 15) (.const (.int .i64 2)), none⟩,
    ⟨some 26, .mov (.tmp 27), none⟩])
    (.cond (.tmp 26)
     (.seq (.region [
     ⟨some 28, .mov (.tmp 1), none⟩,
     ⟨some 29, .mov (.tmp 2), none⟩,
     ⟨some 30, .bin .mul (.tmp 28) (.tmp 29), none⟩,
     ⟨some 6, .mov (.tmp 30), none⟩,
     ⟨some 7, .mov (.const (.int .i64 0)), none⟩])
     .ret)
     (.seq (.region [
     ⟨some 32, .bin .eql (.tmp 15) (.const (.int .i64 3)), none⟩,
     ⟨some 31, .mov (.tmp 32), none⟩])
     (.cond (.tmp 31)
      (.seq (.region [
      ⟨some 33, .mov (.tmp 1), none⟩,
      ⟨some 34, .mov (.tmp 2), none⟩,
      ⟨some 35, .bin .and (.tmp 33) (.tmp 34), none⟩,
      ⟨some 6, .mov (.tmp 35), none⟩,
      ⟨some 7, .mov (.const (.int .i64 0)), none⟩])
      .ret)
      (.seq (.region [
      ⟨some 37, .bin .eql (.tmp 15) (.const (.int .i64 4)), none⟩,
      ⟨some 36, .mov (.tmp 37), none⟩])
      (.cond (.tmp 36)
       (.seq (.region [
       ⟨some 38, .mov (.tmp 1), none⟩,
       ⟨some 39, .mov (.tmp 2), none⟩,
       ⟨some 40, .bin .or (.tmp 38) (.tmp 39), none⟩,
       ⟨some 6, .mov (.tmp 40), none⟩,
       ⟨some 7, .mov (.const (.int .i64 0)), none⟩])
       .ret)
       (.seq (.region [
       ⟨some 42, .bin .eql (.tmp 15) (.const (.int .i64 5)), none⟩,
       ⟨some 41, .mov (.tmp 42), none⟩])
       (.cond (.tmp 41)
        (.seq (.region [
        ⟨some 43, .mov (.tmp 1), none⟩,
        ⟨some 44, .mov (.tmp 2), none⟩,
        ⟨some 45, .bin .xor (.tmp 43) (.tmp 44), none⟩,
        ⟨some 6, .mov (.tmp 45), none⟩,
        ⟨some 7, .mov (.const (.int .i64 0)), none⟩])
        .ret)
        (.seq (.region [
        ⟨some 47, .bin .eql (.tmp 15) (.const (.int .i64 6)), none⟩,
        ⟨some 46, .mov (.tmp 47), none⟩])
        (.cond (.tmp 46)
         (.seq (.region [
         ⟨some 48, .mov (.tmp 1), none⟩,
         ⟨some 49, .mov (.tmp 2), none⟩,
         ⟨some 50, .bin .rem (.tmp 49) (.const (.int .u64 64)), none⟩,
         ⟨some 51, .bin .shl (.tmp 48) (.tmp 50), none⟩,
         ⟨some 6, .mov (.tmp 51), none⟩,
         ⟨some 7, .mov (.const (.int .i64 0)), none⟩])
         .ret)
         (.seq (.region [
         ⟨some 53, .bin .eql (.tmp 15) (.const (.int .i64 7)), none⟩,
         ⟨some 52, .mov (.tmp 53), none⟩])
         (.cond (.tmp 52)
          (.seq (.region [
          ⟨some 54, .mov (.tmp 1), none⟩,
          ⟨some 55, .mov (.tmp 2), none⟩,
          ⟨some 56, .bin .rem (.tmp 55) (.const (.int .u64 64)), none⟩,
          ⟨some 57, .bin .shr (.tmp 54) (.tmp 56), none⟩,
          ⟨some 6, .mov (.tmp 57), none⟩,
          ⟨some 7, .mov (.const (.int .i64 0)), none⟩])
          .ret)
          (.seq (.region [
          ⟨some 59, .bin .eql (.tmp 15) (.const (.int .i64 8)), none⟩,
          ⟨some 58, .mov (.tmp 59), none⟩])
          (.cond (.tmp 58)
           (.seq (.region [
           ⟨some 60, .mov (.tmp 1), none⟩,
           ⟨some 61, .mov (.tmp 2), none⟩,
           ⟨some 62, .bin .eql (.tmp 60) (.tmp 61), none⟩,
           ⟨some 63, .call 25 [(.tmp 62)], none⟩,
           ⟨some 6, .mov (.tmp 63), none⟩,
           ⟨some 7, .mov (.const (.int .i64 0)), none⟩])
           .ret)
           (.seq (.region [
           ⟨some 65, .bin .eql (.tmp 15) (.const (.int .i64 9)), none⟩,
           ⟨some 64, .mov (.tmp 65), none⟩])
           (.cond (.tmp 64)
            (.seq (.region [
            ⟨some 66, .mov (.tmp 1), none⟩,
            ⟨some 67, .mov (.tmp 2), none⟩,
            ⟨some 68, .bin .neq (.tmp 66) (.tmp 67), none⟩,
            ⟨some 69, .call 25 [(.tmp 68)], none⟩,
            ⟨some 6, .mov (.tmp 69), none⟩,
            ⟨some 7, .mov (.const (.int .i64 0)), none⟩])
            .ret)
            (.seq (.region [
            ⟨some 71, .bin .eql (.tmp 15) (.const (.int .i64 10)), none⟩,
            ⟨some 70, .mov (.tmp 71), none⟩])
            (.cond (.tmp 70)
             (.seq (.region [
             ⟨some 72, .mov (.tmp 1), none⟩,
             ⟨some 73, .conv .i64 (.tmp 72), none⟩,
             ⟨some 74, .mov (.tmp 2), none⟩,
             ⟨some 75, .conv .i64 (.tmp 74), none⟩,
             ⟨some 76, .bin .lss (.tmp 73) (.tmp 75), none⟩,
             ⟨some 77, .call 25 [(.tmp 76)], none⟩,
             ⟨some 6, .mov (.tmp 77), none⟩,
             ⟨some 7, .mov (.const (.int .i64 0)), none⟩])
             .ret)
             (.seq (.region [
             ⟨some 79, .bin .eql (.tmp 15) (.const (.int .i64 11)), none⟩,
             ⟨some 78, .mov (.tmp 79), none⟩])
             (.cond (.tmp 78)
              (.seq (.region [
              ⟨some 80, .mov (.tmp 1), none⟩,
              ⟨some 81, .mov (.tmp 2), none⟩,
              ⟨some 82, .bin .lss (.tmp 80) (.tmp 81), none⟩,
              ⟨some 83, .call 25 [(.tmp 82)], none⟩,
              ⟨some 6, .mov (.tmp 83), none⟩,
              ⟨some 7, .mov (.const (.int .i64 0)), none⟩])
              .ret)
              (.seq (.region [
              ⟨some 85, .bin .eql (.tmp 15) (.const (.int .i64 12)), none⟩,
              ⟨some 84, .mov (.tmp 85), none⟩])
              (.cond (.tmp 84)
               (.seq (.region [
               ⟨some 86, .mov (.tmp 8), none⟩,
               ⟨some 87, .mov (.tmp 9), none⟩,
               ⟨some 88, .flt .add (.tmp 86) (.tmp 87), none⟩,
               ⟨some 89, .call 26 [(.tmp 88)], none⟩,
               ⟨some 6, .mov (.tmp 89), none⟩,
               ⟨some 7, .mov (.const (.int .i64 0)), none⟩])
               .ret)
               (.seq (.region [
               ⟨some 91, .bin .eql (.tmp 15) (.const (.int .i64 13)), none⟩,
               ⟨some 90, .mov (.tmp 91), none⟩])
               (.cond (.tmp 90)
                (.seq (.region [
                ⟨some 92, .mov (.tmp 8), none⟩,
                ⟨some 93, .mov (.tmp 9), none⟩,
                ⟨some 94, .flt .sub (.tmp 92) (.tmp 93), none⟩,
                ⟨some 95, .call 26 [(.tmp 94)], none⟩,
                ⟨some 6, .mov (.tmp 95), none⟩,
                ⟨some 7, .mov (.const (.int .i64 0)), none⟩])
                .ret)
                (.seq (.region [
                ⟨some 97, .bin .eql (.tmp 15) (.const (.int .i64 14)), none⟩,
                ⟨some 96, .mov (.tmp 97), none⟩])
                (.cond (.tmp 96)
                 (.seq (.region [
                 ⟨some 98, .mov (.tmp 8), none⟩,
                 ⟨some 99, .mov (.tmp 9), none⟩,
                 ⟨some 100, .flt .mul (.tmp 98) (.tmp 99), none⟩,
                 ⟨some 101, .call 26 [(.tmp 100)], none⟩,
                 ⟨some 6, .mov (.tmp 101), none⟩,
                 ⟨some 7, .mov (.const (.int .i64 0)), none⟩])
                 .ret)
                 (.seq (.region [
                 ⟨some 103, .bin .eql (.tmp 15) (.const (.int .i64 15)), none⟩,
                 ⟨some 102, .mov (.tmp 103), none⟩])
                 (.cond (.tmp 102)
                  (.seq (.region [
                  ⟨some 104, .mov (.tmp 8), none⟩,
                  ⟨some 105, .mov (.tmp 9), none⟩,
                  ⟨some 106, .flt .quo (.tmp 104) (.tmp 105), none⟩,
                  ⟨some 107, .call 26 [(.tmp 106)], none⟩,
                  ⟨some 6, .mov (.tmp 107), none⟩,
                  ⟨some 7, .mov (.const (.int .i64 0)), none⟩])
                  .ret)
                  (.seq (.seq (.region [
                  ⟨some 109, .bin .eql (.tmp 15) (.const (.int .i64 16)), none⟩,
                  ⟨some 108, .mov (.tmp 109), none⟩])
                  (.cond (.tmp 108)
                   .skip
                   (.region [
                   ⟨some 110, .bin .eql (.tmp 15) (.const (.int .i64 17)), none⟩,
                   ⟨some 108, .mov (.tmp 110), none⟩])))
                  (.cond (.tmp 108)
                   (.seq (.seq (.region [
                   ⟨some 111, .mov (.tmp 1), none⟩,
                   ⟨some 112, .call 27 [(.tmp 111)], none⟩,
                   ⟨some 113, .mov (.tmp 112), none⟩,
                   ⟨some 114, .mov (.tmp 2), some (113, false)⟩,
                   ⟨some 115, .call 27 [(.tmp 114)], some (113, false)⟩,
                   ⟨some 116, .pick (.tmp 113) (.const (.bool true)) (.tmp 115), none⟩])
                   (.cond (.tmp 116)
                    (.seq (.region [
                    ⟨some 6, .mov (.const (.int .u64 9221120237041090560)), none⟩,
                    ⟨some 7, .mov (.const (.int .i64 0)), none⟩])
                    .ret)
                    .skip))
                   (.seq (.region [
                   ⟨some 117, .mov (.tmp 1), none⟩,
                   ⟨some 118, .mov (.tmp 2), none⟩,
                   ⟨some 119, .call 28 [(.tmp 117), (.tmp 118)], none⟩,
                   ⟨some 10, .mov (.tmp 119), none⟩])
                   (.seq (.seq (.region [
                   ⟨some 120, .mov (.tmp 0), none⟩,
                   ⟨some 121, .bin .eql (.tmp 120) (.const (.int .i64 17)), none⟩])
                   (.cond (.tmp 121)
                    (.region [
                    ⟨some 122, .mov (.tmp 1), none⟩,
                    ⟨some 123, .mov (.tmp 2), none⟩,
                    ⟨some 124, .bin .xor (.tmp 122) (.tmp 123), none⟩,
                    ⟨some 125, .mov (.tmp 10), none⟩,
                    ⟨some 126, .bin .xor (.tmp 124) (.tmp 125), none⟩,
                    ⟨some 10, .mov (.tmp 126), none⟩])
                    .skip))
                   (.seq (.region [
                   ⟨some 127, .mov (.tmp 10), none⟩,
                   ⟨some 6, .mov (.tmp 127), none⟩,
                   ⟨some 7, .mov (.const (.int .i64 0)), none⟩])
                   .ret))))
                   (.seq (.region [
                   ⟨some 129, .bin .eql (.tmp 15) (.const (.int .i64 18)), none⟩,
                   ⟨some 128, .mov (.tmp 129), none⟩])
                   (.cond (.tmp 128)
                    (.seq (.region [
                    ⟨some 130, .mov (.tmp 8), none⟩,
                    ⟨some 131, .mov (.tmp 9), none⟩,
                    ⟨some 132, .fbin .eql (.tmp 130) (.tmp 131), none⟩,
                    ⟨some 133, .call 25 [(.tmp 132)], none⟩,
                    ⟨some 6, .mov (.tmp 133), none⟩,
                    ⟨some 7, .mov (.const (.int .i64 0)), none⟩])
                    .ret)
                    (.seq (.region [
                    ⟨some 135, .bin .eql (.tmp 15) (.const (.int .i64 19)), none⟩,
                    ⟨some 134, .mov (.tmp 135), none⟩])
                    (.cond (.tmp 134)
                     (.seq (.region [
                     ⟨some 136, .mov (.tmp 8), none⟩,
                     ⟨some 137, .mov (.tmp 9), none⟩,
                     ⟨some 138, .fbin .lss (.tmp 136) (.tmp 137), none⟩,
                     ⟨some 139, .call 25 [(.tmp 138)], none⟩,
                     ⟨some 6, .mov (.tmp 139), none⟩,
                     ⟨some 7, .mov (.const (.int .i64 0)), none⟩])
                     .ret)
                     (.seq (.region [
                     ⟨some 141, .bin .eql (.tmp 15) (.const (.int .i64 20)), none⟩,
                     ⟨some 140, .mov (.tmp 141), none⟩])
                     (.cond (.tmp 140)
                      (.seq (.region [
                      ⟨some 142, .mov (.tmp 1), none⟩,
                      ⟨some 143, .conv .i64 (.tmp 142), none⟩,
                      ⟨some 144, .i2f (.tmp 143), none⟩,
                      ⟨some 145, .fbits (.tmp 144), none⟩,
                      ⟨some 6, .mov (.tmp 145), none⟩,
                      ⟨some 7, .mov (.const (.int .i64 0)), none⟩])
                      .ret)
                      (.seq (.region [
                      ⟨some 147, .bin .eql (.tmp 15) (.const (.int .i64 21)), none⟩,
                      ⟨some 146, .mov (.tmp 147), none⟩])
                      (.cond (.tmp 146)
                       (.seq (.region [
                       ⟨some 148, .mov (.tmp 1), none⟩,
                       ⟨some 149, .call 29 [(.tmp 148)], none⟩,
                       ⟨some 6, .mov (.tmp 149), none⟩,
                       ⟨some 7, .mov (.const (.int .i64 0)), none⟩])
                       .ret)
                       .skip))))))))))))))))))))))))))))))))))))))))))))
 (.seq (.region [
 ⟨some 6, .mov (.const (.int .u64 0)), none⟩,
 ⟨some 7, .mov (.const (.int .i64 10)), none⟩])
 .ret)))),
 [.tmp 6, .tmp 7]⟩
theorem low_ref02_Apply : lowFn Tryd.prog movers 12 = some ⟨ir_ref02_Apply.n, strip ir_ref02_Apply.body, ir_ref02_Apply.res⟩ := by kernel_rfl

/-- strongtx/strongtxlaw02.awake -/
def ir_law02_awake : IFn := ⟨31,
 (.seq (.region [
 ⟨some 0, .mov (.const (.bool false)), none⟩])
 (.seq (.region [
 ⟨some 6, .call 11 [(.const (.int .i64 12)), (.const (.int .u64 4607182418800017408)), (.const (.int .u64 4607182418800017408))], none⟩,
 ⟨some 5, .mov (.tmp 6), none⟩,
 ⟨some 7, .ext (.tmp 5) 0, none⟩,
 ⟨some 8, .ext (.tmp 5) 1, none⟩,
 ⟨some 1, .mov (.tmp 7), none⟩,
 ⟨some 2, .mov (.tmp 8), none⟩])
 (.seq (.region [
 ⟨some 10, .call 11 [(.const (.int .i64 10)), (.const (.int .u64 9223372036854775808)), (.const (.int .u64 0))], none⟩,
 ⟨some 9, .mov (.tmp 10), none⟩,
 ⟨some 11, .ext (.tmp 9) 0, none⟩,
 ⟨some 12, .ext (.tmp 9) 1, none⟩,
 ⟨some 3, .mov (.tmp 11), none⟩,
 ⟨some 4, .mov (.tmp 12), none⟩])
 (.seq (.region [
 ⟨some 13, .mov (.tmp 2), none⟩,
 ⟨some 14, .bin .eql (.tmp 13) (.const (.int .i64 0)), none⟩,
 ⟨some 15, .mov (.tmp 14), none⟩,
 ⟨some 16, .mov (.tmp 1), some (15, true)⟩,
 ⟨some 17, .bin .eql (.tmp 16) (.const (.int .u64 4611686018427387904)), some (15, true)⟩,
 ⟨some 18, .pick (.tmp 15) (.tmp 17) (.const (.bool false)), none⟩,
 ⟨some 19, .mov (.tmp 18), none⟩,
 ⟨some 20, .mov (.tmp 4), some (19, true)⟩,
 ⟨some 21, .bin .eql (.tmp 20) (.const (.int .i64 0)), some (19, true)⟩,
 ⟨some 22, .pick (.tmp 19) (.tmp 21) (.const (.bool false)), none⟩,
 ⟨some 23, .mov (.tmp 22), none⟩,
 ⟨some 24, .mov (.tmp 3), some (23, true)⟩,
 ⟨some 25, .bin .eql (.tmp 24) (.const (.int .u64 1)), some (23, true)⟩,
 ⟨some 26, .pick (.tmp 23) (.tmp 25) (.const (.bool false)), none⟩,
 ⟨some 27, .mov (.tmp 26), none⟩,
 ⟨some 28, .call 18 [(.const (.int .i64 16))], some (27, true)⟩,
 ⟨some 29, .sbin .eql (.tmp 28) (.const (.string ⟨#[102, 109, 105, 110]⟩)), some (27, true)⟩,
 ⟨some 30, .pick (.tmp 27) (.tmp 29) (.const (.bool false)), none⟩,
 ⟨some 0, .mov (.tmp 30), none⟩])
 .ret)))),
 [.tmp 0]⟩
theorem low_law02_awake : lowFn Tryd.prog movers 13 = some ⟨ir_law02_awake.n, strip ir_law02_awake.body, ir_law02_awake.res⟩ := by kernel_rfl

/-- strongtx/strongtxlaw02.at -/
def ir_law02_at : IFn := ⟨17,
 (.seq (.region [
 ⟨some 6, .mov (.const (.int .u64 0)), none⟩])
 (.seq (.region [
 ⟨some 10, .mov (.tmp 0), none⟩,
 ⟨some 11, .mov (.tmp 1), none⟩,
 ⟨some 12, .mov (.tmp 2), none⟩,
 ⟨some 13, .call 11 [(.tmp 10), (.tmp 11), (.tmp 12)], none⟩,
 ⟨some 9, .mov (.tmp 13), none⟩,
 ⟨some 14, .ext (.tmp 9) 0, none⟩,
 ⟨some 15, .ext (.tmp 9) 1, none⟩,
 ⟨some 7, .mov (.tmp 14), none⟩,
 ⟨some 8, .mov (.tmp 15), none⟩])
 (.seq (.region [
 ⟨some 16, .mov (.tmp 7), none⟩,
 ⟨some 6, .mov (.tmp 16), none⟩])
 .ret))),
 [.tmp 6]⟩
theorem low_law02_at : lowFn Tryd.prog movers 14 = some ⟨ir_law02_at.n, strip ir_law02_at.body, ir_law02_at.res⟩ := by kernel_rfl

/-- strongtx/strongtxlaw02.nan -/
def ir_law02_nan : IFn := ⟨11,
 (.seq (.region [
 ⟨some 2, .mov (.const (.bool false)), none⟩])
 (.seq (.region [
 ⟨some 3, .mov (.tmp 0), none⟩,
 ⟨some 4, .bin .and (.tmp 3) (.const (.int .u64 9218868437227405312)), none⟩,
 ⟨some 5, .bin .eql (.tmp 4) (.const (.int .u64 9218868437227405312)), none⟩,
 ⟨some 6, .mov (.tmp 5), none⟩,
 ⟨some 7, .mov (.tmp 0), some (6, true)⟩,
 ⟨some 8, .bin .and (.tmp 7) (.const (.int .u64 4503599627370495)), some (6, true)⟩,
 ⟨some 9, .bin .neq (.tmp 8) (.const (.int .u64 0)), some (6, true)⟩,
 ⟨some 10, .pick (.tmp 6) (.tmp 9) (.const (.bool false)), none⟩,
 ⟨some 2, .mov (.tmp 10), none⟩])
 .ret)),
 [.tmp 2]⟩
theorem low_law02_nan : lowFn Tryd.prog movers 15 = some ⟨ir_law02_nan.n, strip ir_law02_nan.body, ir_law02_nan.res⟩ := by kernel_rfl

/-- strongtx/alu.Number -/
def ir_alu_Number : IFn := ⟨15,
 (.seq (.region [
 ⟨some 2, .mov (.const (.int .i64 0)), none⟩,
 ⟨some 3, .mov (.const (.bool false)), none⟩])
 (.seq (.seq (.region [
 ⟨some 5, .mov (.const (.int .i64 0)), none⟩])
 (.block 0
  (.loop 32764
   (.seq (.region [
   ⟨some 6, .bin .lss (.tmp 5) (.const (.int .i64 22)), none⟩])
   (.seq (.cond (.tmp 6)
    .skip
    (.exit 0))
   (.seq (.block 1
    (.seq (.region [
    ⟨some 7, .mov (.tmp 5), none⟩,
    ⟨some 4, .mov (.tmp 7), none⟩])
    (.seq (.region [
    ⟨some 8, .mov (.tmp 4), none⟩,
    ⟨some 9, .ixa 22 1 (.global 0) (.tmp 8), none⟩,
    ⟨some 10, .ld (.tmp 9), none⟩,
    ⟨some 11, .mov (.tmp 0), none⟩,
    ⟨some 12, .sbin .eql (.tmp 10) (.tmp 11), none⟩])
    (.cond (.tmp 12)
     (.seq (.region [
     ⟨some 13, .mov (.tmp 4), none⟩,
     ⟨some 2, .mov (.tmp 13), none⟩,
     ⟨some 3, .mov (.const (.bool true)), none⟩])
     .ret)
     .skip))))
   (.region [
   ⟨some 14, .bin .add (.tmp 5) (.const (.int .i64 1)), none⟩,
   ⟨some 5, .mov (.tmp 14), none⟩])))))))
 (.seq (.region [
 ⟨some 2, .mov (.const (.int .i64 0)), none⟩,
 ⟨some 3, .mov (.const (.bool false)), none⟩])
 .ret))),
 [.tmp 2, .tmp 3]⟩
theorem low_alu_Number : lowFn Tryd.prog movers 16 = some ⟨ir_alu_Number.n, strip ir_alu_Number.body, ir_alu_Number.res⟩ := by kernel_rfl

/-- strongtx/strongtxref02.Number -/
def ir_ref02_Number : IFn := ⟨20,
 (.seq (.region [
 ⟨some 2, .mov (.const (.int .i64 0)), none⟩,
 ⟨some 3, .mov (.const (.bool false)), none⟩])
 (.seq (.region [
 ⟨some 6, .call 30 [], none⟩,
 ⟨some 4, .mov (.tmp 6), none⟩])
 (.seq (.seq (.region [
 ⟨some 5, .mov (.const (.int .i64 0)), none⟩])
 (.block 0
  (.loop 1048492
   (.seq (.seq (.region [
   ⟨some 7, .mov (.tmp 5), none⟩,
   ⟨some 8, .mov (.tmp 4), none⟩,
   ⟨some 9, .len (.tmp 8), none⟩,
   ⟨some 10, .bin .lss (.tmp 7) (.tmp 9), none⟩])
   (.cond (.tmp 10)
    .skip
    (.exit 0)))
   (.seq (.block 1
    (.seq (.region [
    ⟨some 13, .mov (.tmp 4), none⟩,
    ⟨some 14, .mov (.tmp 5), none⟩,
    ⟨some 15, .ixs 1 (.tmp 13) (.tmp 14), none⟩,
    ⟨some 16, .ld (.tmp 15), none⟩,
    ⟨some 17, .mov (.tmp 0), none⟩,
    ⟨some 18, .sbin .eql (.tmp 16) (.tmp 17), none⟩])
    (.cond (.tmp 18)
     (.seq (.region [
     ⟨some 19, .mov (.tmp 5), none⟩,
     ⟨some 2, .mov (.tmp 19), none⟩,
     ⟨some 3, .mov (.const (.bool true)), none⟩])
     .ret)
     .skip)))
   (.region [
   ⟨some 11, .mov (.tmp 5), none⟩,
   ⟨some 12, .bin .add (.tmp 11) (.const (.int .i64 1)), none⟩,
   ⟨some 5, .mov (.tmp 12), none⟩]))))))
 (.seq (.region [
 ⟨some 2, .mov (.const (.int .i64 0)), none⟩,
 ⟨some 3, .mov (.const (.bool false)), none⟩])
 .ret)))),
 [.tmp 2, .tmp 3]⟩
theorem low_ref02_Number : lowFn Tryd.prog movers 17 = some ⟨ir_ref02_Number.n, strip ir_ref02_Number.body, ir_ref02_Number.res⟩ := by kernel_rfl

/-- strongtx/alu.Name -/
def ir_alu_Name : IFn := ⟨12,
 (.seq (.region [
 ⟨some 2, .mov (.const (.string ⟨#[]⟩)), none⟩])
 (.seq (.seq (.region [
 ⟨some 3, .mov (.tmp 0), none⟩,
 ⟨some 4, .bin .lss (.tmp 3) (.const (.int .i64 0)), none⟩,
 ⟨some 5, .mov (.tmp 4), none⟩,
 ⟨some 6, .mov (.tmp 0), some (5, false)⟩,
 ⟨some 7, .bin .geq (.tmp 6) (.const (.int .i64 22)), some (5, false)⟩,
 ⟨some 8, .pick (.tmp 5) (.const (.bool true)) (.tmp 7), none⟩])
 (.cond (.tmp 8)
  (.seq (.region [
  ⟨some 2, .mov (.const (.string ⟨#[]⟩)), none⟩])
  .ret)
  .skip))
 (.seq (.region [
 ⟨some 9, .mov (.tmp 0), none⟩,
 ⟨some 10, .ixa 22 1 (.global 0) (.tmp 9), none⟩,
 ⟨some 11, .ld (.tmp 10), none⟩,
 ⟨some 2, .mov (.tmp 11), none⟩])
 .ret))),
 [.tmp 2]⟩
theorem low_alu_Name : lowFn Tryd.prog movers 18 = some ⟨ir_alu_Name.n, strip ir_alu_Name.body, ir_alu_Name.res⟩ := by kernel_rfl

/-- strongtx/strongtxref02.Name -/
def ir_ref02_Name : IFn := ⟨13,
 (.seq (.region [
 ⟨some 2, .mov (.const (.string ⟨#[]⟩)), none⟩])
 (.seq (.seq (.region [
 ⟨some 3, .mov (.tmp 0), none⟩,
 ⟨some 4, .bin .lss (.tmp 3) (.const (.int .i64 0)), none⟩,
 ⟨some 5, .mov (.tmp 4), none⟩,
 ⟨some 6, .mov (.tmp 0), some (5, false)⟩,
 ⟨some 7, .bin .geq (.tmp 6) (.const (.int .i64 22)), some (5, false)⟩,
 ⟨some 8, .pick (.tmp 5) (.const (.bool true)) (.tmp 7), none⟩])
 (.cond (.tmp 8)
  (.seq (.region [
  ⟨some 2, .mov (.const (.string ⟨#[]⟩)), none⟩])
  .ret)
  .skip))
 (.seq (.region [
 ⟨some 9, .call 30 [], none⟩,
 ⟨some 10, .mov (.tmp 0), none⟩,
 ⟨some 11, .ixs 1 (.tmp 9) (.tmp 10), none⟩,
 ⟨some 12, .ld (.tmp 11), none⟩,
 ⟨some 2, .mov (.tmp 12), none⟩])
 .ret))),
 [.tmp 2]⟩
theorem low_ref02_Name : lowFn Tryd.prog movers 19 = some ⟨ir_ref02_Name.n, strip ir_ref02_Name.body, ir_ref02_Name.res⟩ := by kernel_rfl

/-- strongtx/alu.toInt -/
def ir_alu_toInt : IFn := ⟨14,
 (.seq (.region [
 ⟨some 2, .mov (.const (.int .i64 0)), none⟩])
 (.seq (.block 0
  (.seq (.region [
  ⟨some 4, .mov (.tmp 0), none⟩,
  ⟨some 5, .call 31 [(.tmp 4)], none⟩,
  ⟨some 3, .mov (.tmp 5), none⟩])
  (.cond (.tmp 3)
   (.seq (.region [
   ⟨some 2, .mov (.const (.int .i64 0)), none⟩])
   .ret)
   (.seq (.region [
   ⟨some 7, .mov (.tmp 0), none⟩,
   ⟨some 8, .fbin .geq (.tmp 7) (.const (.float .f64 4890909195324358656)), none⟩,
   ⟨some 6, .mov (.tmp 8), none⟩])
   (.cond (.tmp 6)
    (.seq (.region [
    ⟨some 2, .mov (.const (.int .i64 9223372036854775807)), none⟩])
    .ret)
    (.seq (.region [
    ⟨some 10, .mov (.tmp 0), none⟩,
    ⟨some 11, .fbin .lss (.tmp 10) (.const (.float .f64 14114281232179134464)), none⟩,
    ⟨some 9, .mov (.tmp 11), none⟩])
    (.cond (.tmp 9)
     (.seq (.region [
     ⟨some 2, .mov (.const (.int .i64 (-9223372036854775808))), none⟩])
     .ret)
     .skip)))))))
 (.seq (.region [
 ⟨some 12, .mov (.tmp 0), none⟩,
 ⟨some 13, .f2i .i64 (.tmp 12), none⟩,
 ⟨some 2, .mov (.tmp 13), none⟩])
 .ret))),
 [.tmp 2]⟩
theorem low_alu_toInt : lowFn Tryd.prog movers 21 = some ⟨ir_alu_toInt.n, strip ir_alu_toInt.body, ir_alu_toInt.res⟩ := by kernel_rfl

/-- strongtx/alu.floats -/
def ir_alu_floats : IFn := ⟨64,
 (.seq (.region [
 ⟨some 6, .mov (.const (.int .u64 0)), none⟩])
 (.seq (.region [
 ⟨some 8, .mov (.tmp 1), none⟩,
 ⟨some 9, .call 31 [(.tmp 8)], none⟩,
 ⟨some 10, .mov (.tmp 9), none⟩,
 ⟨some 11, .mov (.tmp 2), some (10, false)⟩,
 ⟨some 12, .call 31 [(.tmp 11)], some (10, false)⟩,
 ⟨some 13, .pick (.tmp 10) (.const (.bool true)) (.tmp 12), none⟩,
 ⟨some 7, .mov (.tmp 13), none⟩])
 (.seq (.seq (.region [
 ⟨some 14, .mov (.tmp 0), none⟩])
 (.block 0
  (.seq (.region [
  ⟨some 16, .bin .eql (.tmp 14) (.const (.int .i64 12)), none⟩,
  ⟨some 15, .mov (.tmp 16), none⟩])
  (.cond (.tmp 15)
   (.seq (.region [
   ⟨some 17, .mov (.tmp 1), none⟩,
   ⟨some 18, .mov (.tmp 2), none⟩,
   ⟨some 19, .flt .add (.tmp 17) (.tmp 18), none⟩,
   ⟨some 20, .call 32 [(.tmp 19)], none⟩,
   ⟨some 6, .mov (.tmp 20), none⟩])
   .ret)
   (.seq (.region [
   ⟨some 22, .bin .eql (.tmp 14) (.const (.int .i64 13)), none⟩,
   ⟨some 21, .mov (.tmp 22), none⟩])
   (.cond (.tmp 21)
    (.seq (.region [
    ⟨some 23, .mov (.tmp 1), none⟩,
    ⟨some 24, .mov (.tmp 2), none⟩,
    ⟨some 25, .flt .sub (.tmp 23) (.tmp 24), none⟩,
    ⟨some 26, .call 32 [(.tmp 25)], none⟩,
    ⟨some 6, .mov (.tmp 26), none⟩])
    .ret)
    (.seq (.region [
    ⟨some 28, .bin .eql (.tmp 14) (.const (.int .i64 14)), none⟩,
    ⟨some 27, .mov (.tmp 28), none⟩])
    (.cond (.tmp 27)
     (.seq (.region [
     ⟨some 29, .mov (.tmp 1), none⟩,
     ⟨some 30, .mov (.tmp 2), none⟩,
     ⟨some 31, .flt .mul (.tmp 29) (.tmp 30), none⟩,
     ⟨some 32, .call 32 [(.tmp 31)], none⟩,
     ⟨some 6, .mov (.tmp 32), none⟩])
     .ret)
     (.seq (.region [
     ⟨some 34, .bin .eql (.tmp 14) (.const (.int .i64 15)), none⟩,
     ⟨some 33, .mov (.tmp 34), none⟩])
     (.cond (.tmp 33)
      (.seq (.region [
      ⟨some 35, .mov (.tmp 1), none⟩,
      ⟨some 36, .mov (.tmp 2), none⟩,
      ⟨some 37, .flt .quo (.tmp 35) (.tmp 36), none⟩,
      ⟨some 38, .call 32 [(.tmp 37)], none⟩,
      ⟨some 6, .mov (.tmp 38), none⟩])
      .ret)
      (.seq (.region [
      ⟨some 40, .bin .eql (.tmp 14) (.const (.int .i64 18)), none⟩,
      ⟨some 39, .mov (.tmp 40), none⟩])
      (.cond (.tmp 39)
       (.seq (.region [
       ⟨some 41, .mov (.tmp 1), none⟩,
       ⟨some 42, .mov (.tmp 2), none⟩,
       ⟨some 43, .fbin .eql (.tmp 41) (.tmp 42), none⟩,
       ⟨some 44, .call 33 [(.tmp 43)], none⟩,
       ⟨some 6, .mov (.tmp 44), none⟩])
       .ret)
       (.seq (.region [
       ⟨some 46, .bin .eql (.tmp 14) (.const (.int .i64 19)), none⟩,
       ⟨some 45, .mov (.tmp 46), none⟩])
       (.cond (.tmp 45)
        (.seq (.region [
        ⟨some 47, .mov (.tmp 1), none⟩,
        ⟨some 48, .mov (.tmp 2), none⟩,
        ⟨some 49, .fbin .lss (.tmp 47) (.tmp 48), none⟩,
        ⟨some 50, .call 33 [(.tmp 49)], none⟩,
        ⟨some 6, .mov (.tmp 50), none⟩])
        .ret)
        .skip))))))))))))))
 (.seq (.block 1
  (.seq (.region [
  ⟨some 52, .mov (.tmp 7), none⟩,
  ⟨some 51, .mov (.tmp 52), none⟩])
  (.cond (.tmp 51)
   (.seq (.region [
   ⟨some 6, .mov (.const (.int .u64 9221120237041090560)), none⟩])
   .ret)
   (.seq (.region [
   ⟨some 54, .mov (.tmp 0), none⟩,
   ⟨some 55, .bin .eql (.tmp 54) (.const (.int .i64 16)), none⟩,
   ⟨some 53, .mov (.tmp 55), none⟩])
   (.cond (.tmp 53)
    (.seq (.region [
    ⟨some 56, .mov (.tmp 1), none⟩,
    ⟨some 57, .mov (.tmp 2), none⟩,
    ⟨some 58, .call 34 [(.tmp 56), (.tmp 57)], none⟩,
    ⟨some 59, .call 32 [(.tmp 58)], none⟩,
    ⟨some 6, .mov (.tmp 59), none⟩])
    .ret)
    .skip)))))
 (.seq (.region [
 ⟨some 60, .mov (.tmp 1), none⟩,
 ⟨some 61, .mov (.tmp 2), none⟩,
 ⟨some 62, .call 35 [(.tmp 60), (.tmp 61)], none⟩,
 ⟨some 63, .call 32 [(.tmp 62)], none⟩,
 ⟨some 6, .mov (.tmp 63), none⟩])
 .ret))))),
 [.tmp 6]⟩
theorem low_alu_floats : lowFn Tryd.prog movers 23 = some ⟨ir_alu_floats.n, strip ir_alu_floats.body, ir_alu_floats.res⟩ := by kernel_rfl

/-- strongtx/alu.integers -/
def ir_alu_integers : IFn := ⟨74,
 (.seq (.region [
 ⟨some 6, .mov (.const (.int .u64 0)), none⟩])
 (.seq (.seq (.region [
 ⟨some 7, .mov (.tmp 0), none⟩])
 (.block 0
  (.seq (.region [
  ⟨some 9, .bin .eql (.tmp 7) (.const (.int .i64 0)), none⟩,
  ⟨some 8, .mov (.tmp 9), none⟩])
  (.cond (.tmp 8)
   (.seq (.region [
   ⟨some 10, .mov (.tmp 1), none⟩,
   ⟨some 11, .mov (.tmp 2), none⟩,
   ⟨some 12, .bin .add (.tmp 10) (.tmp 11), none⟩,
   ⟨some 6, .mov (.tmp 12), none⟩])
   .ret)
   (.seq (.region [
   ⟨some 14, .bin .eql (.tmp 7) (.const (.int .i64 1)), none⟩,
   ⟨some 13, .mov (.tmp 14), none⟩])
   (.cond (.tmp 13)
    (.seq (.region [
    ⟨some 15, .mov (.tmp 1), none⟩,
    ⟨some 16, .mov (.tmp 2), none⟩,
    ⟨some 17, .bin .sub (.tmp 15) (.tmp 16), none⟩,
    ⟨some 6, .mov (.tmp 17), none⟩])
    .ret)
    (.seq (.region [
    ⟨some 19, .bin .eql (.tmp 7) (.const (.int .i64 2)), none⟩,
    ⟨some 18, .mov (.tmp 19), none⟩])
    (.cond (.tmp 18)
     (.seq (.region [
     ⟨some 20, .mov (.tmp 1), none⟩,
     ⟨some 21, .mov (.tmp 2), none⟩,
     ⟨some 22, .bin .mul (.tmp 20) (.tmp 21), none⟩,
     ⟨some 6, .mov (.tmp 22), none⟩])
     .ret)
     (.seq (.region [
     ⟨some 24, .bin .eql (.tmp 7) (.const (.int .i64 3)), none⟩,
     ⟨some 23, .mov (.tmp 24), none⟩])
     (.cond (.tmp 23)
      (.seq (.region [
      ⟨some 25, .mov (.tmp 1), none⟩,
      ⟨some 26, .mov (.tmp 2), none⟩,
      ⟨some 27, .bin .and (.tmp 25) (.tmp 26), none⟩,
      ⟨some 6, .mov (.tmp 27), none⟩])
      .ret)
      (.seq (.region [
      ⟨some 29, .bin .eql (.tmp 7) (.const (.int .i64 4)), none⟩,
      ⟨some 28, .mov (.tmp 29), none⟩])
      (.cond (.tmp 28)
       (.seq (.region [
       ⟨some 30, .mov (.tmp 1), none⟩,
       ⟨some 31, .mov (.tmp 2), none⟩,
       ⟨some 32, .bin .or (.tmp 30) (.tmp 31), none⟩,
       ⟨some 6, .mov (.tmp 32), none⟩])
       .ret)
       (.seq (.region [
       ⟨some 34, .bin .eql (.tmp 7) (.const (.int .i64 5)), none⟩,
       ⟨some 33, .mov (.tmp 34), none⟩])
       (.cond (.tmp 33)
        (.seq (.region [
        ⟨some 35, .mov (.tmp 1), none⟩,
        ⟨some 36, .mov (.tmp 2), none⟩,
        ⟨some 37, .bin .xor (.tmp 35) (.tmp 36), none⟩,
        ⟨some 6, .mov (.tmp 37), none⟩])
        .ret)
        (.seq (.region [
        ⟨some 39, .bin .eql (.tmp 7) (.const (.int .i64 6)), none⟩,
        ⟨some 38, .mov (.tmp 39), none⟩])
        (.cond (.tmp 38)
         (.seq (.region [
         ⟨some 40, .mov (.tmp 1), none⟩,
         ⟨some 41, .mov (.tmp 2), none⟩,
         ⟨some 42, .bin .rem (.tmp 41) (.const (.int .u64 64)), none⟩,
         ⟨some 43, .bin .shl (.tmp 40) (.tmp 42), none⟩,
         ⟨some 6, .mov (.tmp 43), none⟩])
         .ret)
         (.seq (.region [
         ⟨some 45, .bin .eql (.tmp 7) (.const (.int .i64 7)), none⟩,
         ⟨some 44, .mov (.tmp 45), none⟩])
         (.cond (.tmp 44)
          (.seq (.region [
          ⟨some 46, .mov (.tmp 1), none⟩,
          ⟨some 47, .mov (.tmp 2), none⟩,
          ⟨some 48, .bin .rem (.tmp 47) (.const (.int .u64 64)), none⟩,
          ⟨some 49, .bin .shr (.tmp 46) (.tmp 48), none⟩,
          ⟨some 6, .mov (.tmp 49), none⟩])
          .ret)
          (.seq (.region [
          ⟨some 51, .bin .eql (.tmp 7) (.const (.int .i64 8)), none⟩,
          ⟨some 50, .mov (.tmp 51), none⟩])
          (.cond (.tmp 50)
           (.seq (.region [
           ⟨some 52, .mov (.tmp 1), none⟩,
           ⟨some 53, .mov (.tmp 2), none⟩,
           ⟨some 54, .bin .eql (.tmp 52) (.tmp 53), none⟩,
           ⟨some 55, .call 33 [(.tmp 54)], none⟩,
           ⟨some 6, .mov (.tmp 55), none⟩])
           .ret)
           (.seq (.region [
           ⟨some 57, .bin .eql (.tmp 7) (.const (.int .i64 9)), none⟩,
           ⟨some 56, .mov (.tmp 57), none⟩])
           (.cond (.tmp 56)
            (.seq (.region [
            ⟨some 58, .mov (.tmp 1), none⟩,
            ⟨some 59, .mov (.tmp 2), none⟩,
            ⟨some 60, .bin .neq (.tmp 58) (.tmp 59), none⟩,
            ⟨some 61, .call 33 [(.tmp 60)], none⟩,
            ⟨some 6, .mov (.tmp 61), none⟩])
            .ret)
            (.seq (.region [
            ⟨some 63, .bin .eql (.tmp 7) (.const (.int .i64 10)), none⟩,
            ⟨some 62, .mov (.tmp 63), none⟩])
            (.cond (.tmp 62)
             (.seq (.region [
             ⟨some 64, .mov (.tmp 1), none⟩,
             ⟨some 65, .conv .i64 (.tmp 64), none⟩,
             ⟨some 66, .mov (.tmp 2), none⟩,
             ⟨some 67, .conv .i64 (.tmp 66), none⟩,
             ⟨some 68, .bin .lss (.tmp 65) (.tmp 67), none⟩,
             ⟨some 69, .call 33 [(.tmp 68)], none⟩,
             ⟨some 6, .mov (.tmp 69), none⟩])
             .ret)
             .skip))))))))))))))))))))))))
 (.seq (.region [
 ⟨some 70, .mov (.tmp 1), none⟩,
 ⟨some 71, .mov (.tmp 2), none⟩,
 ⟨some 72, .bin .lss (.tmp 70) (.tmp 71), none⟩,
 ⟨some 73, .call 33 [(.tmp 72)], none⟩,
 ⟨some 6, .mov (.tmp 73), none⟩])
 .ret))),
 [.tmp 6]⟩
theorem low_alu_integers : lowFn Tryd.prog movers 24 = some ⟨ir_alu_integers.n, strip ir_alu_integers.body, ir_alu_integers.res⟩ := by kernel_rfl

/-- strongtx/strongtxref02.truth -/
def ir_ref02_truth : IFn := ⟨4,
 (.seq (.region [
 ⟨some 2, .mov (.const (.int .u64 0)), none⟩])
 (.seq (.seq (.region [
 ⟨some 3, .mov (.tmp 0), none⟩])
 (.cond (.tmp 3)
  (.seq (.region [
  ⟨some 2, .mov (.const (.int .u64 1)), none⟩])
  .ret)
  .skip))
 (.seq (.region [
 ⟨some 2, .mov (.const (.int .u64 0)), none⟩])
 .ret))),
 [.tmp 2]⟩
theorem low_ref02_truth : lowFn Tryd.prog movers 25 = some ⟨ir_ref02_truth.n, strip ir_ref02_truth.body, ir_ref02_truth.res⟩ := by kernel_rfl

/-- strongtx/strongtxref02.number -/
def ir_ref02_number : IFn := ⟨9,
 (.seq (.region [
 ⟨some 2, .mov (.const (.int .u64 0)), none⟩])
 (.seq (.region [
 ⟨some 4, .mov (.tmp 0), none⟩,
 ⟨some 5, .fbits (.tmp 4), none⟩,
 ⟨some 3, .mov (.tmp 5), none⟩])
 (.seq (.seq (.region [
 ⟨some 6, .mov (.tmp 3), none⟩,
 ⟨some 7, .call 27 [(.tmp 6)], none⟩])
 (.cond (.tmp 7)
  (.seq (.region [
  ⟨some 2, .mov (.const (.int .u64 9221120237041090560)), none⟩])
  .ret)
  .skip))
 (.seq (.region [
 ⟨some 8, .mov (.tmp 3), none⟩,
 ⟨some 2, .mov (.tmp 8), none⟩])
 .ret)))),
 [.tmp 2]⟩
theorem low_ref02_number : lowFn Tryd.prog movers 26 = some ⟨ir_ref02_number.n, strip ir_ref02_number.body, ir_ref02_number.res⟩ := by kernel_rfl

/-- strongtx/strongtxref02.nan -/
def ir_ref02_nan : IFn := ⟨12,
 (.seq (.region [
 ⟨some 2, .mov (.const (.bool false)), none⟩])
 (.seq (.region [
 ⟨some 3, .mov (.tmp 0), none⟩,
 ⟨some 4, .bin .shr (.tmp 3) (.const (.int .u64 52)), none⟩,
 ⟨some 5, .bin .and (.tmp 4) (.const (.int .u64 2047)), none⟩,
 ⟨some 6, .bin .eql (.tmp 5) (.const (.int .u64 2047)), none⟩,
 ⟨some 7, .mov (.tmp 6), none⟩,
 ⟨some 8, .mov (.tmp 0), some (7, true)⟩,
 ⟨some 9, .bin .and (.tmp 8) (.const (.int .u64 4503599627370495)), some (7, true)⟩,
 ⟨some 10, .bin .neq (.tmp 9) (.const (.int .u64 0)), some (7, true)⟩,
 ⟨some 11, .pick (.tmp 7) (.tmp 10) (.const (.bool false)), none⟩,
 ⟨some 2, .mov (.tmp 11), none⟩])
 .ret)),
 [.tmp 2]⟩
theorem low_ref02_nan : lowFn Tryd.prog movers 27 = some ⟨ir_ref02_nan.n, strip ir_ref02_nan.body, ir_ref02_nan.res⟩ := by kernel_rfl

/-- strongtx/strongtxref02.least -/
def ir_ref02_least : IFn := ⟨26,
 (.seq (.region [
 ⟨some 4, .mov (.const (.int .u64 0)), none⟩])
 (.seq (.region [
 ⟨some 7, .mov (.tmp 0), none⟩,
 ⟨some 8, .ffrom (.tmp 7), none⟩,
 ⟨some 9, .mov (.tmp 1), none⟩,
 ⟨some 10, .ffrom (.tmp 9), none⟩,
 ⟨some 5, .mov (.tmp 8), none⟩,
 ⟨some 6, .mov (.tmp 10), none⟩])
 (.seq (.seq (.region [
 ⟨some 11, .mov (.tmp 5), none⟩,
 ⟨some 12, .mov (.tmp 6), none⟩,
 ⟨some 13, .fbin .lss (.tmp 11) (.tmp 12), none⟩,
 ⟨some 14, .mov (.tmp 13), none⟩,
 ⟨some 15, .mov (.tmp 5), some (14, false)⟩,
 ⟨some 16, .mov (.tmp 6), some (14, false)⟩,
 ⟨some 17, .fbin .eql (.tmp 15) (.tmp 16), some (14, false)⟩,
 ⟨some 18, .mov (.tmp 17), some (14, false)⟩,
 ⟨some 19, .mov (.tmp 0), some (18, true)⟩,
 ⟨some 20, .bin .shr (.tmp 19) (.const (.int .u64 63)), some (18, true)⟩,
 ⟨some 21, .bin .eql (.tmp 20) (.const (.int .u64 1)), some (18, true)⟩,
 ⟨some 22, .pick (.tmp 18) (.tmp 21) (.const (.bool false)), some (14, false)⟩,
 ⟨some 23, .pick (.tmp 14) (.const (.bool true)) (.tmp 22), none⟩])
 (.cond (.tmp 23)
  (.seq (.region [
  ⟨some 24, .mov (.tmp 0), none⟩,
  ⟨some 4, .mov (.tmp 24), none⟩])
  .ret)
  .skip))
 (.seq (.region [
 ⟨some 25, .mov (.tmp 1), none⟩,
 ⟨some 4, .mov (.tmp 25), none⟩])
 .ret)))),
 [.tmp 4]⟩
theorem low_ref02_least : lowFn Tryd.prog movers 28 = some ⟨ir_ref02_least.n, strip ir_ref02_least.body, ir_ref02_least.res⟩ := by kernel_rfl

/-- strongtx/strongtxref02.toInt -/
def ir_ref02_toInt : IFn := ⟨18,
 (.seq (.region [
 ⟨some 2, .mov (.const (.int .u64 0)), none⟩])
 (.seq (.region [
 ⟨some 4, .mov (.tmp 0), none⟩,
 ⟨some 5, .ffrom (.tmp 4), none⟩,
 ⟨some 3, .mov (.tmp 5), none⟩])
 (.seq (.block 0
  (.seq (.region [
  ⟨some 7, .mov (.tmp 0), none⟩,
  ⟨some 8, .call 27 [(.tmp 7)], none⟩,
  ⟨some 6, .mov (.tmp 8), none⟩])
  (.cond (.tmp 6)
   (.seq (.region [
   ⟨some 2, .mov (.const (.int .u64 0)), none⟩])
   .ret)
   (.seq (.region [
   ⟨some 10, .mov (.tmp 3), none⟩,
   ⟨some 11, .fbin .geq (.tmp 10) (.const (.float .f64 4890909195324358656)), none⟩,
   ⟨some 9, .mov (.tmp 11), none⟩])
   (.cond (.tmp 9)
    (.seq (.region [
    ⟨some 2, .mov (.const (.int .u64 9223372036854775807)), none⟩])
    .ret)
    (.seq (.region [
    ⟨some 13, .mov (.tmp 3), none⟩,
    ⟨some 14, .fbin .lss (.tmp 13) (.const (.float .f64 14114281232179134464)), none⟩,
    ⟨some 12, .mov (.tmp 14), none⟩])
    (.cond (.tmp 12)
     (.seq (.region [
     ⟨some 2, .mov (.const (.int .u64 9223372036854775808)), none⟩])
     .ret)
     .skip)))))))
 (.seq (.region [
 ⟨some 15, .mov (.tmp 3), none⟩,
 ⟨some 16, .f2i .i64 (.tmp 15), none⟩,
 ⟨some 17, .conv .u64 (.tmp 16), none⟩,
 ⟨some 2, .mov (.tmp 17), none⟩])
 .ret)))),
 [.tmp 2]⟩
theorem low_ref02_toInt : lowFn Tryd.prog movers 29 = some ⟨ir_ref02_toInt.n, strip ir_ref02_toInt.body, ir_ref02_toInt.res⟩ := by kernel_rfl

/-- strongtx/strongtxref02.names -/
def ir_ref02_names : IFn := ⟨2,
 (.seq (.region [
 ⟨some 0, .mov (.const (.slice none 0 0)), none⟩])
 (.seq (.region [
 ⟨some 1, .blds 9 22 [(.string ⟨#[]⟩), (.string ⟨#[]⟩), (.string ⟨#[]⟩), (.string ⟨#[]⟩), (.string ⟨#[]⟩), (.string ⟨#[]⟩), (.string ⟨#[]⟩), (.string ⟨#[]⟩), (.string ⟨#[]⟩), (.string ⟨#[]⟩), (.string ⟨#[]⟩), (.string ⟨#[]⟩), (.string ⟨#[]⟩), (.string ⟨#[]⟩), (.string ⟨#[]⟩), (.string ⟨#[]⟩), (.string ⟨#[]⟩), (.string ⟨#[]⟩), (.string ⟨#[]⟩), (.string ⟨#[]⟩), (.string ⟨#[]⟩), (.string ⟨#[]⟩)] [(0, 1, (.const (.string ⟨#[97, 100, 100]⟩))), (1, 1, (.const (.string ⟨#[115, 117, 98]⟩))), (2, 1, (.const (.string ⟨#[109, 117, 108]⟩))), (3, 1, (.const (.string ⟨#[97, 110, 100]⟩))), (4, 1, (.const (.string ⟨#[111, 114]⟩))), (5, 1, (.const (.string ⟨#[120, 111, 114]⟩))), (6, 1, (.const (.string ⟨#[115, 104, 108]⟩))), (7, 1, (.const (.string ⟨#[115, 104, 114]⟩))), (8, 1, (.const (.string ⟨#[101, 113]⟩))), (9, 1, (.const (.string ⟨#[110, 101]⟩))), (10, 1, (.const (.string ⟨#[108, 116]⟩))), (11, 1, (.const (.string ⟨#[108, 116, 117]⟩))), (12, 1, (.const (.string ⟨#[102, 97, 100, 100]⟩))), (13, 1, (.const (.string ⟨#[102, 115, 117, 98]⟩))), (14, 1, (.const (.string ⟨#[102, 109, 117, 108]⟩))), (15, 1, (.const (.string ⟨#[102, 100, 105, 118]⟩))), (16, 1, (.const (.string ⟨#[102, 109, 105, 110]⟩))), (17, 1, (.const (.string ⟨#[102, 109, 97, 120]⟩))), (18, 1, (.const (.string ⟨#[102, 101, 113]⟩))), (19, 1, (.const (.string ⟨#[102, 108, 116]⟩))), (20, 1, (.const (.string ⟨#[102, 114, 111, 109, 105, 110, 116]⟩))), (21, 1, (.const (.string ⟨#[116, 111, 105, 110, 116]⟩)))], none⟩,
 ⟨some 0, .mov (.tmp 1), none⟩])
 .ret)),
 [.tmp 0]⟩
theorem low_ref02_names : lowFn Tryd.prog movers 30 = some ⟨ir_ref02_names.n, strip ir_ref02_names.body, ir_ref02_names.res⟩ := by kernel_rfl

/-- math.IsNaN -/
def ir_math_IsNaN : IFn := ⟨6,
 (.seq (.region [
 ⟨some 2, .mov (.const (.bool false)), none⟩])
 (.seq (.region [
 ⟨some 3, .mov (.tmp 0), none⟩,
 ⟨some 4, .mov (.tmp 0), none⟩,
 ⟨some 5, .fbin .neq (.tmp 3) (.tmp 4), none⟩,
 ⟨some 2, .mov (.tmp 5), none⟩])
 .ret)),
 [.tmp 2]⟩
theorem low_math_IsNaN : lowFn Tryd.prog movers 31 = some ⟨ir_math_IsNaN.n, strip ir_math_IsNaN.body, ir_math_IsNaN.res⟩ := by kernel_rfl

/-- strongtx/alu.plain -/
def ir_alu_plain : IFn := ⟨7,
 (.seq (.region [
 ⟨some 2, .mov (.const (.int .u64 0)), none⟩])
 (.seq (.seq (.region [
 ⟨some 3, .mov (.tmp 0), none⟩,
 ⟨some 4, .call 31 [(.tmp 3)], none⟩])
 (.cond (.tmp 4)
  (.seq (.region [
  ⟨some 2, .mov (.const (.int .u64 9221120237041090560)), none⟩])
  .ret)
  .skip))
 (.seq (.region [
 ⟨some 5, .mov (.tmp 0), none⟩,
 ⟨some 6, .fbits (.tmp 5), none⟩,
 ⟨some 2, .mov (.tmp 6), none⟩])
 .ret))),
 [.tmp 2]⟩
theorem low_alu_plain : lowFn Tryd.prog movers 32 = some ⟨ir_alu_plain.n, strip ir_alu_plain.body, ir_alu_plain.res⟩ := by kernel_rfl

/-- strongtx/alu.truth -/
def ir_alu_truth : IFn := ⟨4,
 (.seq (.region [
 ⟨some 2, .mov (.const (.int .u64 0)), none⟩])
 (.seq (.seq (.region [
 ⟨some 3, .mov (.tmp 0), none⟩])
 (.cond (.tmp 3)
  (.seq (.region [
  ⟨some 2, .mov (.const (.int .u64 1)), none⟩])
  .ret)
  .skip))
 (.seq (.region [
 ⟨some 2, .mov (.const (.int .u64 0)), none⟩])
 .ret))),
 [.tmp 2]⟩
theorem low_alu_truth : lowFn Tryd.prog movers 33 = some ⟨ir_alu_truth.n, strip ir_alu_truth.body, ir_alu_truth.res⟩ := by kernel_rfl

/-- math.Min -/
def ir_math_Min : IFn := ⟨11,
 (.seq (.region [
 ⟨some 4, .mov (.const (.float .f64 0)), none⟩])
 (.seq (.cond (.const (.bool true))
  (.seq (.region [
  ⟨some 5, .mov (.tmp 0), none⟩,
  ⟨some 6, .mov (.tmp 1), none⟩,
  ⟨some 7, .fpk true (.tmp 5) (.tmp 6), none⟩,
  ⟨some 4, .mov (.tmp 7), none⟩])
  .ret)
  .skip)
 (.seq (.region [
 ⟨some 8, .mov (.tmp 0), none⟩,
 ⟨some 9, .mov (.tmp 1), none⟩,
 ⟨some 10, .call 37 [(.tmp 8), (.tmp 9)], none⟩,
 ⟨some 4, .mov (.tmp 10), none⟩])
 .ret))),
 [.tmp 4]⟩
theorem low_math_Min : lowFn Tryd.prog movers 34 = some ⟨ir_math_Min.n, strip ir_math_Min.body, ir_math_Min.res⟩ := by kernel_rfl

/-- math.Max -/
def ir_math_Max : IFn := ⟨11,
 (.seq (.region [
 ⟨some 4, .mov (.const (.float .f64 0)), none⟩])
 (.seq (.cond (.const (.bool true))
  (.seq (.region [
  ⟨some 5, .mov (.tmp 0), none⟩,
  ⟨some 6, .mov (.tmp 1), none⟩,
  ⟨some 7, .fpk false (.tmp 5) (.tmp 6), none⟩,
  ⟨some 4, .mov (.tmp 7), none⟩])
  .ret)
  .skip)
 (.seq (.region [
 ⟨some 8, .mov (.tmp 0), none⟩,
 ⟨some 9, .mov (.tmp 1), none⟩,
 ⟨some 10, .call 39 [(.tmp 8), (.tmp 9)], none⟩,
 ⟨some 4, .mov (.tmp 10), none⟩])
 .ret))),
 [.tmp 4]⟩
theorem low_math_Max : lowFn Tryd.prog movers 35 = some ⟨ir_math_Max.n, strip ir_math_Max.body, ir_math_Max.res⟩ := by kernel_rfl

/-- math.min -/
def ir_math_min : IFn := ⟨38,
 (.seq (.region [
 ⟨some 4, .mov (.const (.float .f64 0)), none⟩])
 (.seq (.block 0
  (.seq (.region [
  ⟨some 6, .mov (.tmp 0), none⟩,
  ⟨some 7, .call 40 [(.tmp 6), (.const (.int .i64 (-1)))], none⟩,
  ⟨some 8, .mov (.tmp 7), none⟩,
  ⟨some 9, .mov (.tmp 1), some (8, false)⟩,
  ⟨some 10, .call 40 [(.tmp 9), (.const (.int .i64 (-1)))], some (8, false)⟩,
  ⟨some 11, .pick (.tmp 8) (.const (.bool true)) (.tmp 10), none⟩,
  ⟨some 5, .mov (.tmp 11), none⟩])
  (.cond (.tmp 5)
   (.seq (.region [
   ⟨some 12, .call 41 [(.const (.int .i64 (-1)))], none⟩,
   ⟨some 4, .mov (.tmp 12), none⟩])
   .ret)
   (.seq (.region [
   ⟨some 14, .mov (.tmp 0), none⟩,
   ⟨some 15, .call 31 [(.tmp 14)], none⟩,
   ⟨some 16, .mov (.tmp 15), none⟩,
   ⟨some 17, .mov (.tmp 1), some (16, false)⟩,
   ⟨some 18, .call 31 [(.tmp 17)], some (16, false)⟩,
   ⟨some 19, .pick (.tmp 16) (.const (.bool true)) (.tmp 18), none⟩,
   ⟨some 13, .mov (.tmp 19), none⟩])
   (.cond (.tmp 13)
    (.seq (.region [
    ⟨some 20, .call 42 [], none⟩,
    ⟨some 4, .mov (.tmp 20), none⟩])
    .ret)
    (.seq (.region [
    ⟨some 22, .mov (.tmp 0), none⟩,
    ⟨some 23, .fbin .eql (.tmp 22) (.const (.float .f64 0)), none⟩,
    ⟨some 24, .mov (.tmp 23), none⟩,
    ⟨some 25, .mov (.tmp 0), some (24, true)⟩,
    ⟨some 26, .mov (.tmp 1), some (24, true)⟩,
    ⟨some 27, .fbin .eql (.tmp 25) (.tmp 26), some (24, true)⟩,
    ⟨some 28, .pick (.tmp 24) (.tmp 27) (.const (.bool false)), none⟩,
    ⟨some 21, .mov (.tmp 28), none⟩])
    (.cond (.tmp 21)
     (.seq (.seq (.region [
     ⟨some 29, .mov (.tmp 0), none⟩,
     ⟨some 30, .call 43 [(.tmp 29)], none⟩])
     (.cond (.tmp 30)
      (.seq (.region [
      ⟨some 31, .mov (.tmp 0), none⟩,
      ⟨some 4, .mov (.tmp 31), none⟩])
      .ret)
      .skip))
     (.seq (.region [
     ⟨some 32, .mov (.tmp 1), none⟩,
     ⟨some 4, .mov (.tmp 32), none⟩])
     .ret))
     .skip)))))))
 (.seq (.seq (.region [
 ⟨some 33, .mov (.tmp 0), none⟩,
 ⟨some 34, .mov (.tmp 1), none⟩,
 ⟨some 35, .fbin .lss (.tmp 33) (.tmp 34), none⟩])
 (.cond (.tmp 35)
  (.seq (.region [
  ⟨some 36, .mov (.tmp 0), none⟩,
  ⟨some 4, .mov (.tmp 36), none⟩])
  .ret)
  .skip))
 (.seq (.region [
 ⟨some 37, .mov (.tmp 1), none⟩,
 ⟨some 4, .mov (.tmp 37), none⟩])
 .ret)))),
 [.tmp 4]⟩
theorem low_math_min : lowFn Tryd.prog movers 37 = some ⟨ir_math_min.n, strip ir_math_min.body, ir_math_min.res⟩ := by kernel_rfl

/-- math.max -/
def ir_math_max : IFn := ⟨38,
 (.seq (.region [
 ⟨some 4, .mov (.const (.float .f64 0)), none⟩])
 (.seq (.block 0
  (.seq (.region [
  ⟨some 6, .mov (.tmp 0), none⟩,
  ⟨some 7, .call 40 [(.tmp 6), (.const (.int .i64 1))], none⟩,
  ⟨some 8, .mov (.tmp 7), none⟩,
  ⟨some 9, .mov (.tmp 1), some (8, false)⟩,
  ⟨some 10, .call 40 [(.tmp 9), (.const (.int .i64 1))], some (8, false)⟩,
  ⟨some 11, .pick (.tmp 8) (.const (.bool true)) (.tmp 10), none⟩,
  ⟨some 5, .mov (.tmp 11), none⟩])
  (.cond (.tmp 5)
   (.seq (.region [
   ⟨some 12, .call 41 [(.const (.int .i64 1))], none⟩,
   ⟨some 4, .mov (.tmp 12), none⟩])
   .ret)
   (.seq (.region [
   ⟨some 14, .mov (.tmp 0), none⟩,
   ⟨some 15, .call 31 [(.tmp 14)], none⟩,
   ⟨some 16, .mov (.tmp 15), none⟩,
   ⟨some 17, .mov (.tmp 1), some (16, false)⟩,
   ⟨some 18, .call 31 [(.tmp 17)], some (16, false)⟩,
   ⟨some 19, .pick (.tmp 16) (.const (.bool true)) (.tmp 18), none⟩,
   ⟨some 13, .mov (.tmp 19), none⟩])
   (.cond (.tmp 13)
    (.seq (.region [
    ⟨some 20, .call 42 [], none⟩,
    ⟨some 4, .mov (.tmp 20), none⟩])
    .ret)
    (.seq (.region [
    ⟨some 22, .mov (.tmp 0), none⟩,
    ⟨some 23, .fbin .eql (.tmp 22) (.const (.float .f64 0)), none⟩,
    ⟨some 24, .mov (.tmp 23), none⟩,
    ⟨some 25, .mov (.tmp 0), some (24, true)⟩,
    ⟨some 26, .mov (.tmp 1), some (24, true)⟩,
    ⟨some 27, .fbin .eql (.tmp 25) (.tmp 26), some (24, true)⟩,
    ⟨some 28, .pick (.tmp 24) (.tmp 27) (.const (.bool false)), none⟩,
    ⟨some 21, .mov (.tmp 28), none⟩])
    (.cond (.tmp 21)
     (.seq (.seq (.region [
     ⟨some 29, .mov (.tmp 0), none⟩,
     ⟨some 30, .call 43 [(.tmp 29)], none⟩])
     (.cond (.tmp 30)
      (.seq (.region [
      ⟨some 31, .mov (.tmp 1), none⟩,
      ⟨some 4, .mov (.tmp 31), none⟩])
      .ret)
      .skip))
     (.seq (.region [
     ⟨some 32, .mov (.tmp 0), none⟩,
     ⟨some 4, .mov (.tmp 32), none⟩])
     .ret))
     .skip)))))))
 (.seq (.seq (.region [
 ⟨some 33, .mov (.tmp 0), none⟩,
 ⟨some 34, .mov (.tmp 1), none⟩,
 ⟨some 35, .fbin .gtr (.tmp 33) (.tmp 34), none⟩])
 (.cond (.tmp 35)
  (.seq (.region [
  ⟨some 36, .mov (.tmp 0), none⟩,
  ⟨some 4, .mov (.tmp 36), none⟩])
  .ret)
  .skip))
 (.seq (.region [
 ⟨some 37, .mov (.tmp 1), none⟩,
 ⟨some 4, .mov (.tmp 37), none⟩])
 .ret)))),
 [.tmp 4]⟩
theorem low_math_max : lowFn Tryd.prog movers 39 = some ⟨ir_math_max.n, strip ir_math_max.body, ir_math_max.res⟩ := by kernel_rfl

/-- math.IsInf -/
def ir_math_IsInf : IFn := ⟨15,
 (.seq (.region [
 ⟨some 4, .mov (.const (.bool false)), none⟩])
 (.seq (.seq (.region [
 ⟨some 5, .mov (.tmp 1), none⟩,
 ⟨some 6, .bin .eql (.tmp 5) (.const (.int .i64 0)), none⟩])
 (.cond (.tmp 6)
  (.region [
  ⟨some 7, .mov (.tmp 0), none⟩,
  ⟨some 8, .call 44 [(.tmp 7)], none⟩,
  ⟨some 0, .mov (.tmp 8), none⟩])
  (.seq (.region [
  ⟨some 9, .mov (.tmp 1), none⟩,
  ⟨some 10, .bin .lss (.tmp 9) (.const (.int .i64 0)), none⟩])
  (.cond (.tmp 10)
   (.region [
   ⟨some 11, .mov (.tmp 0), none⟩,
   ⟨some 12, .bad, none⟩,
   ⟨some 0, .mov (.tmp 12), none⟩])
   .skip))))
 (.seq (.region [
 ⟨some 13, .mov (.tmp 0), none⟩,
 ⟨some 14, .fbin .gtr (.tmp 13) (.const (.float .f64 9218868437227405311)), none⟩,
 ⟨some 4, .mov (.tmp 14), none⟩])
 .ret))),
 [.tmp 4]⟩
theorem low_math_IsInf : lowFn Tryd.prog movers 40 = some ⟨ir_math_IsInf.n, strip ir_math_IsInf.body, ir_math_IsInf.res⟩ := by kernel_rfl

/-- math.Inf -/
def ir_math_Inf : IFn := ⟨8,
 (.seq (.region [
 ⟨some 2, .mov (.const (.float .f64 0)), none⟩])
 (.seq (.region [
 ⟨some 3, .mov (.const (.int .u64 0)), none⟩])
 (.seq (.seq (.region [
 ⟨some 4, .mov (.tmp 0), none⟩,
 ⟨some 5, .bin .geq (.tmp 4) (.const (.int .i64 0)), none⟩])
 (.cond (.tmp 5)
  (.region [
  ⟨some 3, .mov (.const (.int .u64 9218868437227405312)), none⟩])
  (.region [
  ⟨some 3, .mov (.const (.int .u64 18442240474082181120)), none⟩])))
 (.seq (.region [
 ⟨some 6, .mov (.tmp 3), none⟩,
 ⟨some 7, .ffrom (.tmp 6), none⟩,
 ⟨some 2, .mov (.tmp 7), none⟩])
 .ret)))),
 [.tmp 2]⟩
theorem low_math_Inf : lowFn Tryd.prog movers 41 = some ⟨ir_math_Inf.n, strip ir_math_Inf.body, ir_math_Inf.res⟩ := by kernel_rfl

/-- math.NaN -/
def ir_math_NaN : IFn := ⟨2,
 (.seq (.region [
 ⟨some 0, .mov (.const (.float .f64 0)), none⟩])
 (.seq (.region [
 ⟨some 1, .ffrom (.const (.int .u64 9221120237041090561)), none⟩,
 ⟨some 0, .mov (.tmp 1), none⟩])
 .ret)),
 [.tmp 0]⟩
theorem low_math_NaN : lowFn Tryd.prog movers 42 = some ⟨ir_math_NaN.n, strip ir_math_NaN.body, ir_math_NaN.res⟩ := by kernel_rfl

/-- math.Signbit -/
def ir_math_Signbit : IFn := ⟨7,
 (.seq (.region [
 ⟨some 2, .mov (.const (.bool false)), none⟩])
 (.seq (.region [
 ⟨some 3, .mov (.tmp 0), none⟩,
 ⟨some 4, .fbits (.tmp 3), none⟩,
 ⟨some 5, .conv .i64 (.tmp 4), none⟩,
 ⟨some 6, .bin .lss (.tmp 5) (.const (.int .i64 0)), none⟩,
 ⟨some 2, .mov (.tmp 6), none⟩])
 .ret)),
 [.tmp 2]⟩
theorem low_math_Signbit : lowFn Tryd.prog movers 43 = some ⟨ir_math_Signbit.n, strip ir_math_Signbit.body, ir_math_Signbit.res⟩ := by kernel_rfl

/-- math.Abs -/
def ir_math_Abs : IFn := ⟨7,
 (.seq (.region [
 ⟨some 2, .mov (.const (.float .f64 0)), none⟩])
 (.seq (.region [
 ⟨some 3, .mov (.tmp 0), none⟩,
 ⟨some 4, .fbits (.tmp 3), none⟩,
 ⟨some 5, .bin .andNot (.tmp 4) (.const (.int .u64 9223372036854775808)), none⟩,
 ⟨some 6, .ffrom (.tmp 5), none⟩,
 ⟨some 2, .mov (.tmp 6), none⟩])
 .ret)),
 [.tmp 2]⟩
theorem low_math_Abs : lowFn Tryd.prog movers 44 = some ⟨ir_math_Abs.n, strip ir_math_Abs.body, ir_math_Abs.res⟩ := by kernel_rfl
end Go.Proofs.YtdbeajjomifbpaaDoor
