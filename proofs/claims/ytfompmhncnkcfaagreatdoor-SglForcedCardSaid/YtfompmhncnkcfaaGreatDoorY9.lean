/- What the laws share, part 9. No condition. -/
import Derived.Test.YtfompmhncnkcfaaGreatDoorY8
namespace Go.Proofs.YtfompmhncnkcfaaGreatDoor
open Go
set_option maxRecDepth 100000
def ir_slices_Clone_uint64 : IFn := ⟨8,
 (.seq (.region [
 ⟨some 2, .mov (.const (.slice none 0 0)), none⟩])
 (.seq (.seq (.region [
 ⟨some 3, .mov (.tmp 0), none⟩,
 ⟨some 4, .nilq false 0 (.tmp 3) (.const (.slice none 0 0)), none⟩])
 (.cond (.tmp 4)
  (.seq (.region [
  ⟨some 2, .mov (.const (.slice none 0 0)), none⟩])
  .ret)
  .skip))
 (.seq (.region [
 ⟨some 5, .blds 63 0 [] [], none⟩,
 ⟨some 6, .mov (.tmp 0), none⟩,
 ⟨some 7, .app 63 1 8 [(.int .u64 0)] (.tmp 5) (.tmp 6), none⟩,
 ⟨some 2, .mov (.tmp 7), none⟩])
 .ret))),
 [.tmp 2]⟩
theorem low_slices_Clone_uint64 : lowFn Tryz.prog movers 31 = some ⟨ir_slices_Clone_uint64.n, strip ir_slices_Clone_uint64.body, ir_slices_Clone_uint64.res⟩ := by kernel_rfl
def ir_slices_Clone_Instr : IFn := ⟨8,
 (.seq (.region [
 ⟨some 2, .mov (.const (.slice none 0 0)), none⟩])
 (.seq (.seq (.region [
 ⟨some 3, .mov (.tmp 0), none⟩,
 ⟨some 4, .nilq false 0 (.tmp 3) (.const (.slice none 0 0)), none⟩])
 (.cond (.tmp 4)
  (.seq (.region [
  ⟨some 2, .mov (.const (.slice none 0 0)), none⟩])
  .ret)
  .skip))
 (.seq (.region [
 ⟨some 5, .blds 69 0 [] [], none⟩,
 ⟨some 6, .mov (.tmp 0), none⟩,
 ⟨some 7, .app 69 5 40 [(.int .i64 0), (.int .i64 0), (.int .i64 0), (.int .i64 0), (.int .i64 0)] (.tmp 5) (.tmp 6), none⟩,
 ⟨some 2, .mov (.tmp 7), none⟩])
 .ret))),
 [.tmp 2]⟩
theorem low_slices_Clone_Instr : lowFn Tryz.prog movers 32 = some ⟨ir_slices_Clone_Instr.n, strip ir_slices_Clone_Instr.body, ir_slices_Clone_Instr.res⟩ := by kernel_rfl
def ir_slices_Clone_Thread : IFn := ⟨8,
 (.seq (.region [
 ⟨some 2, .mov (.const (.slice none 0 0)), none⟩])
 (.seq (.seq (.region [
 ⟨some 3, .mov (.tmp 0), none⟩,
 ⟨some 4, .nilq false 0 (.tmp 3) (.const (.slice none 0 0)), none⟩])
 (.cond (.tmp 4)
  (.seq (.region [
  ⟨some 2, .mov (.const (.slice none 0 0)), none⟩])
  .ret)
  .skip))
 (.seq (.region [
 ⟨some 5, .blds 66 0 [] [], none⟩,
 ⟨some 6, .mov (.tmp 0), none⟩,
 ⟨some 7, .app 66 11 88 [(.int .i64 0), (.int .u64 0), (.int .u64 0), (.int .u64 0), (.int .u64 0), (.int .u64 0), (.int .u64 0), (.int .u64 0), (.int .u64 0), (.int .i64 0), (.bool false)] (.tmp 5) (.tmp 6), none⟩,
 ⟨some 2, .mov (.tmp 7), none⟩])
 .ret))),
 [.tmp 2]⟩
theorem low_slices_Clone_Thread : lowFn Tryz.prog movers 45 = some ⟨ir_slices_Clone_Thread.n, strip ir_slices_Clone_Thread.body, ir_slices_Clone_Thread.res⟩ := by kernel_rfl
def ir_slices_Clone_int : IFn := ⟨8,
 (.seq (.region [
 ⟨some 2, .mov (.const (.slice none 0 0)), none⟩])
 (.seq (.seq (.region [
 ⟨some 3, .mov (.tmp 0), none⟩,
 ⟨some 4, .nilq false 0 (.tmp 3) (.const (.slice none 0 0)), none⟩])
 (.cond (.tmp 4)
  (.seq (.region [
  ⟨some 2, .mov (.const (.slice none 0 0)), none⟩])
  .ret)
  .skip))
 (.seq (.region [
 ⟨some 5, .blds 3 0 [] [], none⟩,
 ⟨some 6, .mov (.tmp 0), none⟩,
 ⟨some 7, .app 3 1 8 [(.int .i64 0)] (.tmp 5) (.tmp 6), none⟩,
 ⟨some 2, .mov (.tmp 7), none⟩])
 .ret))),
 [.tmp 2]⟩
theorem low_slices_Clone_int : lowFn Tryz.prog movers 46 = some ⟨ir_slices_Clone_int.n, strip ir_slices_Clone_int.body, ir_slices_Clone_int.res⟩ := by kernel_rfl
def ir_slices_Clone_Obs : IFn := ⟨8,
 (.seq (.region [
 ⟨some 2, .mov (.const (.slice none 0 0)), none⟩])
 (.seq (.seq (.region [
 ⟨some 3, .mov (.tmp 0), none⟩,
 ⟨some 4, .nilq false 0 (.tmp 3) (.const (.slice none 0 0)), none⟩])
 (.cond (.tmp 4)
  (.seq (.region [
  ⟨some 2, .mov (.const (.slice none 0 0)), none⟩])
  .ret)
  .skip))
 (.seq (.region [
 ⟨some 5, .blds 106 0 [] [], none⟩,
 ⟨some 6, .mov (.tmp 0), none⟩,
 ⟨some 7, .app 106 3 24 [(.int .i64 0), (.int .i64 0), (.int .u64 0)] (.tmp 5) (.tmp 6), none⟩,
 ⟨some 2, .mov (.tmp 7), none⟩])
 .ret))),
 [.tmp 2]⟩
theorem low_slices_Clone_Obs : lowFn Tryz.prog movers 47 = some ⟨ir_slices_Clone_Obs.n, strip ir_slices_Clone_Obs.body, ir_slices_Clone_Obs.res⟩ := by kernel_rfl
def ir_slices_Contains_int : IFn := ⟨9,
 (.seq (.region [
 ⟨some 4, .mov (.const (.bool false)), none⟩])
 (.seq (.region [
 ⟨some 5, .mov (.tmp 0), none⟩,
 ⟨some 6, .mov (.tmp 1), none⟩,
 ⟨some 7, .call 128 [(.tmp 5), (.tmp 6)], none⟩,
 ⟨some 8, .bin .geq (.tmp 7) (.const (.int .i64 0)), none⟩,
 ⟨some 4, .mov (.tmp 8), none⟩])
 .ret)),
 [.tmp 4]⟩
theorem low_slices_Contains_int : lowFn Tryz.prog movers 118 = some ⟨ir_slices_Contains_int.n, strip ir_slices_Contains_int.body, ir_slices_Contains_int.res⟩ := by kernel_rfl
def ir_slices_Index_int : IFn := ⟨19,
 (.seq (.region [
 ⟨some 4, .mov (.const (.int .i64 0)), none⟩])
 (.seq (.seq (.region [
 ⟨some 6, .mov (.tmp 0), none⟩,
 ⟨some 7, .len (.tmp 6), none⟩,
 ⟨some 8, .mov (.const (.int .i64 0)), none⟩])
 (.block 0
  (.loop 524080
   (.seq (.region [
   ⟨some 9, .bin .lss (.tmp 8) (.tmp 7), none⟩])
   (.seq (.cond (.tmp 9)
    .skip
    (.exit 0))
   (.seq (.block 1
    (.seq (.region [
    ⟨some 10, .mov (.tmp 8), none⟩,
    ⟨some 5, .mov (.tmp 10), none⟩])
    (.seq (.region [
    ⟨some 11, .mov (.tmp 1), none⟩,
    ⟨some 12, .mov (.tmp 0), none⟩,
    ⟨some 13, .mov (.tmp 5), none⟩,
    ⟨some 14, .ixs 1 (.tmp 12) (.tmp 13), none⟩,
    ⟨some 15, .ld (.tmp 14), none⟩,
    ⟨some 16, .bin .eql (.tmp 11) (.tmp 15), none⟩])
    (.cond (.tmp 16)
     (.seq (.region [
     ⟨some 17, .mov (.tmp 5), none⟩,
     ⟨some 4, .mov (.tmp 17), none⟩])
     .ret)
     .skip))))
   (.region [
   ⟨some 18, .bin .add (.tmp 8) (.const (.int .i64 1)), none⟩,
   ⟨some 8, .mov (.tmp 18), none⟩])))))))
 (.seq (.region [
 ⟨some 4, .mov (.const (.int .i64 (-1))), none⟩])
 .ret))),
 [.tmp 4]⟩
theorem low_slices_Index_int : lowFn Tryz.prog movers 128 = some ⟨ir_slices_Index_int.n, strip ir_slices_Index_int.body, ir_slices_Index_int.res⟩ := by kernel_rfl
end Go.Proofs.YtfompmhncnkcfaaGreatDoor
namespace Go.Proofs.YtfompmhncnkcfaaGreatDoor
open Go
set_option maxRecDepth 100000
def ir_kit_Global : IFn := ⟨31,
 (.seq (.region [
 ⟨some 2, .box 52 (.tmp 0), none⟩,
 ⟨some 3, .box 52 (.tmp 1), none⟩,
 ⟨some 4, .mov (.const (.bool false)), none⟩])
 (.seq (.region [
 ⟨some 5, .fad 0 (.tmp 2), none⟩,
 ⟨some 6, .ld (.tmp 5), none⟩,
 ⟨some 7, .fad 0 (.tmp 3), none⟩,
 ⟨some 8, .ld (.tmp 7), none⟩,
 ⟨some 9, .call 24 [(.tmp 6), (.tmp 8)], none⟩,
 ⟨some 10, .mov (.tmp 9), none⟩,
 ⟨some 11, .fad 1 (.tmp 2), some (10, true)⟩,
 ⟨some 12, .ld (.tmp 11), some (10, true)⟩,
 ⟨some 13, .fad 1 (.tmp 3), some (10, true)⟩,
 ⟨some 14, .ld (.tmp 13), some (10, true)⟩,
 ⟨some 15, .call 26 [(.tmp 12), (.tmp 14)], some (10, true)⟩,
 ⟨some 16, .pick (.tmp 10) (.tmp 15) (.const (.bool false)), none⟩,
 ⟨some 17, .mov (.tmp 16), none⟩,
 ⟨some 18, .fad 2 (.tmp 2), some (17, true)⟩,
 ⟨some 19, .ld (.tmp 18), some (17, true)⟩,
 ⟨some 20, .fad 2 (.tmp 3), some (17, true)⟩,
 ⟨some 21, .ld (.tmp 20), some (17, true)⟩,
 ⟨some 22, .call 25 [(.tmp 19), (.tmp 21)], some (17, true)⟩,
 ⟨some 23, .pick (.tmp 17) (.tmp 22) (.const (.bool false)), none⟩,
 ⟨some 24, .mov (.tmp 23), none⟩,
 ⟨some 25, .fad 3 (.tmp 2), some (24, true)⟩,
 ⟨some 26, .ld (.tmp 25), some (24, true)⟩,
 ⟨some 27, .fad 3 (.tmp 3), some (24, true)⟩,
 ⟨some 28, .ld (.tmp 27), some (24, true)⟩,
 ⟨some 29, .call 27 [(.tmp 26), (.tmp 28)], some (24, true)⟩,
 ⟨some 30, .pick (.tmp 24) (.tmp 29) (.const (.bool false)), none⟩,
 ⟨some 4, .mov (.tmp 30), none⟩])
 .ret)),
 [.tmp 4]⟩
theorem low_kit_Global : lowFn Tryz.prog movers 16 = some ⟨ir_kit_Global.n, strip ir_kit_Global.body, ir_kit_Global.res⟩ := by kernel_rfl
def ir_kit_Place : IFn := ⟨11,
 (.seq (.region [
 ⟨some 4, .mov (.const (.int .i64 0)), none⟩])
 (.seq (.region [
 ⟨some 5, .mov (.tmp 0), none⟩,
 ⟨some 6, .conv .u64 (.tmp 5), none⟩,
 ⟨some 7, .mov (.tmp 1), none⟩,
 ⟨some 8, .conv .u64 (.tmp 7), none⟩,
 ⟨some 9, .bin .rem (.tmp 6) (.tmp 8), none⟩,
 ⟨some 10, .conv .i64 (.tmp 9), none⟩,
 ⟨some 4, .mov (.tmp 10), none⟩])
 .ret)),
 [.tmp 4]⟩
theorem low_kit_Place : lowFn Tryz.prog movers 23 = some ⟨ir_kit_Place.n, strip ir_kit_Place.body, ir_kit_Place.res⟩ := by kernel_rfl
def ir_kit_Words : IFn := ⟨26,
 (.seq (.region [
 ⟨some 4, .mov (.const (.bool false)), none⟩])
 (.seq (.seq (.region [
 ⟨some 6, .mov (.tmp 0), none⟩,
 ⟨some 7, .len (.tmp 6), none⟩,
 ⟨some 8, .mov (.tmp 1), none⟩,
 ⟨some 9, .len (.tmp 8), none⟩,
 ⟨some 10, .bin .neq (.tmp 7) (.tmp 9), none⟩])
 (.cond (.tmp 10)
  (.seq (.region [
  ⟨some 4, .mov (.const (.bool false)), none⟩])
  .ret)
  .skip))
 (.seq (.seq (.region [
 ⟨some 5, .mov (.const (.int .i64 0)), none⟩])
 (.block 0
  (.loop 67106864
   (.seq (.seq (.region [
   ⟨some 11, .mov (.tmp 5), none⟩,
   ⟨some 12, .mov (.tmp 0), none⟩,
   ⟨some 13, .len (.tmp 12), none⟩,
   ⟨some 14, .bin .lss (.tmp 11) (.tmp 13), none⟩])
   (.cond (.tmp 14)
    .skip
    (.exit 0)))
   (.seq (.block 1
    (.seq (.draw (.f ⟨some 17, .mov (.tmp 0), none⟩
    (.f ⟨some 18, .mov (.tmp 5), none⟩
    (.f ⟨some 19, .ixs 1 (.tmp 17) (.tmp 18), none⟩
    (.f ⟨some 20, .ld (.tmp 19), none⟩
    (.f ⟨some 21, .mov (.tmp 1), none⟩
    (.f ⟨some 22, .mov (.tmp 5), none⟩
    (.f ⟨some 23, .ixs 1 (.tmp 21) (.tmp 22), none⟩
    (.f ⟨some 24, .ld (.tmp 23), none⟩
    (.f ⟨some 25, .bin .neq (.tmp 20) (.tmp 24), none⟩
    .done))))))))))
    (.cond (.tmp 25)
     (.seq (.region [
     ⟨some 4, .mov (.const (.bool false)), none⟩])
     .ret)
     .skip)))
   (.region [
   ⟨some 15, .mov (.tmp 5), none⟩,
   ⟨some 16, .bin .add (.tmp 15) (.const (.int .i64 1)), none⟩,
   ⟨some 5, .mov (.tmp 16), none⟩]))))))
 (.seq (.region [
 ⟨some 4, .mov (.const (.bool true)), none⟩])
 .ret)))),
 [.tmp 4]⟩
theorem low_kit_Words : lowFn Tryz.prog movers 24 = some ⟨ir_kit_Words.n, strip ir_kit_Words.body, ir_kit_Words.res⟩ := by kernel_rfl
def ir_kit_Events : IFn := ⟨27,
 (.seq (.region [
 ⟨some 4, .mov (.const (.bool false)), none⟩])
 (.seq (.seq (.region [
 ⟨some 6, .mov (.tmp 0), none⟩,
 ⟨some 7, .len (.tmp 6), none⟩,
 ⟨some 8, .mov (.tmp 1), none⟩,
 ⟨some 9, .len (.tmp 8), none⟩,
 ⟨some 10, .bin .neq (.tmp 7) (.tmp 9), none⟩])
 (.cond (.tmp 10)
  (.seq (.region [
  ⟨some 4, .mov (.const (.bool false)), none⟩])
  .ret)
  .skip))
 (.seq (.seq (.region [
 ⟨some 5, .mov (.const (.int .i64 0)), none⟩])
 (.block 0
  (.loop 134215728
   (.seq (.seq (.region [
   ⟨some 11, .mov (.tmp 5), none⟩,
   ⟨some 12, .mov (.tmp 0), none⟩,
   ⟨some 13, .len (.tmp 12), none⟩,
   ⟨some 14, .bin .lss (.tmp 11) (.tmp 13), none⟩])
   (.cond (.tmp 14)
    .skip
    (.exit 0)))
   (.seq (.block 1
    (.seq (.draw (.f ⟨some 17, .mov (.tmp 0), none⟩
    (.f ⟨some 18, .mov (.tmp 5), none⟩
    (.f ⟨some 19, .ixs 6 (.tmp 17) (.tmp 18), none⟩
    (.f ⟨some 20, .ldN 6 (.tmp 19), none⟩
    (.f ⟨some 21, .mov (.tmp 1), none⟩
    (.f ⟨some 22, .mov (.tmp 5), none⟩
    (.f ⟨some 23, .ixs 6 (.tmp 21) (.tmp 22), none⟩
    (.f ⟨some 24, .ldN 6 (.tmp 23), none⟩
    (.f ⟨some 25, .call 51 [(.tmp 20), (.tmp 24)], none⟩
    (.f ⟨some 26, .not (.tmp 25), none⟩
    .done)))))))))))
    (.cond (.tmp 26)
     (.seq (.region [
     ⟨some 4, .mov (.const (.bool false)), none⟩])
     .ret)
     .skip)))
   (.region [
   ⟨some 15, .mov (.tmp 5), none⟩,
   ⟨some 16, .bin .add (.tmp 15) (.const (.int .i64 1)), none⟩,
   ⟨some 5, .mov (.tmp 16), none⟩]))))))
 (.seq (.region [
 ⟨some 4, .mov (.const (.bool true)), none⟩])
 .ret)))),
 [.tmp 4]⟩
theorem low_kit_Events : lowFn Tryz.prog movers 25 = some ⟨ir_kit_Events.n, strip ir_kit_Events.body, ir_kit_Events.res⟩ := by kernel_rfl
def ir_kit_Threads : IFn := ⟨26,
 (.seq (.region [
 ⟨some 4, .mov (.const (.bool false)), none⟩])
 (.seq (.seq (.region [
 ⟨some 6, .mov (.tmp 0), none⟩,
 ⟨some 7, .len (.tmp 6), none⟩,
 ⟨some 8, .mov (.tmp 1), none⟩,
 ⟨some 9, .len (.tmp 8), none⟩,
 ⟨some 10, .bin .neq (.tmp 7) (.tmp 9), none⟩])
 (.cond (.tmp 10)
  (.seq (.region [
  ⟨some 4, .mov (.const (.bool false)), none⟩])
  .ret)
  .skip))
 (.seq (.seq (.region [
 ⟨some 5, .mov (.const (.int .i64 0)), none⟩])
 (.block 0
  (.loop 67106864
   (.seq (.seq (.region [
   ⟨some 11, .mov (.tmp 5), none⟩,
   ⟨some 12, .mov (.tmp 0), none⟩,
   ⟨some 13, .len (.tmp 12), none⟩,
   ⟨some 14, .bin .lss (.tmp 11) (.tmp 13), none⟩])
   (.cond (.tmp 14)
    .skip
    (.exit 0)))
   (.seq (.block 1
    (.seq (.draw (.f ⟨some 17, .mov (.tmp 0), none⟩
    (.f ⟨some 18, .mov (.tmp 5), none⟩
    (.f ⟨some 19, .ixs 11 (.tmp 17) (.tmp 18), none⟩
    (.f ⟨some 20, .ldN 11 (.tmp 19), none⟩
    (.f ⟨some 21, .mov (.tmp 1), none⟩
    (.f ⟨some 22, .mov (.tmp 5), none⟩
    (.f ⟨some 23, .ixs 11 (.tmp 21) (.tmp 22), none⟩
    (.f ⟨some 24, .ldN 11 (.tmp 23), none⟩
    (.f ⟨some 25, .ageq true [0, 0, 0, 0, 0, 0, 0, 0, 0, 0, 1] (.tmp 20) (.tmp 24), none⟩
    .done))))))))))
    (.cond (.tmp 25)
     (.seq (.region [
     ⟨some 4, .mov (.const (.bool false)), none⟩])
     .ret)
     .skip)))
   (.region [
   ⟨some 15, .mov (.tmp 5), none⟩,
   ⟨some 16, .bin .add (.tmp 15) (.const (.int .i64 1)), none⟩,
   ⟨some 5, .mov (.tmp 16), none⟩]))))))
 (.seq (.region [
 ⟨some 4, .mov (.const (.bool true)), none⟩])
 .ret)))),
 [.tmp 4]⟩
theorem low_kit_Threads : lowFn Tryz.prog movers 26 = some ⟨ir_kit_Threads.n, strip ir_kit_Threads.body, ir_kit_Threads.res⟩ := by kernel_rfl
def ir_kit_Obs : IFn := ⟨27,
 (.seq (.region [
 ⟨some 4, .mov (.const (.bool false)), none⟩])
 (.seq (.seq (.region [
 ⟨some 6, .mov (.tmp 0), none⟩,
 ⟨some 7, .len (.tmp 6), none⟩,
 ⟨some 8, .mov (.tmp 1), none⟩,
 ⟨some 9, .len (.tmp 8), none⟩,
 ⟨some 10, .bin .neq (.tmp 7) (.tmp 9), none⟩])
 (.cond (.tmp 10)
  (.seq (.region [
  ⟨some 4, .mov (.const (.bool false)), none⟩])
  .ret)
  .skip))
 (.seq (.seq (.region [
 ⟨some 5, .mov (.const (.int .i64 0)), none⟩])
 (.block 0
  (.loop 134215728
   (.seq (.seq (.region [
   ⟨some 11, .mov (.tmp 5), none⟩,
   ⟨some 12, .mov (.tmp 0), none⟩,
   ⟨some 13, .len (.tmp 12), none⟩,
   ⟨some 14, .bin .lss (.tmp 11) (.tmp 13), none⟩])
   (.cond (.tmp 14)
    .skip
    (.exit 0)))
   (.seq (.block 1
    (.seq (.draw (.f ⟨some 17, .mov (.tmp 0), none⟩
    (.f ⟨some 18, .mov (.tmp 5), none⟩
    (.f ⟨some 19, .ixs 1 (.tmp 17) (.tmp 18), none⟩
    (.f ⟨some 20, .ld (.tmp 19), none⟩
    (.f ⟨some 21, .mov (.tmp 1), none⟩
    (.f ⟨some 22, .mov (.tmp 5), none⟩
    (.f ⟨some 23, .ixs 1 (.tmp 21) (.tmp 22), none⟩
    (.f ⟨some 24, .ld (.tmp 23), none⟩
    (.f ⟨some 25, .call 52 [(.tmp 20), (.tmp 24)], none⟩
    (.f ⟨some 26, .not (.tmp 25), none⟩
    .done)))))))))))
    (.cond (.tmp 26)
     (.seq (.region [
     ⟨some 4, .mov (.const (.bool false)), none⟩])
     .ret)
     .skip)))
   (.region [
   ⟨some 15, .mov (.tmp 5), none⟩,
   ⟨some 16, .bin .add (.tmp 15) (.const (.int .i64 1)), none⟩,
   ⟨some 5, .mov (.tmp 16), none⟩]))))))
 (.seq (.region [
 ⟨some 4, .mov (.const (.bool true)), none⟩])
 .ret)))),
 [.tmp 4]⟩
theorem low_kit_Obs : lowFn Tryz.prog movers 27 = some ⟨ir_kit_Obs.n, strip ir_kit_Obs.body, ir_kit_Obs.res⟩ := by kernel_rfl
def ir_kit_Event : IFn := ⟨45,
 (.seq (.region [
 ⟨some 2, .box 75 (.tmp 0), none⟩,
 ⟨some 3, .box 75 (.tmp 1), none⟩,
 ⟨some 4, .mov (.const (.bool false)), none⟩])
 (.seq (.region [
 ⟨some 5, .fad 0 (.tmp 2), none⟩,
 ⟨some 6, .ld (.tmp 5), none⟩,
 ⟨some 7, .fad 0 (.tmp 3), none⟩,
 ⟨some 8, .ld (.tmp 7), none⟩,
 ⟨some 9, .bin .eql (.tmp 6) (.tmp 8), none⟩,
 ⟨some 10, .mov (.tmp 9), none⟩,
 ⟨some 11, .fad 1 (.tmp 2), some (10, true)⟩,
 ⟨some 12, .ld (.tmp 11), some (10, true)⟩,
 ⟨some 13, .fad 1 (.tmp 3), some (10, true)⟩,
 ⟨some 14, .ld (.tmp 13), some (10, true)⟩,
 ⟨some 15, .bin .eql (.tmp 12) (.tmp 14), some (10, true)⟩,
 ⟨some 16, .pick (.tmp 10) (.tmp 15) (.const (.bool false)), none⟩,
 ⟨some 17, .mov (.tmp 16), none⟩,
 ⟨some 18, .fad 2 (.tmp 2), some (17, true)⟩,
 ⟨some 19, .ld (.tmp 18), some (17, true)⟩,
 ⟨some 20, .fad 2 (.tmp 3), some (17, true)⟩,
 ⟨some 21, .ld (.tmp 20), some (17, true)⟩,
 ⟨some 22, .bin .eql (.tmp 19) (.tmp 21), some (17, true)⟩,
 ⟨some 23, .pick (.tmp 17) (.tmp 22) (.const (.bool false)), none⟩,
 ⟨some 24, .mov (.tmp 23), none⟩,
 ⟨some 25, .fad 3 (.tmp 2), some (24, true)⟩,
 ⟨some 26, .ld (.tmp 25), some (24, true)⟩,
 ⟨some 27, .fad 3 (.tmp 3), some (24, true)⟩,
 ⟨some 28, .ld (.tmp 27), some (24, true)⟩,
 ⟨some 29, .bin .eql (.tmp 26) (.tmp 28), some (24, true)⟩,
 ⟨some 30, .pick (.tmp 24) (.tmp 29) (.const (.bool false)), none⟩,
 ⟨some 31, .mov (.tmp 30), none⟩,
 ⟨some 32, .fad 4 (.tmp 2), some (31, true)⟩,
 ⟨some 33, .ld (.tmp 32), some (31, true)⟩,
 ⟨some 34, .fad 4 (.tmp 3), some (31, true)⟩,
 ⟨some 35, .ld (.tmp 34), some (31, true)⟩,
 ⟨some 36, .call 78 [(.tmp 33), (.tmp 35)], some (31, true)⟩,
 ⟨some 37, .pick (.tmp 31) (.tmp 36) (.const (.bool false)), none⟩,
 ⟨some 38, .mov (.tmp 37), none⟩,
 ⟨some 39, .fad 5 (.tmp 2), some (38, true)⟩,
 ⟨some 40, .ld (.tmp 39), some (38, true)⟩,
 ⟨some 41, .fad 5 (.tmp 3), some (38, true)⟩,
 ⟨some 42, .ld (.tmp 41), some (38, true)⟩,
 ⟨some 43, .call 78 [(.tmp 40), (.tmp 42)], some (38, true)⟩,
 ⟨some 44, .pick (.tmp 38) (.tmp 43) (.const (.bool false)), none⟩,
 ⟨some 4, .mov (.tmp 44), none⟩])
 .ret)),
 [.tmp 4]⟩
theorem low_kit_Event : lowFn Tryz.prog movers 51 = some ⟨ir_kit_Event.n, strip ir_kit_Event.body, ir_kit_Event.res⟩ := by kernel_rfl
def ir_kit_Observed : IFn := ⟨26,
 (.seq (.region [
 ⟨some 4, .mov (.const (.bool false)), none⟩])
 (.seq (.seq (.region [
 ⟨some 6, .mov (.tmp 0), none⟩,
 ⟨some 7, .len (.tmp 6), none⟩,
 ⟨some 8, .mov (.tmp 1), none⟩,
 ⟨some 9, .len (.tmp 8), none⟩,
 ⟨some 10, .bin .neq (.tmp 7) (.tmp 9), none⟩])
 (.cond (.tmp 10)
  (.seq (.region [
  ⟨some 4, .mov (.const (.bool false)), none⟩])
  .ret)
  .skip))
 (.seq (.seq (.region [
 ⟨some 5, .mov (.const (.int .i64 0)), none⟩])
 (.block 0
  (.loop 67106864
   (.seq (.seq (.region [
   ⟨some 11, .mov (.tmp 5), none⟩,
   ⟨some 12, .mov (.tmp 0), none⟩,
   ⟨some 13, .len (.tmp 12), none⟩,
   ⟨some 14, .bin .lss (.tmp 11) (.tmp 13), none⟩])
   (.cond (.tmp 14)
    .skip
    (.exit 0)))
   (.seq (.block 1
    (.seq (.draw (.f ⟨some 17, .mov (.tmp 0), none⟩
    (.f ⟨some 18, .mov (.tmp 5), none⟩
    (.f ⟨some 19, .ixs 3 (.tmp 17) (.tmp 18), none⟩
    (.f ⟨some 20, .ldN 3 (.tmp 19), none⟩
    (.f ⟨some 21, .mov (.tmp 1), none⟩
    (.f ⟨some 22, .mov (.tmp 5), none⟩
    (.f ⟨some 23, .ixs 3 (.tmp 21) (.tmp 22), none⟩
    (.f ⟨some 24, .ldN 3 (.tmp 23), none⟩
    (.f ⟨some 25, .ageq true [0, 0, 0] (.tmp 20) (.tmp 24), none⟩
    .done))))))))))
    (.cond (.tmp 25)
     (.seq (.region [
     ⟨some 4, .mov (.const (.bool false)), none⟩])
     .ret)
     .skip)))
   (.region [
   ⟨some 15, .mov (.tmp 5), none⟩,
   ⟨some 16, .bin .add (.tmp 15) (.const (.int .i64 1)), none⟩,
   ⟨some 5, .mov (.tmp 16), none⟩]))))))
 (.seq (.region [
 ⟨some 4, .mov (.const (.bool true)), none⟩])
 .ret)))),
 [.tmp 4]⟩
theorem low_kit_Observed : lowFn Tryz.prog movers 52 = some ⟨ir_kit_Observed.n, strip ir_kit_Observed.body, ir_kit_Observed.res⟩ := by kernel_rfl
def ir_kit_Ints : IFn := ⟨26,
 (.seq (.region [
 ⟨some 4, .mov (.const (.bool false)), none⟩])
 (.seq (.seq (.region [
 ⟨some 6, .mov (.tmp 0), none⟩,
 ⟨some 7, .len (.tmp 6), none⟩,
 ⟨some 8, .mov (.tmp 1), none⟩,
 ⟨some 9, .len (.tmp 8), none⟩,
 ⟨some 10, .bin .neq (.tmp 7) (.tmp 9), none⟩])
 (.cond (.tmp 10)
  (.seq (.region [
  ⟨some 4, .mov (.const (.bool false)), none⟩])
  .ret)
  .skip))
 (.seq (.seq (.region [
 ⟨some 5, .mov (.const (.int .i64 0)), none⟩])
 (.block 0
  (.loop 67106864
   (.seq (.seq (.region [
   ⟨some 11, .mov (.tmp 5), none⟩,
   ⟨some 12, .mov (.tmp 0), none⟩,
   ⟨some 13, .len (.tmp 12), none⟩,
   ⟨some 14, .bin .lss (.tmp 11) (.tmp 13), none⟩])
   (.cond (.tmp 14)
    .skip
    (.exit 0)))
   (.seq (.block 1
    (.seq (.draw (.f ⟨some 17, .mov (.tmp 0), none⟩
    (.f ⟨some 18, .mov (.tmp 5), none⟩
    (.f ⟨some 19, .ixs 1 (.tmp 17) (.tmp 18), none⟩
    (.f ⟨some 20, .ld (.tmp 19), none⟩
    (.f ⟨some 21, .mov (.tmp 1), none⟩
    (.f ⟨some 22, .mov (.tmp 5), none⟩
    (.f ⟨some 23, .ixs 1 (.tmp 21) (.tmp 22), none⟩
    (.f ⟨some 24, .ld (.tmp 23), none⟩
    (.f ⟨some 25, .bin .neq (.tmp 20) (.tmp 24), none⟩
    .done))))))))))
    (.cond (.tmp 25)
     (.seq (.region [
     ⟨some 4, .mov (.const (.bool false)), none⟩])
     .ret)
     .skip)))
   (.region [
   ⟨some 15, .mov (.tmp 5), none⟩,
   ⟨some 16, .bin .add (.tmp 15) (.const (.int .i64 1)), none⟩,
   ⟨some 5, .mov (.tmp 16), none⟩]))))))
 (.seq (.region [
 ⟨some 4, .mov (.const (.bool true)), none⟩])
 .ret)))),
 [.tmp 4]⟩
theorem low_kit_Ints : lowFn Tryz.prog movers 78 = some ⟨ir_kit_Ints.n, strip ir_kit_Ints.body, ir_kit_Ints.res⟩ := by kernel_rfl
end Go.Proofs.YtfompmhncnkcfaaGreatDoor
namespace Go.Proofs.YtfompmhncnkcfaaGreatDoor
open Go
set_option maxRecDepth 100000
def irc_make_Program : IFn := ⟨191,
 (.seq (.region [
 ⟨some 8, .mov (.const (.slice none 0 0)), none⟩])
 (.seq (.region [
 ⟨some 9, .mov (.const (.slice none 0 0)), none⟩])
 (.seq (.region [
 ⟨some 10, .mov (.const (.bool false)), none⟩])
 (.seq (.region [
 ⟨some 11, .mov (.const (.slice none 0 0)), none⟩])
 (.seq (.seq (.region [
 ⟨some 12, .mov (.const (.int .i64 0)), none⟩])
 (.block 0
  (.loop 365375409332725729550921208179070754913982217728
   (.seq (.seq (.region [
   ⟨some 20, .mov (.tmp 12), none⟩,
   ⟨some 21, .mov (.tmp 0), none⟩,
   ⟨some 22, .len (.tmp 21), none⟩,
   ⟨some 23, .bin .lss (.tmp 20) (.tmp 22), none⟩,
   ⟨some 24, .mov (.tmp 23), none⟩,
   ⟨some 25, .mov (.tmp 9), some (24, true)⟩,
   ⟨some 26, .len (.tmp 25), some (24, true)⟩,
   ⟨some 27, .mov (.tmp 1), some (24, true)⟩,
   ⟨some 28, .bin .sub (.tmp 27) (.const (.int .i64 1)), some (24, true)⟩,
   ⟨some 29, .bin .lss (.tmp 26) (.tmp 28), some (24, true)⟩,
   ⟨some 30, .pick (.tmp 24) (.tmp 29) (.const (.bool false)), none⟩])
   (.cond (.tmp 30)
    .skip
    (.exit 0)))
   (.seq (.block 1
    (.seq (.region [
    ⟨some 33, .mov (.tmp 0), none⟩,
    ⟨some 34, .mov (.tmp 12), none⟩,
    ⟨some 35, .ixs 1 (.tmp 33) (.tmp 34), none⟩,
    ⟨some 36, .ld (.tmp 35), none⟩,
    ⟨some 37, .conv .u64 (.tmp 36), none⟩,
    ⟨some 13, .mov (.tmp 37), none⟩])
    (.seq (.region [
    ⟨some 38, .mov (.tmp 13), none⟩,
    ⟨some 39, .bin .rem (.tmp 38) (.const (.int .u64 16)), none⟩,
    ⟨some 40, .conv .i64 (.tmp 39), none⟩,
    ⟨some 14, .mov (.tmp 40), none⟩])
    (.seq (.region [
    ⟨some 41, .mov (.tmp 13), none⟩,
    ⟨some 42, .bin .quo (.tmp 41) (.const (.int .u64 16)), none⟩,
    ⟨some 13, .mov (.tmp 42), none⟩])
    (.seq (.region [
    ⟨some 15, .mov (.const (.int .i64 0)), none⟩])
    (.cut (.block 2
     (.seq (.region [
     ⟨some 44, .mov (.tmp 14), none⟩,
     ⟨some 45, .bin .lss (.tmp 44) (.const (.int .i64 2)), none⟩,
     ⟨some 43, .mov (.tmp 45), none⟩])
     (.cond (.tmp 43)
      (.seq (.region [
      ⟨some 46, .blds 3 3 [(.int .i64 0), (.int .i64 0), (.int .i64 0)] [(0, 1, (.const (.int .i64 1))), (1, 1, (.const (.int .i64 3))), (2, 1, (.const (.int .i64 2)))], none⟩,
      ⟨some 47, .mov (.tmp 13), none⟩,
      ⟨some 48, .bin .rem (.tmp 47) (.const (.int .u64 3)), none⟩,
      ⟨some 49, .ixs 1 (.tmp 46) (.tmp 48), none⟩,
      ⟨some 50, .ld (.tmp 49), none⟩,
      ⟨some 15, .mov (.tmp 50), none⟩])
      (.region [
      ⟨some 51, .mov (.tmp 13), none⟩,
      ⟨some 52, .bin .quo (.tmp 51) (.const (.int .u64 3)), none⟩,
      ⟨some 13, .mov (.tmp 52), none⟩]))
      (.seq (.region [
      ⟨some 54, .mov (.tmp 14), none⟩,
      ⟨some 55, .bin .eql (.tmp 54) (.const (.int .i64 2)), none⟩,
      ⟨some 56, .mov (.tmp 55), none⟩,
      ⟨some 57, .mov (.tmp 9), some (56, true)⟩,
      ⟨some 58, .len (.tmp 57), some (56, true)⟩,
      ⟨some 59, .bin .gtr (.tmp 58) (.const (.int .i64 0)), some (56, true)⟩,
      ⟨some 60, .pick (.tmp 56) (.tmp 59) (.const (.bool false)), none⟩,
      ⟨some 53, .mov (.tmp 60), none⟩])
      (.cond (.tmp 53)
       (.seq (.region [
       ⟨some 61, .blds 3 3 [(.int .i64 0), (.int .i64 0), (.int .i64 0)] [(0, 1, (.const (.int .i64 5))), (1, 1, (.const (.int .i64 6))), (2, 1, (.const (.int .i64 4)))], none⟩,
       ⟨some 62, .mov (.tmp 13), none⟩,
       ⟨some 63, .bin .rem (.tmp 62) (.const (.int .u64 3)), none⟩,
       ⟨some 64, .ixs 1 (.tmp 61) (.tmp 63), none⟩,
       ⟨some 65, .ld (.tmp 64), none⟩,
       ⟨some 15, .mov (.tmp 65), none⟩])
       (.region [
       ⟨some 66, .mov (.tmp 13), none⟩,
       ⟨some 67, .bin .quo (.tmp 66) (.const (.int .u64 3)), none⟩,
       ⟨some 13, .mov (.tmp 67), none⟩]))
       (.seq (.region [
       ⟨some 69, .mov (.tmp 10), none⟩,
       ⟨some 70, .not (.tmp 69), none⟩,
       ⟨some 71, .mov (.tmp 70), none⟩,
       ⟨some 72, .mov (.tmp 14), some (71, true)⟩,
       ⟨some 73, .bin .lss (.tmp 72) (.const (.int .i64 7)), some (71, true)⟩,
       ⟨some 74, .pick (.tmp 71) (.tmp 73) (.const (.bool false)), none⟩,
       ⟨some 75, .mov (.tmp 74), none⟩,
       ⟨some 76, .mov (.tmp 3), some (75, true)⟩,
       ⟨some 77, .pick (.tmp 75) (.tmp 76) (.const (.bool false)), none⟩,
       ⟨some 68, .mov (.tmp 77), none⟩])
       (.cond (.tmp 68)
        (.seq (.region [
        ⟨some 78, .blds 3 5 [(.int .i64 0), (.int .i64 0), (.int .i64 0), (.int .i64 0), (.int .i64 0)] [(0, 1, (.const (.int .i64 12))), (1, 1, (.const (.int .i64 13))), (2, 1, (.const (.int .i64 12))), (3, 1, (.const (.int .i64 13))), (4, 1, (.const (.int .i64 16)))], none⟩,
        ⟨some 79, .mov (.tmp 13), none⟩,
        ⟨some 80, .bin .rem (.tmp 79) (.const (.int .u64 5)), none⟩,
        ⟨some 81, .ixs 1 (.tmp 78) (.tmp 80), none⟩,
        ⟨some 82, .ld (.tmp 81), none⟩,
        ⟨some 15, .mov (.tmp 82), none⟩])
        (.region [
        ⟨some 83, .mov (.tmp 13), none⟩,
        ⟨some 84, .bin .quo (.tmp 83) (.const (.int .u64 5)), none⟩,
        ⟨some 13, .mov (.tmp 84), none⟩]))
        (.seq (.region [
        ⟨some 86, .mov (.tmp 10), none⟩,
        ⟨some 87, .not (.tmp 86), none⟩,
        ⟨some 88, .mov (.tmp 87), none⟩,
        ⟨some 89, .mov (.tmp 14), some (88, true)⟩,
        ⟨some 90, .bin .eql (.tmp 89) (.const (.int .i64 7)), some (88, true)⟩,
        ⟨some 91, .pick (.tmp 88) (.tmp 90) (.const (.bool false)), none⟩,
        ⟨some 85, .mov (.tmp 91), none⟩])
        (.cond (.tmp 85)
         (.region [
         ⟨some 15, .mov (.const (.int .i64 17)), none⟩])
         (.seq (.region [
         ⟨some 93, .mov (.tmp 10), none⟩,
         ⟨some 94, .not (.tmp 93), none⟩,
         ⟨some 92, .mov (.tmp 94), none⟩])
         (.cond (.tmp 92)
          (.region [
          ⟨some 15, .mov (.const (.int .i64 7)), none⟩])
          (.seq (.region [
          ⟨some 96, .mov (.tmp 14), none⟩,
          ⟨some 97, .bin .lss (.tmp 96) (.const (.int .i64 8)), none⟩,
          ⟨some 95, .mov (.tmp 97), none⟩])
          (.cond (.tmp 95)
           (.region [
           ⟨some 15, .mov (.const (.int .i64 10)), none⟩])
           (.seq (.region [
           ⟨some 99, .mov (.tmp 14), none⟩,
           ⟨some 100, .bin .lss (.tmp 99) (.const (.int .i64 12)), none⟩,
           ⟨some 98, .mov (.tmp 100), none⟩])
           (.cond (.tmp 98)
            (.region [
            ⟨some 15, .mov (.const (.int .i64 11)), none⟩])
            (.seq (.region [
            ⟨some 102, .mov (.tmp 14), none⟩,
            ⟨some 103, .bin .eql (.tmp 102) (.const (.int .i64 12)), none⟩,
            ⟨some 104, .mov (.tmp 103), none⟩,
            ⟨some 105, .mov (.tmp 2), some (104, true)⟩,
            ⟨some 106, .pick (.tmp 104) (.tmp 105) (.const (.bool false)), none⟩,
            ⟨some 101, .mov (.tmp 106), none⟩])
            (.cond (.tmp 101)
             (.region [
             ⟨some 15, .mov (.const (.int .i64 14)), none⟩])
             (.seq (.region [
             ⟨some 108, .mov (.tmp 14), none⟩,
             ⟨some 109, .bin .eql (.tmp 108) (.const (.int .i64 13)), none⟩,
             ⟨some 110, .mov (.tmp 109), none⟩,
             ⟨some 111, .mov (.tmp 2), some (110, true)⟩,
             ⟨some 112, .pick (.tmp 110) (.tmp 111) (.const (.bool false)), none⟩,
             ⟨some 107, .mov (.tmp 112), none⟩])
             (.cond (.tmp 107)
              (.region [
              ⟨some 15, .mov (.const (.int .i64 15)), none⟩])
              (.seq (.region [
              ⟨some 114, .mov (.tmp 14), none⟩,
              ⟨some 115, .bin .eql (.tmp 114) (.const (.int .i64 14)), none⟩,
              ⟨some 116, .mov (.tmp 115), none⟩,
              ⟨some 117, .mov (.tmp 13), some (116, true)⟩,
              ⟨some 118, .bin .rem (.tmp 117) (.const (.int .u64 4)), some (116, true)⟩,
              ⟨some 119, .bin .eql (.tmp 118) (.const (.int .u64 0)), some (116, true)⟩,
              ⟨some 120, .pick (.tmp 116) (.tmp 119) (.const (.bool false)), none⟩,
              ⟨some 113, .mov (.tmp 120), none⟩])
              (.cond (.tmp 113)
               (.region [
               ⟨some 15, .mov (.const (.int .i64 9)), none⟩])
               (.region [
               ⟨some 15, .mov (.const (.int .i64 8)), none⟩]))))))))))))))))))))))
    (.seq (.region [
    ⟨some 121, .mov (.tmp 15), none⟩,
    ⟨some 122, .mov (.tmp 13), none⟩,
    ⟨some 123, .call 79 [(.tmp 121), (.tmp 122)], none⟩,
    ⟨some 16, .new 69 (.agg #[.int .i64 0, .int .i64 0, .int .i64 0, .int .i64 0, .int .i64 0]), none⟩,
    ⟨none, .stN 5 (.tmp 16) (.tmp 123), none⟩])
    (.cut (.seq (.region [
    ⟨some 124, .mov (.tmp 15), none⟩,
    ⟨some 125, .bin .eql (.tmp 124) (.const (.int .i64 5)), none⟩,
    ⟨some 126, .mov (.tmp 125), none⟩,
    ⟨some 127, .mov (.tmp 15), some (126, false)⟩,
    ⟨some 128, .bin .eql (.tmp 127) (.const (.int .i64 6)), some (126, false)⟩,
    ⟨some 129, .pick (.tmp 126) (.const (.bool true)) (.tmp 128), none⟩])
    (.cond (.tmp 129)
     (.region [
     ⟨some 130, .mov (.tmp 13), none⟩,
     ⟨some 131, .bin .rem (.tmp 130) (.const (.int .u64 4)), none⟩,
     ⟨some 132, .conv .i64 (.tmp 131), none⟩,
     ⟨some 133, .fad 1 (.tmp 16), none⟩,
     ⟨none, .st (.tmp 133) (.tmp 132), none⟩])
     .skip))
    (.cut (.seq (.region [
    ⟨some 134, .mov (.tmp 15), none⟩,
    ⟨some 135, .bin .eql (.tmp 134) (.const (.int .i64 5)), none⟩,
    ⟨some 136, .mov (.tmp 135), none⟩,
    ⟨some 137, .mov (.tmp 15), some (136, false)⟩,
    ⟨some 138, .bin .eql (.tmp 137) (.const (.int .i64 6)), some (136, false)⟩,
    ⟨some 139, .pick (.tmp 136) (.const (.bool true)) (.tmp 138), none⟩,
    ⟨some 140, .mov (.tmp 139), none⟩,
    ⟨some 141, .mov (.tmp 15), some (140, false)⟩,
    ⟨some 142, .bin .eql (.tmp 141) (.const (.int .i64 4)), some (140, false)⟩,
    ⟨some 143, .pick (.tmp 140) (.const (.bool true)) (.tmp 142), none⟩])
    (.cond (.tmp 143)
     (.region [
     ⟨some 144, .mov (.tmp 11), none⟩,
     ⟨some 145, .mov (.tmp 9), none⟩,
     ⟨some 146, .len (.tmp 145), none⟩,
     ⟨some 147, .blds 3 1 [(.int .i64 0)] [(0, 1, (.tmp 146))], none⟩,
     ⟨some 148, .app 3 1 8 [(.int .i64 0)] (.tmp 144) (.tmp 147), none⟩,
     ⟨some 11, .mov (.tmp 148), none⟩])
     .skip))
    (.seq (.region [
    ⟨some 149, .mov (.tmp 9), none⟩,
    ⟨some 150, .ldN 5 (.tmp 16), none⟩,
    ⟨some 151, .blds 69 1 [(.int .i64 0), (.int .i64 0), (.int .i64 0), (.int .i64 0), (.int .i64 0)] [(0, 5, (.tmp 150))], none⟩,
    ⟨some 152, .app 69 5 40 [(.int .i64 0), (.int .i64 0), (.int .i64 0), (.int .i64 0), (.int .i64 0)] (.tmp 149) (.tmp 151), none⟩,
    ⟨some 9, .mov (.tmp 152), none⟩])
    (.seq (.region [
    ⟨some 153, .mov (.tmp 15), none⟩])
    (.block 3
     (.seq (.region [
     ⟨some 155, .bin .eql (.tmp 153) (.const (.int .i64 7)), none⟩,
     ⟨some 154, .mov (.tmp 155), none⟩])
     (.cond (.tmp 154)
      (.region [
      ⟨some 10, .mov (.const (.bool true)), none⟩])
      (.seq (.region [
      ⟨some 157, .bin .eql (.tmp 153) (.const (.int .i64 8)), none⟩,
      ⟨some 156, .mov (.tmp 157), none⟩])
      (.cond (.tmp 156)
       (.region [
       ⟨some 10, .mov (.const (.bool false)), none⟩])
       .skip))))))))))))))))
   (.region [
   ⟨some 31, .mov (.tmp 12), none⟩,
   ⟨some 32, .bin .add (.tmp 31) (.const (.int .i64 1)), none⟩,
   ⟨some 12, .mov (.tmp 32), none⟩]))))))
 (.cut (.seq (.region [
 ⟨some 158, .mov (.tmp 10), none⟩])
 (.cond (.tmp 158)
  (.region [
  ⟨some 159, .mov (.tmp 9), none⟩,
  ⟨some 160, .bld [(.int .i64 0), (.int .i64 0), (.int .i64 0), (.int .i64 0), (.int .i64 0)] [(0, 1, (.const (.int .i64 8)))], none⟩,
  ⟨some 161, .blds 69 1 [(.int .i64 0), (.int .i64 0), (.int .i64 0), (.int .i64 0), (.int .i64 0)] [(0, 5, (.tmp 160))], none⟩,
  ⟨some 162, .app 69 5 40 [(.int .i64 0), (.int .i64 0), (.int .i64 0), (.int .i64 0), (.int .i64 0)] (.tmp 159) (.tmp 161), none⟩,
  ⟨some 9, .mov (.tmp 162), none⟩])
  .skip))
 (.seq (.seq (.region [
 ⟨some 17, .mov (.const (.int .i64 0)), none⟩])
 (.block 4
  (.loop 1569275422154657092311724010172437942295324703868549201920
   (.seq (.seq (.region [
   ⟨some 163, .mov (.tmp 17), none⟩,
   ⟨some 164, .mov (.tmp 11), none⟩,
   ⟨some 165, .len (.tmp 164), none⟩,
   ⟨some 166, .bin .lss (.tmp 163) (.tmp 165), none⟩])
   (.cond (.tmp 166)
    .skip
    (.exit 4)))
   (.seq (.block 5
    (.seq (.region [
    ⟨some 169, .mov (.tmp 9), none⟩,
    ⟨some 170, .mov (.tmp 11), none⟩,
    ⟨some 171, .mov (.tmp 17), none⟩,
    ⟨some 172, .ixs 1 (.tmp 170) (.tmp 171), none⟩,
    ⟨some 173, .ld (.tmp 172), none⟩,
    ⟨some 174, .ixs 5 (.tmp 169) (.tmp 173), none⟩,
    ⟨some 175, .fad 4 (.tmp 174), none⟩,
    ⟨none, .st (.tmp 175) (.const (.int .i64 1)), none⟩])
    (.seq (.region [
    ⟨some 177, .mov (.tmp 9), none⟩,
    ⟨some 178, .call 50 [(.tmp 177)], none⟩,
    ⟨some 176, .mov (.tmp 178), none⟩,
    ⟨some 179, .ext (.tmp 176) 0, none⟩,
    ⟨some 180, .ext (.tmp 176) 1, none⟩,
    ⟨some 18, .mov (.tmp 179), none⟩,
    ⟨some 19, .mov (.tmp 180), none⟩])
    (.seq (.region [
    ⟨some 181, .mov (.tmp 19), none⟩,
    ⟨some 182, .bin .neq (.tmp 181) (.const (.int .i64 0)), none⟩])
    (.cond (.tmp 182)
     (.region [
     ⟨some 183, .mov (.tmp 9), none⟩,
     ⟨some 184, .mov (.tmp 11), none⟩,
     ⟨some 185, .mov (.tmp 17), none⟩,
     ⟨some 186, .ixs 1 (.tmp 184) (.tmp 185), none⟩,
     ⟨some 187, .ld (.tmp 186), none⟩,
     ⟨some 188, .ixs 5 (.tmp 183) (.tmp 187), none⟩,
     ⟨some 189, .fad 4 (.tmp 188), none⟩,
     ⟨none, .st (.tmp 189) (.const (.int .i64 0)), none⟩])
     .skip)))))
   (.region [
   ⟨some 167, .mov (.tmp 17), none⟩,
   ⟨some 168, .bin .add (.tmp 167) (.const (.int .i64 1)), none⟩,
   ⟨some 17, .mov (.tmp 168), none⟩]))))))
 (.seq (.region [
 ⟨some 190, .mov (.tmp 9), none⟩,
 ⟨some 8, .mov (.tmp 190), none⟩])
 .ret)))))))),
 [.tmp 8]⟩
theorem lowc_make_Program : lowFn Tryz.prog movers 53 = some ⟨irc_make_Program.n, strip irc_make_Program.body, irc_make_Program.res⟩ := by kernel_rfl
end Go.Proofs.YtfompmhncnkcfaaGreatDoor
namespace Go.Proofs.YtfompmhncnkcfaaGreatDoor
open Go
set_option maxRecDepth 100000
def ir_make_Config : IFn := ⟨78,
 (.seq (.region [
 ⟨some 10, .new 27 (.agg #[.int .i64 0, .int .i64 0, .int .i64 0, .int .i64 0, .int .i64 0, .int .i64 0, .int .i64 0, .int .i64 0, .int .i64 0, .int .i64 0, .int .i64 0, .int .i64 0, .bool false]), none⟩])
 (.seq (.region [
 ⟨some 15, .mov (.tmp 0), none⟩,
 ⟨some 16, .call 23 [(.tmp 15), (.const (.int .i64 9))], none⟩,
 ⟨some 17, .bin .add (.const (.int .i64 4)) (.tmp 16), none⟩,
 ⟨some 18, .mov (.tmp 1), none⟩,
 ⟨some 19, .call 23 [(.tmp 18), (.const (.int .i64 8))], none⟩,
 ⟨some 20, .bin .add (.const (.int .i64 1)) (.tmp 19), none⟩,
 ⟨some 21, .bld [(.int .i64 0), (.int .i64 0), (.int .i64 0), (.int .i64 0), (.int .i64 0), (.int .i64 0), (.int .i64 0), (.int .i64 0), (.int .i64 0), (.int .i64 0), (.int .i64 0), (.int .i64 0), (.bool false)] [(0, 1, (.tmp 17)), (1, 1, (.tmp 20))], none⟩,
 ⟨some 11, .new 27 (.agg #[.int .i64 0, .int .i64 0, .int .i64 0, .int .i64 0, .int .i64 0, .int .i64 0, .int .i64 0, .int .i64 0, .int .i64 0, .int .i64 0, .int .i64 0, .int .i64 0, .bool false]), none⟩,
 ⟨none, .stN 13 (.tmp 11) (.tmp 21), none⟩])
 (.seq (.region [
 ⟨some 22, .mov (.tmp 2), none⟩,
 ⟨some 23, .call 23 [(.tmp 22), (.const (.int .i64 6))], none⟩,
 ⟨some 24, .bin .add (.const (.int .i64 1)) (.tmp 23), none⟩,
 ⟨some 25, .fad 7 (.tmp 11), none⟩,
 ⟨none, .st (.tmp 25) (.tmp 24), none⟩])
 (.seq (.region [
 ⟨some 26, .mov (.tmp 2), none⟩,
 ⟨some 27, .bin .quo (.tmp 26) (.const (.int .i64 7)), none⟩,
 ⟨some 28, .call 23 [(.tmp 27), (.const (.int .i64 8))], none⟩,
 ⟨some 29, .bin .add (.const (.int .i64 1)) (.tmp 28), none⟩,
 ⟨some 30, .fad 8 (.tmp 11), none⟩,
 ⟨none, .st (.tmp 30) (.tmp 29), none⟩])
 (.seq (.region [
 ⟨some 31, .mov (.tmp 3), none⟩,
 ⟨some 32, .call 23 [(.tmp 31), (.const (.int .i64 3))], none⟩,
 ⟨some 33, .fad 9 (.tmp 11), none⟩,
 ⟨none, .st (.tmp 33) (.tmp 32), none⟩])
 (.seq (.region [
 ⟨some 34, .mov (.tmp 3), none⟩,
 ⟨some 35, .bin .quo (.tmp 34) (.const (.int .i64 3)), none⟩,
 ⟨some 36, .call 23 [(.tmp 35), (.const (.int .i64 3))], none⟩,
 ⟨some 37, .fad 10 (.tmp 11), none⟩,
 ⟨none, .st (.tmp 37) (.tmp 36), none⟩])
 (.seq (.region [
 ⟨some 38, .fad 11 (.tmp 11), none⟩,
 ⟨none, .st (.tmp 38) (.const (.int .i64 50)), none⟩])
 (.seq (.seq (.region [
 ⟨some 39, .mov (.tmp 4), none⟩,
 ⟨some 40, .call 23 [(.tmp 39), (.const (.int .i64 5))], none⟩,
 ⟨some 41, .bin .eql (.tmp 40) (.const (.int .i64 0)), none⟩])
 (.cond (.tmp 41)
  (.region [
  ⟨some 42, .mov (.tmp 4), none⟩,
  ⟨some 43, .bin .quo (.tmp 42) (.const (.int .i64 5)), none⟩,
  ⟨some 44, .call 23 [(.tmp 43), (.const (.int .i64 4))], none⟩,
  ⟨some 45, .fad 11 (.tmp 11), none⟩,
  ⟨none, .st (.tmp 45) (.tmp 44), none⟩])
  .skip))
 (.seq (.region [
 ⟨some 46, .fad 2 (.tmp 11), none⟩,
 ⟨none, .st (.tmp 46) (.const (.int .i64 2)), none⟩])
 (.seq (.region [
 ⟨some 47, .fad 0 (.tmp 11), none⟩,
 ⟨some 48, .ld (.tmp 47), none⟩,
 ⟨some 49, .bin .sub (.tmp 48) (.const (.int .i64 2)), none⟩,
 ⟨some 12, .mov (.tmp 49), none⟩])
 (.seq (.seq (.region [
 ⟨some 13, .mov (.const (.int .i64 0)), none⟩])
 (.block 0
  (.loop 151115726325928740024320
   (.seq (.seq (.region [
   ⟨some 50, .mov (.tmp 13), none⟩,
   ⟨some 51, .bin .lss (.tmp 50) (.const (.int .i64 2)), none⟩])
   (.cond (.tmp 51)
    .skip
    (.exit 0)))
   (.seq (.block 1
    (.seq (.draw (.f ⟨some 54, .mov (.tmp 3), none⟩
    (.f ⟨some 55, .mov (.tmp 13), none⟩
    (.f ⟨some 56, .bin .mul (.const (.int .i64 20)) (.tmp 55), none⟩
    (.f ⟨some 57, .bin .add (.const (.int .i64 9)) (.tmp 56), none⟩
    (.f ⟨some 58, .bin .quo (.tmp 54) (.tmp 57), none⟩
    (.f ⟨some 59, .mov (.tmp 12), none⟩
    (.f ⟨some 60, .mov (.tmp 13), none⟩
    (.f ⟨some 61, .bin .shr (.tmp 59) (.tmp 60), none⟩
    (.f ⟨some 62, .bin .add (.tmp 61) (.const (.int .i64 1)), none⟩
    (.f ⟨some 63, .call 23 [(.tmp 58), (.tmp 62)], none⟩
    (.f ⟨some 14, .mov (.tmp 63), none⟩
    .done))))))))))))
    (.seq (.region [
    ⟨some 64, .mov (.tmp 13), none⟩,
    ⟨some 65, .mov (.tmp 14), none⟩,
    ⟨some 66, .mm false (.tmp 65) (.const (.int .i64 2)), none⟩,
    ⟨some 67, .fad 3 (.tmp 11), none⟩,
    ⟨some 68, .ixa 4 1 (.tmp 67) (.tmp 64), none⟩,
    ⟨none, .st (.tmp 68) (.tmp 66), none⟩])
    (.region [
    ⟨some 69, .mov (.tmp 12), none⟩,
    ⟨some 70, .mov (.tmp 13), none⟩,
    ⟨some 71, .fad 3 (.tmp 11), none⟩,
    ⟨some 72, .ixa 4 1 (.tmp 71) (.tmp 70), none⟩,
    ⟨some 73, .ld (.tmp 72), none⟩,
    ⟨some 74, .mov (.tmp 13), none⟩,
    ⟨some 75, .bin .shl (.tmp 73) (.tmp 74), none⟩,
    ⟨some 76, .bin .sub (.tmp 69) (.tmp 75), none⟩,
    ⟨some 12, .mov (.tmp 76), none⟩]))))
   (.region [
   ⟨some 52, .mov (.tmp 13), none⟩,
   ⟨some 53, .bin .add (.tmp 52) (.const (.int .i64 1)), none⟩,
   ⟨some 13, .mov (.tmp 53), none⟩]))))))
 (.seq (.region [
 ⟨some 77, .ldN 13 (.tmp 11), none⟩,
 ⟨none, .stN 13 (.tmp 10) (.tmp 77), none⟩])
 .ret)))))))))))),
 [.cellN 10 13]⟩
theorem low_make_Config : lowFn Tryz.prog movers 28 = some ⟨ir_make_Config.n, strip ir_make_Config.body, ir_make_Config.res⟩ := by kernel_rfl
def ir_make_Script : IFn := ⟨82,
 (.seq (.region [
 ⟨some 7, .box 27 (.tmp 0), none⟩,
 ⟨some 14, .new 32 (.agg #[.int .i64 0, .int .i64 0, .int .i64 0, .int .i64 0, .int .i64 0, .int .i64 0, .int .i64 0, .int .i64 0, .int .i64 0, .int .i64 0, .int .i64 0, .int .i64 0, .bool false, .slice none 0 0, .slice none 0 0, .slice none 0 0]), none⟩])
 (.seq (.region [
 ⟨some 20, .ldN 13 (.tmp 7), none⟩,
 ⟨some 21, .bld [(.int .i64 0), (.int .i64 0), (.int .i64 0), (.int .i64 0), (.int .i64 0), (.int .i64 0), (.int .i64 0), (.int .i64 0), (.int .i64 0), (.int .i64 0), (.int .i64 0), (.int .i64 0), (.bool false), (.slice none 0 0), (.slice none 0 0), (.slice none 0 0)] [(0, 13, (.tmp 20))], none⟩,
 ⟨some 15, .new 32 (.agg #[.int .i64 0, .int .i64 0, .int .i64 0, .int .i64 0, .int .i64 0, .int .i64 0, .int .i64 0, .int .i64 0, .int .i64 0, .int .i64 0, .int .i64 0, .int .i64 0, .bool false, .slice none 0 0, .slice none 0 0, .slice none 0 0]), none⟩,
 ⟨none, .stN 16 (.tmp 15) (.tmp 21), none⟩])
 (.seq (.seq (.region [
 ⟨some 16, .mov (.const (.int .i64 0)), none⟩])
 (.block 0
  (.loop 68715347968
   (.seq (.seq (.region [
   ⟨some 22, .mov (.tmp 16), none⟩,
   ⟨some 23, .fad 0 (.tmp 7), none⟩,
   ⟨some 24, .ld (.tmp 23), none⟩,
   ⟨some 25, .bin .lss (.tmp 22) (.tmp 24), none⟩])
   (.cond (.tmp 25)
    .skip
    (.exit 0)))
   (.seq (.block 1
    (.region [
    ⟨some 28, .fad 13 (.tmp 15), none⟩,
    ⟨some 29, .ld (.tmp 28), none⟩,
    ⟨some 30, .mov (.tmp 16), none⟩,
    ⟨some 31, .bin .rem (.tmp 30) (.const (.int .i64 4)), none⟩,
    ⟨some 32, .conv .u64 (.tmp 31), none⟩,
    ⟨some 33, .blds 63 1 [(.int .u64 0)] [(0, 1, (.tmp 32))], none⟩,
    ⟨some 34, .app 63 1 8 [(.int .u64 0)] (.tmp 29) (.tmp 33), none⟩,
    ⟨some 35, .fad 13 (.tmp 15), none⟩,
    ⟨none, .st (.tmp 35) (.tmp 34), none⟩]))
   (.region [
   ⟨some 26, .mov (.tmp 16), none⟩,
   ⟨some 27, .bin .add (.tmp 26) (.const (.int .i64 1)), none⟩,
   ⟨some 16, .mov (.tmp 27), none⟩]))))))
 (.seq (.seq (.region [
 ⟨some 17, .mov (.const (.int .i64 0)), none⟩])
 (.block 2
  (.loop 18446744004990468096
   (.seq (.seq (.region [
   ⟨some 36, .mov (.tmp 17), none⟩,
   ⟨some 37, .mov (.tmp 1), none⟩,
   ⟨some 38, .bin .lss (.tmp 36) (.tmp 37), none⟩])
   (.cond (.tmp 38)
    .skip
    (.exit 2)))
   (.seq (.block 3
    (.seq (.region [
    ⟨some 18, .mov (.const (.slice none 0 0)), none⟩])
    (.seq (.seq (.region [
    ⟨some 41, .mov (.tmp 17), none⟩,
    ⟨some 42, .mov (.tmp 2), none⟩,
    ⟨some 43, .len (.tmp 42), none⟩,
    ⟨some 44, .bin .lss (.tmp 41) (.tmp 43), none⟩])
    (.cond (.tmp 44)
     (.region [
     ⟨some 45, .mov (.tmp 2), none⟩,
     ⟨some 46, .mov (.tmp 17), none⟩,
     ⟨some 47, .ixs 1 (.tmp 45) (.tmp 46), none⟩,
     ⟨some 48, .ld (.tmp 47), none⟩,
     ⟨some 18, .mov (.tmp 48), none⟩])
     .skip))
    (.draw (.f ⟨some 49, .fad 14 (.tmp 15), none⟩
    (.f ⟨some 51, .mov (.tmp 18), none⟩
    (.f ⟨some 52, .mov (.tmp 3), none⟩
    (.f ⟨some 53, .mov (.tmp 4), none⟩
    (.f ⟨some 54, .mov (.tmp 53), none⟩
    (.f ⟨some 55, .ldN 13 (.tmp 7), some (54, true)⟩
    (.f ⟨some 56, .call 35 [(.tmp 55)], some (54, true)⟩
    (.f ⟨some 57, .bin .gtr (.tmp 56) (.const (.int .i64 0)), some (54, true)⟩
    (.f ⟨some 58, .pick (.tmp 54) (.tmp 57) (.const (.bool false)), none⟩
    (.f ⟨some 59, .mov (.tmp 5), none⟩
    (.both (.f ⟨some 50, .ld (.tmp 49), none⟩
     (.m ⟨some 60, .call 53 [(.tmp 51), (.tmp 52), (.tmp 58), (.tmp 59)], none⟩
     (.m ⟨some 61, .blds 67 1 [(.slice none 0 0)] [(0, 1, (.tmp 60))], none⟩
     (.m ⟨some 62, .app 67 1 24 [(.slice none 0 0)] (.tmp 50) (.tmp 61), none⟩
     (.f ⟨some 63, .fad 14 (.tmp 15), none⟩
     (.m ⟨none, .st (.tmp 63) (.tmp 62), none⟩
     .done))))))
    (.m ⟨some 60, .call 53 [(.tmp 51), (.tmp 52), (.tmp 58), (.tmp 59)], none⟩
     (.f ⟨some 50, .ld (.tmp 49), none⟩
     (.m ⟨some 61, .blds 67 1 [(.slice none 0 0)] [(0, 1, (.tmp 60))], none⟩
     (.m ⟨some 62, .app 67 1 24 [(.slice none 0 0)] (.tmp 50) (.tmp 61), none⟩
     (.f ⟨some 63, .fad 14 (.tmp 15), none⟩
     (.m ⟨none, .st (.tmp 63) (.tmp 62), none⟩
     .done)))))))))))))))))))))
   (.region [
   ⟨some 39, .mov (.tmp 17), none⟩,
   ⟨some 40, .bin .add (.tmp 39) (.const (.int .i64 1)), none⟩,
   ⟨some 17, .mov (.tmp 40), none⟩]))))))
 (.seq (.seq (.region [
 ⟨some 19, .mov (.const (.int .i64 0)), none⟩])
 (.block 4
  (.loop 2417833192485184640385024
   (.seq (.seq (.region [
   ⟨some 64, .mov (.tmp 19), none⟩,
   ⟨some 65, .mov (.tmp 6), none⟩,
   ⟨some 66, .len (.tmp 65), none⟩,
   ⟨some 67, .bin .lss (.tmp 64) (.tmp 66), none⟩])
   (.cond (.tmp 67)
    .skip
    (.exit 4)))
   (.seq (.block 5
    (.draw (.f ⟨some 70, .fad 15 (.tmp 15), none⟩
    (.f ⟨some 71, .ld (.tmp 70), none⟩
    (.f ⟨some 72, .mov (.tmp 6), none⟩
    (.f ⟨some 73, .mov (.tmp 19), none⟩
    (.f ⟨some 74, .ixs 1 (.tmp 72) (.tmp 73), none⟩
    (.f ⟨some 75, .ld (.tmp 74), none⟩
    (.f ⟨some 76, .mov (.tmp 1), none⟩
    (.f ⟨some 77, .call 23 [(.tmp 75), (.tmp 76)], none⟩
    (.m ⟨some 78, .blds 3 1 [(.int .i64 0)] [(0, 1, (.tmp 77))], none⟩
    (.m ⟨some 79, .app 3 1 8 [(.int .i64 0)] (.tmp 71) (.tmp 78), none⟩
    (.f ⟨some 80, .fad 15 (.tmp 15), none⟩
    (.m ⟨none, .st (.tmp 80) (.tmp 79), none⟩
    .done))))))))))))))
   (.region [
   ⟨some 68, .mov (.tmp 19), none⟩,
   ⟨some 69, .bin .add (.tmp 68) (.const (.int .i64 1)), none⟩,
   ⟨some 19, .mov (.tmp 69), none⟩]))))))
 (.seq (.region [
 ⟨some 81, .ldN 16 (.tmp 15), none⟩,
 ⟨none, .stN 16 (.tmp 14) (.tmp 81), none⟩])
 .ret)))))),
 [.cellN 14 16]⟩
theorem low_make_Script : lowFn Tryz.prog movers 29 = some ⟨ir_make_Script.n, strip ir_make_Script.body, ir_make_Script.res⟩ := by kernel_rfl
def ir_make_instruction : IFn := ⟨84,
 (.seq (.region [
 ⟨some 4, .new 69 (.agg #[.int .i64 0, .int .i64 0, .int .i64 0, .int .i64 0, .int .i64 0]), none⟩])
 (.seq (.region [
 ⟨some 9, .mov (.tmp 1), none⟩,
 ⟨some 10, .bin .rem (.tmp 9) (.const (.int .u64 4)), none⟩,
 ⟨some 11, .conv .i64 (.tmp 10), none⟩,
 ⟨some 12, .mov (.tmp 1), none⟩,
 ⟨some 13, .bin .quo (.tmp 12) (.const (.int .u64 4)), none⟩,
 ⟨some 14, .bin .rem (.tmp 13) (.const (.int .u64 4)), none⟩,
 ⟨some 15, .conv .i64 (.tmp 14), none⟩,
 ⟨some 16, .mov (.tmp 1), none⟩,
 ⟨some 17, .bin .quo (.tmp 16) (.const (.int .u64 16)), none⟩,
 ⟨some 18, .bin .rem (.tmp 17) (.const (.int .u64 4)), none⟩,
 ⟨some 19, .conv .i64 (.tmp 18), none⟩,
 ⟨some 5, .mov (.tmp 11), none⟩,
 ⟨some 6, .mov (.tmp 15), none⟩,
 ⟨some 7, .mov (.tmp 19), none⟩])
 (.seq (.region [
 ⟨some 20, .mov (.tmp 1), none⟩,
 ⟨some 21, .bin .quo (.tmp 20) (.const (.int .u64 64)), none⟩,
 ⟨some 22, .bin .rem (.tmp 21) (.const (.int .u64 1024)), none⟩,
 ⟨some 23, .conv .i64 (.tmp 22), none⟩,
 ⟨some 8, .mov (.tmp 23), none⟩])
 (.seq (.seq (.region [
 ⟨some 24, .mov (.tmp 0), none⟩])
 (.block 0
  (.seq (.region [
  ⟨some 26, .bin .eql (.tmp 24) (.const (.int .i64 1)), none⟩,
  ⟨some 25, .mov (.tmp 26), none⟩])
  (.cond (.tmp 25)
   (.seq (.region [
   ⟨some 27, .mov (.tmp 0), none⟩,
   ⟨some 28, .mov (.tmp 5), none⟩,
   ⟨some 29, .mov (.tmp 8), none⟩,
   ⟨some 30, .bin .rem (.tmp 29) (.const (.int .i64 7)), none⟩,
   ⟨some 31, .bld [(.int .i64 0), (.int .i64 0), (.int .i64 0), (.int .i64 0), (.int .i64 0)] [(0, 1, (.tmp 27)), (1, 1, (.tmp 28)), (4, 1, (.tmp 30))], none⟩,
   ⟨none, .stN 5 (.tmp 4) (.tmp 31), none⟩])
   .ret)
   (.seq (.region [
   ⟨some 33, .bin .eql (.tmp 24) (.const (.int .i64 2)), none⟩,
   ⟨some 32, .mov (.tmp 33), none⟩])
   (.cond (.tmp 32)
    (.seq (.region [
    ⟨some 34, .mov (.tmp 0), none⟩,
    ⟨some 35, .mov (.tmp 5), none⟩,
    ⟨some 36, .mov (.tmp 6), none⟩,
    ⟨some 37, .bld [(.int .i64 0), (.int .i64 0), (.int .i64 0), (.int .i64 0), (.int .i64 0)] [(0, 1, (.tmp 34)), (1, 1, (.tmp 35)), (2, 1, (.tmp 36))], none⟩,
    ⟨none, .stN 5 (.tmp 4) (.tmp 37), none⟩])
    .ret)
    (.seq (.region [
    ⟨some 39, .bin .eql (.tmp 24) (.const (.int .i64 3)), none⟩,
    ⟨some 38, .mov (.tmp 39), none⟩])
    (.cond (.tmp 38)
     (.seq (.region [
     ⟨some 40, .mov (.tmp 0), none⟩,
     ⟨some 41, .mov (.tmp 5), none⟩,
     ⟨some 42, .mov (.tmp 6), none⟩,
     ⟨some 43, .mov (.tmp 7), none⟩,
     ⟨some 44, .blds 3 6 [(.int .i64 0), (.int .i64 0), (.int .i64 0), (.int .i64 0), (.int .i64 0), (.int .i64 0)] [(0, 1, (.const (.int .i64 0))), (1, 1, (.const (.int .i64 1))), (2, 1, (.const (.int .i64 5))), (3, 1, (.const (.int .i64 8))), (4, 1, (.const (.int .i64 11))), (5, 1, (.const (.int .i64 12)))], none⟩,
     ⟨some 45, .mov (.tmp 8), none⟩,
     ⟨some 46, .bin .rem (.tmp 45) (.const (.int .i64 6)), none⟩,
     ⟨some 47, .ixs 1 (.tmp 44) (.tmp 46), none⟩,
     ⟨some 48, .ld (.tmp 47), none⟩,
     ⟨some 49, .bld [(.int .i64 0), (.int .i64 0), (.int .i64 0), (.int .i64 0), (.int .i64 0)] [(0, 1, (.tmp 40)), (1, 1, (.tmp 41)), (2, 1, (.tmp 42)), (3, 1, (.tmp 43)), (4, 1, (.tmp 48))], none⟩,
     ⟨none, .stN 5 (.tmp 4) (.tmp 49), none⟩])
     .ret)
     (.seq (.seq (.region [
     ⟨some 51, .bin .eql (.tmp 24) (.const (.int .i64 10)), none⟩,
     ⟨some 50, .mov (.tmp 51), none⟩])
     (.cond (.tmp 50)
      .skip
      (.seq (.region [
      ⟨some 52, .bin .eql (.tmp 24) (.const (.int .i64 11)), none⟩,
      ⟨some 50, .mov (.tmp 52), none⟩])
      (.cond (.tmp 50)
       .skip
       (.seq (.region [
       ⟨some 53, .bin .eql (.tmp 24) (.const (.int .i64 12)), none⟩,
       ⟨some 50, .mov (.tmp 53), none⟩])
       (.cond (.tmp 50)
        .skip
        (.region [
        ⟨some 54, .bin .eql (.tmp 24) (.const (.int .i64 13)), none⟩,
        ⟨some 50, .mov (.tmp 54), none⟩])))))))
     (.cond (.tmp 50)
      (.seq (.region [
      ⟨some 55, .mov (.tmp 0), none⟩,
      ⟨some 56, .mov (.tmp 5), none⟩,
      ⟨some 57, .mov (.tmp 6), none⟩,
      ⟨some 58, .mov (.tmp 8), none⟩,
      ⟨some 59, .bin .rem (.tmp 58) (.const (.int .i64 5)), none⟩,
      ⟨some 60, .bld [(.int .i64 0), (.int .i64 0), (.int .i64 0), (.int .i64 0), (.int .i64 0)] [(0, 1, (.tmp 55)), (1, 1, (.tmp 56)), (2, 1, (.tmp 57)), (4, 1, (.tmp 59))], none⟩,
      ⟨none, .stN 5 (.tmp 4) (.tmp 60), none⟩])
      .ret)
      (.seq (.region [
      ⟨some 62, .bin .eql (.tmp 24) (.const (.int .i64 14)), none⟩,
      ⟨some 61, .mov (.tmp 62), none⟩])
      (.cond (.tmp 61)
       (.seq (.region [
       ⟨some 63, .mov (.tmp 0), none⟩,
       ⟨some 64, .mov (.tmp 5), none⟩,
       ⟨some 65, .mov (.tmp 8), none⟩,
       ⟨some 66, .bin .rem (.tmp 65) (.const (.int .i64 3)), none⟩,
       ⟨some 67, .bin .rem (.tmp 66) (.const (.int .i64 2)), none⟩,
       ⟨some 68, .bld [(.int .i64 0), (.int .i64 0), (.int .i64 0), (.int .i64 0), (.int .i64 0)] [(0, 1, (.tmp 63)), (1, 1, (.tmp 64)), (4, 1, (.tmp 67))], none⟩,
       ⟨none, .stN 5 (.tmp 4) (.tmp 68), none⟩])
       .ret)
       (.seq (.seq (.region [
       ⟨some 70, .bin .eql (.tmp 24) (.const (.int .i64 15)), none⟩,
       ⟨some 69, .mov (.tmp 70), none⟩])
       (.cond (.tmp 69)
        .skip
        (.region [
        ⟨some 71, .bin .eql (.tmp 24) (.const (.int .i64 17)), none⟩,
        ⟨some 69, .mov (.tmp 71), none⟩])))
       (.cond (.tmp 69)
        (.seq (.region [
        ⟨some 72, .mov (.tmp 0), none⟩,
        ⟨some 73, .mov (.tmp 5), none⟩,
        ⟨some 74, .bld [(.int .i64 0), (.int .i64 0), (.int .i64 0), (.int .i64 0), (.int .i64 0)] [(0, 1, (.tmp 72)), (1, 1, (.tmp 73))], none⟩,
        ⟨none, .stN 5 (.tmp 4) (.tmp 74), none⟩])
        .ret)
        (.seq (.region [
        ⟨some 76, .bin .eql (.tmp 24) (.const (.int .i64 7)), none⟩,
        ⟨some 75, .mov (.tmp 76), none⟩])
        (.cond (.tmp 75)
         (.seq (.region [
         ⟨some 77, .mov (.tmp 0), none⟩,
         ⟨some 78, .mov (.tmp 8), none⟩,
         ⟨some 79, .bin .rem (.tmp 78) (.const (.int .i64 3)), none⟩,
         ⟨some 80, .bin .add (.const (.int .i64 1)) (.tmp 79), none⟩,
         ⟨some 81, .bld [(.int .i64 0), (.int .i64 0), (.int .i64 0), (.int .i64 0), (.int .i64 0)] [(0, 1, (.tmp 77)), (4, 1, (.tmp 80))], none⟩,
         ⟨none, .stN 5 (.tmp 4) (.tmp 81), none⟩])
         .ret)
         .skip))))))))))))))))
 (.seq (.region [
 ⟨some 82, .mov (.tmp 0), none⟩,
 ⟨some 83, .bld [(.int .i64 0), (.int .i64 0), (.int .i64 0), (.int .i64 0), (.int .i64 0)] [(0, 1, (.tmp 82))], none⟩,
 ⟨none, .stN 5 (.tmp 4) (.tmp 83), none⟩])
 .ret))))),
 [.cellN 4 5]⟩
theorem low_make_instruction : lowFn Tryz.prog movers 79 = some ⟨ir_make_instruction.n, strip ir_make_instruction.body, ir_make_instruction.res⟩ := by kernel_rfl
end Go.Proofs.YtfompmhncnkcfaaGreatDoor
