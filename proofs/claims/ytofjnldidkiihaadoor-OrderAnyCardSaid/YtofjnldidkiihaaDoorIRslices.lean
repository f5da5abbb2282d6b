/- The lowered code of a package, printed by program; each function is checked against the loaded program by the kernel. No condition. -/
import Derived.Test.YtofjnldidkiihaaDoorIR
namespace Go.Proofs.YtofjnldidkiihaaDoor
open Go
set_option maxRecDepth 100000

/-- slices.Clone(()int,int) -/
def ir_slices_Clone_int : IFn := ⟨8,
 (.seq (.region [
 ⟨some 2, .mov (.const (.slice none 0 0)), none⟩])
 (.seq (.seq (.region [
 ⟨some 3, .mov (.tmp 0), none⟩,
 ⟨some 4, .nilq false 0 (.tmp 3) (.const (.slice none 0 0)), none⟩])
 (.cond (.tmp 4)
  (.seq (.region [
  ⟨some 2, .mov (.const (.slice none 0 0)), none⟩])
  .ret)
  .skip))
 (.seq (.region [
 ⟨some 5, .blds 3 0 [] [], none⟩,
 ⟨some 6, .mov (.tmp 0), none⟩,
 ⟨some 7, .app 3 1 8 [(.int .i64 0)] (.tmp 5) (.tmp 6), none⟩,
 ⟨some 2, .mov (.tmp 7), none⟩])
 .ret))),
 [.tmp 2]⟩
theorem low_slices_Clone_int : lowFn Tryd.prog movers 44 = some ⟨ir_slices_Clone_int.n, strip ir_slices_Clone_int.body, ir_slices_Clone_int.res⟩ := by kernel_rfl

/-- slices.Concat(()int,int) -/
def ir_slices_Concat_int : IFn := ⟨36,
 (.seq (.region [
 ⟨some 2, .mov (.const (.slice none 0 0)), none⟩])
 (.seq (.region [
 ⟨some 3, .mov (.const (.int .i64 0)), none⟩])
 (.seq (.seq (.region [
 ⟨some 9, .mov (.tmp 0), none⟩,
 ⟨some 10, .len (.tmp 9), none⟩,
 ⟨some 11, .mov (.const (.int .i64 0)), none⟩])
 (.block 0
  (.loop 8386600
   (.seq (.region [
   ⟨some 12, .bin .lss (.tmp 11) (.tmp 10), none⟩])
   (.seq (.cond (.tmp 12)
    .skip
    (.exit 0))
   (.seq (.block 1
    (.seq (.region [
    ⟨some 13, .ixs 1 (.tmp 9) (.tmp 11), none⟩,
    ⟨some 14, .ld (.tmp 13), none⟩,
    ⟨some 5, .mov (.tmp 14), none⟩])
    (.seq (.region [
    ⟨some 15, .mov (.tmp 3), none⟩,
    ⟨some 16, .mov (.tmp 5), none⟩,
    ⟨some 17, .len (.tmp 16), none⟩,
    ⟨some 18, .bin .add (.tmp 15) (.tmp 17), none⟩,
    ⟨some 3, .mov (.tmp 18), none⟩])
    (.seq (.region [
    ⟨some 19, .mov (.tmp 3), none⟩,
    ⟨some 20, .bin .lss (.tmp 19) (.const (.int .i64 0)), none⟩])
    (.cond (.tmp 20)
     (.region [
     ⟨some 21, .bad, none⟩,
     ⟨none, .bad, none⟩])
     .skip)))))
   (.region [
   ⟨some 22, .bin .add (.tmp 11) (.const (.int .i64 1)), none⟩,
   ⟨some 11, .mov (.tmp 22), none⟩])))))))
 (.seq (.region [
 ⟨some 23, .mov (.tmp 3), none⟩,
 ⟨some 24, .call 74 [(.const (.slice none 0 0)), (.tmp 23)], none⟩,
 ⟨some 6, .mov (.tmp 24), none⟩])
 (.seq (.seq (.region [
 ⟨some 25, .mov (.tmp 0), none⟩,
 ⟨some 26, .len (.tmp 25), none⟩,
 ⟨some 27, .mov (.const (.int .i64 0)), none⟩])
 (.block 2
  (.loop 34225520960
   (.seq (.region [
   ⟨some 28, .bin .lss (.tmp 27) (.tmp 26), none⟩])
   (.seq (.cond (.tmp 28)
    .skip
    (.exit 2))
   (.seq (.block 3
    (.seq (.region [
    ⟨some 29, .ixs 1 (.tmp 25) (.tmp 27), none⟩,
    ⟨some 30, .ld (.tmp 29), none⟩,
    ⟨some 8, .mov (.tmp 30), none⟩])
    (.region [
    ⟨some 31, .mov (.tmp 6), none⟩,
    ⟨some 32, .mov (.tmp 8), none⟩,
    ⟨some 33, .app 3 1 8 [(.int .i64 0)] (.tmp 31) (.tmp 32), none⟩,
    ⟨some 6, .mov (.tmp 33), none⟩])))
   (.region [
   ⟨some 34, .bin .add (.tmp 27) (.const (.int .i64 1)), none⟩,
   ⟨some 27, .mov (.tmp 34), none⟩])))))))
 (.seq (.region [
 ⟨some 35, .mov (.tmp 6), none⟩,
 ⟨some 2, .mov (.tmp 35), none⟩])
 .ret)))))),
 [.tmp 2]⟩
theorem low_slices_Concat_int : lowFn Tryd.prog movers 62 = some ⟨ir_slices_Concat_int.n, strip ir_slices_Concat_int.body, ir_slices_Concat_int.res⟩ := by kernel_rfl

/-- slices.Compact(()int,int) -/
def ir_slices_Compact_int : IFn := ⟨61,
 (.seq (.region [
 ⟨some 2, .mov (.const (.slice none 0 0)), none⟩])
 (.seq (.seq (.region [
 ⟨some 6, .mov (.tmp 0), none⟩,
 ⟨some 7, .len (.tmp 6), none⟩,
 ⟨some 8, .bin .lss (.tmp 7) (.const (.int .i64 2)), none⟩])
 (.cond (.tmp 8)
  (.seq (.region [
  ⟨some 9, .mov (.tmp 0), none⟩,
  ⟨some 2, .mov (.tmp 9), none⟩])
  .ret)
  .skip))
 (.seq (.seq (.region [
 ⟨some 3, .mov (.const (.int .i64 1)), none⟩])
 (.block 0
  (.loop 1152921504606846012
   (.seq (.seq (.region [
   ⟨some 10, .mov (.tmp 3), none⟩,
   ⟨some 11, .mov (.tmp 0), none⟩,
   ⟨some 12, .len (.tmp 11), none⟩,
   ⟨some 13, .bin .lss (.tmp 10) (.tmp 12), none⟩])
   (.cond (.tmp 13)
    .skip
    (.exit 0)))
   (.seq (.block 1
    (.seq (.draw (.f ⟨some 16, .mov (.tmp 0), none⟩
    (.f ⟨some 17, .mov (.tmp 3), none⟩
    (.f ⟨some 18, .ixs 1 (.tmp 16) (.tmp 17), none⟩
    (.f ⟨some 19, .ld (.tmp 18), none⟩
    (.f ⟨some 20, .mov (.tmp 0), none⟩
    (.f ⟨some 21, .mov (.tmp 3), none⟩
    (.f ⟨some 22, .bin .sub (.tmp 21) (.const (.int .i64 1)), none⟩
    (.f ⟨some 23, .ixs 1 (.tmp 20) (.tmp 22), none⟩
    (.f ⟨some 24, .ld (.tmp 23), none⟩
    (.f ⟨some 25, .bin .eql (.tmp 19) (.tmp 24), none⟩
    .done)))))))))))
    (.cond (.tmp 25)
     (.seq (.region [
     ⟨some 26, .mov (.tmp 0), none⟩,
     ⟨some 27, .mov (.tmp 3), none⟩,
     ⟨some 28, .sls 1 (.tmp 26) (some (.tmp 27)) none none, none⟩,
     ⟨some 4, .mov (.tmp 28), none⟩])
     (.seq (.seq (.region [
     ⟨some 5, .mov (.const (.int .i64 1)), none⟩])
     (.block 2
      (.loop 18014397972611112
       (.seq (.seq (.region [
       ⟨some 29, .mov (.tmp 5), none⟩,
       ⟨some 30, .mov (.tmp 4), none⟩,
       ⟨some 31, .len (.tmp 30), none⟩,
       ⟨some 32, .bin .lss (.tmp 29) (.tmp 31), none⟩])
       (.cond (.tmp 32)
        .skip
        (.exit 2)))
       (.seq (.block 3
        (.seq (.draw (.f ⟨some 35, .mov (.tmp 4), none⟩
        (.f ⟨some 36, .mov (.tmp 5), none⟩
        (.f ⟨some 37, .ixs 1 (.tmp 35) (.tmp 36), none⟩
        (.f ⟨some 38, .ld (.tmp 37), none⟩
        (.f ⟨some 39, .mov (.tmp 4), none⟩
        (.f ⟨some 40, .mov (.tmp 5), none⟩
        (.f ⟨some 41, .bin .sub (.tmp 40) (.const (.int .i64 1)), none⟩
        (.f ⟨some 42, .ixs 1 (.tmp 39) (.tmp 41), none⟩
        (.f ⟨some 43, .ld (.tmp 42), none⟩
        (.f ⟨some 44, .bin .neq (.tmp 38) (.tmp 43), none⟩
        .done)))))))))))
        (.cond (.tmp 44)
         (.seq (.region [
         ⟨some 45, .mov (.tmp 0), none⟩,
         ⟨some 46, .mov (.tmp 3), none⟩,
         ⟨some 47, .mov (.tmp 4), none⟩,
         ⟨some 48, .mov (.tmp 5), none⟩,
         ⟨some 49, .ixs 1 (.tmp 47) (.tmp 48), none⟩,
         ⟨some 50, .ld (.tmp 49), none⟩,
         ⟨some 51, .ixs 1 (.tmp 45) (.tmp 46), none⟩,
         ⟨none, .st (.tmp 51) (.tmp 50), none⟩])
         (.region [
         ⟨some 52, .mov (.tmp 3), none⟩,
         ⟨some 53, .bin .add (.tmp 52) (.const (.int .i64 1)), none⟩,
         ⟨some 3, .mov (.tmp 53), none⟩]))
         .skip)))
       (.region [
       ⟨some 33, .mov (.tmp 5), none⟩,
       ⟨some 34, .bin .add (.tmp 33) (.const (.int .i64 1)), none⟩,
       ⟨some 5, .mov (.tmp 34), none⟩]))))))
     (.seq (.region [
     ⟨some 54, .mov (.tmp 0), none⟩,
     ⟨some 55, .mov (.tmp 3), none⟩,
     ⟨some 56, .sls 1 (.tmp 54) (some (.tmp 55)) none none, none⟩,
     ⟨none, .clr [(.int .i64 0)] (.tmp 56), none⟩])
     (.seq (.region [
     ⟨some 57, .mov (.tmp 0), none⟩,
     ⟨some 58, .mov (.tmp 3), none⟩,
     ⟨some 59, .sls 1 (.tmp 57) none (some (.tmp 58)) none, none⟩,
     ⟨some 2, .mov (.tmp 59), none⟩])
     .ret))))
     .skip)))
   (.region [
   ⟨some 14, .mov (.tmp 3), none⟩,
   ⟨some 15, .bin .add (.tmp 14) (.const (.int .i64 1)), none⟩,
   ⟨some 3, .mov (.tmp 15), none⟩]))))))
 (.seq (.region [
 ⟨some 60, .mov (.tmp 0), none⟩,
 ⟨some 2, .mov (.tmp 60), none⟩])
 .ret)))),
 [.tmp 2]⟩
theorem low_slices_Compact_int : lowFn Tryd.prog movers 64 = some ⟨ir_slices_Compact_int.n, strip ir_slices_Compact_int.body, ir_slices_Compact_int.res⟩ := by kernel_rfl

/-- slices.Contains(()int,int) -/
def ir_slices_Contains_int : IFn := ⟨9,
 (.seq (.region [
 ⟨some 4, .mov (.const (.bool false)), none⟩])
 (.seq (.region [
 ⟨some 5, .mov (.tmp 0), none⟩,
 ⟨some 6, .mov (.tmp 1), none⟩,
 ⟨some 7, .call 78 [(.tmp 5), (.tmp 6)], none⟩,
 ⟨some 8, .bin .geq (.tmp 7) (.const (.int .i64 0)), none⟩,
 ⟨some 4, .mov (.tmp 8), none⟩])
 .ret)),
 [.tmp 4]⟩
theorem low_slices_Contains_int : lowFn Tryd.prog movers 66 = some ⟨ir_slices_Contains_int.n, strip ir_slices_Contains_int.body, ir_slices_Contains_int.res⟩ := by kernel_rfl

/-- slices.Backward(()strongtx/api.Event,strongtx/api.Event) -/
def ir_slices_Backward_Event : IFn := ⟨4,
 (.seq (.region [
 ⟨some 1, .box 25 (.tmp 0), none⟩,
 ⟨some 2, .mov (.const (.nilFunc)), none⟩])
 (.seq (.region [
 ⟨some 3, .mkf 80 [(.tmp 1)], none⟩,
 ⟨some 2, .mov (.tmp 3), none⟩])
 .ret)),
 [.tmp 2]⟩
theorem low_slices_Backward_Event : lowFn Tryd.prog movers 68 = some ⟨ir_slices_Backward_Event.n, strip ir_slices_Backward_Event.body, ir_slices_Backward_Event.res⟩ := by kernel_rfl

/-- slices.ContainsFunc(()int,int) -/
def ir_slices_ContainsFunc_int : IFn := ⟨9,
 (.seq (.region [
 ⟨some 4, .mov (.const (.bool false)), none⟩])
 (.seq (.region [
 ⟨some 5, .mov (.tmp 0), none⟩,
 ⟨some 6, .mov (.tmp 1), none⟩,
 ⟨some 7, .call 81 [(.tmp 5), (.tmp 6)], none⟩,
 ⟨some 8, .bin .geq (.tmp 7) (.const (.int .i64 0)), none⟩,
 ⟨some 4, .mov (.tmp 8), none⟩])
 .ret)),
 [.tmp 4]⟩
theorem low_slices_ContainsFunc_int : lowFn Tryd.prog movers 72 = some ⟨ir_slices_ContainsFunc_int.n, strip ir_slices_ContainsFunc_int.body, ir_slices_ContainsFunc_int.res⟩ := by kernel_rfl

/-- slices.Grow(()int,int) -/
def ir_slices_Grow_int : IFn := ⟨27,
 (.seq (.region [
 ⟨some 4, .mov (.const (.slice none 0 0)), none⟩])
 (.seq (.seq (.region [
 ⟨some 5, .mov (.tmp 1), none⟩,
 ⟨some 6, .bin .lss (.tmp 5) (.const (.int .i64 0)), none⟩])
 (.cond (.tmp 6)
  (.region [
  ⟨some 7, .bad, none⟩,
  ⟨none, .bad, none⟩])
  .skip))
 (.seq (.seq (.region [
 ⟨some 8, .mov (.tmp 1), none⟩,
 ⟨some 9, .mov (.tmp 0), none⟩,
 ⟨some 10, .capb (.tmp 9), none⟩,
 ⟨some 11, .mov (.tmp 0), none⟩,
 ⟨some 12, .len (.tmp 11), none⟩,
 ⟨some 13, .bin .sub (.tmp 10) (.tmp 12), none⟩,
 ⟨some 14, .bin .sub (.tmp 8) (.tmp 13), none⟩,
 ⟨some 1, .mov (.tmp 14), none⟩])
 (.seq (.region [
 ⟨some 15, .mov (.tmp 1), none⟩,
 ⟨some 16, .bin .gtr (.tmp 15) (.const (.int .i64 0)), none⟩])
 (.cond (.tmp 16)
  (.region [
  ⟨some 17, .mov (.tmp 0), none⟩,
  ⟨some 18, .mov (.tmp 0), none⟩,
  ⟨some 19, .capb (.tmp 18), none⟩,
  ⟨some 20, .sls 1 (.tmp 17) none (some (.tmp 19)) none, none⟩,
  ⟨some 21, .mov (.tmp 1), none⟩,
  ⟨some 22, .appz 3 8 [(.int .i64 0)] (.tmp 20) (.tmp 21), none⟩,
  ⟨some 23, .mov (.tmp 0), none⟩,
  ⟨some 24, .len (.tmp 23), none⟩,
  ⟨some 25, .sls 1 (.tmp 22) none (some (.tmp 24)) none, none⟩,
  ⟨some 0, .mov (.tmp 25), none⟩])
  .skip)))
 (.seq (.region [
 ⟨some 26, .mov (.tmp 0), none⟩,
 ⟨some 4, .mov (.tmp 26), none⟩])
 .ret)))),
 [.tmp 4]⟩
theorem low_slices_Grow_int : lowFn Tryd.prog movers 74 = some ⟨ir_slices_Grow_int.n, strip ir_slices_Grow_int.body, ir_slices_Grow_int.res⟩ := by kernel_rfl

/-- slices.Index(()int,int) -/
def ir_slices_Index_int : IFn := ⟨19,
 (.seq (.region [
 ⟨some 4, .mov (.const (.int .i64 0)), none⟩])
 (.seq (.seq (.region [
 ⟨some 6, .mov (.tmp 0), none⟩,
 ⟨some 7, .len (.tmp 6), none⟩,
 ⟨some 8, .mov (.const (.int .i64 0)), none⟩])
 (.block 0
  (.loop 524080
   (.seq (.region [
   ⟨some 9, .bin .lss (.tmp 8) (.tmp 7), none⟩])
   (.seq (.cond (.tmp 9)
    .skip
    (.exit 0))
   (.seq (.block 1
    (.seq (.region [
    ⟨some 10, .mov (.tmp 8), none⟩,
    ⟨some 5, .mov (.tmp 10), none⟩])
    (.seq (.region [
    ⟨some 11, .mov (.tmp 1), none⟩,
    ⟨some 12, .mov (.tmp 0), none⟩,
    ⟨some 13, .mov (.tmp 5), none⟩,
    ⟨some 14, .ixs 1 (.tmp 12) (.tmp 13), none⟩,
    ⟨some 15, .ld (.tmp 14), none⟩,
    ⟨some 16, .bin .eql (.tmp 11) (.tmp 15), none⟩])
    (.cond (.tmp 16)
     (.seq (.region [
     ⟨some 17, .mov (.tmp 5), none⟩,
     ⟨some 4, .mov (.tmp 17), none⟩])
     .ret)
     .skip))))
   (.region [
   ⟨some 18, .bin .add (.tmp 8) (.const (.int .i64 1)), none⟩,
   ⟨some 8, .mov (.tmp 18), none⟩])))))))
 (.seq (.region [
 ⟨some 4, .mov (.const (.int .i64 (-1))), none⟩])
 .ret))),
 [.tmp 4]⟩
theorem low_slices_Index_int : lowFn Tryd.prog movers 78 = some ⟨ir_slices_Index_int.n, strip ir_slices_Index_int.body, ir_slices_Index_int.res⟩ := by kernel_rfl

/-- slices.Backward(()strongtx/api.Event,strongtx/api.Event)$1 -/
def ir_slices_Backward_Event_1 : IFn := ⟨19,
 (.seq (.region [
 ⟨some 4, .ld (.tmp 1), none⟩,
 ⟨some 5, .len (.tmp 4), none⟩,
 ⟨some 6, .bin .sub (.tmp 5) (.const (.int .i64 1)), none⟩,
 ⟨some 3, .mov (.tmp 6), none⟩])
 (.block 0
  (.loop 524168
   (.seq (.seq (.region [
   ⟨some 7, .mov (.tmp 3), none⟩,
   ⟨some 8, .bin .geq (.tmp 7) (.const (.int .i64 0)), none⟩])
   (.cond (.tmp 8)
    .skip
    (.exit 0)))
   (.seq (.block 1
    (.seq (.region [
    ⟨some 11, .mov (.tmp 0), none⟩,
    ⟨some 12, .mov (.tmp 3), none⟩,
    ⟨some 13, .ld (.tmp 1), none⟩,
    ⟨some 14, .mov (.tmp 3), none⟩,
    ⟨some 15, .ixs 6 (.tmp 13) (.tmp 14), none⟩,
    ⟨some 16, .ldN 6 (.tmp 15), none⟩,
    ⟨some 17, .callv (.tmp 11) [(.tmp 12), (.tmp 16)], none⟩,
    ⟨some 18, .not (.tmp 17), none⟩])
    (.cond (.tmp 18)
     .ret
     .skip)))
   (.region [
   ⟨some 9, .mov (.tmp 3), none⟩,
   ⟨some 10, .bin .sub (.tmp 9) (.const (.int .i64 1)), none⟩,
   ⟨some 3, .mov (.tmp 10), none⟩])))))),
 []⟩
theorem low_slices_Backward_Event_1 : lowFn Tryd.prog movers 80 = some ⟨ir_slices_Backward_Event_1.n, strip ir_slices_Backward_Event_1.body, ir_slices_Backward_Event_1.res⟩ := by kernel_rfl

/-- slices.IndexFunc(()int,int) -/
def ir_slices_IndexFunc_int : IFn := ⟨19,
 (.seq (.region [
 ⟨some 4, .mov (.const (.int .i64 0)), none⟩])
 (.seq (.seq (.region [
 ⟨some 6, .mov (.tmp 0), none⟩,
 ⟨some 7, .len (.tmp 6), none⟩,
 ⟨some 8, .mov (.const (.int .i64 0)), none⟩])
 (.block 0
  (.loop 524080
   (.seq (.region [
   ⟨some 9, .bin .lss (.tmp 8) (.tmp 7), none⟩])
   (.seq (.cond (.tmp 9)
    .skip
    (.exit 0))
   (.seq (.block 1
    (.seq (.region [
    ⟨some 10, .mov (.tmp 8), none⟩,
    ⟨some 5, .mov (.tmp 10), none⟩])
    (.seq (.region [
    ⟨some 11, .mov (.tmp 1), none⟩,
    ⟨some 12, .mov (.tmp 0), none⟩,
    ⟨some 13, .mov (.tmp 5), none⟩,
    ⟨some 14, .ixs 1 (.tmp 12) (.tmp 13), none⟩,
    ⟨some 15, .ld (.tmp 14), none⟩,
    ⟨some 16, .callv (.tmp 11) [(.tmp 15)], none⟩])
    (.cond (.tmp 16)
     (.seq (.region [
     ⟨some 17, .mov (.tmp 5), none⟩,
     ⟨some 4, .mov (.tmp 17), none⟩])
     .ret)
     .skip))))
   (.region [
   ⟨some 18, .bin .add (.tmp 8) (.const (.int .i64 1)), none⟩,
   ⟨some 8, .mov (.tmp 18), none⟩])))))))
 (.seq (.region [
 ⟨some 4, .mov (.const (.int .i64 (-1))), none⟩])
 .ret))),
 [.tmp 4]⟩
theorem low_slices_IndexFunc_int : lowFn Tryd.prog movers 81 = some ⟨ir_slices_IndexFunc_int.n, strip ir_slices_IndexFunc_int.body, ir_slices_IndexFunc_int.res⟩ := by kernel_rfl
end Go.Proofs.YtofjnldidkiihaaDoor
