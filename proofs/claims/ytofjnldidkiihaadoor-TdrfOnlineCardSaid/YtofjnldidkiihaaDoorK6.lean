/- What the laws of this seat share, part 6: contracts of the functions, plain laws, and the rules of their proofs. No condition. -/
import Derived.Test.YtofjnldidkiihaaDoorRows
import Derived.Test.YtofjnldidkiihaaDoorK5
namespace Go.Proofs.YtofjnldidkiihaaDoor
open Go
set_option maxRecDepth 100000
theorem mixed : Tryd.prog.follows .mixedOrders = true := by kernel_rfl
/-- Functions that do not leave the class alone. -/
def movers : List Nat := [18, 23, 25, 26, 29, 31, 34, 39, 41, 42, 44, 45, 46, 47, 49, 52, 55, 56, 62, 63, 64, 65, 68, 70, 74]
end Go.Proofs.YtofjnldidkiihaaDoor
namespace Go.Proofs.YtofjnldidkiihaaDoor
open Go
set_option maxRecDepth 100000
/-- slices.Clone(()int,int) -/
def ir_slices_Clone_int : IFn := ⟨8,
 (.seq (.region [
 ⟨some 2, .mov (.const (.slice none 0 0)), none⟩])
 (.seq (.seq (.region [
 ⟨some 3, .mov (.tmp 0), none⟩,
 ⟨some 4, .nilq false 0 (.tmp 3) (.const (.slice none 0 0)), none⟩])
 (.cond (.tmp 4)
  (.seq (.region [
  ⟨some 2, .mov (.const (.slice none 0 0)), none⟩])
  .ret)
  .skip))
 (.seq (.region [
 ⟨some 5, .blds 3 0 [] [], none⟩,
 ⟨some 6, .mov (.tmp 0), none⟩,
 ⟨some 7, .app 3 1 8 [(.int .i64 0)] (.tmp 5) (.tmp 6), none⟩,
 ⟨some 2, .mov (.tmp 7), none⟩])
 .ret))),
 [.tmp 2]⟩
theorem low_slices_Clone_int : lowFn Tryd.prog movers 44 = some ⟨ir_slices_Clone_int.n, strip ir_slices_Clone_int.body, ir_slices_Clone_int.res⟩ := by kernel_rfl
/-- slices.Concat(()int,int) -/
def ir_slices_Concat_int : IFn := ⟨36,
 (.seq (.region [
 ⟨some 2, .mov (.const (.slice none 0 0)), none⟩])
 (.seq (.region [
 ⟨some 3, .mov (.const (.int .i64 0)), none⟩])
 (.seq (.seq (.region [
 ⟨some 9, .mov (.tmp 0), none⟩,
 ⟨some 10, .len (.tmp 9), none⟩,
 ⟨some 11, .mov (.const (.int .i64 0)), none⟩])
 (.block 0
  (.loop 8386600
   (.seq (.region [
   ⟨some 12, .bin .lss (.tmp 11) (.tmp 10), none⟩])
   (.seq (.cond (.tmp 12)
    .skip
    (.exit 0))
   (.seq (.block 1
    (.seq (.region [
    ⟨some 13, .ixs 1 (.tmp 9) (.tmp 11), none⟩,
    ⟨some 14, .ld (.tmp 13), none⟩,
    ⟨some 5, .mov (.tmp 14), none⟩])
    (.seq (.region [
    ⟨some 15, .mov (.tmp 3), none⟩,
    ⟨some 16, .mov (.tmp 5), none⟩,
    ⟨some 17, .len (.tmp 16), none⟩,
    ⟨some 18, .bin .add (.tmp 15) (.tmp 17), none⟩,
    ⟨some 3, .mov (.tmp 18), none⟩])
    (.seq (.region [
    ⟨some 19, .mov (.tmp 3), none⟩,
    ⟨some 20, .bin .lss (.tmp 19) (.const (.int .i64 0)), none⟩])
    (.cond (.tmp 20)
     (.region [
     ⟨some 21, .bad, none⟩,
     ⟨none, .bad, none⟩])
     .skip)))))
   (.region [
   ⟨some 22, .bin .add (.tmp 11) (.const (.int .i64 1)), none⟩,
   ⟨some 11, .mov (.tmp 22), none⟩])))))))
 (.seq (.region [
 ⟨some 23, .mov (.tmp 3), none⟩,
 ⟨some 24, .call 74 [(.const (.slice none 0 0)), (.tmp 23)], none⟩,
 ⟨some 6, .mov (.tmp 24), none⟩])
 (.seq (.seq (.region [
 ⟨some 25, .mov (.tmp 0), none⟩,
 ⟨some 26, .len (.tmp 25), none⟩,
 ⟨some 27, .mov (.const (.int .i64 0)), none⟩])
 (.block 2
  (.loop 34225520960
   (.seq (.region [
   ⟨some 28, .bin .lss (.tmp 27) (.tmp 26), none⟩])
   (.seq (.cond (.tmp 28)
    .skip
    (.exit 2))
   (.seq (.block 3
    (.seq (.region [
    ⟨some 29, .ixs 1 (.tmp 25) (.tmp 27), none⟩,
    ⟨some 30, .ld (.tmp 29), none⟩,
    ⟨some 8, .mov (.tmp 30), none⟩])
    (.region [
    ⟨some 31, .mov (.tmp 6), none⟩,
    ⟨some 32, .mov (.tmp 8), none⟩,
    ⟨some 33, .app 3 1 8 [(.int .i64 0)] (.tmp 31) (.tmp 32), none⟩,
    ⟨some 6, .mov (.tmp 33), none⟩])))
   (.region [
   ⟨some 34, .bin .add (.tmp 27) (.const (.int .i64 1)), none⟩,
   ⟨some 27, .mov (.tmp 34), none⟩])))))))
 (.seq (.region [
 ⟨some 35, .mov (.tmp 6), none⟩,
 ⟨some 2, .mov (.tmp 35), none⟩])
 .ret)))))),
 [.tmp 2]⟩
theorem low_slices_Concat_int : lowFn Tryd.prog movers 62 = some ⟨ir_slices_Concat_int.n, strip ir_slices_Concat_int.body, ir_slices_Concat_int.res⟩ := by kernel_rfl
/-- slices.Compact(()int,int) -/
def ir_slices_Compact_int : IFn := ⟨61,
 (.seq (.region [
 ⟨some 2, .mov (.const (.slice none 0 0)), none⟩])
 (.seq (.seq (.region [
 ⟨some 6, .mov (.tmp 0), none⟩,
 ⟨some 7, .len (.tmp 6), none⟩,
 ⟨some 8, .bin .lss (.tmp 7) (.const (.int .i64 2)), none⟩])
 (.cond (.tmp 8)
  (.seq (.region [
  ⟨some 9, .mov (.tmp 0), none⟩,
  ⟨some 2, .mov (.tmp 9), none⟩])
  .ret)
  .skip))
 (.seq (.seq (.region [
 ⟨some 3, .mov (.const (.int .i64 1)), none⟩])
 (.block 0
  (.loop 1152921504606846012
   (.seq (.seq (.region [
   ⟨some 10, .mov (.tmp 3), none⟩,
   ⟨some 11, .mov (.tmp 0), none⟩,
   ⟨some 12, .len (.tmp 11), none⟩,
   ⟨some 13, .bin .lss (.tmp 10) (.tmp 12), none⟩])
   (.cond (.tmp 13)
    .skip
    (.exit 0)))
   (.seq (.block 1
    (.seq (.draw (.f ⟨some 16, .mov (.tmp 0), none⟩
    (.f ⟨some 17, .mov (.tmp 3), none⟩
    (.f ⟨some 18, .ixs 1 (.tmp 16) (.tmp 17), none⟩
    (.f ⟨some 19, .ld (.tmp 18), none⟩
    (.f ⟨some 20, .mov (.tmp 0), none⟩
    (.f ⟨some 21, .mov (.tmp 3), none⟩
    (.f ⟨some 22, .bin .sub (.tmp 21) (.const (.int .i64 1)), none⟩
    (.f ⟨some 23, .ixs 1 (.tmp 20) (.tmp 22), none⟩
    (.f ⟨some 24, .ld (.tmp 23), none⟩
    (.f ⟨some 25, .bin .eql (.tmp 19) (.tmp 24), none⟩
    .done)))))))))))
    (.cond (.tmp 25)
     (.seq (.region [
     ⟨some 26, .mov (.tmp 0), none⟩,
     ⟨some 27, .mov (.tmp 3), none⟩,
     ⟨some 28, .sls 1 (.tmp 26) (some (.tmp 27)) none none, none⟩,
     ⟨some 4, .mov (.tmp 28), none⟩])
     (.seq (.seq (.region [
     ⟨some 5, .mov (.const (.int .i64 1)), none⟩])
     (.block 2
      (.loop 18014397972611112
       (.seq (.seq (.region [
       ⟨some 29, .mov (.tmp 5), none⟩,
       ⟨some 30, .mov (.tmp 4), none⟩,
       ⟨some 31, .len (.tmp 30), none⟩,
       ⟨some 32, .bin .lss (.tmp 29) (.tmp 31), none⟩])
       (.cond (.tmp 32)
        .skip
        (.exit 2)))
       (.seq (.block 3
        (.seq (.draw (.f ⟨some 35, .mov (.tmp 4), none⟩
        (.f ⟨some 36, .mov (.tmp 5), none⟩
        (.f ⟨some 37, .ixs 1 (.tmp 35) (.tmp 36), none⟩
        (.f ⟨some 38, .ld (.tmp 37), none⟩
        (.f ⟨some 39, .mov (.tmp 4), none⟩
        (.f ⟨some 40, .mov (.tmp 5), none⟩
        (.f ⟨some 41, .bin .sub (.tmp 40) (.const (.int .i64 1)), none⟩
        (.f ⟨some 42, .ixs 1 (.tmp 39) (.tmp 41), none⟩
        (.f ⟨some 43, .ld (.tmp 42), none⟩
        (.f ⟨some 44, .bin .neq (.tmp 38) (.tmp 43), none⟩
        .done)))))))))))
        (.cond (.tmp 44)
         (.seq (.region [
         ⟨some 45, .mov (.tmp 0), none⟩,
         ⟨some 46, .mov (.tmp 3), none⟩,
         ⟨some 47, .mov (.tmp 4), none⟩,
         ⟨some 48, .mov (.tmp 5), none⟩,
         ⟨some 49, .ixs 1 (.tmp 47) (.tmp 48), none⟩,
         ⟨some 50, .ld (.tmp 49), none⟩,
         ⟨some 51, .ixs 1 (.tmp 45) (.tmp 46), none⟩,
         ⟨none, .st (.tmp 51) (.tmp 50), none⟩])
         (.region [
         ⟨some 52, .mov (.tmp 3), none⟩,
         ⟨some 53, .bin .add (.tmp 52) (.const (.int .i64 1)), none⟩,
         ⟨some 3, .mov (.tmp 53), none⟩]))
         .skip)))
       (.region [
       ⟨some 33, .mov (.tmp 5), none⟩,
       ⟨some 34, .bin .add (.tmp 33) (.const (.int .i64 1)), none⟩,
       ⟨some 5, .mov (.tmp 34), none⟩]))))))
     (.seq (.region [
     ⟨some 54, .mov (.tmp 0), none⟩,
     ⟨some 55, .mov (.tmp 3), none⟩,
     ⟨some 56, .sls 1 (.tmp 54) (some (.tmp 55)) none none, none⟩,
     ⟨none, .clr [(.int .i64 0)] (.tmp 56), none⟩])
     (.seq (.region [
     ⟨some 57, .mov (.tmp 0), none⟩,
     ⟨some 58, .mov (.tmp 3), none⟩,
     ⟨some 59, .sls 1 (.tmp 57) none (some (.tmp 58)) none, none⟩,
     ⟨some 2, .mov (.tmp 59), none⟩])
     .ret))))
     .skip)))
   (.region [
   ⟨some 14, .mov (.tmp 3), none⟩,
   ⟨some 15, .bin .add (.tmp 14) (.const (.int .i64 1)), none⟩,
   ⟨some 3, .mov (.tmp 15), none⟩]))))))
 (.seq (.region [
 ⟨some 60, .mov (.tmp 0), none⟩,
 ⟨some 2, .mov (.tmp 60), none⟩])
 .ret)))),
 [.tmp 2]⟩
theorem low_slices_Compact_int : lowFn Tryd.prog movers 64 = some ⟨ir_slices_Compact_int.n, strip ir_slices_Compact_int.body, ir_slices_Compact_int.res⟩ := by kernel_rfl
/-- slices.Contains(()int,int) -/
def ir_slices_Contains_int : IFn := ⟨9,
 (.seq (.region [
 ⟨some 4, .mov (.const (.bool false)), none⟩])
 (.seq (.region [
 ⟨some 5, .mov (.tmp 0), none⟩,
 ⟨some 6, .mov (.tmp 1), none⟩,
 ⟨some 7, .call 78 [(.tmp 5), (.tmp 6)], none⟩,
 ⟨some 8, .bin .geq (.tmp 7) (.const (.int .i64 0)), none⟩,
 ⟨some 4, .mov (.tmp 8), none⟩])
 .ret)),
 [.tmp 4]⟩
theorem low_slices_Contains_int : lowFn Tryd.prog movers 66 = some ⟨ir_slices_Contains_int.n, strip ir_slices_Contains_int.body, ir_slices_Contains_int.res⟩ := by kernel_rfl
/-- slices.ContainsFunc(()int,int) -/
def ir_slices_ContainsFunc_int : IFn := ⟨9,
 (.seq (.region [
 ⟨some 4, .mov (.const (.bool false)), none⟩])
 (.seq (.region [
 ⟨some 5, .mov (.tmp 0), none⟩,
 ⟨some 6, .mov (.tmp 1), none⟩,
 ⟨some 7, .call 81 [(.tmp 5), (.tmp 6)], none⟩,
 ⟨some 8, .bin .geq (.tmp 7) (.const (.int .i64 0)), none⟩,
 ⟨some 4, .mov (.tmp 8), none⟩])
 .ret)),
 [.tmp 4]⟩
theorem low_slices_ContainsFunc_int : lowFn Tryd.prog movers 72 = some ⟨ir_slices_ContainsFunc_int.n, strip ir_slices_ContainsFunc_int.body, ir_slices_ContainsFunc_int.res⟩ := by kernel_rfl
/-- slices.Grow(()int,int) -/
def ir_slices_Grow_int : IFn := ⟨27,
 (.seq (.region [
 ⟨some 4, .mov (.const (.slice none 0 0)), none⟩])
 (.seq (.seq (.region [
 ⟨some 5, .mov (.tmp 1), none⟩,
 ⟨some 6, .bin .lss (.tmp 5) (.const (.int .i64 0)), none⟩])
 (.cond (.tmp 6)
  (.region [
  ⟨some 7, .bad, none⟩,
  ⟨none, .bad, none⟩])
  .skip))
 (.seq (.seq (.region [
 ⟨some 8, .mov (.tmp 1), none⟩,
 ⟨some 9, .mov (.tmp 0), none⟩,
 ⟨some 10, .capb (.tmp 9), none⟩,
 ⟨some 11, .mov (.tmp 0), none⟩,
 ⟨some 12, .len (.tmp 11), none⟩,
 ⟨some 13, .bin .sub (.tmp 10) (.tmp 12), none⟩,
 ⟨some 14, .bin .sub (.tmp 8) (.tmp 13), none⟩,
 ⟨some 1, .mov (.tmp 14), none⟩])
 (.seq (.region [
 ⟨some 15, .mov (.tmp 1), none⟩,
 ⟨some 16, .bin .gtr (.tmp 15) (.const (.int .i64 0)), none⟩])
 (.cond (.tmp 16)
  (.region [
  ⟨some 17, .mov (.tmp 0), none⟩,
  ⟨some 18, .mov (.tmp 0), none⟩,
  ⟨some 19, .capb (.tmp 18), none⟩,
  ⟨some 20, .sls 1 (.tmp 17) none (some (.tmp 19)) none, none⟩,
  ⟨some 21, .mov (.tmp 1), none⟩,
  ⟨some 22, .appz 3 8 [(.int .i64 0)] (.tmp 20) (.tmp 21), none⟩,
  ⟨some 23, .mov (.tmp 0), none⟩,
  ⟨some 24, .len (.tmp 23), none⟩,
  ⟨some 25, .sls 1 (.tmp 22) none (some (.tmp 24)) none, none⟩,
  ⟨some 0, .mov (.tmp 25), none⟩])
  .skip)))
 (.seq (.region [
 ⟨some 26, .mov (.tmp 0), none⟩,
 ⟨some 4, .mov (.tmp 26), none⟩])
 .ret)))),
 [.tmp 4]⟩
theorem low_slices_Grow_int : lowFn Tryd.prog movers 74 = some ⟨ir_slices_Grow_int.n, strip ir_slices_Grow_int.body, ir_slices_Grow_int.res⟩ := by kernel_rfl
/-- slices.Index(()int,int) -/
def ir_slices_Index_int : IFn := ⟨19,
 (.seq (.region [
 ⟨some 4, .mov (.const (.int .i64 0)), none⟩])
 (.seq (.seq (.region [
 ⟨some 6, .mov (.tmp 0), none⟩,
 ⟨some 7, .len (.tmp 6), none⟩,
 ⟨some 8, .mov (.const (.int .i64 0)), none⟩])
 (.block 0
  (.loop 524080
   (.seq (.region [
   ⟨some 9, .bin .lss (.tmp 8) (.tmp 7), none⟩])
   (.seq (.cond (.tmp 9)
    .skip
    (.exit 0))
   (.seq (.block 1
    (.seq (.region [
    ⟨some 10, .mov (.tmp 8), none⟩,
    ⟨some 5, .mov (.tmp 10), none⟩])
    (.seq (.region [
    ⟨some 11, .mov (.tmp 1), none⟩,
    ⟨some 12, .mov (.tmp 0), none⟩,
    ⟨some 13, .mov (.tmp 5), none⟩,
    ⟨some 14, .ixs 1 (.tmp 12) (.tmp 13), none⟩,
    ⟨some 15, .ld (.tmp 14), none⟩,
    ⟨some 16, .bin .eql (.tmp 11) (.tmp 15), none⟩])
    (.cond (.tmp 16)
     (.seq (.region [
     ⟨some 17, .mov (.tmp 5), none⟩,
     ⟨some 4, .mov (.tmp 17), none⟩])
     .ret)
     .skip))))
   (.region [
   ⟨some 18, .bin .add (.tmp 8) (.const (.int .i64 1)), none⟩,
   ⟨some 8, .mov (.tmp 18), none⟩])))))))
 (.seq (.region [
 ⟨some 4, .mov (.const (.int .i64 (-1))), none⟩])
 .ret))),
 [.tmp 4]⟩
theorem low_slices_Index_int : lowFn Tryd.prog movers 78 = some ⟨ir_slices_Index_int.n, strip ir_slices_Index_int.body, ir_slices_Index_int.res⟩ := by kernel_rfl
/-- slices.IndexFunc(()int,int) -/
def ir_slices_IndexFunc_int : IFn := ⟨19,
 (.seq (.region [
 ⟨some 4, .mov (.const (.int .i64 0)), none⟩])
 (.seq (.seq (.region [
 ⟨some 6, .mov (.tmp 0), none⟩,
 ⟨some 7, .len (.tmp 6), none⟩,
 ⟨some 8, .mov (.const (.int .i64 0)), none⟩])
 (.block 0
  (.loop 524080
   (.seq (.region [
   ⟨some 9, .bin .lss (.tmp 8) (.tmp 7), none⟩])
   (.seq (.cond (.tmp 9)
    .skip
    (.exit 0))
   (.seq (.block 1
    (.seq (.region [
    ⟨some 10, .mov (.tmp 8), none⟩,
    ⟨some 5, .mov (.tmp 10), none⟩])
    (.seq (.region [
    ⟨some 11, .mov (.tmp 1), none⟩,
    ⟨some 12, .mov (.tmp 0), none⟩,
    ⟨some 13, .mov (.tmp 5), none⟩,
    ⟨some 14, .ixs 1 (.tmp 12) (.tmp 13), none⟩,
    ⟨some 15, .ld (.tmp 14), none⟩,
    ⟨some 16, .callv (.tmp 11) [(.tmp 15)], none⟩])
    (.cond (.tmp 16)
     (.seq (.region [
     ⟨some 17, .mov (.tmp 5), none⟩,
     ⟨some 4, .mov (.tmp 17), none⟩])
     .ret)
     .skip))))
   (.region [
   ⟨some 18, .bin .add (.tmp 8) (.const (.int .i64 1)), none⟩,
   ⟨some 8, .mov (.tmp 18), none⟩])))))))
 (.seq (.region [
 ⟨some 4, .mov (.const (.int .i64 (-1))), none⟩])
 .ret))),
 [.tmp 4]⟩
theorem low_slices_IndexFunc_int : lowFn Tryd.prog movers 81 = some ⟨ir_slices_IndexFunc_int.n, strip ir_slices_IndexFunc_int.body, ir_slices_IndexFunc_int.res⟩ := by kernel_rfl
end Go.Proofs.YtofjnldidkiihaaDoor
namespace Go.Proofs.YtofjnldidkiihaaDoor
open Go
set_option maxRecDepth 100000
/-- strongtx/strongtxref24.First -/
def ir_ref24_First : IFn := ⟨57,
 (.seq (.region [
 ⟨some 4, .new 28 (.agg #[.int .i64 0, .int .i64 0, .int .i64 0]), none⟩])
 (.seq (.region [
 ⟨some 8, .mov (.tmp 0), none⟩,
 ⟨some 9, .mov (.tmp 1), none⟩,
 ⟨some 10, .call 39 [(.tmp 8), (.tmp 9)], none⟩,
 ⟨some 5, .mov (.tmp 10), none⟩])
 (.seq (.seq (.region [
 ⟨some 11, .mov (.tmp 5), none⟩,
 ⟨some 12, .len (.tmp 11), none⟩,
 ⟨some 13, .bin .eql (.tmp 12) (.const (.int .i64 0)), none⟩])
 (.cond (.tmp 13)
  (.seq (.region [
  ⟨some 14, .call 22 [], none⟩,
  ⟨none, .stN 3 (.tmp 4) (.tmp 14), none⟩])
  .ret)
  .skip))
 (.seq (.region [
 ⟨some 15, .mov (.tmp 5), none⟩,
 ⟨some 16, .ixs 3 (.tmp 15) (.const (.int .i64 0)), none⟩,
 ⟨some 17, .ldN 3 (.tmp 16), none⟩,
 ⟨some 6, .new 28 (.agg #[.int .i64 0, .int .i64 0, .int .i64 0]), none⟩,
 ⟨none, .stN 3 (.tmp 6) (.tmp 17), none⟩])
 (.seq (.seq (.region [
 ⟨some 7, .mov (.const (.int .i64 1)), none⟩])
 (.block 0
  (.loop 72057594037665920
   (.seq (.seq (.region [
   ⟨some 18, .mov (.tmp 7), none⟩,
   ⟨some 19, .mov (.tmp 5), none⟩,
   ⟨some 20, .len (.tmp 19), none⟩,
   ⟨some 21, .bin .lss (.tmp 18) (.tmp 20), none⟩])
   (.cond (.tmp 21)
    .skip
    (.exit 0)))
   (.seq (.block 1
    (.seq (.draw (.f ⟨some 24, .mov (.tmp 5), none⟩
    (.f ⟨some 25, .mov (.tmp 7), none⟩
    (.f ⟨some 26, .ixs 3 (.tmp 24) (.tmp 25), none⟩
    (.f ⟨some 27, .fad 1 (.tmp 26), none⟩
    (.f ⟨some 28, .ld (.tmp 27), none⟩
    (.f ⟨some 29, .fad 1 (.tmp 6), none⟩
    (.f ⟨some 30, .ld (.tmp 29), none⟩
    (.f ⟨some 31, .bin .eql (.tmp 28) (.tmp 30), none⟩
    (.f ⟨some 32, .mov (.tmp 31), none⟩
    (.f ⟨some 33, .mov (.tmp 5), some (32, true)⟩
    (.f ⟨some 34, .mov (.tmp 7), some (32, true)⟩
    (.f ⟨some 35, .ixs 3 (.tmp 33) (.tmp 34), some (32, true)⟩
    (.f ⟨some 36, .fad 2 (.tmp 35), some (32, true)⟩
    (.f ⟨some 37, .ld (.tmp 36), some (32, true)⟩
    (.f ⟨some 38, .fad 2 (.tmp 6), some (32, true)⟩
    (.f ⟨some 39, .ld (.tmp 38), some (32, true)⟩
    (.f ⟨some 40, .bin .eql (.tmp 37) (.tmp 39), some (32, true)⟩
    (.f ⟨some 41, .pick (.tmp 32) (.tmp 40) (.const (.bool false)), none⟩
    (.f ⟨some 42, .mov (.tmp 41), none⟩
    (.f ⟨some 43, .mov (.tmp 5), some (42, true)⟩
    (.f ⟨some 44, .mov (.tmp 7), some (42, true)⟩
    (.f ⟨some 45, .ixs 3 (.tmp 43) (.tmp 44), some (42, true)⟩
    (.f ⟨some 46, .fad 0 (.tmp 45), some (42, true)⟩
    (.f ⟨some 47, .ld (.tmp 46), some (42, true)⟩
    (.f ⟨some 48, .fad 0 (.tmp 6), some (42, true)⟩
    (.f ⟨some 49, .ld (.tmp 48), some (42, true)⟩
    (.f ⟨some 50, .bin .gtr (.tmp 47) (.tmp 49), some (42, true)⟩
    (.f ⟨some 51, .pick (.tmp 42) (.tmp 50) (.const (.bool false)), none⟩
    .done)))))))))))))))))))))))))))))
    (.cond (.tmp 51)
     (.region [
     ⟨some 52, .mov (.tmp 5), none⟩,
     ⟨some 53, .mov (.tmp 7), none⟩,
     ⟨some 54, .ixs 3 (.tmp 52) (.tmp 53), none⟩,
     ⟨some 55, .ldN 3 (.tmp 54), none⟩,
     ⟨none, .stN 3 (.tmp 6) (.tmp 55), none⟩])
     .skip)))
   (.region [
   ⟨some 22, .mov (.tmp 7), none⟩,
   ⟨some 23, .bin .add (.tmp 22) (.const (.int .i64 1)), none⟩,
   ⟨some 7, .mov (.tmp 23), none⟩]))))))
 (.seq (.region [
 ⟨some 56, .ldN 3 (.tmp 6), none⟩,
 ⟨none, .stN 3 (.tmp 4) (.tmp 56), none⟩])
 .ret)))))),
 [.cellN 4 3]⟩
theorem low_ref24_First : lowFn Tryd.prog movers 20 = some ⟨ir_ref24_First.n, strip ir_ref24_First.body, ir_ref24_First.res⟩ := by kernel_rfl
/-- strongtx/strongtxref24.Check -/
def ir_ref24_Check : IFn := ⟨82,
 (.seq (.region [
 ⟨some 4, .mov (.const (.int .i64 0)), none⟩,
 ⟨some 5, .mov (.const (.int .i64 0)), none⟩])
 (.seq (.seq (.region [
 ⟨some 10, .mov (.tmp 1), none⟩,
 ⟨some 11, .bin .lss (.tmp 10) (.const (.int .i64 1)), none⟩,
 ⟨some 12, .mov (.tmp 11), none⟩,
 ⟨some 13, .mov (.tmp 1), some (12, false)⟩,
 ⟨some 14, .bin .gtr (.tmp 13) (.const (.int .i64 16)), some (12, false)⟩,
 ⟨some 15, .pick (.tmp 12) (.const (.bool true)) (.tmp 14), none⟩])
 (.cond (.tmp 15)
  (.seq (.region [
  ⟨some 4, .mov (.const (.int .i64 0)), none⟩,
  ⟨some 5, .mov (.const (.int .i64 54)), none⟩])
  .ret)
  .skip))
 (.seq (.seq (.region [
 ⟨some 16, .mov (.tmp 0), none⟩,
 ⟨some 17, .len (.tmp 16), none⟩,
 ⟨some 18, .bin .gtr (.tmp 17) (.const (.int .i64 65536)), none⟩])
 (.cond (.tmp 18)
  (.seq (.region [
  ⟨some 4, .mov (.const (.int .i64 0)), none⟩,
  ⟨some 5, .mov (.const (.int .i64 3)), none⟩])
  .ret)
  .skip))
 (.seq (.region [
 ⟨some 19, .mov (.tmp 1), none⟩,
 ⟨some 20, .mk 3 1 8 [(.int .i64 0)] (.tmp 19) (.tmp 19), none⟩,
 ⟨some 6, .mov (.tmp 20), none⟩])
 (.seq (.seq (.region [
 ⟨some 7, .mov (.const (.int .i64 0)), none⟩])
 (.block 0
  (.loop 4835703278458516696728496
   (.seq (.seq (.region [
   ⟨some 21, .mov (.tmp 7), none⟩,
   ⟨some 22, .mov (.tmp 0), none⟩,
   ⟨some 23, .len (.tmp 22), none⟩,
   ⟨some 24, .bin .lss (.tmp 21) (.tmp 23), none⟩])
   (.cond (.tmp 24)
    .skip
    (.exit 0)))
   (.seq (.block 1
    (.seq (.region [
    ⟨some 8, .mov (.const (.int .i64 0)), none⟩,
    ⟨some 9, .mov (.const (.int .i64 0)), none⟩])
    (.seq (.seq (.region [
    ⟨some 27, .mov (.tmp 7), none⟩,
    ⟨some 28, .bin .gtr (.tmp 27) (.const (.int .i64 0)), none⟩])
    (.cond (.tmp 28)
     (.region [
     ⟨some 29, .mov (.tmp 0), none⟩,
     ⟨some 30, .mov (.tmp 7), none⟩,
     ⟨some 31, .bin .sub (.tmp 30) (.const (.int .i64 1)), none⟩,
     ⟨some 32, .ixs 6 (.tmp 29) (.tmp 31), none⟩,
     ⟨some 33, .fad 0 (.tmp 32), none⟩,
     ⟨some 34, .ld (.tmp 33), none⟩,
     ⟨some 8, .mov (.tmp 34), none⟩])
     .skip))
    (.seq (.seq (.region [
    ⟨some 35, .mov (.tmp 0), none⟩,
    ⟨some 36, .mov (.tmp 7), none⟩,
    ⟨some 37, .ixs 6 (.tmp 35) (.tmp 36), none⟩,
    ⟨some 38, .fad 1 (.tmp 37), none⟩,
    ⟨some 39, .ld (.tmp 38), none⟩,
    ⟨some 40, .bin .geq (.tmp 39) (.const (.int .i64 0)), none⟩,
    ⟨some 41, .mov (.tmp 40), none⟩,
    ⟨some 42, .mov (.tmp 0), some (41, true)⟩,
    ⟨some 43, .mov (.tmp 7), some (41, true)⟩,
    ⟨some 44, .ixs 6 (.tmp 42) (.tmp 43), some (41, true)⟩,
    ⟨some 45, .fad 1 (.tmp 44), some (41, true)⟩,
    ⟨some 46, .ld (.tmp 45), some (41, true)⟩,
    ⟨some 47, .mov (.tmp 1), some (41, true)⟩,
    ⟨some 48, .bin .lss (.tmp 46) (.tmp 47), some (41, true)⟩,
    ⟨some 49, .pick (.tmp 41) (.tmp 48) (.const (.bool false)), none⟩])
    (.cond (.tmp 49)
     (.region [
     ⟨some 50, .mov (.tmp 6), none⟩,
     ⟨some 51, .mov (.tmp 0), none⟩,
     ⟨some 52, .mov (.tmp 7), none⟩,
     ⟨some 53, .ixs 6 (.tmp 51) (.tmp 52), none⟩,
     ⟨some 54, .fad 1 (.tmp 53), none⟩,
     ⟨some 55, .ld (.tmp 54), none⟩,
     ⟨some 56, .ixs 1 (.tmp 50) (.tmp 55), none⟩,
     ⟨some 57, .ld (.tmp 56), none⟩,
     ⟨some 9, .mov (.tmp 57), none⟩])
     .skip))
    (.seq (.seq (.region [
    ⟨some 58, .mov (.tmp 0), none⟩,
    ⟨some 59, .mov (.tmp 7), none⟩,
    ⟨some 60, .ixs 6 (.tmp 58) (.tmp 59), none⟩,
    ⟨some 61, .ldN 6 (.tmp 60), none⟩,
    ⟨some 62, .mov (.tmp 1), none⟩,
    ⟨some 63, .mov (.tmp 7), none⟩,
    ⟨some 64, .bin .eql (.tmp 63) (.const (.int .i64 0)), none⟩,
    ⟨some 65, .mov (.tmp 8), none⟩,
    ⟨some 66, .mov (.tmp 9), none⟩,
    ⟨some 67, .call 40 [(.tmp 61), (.tmp 62), (.tmp 64), (.tmp 65), (.tmp 66)], none⟩,
    ⟨some 68, .not (.tmp 67), none⟩])
    (.cond (.tmp 68)
     (.seq (.region [
     ⟨some 69, .mov (.tmp 7), none⟩,
     ⟨some 4, .mov (.tmp 69), none⟩,
     ⟨some 5, .mov (.const (.int .i64 91)), none⟩])
     .ret)
     .skip))
    (.draw (.f ⟨some 70, .mov (.tmp 6), none⟩
    (.f ⟨some 71, .mov (.tmp 0), none⟩
    (.f ⟨some 72, .mov (.tmp 7), none⟩
    (.f ⟨some 73, .ixs 6 (.tmp 71) (.tmp 72), none⟩
    (.f ⟨some 74, .fad 1 (.tmp 73), none⟩
    (.f ⟨some 75, .ld (.tmp 74), none⟩
    (.f ⟨some 76, .mov (.tmp 0), none⟩
    (.f ⟨some 77, .mov (.tmp 7), none⟩
    (.f ⟨some 78, .ixs 6 (.tmp 76) (.tmp 77), none⟩
    (.f ⟨some 79, .fad 2 (.tmp 78), none⟩
    (.f ⟨some 80, .ld (.tmp 79), none⟩
    (.f ⟨some 81, .ixs 1 (.tmp 70) (.tmp 75), none⟩
    (.m ⟨none, .st (.tmp 81) (.tmp 80), none⟩
    .done)))))))))))))))))))
   (.region [
   ⟨some 25, .mov (.tmp 7), none⟩,
   ⟨some 26, .bin .add (.tmp 25) (.const (.int .i64 1)), none⟩,
   ⟨some 7, .mov (.tmp 26), none⟩]))))))
 (.seq (.region [
 ⟨some 4, .mov (.const (.int .i64 0)), none⟩,
 ⟨some 5, .mov (.const (.int .i64 0)), none⟩])
 .ret)))))),
 [.tmp 4, .tmp 5]⟩
theorem low_ref24_Check : lowFn Tryd.prog movers 21 = some ⟨ir_ref24_Check.n, strip ir_ref24_Check.body, ir_ref24_Check.res⟩ := by kernel_rfl
/-- strongtx/strongtxref24.None -/
def ir_ref24_None : IFn := ⟨2,
 (.seq (.region [
 ⟨some 0, .new 28 (.agg #[.int .i64 0, .int .i64 0, .int .i64 0]), none⟩])
 (.seq (.region [
 ⟨some 1, .bld [(.int .i64 0), (.int .i64 0), (.int .i64 0)] [(0, 1, (.const (.int .i64 (-1)))), (1, 1, (.const (.int .i64 (-1)))), (2, 1, (.const (.int .i64 (-1))))], none⟩,
 ⟨none, .stN 3 (.tmp 0) (.tmp 1), none⟩])
 .ret)),
 [.cellN 0 3]⟩
theorem low_ref24_None : lowFn Tryd.prog movers 22 = some ⟨ir_ref24_None.n, strip ir_ref24_None.body, ir_ref24_None.res⟩ := by kernel_rfl
/-- strongtx/strongtxref24.Clock -/
def ir_ref24_Clock : IFn := ⟨85,
 (.seq (.region [
 ⟨some 6, .mov (.const (.slice none 0 0)), none⟩])
 (.seq (.seq (.region [
 ⟨some 12, .mov (.tmp 2), none⟩,
 ⟨some 13, .bin .lss (.tmp 12) (.const (.int .i64 0)), none⟩,
 ⟨some 14, .mov (.tmp 13), none⟩,
 ⟨some 15, .mov (.tmp 2), some (14, false)⟩,
 ⟨some 16, .mov (.tmp 1), some (14, false)⟩,
 ⟨some 17, .bin .geq (.tmp 15) (.tmp 16), some (14, false)⟩,
 ⟨some 18, .pick (.tmp 14) (.const (.bool true)) (.tmp 17), none⟩])
 (.cond (.tmp 18)
  (.seq (.region [
  ⟨some 6, .mov (.const (.slice none 0 0)), none⟩])
  .ret)
  .skip))
 (.seq (.region [
 ⟨some 19, .mov (.tmp 1), none⟩,
 ⟨some 20, .mk 3 1 8 [(.int .i64 0)] (.tmp 19) (.tmp 19), none⟩,
 ⟨some 7, .mov (.tmp 20), none⟩])
 (.seq (.region [
 ⟨some 8, .mov (.const (.int .i64 (-1))), none⟩])
 (.seq (.seq (.region [
 ⟨some 9, .mov (.const (.int .i64 0)), none⟩])
 (.block 0
  (.loop 8796090925824
   (.seq (.seq (.region [
   ⟨some 21, .mov (.tmp 9), none⟩,
   ⟨some 22, .mov (.tmp 0), none⟩,
   ⟨some 23, .len (.tmp 22), none⟩,
   ⟨some 24, .bin .lss (.tmp 21) (.tmp 23), none⟩])
   (.cond (.tmp 24)
    .skip
    (.exit 0)))
   (.seq (.block 1
    (.seq (.region [
    ⟨some 27, .mov (.tmp 0), none⟩,
    ⟨some 28, .mov (.tmp 9), none⟩,
    ⟨some 29, .ixs 6 (.tmp 27) (.tmp 28), none⟩,
    ⟨some 30, .fad 1 (.tmp 29), none⟩,
    ⟨some 31, .ld (.tmp 30), none⟩,
    ⟨some 32, .mov (.tmp 2), none⟩,
    ⟨some 33, .bin .eql (.tmp 31) (.tmp 32), none⟩,
    ⟨some 34, .mov (.tmp 33), none⟩,
    ⟨some 35, .mov (.tmp 0), some (34, true)⟩,
    ⟨some 36, .mov (.tmp 9), some (34, true)⟩,
    ⟨some 37, .ixs 6 (.tmp 35) (.tmp 36), some (34, true)⟩,
    ⟨some 38, .fad 2 (.tmp 37), some (34, true)⟩,
    ⟨some 39, .ld (.tmp 38), some (34, true)⟩,
    ⟨some 40, .bin .neq (.tmp 39) (.const (.int .i64 3)), some (34, true)⟩,
    ⟨some 41, .pick (.tmp 34) (.tmp 40) (.const (.bool false)), none⟩])
    (.cond (.tmp 41)
     (.region [
     ⟨some 42, .mov (.tmp 9), none⟩,
     ⟨some 8, .mov (.tmp 42), none⟩])
     .skip)))
   (.region [
   ⟨some 25, .mov (.tmp 9), none⟩,
   ⟨some 26, .bin .add (.tmp 25) (.const (.int .i64 1)), none⟩,
   ⟨some 9, .mov (.tmp 26), none⟩]))))))
 (.seq (.seq (.region [
 ⟨some 43, .mov (.tmp 8), none⟩,
 ⟨some 44, .bin .lss (.tmp 43) (.const (.int .i64 0)), none⟩])
 (.cond (.tmp 44)
  (.seq (.region [
  ⟨some 45, .mov (.tmp 7), none⟩,
  ⟨some 6, .mov (.tmp 45), none⟩])
  .ret)
  .skip))
 (.seq (.region [
 ⟨some 46, .mov (.tmp 0), none⟩,
 ⟨some 47, .call 52 [(.tmp 46)], none⟩,
 ⟨some 10, .mov (.tmp 47), none⟩])
 (.seq (.seq (.region [
 ⟨some 11, .mov (.const (.int .i64 0)), none⟩])
 (.block 2
  (.loop 19342813113552591818590208
   (.seq (.seq (.region [
   ⟨some 48, .mov (.tmp 11), none⟩,
   ⟨some 49, .mov (.tmp 0), none⟩,
   ⟨some 50, .len (.tmp 49), none⟩,
   ⟨some 51, .bin .lss (.tmp 48) (.tmp 50), none⟩])
   (.cond (.tmp 51)
    .skip
    (.exit 2)))
   (.seq (.block 3
    (.seq (.region [
    ⟨some 54, .mov (.tmp 0), none⟩,
    ⟨some 55, .mov (.tmp 11), none⟩,
    ⟨some 56, .ixs 6 (.tmp 54) (.tmp 55), none⟩,
    ⟨some 57, .fad 2 (.tmp 56), none⟩,
    ⟨some 58, .ld (.tmp 57), none⟩,
    ⟨some 59, .bin .eql (.tmp 58) (.const (.int .i64 4)), none⟩,
    ⟨some 60, .mov (.tmp 59), none⟩,
    ⟨some 61, .mov (.tmp 11), some (60, true)⟩,
    ⟨some 62, .mov (.tmp 8), some (60, true)⟩,
    ⟨some 63, .bin .eql (.tmp 61) (.tmp 62), some (60, true)⟩,
    ⟨some 64, .mov (.tmp 63), some (60, true)⟩,
    ⟨some 65, .mov (.tmp 10), some (64, false)⟩,
    ⟨some 66, .mov (.tmp 11), some (64, false)⟩,
    ⟨some 67, .ixs 1 (.tmp 65) (.tmp 66), some (64, false)⟩,
    ⟨some 68, .ld (.tmp 67), some (64, false)⟩,
    ⟨some 69, .mov (.tmp 8), some (64, false)⟩,
    ⟨some 70, .ixs 1 (.tmp 68) (.tmp 69), some (64, false)⟩,
    ⟨some 71, .ld (.tmp 70), some (64, false)⟩,
    ⟨some 72, .pick (.tmp 64) (.const (.bool true)) (.tmp 71), some (60, true)⟩,
    ⟨some 73, .pick (.tmp 60) (.tmp 72) (.const (.bool false)), none⟩])
    (.cond (.tmp 73)
     (.region [
     ⟨some 74, .mov (.tmp 7), none⟩,
     ⟨some 75, .mov (.tmp 0), none⟩,
     ⟨some 76, .mov (.tmp 11), none⟩,
     ⟨some 77, .ixs 6 (.tmp 75) (.tmp 76), none⟩,
     ⟨some 78, .fad 1 (.tmp 77), none⟩,
     ⟨some 79, .ld (.tmp 78), none⟩,
     ⟨some 80, .ixs 1 (.tmp 74) (.tmp 79), none⟩,
     ⟨some 81, .ld (.tmp 80), none⟩,
     ⟨some 82, .bin .add (.tmp 81) (.const (.int .i64 1)), none⟩,
     ⟨some 83, .ixs 1 (.tmp 74) (.tmp 79), none⟩,
     ⟨none, .st (.tmp 83) (.tmp 82), none⟩])
     .skip)))
   (.region [
   ⟨some 52, .mov (.tmp 11), none⟩,
   ⟨some 53, .bin .add (.tmp 52) (.const (.int .i64 1)), none⟩,
   ⟨some 11, .mov (.tmp 53), none⟩]))))))
 (.seq (.region [
 ⟨some 84, .mov (.tmp 7), none⟩,
 ⟨some 6, .mov (.tmp 84), none⟩])
 .ret))))))))),
 [.tmp 6]⟩
theorem low_ref24_Clock : lowFn Tryd.prog movers 31 = some ⟨ir_ref24_Clock.n, strip ir_ref24_Clock.body, ir_ref24_Clock.res⟩ := by kernel_rfl
/-- strongtx/strongtxref24.Races -/
def ir_ref24_Races : IFn := ⟨90,
 (.seq (.region [
 ⟨some 4, .mov (.const (.slice none 0 0)), none⟩])
 (.seq (.seq (.region [
 ⟨some 14, .mov (.tmp 0), none⟩,
 ⟨some 15, .mov (.tmp 1), none⟩,
 ⟨some 16, .call 21 [(.tmp 14), (.tmp 15)], none⟩,
 ⟨some 13, .mov (.tmp 16), none⟩,
 ⟨some 17, .ext (.tmp 13) 0, none⟩,
 ⟨some 18, .ext (.tmp 13) 1, none⟩,
 ⟨some 5, .mov (.tmp 17), none⟩,
 ⟨some 6, .mov (.tmp 18), none⟩])
 (.seq (.region [
 ⟨some 19, .mov (.tmp 6), none⟩,
 ⟨some 20, .bin .neq (.tmp 19) (.const (.int .i64 0)), none⟩])
 (.cond (.tmp 20)
  (.seq (.region [
  ⟨some 4, .mov (.const (.slice none 0 0)), none⟩])
  .ret)
  .skip)))
 (.seq (.region [
 ⟨some 21, .mov (.tmp 0), none⟩,
 ⟨some 22, .call 52 [(.tmp 21)], none⟩,
 ⟨some 7, .mov (.tmp 22), none⟩])
 (.seq (.region [
 ⟨some 8, .mov (.const (.slice none 0 0)), none⟩])
 (.seq (.seq (.region [
 ⟨some 9, .mov (.const (.int .i64 0)), none⟩])
 (.block 0
  (.loop 618970019642690137441181440
   (.seq (.seq (.region [
   ⟨some 23, .mov (.tmp 9), none⟩,
   ⟨some 24, .mov (.tmp 0), none⟩,
   ⟨some 25, .len (.tmp 24), none⟩,
   ⟨some 26, .bin .lss (.tmp 23) (.tmp 25), none⟩])
   (.cond (.tmp 26)
    .skip
    (.exit 0)))
   (.seq (.block 1
    (.seq (.seq (.region [
    ⟨some 29, .mov (.tmp 0), none⟩,
    ⟨some 30, .mov (.tmp 9), none⟩,
    ⟨some 31, .ixs 6 (.tmp 29) (.tmp 30), none⟩,
    ⟨some 32, .fad 2 (.tmp 31), none⟩,
    ⟨some 33, .ld (.tmp 32), none⟩,
    ⟨some 34, .bin .eql (.tmp 33) (.const (.int .i64 3)), none⟩])
    (.cond (.tmp 34)
     (.exit 1)
     .skip))
    (.seq (.region [
    ⟨some 35, .mov (.tmp 9), none⟩,
    ⟨some 10, .mov (.tmp 35), none⟩])
    (.seq (.seq (.region [
    ⟨some 36, .mov (.tmp 0), none⟩,
    ⟨some 37, .mov (.tmp 9), none⟩,
    ⟨some 38, .ixs 6 (.tmp 36) (.tmp 37), none⟩,
    ⟨some 39, .fad 2 (.tmp 38), none⟩,
    ⟨some 40, .ld (.tmp 39), none⟩,
    ⟨some 41, .bin .eql (.tmp 40) (.const (.int .i64 4)), none⟩])
    (.cond (.tmp 41)
     (.region [
     ⟨some 42, .mov (.tmp 0), none⟩,
     ⟨some 43, .mov (.tmp 9), none⟩,
     ⟨some 44, .call 58 [(.tmp 42), (.tmp 43)], none⟩,
     ⟨some 10, .mov (.tmp 44), none⟩])
     .skip))
    (.seq (.region [
    ⟨some 11, .mov (.const (.int .i64 0)), none⟩])
    (.block 2
     (.loop 618970019642654953077479680
      (.seq (.seq (.region [
      ⟨some 45, .mov (.tmp 11), none⟩,
      ⟨some 46, .bin .lss (.tmp 45) (.const (.int .i64 64)), none⟩])
      (.cond (.tmp 46)
       .skip
       (.exit 2)))
      (.seq (.block 3
       (.seq (.region [
       ⟨some 12, .mov (.const (.int .i64 0)), none⟩])
       (.block 4
        (.loop 618970019642127187496145152
         (.seq (.seq (.region [
         ⟨some 49, .mov (.tmp 12), none⟩,
         ⟨some 50, .mov (.tmp 9), none⟩,
         ⟨some 51, .bin .lss (.tmp 49) (.tmp 50), none⟩])
         (.cond (.tmp 51)
          .skip
          (.exit 4)))
         (.seq (.block 5
          (.seq (.draw (.f ⟨some 54, .mov (.tmp 0), none⟩
          (.f ⟨some 55, .mov (.tmp 12), none⟩
          (.f ⟨some 56, .ixs 6 (.tmp 54) (.tmp 55), none⟩
          (.f ⟨some 57, .fad 2 (.tmp 56), none⟩
          (.f ⟨some 58, .ld (.tmp 57), none⟩
          (.f ⟨some 59, .bin .neq (.tmp 58) (.const (.int .i64 3)), none⟩
          (.f ⟨some 60, .mov (.tmp 59), none⟩
          (.f ⟨some 61, .mov (.tmp 0), some (60, true)⟩
          (.f ⟨some 62, .mov (.tmp 12), some (60, true)⟩
          (.f ⟨some 63, .ixs 6 (.tmp 61) (.tmp 62), some (60, true)⟩
          (.f ⟨some 64, .ldN 6 (.tmp 63), some (60, true)⟩
          (.f ⟨some 65, .mov (.tmp 0), some (60, true)⟩
          (.f ⟨some 66, .mov (.tmp 9), some (60, true)⟩
          (.f ⟨some 67, .ixs 6 (.tmp 65) (.tmp 66), some (60, true)⟩
          (.f ⟨some 68, .ldN 6 (.tmp 67), some (60, true)⟩
          (.f ⟨some 69, .mov (.tmp 11), some (60, true)⟩
          (.f ⟨some 70, .call 59 [(.tmp 64), (.tmp 68), (.tmp 69)], some (60, true)⟩
          (.f ⟨some 71, .pick (.tmp 60) (.tmp 70) (.const (.bool false)), none⟩
          (.f ⟨some 72, .mov (.tmp 71), none⟩
          (.f ⟨some 73, .mov (.tmp 7), some (72, true)⟩
          (.f ⟨some 74, .mov (.tmp 12), some (72, true)⟩
          (.f ⟨some 75, .ixs 1 (.tmp 73) (.tmp 74), some (72, true)⟩
          (.f ⟨some 76, .ld (.tmp 75), some (72, true)⟩
          (.f ⟨some 77, .mov (.tmp 10), some (72, true)⟩
          (.f ⟨some 78, .ixs 1 (.tmp 76) (.tmp 77), some (72, true)⟩
          (.f ⟨some 79, .ld (.tmp 78), some (72, true)⟩
          (.f ⟨some 80, .not (.tmp 79), some (72, true)⟩
          (.f ⟨some 81, .pick (.tmp 72) (.tmp 80) (.const (.bool false)), none⟩
          .done)))))))))))))))))))))))))))))
          (.cond (.tmp 81)
           (.region [
           ⟨some 82, .mov (.tmp 8), none⟩,
           ⟨some 83, .mov (.tmp 12), none⟩,
           ⟨some 84, .mov (.tmp 9), none⟩,
           ⟨some 85, .mov (.tmp 11), none⟩,
           ⟨some 86, .bld [(.int .i64 0), (.int .i64 0), (.int .i64 0)] [(0, 1, (.tmp 83)), (1, 1, (.tmp 84)), (2, 1, (.tmp 85))], none⟩,
           ⟨some 87, .blds 28 1 [(.int .i64 0), (.int .i64 0), (.int .i64 0)] [(0, 3, (.tmp 86))], none⟩,
           ⟨some 88, .app 28 3 24 [(.int .i64 0), (.int .i64 0), (.int .i64 0)] (.tmp 82) (.tmp 87), none⟩,
           ⟨some 8, .mov (.tmp 88), none⟩])
           .skip)))
         (.region [
         ⟨some 52, .mov (.tmp 12), none⟩,
         ⟨some 53, .bin .add (.tmp 52) (.const (.int .i64 1)), none⟩,
         ⟨some 12, .mov (.tmp 53), none⟩])))))))
      (.region [
      ⟨some 47, .mov (.tmp 11), none⟩,
      ⟨some 48, .bin .add (.tmp 47) (.const (.int .i64 1)), none⟩,
      ⟨some 11, .mov (.tmp 48), none⟩]))))))))))
   (.region [
   ⟨some 27, .mov (.tmp 9), none⟩,
   ⟨some 28, .bin .add (.tmp 27) (.const (.int .i64 1)), none⟩,
   ⟨some 9, .mov (.tmp 28), none⟩]))))))
 (.seq (.region [
 ⟨some 89, .mov (.tmp 8), none⟩,
 ⟨some 4, .mov (.tmp 89), none⟩])
 .ret)))))),
 [.tmp 4]⟩
theorem low_ref24_Races : lowFn Tryd.prog movers 39 = some ⟨ir_ref24_Races.n, strip ir_ref24_Races.body, ir_ref24_Races.res⟩ := by kernel_rfl
/-- strongtx/strongtxref24.Fits -/
def ir_ref24_Fits : IFn := ⟨75,
 (.seq (.region [
 ⟨some 5, .box 42 (.tmp 0), none⟩,
 ⟨some 10, .mov (.const (.bool false)), none⟩])
 (.seq (.seq (.region [
 ⟨some 11, .fad 1 (.tmp 5), none⟩,
 ⟨some 12, .ld (.tmp 11), none⟩,
 ⟨some 13, .bin .lss (.tmp 12) (.const (.int .i64 0)), none⟩,
 ⟨some 14, .mov (.tmp 13), none⟩,
 ⟨some 15, .fad 1 (.tmp 5), some (14, false)⟩,
 ⟨some 16, .ld (.tmp 15), some (14, false)⟩,
 ⟨some 17, .mov (.tmp 1), some (14, false)⟩,
 ⟨some 18, .bin .geq (.tmp 16) (.tmp 17), some (14, false)⟩,
 ⟨some 19, .pick (.tmp 14) (.const (.bool true)) (.tmp 18), none⟩,
 ⟨some 20, .mov (.tmp 19), none⟩,
 ⟨some 21, .fad 2 (.tmp 5), some (20, false)⟩,
 ⟨some 22, .ld (.tmp 21), some (20, false)⟩,
 ⟨some 23, .bin .lss (.tmp 22) (.const (.int .i64 1)), some (20, false)⟩,
 ⟨some 24, .pick (.tmp 20) (.const (.bool true)) (.tmp 23), none⟩,
 ⟨some 25, .mov (.tmp 24), none⟩,
 ⟨some 26, .fad 2 (.tmp 5), some (25, false)⟩,
 ⟨some 27, .ld (.tmp 26), some (25, false)⟩,
 ⟨some 28, .bin .gtr (.tmp 27) (.const (.int .i64 4)), some (25, false)⟩,
 ⟨some 29, .pick (.tmp 25) (.const (.bool true)) (.tmp 28), none⟩,
 ⟨some 30, .mov (.tmp 29), none⟩,
 ⟨some 31, .mov (.tmp 2), some (30, false)⟩,
 ⟨some 32, .not (.tmp 31), some (30, false)⟩,
 ⟨some 33, .mov (.tmp 32), some (30, false)⟩,
 ⟨some 34, .fad 0 (.tmp 5), some (33, true)⟩,
 ⟨some 35, .ld (.tmp 34), some (33, true)⟩,
 ⟨some 36, .mov (.tmp 3), some (33, true)⟩,
 ⟨some 37, .bin .lss (.tmp 35) (.tmp 36), some (33, true)⟩,
 ⟨some 38, .pick (.tmp 33) (.tmp 37) (.const (.bool false)), some (30, false)⟩,
 ⟨some 39, .pick (.tmp 30) (.const (.bool true)) (.tmp 38), none⟩])
 (.cond (.tmp 39)
  (.seq (.region [
  ⟨some 10, .mov (.const (.bool false)), none⟩])
  .ret)
  .skip))
 (.seq (.seq (.region [
 ⟨some 40, .fad 3 (.tmp 5), none⟩,
 ⟨some 41, .ld (.tmp 40), none⟩,
 ⟨some 42, .bin .lss (.tmp 41) (.const (.int .i64 0)), none⟩,
 ⟨some 43, .mov (.tmp 42), none⟩,
 ⟨some 44, .fad 3 (.tmp 5), some (43, false)⟩,
 ⟨some 45, .ld (.tmp 44), some (43, false)⟩,
 ⟨some 46, .bin .geq (.tmp 45) (.const (.int .i64 64)), some (43, false)⟩,
 ⟨some 47, .pick (.tmp 43) (.const (.bool true)) (.tmp 46), none⟩,
 ⟨some 48, .mov (.tmp 47), none⟩,
 ⟨some 49, .fad 4 (.tmp 5), some (48, false)⟩,
 ⟨some 50, .ld (.tmp 49), some (48, false)⟩,
 ⟨some 51, .call 60 [(.tmp 50)], some (48, false)⟩,
 ⟨some 52, .not (.tmp 51), some (48, false)⟩,
 ⟨some 53, .pick (.tmp 48) (.const (.bool true)) (.tmp 52), none⟩,
 ⟨some 54, .mov (.tmp 53), none⟩,
 ⟨some 55, .fad 5 (.tmp 5), some (54, false)⟩,
 ⟨some 56, .ld (.tmp 55), some (54, false)⟩,
 ⟨some 57, .call 60 [(.tmp 56)], some (54, false)⟩,
 ⟨some 58, .not (.tmp 57), some (54, false)⟩,
 ⟨some 59, .pick (.tmp 54) (.const (.bool true)) (.tmp 58), none⟩])
 (.cond (.tmp 59)
  (.seq (.region [
  ⟨some 10, .mov (.const (.bool false)), none⟩])
  .ret)
  .skip))
 (.seq (.seq (.region [
 ⟨some 60, .fad 2 (.tmp 5), none⟩,
 ⟨some 61, .ld (.tmp 60), none⟩,
 ⟨some 62, .bin .eql (.tmp 61) (.const (.int .i64 4)), none⟩])
 (.cond (.tmp 62)
  (.seq (.region [
  ⟨some 63, .mov (.tmp 4), none⟩,
  ⟨some 64, .bin .eql (.tmp 63) (.const (.int .i64 3)), none⟩,
  ⟨some 10, .mov (.tmp 64), none⟩])
  .ret)
  .skip))
 (.seq (.region [
 ⟨some 65, .fad 4 (.tmp 5), none⟩,
 ⟨some 66, .ld (.tmp 65), none⟩,
 ⟨some 67, .len (.tmp 66), none⟩,
 ⟨some 68, .bin .eql (.tmp 67) (.const (.int .i64 0)), none⟩,
 ⟨some 69, .mov (.tmp 68), none⟩,
 ⟨some 70, .fad 5 (.tmp 5), some (69, true)⟩,
 ⟨some 71, .ld (.tmp 70), some (69, true)⟩,
 ⟨some 72, .len (.tmp 71), some (69, true)⟩,
 ⟨some 73, .bin .eql (.tmp 72) (.const (.int .i64 0)), some (69, true)⟩,
 ⟨some 74, .pick (.tmp 69) (.tmp 73) (.const (.bool false)), none⟩,
 ⟨some 10, .mov (.tmp 74), none⟩])
 .ret))))),
 [.tmp 10]⟩
theorem low_ref24_Fits : lowFn Tryd.prog movers 40 = some ⟨ir_ref24_Fits.n, strip ir_ref24_Fits.body, ir_ref24_Fits.res⟩ := by kernel_rfl
/-- strongtx/strongtxref24.closure -/
def ir_ref24_closure : IFn := ⟨135,
 (.seq (.region [
 ⟨some 2, .mov (.const (.slice none 0 0)), none⟩])
 (.seq (.region [
 ⟨some 13, .mov (.tmp 0), none⟩,
 ⟨some 14, .len (.tmp 13), none⟩,
 ⟨some 3, .mov (.tmp 14), none⟩])
 (.seq (.region [
 ⟨some 15, .mov (.tmp 0), none⟩,
 ⟨some 16, .call 70 [(.tmp 15)], none⟩,
 ⟨some 4, .mov (.tmp 16), none⟩])
 (.seq (.region [
 ⟨some 5, .mov (.const (.slice none 0 0)), none⟩])
 (.seq (.seq (.region [
 ⟨some 6, .mov (.const (.int .i64 0)), none⟩])
 (.block 0
  (.loop 77371252455336267181065184
   (.seq (.seq (.region [
   ⟨some 17, .mov (.tmp 6), none⟩,
   ⟨some 18, .mov (.tmp 3), none⟩,
   ⟨some 19, .bin .lss (.tmp 17) (.tmp 18), none⟩])
   (.cond (.tmp 19)
    .skip
    (.exit 0)))
   (.seq (.block 1
    (.seq (.region [
    ⟨some 22, .mov (.tmp 3), none⟩,
    ⟨some 23, .mk 4 1 1 [(.bool false)] (.tmp 22) (.tmp 22), none⟩,
    ⟨some 7, .mov (.tmp 23), none⟩])
    (.seq (.seq (.region [
    ⟨some 24, .mov (.tmp 6), none⟩,
    ⟨some 25, .bin .add (.tmp 24) (.const (.int .i64 1)), none⟩,
    ⟨some 8, .mov (.tmp 25), none⟩])
    (.block 2
     (.loop 4835703278458516631716608
      (.seq (.seq (.region [
      ⟨some 26, .mov (.tmp 8), none⟩,
      ⟨some 27, .mov (.tmp 3), none⟩,
      ⟨some 28, .bin .lss (.tmp 26) (.tmp 27), none⟩])
      (.cond (.tmp 28)
       .skip
       (.exit 2)))
      (.seq (.block 3
       (.seq (.draw (.f ⟨some 31, .mov (.tmp 0), none⟩
       (.f ⟨some 32, .mov (.tmp 6), none⟩
       (.f ⟨some 33, .ixs 6 (.tmp 31) (.tmp 32), none⟩
       (.f ⟨some 34, .fad 1 (.tmp 33), none⟩
       (.f ⟨some 35, .ld (.tmp 34), none⟩
       (.f ⟨some 36, .mov (.tmp 0), none⟩
       (.f ⟨some 37, .mov (.tmp 8), none⟩
       (.f ⟨some 38, .ixs 6 (.tmp 36) (.tmp 37), none⟩
       (.f ⟨some 39, .fad 1 (.tmp 38), none⟩
       (.f ⟨some 40, .ld (.tmp 39), none⟩
       (.f ⟨some 41, .bin .eql (.tmp 35) (.tmp 40), none⟩
       (.f ⟨some 42, .mov (.tmp 41), none⟩
       (.f ⟨some 43, .mov (.tmp 0), some (42, false)⟩
       (.f ⟨some 44, .mov (.tmp 6), some (42, false)⟩
       (.f ⟨some 45, .ixs 6 (.tmp 43) (.tmp 44), some (42, false)⟩
       (.f ⟨some 46, .fad 2 (.tmp 45), some (42, false)⟩
       (.f ⟨some 47, .ld (.tmp 46), some (42, false)⟩
       (.f ⟨some 48, .bin .eql (.tmp 47) (.const (.int .i64 4)), some (42, false)⟩
       (.f ⟨some 49, .mov (.tmp 48), some (42, false)⟩
       (.f ⟨some 50, .mov (.tmp 0), some (49, true)⟩
       (.f ⟨some 51, .mov (.tmp 8), some (49, true)⟩
       (.f ⟨some 52, .ixs 6 (.tmp 50) (.tmp 51), some (49, true)⟩
       (.f ⟨some 53, .fad 2 (.tmp 52), some (49, true)⟩
       (.f ⟨some 54, .ld (.tmp 53), some (49, true)⟩
       (.f ⟨some 55, .bin .eql (.tmp 54) (.const (.int .i64 4)), some (49, true)⟩
       (.f ⟨some 56, .mov (.tmp 55), some (49, true)⟩
       (.f ⟨some 57, .mov (.tmp 0), some (56, false)⟩
       (.f ⟨some 58, .mov (.tmp 8), some (56, false)⟩
       (.f ⟨some 59, .ixs 6 (.tmp 57) (.tmp 58), some (56, false)⟩
       (.f ⟨some 60, .fad 2 (.tmp 59), some (56, false)⟩
       (.f ⟨some 61, .ld (.tmp 60), some (56, false)⟩
       (.f ⟨some 62, .bin .eql (.tmp 61) (.const (.int .i64 3)), some (56, false)⟩
       (.f ⟨some 63, .pick (.tmp 56) (.const (.bool true)) (.tmp 62), some (49, true)⟩
       (.f ⟨some 64, .pick (.tmp 49) (.tmp 63) (.const (.bool false)), some (42, false)⟩
       (.f ⟨some 65, .pick (.tmp 42) (.const (.bool true)) (.tmp 64), none⟩
       (.f ⟨some 9, .mov (.tmp 65), none⟩
       .done)))))))))))))))))))))))))))))))))))))
       (.region [
       ⟨some 66, .mov (.tmp 7), none⟩,
       ⟨some 67, .mov (.tmp 8), none⟩,
       ⟨some 68, .mov (.tmp 4), none⟩,
       ⟨some 69, .mov (.tmp 6), none⟩,
       ⟨some 70, .ixs 1 (.tmp 68) (.tmp 69), none⟩,
       ⟨some 71, .ld (.tmp 70), none⟩,
       ⟨some 72, .mov (.tmp 71), none⟩,
       ⟨some 73, .mov (.tmp 4), some (72, true)⟩,
       ⟨some 74, .mov (.tmp 8), some (72, true)⟩,
       ⟨some 75, .ixs 1 (.tmp 73) (.tmp 74), some (72, true)⟩,
       ⟨some 76, .ld (.tmp 75), some (72, true)⟩,
       ⟨some 77, .pick (.tmp 72) (.tmp 76) (.const (.bool false)), none⟩,
       ⟨some 78, .mov (.tmp 77), none⟩,
       ⟨some 79, .mov (.tmp 9), some (78, true)⟩,
       ⟨some 80, .pick (.tmp 78) (.tmp 79) (.const (.bool false)), none⟩,
       ⟨some 81, .ixs 1 (.tmp 66) (.tmp 67), none⟩,
       ⟨none, .st (.tmp 81) (.tmp 80), none⟩])))
      (.region [
      ⟨some 29, .mov (.tmp 8), none⟩,
      ⟨some 30, .bin .add (.tmp 29) (.const (.int .i64 1)), none⟩,
      ⟨some 8, .mov (.tmp 30), none⟩]))))))
    (.region [
    ⟨some 82, .mov (.tmp 5), none⟩,
    ⟨some 83, .mov (.tmp 7), none⟩,
    ⟨some 84, .blds 80 1 [(.slice none 0 0)] [(0, 1, (.tmp 83))], none⟩,
    ⟨some 85, .app 80 1 24 [(.slice none 0 0)] (.tmp 82) (.tmp 84), none⟩,
    ⟨some 5, .mov (.tmp 85), none⟩]))))
   (.region [
   ⟨some 20, .mov (.tmp 6), none⟩,
   ⟨some 21, .bin .add (.tmp 20) (.const (.int .i64 1)), none⟩,
   ⟨some 6, .mov (.tmp 21), none⟩]))))))
 (.seq (.seq (.region [
 ⟨some 10, .mov (.const (.int .i64 0)), none⟩])
 (.block 4
  (.loop 21778071482939984290403519539365984345088
   (.seq (.seq (.region [
   ⟨some 86, .mov (.tmp 10), none⟩,
   ⟨some 87, .mov (.tmp 3), none⟩,
   ⟨some 88, .bin .lss (.tmp 86) (.tmp 87), none⟩])
   (.cond (.tmp 88)
    .skip
    (.exit 4)))
   (.seq (.block 5
    (.seq (.region [
    ⟨some 11, .mov (.const (.int .i64 0)), none⟩])
    (.block 6
     (.loop 21778071482937585781577404115083367290880
      (.seq (.seq (.region [
      ⟨some 91, .mov (.tmp 11), none⟩,
      ⟨some 92, .mov (.tmp 10), none⟩,
      ⟨some 93, .bin .lss (.tmp 91) (.tmp 92), none⟩])
      (.cond (.tmp 93)
       .skip
       (.exit 6)))
      (.seq (.block 7
       (.seq (.region [
       ⟨some 96, .mov (.tmp 10), none⟩,
       ⟨some 97, .bin .add (.tmp 96) (.const (.int .i64 1)), none⟩,
       ⟨some 12, .mov (.tmp 97), none⟩])
       (.block 8
        (.loop 21778071482623149011598917525258989735936
         (.seq (.seq (.region [
         ⟨some 98, .mov (.tmp 12), none⟩,
         ⟨some 99, .mov (.tmp 3), none⟩,
         ⟨some 100, .bin .lss (.tmp 98) (.tmp 99), none⟩,
         ⟨some 101, .mov (.tmp 100), none⟩,
         ⟨some 102, .mov (.tmp 5), some (101, true)⟩,
         ⟨some 103, .mov (.tmp 11), some (101, true)⟩,
         ⟨some 104, .ixs 1 (.tmp 102) (.tmp 103), some (101, true)⟩,
         ⟨some 105, .ld (.tmp 104), some (101, true)⟩,
         ⟨some 106, .mov (.tmp 10), some (101, true)⟩,
         ⟨some 107, .ixs 1 (.tmp 105) (.tmp 106), some (101, true)⟩,
         ⟨some 108, .ld (.tmp 107), some (101, true)⟩,
         ⟨some 109, .pick (.tmp 101) (.tmp 108) (.const (.bool false)), none⟩])
         (.cond (.tmp 109)
          .skip
          (.exit 8)))
         (.seq (.block 9
          (.draw (.f ⟨some 112, .mov (.tmp 5), none⟩
          (.f ⟨some 113, .mov (.tmp 11), none⟩
          (.f ⟨some 114, .ixs 1 (.tmp 112) (.tmp 113), none⟩
          (.f ⟨some 115, .ld (.tmp 114), none⟩
          (.f ⟨some 116, .mov (.tmp 12), none⟩
          (.f ⟨some 117, .mov (.tmp 5), none⟩
          (.f ⟨some 118, .mov (.tmp 11), none⟩
          (.f ⟨some 119, .ixs 1 (.tmp 117) (.tmp 118), none⟩
          (.f ⟨some 120, .ld (.tmp 119), none⟩
          (.f ⟨some 121, .mov (.tmp 12), none⟩
          (.f ⟨some 122, .ixs 1 (.tmp 120) (.tmp 121), none⟩
          (.f ⟨some 123, .ld (.tmp 122), none⟩
          (.f ⟨some 124, .mov (.tmp 123), none⟩
          (.f ⟨some 125, .mov (.tmp 5), some (124, false)⟩
          (.f ⟨some 126, .mov (.tmp 10), some (124, false)⟩
          (.f ⟨some 127, .ixs 1 (.tmp 125) (.tmp 126), some (124, false)⟩
          (.f ⟨some 128, .ld (.tmp 127), some (124, false)⟩
          (.f ⟨some 129, .mov (.tmp 12), some (124, false)⟩
          (.f ⟨some 130, .ixs 1 (.tmp 128) (.tmp 129), some (124, false)⟩
          (.f ⟨some 131, .ld (.tmp 130), some (124, false)⟩
          (.f ⟨some 132, .pick (.tmp 124) (.const (.bool true)) (.tmp 131), none⟩
          (.f ⟨some 133, .ixs 1 (.tmp 115) (.tmp 116), none⟩
          (.m ⟨none, .st (.tmp 133) (.tmp 132), none⟩
          .done)))))))))))))))))))))))))
         (.region [
         ⟨some 110, .mov (.tmp 12), none⟩,
         ⟨some 111, .bin .add (.tmp 110) (.const (.int .i64 1)), none⟩,
         ⟨some 12, .mov (.tmp 111), none⟩])))))))
      (.region [
      ⟨some 94, .mov (.tmp 11), none⟩,
      ⟨some 95, .bin .add (.tmp 94) (.const (.int .i64 1)), none⟩,
      ⟨some 11, .mov (.tmp 95), none⟩])))))))
   (.region [
   ⟨some 89, .mov (.tmp 10), none⟩,
   ⟨some 90, .bin .add (.tmp 89) (.const (.int .i64 1)), none⟩,
   ⟨some 10, .mov (.tmp 90), none⟩]))))))
 (.seq (.region [
 ⟨some 134, .mov (.tmp 5), none⟩,
 ⟨some 2, .mov (.tmp 134), none⟩])
 .ret))))))),
 [.tmp 2]⟩
theorem low_ref24_closure : lowFn Tryd.prog movers 52 = some ⟨ir_ref24_closure.n, strip ir_ref24_closure.body, ir_ref24_closure.res⟩ := by kernel_rfl
/-- strongtx/strongtxref24.begin -/
def ir_ref24_begin : IFn := ⟨24,
 (.seq (.region [
 ⟨some 4, .mov (.const (.int .i64 0)), none⟩])
 (.seq (.seq (.region [
 ⟨some 6, .mov (.tmp 1), none⟩,
 ⟨some 7, .bin .sub (.tmp 6) (.const (.int .i64 1)), none⟩,
 ⟨some 5, .mov (.tmp 7), none⟩])
 (.block 0
  (.loop 16777008
   (.seq (.seq (.region [
   ⟨some 8, .mov (.tmp 5), none⟩,
   ⟨some 9, .bin .geq (.tmp 8) (.const (.int .i64 0)), none⟩])
   (.cond (.tmp 9)
    .skip
    (.exit 0)))
   (.seq (.block 1
    (.seq (.draw (.f ⟨some 12, .mov (.tmp 0), none⟩
    (.f ⟨some 13, .mov (.tmp 5), none⟩
    (.f ⟨some 14, .ixs 6 (.tmp 12) (.tmp 13), none⟩
    (.f ⟨some 15, .fad 1 (.tmp 14), none⟩
    (.f ⟨some 16, .ld (.tmp 15), none⟩
    (.f ⟨some 17, .mov (.tmp 0), none⟩
    (.f ⟨some 18, .mov (.tmp 1), none⟩
    (.f ⟨some 19, .ixs 6 (.tmp 17) (.tmp 18), none⟩
    (.f ⟨some 20, .fad 1 (.tmp 19), none⟩
    (.f ⟨some 21, .ld (.tmp 20), none⟩
    (.f ⟨some 22, .bin .eql (.tmp 16) (.tmp 21), none⟩
    .done))))))))))))
    (.cond (.tmp 22)
     (.seq (.region [
     ⟨some 23, .mov (.tmp 5), none⟩,
     ⟨some 4, .mov (.tmp 23), none⟩])
     .ret)
     .skip)))
   (.region [
   ⟨some 10, .mov (.tmp 5), none⟩,
   ⟨some 11, .bin .sub (.tmp 10) (.const (.int .i64 1)), none⟩,
   ⟨some 5, .mov (.tmp 11), none⟩]))))))
 (.seq (.region [
 ⟨some 4, .mov (.const (.int .i64 (-1))), none⟩])
 .ret))),
 [.tmp 4]⟩
theorem low_ref24_begin : lowFn Tryd.prog movers 58 = some ⟨ir_ref24_begin.n, strip ir_ref24_begin.body, ir_ref24_begin.res⟩ := by kernel_rfl
/-- strongtx/strongtxref24.conflict -/
def ir_ref24_conflict : IFn := ⟨60,
 (.seq (.region [
 ⟨some 3, .box 42 (.tmp 0), none⟩,
 ⟨some 4, .box 42 (.tmp 1), none⟩,
 ⟨some 6, .mov (.const (.bool false)), none⟩])
 (.seq (.seq (.region [
 ⟨some 7, .fad 1 (.tmp 3), none⟩,
 ⟨some 8, .ld (.tmp 7), none⟩,
 ⟨some 9, .fad 1 (.tmp 4), none⟩,
 ⟨some 10, .ld (.tmp 9), none⟩,
 ⟨some 11, .bin .eql (.tmp 8) (.tmp 10), none⟩])
 (.cond (.tmp 11)
  (.seq (.region [
  ⟨some 6, .mov (.const (.bool false)), none⟩])
  .ret)
  .skip))
 (.seq (.seq (.region [
 ⟨some 12, .fad 2 (.tmp 3), none⟩,
 ⟨some 13, .ld (.tmp 12), none⟩,
 ⟨some 14, .bin .eql (.tmp 13) (.const (.int .i64 4)), none⟩])
 (.cond (.tmp 14)
  (.region [
  ⟨some 15, .ldN 6 (.tmp 4), none⟩,
  ⟨some 16, .ldN 6 (.tmp 3), none⟩,
  ⟨none, .stN 6 (.tmp 3) (.tmp 15), none⟩,
  ⟨none, .stN 6 (.tmp 4) (.tmp 16), none⟩])
  .skip))
 (.seq (.block 0
  (.seq (.region [
  ⟨some 18, .fad 2 (.tmp 3), none⟩,
  ⟨some 19, .ld (.tmp 18), none⟩,
  ⟨some 20, .bin .eql (.tmp 19) (.const (.int .i64 4)), none⟩,
  ⟨some 21, .mov (.tmp 20), none⟩,
  ⟨some 22, .fad 3 (.tmp 3), some (21, false)⟩,
  ⟨some 23, .ld (.tmp 22), some (21, false)⟩,
  ⟨some 24, .mov (.tmp 2), some (21, false)⟩,
  ⟨some 25, .bin .neq (.tmp 23) (.tmp 24), some (21, false)⟩,
  ⟨some 26, .pick (.tmp 21) (.const (.bool true)) (.tmp 25), none⟩,
  ⟨some 17, .mov (.tmp 26), none⟩])
  (.cond (.tmp 17)
   (.seq (.region [
   ⟨some 6, .mov (.const (.bool false)), none⟩])
   .ret)
   (.seq (.region [
   ⟨some 28, .fad 2 (.tmp 4), none⟩,
   ⟨some 29, .ld (.tmp 28), none⟩,
   ⟨some 30, .bin .neq (.tmp 29) (.const (.int .i64 4)), none⟩,
   ⟨some 27, .mov (.tmp 30), none⟩])
   (.cond (.tmp 27)
    (.seq (.region [
    ⟨some 31, .fad 3 (.tmp 4), none⟩,
    ⟨some 32, .ld (.tmp 31), none⟩,
    ⟨some 33, .mov (.tmp 2), none⟩,
    ⟨some 34, .bin .eql (.tmp 32) (.tmp 33), none⟩,
    ⟨some 35, .mov (.tmp 34), none⟩,
    ⟨some 36, .fad 2 (.tmp 3), some (35, true)⟩,
    ⟨some 37, .ld (.tmp 36), some (35, true)⟩,
    ⟨some 38, .bin .eql (.tmp 37) (.const (.int .i64 2)), some (35, true)⟩,
    ⟨some 39, .mov (.tmp 38), some (35, true)⟩,
    ⟨some 40, .fad 2 (.tmp 4), some (39, false)⟩,
    ⟨some 41, .ld (.tmp 40), some (39, false)⟩,
    ⟨some 42, .bin .eql (.tmp 41) (.const (.int .i64 2)), some (39, false)⟩,
    ⟨some 43, .pick (.tmp 39) (.const (.bool true)) (.tmp 42), some (35, true)⟩,
    ⟨some 44, .pick (.tmp 35) (.tmp 43) (.const (.bool false)), none⟩,
    ⟨some 6, .mov (.tmp 44), none⟩])
    .ret)
    .skip)))))
 (.seq (.region [
 ⟨some 45, .fad 5 (.tmp 4), none⟩,
 ⟨some 46, .ld (.tmp 45), none⟩,
 ⟨some 47, .mov (.tmp 2), none⟩,
 ⟨some 48, .call 57 [(.tmp 46), (.tmp 47)], none⟩,
 ⟨some 49, .mov (.tmp 48), none⟩,
 ⟨some 50, .fad 2 (.tmp 3), some (49, false)⟩,
 ⟨some 51, .ld (.tmp 50), some (49, false)⟩,
 ⟨some 52, .bin .eql (.tmp 51) (.const (.int .i64 2)), some (49, false)⟩,
 ⟨some 53, .mov (.tmp 52), some (49, false)⟩,
 ⟨some 54, .fad 4 (.tmp 4), some (53, true)⟩,
 ⟨some 55, .ld (.tmp 54), some (53, true)⟩,
 ⟨some 56, .mov (.tmp 2), some (53, true)⟩,
 ⟨some 57, .call 57 [(.tmp 55), (.tmp 56)], some (53, true)⟩,
 ⟨some 58, .pick (.tmp 53) (.tmp 57) (.const (.bool false)), some (49, false)⟩,
 ⟨some 59, .pick (.tmp 49) (.const (.bool true)) (.tmp 58), none⟩,
 ⟨some 6, .mov (.tmp 59), none⟩])
 .ret))))),
 [.tmp 6]⟩
theorem low_ref24_conflict : lowFn Tryd.prog movers 59 = some ⟨ir_ref24_conflict.n, strip ir_ref24_conflict.body, ir_ref24_conflict.res⟩ := by kernel_rfl
/-- strongtx/strongtxref24.words -/
def ir_ref24_words : IFn := ⟨22,
 (.seq (.region [
 ⟨some 2, .mov (.const (.bool false)), none⟩])
 (.seq (.seq (.region [
 ⟨some 3, .mov (.const (.int .i64 0)), none⟩])
 (.block 0
  (.loop 4194300
   (.seq (.seq (.region [
   ⟨some 4, .mov (.tmp 3), none⟩,
   ⟨some 5, .mov (.tmp 0), none⟩,
   ⟨some 6, .len (.tmp 5), none⟩,
   ⟨some 7, .bin .lss (.tmp 4) (.tmp 6), none⟩])
   (.cond (.tmp 7)
    .skip
    (.exit 0)))
   (.seq (.block 1
    (.seq (.region [
    ⟨some 10, .mov (.tmp 0), none⟩,
    ⟨some 11, .mov (.tmp 3), none⟩,
    ⟨some 12, .ixs 1 (.tmp 10) (.tmp 11), none⟩,
    ⟨some 13, .ld (.tmp 12), none⟩,
    ⟨some 14, .bin .lss (.tmp 13) (.const (.int .i64 0)), none⟩,
    ⟨some 15, .mov (.tmp 14), none⟩,
    ⟨some 16, .mov (.tmp 0), some (15, false)⟩,
    ⟨some 17, .mov (.tmp 3), some (15, false)⟩,
    ⟨some 18, .ixs 1 (.tmp 16) (.tmp 17), some (15, false)⟩,
    ⟨some 19, .ld (.tmp 18), some (15, false)⟩,
    ⟨some 20, .bin .geq (.tmp 19) (.const (.int .i64 64)), some (15, false)⟩,
    ⟨some 21, .pick (.tmp 15) (.const (.bool true)) (.tmp 20), none⟩])
    (.cond (.tmp 21)
     (.seq (.region [
     ⟨some 2, .mov (.const (.bool false)), none⟩])
     .ret)
     .skip)))
   (.region [
   ⟨some 8, .mov (.tmp 3), none⟩,
   ⟨some 9, .bin .add (.tmp 8) (.const (.int .i64 1)), none⟩,
   ⟨some 3, .mov (.tmp 9), none⟩]))))))
 (.seq (.region [
 ⟨some 2, .mov (.const (.bool true)), none⟩])
 .ret))),
 [.tmp 2]⟩
theorem low_ref24_words : lowFn Tryd.prog movers 60 = some ⟨ir_ref24_words.n, strip ir_ref24_words.body, ir_ref24_words.res⟩ := by kernel_rfl
/-- strongtx/strongtxref24.counts -/
def ir_ref24_counts : IFn := ⟨35,
 (.seq (.region [
 ⟨some 2, .mov (.const (.slice none 0 0)), none⟩])
 (.seq (.region [
 ⟨some 5, .mov (.tmp 0), none⟩,
 ⟨some 6, .len (.tmp 5), none⟩,
 ⟨some 7, .mk 4 1 1 [(.bool false)] (.tmp 6) (.tmp 6), none⟩,
 ⟨some 3, .mov (.tmp 7), none⟩])
 (.seq (.seq (.region [
 ⟨some 4, .mov (.const (.int .i64 0)), none⟩])
 (.block 0
  (.loop 17179868944
   (.seq (.seq (.region [
   ⟨some 8, .mov (.tmp 4), none⟩,
   ⟨some 9, .mov (.tmp 0), none⟩,
   ⟨some 10, .len (.tmp 9), none⟩,
   ⟨some 11, .bin .lss (.tmp 8) (.tmp 10), none⟩])
   (.cond (.tmp 11)
    .skip
    (.exit 0)))
   (.seq (.block 1
    (.seq (.region [
    ⟨some 14, .mov (.tmp 3), none⟩,
    ⟨some 15, .mov (.tmp 4), none⟩,
    ⟨some 16, .mov (.tmp 0), none⟩,
    ⟨some 17, .mov (.tmp 4), none⟩,
    ⟨some 18, .ixs 6 (.tmp 16) (.tmp 17), none⟩,
    ⟨some 19, .fad 2 (.tmp 18), none⟩,
    ⟨some 20, .ld (.tmp 19), none⟩,
    ⟨some 21, .bin .neq (.tmp 20) (.const (.int .i64 3)), none⟩,
    ⟨some 22, .ixs 1 (.tmp 14) (.tmp 15), none⟩,
    ⟨none, .st (.tmp 22) (.tmp 21), none⟩])
    (.seq (.region [
    ⟨some 23, .mov (.tmp 0), none⟩,
    ⟨some 24, .mov (.tmp 4), none⟩,
    ⟨some 25, .ixs 6 (.tmp 23) (.tmp 24), none⟩,
    ⟨some 26, .fad 2 (.tmp 25), none⟩,
    ⟨some 27, .ld (.tmp 26), none⟩,
    ⟨some 28, .bin .eql (.tmp 27) (.const (.int .i64 4)), none⟩])
    (.cond (.tmp 28)
     (.region [
     ⟨some 29, .mov (.tmp 3), none⟩,
     ⟨some 30, .mov (.tmp 0), none⟩,
     ⟨some 31, .mov (.tmp 4), none⟩,
     ⟨some 32, .call 58 [(.tmp 30), (.tmp 31)], none⟩,
     ⟨some 33, .ixs 1 (.tmp 29) (.tmp 32), none⟩,
     ⟨none, .st (.tmp 33) (.const (.bool true)), none⟩])
     .skip))))
   (.region [
   ⟨some 12, .mov (.tmp 4), none⟩,
   ⟨some 13, .bin .add (.tmp 12) (.const (.int .i64 1)), none⟩,
   ⟨some 4, .mov (.tmp 13), none⟩]))))))
 (.seq (.region [
 ⟨some 34, .mov (.tmp 3), none⟩,
 ⟨some 2, .mov (.tmp 34), none⟩])
 .ret)))),
 [.tmp 2]⟩
theorem low_ref24_counts : lowFn Tryd.prog movers 70 = some ⟨ir_ref24_counts.n, strip ir_ref24_counts.body, ir_ref24_counts.res⟩ := by kernel_rfl
end Go.Proofs.YtofjnldidkiihaaDoor
namespace Go.Proofs.YtofjnldidkiihaaDoor
open Go
set_option maxRecDepth 10000
set_option maxHeartbeats 4000000
abbrev encI (n : Int) : List Value := [.int .i64 n]
theorem all_take {p : Int → Bool} {l : List Int} {i : Nat} {x : Int} (hx : l[i]? = some x) : (l.take (i + 1)).all p = ((l.take i).all p && p x) := by
  rw [List.take_add_one, hx]; simp
theorem all_false {p : Int → Bool} {l : List Int} {i : Nat} {x : Int} (hx : l[i]? = some x) (hp : p x = false) : l.all p = false := by
  rw [List.all_eq_false]
  exact ⟨x, List.mem_of_getElem? hx, by simp [hp]⟩
section
variable {W0 : World} {own : Own} {a : Option Addr} {cap : Nat} {l : List Int}
theorem sp_rwords (hR : RdE encI 1 W0 own a l) (hl : l.length ≤ 9223372036854775807) : Pure Tryd.prog W0 60 [.slice a l.length cap] own (.bool (l.all inW)) := by
  refine pure_of (spec_of mixed low_ref24_words (by simp [ir_ref24_words]) ?_)
  repeat' ((try (conv => whnf)); first | (refine when_ye ?_ ?_; exact rfl) | (refine when_ne ?_ ?_; exact rfl) | (refine br_te ?_ ?_; exact rfl) | (refine br_fe ?_ ?_; exact rfl) | (apply br_pyE; (exact rfl); omega) | (apply br_pnE; (exact rfl); omega) | (apply when_pyE; (exact rfl); omega) | (apply when_pnE; (exact rfl); omega) | (apply br_npyE; (exact rfl); omega) | (apply br_npnE; (exact rfl); omega) | (apply when_npyE; (exact rfl); omega) | (apply when_npnE; (exact rfl); omega) | (refine ari ?_ ?_; omega) | (refine aru ?_ ?_; omega) | (apply sel; exact rfl) | (refine ix0 rfl ?_) | (refine ix1 rfl ?_) | (refine ix2 rfl ?_) | (refine ix3 rfl ?_) | (apply ixj; omega) | (refine ixn ?_ ?_; omega) | (refine ixs0 rfl ?_) | (refine ixs1 rfl ?_) | (refine ixs_j ?_ ?_; omega) | (refine ixs_n ?_ ?_; omega) | (apply ld_o; exact rfl) | (apply ldN_a; exact rfl) | (apply ldN_o; (exact rfl); exact rfl) | (apply st_o; (exact rfl); exact rfl) | (apply stN_o; (exact rfl); (exact rfl); exact rfl) | (refine new_i (fun bk hbk => ?_)) | (apply when_dE; (exact rfl); (exact rfl); all_goals intro hc) | (apply when_dF; (exact rfl); (exact rfl); all_goals intro hc) | (apply when_nE; (exact rfl); (exact rfl); all_goals intro hc) | (apply when_nF; (exact rfl); (exact rfl); all_goals intro hc) | (apply br_dE; (exact rfl); all_goals intro hc) | (apply br_nE; (exact rfl); all_goals intro hc) | (refine mm_min ?_) | (refine mm_max ?_) | (refine rem_i ?_ ?_; omega) | (refine SelN.mk ?_) | (refine cut_n ?_) | (refine Both.mk ?_ ?_) | (exact True.intro))
  refine loop_c (σ := Nat) (fun i => [(3, .int .i64 i)]) (fun i => i ≤ l.length ∧ (l.take i).all inW = true) (fun i => l.length - i) 0 ⟨by omega, rfl⟩ (by repeat' (first | exact True.intro | refine And.intro ?_ ?_ | exact rfl | exact vi (by omega) | (dsimp only; exact rfl) | (dsimp only; exact vi (by omega)))) rfl ?_
  rintro i junk ⟨hi, hI⟩
  by_cases hlt : i < l.length
  · obtain ⟨x, hx⟩ : ∃ x, l[i]? = some x := ⟨_, List.getElem?_eq_getElem hlt⟩
    have hlt' : (i : Int) < l.length := by omega
    by_cases hw : 0 ≤ x ∧ x < 64
    · have hx1 : inW x = true := by unfold inW; exact decide_eq_true hw
      repeat' ((try (conv => whnf)); first | (refine when_ye ?_ ?_; exact rfl) | (refine when_ne ?_ ?_; exact rfl) | (refine br_te ?_ ?_; exact rfl) | (refine br_fe ?_ ?_; exact rfl) | (apply br_pyE; (exact rfl); omega) | (apply br_pnE; (exact rfl); omega) | (apply when_pyE; (exact rfl); omega) | (apply when_pnE; (exact rfl); omega) | (apply br_npyE; (exact rfl); omega) | (apply br_npnE; (exact rfl); omega) | (apply when_npyE; (exact rfl); omega) | (apply when_npnE; (exact rfl); omega) | (refine br_pyE ?_ hlt' ?_; exact rfl) | (refine br_pnE ?_ hlt' ?_; exact rfl) | (refine when_pyE ?_ hlt' ?_; exact rfl) | (refine when_pnE ?_ hlt' ?_; exact rfl) | (refine br_npyE ?_ hlt' ?_; exact rfl) | (refine br_npnE ?_ hlt' ?_; exact rfl) | (refine when_npyE ?_ hlt' ?_; exact rfl) | (refine when_npnE ?_ hlt' ?_; exact rfl) | ((with_reducible show Ld _ _ _ _); first | (refine ldE0 hR hx rfl ?_) | (refine ldEk hR hx rfl ?_) | (refine ldE1 hR hx rfl ?_)) | ((with_reducible show IxS _ _ _ _ _); first | ((refine ixE hR hx ?_ ?_; (first | rfl | omega)))) | ((with_reducible show LdN _ _ _ _ _); first | (refine ldNEi hR hx rfl ?_)) | (refine ari ?_ ?_; omega) | (refine aru ?_ ?_; omega) | (apply sel; exact rfl) | (refine ix0 rfl ?_) | (refine ix1 rfl ?_) | (refine ix2 rfl ?_) | (refine ix3 rfl ?_) | (apply ixj; omega) | (refine ixn ?_ ?_; omega) | (refine ixs0 rfl ?_) | (refine ixs1 rfl ?_) | (refine ixs_j ?_ ?_; omega) | (refine ixs_n ?_ ?_; omega) | (apply ld_o; exact rfl) | (apply ldN_a; exact rfl) | (apply ldN_o; (exact rfl); exact rfl) | (apply st_o; (exact rfl); exact rfl) | (apply stN_o; (exact rfl); (exact rfl); exact rfl) | (refine new_i (fun bk hbk => ?_)) | (apply when_dE; (exact rfl); (exact rfl); all_goals intro hc) | (apply when_dF; (exact rfl); (exact rfl); all_goals intro hc) | (apply when_nE; (exact rfl); (exact rfl); all_goals intro hc) | (apply when_nF; (exact rfl); (exact rfl); all_goals intro hc) | (apply br_dE; (exact rfl); all_goals intro hc) | (apply br_nE; (exact rfl); all_goals intro hc) | (refine mm_min ?_) | (refine mm_max ?_) | (refine rem_i ?_ ?_; omega) | (refine SelN.mk ?_) | (refine cut_n ?_) | (refine Both.mk ?_ ?_) | (exact True.intro))
      exact ⟨i + 1, ⟨by omega, by rw [all_take hx, hI, hx1]; rfl⟩, by omega, (by repeat' (first | exact True.intro | refine And.intro ?_ ?_ | exact rfl | exact vi (by omega) | (dsimp only; exact rfl) | (dsimp only; exact vi (by omega)))), (by first | exact ent_i | (repeat (first | exact Ent.refl | exact Ent.left | refine Ent.cons ?_ | refine Ent.app ?_)))⟩
    · have hx1 : inW x = false := by unfold inW; exact decide_eq_false hw
      repeat' ((try (conv => whnf)); first | (refine when_ye ?_ ?_; exact rfl) | (refine when_ne ?_ ?_; exact rfl) | (refine br_te ?_ ?_; exact rfl) | (refine br_fe ?_ ?_; exact rfl) | (apply br_pyE; (exact rfl); omega) | (apply br_pnE; (exact rfl); omega) | (apply when_pyE; (exact rfl); omega) | (apply when_pnE; (exact rfl); omega) | (apply br_npyE; (exact rfl); omega) | (apply br_npnE; (exact rfl); omega) | (apply when_npyE; (exact rfl); omega) | (apply when_npnE; (exact rfl); omega) | (refine br_pyE ?_ hlt' ?_; exact rfl) | (refine br_pnE ?_ hlt' ?_; exact rfl) | (refine when_pyE ?_ hlt' ?_; exact rfl) | (refine when_pnE ?_ hlt' ?_; exact rfl) | (refine br_npyE ?_ hlt' ?_; exact rfl) | (refine br_npnE ?_ hlt' ?_; exact rfl) | (refine when_npyE ?_ hlt' ?_; exact rfl) | (refine when_npnE ?_ hlt' ?_; exact rfl) | ((with_reducible show Ld _ _ _ _); first | (refine ldE0 hR hx rfl ?_) | (refine ldEk hR hx rfl ?_) | (refine ldE1 hR hx rfl ?_)) | ((with_reducible show IxS _ _ _ _ _); first | ((refine ixE hR hx ?_ ?_; (first | rfl | omega)))) | ((with_reducible show LdN _ _ _ _ _); first | (refine ldNEi hR hx rfl ?_)) | (refine ari ?_ ?_; omega) | (refine aru ?_ ?_; omega) | (apply sel; exact rfl) | (refine ix0 rfl ?_) | (refine ix1 rfl ?_) | (refine ix2 rfl ?_) | (refine ix3 rfl ?_) | (apply ixj; omega) | (refine ixn ?_ ?_; omega) | (refine ixs0 rfl ?_) | (refine ixs1 rfl ?_) | (refine ixs_j ?_ ?_; omega) | (refine ixs_n ?_ ?_; omega) | (apply ld_o; exact rfl) | (apply ldN_a; exact rfl) | (apply ldN_o; (exact rfl); exact rfl) | (apply st_o; (exact rfl); exact rfl) | (apply stN_o; (exact rfl); (exact rfl); exact rfl) | (refine new_i (fun bk hbk => ?_)) | (apply when_dE; (exact rfl); (exact rfl); all_goals intro hc) | (apply when_dF; (exact rfl); (exact rfl); all_goals intro hc) | (apply when_nE; (exact rfl); (exact rfl); all_goals intro hc) | (apply when_nF; (exact rfl); (exact rfl); all_goals intro hc) | (apply br_dE; (exact rfl); all_goals intro hc) | (apply br_nE; (exact rfl); all_goals intro hc) | (refine mm_min ?_) | (refine mm_max ?_) | (refine rem_i ?_ ?_; omega) | (refine SelN.mk ?_) | (refine cut_n ?_) | (refine Both.mk ?_ ?_) | (exact True.intro))
      all_goals first | (exfalso; omega) | exact ⟨ret1 (vb (all_false hx hx1).symm), (by first | exact ent_i | (repeat (first | exact Ent.refl | exact Ent.left | refine Ent.cons ?_ | refine Ent.app ?_)))⟩
  · have hi2 : i = l.length := by omega
    subst hi2
    rw [List.take_length] at hI
    have hlt' : ¬ (l.length : Int) < l.length := by omega
    repeat' ((try (conv => whnf)); first | (refine when_ye ?_ ?_; exact rfl) | (refine when_ne ?_ ?_; exact rfl) | (refine br_te ?_ ?_; exact rfl) | (refine br_fe ?_ ?_; exact rfl) | (apply br_pyE; (exact rfl); omega) | (apply br_pnE; (exact rfl); omega) | (apply when_pyE; (exact rfl); omega) | (apply when_pnE; (exact rfl); omega) | (apply br_npyE; (exact rfl); omega) | (apply br_npnE; (exact rfl); omega) | (apply when_npyE; (exact rfl); omega) | (apply when_npnE; (exact rfl); omega) | (refine br_pyE ?_ hlt' ?_; exact rfl) | (refine br_pnE ?_ hlt' ?_; exact rfl) | (refine when_pyE ?_ hlt' ?_; exact rfl) | (refine when_pnE ?_ hlt' ?_; exact rfl) | (refine br_npyE ?_ hlt' ?_; exact rfl) | (refine br_npnE ?_ hlt' ?_; exact rfl) | (refine when_npyE ?_ hlt' ?_; exact rfl) | (refine when_npnE ?_ hlt' ?_; exact rfl) | (refine ari ?_ ?_; omega) | (refine aru ?_ ?_; omega) | (apply sel; exact rfl) | (refine ix0 rfl ?_) | (refine ix1 rfl ?_) | (refine ix2 rfl ?_) | (refine ix3 rfl ?_) | (apply ixj; omega) | (refine ixn ?_ ?_; omega) | (refine ixs0 rfl ?_) | (refine ixs1 rfl ?_) | (refine ixs_j ?_ ?_; omega) | (refine ixs_n ?_ ?_; omega) | (apply ld_o; exact rfl) | (apply ldN_a; exact rfl) | (apply ldN_o; (exact rfl); exact rfl) | (apply st_o; (exact rfl); exact rfl) | (apply stN_o; (exact rfl); (exact rfl); exact rfl) | (refine new_i (fun bk hbk => ?_)) | (apply when_dE; (exact rfl); (exact rfl); all_goals intro hc) | (apply when_dF; (exact rfl); (exact rfl); all_goals intro hc) | (apply when_nE; (exact rfl); (exact rfl); all_goals intro hc) | (apply when_nF; (exact rfl); (exact rfl); all_goals intro hc) | (apply br_dE; (exact rfl); all_goals intro hc) | (apply br_nE; (exact rfl); all_goals intro hc) | (refine mm_min ?_) | (refine mm_max ?_) | (refine rem_i ?_ ?_; omega) | (refine SelN.mk ?_) | (refine cut_n ?_) | (refine Both.mk ?_ ?_) | (exact True.intro))
    exact ⟨ret1 (vb hI.symm), (by first | exact ent_i | (repeat (first | exact Ent.refl | exact Ent.left | refine Ent.cons ?_ | refine Ent.app ?_)))⟩
/-- The first element of which a predicate holds, or -1. -/
def ifx (p : Int → Bool) (l : List Int) : Int := match l.findIdx? p with
  | some i => i
  | none => -1
theorem sp_indexf {g : FuncId} {p : Int → Bool} (hg : okF Tryd.prog g = true) (hp : ∀ own x, Pure Tryd.prog W0 g [.int .i64 x] own (.bool (p x))) (hR : RdE encI 1 W0 own a l) (hl : l.length ≤ 9223372036854775807) :
    Pure Tryd.prog W0 81 [.slice a l.length cap, .func (.func g) #[] #[]] own (.int .i64 (ifx p l)) := by
  refine pure_of (spec_of mixed low_slices_IndexFunc_int (by simp [ir_slices_IndexFunc_int]) ?_)
  repeat' ((try (conv => whnf)); first | (refine when_ye ?_ ?_; exact rfl) | (refine when_ne ?_ ?_; exact rfl) | (refine br_te ?_ ?_; exact rfl) | (refine br_fe ?_ ?_; exact rfl) | (apply br_pyE; (exact rfl); omega) | (apply br_pnE; (exact rfl); omega) | (apply when_pyE; (exact rfl); omega) | (apply when_pnE; (exact rfl); omega) | (apply br_npyE; (exact rfl); omega) | (apply br_npnE; (exact rfl); omega) | (apply when_npyE; (exact rfl); omega) | (apply when_npnE; (exact rfl); omega) | (refine ari ?_ ?_; omega) | (refine aru ?_ ?_; omega) | (apply sel; exact rfl) | (refine ix0 rfl ?_) | (refine ix1 rfl ?_) | (refine ix2 rfl ?_) | (refine ix3 rfl ?_) | (apply ixj; omega) | (refine ixn ?_ ?_; omega) | (refine ixs0 rfl ?_) | (refine ixs1 rfl ?_) | (refine ixs_j ?_ ?_; omega) | (refine ixs_n ?_ ?_; omega) | (apply ld_o; exact rfl) | (apply ldN_a; exact rfl) | (apply ldN_o; (exact rfl); exact rfl) | (apply st_o; (exact rfl); exact rfl) | (apply stN_o; (exact rfl); (exact rfl); exact rfl) | (refine new_i (fun bk hbk => ?_)) | (apply when_dE; (exact rfl); (exact rfl); all_goals intro hc) | (apply when_dF; (exact rfl); (exact rfl); all_goals intro hc) | (apply when_nE; (exact rfl); (exact rfl); all_goals intro hc) | (apply when_nF; (exact rfl); (exact rfl); all_goals intro hc) | (apply br_dE; (exact rfl); all_goals intro hc) | (apply br_nE; (exact rfl); all_goals intro hc) | (refine mm_min ?_) | (refine mm_max ?_) | (refine rem_i ?_ ?_; omega) | (refine SelN.mk ?_) | (refine cut_n ?_) | (refine Both.mk ?_ ?_) | (exact True.intro))
  refine loop_c (σ := Nat) (fun i => [(8, .int .i64 i)]) (fun i => i ≤ l.length ∧ ∀ j x, j < i → l[j]? = some x → p x = false) (fun i => l.length - i) 0 ⟨by omega, fun j x h => by omega⟩ (by repeat' (first | exact True.intro | refine And.intro ?_ ?_ | exact rfl | exact vi (by omega) | (dsimp only; exact rfl) | (dsimp only; exact vi (by omega)))) rfl ?_
  rintro i junk ⟨hi, hI⟩
  by_cases hlt : i < l.length
  · obtain ⟨x, hx⟩ : ∃ x, l[i]? = some x := ⟨_, List.getElem?_eq_getElem hlt⟩
    have hlt' : (i : Int) < l.length := by omega
    have hpx := hp own x
    cases hb : p x with
    | true =>
      rw [hb] at hpx
      repeat' ((try (conv => whnf)); first | (refine when_ye ?_ ?_; exact rfl) | (refine when_ne ?_ ?_; exact rfl) | (refine br_te ?_ ?_; exact rfl) | (refine br_fe ?_ ?_; exact rfl) | (apply br_pyE; (exact rfl); omega) | (apply br_pnE; (exact rfl); omega) | (apply when_pyE; (exact rfl); omega) | (apply when_pnE; (exact rfl); omega) | (apply br_npyE; (exact rfl); omega) | (apply br_npnE; (exact rfl); omega) | (apply when_npyE; (exact rfl); omega) | (apply when_npnE; (exact rfl); omega) | (refine br_pyE ?_ hlt' ?_; exact rfl) | (refine br_pnE ?_ hlt' ?_; exact rfl) | (refine when_pyE ?_ hlt' ?_; exact rfl) | (refine when_pnE ?_ hlt' ?_; exact rfl) | (refine br_npyE ?_ hlt' ?_; exact rfl) | (refine br_npnE ?_ hlt' ?_; exact rfl) | (refine when_npyE ?_ hlt' ?_; exact rfl) | (refine when_npnE ?_ hlt' ?_; exact rfl) | (refine ⟨hg, call_p hpx ?_⟩) | ((with_reducible show Ld _ _ _ _); first | (refine ldE0 hR hx rfl ?_) | (refine ldEk hR hx rfl ?_) | (refine ldE1 hR hx rfl ?_)) | ((with_reducible show IxS _ _ _ _ _); first | ((refine ixE hR hx ?_ ?_; (first | rfl | omega)))) | ((with_reducible show LdN _ _ _ _ _); first | (refine ldNEi hR hx rfl ?_)) | (refine ari ?_ ?_; omega) | (refine aru ?_ ?_; omega) | (apply sel; exact rfl) | (refine ix0 rfl ?_) | (refine ix1 rfl ?_) | (refine ix2 rfl ?_) | (refine ix3 rfl ?_) | (apply ixj; omega) | (refine ixn ?_ ?_; omega) | (refine ixs0 rfl ?_) | (refine ixs1 rfl ?_) | (refine ixs_j ?_ ?_; omega) | (refine ixs_n ?_ ?_; omega) | (apply ld_o; exact rfl) | (apply ldN_a; exact rfl) | (apply ldN_o; (exact rfl); exact rfl) | (apply st_o; (exact rfl); exact rfl) | (apply stN_o; (exact rfl); (exact rfl); exact rfl) | (refine new_i (fun bk hbk => ?_)) | (apply when_dE; (exact rfl); (exact rfl); all_goals intro hc) | (apply when_dF; (exact rfl); (exact rfl); all_goals intro hc) | (apply when_nE; (exact rfl); (exact rfl); all_goals intro hc) | (apply when_nF; (exact rfl); (exact rfl); all_goals intro hc) | (apply br_dE; (exact rfl); all_goals intro hc) | (apply br_nE; (exact rfl); all_goals intro hc) | (refine mm_min ?_) | (refine mm_max ?_) | (refine rem_i ?_ ?_; omega) | (refine SelN.mk ?_) | (refine cut_n ?_) | (refine Both.mk ?_ ?_) | (exact True.intro))
      refine ⟨ret1 (vi ?_), (by first | exact ent_i | (repeat (first | exact Ent.refl | exact Ent.left | refine Ent.cons ?_ | refine Ent.app ?_)))⟩
      have : l.findIdx? p = some i := by
        rw [List.findIdx?_eq_some_iff_getElem]
        have hx2 := (List.getElem?_eq_some_iff.1 hx).2
        refine ⟨hlt, by rw [hx2]; exact hb, fun j hj => ?_⟩
        have := hI j (l[j]'(by omega)) hj (List.getElem?_eq_getElem (by omega))
        simp [this]
      unfold ifx; rw [this]
    | false =>
      rw [hb] at hpx
      repeat' ((try (conv => whnf)); first | (refine when_ye ?_ ?_; exact rfl) | (refine when_ne ?_ ?_; exact rfl) | (refine br_te ?_ ?_; exact rfl) | (refine br_fe ?_ ?_; exact rfl) | (apply br_pyE; (exact rfl); omega) | (apply br_pnE; (exact rfl); omega) | (apply when_pyE; (exact rfl); omega) | (apply when_pnE; (exact rfl); omega) | (apply br_npyE; (exact rfl); omega) | (apply br_npnE; (exact rfl); omega) | (apply when_npyE; (exact rfl); omega) | (apply when_npnE; (exact rfl); omega) | (refine br_pyE ?_ hlt' ?_; exact rfl) | (refine br_pnE ?_ hlt' ?_; exact rfl) | (refine when_pyE ?_ hlt' ?_; exact rfl) | (refine when_pnE ?_ hlt' ?_; exact rfl) | (refine br_npyE ?_ hlt' ?_; exact rfl) | (refine br_npnE ?_ hlt' ?_; exact rfl) | (refine when_npyE ?_ hlt' ?_; exact rfl) | (refine when_npnE ?_ hlt' ?_; exact rfl) | (refine ⟨hg, call_p hpx ?_⟩) | ((with_reducible show Ld _ _ _ _); first | (refine ldE0 hR hx rfl ?_) | (refine ldEk hR hx rfl ?_) | (refine ldE1 hR hx rfl ?_)) | ((with_reducible show IxS _ _ _ _ _); first | ((refine ixE hR hx ?_ ?_; (first | rfl | omega)))) | ((with_reducible show LdN _ _ _ _ _); first | (refine ldNEi hR hx rfl ?_)) | (refine ari ?_ ?_; omega) | (refine aru ?_ ?_; omega) | (apply sel; exact rfl) | (refine ix0 rfl ?_) | (refine ix1 rfl ?_) | (refine ix2 rfl ?_) | (refine ix3 rfl ?_) | (apply ixj; omega) | (refine ixn ?_ ?_; omega) | (refine ixs0 rfl ?_) | (refine ixs1 rfl ?_) | (refine ixs_j ?_ ?_; omega) | (refine ixs_n ?_ ?_; omega) | (apply ld_o; exact rfl) | (apply ldN_a; exact rfl) | (apply ldN_o; (exact rfl); exact rfl) | (apply st_o; (exact rfl); exact rfl) | (apply stN_o; (exact rfl); (exact rfl); exact rfl) | (refine new_i (fun bk hbk => ?_)) | (apply when_dE; (exact rfl); (exact rfl); all_goals intro hc) | (apply when_dF; (exact rfl); (exact rfl); all_goals intro hc) | (apply when_nE; (exact rfl); (exact rfl); all_goals intro hc) | (apply when_nF; (exact rfl); (exact rfl); all_goals intro hc) | (apply br_dE; (exact rfl); all_goals intro hc) | (apply br_nE; (exact rfl); all_goals intro hc) | (refine mm_min ?_) | (refine mm_max ?_) | (refine rem_i ?_ ?_; omega) | (refine SelN.mk ?_) | (refine cut_n ?_) | (refine Both.mk ?_ ?_) | (exact True.intro))
      refine ⟨i + 1, ⟨by omega, fun j y hj hy => ?_⟩, by omega, (by repeat' (first | exact True.intro | refine And.intro ?_ ?_ | exact rfl | exact vi (by omega) | (dsimp only; exact rfl) | (dsimp only; exact vi (by omega)))), (by first | exact ent_i | (repeat (first | exact Ent.refl | exact Ent.left | refine Ent.cons ?_ | refine Ent.app ?_)))⟩
      by_cases hji : j = i
      · subst hji
        rw [hx] at hy
        obtain rfl := Option.some.inj hy
        exact hb
      · exact hI j y (by omega) hy
  · have hlt' : ¬ (i : Int) < l.length := by omega
    repeat' ((try (conv => whnf)); first | (refine when_ye ?_ ?_; exact rfl) | (refine when_ne ?_ ?_; exact rfl) | (refine br_te ?_ ?_; exact rfl) | (refine br_fe ?_ ?_; exact rfl) | (apply br_pyE; (exact rfl); omega) | (apply br_pnE; (exact rfl); omega) | (apply when_pyE; (exact rfl); omega) | (apply when_pnE; (exact rfl); omega) | (apply br_npyE; (exact rfl); omega) | (apply br_npnE; (exact rfl); omega) | (apply when_npyE; (exact rfl); omega) | (apply when_npnE; (exact rfl); omega) | (refine br_pyE ?_ hlt' ?_; exact rfl) | (refine br_pnE ?_ hlt' ?_; exact rfl) | (refine when_pyE ?_ hlt' ?_; exact rfl) | (refine when_pnE ?_ hlt' ?_; exact rfl) | (refine br_npyE ?_ hlt' ?_; exact rfl) | (refine br_npnE ?_ hlt' ?_; exact rfl) | (refine when_npyE ?_ hlt' ?_; exact rfl) | (refine when_npnE ?_ hlt' ?_; exact rfl) | (refine ari ?_ ?_; omega) | (refine aru ?_ ?_; omega) | (apply sel; exact rfl) | (refine ix0 rfl ?_) | (refine ix1 rfl ?_) | (refine ix2 rfl ?_) | (refine ix3 rfl ?_) | (apply ixj; omega) | (refine ixn ?_ ?_; omega) | (refine ixs0 rfl ?_) | (refine ixs1 rfl ?_) | (refine ixs_j ?_ ?_; omega) | (refine ixs_n ?_ ?_; omega) | (apply ld_o; exact rfl) | (apply ldN_a; exact rfl) | (apply ldN_o; (exact rfl); exact rfl) | (apply st_o; (exact rfl); exact rfl) | (apply stN_o; (exact rfl); (exact rfl); exact rfl) | (refine new_i (fun bk hbk => ?_)) | (apply when_dE; (exact rfl); (exact rfl); all_goals intro hc) | (apply when_dF; (exact rfl); (exact rfl); all_goals intro hc) | (apply when_nE; (exact rfl); (exact rfl); all_goals intro hc) | (apply when_nF; (exact rfl); (exact rfl); all_goals intro hc) | (apply br_dE; (exact rfl); all_goals intro hc) | (apply br_nE; (exact rfl); all_goals intro hc) | (refine mm_min ?_) | (refine mm_max ?_) | (refine rem_i ?_ ?_; omega) | (refine SelN.mk ?_) | (refine cut_n ?_) | (refine Both.mk ?_ ?_) | (exact True.intro))
    refine ⟨ret1 (vi ?_), (by first | exact ent_i | (repeat (first | exact Ent.refl | exact Ent.left | refine Ent.cons ?_ | refine Ent.app ?_)))⟩
    have : l.findIdx? p = none := by
      rw [List.findIdx?_eq_none_iff]
      intro x hx
      obtain ⟨j, hj⟩ := List.getElem?_of_mem hx
      have := (List.getElem?_eq_some_iff.1 hj).1
      exact hI j x (by omega) hj
    unfold ifx; rw [this]
theorem ifx_any (p : Int → Bool) (l : List Int) : decide (0 ≤ ifx p l) = l.any p := by
  unfold ifx
  cases h : l.findIdx? p with
  | none =>
    rw [List.findIdx?_eq_none_iff] at h
    have : l.any p = false := by rw [List.any_eq_false]; intro x hx; simp [h x hx]
    rw [this]; rfl
  | some i =>
    rw [List.findIdx?_eq_some_iff_getElem] at h
    obtain ⟨hi, hp, _⟩ := h
    have : l.any p = true := List.any_eq_true.2 ⟨l[i], List.getElem_mem hi, hp⟩
    rw [this]; simp
theorem sp_containsf {g : FuncId} {p : Int → Bool} (hg : okF Tryd.prog g = true) (hp : ∀ own x, Pure Tryd.prog W0 g [.int .i64 x] own (.bool (p x))) (hR : RdE encI 1 W0 own a l) (hl : l.length ≤ 9223372036854775807) :
    Pure Tryd.prog W0 72 [.slice a l.length cap, .func (.func g) #[] #[]] own (.bool (l.any p)) := by
  refine pure_of (spec_of mixed low_slices_ContainsFunc_int (by simp [ir_slices_ContainsFunc_int]) ?_)
  have h := sp_indexf (cap := cap) hg hp hR hl
  repeat' ((try (conv => whnf)); first | (refine when_ye ?_ ?_; exact rfl) | (refine when_ne ?_ ?_; exact rfl) | (refine br_te ?_ ?_; exact rfl) | (refine br_fe ?_ ?_; exact rfl) | (apply br_pyE; (exact rfl); omega) | (apply br_pnE; (exact rfl); omega) | (apply when_pyE; (exact rfl); omega) | (apply when_pnE; (exact rfl); omega) | (apply br_npyE; (exact rfl); omega) | (apply br_npnE; (exact rfl); omega) | (apply when_npyE; (exact rfl); omega) | (apply when_npnE; (exact rfl); omega) | ((with_reducible show CallT _ _ _ _ _ _); first | ((refine call_pe (h) ?_ ?_ ?_; (exact rfl); exact rfl))) | (refine ari ?_ ?_; omega) | (refine aru ?_ ?_; omega) | (apply sel; exact rfl) | (refine ix0 rfl ?_) | (refine ix1 rfl ?_) | (refine ix2 rfl ?_) | (refine ix3 rfl ?_) | (apply ixj; omega) | (refine ixn ?_ ?_; omega) | (refine ixs0 rfl ?_) | (refine ixs1 rfl ?_) | (refine ixs_j ?_ ?_; omega) | (refine ixs_n ?_ ?_; omega) | (apply ld_o; exact rfl) | (apply ldN_a; exact rfl) | (apply ldN_o; (exact rfl); exact rfl) | (apply st_o; (exact rfl); exact rfl) | (apply stN_o; (exact rfl); (exact rfl); exact rfl) | (refine new_i (fun bk hbk => ?_)) | (apply when_dE; (exact rfl); (exact rfl); all_goals intro hc) | (apply when_dF; (exact rfl); (exact rfl); all_goals intro hc) | (apply when_nE; (exact rfl); (exact rfl); all_goals intro hc) | (apply when_nF; (exact rfl); (exact rfl); all_goals intro hc) | (apply br_dE; (exact rfl); all_goals intro hc) | (apply br_nE; (exact rfl); all_goals intro hc) | (refine mm_min ?_) | (refine mm_max ?_) | (refine rem_i ?_ ?_; omega) | (refine SelN.mk ?_) | (refine cut_n ?_) | (refine Both.mk ?_ ?_) | (exact True.intro))
  exact ⟨ret1 (vb (ifx_any p l)), (by first | exact ent_i | (repeat (first | exact Ent.refl | exact Ent.left | refine Ent.cons ?_ | refine Ent.app ?_)))⟩
end
/-- The lists of an event where they lie. -/
structure EvR (W0 : World) (own : Own) (e : EH) : Prop where
  r : RdE encI 1 W0 own e.ra e.rl
  w : RdE encI 1 W0 own e.wa e.wl
  rb : e.rl.length ≤ 17592186043904
  wb : e.wl.length ≤ 17592186043904
theorem EvR.rn {W0 : World} {own : Own} {e : EH} (h : EvR W0 own e) : e.rl.length ≤ 9223372036854775807 := Nat.le_trans h.rb (by decide)
theorem EvR.wn {W0 : World} {own : Own} {e : EH} (h : EvR W0 own e) : e.wl.length ≤ 9223372036854775807 := Nat.le_trans h.wb (by decide)
theorem EvR.up {W0 : World} {own own' : Own} {e : EH} (h : EvR W0 own' e) [m : EntC own own'] : EvR W0 own e := ⟨h.r.up, h.w.up, h.rb, h.wb⟩
end Go.Proofs.YtofjnldidkiihaaDoor
namespace Go.Proofs.YtofjnldidkiihaaDoor
open Go
set_option maxRecDepth 10000
set_option maxHeartbeats 4000000
def rfitsM (n : Int) (first : Bool) (pa last : Int) (e : EH) : Bool :=
  decide (0 ≤ e.t ∧ e.t < n ∧ 1 ≤ e.k ∧ e.k ≤ 4 ∧ (first = true ∨ pa ≤ e.ev) ∧ 0 ≤ e.w ∧ e.w < 64) && e.rl.all inW && e.wl.all inW && (if e.k = 4 then decide (last = 3) else decide (e.rl.length = 0 ∧ e.wl.length = 0))
section
variable {W0 : World} {own : Own} {a : Option Addr} {cap : Nat}
theorem sp_rfits {e : EH} (hE : EvR W0 own e) (n : Int) (first : Bool) (pa last : Int) :
    Pure Tryd.prog W0 40 [e.v, .int .i64 n, .bool first, .int .i64 pa, .int .i64 last] own (.bool (rfitsM n first pa last e)) := by
  refine pure_of (spec_of mixed low_ref24_Fits (by simp [ir_ref24_Fits]) ?_)
  have hr : ∀ own' [EntC own' own], Pure Tryd.prog W0 60 [.slice e.ra e.rl.length e.rc] own' (.bool (e.rl.all inW)) := fun own' h => sp_rwords (hE.r.ent (h.h W0)) hE.rn
  have hw : ∀ own' [EntC own' own], Pure Tryd.prog W0 60 [.slice e.wa e.wl.length e.wc] own' (.bool (e.wl.all inW)) := fun own' h => sp_rwords (hE.w.ent (h.h W0)) hE.wn
  unfold rfitsM
  clear hE
  obtain ⟨ev, t, k, w, ra, rl, rc, wa, wl, wc⟩ := e
  dsimp only [EH.v] at *
  generalize rl.all inW = zr at *
  generalize wl.all inW = zw at *
  generalize rl.length = lr at *
  generalize wl.length = lw at *
  by_cases h1 : 0 ≤ t ∧ t < n ∧ 1 ≤ k ∧ k ≤ 4 ∧ (first = true ∨ pa ≤ ev) ∧ 0 ≤ w ∧ w < 64
  · rw [decide_eq_true h1]
    obtain ⟨a1, a2, a3, a4, a5, a6, a7⟩ := h1
    cases first <;> cases zr <;> cases zw
    all_goals (try simp only [Bool.false_eq_true, false_or] at a5)
    all_goals
      repeat' ((try (conv => whnf)); first | (refine when_ye ?_ ?_; exact rfl) | (refine when_ne ?_ ?_; exact rfl) | (refine br_te ?_ ?_; exact rfl) | (refine br_fe ?_ ?_; exact rfl) | (apply br_pyE; (exact rfl); omega) | (apply br_pnE; (exact rfl); omega) | (apply when_pyE; (exact rfl); omega) | (apply when_pnE; (exact rfl); omega) | (apply br_npyE; (exact rfl); omega) | (apply br_npnE; (exact rfl); omega) | (apply when_npyE; (exact rfl); omega) | (apply when_npnE; (exact rfl); omega) | ((with_reducible show CallT _ _ _ _ _ _); first | ((refine call_pe (hr _) ?_ ?_ ?_; (exact rfl); exact rfl)) | ((refine call_pe (hw _) ?_ ?_ ?_; (exact rfl); exact rfl))) | (refine ari ?_ ?_; omega) | (refine aru ?_ ?_; omega) | (apply sel; exact rfl) | (refine ix0 rfl ?_) | (refine ix1 rfl ?_) | (refine ix2 rfl ?_) | (refine ix3 rfl ?_) | (apply ixj; omega) | (refine ixn ?_ ?_; omega) | (refine ixs0 rfl ?_) | (refine ixs1 rfl ?_) | (refine ixs_j ?_ ?_; omega) | (refine ixs_n ?_ ?_; omega) | (apply ld_o; exact rfl) | (apply ldN_a; exact rfl) | (apply ldN_o; (exact rfl); exact rfl) | (apply st_o; (exact rfl); exact rfl) | (apply stN_o; (exact rfl); (exact rfl); exact rfl) | (refine new_i (fun bk hbk => ?_)) | (apply when_dE; (exact rfl); (exact rfl); all_goals intro hc) | (apply when_dF; (exact rfl); (exact rfl); all_goals intro hc) | (apply when_nE; (exact rfl); (exact rfl); all_goals intro hc) | (apply when_nF; (exact rfl); (exact rfl); all_goals intro hc) | (apply br_dE; (exact rfl); all_goals intro hc) | (apply br_nE; (exact rfl); all_goals intro hc) | (refine mm_min ?_) | (refine mm_max ?_) | (refine rem_i ?_ ?_; omega) | (refine SelN.mk ?_) | (refine cut_n ?_) | (refine Both.mk ?_ ?_) | (exact True.intro))
      all_goals first | exact ⟨rfl, (by first | exact ent_i | (repeat (first | exact Ent.refl | exact Ent.left | refine Ent.cons ?_ | refine Ent.app ?_)))⟩ | (refine ⟨ret1 (vb ?_), (by first | exact ent_i | (repeat (first | exact Ent.refl | exact Ent.left | refine Ent.cons ?_ | refine Ent.app ?_)))⟩; simp_all; done) | (refine ⟨ret1 (vb ?_), (by first | exact ent_i | (repeat (first | exact Ent.refl | exact Ent.left | refine Ent.cons ?_ | refine Ent.app ?_)))⟩; simp_all; omega)
  · rw [decide_eq_false h1]
    cases first <;> cases zr <;> cases zw
    all_goals (try simp only [Bool.false_eq_true, false_or, true_or, true_and] at h1)
    all_goals
      repeat' ((try (conv => whnf)); first | (refine when_ye ?_ ?_; exact rfl) | (refine when_ne ?_ ?_; exact rfl) | (refine br_te ?_ ?_; exact rfl) | (refine br_fe ?_ ?_; exact rfl) | (apply br_pyE; (exact rfl); omega) | (apply br_pnE; (exact rfl); omega) | (apply when_pyE; (exact rfl); omega) | (apply when_pnE; (exact rfl); omega) | (apply br_npyE; (exact rfl); omega) | (apply br_npnE; (exact rfl); omega) | (apply when_npyE; (exact rfl); omega) | (apply when_npnE; (exact rfl); omega) | ((with_reducible show CallT _ _ _ _ _ _); first | ((refine call_pe (hr _) ?_ ?_ ?_; (exact rfl); exact rfl)) | ((refine call_pe (hw _) ?_ ?_ ?_; (exact rfl); exact rfl))) | (refine ari ?_ ?_; omega) | (refine aru ?_ ?_; omega) | (apply sel; exact rfl) | (refine ix0 rfl ?_) | (refine ix1 rfl ?_) | (refine ix2 rfl ?_) | (refine ix3 rfl ?_) | (apply ixj; omega) | (refine ixn ?_ ?_; omega) | (refine ixs0 rfl ?_) | (refine ixs1 rfl ?_) | (refine ixs_j ?_ ?_; omega) | (refine ixs_n ?_ ?_; omega) | (apply ld_o; exact rfl) | (apply ldN_a; exact rfl) | (apply ldN_o; (exact rfl); exact rfl) | (apply st_o; (exact rfl); exact rfl) | (apply stN_o; (exact rfl); (exact rfl); exact rfl) | (refine new_i (fun bk hbk => ?_)) | (apply when_dE; (exact rfl); (exact rfl); all_goals intro hc) | (apply when_dF; (exact rfl); (exact rfl); all_goals intro hc) | (apply when_nE; (exact rfl); (exact rfl); all_goals intro hc) | (apply when_nF; (exact rfl); (exact rfl); all_goals intro hc) | (apply br_dE; (exact rfl); all_goals intro hc) | (apply br_nE; (exact rfl); all_goals intro hc) | (refine mm_min ?_) | (refine mm_max ?_) | (refine rem_i ?_ ?_; omega) | (refine SelN.mk ?_) | (refine cut_n ?_) | (refine Both.mk ?_ ?_) | (exact True.intro))
      all_goals first | exact ⟨rfl, (by first | exact ent_i | (repeat (first | exact Ent.refl | exact Ent.left | refine Ent.cons ?_ | refine Ent.app ?_)))⟩ | (exfalso; omega)
end
end Go.Proofs.YtofjnldidkiihaaDoor
namespace Go.Proofs.YtofjnldidkiihaaDoor
open Go
set_option maxRecDepth 10000
set_option maxHeartbeats 4000000
theorem drop_at {α : Type} {l : List α} {k : Nat} {x : α} (hx : l[k]? = some x) : l.drop k = x :: l.drop (k + 1) := by
  obtain ⟨hk, he⟩ := List.getElem?_eq_some_iff.1 hx
  rw [List.drop_eq_getElem_cons hk, he]
/-- Where the event ahead lies in time. -/
def paAt (l : List EH) (i : Nat) : Int := if i = 0 then 0 else (at' l (i - 1)).ev
theorem paAt_succ {l : List EH} {i : Nat} {e : EH} (h : l[i]? = some e) : paAt l (i + 1) = e.ev := by
  unfold paAt at'
  rw [if_neg (by omega), Nat.add_sub_cancel, List.getD_eq_getElem?_getD, h]; rfl
theorem rfits_eq {n : Nat} {i : Nat} {pa kd : Int} {e : EH} : rfitsM n (decide ((i : Int) = 0)) pa kd e = fitsM n (i == 0) pa kd e := by
  unfold rfitsM fitsM
  have h1 : decide ((i : Int) = 0) = (i == 0) := by rw [Bool.eq_iff_iff]; simp
  have h2 : decide (e.rl.length = 0 ∧ e.wl.length = 0) = decide (e.rl = [] ∧ e.wl = []) := by simp [List.length_eq_zero_iff]
  rw [h1, h2]
theorem fits_rng {n : Nat} {f : Bool} {pa kd : Int} {e : EH} (h : fitsM n f pa kd e = true) : 0 ≤ e.t ∧ e.t < n := by
  unfold fitsM at h
  simp only [Bool.and_eq_true, decide_eq_true_eq] at h
  exact ⟨h.1.1.1.1, h.1.1.1.2.1⟩
theorem fits_out {n : Nat} {f : Bool} {pa kd : Int} {e : EH} (h : ¬(0 ≤ e.t ∧ e.t < n)) : fitsM n f pa kd e = false := by
  cases hb : fitsM n f pa kd e with
  | false => rfl
  | true => exact absurd (fits_rng hb) h
abbrev tup2 (r : Int × Int) : Value := .tuple #[.int .i64 r.1, .int .i64 r.2]
section
variable {W0 : World} {own : Own} {a : Option Addr} {cap : Nat} {l : List EH}
theorem sp_rcheck (hR : RdE EH.enc 6 W0 own a l) (hE : ∀ e ∈ l, EvR W0 own e) (n : Int) :
    Pure Tryd.prog W0 21 [.slice a l.length cap, .int .i64 n] own (tup2 (chkE l n)) := by
  refine pure_of (spec_of mixed low_ref24_Check (by simp [ir_ref24_Check]) ?_)
  unfold chkE
  by_cases hn : n < 1 ∨ 16 < n
  · rw [if_pos hn]
    repeat' ((try (conv => whnf)); first | (refine when_ye ?_ ?_; exact rfl) | (refine when_ne ?_ ?_; exact rfl) | (refine br_te ?_ ?_; exact rfl) | (refine br_fe ?_ ?_; exact rfl) | (apply br_pyE; (exact rfl); omega) | (apply br_pnE; (exact rfl); omega) | (apply when_pyE; (exact rfl); omega) | (apply when_pnE; (exact rfl); omega) | (apply br_npyE; (exact rfl); omega) | (apply br_npnE; (exact rfl); omega) | (apply when_npyE; (exact rfl); omega) | (apply when_npnE; (exact rfl); omega) | (refine ari ?_ ?_; omega) | (refine aru ?_ ?_; omega) | (apply sel; exact rfl) | (refine ix0 rfl ?_) | (refine ix1 rfl ?_) | (refine ix2 rfl ?_) | (refine ix3 rfl ?_) | (apply ixj; omega) | (refine ixn ?_ ?_; omega) | (refine ixs0 rfl ?_) | (refine ixs1 rfl ?_) | (refine ixs_j ?_ ?_; omega) | (refine ixs_n ?_ ?_; omega) | (apply ld_o; exact rfl) | (apply ldN_a; exact rfl) | (apply ldN_o; (exact rfl); exact rfl) | (apply st_o; (exact rfl); exact rfl) | (apply stN_o; (exact rfl); (exact rfl); exact rfl) | (refine new_i (fun bk hbk => ?_)) | (apply when_dE; (exact rfl); (exact rfl); all_goals intro hc) | (apply when_dF; (exact rfl); (exact rfl); all_goals intro hc) | (apply when_nE; (exact rfl); (exact rfl); all_goals intro hc) | (apply when_nF; (exact rfl); (exact rfl); all_goals intro hc) | (apply br_dE; (exact rfl); all_goals intro hc) | (apply br_nE; (exact rfl); all_goals intro hc) | (refine mm_min ?_) | (refine mm_max ?_) | (refine rem_i ?_ ?_; omega) | (refine SelN.mk ?_) | (refine cut_n ?_) | (refine Both.mk ?_ ?_) | (exact True.intro))
    all_goals exact ⟨rfl, (by first | exact ent_i | (repeat (first | exact Ent.refl | exact Ent.left | refine Ent.cons ?_ | refine Ent.app ?_)))⟩
  · rw [if_neg hn]
    by_cases hl : 65536 < l.length
    · rw [if_pos hl]
      repeat' ((try (conv => whnf)); first | (refine when_ye ?_ ?_; exact rfl) | (refine when_ne ?_ ?_; exact rfl) | (refine br_te ?_ ?_; exact rfl) | (refine br_fe ?_ ?_; exact rfl) | (apply br_pyE; (exact rfl); omega) | (apply br_pnE; (exact rfl); omega) | (apply when_pyE; (exact rfl); omega) | (apply when_pnE; (exact rfl); omega) | (apply br_npyE; (exact rfl); omega) | (apply br_npnE; (exact rfl); omega) | (apply when_npyE; (exact rfl); omega) | (apply when_npnE; (exact rfl); omega) | (refine ari ?_ ?_; omega) | (refine aru ?_ ?_; omega) | (apply sel; exact rfl) | (refine ix0 rfl ?_) | (refine ix1 rfl ?_) | (refine ix2 rfl ?_) | (refine ix3 rfl ?_) | (apply ixj; omega) | (refine ixn ?_ ?_; omega) | (refine ixs0 rfl ?_) | (refine ixs1 rfl ?_) | (refine ixs_j ?_ ?_; omega) | (refine ixs_n ?_ ?_; omega) | (apply ld_o; exact rfl) | (apply ldN_a; exact rfl) | (apply ldN_o; (exact rfl); exact rfl) | (apply st_o; (exact rfl); exact rfl) | (apply stN_o; (exact rfl); (exact rfl); exact rfl) | (refine new_i (fun bk hbk => ?_)) | (apply when_dE; (exact rfl); (exact rfl); all_goals intro hc) | (apply when_dF; (exact rfl); (exact rfl); all_goals intro hc) | (apply when_nE; (exact rfl); (exact rfl); all_goals intro hc) | (apply when_nF; (exact rfl); (exact rfl); all_goals intro hc) | (apply br_dE; (exact rfl); all_goals intro hc) | (apply br_nE; (exact rfl); all_goals intro hc) | (refine mm_min ?_) | (refine mm_max ?_) | (refine rem_i ?_ ?_; omega) | (refine SelN.mk ?_) | (refine cut_n ?_) | (refine Both.mk ?_ ?_) | (exact True.intro))
      all_goals exact ⟨rfl, (by first | exact ent_i | (repeat (first | exact Ent.refl | exact Ent.left | refine Ent.cons ?_ | refine Ent.app ?_)))⟩
    · rw [if_neg hl]
      obtain ⟨m, rfl⟩ : ∃ m : Nat, n = m := ⟨n.toNat, by omega⟩
      rw [Int.toNat_natCast]
      generalize hres : chkG m l 0 0 (List.replicate m 0) = res
      repeat' ((try (conv => whnf)); first | (refine when_ye ?_ ?_; exact rfl) | (refine when_ne ?_ ?_; exact rfl) | (refine br_te ?_ ?_; exact rfl) | (refine br_fe ?_ ?_; exact rfl) | (apply br_pyE; (exact rfl); omega) | (apply br_pnE; (exact rfl); omega) | (apply when_pyE; (exact rfl); omega) | (apply when_pnE; (exact rfl); omega) | (apply br_npyE; (exact rfl); omega) | (apply br_npnE; (exact rfl); omega) | (apply when_npyE; (exact rfl); omega) | (apply when_npnE; (exact rfl); omega) | (refine mkC (enc := encI) m 0 rfl rfl rfl (by omega) (fun b => ?_)) | (refine ari ?_ ?_; omega) | (refine aru ?_ ?_; omega) | (apply sel; exact rfl) | (refine ix0 rfl ?_) | (refine ix1 rfl ?_) | (refine ix2 rfl ?_) | (refine ix3 rfl ?_) | (apply ixj; omega) | (refine ixn ?_ ?_; omega) | (refine ixs0 rfl ?_) | (refine ixs1 rfl ?_) | (refine ixs_j ?_ ?_; omega) | (refine ixs_n ?_ ?_; omega) | (apply ld_o; exact rfl) | (apply ldN_a; exact rfl) | (apply ldN_o; (exact rfl); exact rfl) | (apply st_o; (exact rfl); exact rfl) | (apply stN_o; (exact rfl); (exact rfl); exact rfl) | (refine new_i (fun bk hbk => ?_)) | (apply when_dE; (exact rfl); (exact rfl); all_goals intro hc) | (apply when_dF; (exact rfl); (exact rfl); all_goals intro hc) | (apply when_nE; (exact rfl); (exact rfl); all_goals intro hc) | (apply when_nF; (exact rfl); (exact rfl); all_goals intro hc) | (apply br_dE; (exact rfl); all_goals intro hc) | (apply br_nE; (exact rfl); all_goals intro hc) | (refine mm_min ?_) | (refine mm_max ?_) | (refine rem_i ?_ ?_; omega) | (refine SelN.mk ?_) | (refine cut_n ?_) | (refine Both.mk ?_ ?_) | (exact True.intro))
      refine loop_i (σ := Nat × List Int) (fun s => [(7, .int .i64 s.1)]) (fun s => canE encI 3 b s.2 :: own) (fun s => s.1 ≤ l.length ∧ s.2.length = m ∧ chkG m (l.drop s.1) s.1 (paAt l s.1) s.2 = res) (fun s => l.length - s.1) (0, List.replicate m 0) ⟨by simp, by simp, hres⟩ (by repeat' (first | exact True.intro | refine And.intro ?_ ?_ | exact rfl | exact vi (by omega) | (dsimp only; exact rfl) | (dsimp only; exact vi (by omega)))) Ent.refl rfl ?_
      rintro ⟨i, last⟩ junk ⟨hi, hlen, hI⟩
      dsimp only at hi hlen hI ⊢
      by_cases hlt : i < l.length
      · obtain ⟨e, he⟩ : ∃ e, l[i]? = some e := ⟨_, List.getElem?_eq_getElem hlt⟩
        have hlt' : (i : Int) < l.length := by omega
        have hEe := hE e (List.mem_of_getElem? he)
        rw [drop_at he, chkG] at hI
        have hf : ∀ (own' : Own) [EntC own' own] (pa kd : Int), Pure Tryd.prog W0 40 [e.v, .int .i64 m, .bool (decide ((i : Int) = 0)), .int .i64 pa, .int .i64 kd] own' (.bool (fitsM m (i == 0) pa kd e)) := fun own' _ pa kd => by
          have := sp_rfits (hEe.up (own := own')) m (decide ((i : Int) = 0)) pa kd
          rw [rfits_eq] at this
          exact this
        have hw : ∀ x ∈ last, (encI x).length = 1 := fun _ _ => rfl
        by_cases ht : 0 ≤ e.t ∧ e.t < m
        · obtain ⟨kd, hkd⟩ : ∃ kd, last[e.t.toNat]? = some kd := ⟨_, List.getElem?_eq_getElem (by omega)⟩
          have hgd : last.getD e.t.toNat 0 = kd := by rw [List.getD_eq_getElem?_getD, hkd]; rfl
          rw [hgd] at hI
          by_cases h0 : i = 0
          · have hpa : paAt l i = 0 := by unfold paAt; rw [if_pos h0]
            have hfe := fun own' h => @hf own' h 0 kd
            rw [hpa] at hI
            cases hb : fitsM m (i == 0) 0 kd e with
            | true =>
              rw [hb] at hI
              simp only [hb] at hfe
              simp only [if_true] at hI
              repeat' ((try (conv => whnf)); first | (refine when_ye ?_ ?_; exact rfl) | (refine when_ne ?_ ?_; exact rfl) | (refine br_te ?_ ?_; exact rfl) | (refine br_fe ?_ ?_; exact rfl) | (apply br_pyE; (exact rfl); omega) | (apply br_pnE; (exact rfl); omega) | (apply when_pyE; (exact rfl); omega) | (apply when_pnE; (exact rfl); omega) | (apply br_npyE; (exact rfl); omega) | (apply br_npnE; (exact rfl); omega) | (apply when_npyE; (exact rfl); omega) | (apply when_npnE; (exact rfl); omega) | (refine br_pyE ?_ hlt' ?_; exact rfl) | (refine br_pnE ?_ hlt' ?_; exact rfl) | (refine when_pyE ?_ hlt' ?_; exact rfl) | (refine when_pnE ?_ hlt' ?_; exact rfl) | (refine br_npyE ?_ hlt' ?_; exact rfl) | (refine br_npnE ?_ hlt' ?_; exact rfl) | (refine when_npyE ?_ hlt' ?_; exact rfl) | (refine when_npnE ?_ hlt' ?_; exact rfl) | (apply stC (T := 3) (k := 0) e.k hw hkd; (exact rfl); (omega); (exact rfl); (exact rfl)) | ((with_reducible show Ld _ _ _ _); first | (refine ldE0 hR he rfl ?_) | (refine ldEk hR he rfl ?_) | (refine ldE1 hR he rfl ?_) | (refine ldC0 hw hkd rfl ?_) | (refine ldC1 hw hkd rfl ?_) | (refine ldC hw hkd rfl ?_)) | ((with_reducible show IxS _ _ _ _ _); first | ((refine ixE hR he ?_ ?_; (first | rfl | omega))) | ((refine ixC hkd hlen.symm ?_ ?_; (first | rfl | omega)))) | ((with_reducible show LdN _ _ _ _ _); first | (refine ldNEi hR he rfl ?_) | (refine ldNC hw hkd rfl ?_)) | ((with_reducible show CallT _ _ _ _ _ _); first | ((refine call_pe (hfe _ ⟨fun _ => Ent.drop⟩) ?_ ?_ ?_; (exact rfl); exact rfl))) | (refine ari ?_ ?_; omega) | (refine aru ?_ ?_; omega) | (apply sel; exact rfl) | (refine ix0 rfl ?_) | (refine ix1 rfl ?_) | (refine ix2 rfl ?_) | (refine ix3 rfl ?_) | (apply ixj; omega) | (refine ixn ?_ ?_; omega) | (refine ixs0 rfl ?_) | (refine ixs1 rfl ?_) | (refine ixs_j ?_ ?_; omega) | (refine ixs_n ?_ ?_; omega) | (apply ld_o; exact rfl) | (apply ldN_a; exact rfl) | (apply ldN_o; (exact rfl); exact rfl) | (apply st_o; (exact rfl); exact rfl) | (apply stN_o; (exact rfl); (exact rfl); exact rfl) | (refine new_i (fun bk hbk => ?_)) | (apply when_dE; (exact rfl); (exact rfl); all_goals intro hc) | (apply when_dF; (exact rfl); (exact rfl); all_goals intro hc) | (apply when_nE; (exact rfl); (exact rfl); all_goals intro hc) | (apply when_nF; (exact rfl); (exact rfl); all_goals intro hc) | (apply br_dE; (exact rfl); all_goals intro hc) | (apply br_nE; (exact rfl); all_goals intro hc) | (refine mm_min ?_) | (refine mm_max ?_) | (refine rem_i ?_ ?_; omega) | (refine SelN.mk ?_) | (refine cut_n ?_) | (refine Both.mk ?_ ?_) | (exact True.intro))
              exact ⟨(i + 1, last.set e.t.toNat e.k), ⟨by simp only; omega, by simp only [List.length_set]; exact hlen, by simp only; rw [paAt_succ he]; exact hI⟩, by simp only; omega, (by repeat' (first | exact True.intro | refine And.intro ?_ ?_ | exact rfl | exact vi (by omega) | (dsimp only; exact rfl) | (dsimp only; exact vi (by omega)))), Ent.refl⟩
            | false =>
              rw [hb] at hI
              simp only [hb] at hfe
              simp only [Bool.false_eq_true, if_false] at hI
              repeat' ((try (conv => whnf)); first | (refine when_ye ?_ ?_; exact rfl) | (refine when_ne ?_ ?_; exact rfl) | (refine br_te ?_ ?_; exact rfl) | (refine br_fe ?_ ?_; exact rfl) | (apply br_pyE; (exact rfl); omega) | (apply br_pnE; (exact rfl); omega) | (apply when_pyE; (exact rfl); omega) | (apply when_pnE; (exact rfl); omega) | (apply br_npyE; (exact rfl); omega) | (apply br_npnE; (exact rfl); omega) | (apply when_npyE; (exact rfl); omega) | (apply when_npnE; (exact rfl); omega) | (refine br_pyE ?_ hlt' ?_; exact rfl) | (refine br_pnE ?_ hlt' ?_; exact rfl) | (refine when_pyE ?_ hlt' ?_; exact rfl) | (refine when_pnE ?_ hlt' ?_; exact rfl) | (refine br_npyE ?_ hlt' ?_; exact rfl) | (refine br_npnE ?_ hlt' ?_; exact rfl) | (refine when_npyE ?_ hlt' ?_; exact rfl) | (refine when_npnE ?_ hlt' ?_; exact rfl) | ((with_reducible show Ld _ _ _ _); first | (refine ldE0 hR he rfl ?_) | (refine ldEk hR he rfl ?_) | (refine ldE1 hR he rfl ?_) | (refine ldC0 hw hkd rfl ?_) | (refine ldC1 hw hkd rfl ?_) | (refine ldC hw hkd rfl ?_)) | ((with_reducible show IxS _ _ _ _ _); first | ((refine ixE hR he ?_ ?_; (first | rfl | omega))) | ((refine ixC hkd hlen.symm ?_ ?_; (first | rfl | omega)))) | ((with_reducible show LdN _ _ _ _ _); first | (refine ldNEi hR he rfl ?_) | (refine ldNC hw hkd rfl ?_)) | ((with_reducible show CallT _ _ _ _ _ _); first | ((refine call_pe (hfe _ ⟨fun _ => Ent.drop⟩) ?_ ?_ ?_; (exact rfl); exact rfl))) | (refine ari ?_ ?_; omega) | (refine aru ?_ ?_; omega) | (apply sel; exact rfl) | (refine ix0 rfl ?_) | (refine ix1 rfl ?_) | (refine ix2 rfl ?_) | (refine ix3 rfl ?_) | (apply ixj; omega) | (refine ixn ?_ ?_; omega) | (refine ixs0 rfl ?_) | (refine ixs1 rfl ?_) | (refine ixs_j ?_ ?_; omega) | (refine ixs_n ?_ ?_; omega) | (apply ld_o; exact rfl) | (apply ldN_a; exact rfl) | (apply ldN_o; (exact rfl); exact rfl) | (apply st_o; (exact rfl); exact rfl) | (apply stN_o; (exact rfl); (exact rfl); exact rfl) | (refine new_i (fun bk hbk => ?_)) | (apply when_dE; (exact rfl); (exact rfl); all_goals intro hc) | (apply when_dF; (exact rfl); (exact rfl); all_goals intro hc) | (apply when_nE; (exact rfl); (exact rfl); all_goals intro hc) | (apply when_nF; (exact rfl); (exact rfl); all_goals intro hc) | (apply br_dE; (exact rfl); all_goals intro hc) | (apply br_nE; (exact rfl); all_goals intro hc) | (refine mm_min ?_) | (refine mm_max ?_) | (refine rem_i ?_ ?_; omega) | (refine SelN.mk ?_) | (refine cut_n ?_) | (refine Both.mk ?_ ?_) | (exact True.intro))
              all_goals (rw [← hI]; exact ⟨rfl, (by first | exact ent_i | (repeat (first | exact Ent.refl | exact Ent.left | refine Ent.cons ?_ | refine Ent.app ?_)))⟩)
          · obtain ⟨e', he'⟩ : ∃ e', l[i - 1]? = some e' := ⟨_, List.getElem?_eq_getElem (by omega)⟩
            have hpa : paAt l i = e'.ev := by unfold paAt at'; rw [if_neg h0, List.getD_eq_getElem?_getD, he']; rfl
            have hfe := fun own' h => @hf own' h e'.ev kd
            rw [hpa] at hI
            cases hb : fitsM m (i == 0) e'.ev kd e with
            | true =>
              rw [hb] at hI
              simp only [hb] at hfe
              simp only [if_true] at hI
              repeat' ((try (conv => whnf)); first | (refine when_ye ?_ ?_; exact rfl) | (refine when_ne ?_ ?_; exact rfl) | (refine br_te ?_ ?_; exact rfl) | (refine br_fe ?_ ?_; exact rfl) | (apply br_pyE; (exact rfl); omega) | (apply br_pnE; (exact rfl); omega) | (apply when_pyE; (exact rfl); omega) | (apply when_pnE; (exact rfl); omega) | (apply br_npyE; (exact rfl); omega) | (apply br_npnE; (exact rfl); omega) | (apply when_npyE; (exact rfl); omega) | (apply when_npnE; (exact rfl); omega) | (refine br_pyE ?_ hlt' ?_; exact rfl) | (refine br_pnE ?_ hlt' ?_; exact rfl) | (refine when_pyE ?_ hlt' ?_; exact rfl) | (refine when_pnE ?_ hlt' ?_; exact rfl) | (refine br_npyE ?_ hlt' ?_; exact rfl) | (refine br_npnE ?_ hlt' ?_; exact rfl) | (refine when_npyE ?_ hlt' ?_; exact rfl) | (refine when_npnE ?_ hlt' ?_; exact rfl) | (apply stC (T := 3) (k := 0) e.k hw hkd; (exact rfl); (omega); (exact rfl); (exact rfl)) | ((with_reducible show Ld _ _ _ _); first | (refine ldE0 hR he rfl ?_) | (refine ldEk hR he rfl ?_) | (refine ldE1 hR he rfl ?_) | (refine ldE0 hR he' rfl ?_) | (refine ldEk hR he' rfl ?_) | (refine ldE1 hR he' rfl ?_) | (refine ldC0 hw hkd rfl ?_) | (refine ldC1 hw hkd rfl ?_) | (refine ldC hw hkd rfl ?_)) | ((with_reducible show IxS _ _ _ _ _); first | ((refine ixE hR he ?_ ?_; (first | rfl | omega))) | ((refine ixE hR he' ?_ ?_; (first | rfl | omega))) | ((refine ixC hkd hlen.symm ?_ ?_; (first | rfl | omega)))) | ((with_reducible show LdN _ _ _ _ _); first | (refine ldNEi hR he rfl ?_) | (refine ldNEi hR he' rfl ?_) | (refine ldNC hw hkd rfl ?_)) | ((with_reducible show CallT _ _ _ _ _ _); first | ((refine call_pe (hfe _ ⟨fun _ => Ent.drop⟩) ?_ ?_ ?_; (exact rfl); exact rfl))) | (refine ari ?_ ?_; omega) | (refine aru ?_ ?_; omega) | (apply sel; exact rfl) | (refine ix0 rfl ?_) | (refine ix1 rfl ?_) | (refine ix2 rfl ?_) | (refine ix3 rfl ?_) | (apply ixj; omega) | (refine ixn ?_ ?_; omega) | (refine ixs0 rfl ?_) | (refine ixs1 rfl ?_) | (refine ixs_j ?_ ?_; omega) | (refine ixs_n ?_ ?_; omega) | (apply ld_o; exact rfl) | (apply ldN_a; exact rfl) | (apply ldN_o; (exact rfl); exact rfl) | (apply st_o; (exact rfl); exact rfl) | (apply stN_o; (exact rfl); (exact rfl); exact rfl) | (refine new_i (fun bk hbk => ?_)) | (apply when_dE; (exact rfl); (exact rfl); all_goals intro hc) | (apply when_dF; (exact rfl); (exact rfl); all_goals intro hc) | (apply when_nE; (exact rfl); (exact rfl); all_goals intro hc) | (apply when_nF; (exact rfl); (exact rfl); all_goals intro hc) | (apply br_dE; (exact rfl); all_goals intro hc) | (apply br_nE; (exact rfl); all_goals intro hc) | (refine mm_min ?_) | (refine mm_max ?_) | (refine rem_i ?_ ?_; omega) | (refine SelN.mk ?_) | (refine cut_n ?_) | (refine Both.mk ?_ ?_) | (exact True.intro))
              exact ⟨(i + 1, last.set e.t.toNat e.k), ⟨by simp only; omega, by simp only [List.length_set]; exact hlen, by simp only; rw [paAt_succ he]; exact hI⟩, by simp only; omega, (by repeat' (first | exact True.intro | refine And.intro ?_ ?_ | exact rfl | exact vi (by omega) | (dsimp only; exact rfl) | (dsimp only; exact vi (by omega)))), Ent.refl⟩
            | false =>
              rw [hb] at hI
              simp only [hb] at hfe
              simp only [Bool.false_eq_true, if_false] at hI
              repeat' ((try (conv => whnf)); first | (refine when_ye ?_ ?_; exact rfl) | (refine when_ne ?_ ?_; exact rfl) | (refine br_te ?_ ?_; exact rfl) | (refine br_fe ?_ ?_; exact rfl) | (apply br_pyE; (exact rfl); omega) | (apply br_pnE; (exact rfl); omega) | (apply when_pyE; (exact rfl); omega) | (apply when_pnE; (exact rfl); omega) | (apply br_npyE; (exact rfl); omega) | (apply br_npnE; (exact rfl); omega) | (apply when_npyE; (exact rfl); omega) | (apply when_npnE; (exact rfl); omega) | (refine br_pyE ?_ hlt' ?_; exact rfl) | (refine br_pnE ?_ hlt' ?_; exact rfl) | (refine when_pyE ?_ hlt' ?_; exact rfl) | (refine when_pnE ?_ hlt' ?_; exact rfl) | (refine br_npyE ?_ hlt' ?_; exact rfl) | (refine br_npnE ?_ hlt' ?_; exact rfl) | (refine when_npyE ?_ hlt' ?_; exact rfl) | (refine when_npnE ?_ hlt' ?_; exact rfl) | ((with_reducible show Ld _ _ _ _); first | (refine ldE0 hR he rfl ?_) | (refine ldEk hR he rfl ?_) | (refine ldE1 hR he rfl ?_) | (refine ldE0 hR he' rfl ?_) | (refine ldEk hR he' rfl ?_) | (refine ldE1 hR he' rfl ?_) | (refine ldC0 hw hkd rfl ?_) | (refine ldC1 hw hkd rfl ?_) | (refine ldC hw hkd rfl ?_)) | ((with_reducible show IxS _ _ _ _ _); first | ((refine ixE hR he ?_ ?_; (first | rfl | omega))) | ((refine ixE hR he' ?_ ?_; (first | rfl | omega))) | ((refine ixC hkd hlen.symm ?_ ?_; (first | rfl | omega)))) | ((with_reducible show LdN _ _ _ _ _); first | (refine ldNEi hR he rfl ?_) | (refine ldNEi hR he' rfl ?_) | (refine ldNC hw hkd rfl ?_)) | ((with_reducible show CallT _ _ _ _ _ _); first | ((refine call_pe (hfe _ ⟨fun _ => Ent.drop⟩) ?_ ?_ ?_; (exact rfl); exact rfl))) | (refine ari ?_ ?_; omega) | (refine aru ?_ ?_; omega) | (apply sel; exact rfl) | (refine ix0 rfl ?_) | (refine ix1 rfl ?_) | (refine ix2 rfl ?_) | (refine ix3 rfl ?_) | (apply ixj; omega) | (refine ixn ?_ ?_; omega) | (refine ixs0 rfl ?_) | (refine ixs1 rfl ?_) | (refine ixs_j ?_ ?_; omega) | (refine ixs_n ?_ ?_; omega) | (apply ld_o; exact rfl) | (apply ldN_a; exact rfl) | (apply ldN_o; (exact rfl); exact rfl) | (apply st_o; (exact rfl); exact rfl) | (apply stN_o; (exact rfl); (exact rfl); exact rfl) | (refine new_i (fun bk hbk => ?_)) | (apply when_dE; (exact rfl); (exact rfl); all_goals intro hc) | (apply when_dF; (exact rfl); (exact rfl); all_goals intro hc) | (apply when_nE; (exact rfl); (exact rfl); all_goals intro hc) | (apply when_nF; (exact rfl); (exact rfl); all_goals intro hc) | (apply br_dE; (exact rfl); all_goals intro hc) | (apply br_nE; (exact rfl); all_goals intro hc) | (refine mm_min ?_) | (refine mm_max ?_) | (refine rem_i ?_ ?_; omega) | (refine SelN.mk ?_) | (refine cut_n ?_) | (refine Both.mk ?_ ?_) | (exact True.intro))
              all_goals (rw [← hI]; exact ⟨rfl, (by first | exact ent_i | (repeat (first | exact Ent.refl | exact Ent.left | refine Ent.cons ?_ | refine Ent.app ?_)))⟩)
        · rw [fits_out ht] at hI
          simp only [Bool.false_eq_true, if_false] at hI
          have hfe : ∀ (own' : Own), EntC own' own → ∀ pa, Pure Tryd.prog W0 40 [e.v, .int .i64 m, .bool (decide ((i : Int) = 0)), .int .i64 pa, .int .i64 0] own' (.bool false) := fun own' h pa => by
            have := @hf own' h pa 0
            rw [fits_out ht] at this
            exact this
          by_cases h0 : i = 0
          · repeat' ((try (conv => whnf)); first | (refine when_ye ?_ ?_; exact rfl) | (refine when_ne ?_ ?_; exact rfl) | (refine br_te ?_ ?_; exact rfl) | (refine br_fe ?_ ?_; exact rfl) | (apply br_pyE; (exact rfl); omega) | (apply br_pnE; (exact rfl); omega) | (apply when_pyE; (exact rfl); omega) | (apply when_pnE; (exact rfl); omega) | (apply br_npyE; (exact rfl); omega) | (apply br_npnE; (exact rfl); omega) | (apply when_npyE; (exact rfl); omega) | (apply when_npnE; (exact rfl); omega) | (refine br_pyE ?_ hlt' ?_; exact rfl) | (refine br_pnE ?_ hlt' ?_; exact rfl) | (refine when_pyE ?_ hlt' ?_; exact rfl) | (refine when_pnE ?_ hlt' ?_; exact rfl) | (refine br_npyE ?_ hlt' ?_; exact rfl) | (refine br_npnE ?_ hlt' ?_; exact rfl) | (refine when_npyE ?_ hlt' ?_; exact rfl) | (refine when_npnE ?_ hlt' ?_; exact rfl) | ((with_reducible show Ld _ _ _ _); first | (refine ldE0 hR he rfl ?_) | (refine ldEk hR he rfl ?_) | (refine ldE1 hR he rfl ?_)) | ((with_reducible show IxS _ _ _ _ _); first | ((refine ixE hR he ?_ ?_; (first | rfl | omega)))) | ((with_reducible show LdN _ _ _ _ _); first | (refine ldNEi hR he rfl ?_)) | ((with_reducible show CallT _ _ _ _ _ _); first | ((refine call_pe (hfe _ ⟨fun _ => Ent.drop⟩ 0) ?_ ?_ ?_; (exact rfl); exact rfl))) | (refine ari ?_ ?_; omega) | (refine aru ?_ ?_; omega) | (apply sel; exact rfl) | (refine ix0 rfl ?_) | (refine ix1 rfl ?_) | (refine ix2 rfl ?_) | (refine ix3 rfl ?_) | (apply ixj; omega) | (refine ixn ?_ ?_; omega) | (refine ixs0 rfl ?_) | (refine ixs1 rfl ?_) | (refine ixs_j ?_ ?_; omega) | (refine ixs_n ?_ ?_; omega) | (apply ld_o; exact rfl) | (apply ldN_a; exact rfl) | (apply ldN_o; (exact rfl); exact rfl) | (apply st_o; (exact rfl); exact rfl) | (apply stN_o; (exact rfl); (exact rfl); exact rfl) | (refine new_i (fun bk hbk => ?_)) | (apply when_dE; (exact rfl); (exact rfl); all_goals intro hc) | (apply when_dF; (exact rfl); (exact rfl); all_goals intro hc) | (apply when_nE; (exact rfl); (exact rfl); all_goals intro hc) | (apply when_nF; (exact rfl); (exact rfl); all_goals intro hc) | (apply br_dE; (exact rfl); all_goals intro hc) | (apply br_nE; (exact rfl); all_goals intro hc) | (refine mm_min ?_) | (refine mm_max ?_) | (refine rem_i ?_ ?_; omega) | (refine SelN.mk ?_) | (refine cut_n ?_) | (refine Both.mk ?_ ?_) | (exact True.intro))
            all_goals first | (exfalso; omega) | (rw [← hI]; exact ⟨rfl, (by first | exact ent_i | (repeat (first | exact Ent.refl | exact Ent.left | refine Ent.cons ?_ | refine Ent.app ?_)))⟩)
          · obtain ⟨e', he'⟩ : ∃ e', l[i - 1]? = some e' := ⟨_, List.getElem?_eq_getElem (by omega)⟩
            repeat' ((try (conv => whnf)); first | (refine when_ye ?_ ?_; exact rfl) | (refine when_ne ?_ ?_; exact rfl) | (refine br_te ?_ ?_; exact rfl) | (refine br_fe ?_ ?_; exact rfl) | (apply br_pyE; (exact rfl); omega) | (apply br_pnE; (exact rfl); omega) | (apply when_pyE; (exact rfl); omega) | (apply when_pnE; (exact rfl); omega) | (apply br_npyE; (exact rfl); omega) | (apply br_npnE; (exact rfl); omega) | (apply when_npyE; (exact rfl); omega) | (apply when_npnE; (exact rfl); omega) | (refine br_pyE ?_ hlt' ?_; exact rfl) | (refine br_pnE ?_ hlt' ?_; exact rfl) | (refine when_pyE ?_ hlt' ?_; exact rfl) | (refine when_pnE ?_ hlt' ?_; exact rfl) | (refine br_npyE ?_ hlt' ?_; exact rfl) | (refine br_npnE ?_ hlt' ?_; exact rfl) | (refine when_npyE ?_ hlt' ?_; exact rfl) | (refine when_npnE ?_ hlt' ?_; exact rfl) | ((with_reducible show Ld _ _ _ _); first | (refine ldE0 hR he rfl ?_) | (refine ldEk hR he rfl ?_) | (refine ldE1 hR he rfl ?_) | (refine ldE0 hR he' rfl ?_) | (refine ldEk hR he' rfl ?_) | (refine ldE1 hR he' rfl ?_)) | ((with_reducible show IxS _ _ _ _ _); first | ((refine ixE hR he ?_ ?_; (first | rfl | omega))) | ((refine ixE hR he' ?_ ?_; (first | rfl | omega)))) | ((with_reducible show LdN _ _ _ _ _); first | (refine ldNEi hR he rfl ?_) | (refine ldNEi hR he' rfl ?_)) | ((with_reducible show CallT _ _ _ _ _ _); first | ((refine call_pe (hfe _ ⟨fun _ => Ent.drop⟩ e'.ev) ?_ ?_ ?_; (exact rfl); exact rfl))) | (refine ari ?_ ?_; omega) | (refine aru ?_ ?_; omega) | (apply sel; exact rfl) | (refine ix0 rfl ?_) | (refine ix1 rfl ?_) | (refine ix2 rfl ?_) | (refine ix3 rfl ?_) | (apply ixj; omega) | (refine ixn ?_ ?_; omega) | (refine ixs0 rfl ?_) | (refine ixs1 rfl ?_) | (refine ixs_j ?_ ?_; omega) | (refine ixs_n ?_ ?_; omega) | (apply ld_o; exact rfl) | (apply ldN_a; exact rfl) | (apply ldN_o; (exact rfl); exact rfl) | (apply st_o; (exact rfl); exact rfl) | (apply stN_o; (exact rfl); (exact rfl); exact rfl) | (refine new_i (fun bk hbk => ?_)) | (apply when_dE; (exact rfl); (exact rfl); all_goals intro hc) | (apply when_dF; (exact rfl); (exact rfl); all_goals intro hc) | (apply when_nE; (exact rfl); (exact rfl); all_goals intro hc) | (apply when_nF; (exact rfl); (exact rfl); all_goals intro hc) | (apply br_dE; (exact rfl); all_goals intro hc) | (apply br_nE; (exact rfl); all_goals intro hc) | (refine mm_min ?_) | (refine mm_max ?_) | (refine rem_i ?_ ?_; omega) | (refine SelN.mk ?_) | (refine cut_n ?_) | (refine Both.mk ?_ ?_) | (exact True.intro))
            all_goals first | (exfalso; omega) | (rw [← hI]; exact ⟨rfl, (by first | exact ent_i | (repeat (first | exact Ent.refl | exact Ent.left | refine Ent.cons ?_ | refine Ent.app ?_)))⟩)
      · have hi2 : i = l.length := by omega
        have hlt' : ¬ (i : Int) < l.length := by omega
        rw [hi2, List.drop_length, chkG] at hI
        repeat' ((try (conv => whnf)); first | (refine when_ye ?_ ?_; exact rfl) | (refine when_ne ?_ ?_; exact rfl) | (refine br_te ?_ ?_; exact rfl) | (refine br_fe ?_ ?_; exact rfl) | (apply br_pyE; (exact rfl); omega) | (apply br_pnE; (exact rfl); omega) | (apply when_pyE; (exact rfl); omega) | (apply when_pnE; (exact rfl); omega) | (apply br_npyE; (exact rfl); omega) | (apply br_npnE; (exact rfl); omega) | (apply when_npyE; (exact rfl); omega) | (apply when_npnE; (exact rfl); omega) | (refine br_pyE ?_ hlt' ?_; exact rfl) | (refine br_pnE ?_ hlt' ?_; exact rfl) | (refine when_pyE ?_ hlt' ?_; exact rfl) | (refine when_pnE ?_ hlt' ?_; exact rfl) | (refine br_npyE ?_ hlt' ?_; exact rfl) | (refine br_npnE ?_ hlt' ?_; exact rfl) | (refine when_npyE ?_ hlt' ?_; exact rfl) | (refine when_npnE ?_ hlt' ?_; exact rfl) | (refine ari ?_ ?_; omega) | (refine aru ?_ ?_; omega) | (apply sel; exact rfl) | (refine ix0 rfl ?_) | (refine ix1 rfl ?_) | (refine ix2 rfl ?_) | (refine ix3 rfl ?_) | (apply ixj; omega) | (refine ixn ?_ ?_; omega) | (refine ixs0 rfl ?_) | (refine ixs1 rfl ?_) | (refine ixs_j ?_ ?_; omega) | (refine ixs_n ?_ ?_; omega) | (apply ld_o; exact rfl) | (apply ldN_a; exact rfl) | (apply ldN_o; (exact rfl); exact rfl) | (apply st_o; (exact rfl); exact rfl) | (apply stN_o; (exact rfl); (exact rfl); exact rfl) | (refine new_i (fun bk hbk => ?_)) | (apply when_dE; (exact rfl); (exact rfl); all_goals intro hc) | (apply when_dF; (exact rfl); (exact rfl); all_goals intro hc) | (apply when_nE; (exact rfl); (exact rfl); all_goals intro hc) | (apply when_nF; (exact rfl); (exact rfl); all_goals intro hc) | (apply br_dE; (exact rfl); all_goals intro hc) | (apply br_nE; (exact rfl); all_goals intro hc) | (refine mm_min ?_) | (refine mm_max ?_) | (refine rem_i ?_ ?_; omega) | (refine SelN.mk ?_) | (refine cut_n ?_) | (refine Both.mk ?_ ?_) | (exact True.intro))
        all_goals (rw [← hI]; exact ⟨rfl, (by first | exact ent_i | (repeat (first | exact Ent.refl | exact Ent.left | refine Ent.cons ?_ | refine Ent.app ?_)))⟩)
end
end Go.Proofs.YtofjnldidkiihaaDoor
namespace Go.Proofs.YtofjnldidkiihaaDoor
open Go
set_option maxRecDepth 10000
set_option maxHeartbeats 4000000
abbrev encB (b : Bool) : List Value := [.bool b]
theorem at_get {l : List EH} {i : Nat} {e : EH} (h : l[i]? = some e) : at' l i = e := by
  unfold at'; rw [List.getD_eq_getElem?_getD, h]; rfl
/-- The last event of a thread ahead of a place, or -1. -/
def bgL (l : List EH) (t : Int) : Nat → Int
  | 0 => -1
  | i + 1 => if thr l i = t then i else bgL l t i
theorem bgL_lt (l : List EH) (t : Int) : ∀ i, bgL l t i < i ∧ -1 ≤ bgL l t i
  | 0 => by simp [bgL]
  | i + 1 => by
    have := bgL_lt l t i
    unfold bgL
    split <;> omega
theorem bgL_prev {l : List EH} {p i : Nat} (h : prevT l i p) : ∀ j, p < j → j ≤ i → bgL l (thr l i) j = p
  | 0, h1, _ => by omega
  | j + 1, h1, h2 => by
    unfold bgL
    by_cases hj : j = p
    · subst hj; rw [if_pos h.2.1]
    · rw [if_neg (h.2.2 j (by omega) (by omega))]
      exact bgL_prev h j (by omega) (by omega)
theorem bg_prev {l : List EH} {p i : Nat} (h : prevT l i p) : bgL l (thr l i) i = p := bgL_prev h i h.1 (Nat.le_refl i)
section
variable {W0 : World} {own : Own} {a : Option Addr} {cap : Nat} {l : List EH}
theorem sp_rbegin (hR : RdE EH.enc 6 W0 own a l) (hl : l.length ≤ 65536) {i : Nat} (hi : i < l.length) : Pure Tryd.prog W0 58 [.slice a l.length cap, .int .i64 i] own (.int .i64 (bgL l (thr l i) i)) := by
  refine pure_of (spec_of mixed low_ref24_begin (by simp [ir_ref24_begin]) ?_)
  obtain ⟨e, he⟩ : ∃ e, l[i]? = some e := ⟨_, List.getElem?_eq_getElem hi⟩
  generalize hres : bgL l (thr l i) i = res
  have hte : thr l i = e.t := by unfold thr; rw [at_get he]
  rw [hte] at hres
  repeat' ((try (conv => whnf)); first | (refine when_ye ?_ ?_; exact rfl) | (refine when_ne ?_ ?_; exact rfl) | (refine br_te ?_ ?_; exact rfl) | (refine br_fe ?_ ?_; exact rfl) | (apply br_pyE; (exact rfl); omega) | (apply br_pnE; (exact rfl); omega) | (apply when_pyE; (exact rfl); omega) | (apply when_pnE; (exact rfl); omega) | (apply br_npyE; (exact rfl); omega) | (apply br_npnE; (exact rfl); omega) | (apply when_npyE; (exact rfl); omega) | (apply when_npnE; (exact rfl); omega) | (refine ari ?_ ?_; omega) | (refine aru ?_ ?_; omega) | (apply sel; exact rfl) | (refine ix0 rfl ?_) | (refine ix1 rfl ?_) | (refine ix2 rfl ?_) | (refine ix3 rfl ?_) | (apply ixj; omega) | (refine ixn ?_ ?_; omega) | (refine ixs0 rfl ?_) | (refine ixs1 rfl ?_) | (refine ixs_j ?_ ?_; omega) | (refine ixs_n ?_ ?_; omega) | (apply ld_o; exact rfl) | (apply ldN_a; exact rfl) | (apply ldN_o; (exact rfl); exact rfl) | (apply st_o; (exact rfl); exact rfl) | (apply stN_o; (exact rfl); (exact rfl); exact rfl) | (refine new_i (fun bk hbk => ?_)) | (apply when_dE; (exact rfl); (exact rfl); all_goals intro hc) | (apply when_dF; (exact rfl); (exact rfl); all_goals intro hc) | (apply when_nE; (exact rfl); (exact rfl); all_goals intro hc) | (apply when_nF; (exact rfl); (exact rfl); all_goals intro hc) | (apply br_dE; (exact rfl); all_goals intro hc) | (apply br_nE; (exact rfl); all_goals intro hc) | (refine mm_min ?_) | (refine mm_max ?_) | (refine rem_i ?_ ?_; omega) | (refine SelN.mk ?_) | (refine cut_n ?_) | (refine Both.mk ?_ ?_) | (exact True.intro))
  refine loop_c (σ := Nat) (fun c => [(5, .int .i64 ((c : Int) - 1))]) (fun c => c ≤ i ∧ bgL l e.t c = res) (fun c => c) i ⟨Nat.le_refl i, hres⟩ (by repeat' (first | exact True.intro | refine And.intro ?_ ?_ | exact rfl | exact vi (by omega) | (dsimp only; exact rfl) | (dsimp only; exact vi (by omega)))) rfl ?_
  rintro c junk ⟨hc1, hI⟩
  cases c with
  | zero =>
    rw [bgL] at hI
    have h0 : ¬ ((0 : Nat) : Int) - 1 ≥ 0 := by omega
    repeat' ((try (conv => whnf)); first | (refine when_ye ?_ ?_; exact rfl) | (refine when_ne ?_ ?_; exact rfl) | (refine br_te ?_ ?_; exact rfl) | (refine br_fe ?_ ?_; exact rfl) | (apply br_pyE; (exact rfl); omega) | (apply br_pnE; (exact rfl); omega) | (apply when_pyE; (exact rfl); omega) | (apply when_pnE; (exact rfl); omega) | (apply br_npyE; (exact rfl); omega) | (apply br_npnE; (exact rfl); omega) | (apply when_npyE; (exact rfl); omega) | (apply when_npnE; (exact rfl); omega) | (refine br_pyE ?_ h0 ?_; exact rfl) | (refine br_pnE ?_ h0 ?_; exact rfl) | (refine when_pyE ?_ h0 ?_; exact rfl) | (refine when_pnE ?_ h0 ?_; exact rfl) | (refine br_npyE ?_ h0 ?_; exact rfl) | (refine br_npnE ?_ h0 ?_; exact rfl) | (refine when_npyE ?_ h0 ?_; exact rfl) | (refine when_npnE ?_ h0 ?_; exact rfl) | (refine ari ?_ ?_; omega) | (refine aru ?_ ?_; omega) | (apply sel; exact rfl) | (refine ix0 rfl ?_) | (refine ix1 rfl ?_) | (refine ix2 rfl ?_) | (refine ix3 rfl ?_) | (apply ixj; omega) | (refine ixn ?_ ?_; omega) | (refine ixs0 rfl ?_) | (refine ixs1 rfl ?_) | (refine ixs_j ?_ ?_; omega) | (refine ixs_n ?_ ?_; omega) | (apply ld_o; exact rfl) | (apply ldN_a; exact rfl) | (apply ldN_o; (exact rfl); exact rfl) | (apply st_o; (exact rfl); exact rfl) | (apply stN_o; (exact rfl); (exact rfl); exact rfl) | (refine new_i (fun bk hbk => ?_)) | (apply when_dE; (exact rfl); (exact rfl); all_goals intro hc) | (apply when_dF; (exact rfl); (exact rfl); all_goals intro hc) | (apply when_nE; (exact rfl); (exact rfl); all_goals intro hc) | (apply when_nF; (exact rfl); (exact rfl); all_goals intro hc) | (apply br_dE; (exact rfl); all_goals intro hc) | (apply br_nE; (exact rfl); all_goals intro hc) | (refine mm_min ?_) | (refine mm_max ?_) | (refine rem_i ?_ ?_; omega) | (refine SelN.mk ?_) | (refine cut_n ?_) | (refine Both.mk ?_ ?_) | (exact True.intro))
    exact ⟨ret1 (vi hI), (by first | exact ent_i | (repeat (first | exact Ent.refl | exact Ent.left | refine Ent.cons ?_ | refine Ent.app ?_)))⟩
  | succ c =>
    obtain ⟨x, hx⟩ : ∃ x, l[c]? = some x := ⟨_, List.getElem?_eq_getElem (by omega)⟩
    have htx : thr l c = x.t := by unfold thr; rw [at_get hx]
    rw [bgL, htx] at hI
    have hcc : ((c + 1 : Nat) : Int) - 1 = c := by omega
    rw [hcc]
    have h0 : (c : Int) ≥ 0 := by omega
    by_cases ht : x.t = e.t
    · rw [if_pos ht] at hI
      repeat' ((try (conv => whnf)); first | (refine when_ye ?_ ?_; exact rfl) | (refine when_ne ?_ ?_; exact rfl) | (refine br_te ?_ ?_; exact rfl) | (refine br_fe ?_ ?_; exact rfl) | (apply br_pyE; (exact rfl); omega) | (apply br_pnE; (exact rfl); omega) | (apply when_pyE; (exact rfl); omega) | (apply when_pnE; (exact rfl); omega) | (apply br_npyE; (exact rfl); omega) | (apply br_npnE; (exact rfl); omega) | (apply when_npyE; (exact rfl); omega) | (apply when_npnE; (exact rfl); omega) | (refine br_pyE ?_ h0 ?_; exact rfl) | (refine br_pnE ?_ h0 ?_; exact rfl) | (refine when_pyE ?_ h0 ?_; exact rfl) | (refine when_pnE ?_ h0 ?_; exact rfl) | (refine br_npyE ?_ h0 ?_; exact rfl) | (refine br_npnE ?_ h0 ?_; exact rfl) | (refine when_npyE ?_ h0 ?_; exact rfl) | (refine when_npnE ?_ h0 ?_; exact rfl) | (refine br_pyE ?_ ht ?_; exact rfl) | (refine br_pnE ?_ ht ?_; exact rfl) | (refine when_pyE ?_ ht ?_; exact rfl) | (refine when_pnE ?_ ht ?_; exact rfl) | (refine br_npyE ?_ ht ?_; exact rfl) | (refine br_npnE ?_ ht ?_; exact rfl) | (refine when_npyE ?_ ht ?_; exact rfl) | (refine when_npnE ?_ ht ?_; exact rfl) | ((with_reducible show Ld _ _ _ _); first | (refine ldE0 hR hx rfl ?_) | (refine ldEk hR hx rfl ?_) | (refine ldE1 hR hx rfl ?_) | (refine ldE0 hR he rfl ?_) | (refine ldEk hR he rfl ?_) | (refine ldE1 hR he rfl ?_)) | ((with_reducible show IxS _ _ _ _ _); first | ((refine ixE hR hx ?_ ?_; (first | rfl | omega))) | ((refine ixE hR he ?_ ?_; (first | rfl | omega)))) | ((with_reducible show LdN _ _ _ _ _); first | (refine ldNEi hR hx rfl ?_) | (refine ldNEi hR he rfl ?_)) | (refine ari ?_ ?_; omega) | (refine aru ?_ ?_; omega) | (apply sel; exact rfl) | (refine ix0 rfl ?_) | (refine ix1 rfl ?_) | (refine ix2 rfl ?_) | (refine ix3 rfl ?_) | (apply ixj; omega) | (refine ixn ?_ ?_; omega) | (refine ixs0 rfl ?_) | (refine ixs1 rfl ?_) | (refine ixs_j ?_ ?_; omega) | (refine ixs_n ?_ ?_; omega) | (apply ld_o; exact rfl) | (apply ldN_a; exact rfl) | (apply ldN_o; (exact rfl); exact rfl) | (apply st_o; (exact rfl); exact rfl) | (apply stN_o; (exact rfl); (exact rfl); exact rfl) | (refine new_i (fun bk hbk => ?_)) | (apply when_dE; (exact rfl); (exact rfl); all_goals intro hc) | (apply when_dF; (exact rfl); (exact rfl); all_goals intro hc) | (apply when_nE; (exact rfl); (exact rfl); all_goals intro hc) | (apply when_nF; (exact rfl); (exact rfl); all_goals intro hc) | (apply br_dE; (exact rfl); all_goals intro hc) | (apply br_nE; (exact rfl); all_goals intro hc) | (refine mm_min ?_) | (refine mm_max ?_) | (refine rem_i ?_ ?_; omega) | (refine SelN.mk ?_) | (refine cut_n ?_) | (refine Both.mk ?_ ?_) | (exact True.intro))
      exact ⟨ret1 (vi hI), (by first | exact ent_i | (repeat (first | exact Ent.refl | exact Ent.left | refine Ent.cons ?_ | refine Ent.app ?_)))⟩
    · rw [if_neg ht] at hI
      repeat' ((try (conv => whnf)); first | (refine when_ye ?_ ?_; exact rfl) | (refine when_ne ?_ ?_; exact rfl) | (refine br_te ?_ ?_; exact rfl) | (refine br_fe ?_ ?_; exact rfl) | (apply br_pyE; (exact rfl); omega) | (apply br_pnE; (exact rfl); omega) | (apply when_pyE; (exact rfl); omega) | (apply when_pnE; (exact rfl); omega) | (apply br_npyE; (exact rfl); omega) | (apply br_npnE; (exact rfl); omega) | (apply when_npyE; (exact rfl); omega) | (apply when_npnE; (exact rfl); omega) | (refine br_pyE ?_ h0 ?_; exact rfl) | (refine br_pnE ?_ h0 ?_; exact rfl) | (refine when_pyE ?_ h0 ?_; exact rfl) | (refine when_pnE ?_ h0 ?_; exact rfl) | (refine br_npyE ?_ h0 ?_; exact rfl) | (refine br_npnE ?_ h0 ?_; exact rfl) | (refine when_npyE ?_ h0 ?_; exact rfl) | (refine when_npnE ?_ h0 ?_; exact rfl) | (refine br_pyE ?_ ht ?_; exact rfl) | (refine br_pnE ?_ ht ?_; exact rfl) | (refine when_pyE ?_ ht ?_; exact rfl) | (refine when_pnE ?_ ht ?_; exact rfl) | (refine br_npyE ?_ ht ?_; exact rfl) | (refine br_npnE ?_ ht ?_; exact rfl) | (refine when_npyE ?_ ht ?_; exact rfl) | (refine when_npnE ?_ ht ?_; exact rfl) | ((with_reducible show Ld _ _ _ _); first | (refine ldE0 hR hx rfl ?_) | (refine ldEk hR hx rfl ?_) | (refine ldE1 hR hx rfl ?_) | (refine ldE0 hR he rfl ?_) | (refine ldEk hR he rfl ?_) | (refine ldE1 hR he rfl ?_)) | ((with_reducible show IxS _ _ _ _ _); first | ((refine ixE hR hx ?_ ?_; (first | rfl | omega))) | ((refine ixE hR he ?_ ?_; (first | rfl | omega)))) | ((with_reducible show LdN _ _ _ _ _); first | (refine ldNEi hR hx rfl ?_) | (refine ldNEi hR he rfl ?_)) | (refine ari ?_ ?_; omega) | (refine aru ?_ ?_; omega) | (apply sel; exact rfl) | (refine ix0 rfl ?_) | (refine ix1 rfl ?_) | (refine ix2 rfl ?_) | (refine ix3 rfl ?_) | (apply ixj; omega) | (refine ixn ?_ ?_; omega) | (refine ixs0 rfl ?_) | (refine ixs1 rfl ?_) | (refine ixs_j ?_ ?_; omega) | (refine ixs_n ?_ ?_; omega) | (apply ld_o; exact rfl) | (apply ldN_a; exact rfl) | (apply ldN_o; (exact rfl); exact rfl) | (apply st_o; (exact rfl); exact rfl) | (apply stN_o; (exact rfl); (exact rfl); exact rfl) | (refine new_i (fun bk hbk => ?_)) | (apply when_dE; (exact rfl); (exact rfl); all_goals intro hc) | (apply when_dF; (exact rfl); (exact rfl); all_goals intro hc) | (apply when_nE; (exact rfl); (exact rfl); all_goals intro hc) | (apply when_nF; (exact rfl); (exact rfl); all_goals intro hc) | (apply br_dE; (exact rfl); all_goals intro hc) | (apply br_nE; (exact rfl); all_goals intro hc) | (refine mm_min ?_) | (refine mm_max ?_) | (refine rem_i ?_ ?_; omega) | (refine SelN.mk ?_) | (refine cut_n ?_) | (refine Both.mk ?_ ?_) | (exact True.intro))
      exact ⟨c, ⟨by omega, hI⟩, by omega, (by repeat' (first | exact True.intro | refine And.intro ?_ ?_ | exact rfl | exact vi (by omega) | (dsimp only; exact rfl) | (dsimp only; exact vi (by omega)))), (by first | exact ent_i | (repeat (first | exact Ent.refl | exact Ent.left | refine Ent.cons ?_ | refine Ent.app ?_)))⟩
/-- What counts, so many events gone through. -/
def cntL (l : List EH) : Nat → List Bool
  | 0 => List.replicate l.length false
  | i + 1 => if knd l i = 4 then ((cntL l i).set i (decide (knd l i ≠ 3))).set (bgL l (thr l i) i).toNat true else (cntL l i).set i (decide (knd l i ≠ 3))
theorem cntL_len (l : List EH) : ∀ i, (cntL l i).length = l.length
  | 0 => by simp [cntL]
  | i + 1 => by unfold cntL; split <;> simp [cntL_len l i]
theorem sp_rcounts {n : Nat} (hw : Wf l n) (hR : RdE EH.enc 6 W0 own a l) (hl : l.length ≤ 65536) :
    Spec Tryd.prog W0 70 [.slice a l.length cap] own fun v own' => ∃ b, v = .slice (some ⟨b, 0, none⟩) l.length l.length ∧ own' = canE encB 4 b (cntL l l.length) :: own := by
  refine spec_of mixed low_ref24_counts (by simp [ir_ref24_counts]) ?_
  repeat' ((try (conv => whnf)); first | (refine when_ye ?_ ?_; exact rfl) | (refine when_ne ?_ ?_; exact rfl) | (refine br_te ?_ ?_; exact rfl) | (refine br_fe ?_ ?_; exact rfl) | (apply br_pyE; (exact rfl); omega) | (apply br_pnE; (exact rfl); omega) | (apply when_pyE; (exact rfl); omega) | (apply when_pnE; (exact rfl); omega) | (apply br_npyE; (exact rfl); omega) | (apply br_npnE; (exact rfl); omega) | (apply when_npyE; (exact rfl); omega) | (apply when_npnE; (exact rfl); omega) | (refine mkC (enc := encB) l.length false rfl rfl rfl (by omega) (fun b => ?_)) | (refine ari ?_ ?_; omega) | (refine aru ?_ ?_; omega) | (apply sel; exact rfl) | (refine ix0 rfl ?_) | (refine ix1 rfl ?_) | (refine ix2 rfl ?_) | (refine ix3 rfl ?_) | (apply ixj; omega) | (refine ixn ?_ ?_; omega) | (refine ixs0 rfl ?_) | (refine ixs1 rfl ?_) | (refine ixs_j ?_ ?_; omega) | (refine ixs_n ?_ ?_; omega) | (apply ld_o; exact rfl) | (apply ldN_a; exact rfl) | (apply ldN_o; (exact rfl); exact rfl) | (apply st_o; (exact rfl); exact rfl) | (apply stN_o; (exact rfl); (exact rfl); exact rfl) | (refine new_i (fun bk hbk => ?_)) | (apply when_dE; (exact rfl); (exact rfl); all_goals intro hc) | (apply when_dF; (exact rfl); (exact rfl); all_goals intro hc) | (apply when_nE; (exact rfl); (exact rfl); all_goals intro hc) | (apply when_nF; (exact rfl); (exact rfl); all_goals intro hc) | (apply br_dE; (exact rfl); all_goals intro hc) | (apply br_nE; (exact rfl); all_goals intro hc) | (refine mm_min ?_) | (refine mm_max ?_) | (refine rem_i ?_ ?_; omega) | (refine SelN.mk ?_) | (refine cut_n ?_) | (refine Both.mk ?_ ?_) | (exact True.intro))
  refine loop_i (σ := Nat) (fun i => [(4, .int .i64 i)]) (fun i => canE encB 4 b (cntL l i) :: own) (fun i => i ≤ l.length) (fun i => l.length - i) 0 (by omega) (by repeat' (first | exact True.intro | refine And.intro ?_ ?_ | exact rfl | exact vi (by omega) | (dsimp only; exact rfl) | (dsimp only; exact vi (by omega)))) Ent.refl rfl ?_
  intro i junk hi
  have hcl := cntL_len l i
  by_cases hlt : i < l.length
  · obtain ⟨e, he⟩ : ∃ e, l[i]? = some e := ⟨_, List.getElem?_eq_getElem hlt⟩
    have hlt' : (i : Int) < l.length := by omega
    have hke : knd l i = e.k := by unfold knd; rw [at_get he]
    have hnx : cntL l (i + 1) = if e.k = 4 then ((cntL l i).set i (decide (e.k ≠ 3))).set (bgL l (thr l i) i).toNat true else (cntL l i).set i (decide (e.k ≠ 3)) := by rw [cntL, hke]
    generalize cntL l i = c at *
    obtain ⟨x, hx⟩ : ∃ x, c[i]? = some x := ⟨_, List.getElem?_eq_getElem (by omega)⟩
    have hw1 : ∀ x ∈ c, (encB x).length = 1 := fun _ _ => rfl
    have hw2 : ∀ x ∈ c.set i (decide (e.k ≠ 3)), (encB x).length = 1 := fun _ _ => rfl
    have hl2 : l.length = (c.set i (decide (e.k ≠ 3))).length := by rw [List.length_set, hcl]
    by_cases h4 : e.k = 4
    · rw [if_pos h4] at hnx
      obtain ⟨p, hp, hp3⟩ := hw.en i hlt (hke.trans h4)
      have hbg := sp_rbegin (W0 := W0) (own := canE encB 4 b (c.set i (decide (e.k ≠ 3))) :: own) (cap := cap) hR.up hl hlt
      rw [bg_prev hp] at hbg hnx
      rw [Int.toNat_natCast] at hnx
      have hp1 := hp.1
      obtain ⟨y, hy⟩ : ∃ y, (c.set i (decide (e.k ≠ 3)))[p]? = some y := ⟨_, List.getElem?_eq_getElem (by rw [List.length_set]; omega)⟩
      repeat' ((try (conv => whnf)); first | (refine when_ye ?_ ?_; exact rfl) | (refine when_ne ?_ ?_; exact rfl) | (refine br_te ?_ ?_; exact rfl) | (refine br_fe ?_ ?_; exact rfl) | (apply br_pyE; (exact rfl); omega) | (apply br_pnE; (exact rfl); omega) | (apply when_pyE; (exact rfl); omega) | (apply when_pnE; (exact rfl); omega) | (apply br_npyE; (exact rfl); omega) | (apply br_npnE; (exact rfl); omega) | (apply when_npyE; (exact rfl); omega) | (apply when_npnE; (exact rfl); omega) | (refine br_pyE ?_ hlt' ?_; exact rfl) | (refine br_pnE ?_ hlt' ?_; exact rfl) | (refine when_pyE ?_ hlt' ?_; exact rfl) | (refine when_pnE ?_ hlt' ?_; exact rfl) | (refine br_npyE ?_ hlt' ?_; exact rfl) | (refine br_npnE ?_ hlt' ?_; exact rfl) | (refine when_npyE ?_ hlt' ?_; exact rfl) | (refine when_npnE ?_ hlt' ?_; exact rfl) | (refine br_pyE ?_ h4 ?_; exact rfl) | (refine br_pnE ?_ h4 ?_; exact rfl) | (refine when_pyE ?_ h4 ?_; exact rfl) | (refine when_pnE ?_ h4 ?_; exact rfl) | (refine br_npyE ?_ h4 ?_; exact rfl) | (refine br_npnE ?_ h4 ?_; exact rfl) | (refine when_npyE ?_ h4 ?_; exact rfl) | (refine when_npnE ?_ h4 ?_; exact rfl) | (apply stC (T := 4) (k := 0) (decide (e.k ≠ 3)) hw1 hx; (exact rfl); (omega); (first | exact rfl | simp); (exact rfl)) | (apply stC (T := 4) (k := 0) true hw2 hy; (exact rfl); (omega); (exact rfl); (exact rfl)) | ((with_reducible show Ld _ _ _ _); first | (refine ldE0 hR he rfl ?_) | (refine ldEk hR he rfl ?_) | (refine ldE1 hR he rfl ?_) | (refine ldC0 hw1 hx rfl ?_) | (refine ldC1 hw1 hx rfl ?_) | (refine ldC hw1 hx rfl ?_) | (refine ldC0 hw2 hy rfl ?_) | (refine ldC1 hw2 hy rfl ?_) | (refine ldC hw2 hy rfl ?_)) | ((with_reducible show IxS _ _ _ _ _); first | ((refine ixE hR he ?_ ?_; (first | rfl | omega))) | ((refine ixC hx hcl.symm ?_ ?_; (first | rfl | omega))) | ((refine ixC hy hl2 ?_ ?_; (first | rfl | omega)))) | ((with_reducible show LdN _ _ _ _ _); first | (refine ldNEi hR he rfl ?_) | (refine ldNC hw1 hx rfl ?_) | (refine ldNC hw2 hy rfl ?_)) | ((with_reducible show CallT _ _ _ _ _ _); first | ((refine call_pe (hbg) ?_ ?_ ?_; (exact rfl); exact rfl))) | (refine ari ?_ ?_; omega) | (refine aru ?_ ?_; omega) | (apply sel; exact rfl) | (refine ix0 rfl ?_) | (refine ix1 rfl ?_) | (refine ix2 rfl ?_) | (refine ix3 rfl ?_) | (apply ixj; omega) | (refine ixn ?_ ?_; omega) | (refine ixs0 rfl ?_) | (refine ixs1 rfl ?_) | (refine ixs_j ?_ ?_; omega) | (refine ixs_n ?_ ?_; omega) | (apply ld_o; exact rfl) | (apply ldN_a; exact rfl) | (apply ldN_o; (exact rfl); exact rfl) | (apply st_o; (exact rfl); exact rfl) | (apply stN_o; (exact rfl); (exact rfl); exact rfl) | (refine new_i (fun bk hbk => ?_)) | (apply when_dE; (exact rfl); (exact rfl); all_goals intro hc) | (apply when_dF; (exact rfl); (exact rfl); all_goals intro hc) | (apply when_nE; (exact rfl); (exact rfl); all_goals intro hc) | (apply when_nF; (exact rfl); (exact rfl); all_goals intro hc) | (apply br_dE; (exact rfl); all_goals intro hc) | (apply br_nE; (exact rfl); all_goals intro hc) | (refine mm_min ?_) | (refine mm_max ?_) | (refine rem_i ?_ ?_; omega) | (refine SelN.mk ?_) | (refine cut_n ?_) | (refine Both.mk ?_ ?_) | (exact True.intro))
      exact ⟨i + 1, by omega, by omega, (by repeat' (first | exact True.intro | refine And.intro ?_ ?_ | exact rfl | exact vi (by omega) | (dsimp only; exact rfl) | (dsimp only; exact vi (by omega)))), by rw [hnx]; exact Ent.refl⟩
    · rw [if_neg h4] at hnx
      repeat' ((try (conv => whnf)); first | (refine when_ye ?_ ?_; exact rfl) | (refine when_ne ?_ ?_; exact rfl) | (refine br_te ?_ ?_; exact rfl) | (refine br_fe ?_ ?_; exact rfl) | (apply br_pyE; (exact rfl); omega) | (apply br_pnE; (exact rfl); omega) | (apply when_pyE; (exact rfl); omega) | (apply when_pnE; (exact rfl); omega) | (apply br_npyE; (exact rfl); omega) | (apply br_npnE; (exact rfl); omega) | (apply when_npyE; (exact rfl); omega) | (apply when_npnE; (exact rfl); omega) | (refine br_pyE ?_ hlt' ?_; exact rfl) | (refine br_pnE ?_ hlt' ?_; exact rfl) | (refine when_pyE ?_ hlt' ?_; exact rfl) | (refine when_pnE ?_ hlt' ?_; exact rfl) | (refine br_npyE ?_ hlt' ?_; exact rfl) | (refine br_npnE ?_ hlt' ?_; exact rfl) | (refine when_npyE ?_ hlt' ?_; exact rfl) | (refine when_npnE ?_ hlt' ?_; exact rfl) | (refine br_pyE ?_ h4 ?_; exact rfl) | (refine br_pnE ?_ h4 ?_; exact rfl) | (refine when_pyE ?_ h4 ?_; exact rfl) | (refine when_pnE ?_ h4 ?_; exact rfl) | (refine br_npyE ?_ h4 ?_; exact rfl) | (refine br_npnE ?_ h4 ?_; exact rfl) | (refine when_npyE ?_ h4 ?_; exact rfl) | (refine when_npnE ?_ h4 ?_; exact rfl) | (apply stC (T := 4) (k := 0) (decide (e.k ≠ 3)) hw1 hx; (exact rfl); (omega); (first | exact rfl | simp); (exact rfl)) | ((with_reducible show Ld _ _ _ _); first | (refine ldE0 hR he rfl ?_) | (refine ldEk hR he rfl ?_) | (refine ldE1 hR he rfl ?_) | (refine ldC0 hw1 hx rfl ?_) | (refine ldC1 hw1 hx rfl ?_) | (refine ldC hw1 hx rfl ?_)) | ((with_reducible show IxS _ _ _ _ _); first | ((refine ixE hR he ?_ ?_; (first | rfl | omega))) | ((refine ixC hx hcl.symm ?_ ?_; (first | rfl | omega)))) | ((with_reducible show LdN _ _ _ _ _); first | (refine ldNEi hR he rfl ?_) | (refine ldNC hw1 hx rfl ?_)) | (refine ari ?_ ?_; omega) | (refine aru ?_ ?_; omega) | (apply sel; exact rfl) | (refine ix0 rfl ?_) | (refine ix1 rfl ?_) | (refine ix2 rfl ?_) | (refine ix3 rfl ?_) | (apply ixj; omega) | (refine ixn ?_ ?_; omega) | (refine ixs0 rfl ?_) | (refine ixs1 rfl ?_) | (refine ixs_j ?_ ?_; omega) | (refine ixs_n ?_ ?_; omega) | (apply ld_o; exact rfl) | (apply ldN_a; exact rfl) | (apply ldN_o; (exact rfl); exact rfl) | (apply st_o; (exact rfl); exact rfl) | (apply stN_o; (exact rfl); (exact rfl); exact rfl) | (refine new_i (fun bk hbk => ?_)) | (apply when_dE; (exact rfl); (exact rfl); all_goals intro hc) | (apply when_dF; (exact rfl); (exact rfl); all_goals intro hc) | (apply when_nE; (exact rfl); (exact rfl); all_goals intro hc) | (apply when_nF; (exact rfl); (exact rfl); all_goals intro hc) | (apply br_dE; (exact rfl); all_goals intro hc) | (apply br_nE; (exact rfl); all_goals intro hc) | (refine mm_min ?_) | (refine mm_max ?_) | (refine rem_i ?_ ?_; omega) | (refine SelN.mk ?_) | (refine cut_n ?_) | (refine Both.mk ?_ ?_) | (exact True.intro))
      exact ⟨i + 1, by omega, by omega, (by repeat' (first | exact True.intro | refine And.intro ?_ ?_ | exact rfl | exact vi (by omega) | (dsimp only; exact rfl) | (dsimp only; exact vi (by omega)))), by rw [hnx]; exact Ent.refl⟩
  · have hlt' : ¬ (i : Int) < l.length := by omega
    have hi2 : i = l.length := by omega
    repeat' ((try (conv => whnf)); first | (refine when_ye ?_ ?_; exact rfl) | (refine when_ne ?_ ?_; exact rfl) | (refine br_te ?_ ?_; exact rfl) | (refine br_fe ?_ ?_; exact rfl) | (apply br_pyE; (exact rfl); omega) | (apply br_pnE; (exact rfl); omega) | (apply when_pyE; (exact rfl); omega) | (apply when_pnE; (exact rfl); omega) | (apply br_npyE; (exact rfl); omega) | (apply br_npnE; (exact rfl); omega) | (apply when_npyE; (exact rfl); omega) | (apply when_npnE; (exact rfl); omega) | (refine br_pyE ?_ hlt' ?_; exact rfl) | (refine br_pnE ?_ hlt' ?_; exact rfl) | (refine when_pyE ?_ hlt' ?_; exact rfl) | (refine when_pnE ?_ hlt' ?_; exact rfl) | (refine br_npyE ?_ hlt' ?_; exact rfl) | (refine br_npnE ?_ hlt' ?_; exact rfl) | (refine when_npyE ?_ hlt' ?_; exact rfl) | (refine when_npnE ?_ hlt' ?_; exact rfl) | (refine ari ?_ ?_; omega) | (refine aru ?_ ?_; omega) | (apply sel; exact rfl) | (refine ix0 rfl ?_) | (refine ix1 rfl ?_) | (refine ix2 rfl ?_) | (refine ix3 rfl ?_) | (apply ixj; omega) | (refine ixn ?_ ?_; omega) | (refine ixs0 rfl ?_) | (refine ixs1 rfl ?_) | (refine ixs_j ?_ ?_; omega) | (refine ixs_n ?_ ?_; omega) | (apply ld_o; exact rfl) | (apply ldN_a; exact rfl) | (apply ldN_o; (exact rfl); exact rfl) | (apply st_o; (exact rfl); exact rfl) | (apply stN_o; (exact rfl); (exact rfl); exact rfl) | (refine new_i (fun bk hbk => ?_)) | (apply when_dE; (exact rfl); (exact rfl); all_goals intro hc) | (apply when_dF; (exact rfl); (exact rfl); all_goals intro hc) | (apply when_nE; (exact rfl); (exact rfl); all_goals intro hc) | (apply when_nF; (exact rfl); (exact rfl); all_goals intro hc) | (apply br_dE; (exact rfl); all_goals intro hc) | (apply br_nE; (exact rfl); all_goals intro hc) | (refine mm_min ?_) | (refine mm_max ?_) | (refine rem_i ?_ ?_; omega) | (refine SelN.mk ?_) | (refine cut_n ?_) | (refine Both.mk ?_ ?_) | (exact True.intro))
    exact ⟨b, rfl, by rw [hi2]⟩
end
end Go.Proofs.YtofjnldidkiihaaDoor
namespace Go.Proofs.YtofjnldidkiihaaDoor
open Go
set_option maxRecDepth 10000
set_option maxHeartbeats 4000000
def rowL (n : Nat) (g : Nat → Bool) : List Bool := (List.range n).map g
theorem rowL_len (n : Nat) (g : Nat → Bool) : (rowL n g).length = n := by simp [rowL]
theorem rowL_get {n j : Nat} {g : Nat → Bool} (hj : j < n) : (rowL n g)[j]? = some (g j) := by simp [rowL, hj]
theorem rowL_congr {n : Nat} {g g' : Nat → Bool} (h : ∀ j, j < n → g j = g' j) : rowL n g = rowL n g' := List.map_congr_left fun j hj => h j (List.mem_range.1 hj)
theorem rowL_set {n j : Nat} {g : Nat → Bool} {v : Bool} : (rowL n g).set j v = rowL n (fun i => if i = j then v else g i) := by
  apply List.ext_getElem?
  intro i
  by_cases hi : i < n
  · rw [rowL_get hi, List.getElem?_set]
    by_cases hij : j = i
    · subst hij; rw [if_pos rfl, if_pos (by rw [rowL_len]; exact hi), if_pos rfl]
    · rw [if_neg hij, rowL_get hi, if_neg (Ne.symm hij)]
  · rw [List.getElem?_eq_none (by rw [List.length_set, rowL_len]; omega), List.getElem?_eq_none (by rw [rowL_len]; omega)]
theorem rowL_rep (n : Nat) : List.replicate n false = rowL n (fun _ => false) := by
  apply List.ext_getElem?
  intro i
  by_cases hi : i < n
  · rw [rowL_get hi]; simp [hi]
  · rw [List.getElem?_eq_none (by simp; omega), List.getElem?_eq_none (by rw [rowL_len]; omega)]
/-- Rows that lie in blocks of their own. -/
def rowsO (T : TypeId) (n : Nat) (f : Nat → Nat → Bool) : List Nat → Nat → Own
  | [], _ => []
  | b :: bs, i => canE encB T b (rowL n (f i)) :: rowsO T n f bs (i + 1)
theorem rowsO_snoc (T : TypeId) (n : Nat) (f : Nat → Nat → Bool) (b : Nat) : ∀ (bs : List Nat) (i : Nat), rowsO T n f (bs ++ [b]) i = rowsO T n f bs i ++ [canE encB T b (rowL n (f (i + bs.length)))]
  | [], i => rfl
  | c :: bs, i => by
    simp only [List.cons_append, rowsO, List.length_cons]
    rw [rowsO_snoc T n f b bs (i + 1), show i + 1 + bs.length = i + (bs.length + 1) by omega]
theorem rowsO_congr {T : TypeId} {n : Nat} {f f' : Nat → Nat → Bool} : ∀ (bs : List Nat) (i : Nat), (∀ a j, i ≤ a → a < i + bs.length → j < n → f a j = f' a j) → rowsO T n f bs i = rowsO T n f' bs i
  | [], _, _ => rfl
  | b :: bs, i, h => by
    simp only [rowsO]
    rw [rowL_congr (fun j hj => h i j (Nat.le_refl i) (by simp) hj), rowsO_congr bs (i + 1) (fun a j h1 h2 hj => h a j (by omega) (by simp only [List.length_cons]; omega) hj)]
theorem rowsO_at {T : TypeId} {n : Nat} {f : Nat → Nat → Bool} : ∀ (bs : List Nat) (s i b : Nat), bs[i]? = some b → ∃ C : Own → Own, At [canE encB T b (rowL n (f (s + i)))] (rowsO T n f bs s) C ∧ ∀ g : Nat → Bool, C [canE encB T b (rowL n g)] = rowsO T n (fun a => if a = s + i then g else f a) bs s
  | [], _, _, _, h => by simp at h
  | c :: bs, s, 0, b, h => by
    simp only [List.getElem?_cons_zero, Option.some.injEq] at h
    subst h
    refine ⟨fun X => X ++ rowsO T n f bs (s + 1), At.head (D := [_]), fun g => ?_⟩
    simp only [rowsO, Nat.add_zero, if_true, List.cons_append, List.nil_append]
    rw [rowsO_congr (f' := fun a => if a = s then g else f a) bs (s + 1) (fun a j h1 _ _ => by rw [if_neg (by omega)])]
  | c :: bs, s, i + 1, b, h => by
    obtain ⟨C, h1, h2⟩ := rowsO_at (T := T) (n := n) (f := f) bs (s + 1) i b (by simpa using h)
    rw [show s + 1 + i = s + (i + 1) by omega] at h1 h2
    refine ⟨fun X => canE encB T c (rowL n (f s)) :: C X, At.tail h1, fun g => ?_⟩
    simp only [rowsO]
    rw [h2 g, if_neg (by omega)]
abbrev encR (n b : Nat) : List Value := [.slice (some ⟨b, 0, none⟩) n n]
def isB (l : List EH) (i : Nat) : Bool := (cntL l l.length).getD i false
def dirB (l : List EH) (i j : Nat) : Bool := decide (i < j) && (isB l i && isB l j && (decide (thr l i = thr l j) || (decide (knd l i = 4) && (decide (knd l j = 4) || decide (knd l j = 3)))))
/-- The closure under way: place k, row i, column j. -/
def clS (h : Nat → Nat → Bool) (k i j : Nat) : Nat → Nat → Bool := fun a b => if a < i ∨ (a = i ∧ b < j) then stepK h k a b else h a b
section
variable {h : Nat → Nat → Bool} {k i j : Nat}
theorem stepK_le {a b : Nat} (hb : b ≤ k) : stepK h k a b = h a b := by unfold stepK; rw [if_neg (by omega)]
theorem clS_0 (a b : Nat) : clS h k 0 (k + 1) a b = h a b := by
  unfold clS
  split
  · exact stepK_le (by omega)
  · rfl
theorem clS_ik (hj : k < j) : clS h k i j i k = h i k := by unfold clS; rw [if_pos (.inr ⟨rfl, hj⟩), stepK_le (Nat.le_refl k)]
theorem clS_ij : clS h k i j i j = h i j := by unfold clS; rw [if_neg (by omega)]
theorem clS_kj (hik : i < k) : clS h k i j k j = h k j := by unfold clS; rw [if_neg (by omega)]
theorem clS_next {a b : Nat} (hik : i < k) (hj : k < j) (ht : h i k = true) : (if a = i then (fun x => if x = j then h i j || h k j else clS h k i j i x) else clS h k i j a) b = clS h k i (j + 1) a b := by
  by_cases ha : a = i
  · subst ha
    rw [if_pos rfl]
    by_cases hb : b = j
    · subst hb
      simp only [if_true]
      unfold clS
      rw [if_pos (.inr ⟨rfl, by omega⟩)]
      unfold stepK
      rw [if_pos ⟨hik, hj, ht⟩]
    · simp only [hb, if_false]
      unfold clS
      by_cases hbj : b < j
      · rw [if_pos (.inr ⟨rfl, hbj⟩), if_pos (.inr ⟨rfl, by omega⟩)]
      · rw [if_neg (by omega), if_neg (by omega)]
  · rw [if_neg ha]
    unfold clS
    by_cases hai : a < i
    · rw [if_pos (.inl hai), if_pos (.inl hai)]
    · rw [if_neg (by omega), if_neg (by omega)]
theorem clS_row {n a b : Nat} (hb : b < n) : clS h k i n a b = clS h k (i + 1) (k + 1) a b := by
  unfold clS
  by_cases ha : a < i
  · rw [if_pos (.inl ha), if_pos (.inl (by omega))]
  · by_cases ha2 : a = i
    · rw [if_pos (.inr ⟨ha2, hb⟩), if_pos (.inl (by omega))]
    · rw [if_neg (by omega)]
      split
      · exact (stepK_le (by omega)).symm
      · rfl
theorem clS_skip {a b : Nat} (hf : h i k = false) : clS h k i j a b = clS h k (i + 1) (k + 1) a b := by
  have hs : ∀ b, stepK h k i b = h i b := fun b => by unfold stepK; rw [if_neg (fun hh => by rw [hf] at hh; cases hh.2.2)]
  unfold clS
  by_cases ha : a < i
  · rw [if_pos (.inl ha), if_pos (.inl (by omega))]
  · by_cases ha2 : a = i
    · subst ha2
      rw [if_pos (c := a < a + 1 ∨ _) (.inl (by omega)), hs]
      split <;> rfl
    · rw [if_neg (by omega)]
      split
      · exact (stepK_le (by omega)).symm
      · rfl
theorem clS_end (a b : Nat) : clS h k k (k + 1) a b = stepK h k a b := by
  unfold clS
  split
  · rfl
  · unfold stepK; rw [if_neg (by omega)]
end
theorem ldS0 {α : Type} {enc : α → List Value} {sz : Nat} {W0 : World} {own own' : Own} {l : List α} {b j : Nat} {x : α} {v : Value} {K : Value → Prop} (h : RdE enc sz W0 own' (some ⟨b, 0, none⟩) l) (hx : l[j]? = some x) [m : EntC own own'] (hv : (enc x)[0]? = some v) (hk : K v) : Ld W0 own ⟨b, j * sz, none⟩ K := by
  have := ldE0 (own := own) h hx hv hk
  simp only [ab, ao, Nat.zero_add] at this
  exact this
theorem rowsO_rd {W0 : World} {T : TypeId} {n : Nat} {f : Nat → Nat → Bool} {bs : List Nat} {i b : Nat} (hb : bs[i]? = some b) : RdE encB 1 W0 (rowsO T n f bs 0) (some ⟨b, 0, none⟩) (rowL n (f i)) := by
  obtain ⟨C, h, _⟩ := rowsO_at (T := T) (n := n) (f := f) bs 0 i b hb
  rw [Nat.zero_add] at h
  exact (can_rd (enc := encB) (sz := 1) (fun _ _ => rfl)).ent h.self
section
variable {W0 : World} {own : Own} {a : Option Addr} {cap : Nat} {l : List EH}
theorem sp_rclosure {m : Nat} (hw : Wf l m) (hR : RdE EH.enc 6 W0 own a l) (hl : l.length ≤ 65536) :
    Spec Tryd.prog W0 52 [.slice a l.length cap] own fun v own' => ∃ ha hc D bs, v = .slice ha (List.length bs) hc ∧ BufE (encR l.length) 80 1 ha hc bs D ∧ List.length bs = l.length ∧ Ent W0 own' (D ++ (rowsO 4 l.length (clos (dirB l) l.length) bs 0 ++ own)) := by
  refine spec_of mixed low_ref24_closure (by simp [ir_ref24_closure]) ?_
  have hcn := sp_rcounts (cap := cap) hw hR hl
  repeat' ((try (conv => whnf)); first | (refine when_ye ?_ ?_; exact rfl) | (refine when_ne ?_ ?_; exact rfl) | (refine br_te ?_ ?_; exact rfl) | (refine br_fe ?_ ?_; exact rfl) | (apply br_pyE; (exact rfl); omega) | (apply br_pnE; (exact rfl); omega) | (apply when_pyE; (exact rfl); omega) | (apply when_pnE; (exact rfl); omega) | (apply br_npyE; (exact rfl); omega) | (apply br_npnE; (exact rfl); omega) | (apply when_npyE; (exact rfl); omega) | (apply when_npnE; (exact rfl); omega) | ((with_reducible show CallT _ _ _ _ _ _); first | ((refine call_se hcn ?_ ?_ (fun v own' hv => ?_); (exact rfl); (exact rfl); (obtain ⟨b, rfl, rfl⟩ := hv)))) | (refine ari ?_ ?_; omega) | (refine aru ?_ ?_; omega) | (apply sel; exact rfl) | (refine ix0 rfl ?_) | (refine ix1 rfl ?_) | (refine ix2 rfl ?_) | (refine ix3 rfl ?_) | (apply ixj; omega) | (refine ixn ?_ ?_; omega) | (refine ixs0 rfl ?_) | (refine ixs1 rfl ?_) | (refine ixs_j ?_ ?_; omega) | (refine ixs_n ?_ ?_; omega) | (apply ld_o; exact rfl) | (apply ldN_a; exact rfl) | (apply ldN_o; (exact rfl); exact rfl) | (apply st_o; (exact rfl); exact rfl) | (apply stN_o; (exact rfl); (exact rfl); exact rfl) | (refine new_i (fun bk hbk => ?_)) | (apply when_dE; (exact rfl); (exact rfl); all_goals intro hc) | (apply when_dF; (exact rfl); (exact rfl); all_goals intro hc) | (apply when_nE; (exact rfl); (exact rfl); all_goals intro hc) | (apply when_nF; (exact rfl); (exact rfl); all_goals intro hc) | (apply br_dE; (exact rfl); all_goals intro hc) | (apply br_nE; (exact rfl); all_goals intro hc) | (refine mm_min ?_) | (refine mm_max ?_) | (refine rem_i ?_ ?_; omega) | (refine SelN.mk ?_) | (refine cut_n ?_) | (refine Both.mk ?_ ?_) | (exact True.intro))
  have hcl := cntL_len l l.length
  have hisb : ∀ i, i < l.length → (cntL l l.length)[i]? = some (isB l i) := fun i hi => by
    unfold isB
    rw [List.getD_eq_getElem?_getD, List.getElem?_eq_getElem (by omega)]
    rfl
  generalize cntL l l.length = c at *
  have hwc : ∀ x ∈ c, (encB x).length = 1 := fun _ _ => rfl
  -- the rows are made
  refine loop_i (σ := List Nat × Option Addr × Nat × Own) (fun s => [(5, .slice s.2.1 s.1.length s.2.2.1), (6, .int .i64 s.1.length)]) (fun s => s.2.2.2 ++ (rowsO 4 l.length (dirB l) s.1 0 ++ (canE encB 4 b c :: own)))
    (fun s => s.1.length ≤ l.length ∧ BufE (encR l.length) 80 1 s.2.1 s.2.2.1 s.1 s.2.2.2) (fun s => l.length - s.1.length) ([], none, 0, []) ⟨by simp, BufE.nil⟩ (by repeat' (first | exact True.intro | refine And.intro ?_ ?_ | exact rfl | exact vi (by omega) | (dsimp only; exact rfl) | (dsimp only; exact vi (by omega)))) Ent.refl rfl ?_
  rintro ⟨bs, ha, hc, D⟩ junk ⟨hi, hB⟩
  dsimp only at hi hB ⊢
  by_cases hlt : bs.length < l.length
  · obtain ⟨e, he⟩ : ∃ e, l[bs.length]? = some e := ⟨_, List.getElem?_eq_getElem hlt⟩
    have hlt' : (bs.length : Int) < l.length := by omega
    repeat' ((try (conv => whnf)); first | (refine when_ye ?_ ?_; exact rfl) | (refine when_ne ?_ ?_; exact rfl) | (refine br_te ?_ ?_; exact rfl) | (refine br_fe ?_ ?_; exact rfl) | (apply br_pyE; (exact rfl); omega) | (apply br_pnE; (exact rfl); omega) | (apply when_pyE; (exact rfl); omega) | (apply when_pnE; (exact rfl); omega) | (apply br_npyE; (exact rfl); omega) | (apply br_npnE; (exact rfl); omega) | (apply when_npyE; (exact rfl); omega) | (apply when_npnE; (exact rfl); omega) | (refine br_pyE ?_ hlt' ?_; exact rfl) | (refine br_pnE ?_ hlt' ?_; exact rfl) | (refine when_pyE ?_ hlt' ?_; exact rfl) | (refine when_pnE ?_ hlt' ?_; exact rfl) | (refine br_npyE ?_ hlt' ?_; exact rfl) | (refine br_npnE ?_ hlt' ?_; exact rfl) | (refine when_npyE ?_ hlt' ?_; exact rfl) | (refine when_npnE ?_ hlt' ?_; exact rfl) | (refine mkC (enc := encB) l.length false rfl rfl rfl (by omega) (fun br => ?_)) | (refine ari ?_ ?_; omega) | (refine aru ?_ ?_; omega) | (apply sel; exact rfl) | (refine ix0 rfl ?_) | (refine ix1 rfl ?_) | (refine ix2 rfl ?_) | (refine ix3 rfl ?_) | (apply ixj; omega) | (refine ixn ?_ ?_; omega) | (refine ixs0 rfl ?_) | (refine ixs1 rfl ?_) | (refine ixs_j ?_ ?_; omega) | (refine ixs_n ?_ ?_; omega) | (apply ld_o; exact rfl) | (apply ldN_a; exact rfl) | (apply ldN_o; (exact rfl); exact rfl) | (apply st_o; (exact rfl); exact rfl) | (apply stN_o; (exact rfl); (exact rfl); exact rfl) | (refine new_i (fun bk hbk => ?_)) | (apply when_dE; (exact rfl); (exact rfl); all_goals intro hc) | (apply when_dF; (exact rfl); (exact rfl); all_goals intro hc) | (apply when_nE; (exact rfl); (exact rfl); all_goals intro hc) | (apply when_nF; (exact rfl); (exact rfl); all_goals intro hc) | (apply br_dE; (exact rfl); all_goals intro hc) | (apply br_nE; (exact rfl); all_goals intro hc) | (refine mm_min ?_) | (refine mm_max ?_) | (refine rem_i ?_ ?_; omega) | (refine SelN.mk ?_) | (refine cut_n ?_) | (refine Both.mk ?_ ?_) | (exact True.intro))
    refine loop_i (σ := Nat) (fun j => [(8, .int .i64 j)]) (fun j => canE encB 4 br (rowL l.length fun j' => decide (j' < j) && dirB l bs.length j') :: (D ++ (rowsO 4 l.length (dirB l) bs 0 ++ (canE encB 4 b c :: own))))
      (fun j => bs.length < j ∧ j ≤ l.length) (fun j => l.length - j) (bs.length + 1) ⟨by omega, by omega⟩ (by repeat' (first | exact True.intro | refine And.intro ?_ ?_ | exact rfl | exact vi (by omega) | (dsimp only; exact rfl) | (dsimp only; exact vi (by omega)))) ?_ rfl ?_
    · rw [rowL_rep, rowL_congr (g' := fun j' => decide (j' < bs.length + 1) && dirB l bs.length j')]
      · exact Ent.refl
      · intro j hj
        unfold dirB
        by_cases h1 : bs.length < j
        · simp; omega
        · simp [h1]
    rintro j junk2 ⟨hj1, hj2⟩
    by_cases hjl : j < l.length
    · obtain ⟨x, hx⟩ : ∃ x, l[j]? = some x := ⟨_, List.getElem?_eq_getElem hjl⟩
      have hjl' : (j : Int) < l.length := by omega
      have hci := hisb bs.length hlt
      have hcj := hisb j hjl
      have hd : dirB l bs.length j = (isB l bs.length && isB l j && (decide (e.t = x.t) || (decide (e.k = 4) && (decide (x.k = 4) || decide (x.k = 3))))) := by
        unfold dirB thr knd
        rw [at_get he, at_get hx, decide_eq_true hj1, Bool.true_and]
      have hw1 : ∀ y ∈ rowL l.length (fun j' => decide (j' < j) && dirB l bs.length j'), (encB y).length = 1 := fun _ _ => rfl
      have hn1 := (rowL_len l.length (fun j' => decide (j' < j) && dirB l bs.length j')).symm
      have hx1 := rowL_get (g := fun j' => decide (j' < j) && dirB l bs.length j') hjl
      have hset : (rowL l.length (fun j' => decide (j' < j) && dirB l bs.length j')).set j (dirB l bs.length j) = rowL l.length (fun j' => decide (j' < j + 1) && dirB l bs.length j') := by
        rw [rowL_set]
        refine rowL_congr fun i _ => ?_
        by_cases hij : i = j
        · subst hij; simp
        · rw [if_neg hij]
          by_cases h2 : i < j
          · simp [h2, show i < j + 1 by omega]
          · simp [h2, show ¬ i < j + 1 by omega]
      generalize hdv : dirB l bs.length j = dv at hd hset
      generalize isB l bs.length = ci at *
      generalize isB l j = cj at *
      cases ci <;> cases cj
      all_goals
        repeat' ((try (conv => whnf)); first | (refine when_ye ?_ ?_; exact rfl) | (refine when_ne ?_ ?_; exact rfl) | (refine br_te ?_ ?_; exact rfl) | (refine br_fe ?_ ?_; exact rfl) | (apply br_pyE; (exact rfl); omega) | (apply br_pnE; (exact rfl); omega) | (apply when_pyE; (exact rfl); omega) | (apply when_pnE; (exact rfl); omega) | (apply br_npyE; (exact rfl); omega) | (apply br_npnE; (exact rfl); omega) | (apply when_npyE; (exact rfl); omega) | (apply when_npnE; (exact rfl); omega) | (refine br_pyE ?_ hjl' ?_; exact rfl) | (refine br_pnE ?_ hjl' ?_; exact rfl) | (refine when_pyE ?_ hjl' ?_; exact rfl) | (refine when_pnE ?_ hjl' ?_; exact rfl) | (refine br_npyE ?_ hjl' ?_; exact rfl) | (refine br_npnE ?_ hjl' ?_; exact rfl) | (refine when_npyE ?_ hjl' ?_; exact rfl) | (refine when_npnE ?_ hjl' ?_; exact rfl) | (apply stC (T := 4) (k := 0) dv hw1 hx1; (exact rfl); (omega); (subst hd; simp [*]); (exact rfl)) | ((with_reducible show Ld _ _ _ _); first | (refine ldE0 hR he rfl ?_) | (refine ldEk hR he rfl ?_) | (refine ldE1 hR he rfl ?_) | (refine ldE0 hR hx rfl ?_) | (refine ldEk hR hx rfl ?_) | (refine ldE1 hR hx rfl ?_) | (refine ldC0 hwc hci rfl ?_) | (refine ldC1 hwc hci rfl ?_) | (refine ldC hwc hci rfl ?_) | (refine ldC0 hwc hcj rfl ?_) | (refine ldC1 hwc hcj rfl ?_) | (refine ldC hwc hcj rfl ?_) | (refine ldC0 hw1 hx1 rfl ?_) | (refine ldC1 hw1 hx1 rfl ?_) | (refine ldC hw1 hx1 rfl ?_)) | ((with_reducible show IxS _ _ _ _ _); first | ((refine ixE hR he ?_ ?_; (first | rfl | omega))) | ((refine ixE hR hx ?_ ?_; (first | rfl | omega))) | ((refine ixC hci hcl.symm ?_ ?_; (first | rfl | omega))) | ((refine ixC hcj hcl.symm ?_ ?_; (first | rfl | omega))) | ((refine ixC hx1 hn1 ?_ ?_; (first | rfl | omega)))) | ((with_reducible show LdN _ _ _ _ _); first | (refine ldNEi hR he rfl ?_) | (refine ldNEi hR hx rfl ?_) | (refine ldNC hwc hci rfl ?_) | (refine ldNC hwc hcj rfl ?_) | (refine ldNC hw1 hx1 rfl ?_)) | (refine ari ?_ ?_; omega) | (refine aru ?_ ?_; omega) | (apply sel; exact rfl) | (refine ix0 rfl ?_) | (refine ix1 rfl ?_) | (refine ix2 rfl ?_) | (refine ix3 rfl ?_) | (apply ixj; omega) | (refine ixn ?_ ?_; omega) | (refine ixs0 rfl ?_) | (refine ixs1 rfl ?_) | (refine ixs_j ?_ ?_; omega) | (refine ixs_n ?_ ?_; omega) | (apply ld_o; exact rfl) | (apply ldN_a; exact rfl) | (apply ldN_o; (exact rfl); exact rfl) | (apply st_o; (exact rfl); exact rfl) | (apply stN_o; (exact rfl); (exact rfl); exact rfl) | (refine new_i (fun bk hbk => ?_)) | (apply when_dE; (exact rfl); (exact rfl); all_goals intro hc) | (apply when_dF; (exact rfl); (exact rfl); all_goals intro hc) | (apply when_nE; (exact rfl); (exact rfl); all_goals intro hc) | (apply when_nF; (exact rfl); (exact rfl); all_goals intro hc) | (apply br_dE; (exact rfl); all_goals intro hc) | (apply br_nE; (exact rfl); all_goals intro hc) | (refine mm_min ?_) | (refine mm_max ?_) | (refine rem_i ?_ ?_; omega) | (refine SelN.mk ?_) | (refine cut_n ?_) | (refine Both.mk ?_ ?_) | (exact True.intro))
        all_goals exact ⟨j + 1, ⟨by omega, by omega⟩, by omega, (by repeat' (first | exact True.intro | refine And.intro ?_ ?_ | exact rfl | exact vi (by omega) | (dsimp only; exact rfl) | (dsimp only; exact vi (by omega)))), by rw [hset]; exact Ent.refl⟩
    · have hjl' : ¬ (j : Int) < l.length := by omega
      have hj3 : j = l.length := by omega
      subst hj3
      rw [rowL_congr (g' := dirB l bs.length) (fun j hj => by simp [hj])]
      repeat' ((try (conv => whnf)); first | (refine when_ye ?_ ?_; exact rfl) | (refine when_ne ?_ ?_; exact rfl) | (refine br_te ?_ ?_; exact rfl) | (refine br_fe ?_ ?_; exact rfl) | (apply br_pyE; (exact rfl); omega) | (apply br_pnE; (exact rfl); omega) | (apply when_pyE; (exact rfl); omega) | (apply when_pnE; (exact rfl); omega) | (apply br_npyE; (exact rfl); omega) | (apply br_npnE; (exact rfl); omega) | (apply when_npyE; (exact rfl); omega) | (apply when_npnE; (exact rfl); omega) | (refine br_pyE ?_ hjl' ?_; exact rfl) | (refine br_pnE ?_ hjl' ?_; exact rfl) | (refine when_pyE ?_ hjl' ?_; exact rfl) | (refine when_pnE ?_ hjl' ?_; exact rfl) | (refine br_npyE ?_ hjl' ?_; exact rfl) | (refine br_npnE ?_ hjl' ?_; exact rfl) | (refine when_npyE ?_ hjl' ?_; exact rfl) | (refine when_npnE ?_ hjl' ?_; exact rfl) | (apply app_i (enc := encR l.length) br hB; (exact rfl); (exact rfl); (omega); (exact rfl); (exact rfl); (omega); intro a1 c1 D1 hb1) | (refine ari ?_ ?_; omega) | (refine aru ?_ ?_; omega) | (apply sel; exact rfl) | (refine ix0 rfl ?_) | (refine ix1 rfl ?_) | (refine ix2 rfl ?_) | (refine ix3 rfl ?_) | (apply ixj; omega) | (refine ixn ?_ ?_; omega) | (refine ixs0 rfl ?_) | (refine ixs1 rfl ?_) | (refine ixs_j ?_ ?_; omega) | (refine ixs_n ?_ ?_; omega) | (apply ld_o; exact rfl) | (apply ldN_a; exact rfl) | (apply ldN_o; (exact rfl); exact rfl) | (apply st_o; (exact rfl); exact rfl) | (apply stN_o; (exact rfl); (exact rfl); exact rfl) | (refine new_i (fun bk hbk => ?_)) | (apply when_dE; (exact rfl); (exact rfl); all_goals intro hc) | (apply when_dF; (exact rfl); (exact rfl); all_goals intro hc) | (apply when_nE; (exact rfl); (exact rfl); all_goals intro hc) | (apply when_nF; (exact rfl); (exact rfl); all_goals intro hc) | (apply br_dE; (exact rfl); all_goals intro hc) | (apply br_nE; (exact rfl); all_goals intro hc) | (refine mm_min ?_) | (refine mm_max ?_) | (refine rem_i ?_ ?_; omega) | (refine SelN.mk ?_) | (refine cut_n ?_) | (refine Both.mk ?_ ?_) | (exact True.intro))
      refine ⟨(bs ++ [br], a1, c1, D1), ⟨by simp; omega, hb1⟩, by simp; omega, ?_, ?_⟩
      · simp only [List.length_append, List.length_cons, List.length_nil, Nat.zero_add]
        exact (by repeat' (first | exact True.intro | refine And.intro ?_ ?_ | exact rfl | exact vi (by omega) | (dsimp only; exact rfl) | (dsimp only; exact vi (by omega))))
      · simp only [rowsO_snoc, Nat.zero_add]
        refine Ent.cons (Ent.of_perm ?_)
        have e : D1 ++ ((rowsO 4 l.length (dirB l) bs 0 ++ [canE encB 4 br (rowL l.length (dirB l bs.length))]) ++ (canE encB 4 b c :: own)) = (D1 ++ rowsO 4 l.length (dirB l) bs 0) ++ canE encB 4 br (rowL l.length (dirB l bs.length)) :: (canE encB 4 b c :: own) := by simp
        rw [e]
        refine List.Perm.trans ?_ List.perm_middle.symm
        rw [List.append_assoc]
  · have hlt' : ¬ (bs.length : Int) < l.length := by omega
    have hbl : bs.length = l.length := by omega
    have hbr := hB.rd (W0 := W0)
    repeat' ((try (conv => whnf)); first | (refine when_ye ?_ ?_; exact rfl) | (refine when_ne ?_ ?_; exact rfl) | (refine br_te ?_ ?_; exact rfl) | (refine br_fe ?_ ?_; exact rfl) | (apply br_pyE; (exact rfl); omega) | (apply br_pnE; (exact rfl); omega) | (apply when_pyE; (exact rfl); omega) | (apply when_pnE; (exact rfl); omega) | (apply br_npyE; (exact rfl); omega) | (apply br_npnE; (exact rfl); omega) | (apply when_npyE; (exact rfl); omega) | (apply when_npnE; (exact rfl); omega) | (refine br_pyE ?_ hlt' ?_; exact rfl) | (refine br_pnE ?_ hlt' ?_; exact rfl) | (refine when_pyE ?_ hlt' ?_; exact rfl) | (refine when_pnE ?_ hlt' ?_; exact rfl) | (refine br_npyE ?_ hlt' ?_; exact rfl) | (refine br_npnE ?_ hlt' ?_; exact rfl) | (refine when_npyE ?_ hlt' ?_; exact rfl) | (refine when_npnE ?_ hlt' ?_; exact rfl) | (refine ari ?_ ?_; omega) | (refine aru ?_ ?_; omega) | (apply sel; exact rfl) | (refine ix0 rfl ?_) | (refine ix1 rfl ?_) | (refine ix2 rfl ?_) | (refine ix3 rfl ?_) | (apply ixj; omega) | (refine ixn ?_ ?_; omega) | (refine ixs0 rfl ?_) | (refine ixs1 rfl ?_) | (refine ixs_j ?_ ?_; omega) | (refine ixs_n ?_ ?_; omega) | (apply ld_o; exact rfl) | (apply ldN_a; exact rfl) | (apply ldN_o; (exact rfl); exact rfl) | (apply st_o; (exact rfl); exact rfl) | (apply stN_o; (exact rfl); (exact rfl); exact rfl) | (refine new_i (fun bk hbk => ?_)) | (apply when_dE; (exact rfl); (exact rfl); all_goals intro hc) | (apply when_dF; (exact rfl); (exact rfl); all_goals intro hc) | (apply when_nE; (exact rfl); (exact rfl); all_goals intro hc) | (apply when_nF; (exact rfl); (exact rfl); all_goals intro hc) | (apply br_dE; (exact rfl); all_goals intro hc) | (apply br_nE; (exact rfl); all_goals intro hc) | (refine mm_min ?_) | (refine mm_max ?_) | (refine rem_i ?_ ?_; omega) | (refine SelN.mk ?_) | (refine cut_n ?_) | (refine Both.mk ?_ ?_) | (exact True.intro))
    refine loop_i (σ := Nat) (fun k => [(10, .int .i64 k)]) (fun k => D ++ (rowsO 4 l.length (clos (dirB l) k) bs 0 ++ (canE encB 4 b c :: own))) (fun k => k ≤ l.length) (fun k => l.length - k) 0 (by omega) (by repeat' (first | exact True.intro | refine And.intro ?_ ?_ | exact rfl | exact vi (by omega) | (dsimp only; exact rfl) | (dsimp only; exact vi (by omega)))) Ent.refl rfl ?_
    intro k junk3 hk
    by_cases hkl : k < l.length
    · have hkl' : (k : Int) < l.length := by omega
      have hclos : clos (dirB l) (k + 1) = stepK (clos (dirB l) k) k := rfl
      generalize clos (dirB l) k = h at *
      repeat' ((try (conv => whnf)); first | (refine when_ye ?_ ?_; exact rfl) | (refine when_ne ?_ ?_; exact rfl) | (refine br_te ?_ ?_; exact rfl) | (refine br_fe ?_ ?_; exact rfl) | (apply br_pyE; (exact rfl); omega) | (apply br_pnE; (exact rfl); omega) | (apply when_pyE; (exact rfl); omega) | (apply when_pnE; (exact rfl); omega) | (apply br_npyE; (exact rfl); omega) | (apply br_npnE; (exact rfl); omega) | (apply when_npyE; (exact rfl); omega) | (apply when_npnE; (exact rfl); omega) | (refine br_pyE ?_ hkl' ?_; exact rfl) | (refine br_pnE ?_ hkl' ?_; exact rfl) | (refine when_pyE ?_ hkl' ?_; exact rfl) | (refine when_pnE ?_ hkl' ?_; exact rfl) | (refine br_npyE ?_ hkl' ?_; exact rfl) | (refine br_npnE ?_ hkl' ?_; exact rfl) | (refine when_npyE ?_ hkl' ?_; exact rfl) | (refine when_npnE ?_ hkl' ?_; exact rfl) | (refine ari ?_ ?_; omega) | (refine aru ?_ ?_; omega) | (apply sel; exact rfl) | (refine ix0 rfl ?_) | (refine ix1 rfl ?_) | (refine ix2 rfl ?_) | (refine ix3 rfl ?_) | (apply ixj; omega) | (refine ixn ?_ ?_; omega) | (refine ixs0 rfl ?_) | (refine ixs1 rfl ?_) | (refine ixs_j ?_ ?_; omega) | (refine ixs_n ?_ ?_; omega) | (apply ld_o; exact rfl) | (apply ldN_a; exact rfl) | (apply ldN_o; (exact rfl); exact rfl) | (apply st_o; (exact rfl); exact rfl) | (apply stN_o; (exact rfl); (exact rfl); exact rfl) | (refine new_i (fun bk hbk => ?_)) | (apply when_dE; (exact rfl); (exact rfl); all_goals intro hc) | (apply when_dF; (exact rfl); (exact rfl); all_goals intro hc) | (apply when_nE; (exact rfl); (exact rfl); all_goals intro hc) | (apply when_nF; (exact rfl); (exact rfl); all_goals intro hc) | (apply br_dE; (exact rfl); all_goals intro hc) | (apply br_nE; (exact rfl); all_goals intro hc) | (refine mm_min ?_) | (refine mm_max ?_) | (refine rem_i ?_ ?_; omega) | (refine SelN.mk ?_) | (refine cut_n ?_) | (refine Both.mk ?_ ?_) | (exact True.intro))
      refine loop_i (σ := Nat) (fun i => [(11, .int .i64 i)]) (fun i => D ++ (rowsO 4 l.length (clS h k i (k + 1)) bs 0 ++ (canE encB 4 b c :: own))) (fun i => i ≤ k) (fun i => k - i) 0 (by omega) (by repeat' (first | exact True.intro | refine And.intro ?_ ?_ | exact rfl | exact vi (by omega) | (dsimp only; exact rfl) | (dsimp only; exact vi (by omega)))) ?_ rfl ?_
      · rw [rowsO_congr (f := h) (f' := clS h k 0 (k + 1)) bs 0 (fun a j _ _ _ => (clS_0 a j).symm)]
        exact Ent.refl
      intro i junk4 hik
      by_cases hikl : i < k
      · have hikl' : (i : Int) < k := by omega
        repeat' ((try (conv => whnf)); first | (refine when_ye ?_ ?_; exact rfl) | (refine when_ne ?_ ?_; exact rfl) | (refine br_te ?_ ?_; exact rfl) | (refine br_fe ?_ ?_; exact rfl) | (apply br_pyE; (exact rfl); omega) | (apply br_pnE; (exact rfl); omega) | (apply when_pyE; (exact rfl); omega) | (apply when_pnE; (exact rfl); omega) | (apply br_npyE; (exact rfl); omega) | (apply br_npnE; (exact rfl); omega) | (apply when_npyE; (exact rfl); omega) | (apply when_npnE; (exact rfl); omega) | (refine br_pyE ?_ hikl' ?_; exact rfl) | (refine br_pnE ?_ hikl' ?_; exact rfl) | (refine when_pyE ?_ hikl' ?_; exact rfl) | (refine when_pnE ?_ hikl' ?_; exact rfl) | (refine br_npyE ?_ hikl' ?_; exact rfl) | (refine br_npnE ?_ hikl' ?_; exact rfl) | (refine when_npyE ?_ hikl' ?_; exact rfl) | (refine when_npnE ?_ hikl' ?_; exact rfl) | (refine ari ?_ ?_; omega) | (refine aru ?_ ?_; omega) | (apply sel; exact rfl) | (refine ix0 rfl ?_) | (refine ix1 rfl ?_) | (refine ix2 rfl ?_) | (refine ix3 rfl ?_) | (apply ixj; omega) | (refine ixn ?_ ?_; omega) | (refine ixs0 rfl ?_) | (refine ixs1 rfl ?_) | (refine ixs_j ?_ ?_; omega) | (refine ixs_n ?_ ?_; omega) | (apply ld_o; exact rfl) | (apply ldN_a; exact rfl) | (apply ldN_o; (exact rfl); exact rfl) | (apply st_o; (exact rfl); exact rfl) | (apply stN_o; (exact rfl); (exact rfl); exact rfl) | (refine new_i (fun bk hbk => ?_)) | (apply when_dE; (exact rfl); (exact rfl); all_goals intro hc) | (apply when_dF; (exact rfl); (exact rfl); all_goals intro hc) | (apply when_nE; (exact rfl); (exact rfl); all_goals intro hc) | (apply when_nF; (exact rfl); (exact rfl); all_goals intro hc) | (apply br_dE; (exact rfl); all_goals intro hc) | (apply br_nE; (exact rfl); all_goals intro hc) | (refine mm_min ?_) | (refine mm_max ?_) | (refine rem_i ?_ ?_; omega) | (refine SelN.mk ?_) | (refine cut_n ?_) | (refine Both.mk ?_ ?_) | (exact True.intro))
        refine loop_i (σ := Nat) (fun j => [(12, .int .i64 j)]) (fun j => D ++ (rowsO 4 l.length (clS h k i j) bs 0 ++ (canE encB 4 b c :: own))) (fun j => k < j ∧ j ≤ l.length) (fun j => l.length - j) (k + 1) ⟨by omega, by omega⟩ (by repeat' (first | exact True.intro | refine And.intro ?_ ?_ | exact rfl | exact vi (by omega) | (dsimp only; exact rfl) | (dsimp only; exact vi (by omega)))) Ent.refl rfl ?_
        rintro j junk5 ⟨hj1, hj2⟩
        by_cases hjl : j < l.length
        · have hjl' : (j : Int) < l.length := by omega
          obtain ⟨bi, hbi⟩ : ∃ x, bs[i]? = some x := ⟨_, List.getElem?_eq_getElem (by omega)⟩
          obtain ⟨bk2, hbk2⟩ : ∃ x, bs[k]? = some x := ⟨_, List.getElem?_eq_getElem (by omega)⟩
          have hri := rowsO_rd (W0 := W0) (T := 4) (n := l.length) (f := clS h k i j) hbi
          have hrk := rowsO_rd (W0 := W0) (T := 4) (n := l.length) (f := clS h k i j) hbk2
          have gik := rowL_get (g := clS h k i j i) hkl
          have gij := rowL_get (g := clS h k i j i) hjl
          have gkj := rowL_get (g := clS h k i j k) hjl
          have e1 : clS h k i j i k = h i k := clS_ik hj1
          have e2 : clS h k i j i j = h i j := clS_ij
          have e3 : clS h k i j k j = h k j := clS_kj hikl
          rw [e1] at gik
          rw [e2] at gij
          rw [e3] at gkj
          have hlr := (rowL_len l.length (clS h k i j i)).symm
          have hlk := (rowL_len l.length (clS h k i j k)).symm
          obtain ⟨C, hC, hC2⟩ := rowsO_at (T := 4) (n := l.length) (f := clS h k i j) bs 0 i bi hbi
          rw [Nat.zero_add] at hC
          have hwi : ∀ y ∈ rowL l.length (clS h k i j i), (encB y).length = 1 := fun _ _ => rfl
          cases ht : h i k with
          | true =>
            have hnx : ∀ v : Bool, v = (h i j || h k j) → C [canE encB 4 bi ((rowL l.length (clS h k i j i)).set j v)] = rowsO 4 l.length (clS h k i (j + 1)) bs 0 := fun v hv => by
              rw [rowL_set, hC2]
              refine rowsO_congr bs 0 (fun a b _ _ _ => ?_)
              rw [Nat.zero_add, hv]
              exact clS_next hikl hj1 ht
            rw [ht] at gik
            cases hv1 : h i j <;> cases hv2 : h k j
            all_goals
              rw [hv1] at gij
              rw [hv2] at gkj
              repeat' ((try (conv => whnf)); first | (refine when_ye ?_ ?_; exact rfl) | (refine when_ne ?_ ?_; exact rfl) | (refine br_te ?_ ?_; exact rfl) | (refine br_fe ?_ ?_; exact rfl) | (apply br_pyE; (exact rfl); omega) | (apply br_pnE; (exact rfl); omega) | (apply when_pyE; (exact rfl); omega) | (apply when_pnE; (exact rfl); omega) | (apply br_npyE; (exact rfl); omega) | (apply br_npnE; (exact rfl); omega) | (apply when_npyE; (exact rfl); omega) | (apply when_npnE; (exact rfl); omega) | (refine br_pyE ?_ hjl' ?_; exact rfl) | (refine br_pnE ?_ hjl' ?_; exact rfl) | (refine when_pyE ?_ hjl' ?_; exact rfl) | (refine when_pnE ?_ hjl' ?_; exact rfl) | (refine br_npyE ?_ hjl' ?_; exact rfl) | (refine br_npnE ?_ hjl' ?_; exact rfl) | (refine when_npyE ?_ hjl' ?_; exact rfl) | (refine when_npnE ?_ hjl' ?_; exact rfl) | (apply stC (T := 4) (k := 0) (m := ⟨At.skip (At.left hC)⟩) (false || false) hwi gij; (exact rfl); (omega); (exact rfl); (exact rfl)) | (apply stC (T := 4) (k := 0) (m := ⟨At.skip (At.left hC)⟩) true hwi gij; (exact rfl); (omega); (exact rfl); (exact rfl)) | ((with_reducible show Ld _ _ _ _); first | (refine ldE0 hbr hbi rfl ?_) | (refine ldEk hbr hbi rfl ?_) | (refine ldE1 hbr hbi rfl ?_) | (refine ldE0 hbr hbk2 rfl ?_) | (refine ldEk hbr hbk2 rfl ?_) | (refine ldE1 hbr hbk2 rfl ?_) | (refine ldS0 hri gik rfl ?_) | (refine ldS0 hri gij rfl ?_) | (refine ldS0 hrk gkj rfl ?_)) | ((with_reducible show IxS _ _ _ _ _); first | ((refine ixE hbr hbi ?_ ?_; (first | rfl | omega))) | ((refine ixE hbr hbk2 ?_ ?_; (first | rfl | omega))) | ((refine ixC gik hlr ?_ ?_; (first | rfl | omega))) | ((refine ixC gij hlr ?_ ?_; (first | rfl | omega))) | ((refine ixC gkj hlk ?_ ?_; (first | rfl | omega)))) | ((with_reducible show LdN _ _ _ _ _); first | (refine ldNEi hbr hbi rfl ?_) | (refine ldNEi hbr hbk2 rfl ?_)) | (refine ari ?_ ?_; omega) | (refine aru ?_ ?_; omega) | (apply sel; exact rfl) | (refine ix0 rfl ?_) | (refine ix1 rfl ?_) | (refine ix2 rfl ?_) | (refine ix3 rfl ?_) | (apply ixj; omega) | (refine ixn ?_ ?_; omega) | (refine ixs0 rfl ?_) | (refine ixs1 rfl ?_) | (refine ixs_j ?_ ?_; omega) | (refine ixs_n ?_ ?_; omega) | (apply ld_o; exact rfl) | (apply ldN_a; exact rfl) | (apply ldN_o; (exact rfl); exact rfl) | (apply st_o; (exact rfl); exact rfl) | (apply stN_o; (exact rfl); (exact rfl); exact rfl) | (refine new_i (fun bk hbk => ?_)) | (apply when_dE; (exact rfl); (exact rfl); all_goals intro hc) | (apply when_dF; (exact rfl); (exact rfl); all_goals intro hc) | (apply when_nE; (exact rfl); (exact rfl); all_goals intro hc) | (apply when_nF; (exact rfl); (exact rfl); all_goals intro hc) | (apply br_dE; (exact rfl); all_goals intro hc) | (apply br_nE; (exact rfl); all_goals intro hc) | (refine mm_min ?_) | (refine mm_max ?_) | (refine rem_i ?_ ?_; omega) | (refine SelN.mk ?_) | (refine cut_n ?_) | (refine Both.mk ?_ ?_) | (exact True.intro))
              all_goals exact ⟨j + 1, ⟨by omega, by omega⟩, by omega, (by repeat' (first | exact True.intro | refine And.intro ?_ ?_ | exact rfl | exact vi (by omega) | (dsimp only; exact rfl) | (dsimp only; exact vi (by omega)))), by rw [hnx _ (by simp [hv1, hv2])]; exact Ent.refl⟩
          | false =>
            rw [ht] at gik
            repeat' ((try (conv => whnf)); first | (refine when_ye ?_ ?_; exact rfl) | (refine when_ne ?_ ?_; exact rfl) | (refine br_te ?_ ?_; exact rfl) | (refine br_fe ?_ ?_; exact rfl) | (apply br_pyE; (exact rfl); omega) | (apply br_pnE; (exact rfl); omega) | (apply when_pyE; (exact rfl); omega) | (apply when_pnE; (exact rfl); omega) | (apply br_npyE; (exact rfl); omega) | (apply br_npnE; (exact rfl); omega) | (apply when_npyE; (exact rfl); omega) | (apply when_npnE; (exact rfl); omega) | (refine br_pyE ?_ hjl' ?_; exact rfl) | (refine br_pnE ?_ hjl' ?_; exact rfl) | (refine when_pyE ?_ hjl' ?_; exact rfl) | (refine when_pnE ?_ hjl' ?_; exact rfl) | (refine br_npyE ?_ hjl' ?_; exact rfl) | (refine br_npnE ?_ hjl' ?_; exact rfl) | (refine when_npyE ?_ hjl' ?_; exact rfl) | (refine when_npnE ?_ hjl' ?_; exact rfl) | ((with_reducible show Ld _ _ _ _); first | (refine ldE0 hbr hbi rfl ?_) | (refine ldEk hbr hbi rfl ?_) | (refine ldE1 hbr hbi rfl ?_) | (refine ldE0 hbr hbk2 rfl ?_) | (refine ldEk hbr hbk2 rfl ?_) | (refine ldE1 hbr hbk2 rfl ?_) | (refine ldS0 hri gik rfl ?_) | (refine ldS0 hri gij rfl ?_) | (refine ldS0 hrk gkj rfl ?_)) | ((with_reducible show IxS _ _ _ _ _); first | ((refine ixE hbr hbi ?_ ?_; (first | rfl | omega))) | ((refine ixE hbr hbk2 ?_ ?_; (first | rfl | omega))) | ((refine ixC gik hlr ?_ ?_; (first | rfl | omega))) | ((refine ixC gij hlr ?_ ?_; (first | rfl | omega))) | ((refine ixC gkj hlk ?_ ?_; (first | rfl | omega)))) | ((with_reducible show LdN _ _ _ _ _); first | (refine ldNEi hbr hbi rfl ?_) | (refine ldNEi hbr hbk2 rfl ?_)) | (refine ari ?_ ?_; omega) | (refine aru ?_ ?_; omega) | (apply sel; exact rfl) | (refine ix0 rfl ?_) | (refine ix1 rfl ?_) | (refine ix2 rfl ?_) | (refine ix3 rfl ?_) | (apply ixj; omega) | (refine ixn ?_ ?_; omega) | (refine ixs0 rfl ?_) | (refine ixs1 rfl ?_) | (refine ixs_j ?_ ?_; omega) | (refine ixs_n ?_ ?_; omega) | (apply ld_o; exact rfl) | (apply ldN_a; exact rfl) | (apply ldN_o; (exact rfl); exact rfl) | (apply st_o; (exact rfl); exact rfl) | (apply stN_o; (exact rfl); (exact rfl); exact rfl) | (refine new_i (fun bk hbk => ?_)) | (apply when_dE; (exact rfl); (exact rfl); all_goals intro hc) | (apply when_dF; (exact rfl); (exact rfl); all_goals intro hc) | (apply when_nE; (exact rfl); (exact rfl); all_goals intro hc) | (apply when_nF; (exact rfl); (exact rfl); all_goals intro hc) | (apply br_dE; (exact rfl); all_goals intro hc) | (apply br_nE; (exact rfl); all_goals intro hc) | (refine mm_min ?_) | (refine mm_max ?_) | (refine rem_i ?_ ?_; omega) | (refine SelN.mk ?_) | (refine cut_n ?_) | (refine Both.mk ?_ ?_) | (exact True.intro))
            exact ⟨i + 1, by omega, by omega, (by repeat' (first | exact True.intro | refine And.intro ?_ ?_ | exact rfl | exact vi (by omega) | (dsimp only; exact rfl) | (dsimp only; exact vi (by omega)))), by rw [rowsO_congr bs 0 (fun a b _ _ _ => clS_skip ht)]; exact Ent.refl⟩
        · have hjl' : ¬ (j : Int) < l.length := by omega
          have hj3 : j = l.length := by omega
          subst hj3
          repeat' ((try (conv => whnf)); first | (refine when_ye ?_ ?_; exact rfl) | (refine when_ne ?_ ?_; exact rfl) | (refine br_te ?_ ?_; exact rfl) | (refine br_fe ?_ ?_; exact rfl) | (apply br_pyE; (exact rfl); omega) | (apply br_pnE; (exact rfl); omega) | (apply when_pyE; (exact rfl); omega) | (apply when_pnE; (exact rfl); omega) | (apply br_npyE; (exact rfl); omega) | (apply br_npnE; (exact rfl); omega) | (apply when_npyE; (exact rfl); omega) | (apply when_npnE; (exact rfl); omega) | (refine br_pyE ?_ hjl' ?_; exact rfl) | (refine br_pnE ?_ hjl' ?_; exact rfl) | (refine when_pyE ?_ hjl' ?_; exact rfl) | (refine when_pnE ?_ hjl' ?_; exact rfl) | (refine br_npyE ?_ hjl' ?_; exact rfl) | (refine br_npnE ?_ hjl' ?_; exact rfl) | (refine when_npyE ?_ hjl' ?_; exact rfl) | (refine when_npnE ?_ hjl' ?_; exact rfl) | (refine ari ?_ ?_; omega) | (refine aru ?_ ?_; omega) | (apply sel; exact rfl) | (refine ix0 rfl ?_) | (refine ix1 rfl ?_) | (refine ix2 rfl ?_) | (refine ix3 rfl ?_) | (apply ixj; omega) | (refine ixn ?_ ?_; omega) | (refine ixs0 rfl ?_) | (refine ixs1 rfl ?_) | (refine ixs_j ?_ ?_; omega) | (refine ixs_n ?_ ?_; omega) | (apply ld_o; exact rfl) | (apply ldN_a; exact rfl) | (apply ldN_o; (exact rfl); exact rfl) | (apply st_o; (exact rfl); exact rfl) | (apply stN_o; (exact rfl); (exact rfl); exact rfl) | (refine new_i (fun bk hbk => ?_)) | (apply when_dE; (exact rfl); (exact rfl); all_goals intro hc) | (apply when_dF; (exact rfl); (exact rfl); all_goals intro hc) | (apply when_nE; (exact rfl); (exact rfl); all_goals intro hc) | (apply when_nF; (exact rfl); (exact rfl); all_goals intro hc) | (apply br_dE; (exact rfl); all_goals intro hc) | (apply br_nE; (exact rfl); all_goals intro hc) | (refine mm_min ?_) | (refine mm_max ?_) | (refine rem_i ?_ ?_; omega) | (refine SelN.mk ?_) | (refine cut_n ?_) | (refine Both.mk ?_ ?_) | (exact True.intro))
          exact ⟨i + 1, by omega, by omega, (by repeat' (first | exact True.intro | refine And.intro ?_ ?_ | exact rfl | exact vi (by omega) | (dsimp only; exact rfl) | (dsimp only; exact vi (by omega)))), by rw [rowsO_congr bs 0 (fun a b _ _ hb => clS_row hb)]; exact Ent.refl⟩
      · have hikl' : ¬ (i : Int) < k := by omega
        have hik2 : i = k := by omega
        subst hik2
        repeat' ((try (conv => whnf)); first | (refine when_ye ?_ ?_; exact rfl) | (refine when_ne ?_ ?_; exact rfl) | (refine br_te ?_ ?_; exact rfl) | (refine br_fe ?_ ?_; exact rfl) | (apply br_pyE; (exact rfl); omega) | (apply br_pnE; (exact rfl); omega) | (apply when_pyE; (exact rfl); omega) | (apply when_pnE; (exact rfl); omega) | (apply br_npyE; (exact rfl); omega) | (apply br_npnE; (exact rfl); omega) | (apply when_npyE; (exact rfl); omega) | (apply when_npnE; (exact rfl); omega) | (refine br_pyE ?_ hikl' ?_; exact rfl) | (refine br_pnE ?_ hikl' ?_; exact rfl) | (refine when_pyE ?_ hikl' ?_; exact rfl) | (refine when_pnE ?_ hikl' ?_; exact rfl) | (refine br_npyE ?_ hikl' ?_; exact rfl) | (refine br_npnE ?_ hikl' ?_; exact rfl) | (refine when_npyE ?_ hikl' ?_; exact rfl) | (refine when_npnE ?_ hikl' ?_; exact rfl) | (refine ari ?_ ?_; omega) | (refine aru ?_ ?_; omega) | (apply sel; exact rfl) | (refine ix0 rfl ?_) | (refine ix1 rfl ?_) | (refine ix2 rfl ?_) | (refine ix3 rfl ?_) | (apply ixj; omega) | (refine ixn ?_ ?_; omega) | (refine ixs0 rfl ?_) | (refine ixs1 rfl ?_) | (refine ixs_j ?_ ?_; omega) | (refine ixs_n ?_ ?_; omega) | (apply ld_o; exact rfl) | (apply ldN_a; exact rfl) | (apply ldN_o; (exact rfl); exact rfl) | (apply st_o; (exact rfl); exact rfl) | (apply stN_o; (exact rfl); (exact rfl); exact rfl) | (refine new_i (fun bk hbk => ?_)) | (apply when_dE; (exact rfl); (exact rfl); all_goals intro hc) | (apply when_dF; (exact rfl); (exact rfl); all_goals intro hc) | (apply when_nE; (exact rfl); (exact rfl); all_goals intro hc) | (apply when_nF; (exact rfl); (exact rfl); all_goals intro hc) | (apply br_dE; (exact rfl); all_goals intro hc) | (apply br_nE; (exact rfl); all_goals intro hc) | (refine mm_min ?_) | (refine mm_max ?_) | (refine rem_i ?_ ?_; omega) | (refine SelN.mk ?_) | (refine cut_n ?_) | (refine Both.mk ?_ ?_) | (exact True.intro))
        exact ⟨i + 1, by omega, by omega, (by repeat' (first | exact True.intro | refine And.intro ?_ ?_ | exact rfl | exact vi (by omega) | (dsimp only; exact rfl) | (dsimp only; exact vi (by omega)))), by rw [hclos, rowsO_congr bs 0 (fun a b _ _ _ => clS_end a b)]; exact Ent.refl⟩
    · have hkl' : ¬ (k : Int) < l.length := by omega
      have hk2 : k = l.length := by omega
      subst hk2
      repeat' ((try (conv => whnf)); first | (refine when_ye ?_ ?_; exact rfl) | (refine when_ne ?_ ?_; exact rfl) | (refine br_te ?_ ?_; exact rfl) | (refine br_fe ?_ ?_; exact rfl) | (apply br_pyE; (exact rfl); omega) | (apply br_pnE; (exact rfl); omega) | (apply when_pyE; (exact rfl); omega) | (apply when_pnE; (exact rfl); omega) | (apply br_npyE; (exact rfl); omega) | (apply br_npnE; (exact rfl); omega) | (apply when_npyE; (exact rfl); omega) | (apply when_npnE; (exact rfl); omega) | (refine br_pyE ?_ hkl' ?_; exact rfl) | (refine br_pnE ?_ hkl' ?_; exact rfl) | (refine when_pyE ?_ hkl' ?_; exact rfl) | (refine when_pnE ?_ hkl' ?_; exact rfl) | (refine br_npyE ?_ hkl' ?_; exact rfl) | (refine br_npnE ?_ hkl' ?_; exact rfl) | (refine when_npyE ?_ hkl' ?_; exact rfl) | (refine when_npnE ?_ hkl' ?_; exact rfl) | (refine ari ?_ ?_; omega) | (refine aru ?_ ?_; omega) | (apply sel; exact rfl) | (refine ix0 rfl ?_) | (refine ix1 rfl ?_) | (refine ix2 rfl ?_) | (refine ix3 rfl ?_) | (apply ixj; omega) | (refine ixn ?_ ?_; omega) | (refine ixs0 rfl ?_) | (refine ixs1 rfl ?_) | (refine ixs_j ?_ ?_; omega) | (refine ixs_n ?_ ?_; omega) | (apply ld_o; exact rfl) | (apply ldN_a; exact rfl) | (apply ldN_o; (exact rfl); exact rfl) | (apply st_o; (exact rfl); exact rfl) | (apply stN_o; (exact rfl); (exact rfl); exact rfl) | (refine new_i (fun bk hbk => ?_)) | (apply when_dE; (exact rfl); (exact rfl); all_goals intro hc) | (apply when_dF; (exact rfl); (exact rfl); all_goals intro hc) | (apply when_nE; (exact rfl); (exact rfl); all_goals intro hc) | (apply when_nF; (exact rfl); (exact rfl); all_goals intro hc) | (apply br_dE; (exact rfl); all_goals intro hc) | (apply br_nE; (exact rfl); all_goals intro hc) | (refine mm_min ?_) | (refine mm_max ?_) | (refine rem_i ?_ ?_; omega) | (refine SelN.mk ?_) | (refine cut_n ?_) | (refine Both.mk ?_ ?_) | (exact True.intro))
      refine ⟨ha, hc, D, bs, rfl, hB, hbl, ?_⟩
      rw [← List.append_assoc, ← List.append_assoc]
      exact Ent.of_sub ((List.Sublist.refl own).cons _ |>.append_left _)
end
end Go.Proofs.YtofjnldidkiihaaDoor
namespace Go.Proofs.YtofjnldidkiihaaDoor
open Go
set_option maxRecDepth 10000
theorem bgL_is {l : List EH} {t : Int} : ∀ (j p : Nat), bgL l t j = p → p < j ∧ thr l p = t ∧ ∀ q, p < q → q < j → thr l q ≠ t
  | 0, p, h => by unfold bgL at h; omega
  | j + 1, p, h => by
    unfold bgL at h
    split at h
    · rename_i ht
      have : p = j := by omega
      subst this
      exact ⟨by omega, ht, fun q a b => by omega⟩
    · rename_i hn
      obtain ⟨a, b, c⟩ := bgL_is j p h
      refine ⟨by omega, b, fun q h1 h2 => ?_⟩
      by_cases hq : q = j
      · subst hq; exact hn
      · exact c q h1 (by omega)
theorem prev_iff {l : List EH} {i p : Nat} : prevT l i p ↔ bgL l (thr l i) i = p := ⟨bg_prev, fun h => bgL_is i p h⟩
/-- The begin of an end. -/
theorem bg_nat {l : List EH} {n i : Nat} (hw : Wf l n) (hi : i < l.length) (h4 : knd l i = 4) : ∃ p : Nat, bgL l (thr l i) i = p ∧ p < i ∧ knd l p = 3 ∧ thr l p = thr l i := by
  obtain ⟨p, hp, h3⟩ := hw.en i hi h4
  exact ⟨p, bg_prev hp, hp.1, h3, hp.2.1⟩
section
open Classical
theorem cntL_get {l : List EH} {n : Nat} (hw : Wf l n) : ∀ k, k ≤ l.length → ∀ i, i < l.length → (cntL l k)[i]? = some (decide ((i < k ∧ knd l i ≠ 3) ∨ ∃ e, e < k ∧ knd l e = 4 ∧ bgL l (thr l e) e = i))
  | 0, _, i, hi => by
    unfold cntL
    simp [hi]
  | k + 1, hk, i, hi => by
    have ih := cntL_get hw k (by omega) i hi
    have hlen := cntL_len l k
    unfold cntL
    by_cases h4 : knd l k = 4
    · rw [if_pos h4]
      obtain ⟨p, hp, hpk, h3, _⟩ := bg_nat hw (by omega) h4
      rw [hp, Int.toNat_natCast, List.getElem?_set]
      by_cases hip : p = i
      · subst hip
        rw [if_pos rfl, if_pos (by rw [List.length_set]; omega)]
        congr 1
        refine (decide_eq_true ?_).symm
        exact .inr ⟨k, by omega, h4, hp⟩
      · rw [if_neg hip, List.getElem?_set]
        by_cases hik : k = i
        · subst hik
          rw [if_pos rfl, if_pos (by omega)]
          congr 1
          rw [decide_eq_true (by omega : knd l k ≠ 3)]
          exact (decide_eq_true (.inl ⟨by omega, by omega⟩)).symm
        · rw [if_neg hik, ih]
          congr 1
          refine decide_eq_decide.2 ⟨?_, ?_⟩
          · rintro (⟨a, b⟩ | ⟨e, a, b, c⟩)
            · exact .inl ⟨by omega, b⟩
            · exact .inr ⟨e, by omega, b, c⟩
          · rintro (⟨a, b⟩ | ⟨e, a, b, c⟩)
            · exact .inl ⟨by omega, b⟩
            · by_cases hek : e = k
              · subst hek; rw [hp] at c; exact absurd (by omega) hip
              · exact .inr ⟨e, by omega, b, c⟩
    · rw [if_neg h4, List.getElem?_set]
      by_cases hik : k = i
      · subst hik
        rw [if_pos rfl, if_pos (by omega)]
        congr 1
        refine decide_eq_decide.2 ⟨fun h => .inl ⟨by omega, h⟩, ?_⟩
        rintro (⟨a, b⟩ | ⟨e, a, b, c⟩)
        · exact b
        · have := (bgL_is e k c).1
          omega
      · rw [if_neg hik, ih]
        congr 1
        refine decide_eq_decide.2 ⟨?_, ?_⟩
        · rintro (⟨a, b⟩ | ⟨e, a, b, c⟩)
          · exact .inl ⟨by omega, b⟩
          · exact .inr ⟨e, by omega, b, c⟩
        · rintro (⟨a, b⟩ | ⟨e, a, b, c⟩)
          · exact .inl ⟨by omega, b⟩
          · by_cases hek : e = k
            · subst hek; exact absurd b h4
            · exact .inr ⟨e, by omega, b, c⟩
end
theorem isB_iff {l : List EH} {n : Nat} (hw : Wf l n) (i : Nat) : isB l i = true ↔ cntP l i := by
  unfold isB cntP
  rw [List.getD_eq_getElem?_getD]
  by_cases hi : i < l.length
  · rw [cntL_get hw l.length (Nat.le_refl _) i hi]
    simp only [Option.getD_some, decide_eq_true_iff]
    constructor
    · rintro (⟨a, b⟩ | ⟨e, a, b, c⟩)
      · exact ⟨hi, .inl b⟩
      · exact ⟨hi, .inr ⟨e, a, prev_iff.2 c, b⟩⟩
    · rintro ⟨_, b | ⟨e, a, b, c⟩⟩
      · exact .inl ⟨hi, b⟩
      · exact .inr ⟨e, a, c, prev_iff.1 b⟩
  · rw [List.getElem?_eq_none (by rw [cntL_len]; omega)]
    simp [hi]
theorem dirB_iff {l : List EH} {n : Nat} (hw : Wf l n) (i j : Nat) : dirB l i j = true ↔ DI l i j := by
  unfold dirB DI
  simp only [Bool.and_eq_true, Bool.or_eq_true, decide_eq_true_eq, isB_iff hw, and_assoc]
/-- Happens-before, decided. -/
noncomputable def hbB (l : List EH) (i j : Nat) : Bool := @decide (HB l i j) (Classical.propDecidable _)
theorem hbB_iff {l : List EH} {i j : Nat} : hbB l i j = true ↔ HB l i j := by unfold hbB; exact @decide_eq_true_iff _ (Classical.propDecidable _)
theorem clos_B {l : List EH} {n : Nat} (hw : Wf l n) (i j : Nat) : clos (dirB l) l.length i j = hbB l i j := by
  rw [Bool.eq_iff_iff, hbB_iff]
  exact clos_hb hw (dirB_iff hw) i j
/- CONFLICTS AND RACES -/
/-- A plain access and another event, on a word. -/
def cfP (a b : EH) (w : Int) : Bool := decide (a.w = w) && (if b.k = 4 then (b.wl.contains w || (decide (a.k = 2) && b.rl.contains w)) else decide (b.w = w) && (decide (a.k = 2) || decide (b.k = 2)))
def confB (a b : EH) (w : Int) : Bool := !decide (a.t = b.t) && (if a.k = 4 then !decide (b.k = 4) && cfP b a w else cfP a b w)
/-- A race: the two places, the word. -/
abbrev RaceM := Int × Int × Int
abbrev encRc (r : RaceM) : List Value := [.int .i64 r.1, .int .i64 r.2.1, .int .i64 r.2.2]
/-- Where a place is to be reached: the place of a plain access, the begin of a transaction. -/
def toP (l : List EH) (y : Nat) : Nat := if knd l y = 4 then (bgL l (thr l y) y).toNat else y
noncomputable def rcB (l : List EH) (y : Nat) (w : Int) (x : Nat) : Bool := !decide (knd l x = 3) && (confB (at' l x) (at' l y) w && !hbB l x (toP l y))
noncomputable def rcL (l : List EH) (y : Nat) (w : Int) (m : Nat) : List RaceM := ((List.range m).filter (rcB l y w)).map fun (x : Nat) => ((x : Int), (y : Int), w)
theorem rcL_zero {l : List EH} {y : Nat} {w : Int} : rcL l y w 0 = [] := rfl
theorem rcL_succ {l : List EH} {y m : Nat} {w : Int} : rcL l y w (m + 1) = rcL l y w m ++ if rcB l y w m = true then [((m : Int), (y : Int), w)] else [] := by
  unfold rcL
  rw [List.range_succ, List.filter_append, List.map_append]
  congr 1
  cases h : rcB l y w m <;> simp [List.filter, h]
theorem rcL_len (l : List EH) (y : Nat) (w : Int) (m : Nat) : (rcL l y w m).length ≤ m := by
  unfold rcL
  rw [List.length_map]
  exact Nat.le_trans (List.length_filter_le _ _) (by simp)
/-- All races of a place, so many words gone through. -/
noncomputable def rcW (l : List EH) (y m : Nat) : List RaceM := (List.range m).flatMap fun (w : Nat) => rcL l y w y
theorem rcW_succ {l : List EH} {y m : Nat} : rcW l y (m + 1) = rcW l y m ++ rcL l y m y := by
  unfold rcW; rw [List.range_succ, List.flatMap_append]; simp
/-- All races, so many places gone through. -/
noncomputable def rcA (l : List EH) (m : Nat) : List RaceM := (List.range m).flatMap fun y => if knd l y = 3 then [] else rcW l y 64
theorem rcA_succ {l : List EH} {m : Nat} : rcA l (m + 1) = rcA l m ++ if knd l m = 3 then [] else rcW l m 64 := by
  unfold rcA; rw [List.range_succ, List.flatMap_append]; simp
theorem rcW_len (l : List EH) (y : Nat) : ∀ m, (rcW l y m).length ≤ m * y
  | 0 => by simp [rcW]
  | m + 1 => by
    rw [rcW_succ, List.length_append, Nat.succ_mul]
    have := rcW_len l y m
    have := rcL_len l y m y
    omega
theorem rcA_len (l : List EH) (n : Nat) : ∀ m, m ≤ n → (rcA l m).length ≤ m * (64 * n)
  | 0, _ => by simp [rcA]
  | m + 1, h => by
    rw [rcA_succ, List.length_append, Nat.succ_mul]
    have := rcA_len l n m (by omega)
    split
    · simp; omega
    · have := rcW_len l m 64
      omega
/- The first race -/
def bstep (b r : RaceM) : RaceM := if r.2.1 = b.2.1 ∧ r.2.2 = b.2.2 ∧ b.1 < r.1 then r else b
def bestF : List RaceM → RaceM
  | [] => (-1, -1, -1)
  | r :: rs => rs.foldl bstep r
theorem fold_skip : ∀ (rs : List RaceM) (b : RaceM), (∀ r ∈ rs, r.2 ≠ b.2) → rs.foldl bstep b = b
  | [], _, _ => rfl
  | r :: rs, b, h => by
    have h1 : bstep b r = b := by
      unfold bstep
      rw [if_neg (fun hh => h r List.mem_cons_self (Prod.ext hh.1 hh.2.1))]
    rw [List.foldl_cons, h1]
    exact fold_skip rs b (fun r hr => h r (List.mem_cons_of_mem _ hr))
theorem fold_grp : ∀ (rs : List RaceM) (b : RaceM), (∀ r ∈ rs, r.2 = b.2) → (b :: rs).Pairwise (fun a b => a.1 < b.1) → rs.foldl bstep b = (rs.getLast?).getD b
  | [], _, _, _ => rfl
  | r :: rs, b, h, hp => by
    have hr := h r List.mem_cons_self
    rw [List.pairwise_cons] at hp
    have h1 : bstep b r = r := by
      unfold bstep
      rw [if_pos ⟨by rw [hr], by rw [hr], hp.1 r List.mem_cons_self⟩]
    rw [List.foldl_cons, h1, fold_grp rs r (fun x hx => (h x (List.mem_cons_of_mem _ hx)).trans hr.symm) hp.2]
    cases rs <;> simp [List.getLast?_cons]
theorem best_groups {σ : Type} (key : σ → Int × Int) (g : σ → List RaceM) (hk : ∀ p, ∀ r ∈ g p, r.2 = key p) (hs : ∀ p, (g p).Pairwise (fun a b => a.1 < b.1)) :
    ∀ ps : List σ, ps.Pairwise (fun p q => key p ≠ key q) → bestF (ps.flatMap g) = (ps.findSome? fun p => (g p).getLast?).getD (-1, -1, -1)
  | [], _ => rfl
  | p :: ps, hn => by
    rw [List.pairwise_cons] at hn
    rw [List.flatMap_cons]
    cases hg : g p with
    | nil =>
      rw [List.nil_append, best_groups key g hk hs ps hn.2, List.findSome?_cons, hg]
      rfl
    | cons r rs =>
      have hk' := hk p
      rw [hg] at hk'
      have hs' := hs p
      rw [hg] at hs'
      have hr := hk' r List.mem_cons_self
      rw [List.findSome?_cons, hg]
      show (rs ++ ps.flatMap g).foldl bstep r = _
      rw [List.foldl_append, fold_grp rs r (fun x hx => (hk' x (List.mem_cons_of_mem _ hx)).trans hr.symm) hs']
      have e : (r :: rs).getLast? = some ((rs.getLast?).getD r) := by rw [List.getLast?_cons]
      rw [e]
      simp only [Option.getD_some]
      refine fold_skip _ _ ?_
      intro x hx
      obtain ⟨q, hq, hx⟩ := List.mem_flatMap.1 hx
      rw [hk q x hx]
      have : ((rs.getLast?).getD r).2 = key p := by
        cases hl : rs.getLast? with
        | none => exact hr
        | some z => exact hk' z (List.mem_cons_of_mem _ (List.mem_of_getLast? hl))
      rw [this]
      exact fun e => hn.1 q hq e.symm
/-- The places and words that races are looked for at. -/
def prs (l : List EH) (m : Nat) : List (Nat × Int) := (List.range m).flatMap fun y => if knd l y = 3 then [] else (List.range 64).map fun (w : Nat) => (y, (w : Int))
noncomputable def frst (l : List EH) : RaceM := ((prs l l.length).findSome? fun p => (rcL l p.1 p.2 p.1).getLast?).getD (-1, -1, -1)
theorem rcA_prs (l : List EH) (m : Nat) : rcA l m = (prs l m).flatMap fun p => rcL l p.1 p.2 p.1 := by
  unfold rcA prs
  rw [List.flatMap_assoc]
  congr 1
  funext y
  split
  · rfl
  · rw [List.flatMap_map]; rfl
theorem rcL_key {l : List EH} {y m : Nat} {w : Int} : ∀ r ∈ rcL l y w m, r.2 = ((y : Int), w) := by
  intro r hr
  unfold rcL at hr
  obtain ⟨x, _, rfl⟩ := List.mem_map.1 hr
  rfl
theorem rcL_sorted {l : List EH} {y m : Nat} {w : Int} : (rcL l y w m).Pairwise (fun a b => a.1 < b.1) := by
  unfold rcL
  rw [List.pairwise_map]
  refine List.Pairwise.imp ?_ ((List.pairwise_lt_range (n := m)).filter _)
  intro a b h
  simpa using h
theorem prs_nodup (l : List EH) (m : Nat) : (prs l m).Pairwise (fun p q => ((p.1 : Int), p.2) ≠ ((q.1 : Int), q.2)) := by
  unfold prs
  rw [List.pairwise_flatMap]
  refine ⟨fun y _ => ?_, ?_⟩
  · split
    · exact List.Pairwise.nil
    · rw [List.pairwise_map]
      refine List.Pairwise.imp ?_ (List.pairwise_lt_range (n := 64))
      intro a b h e
      simp only [Prod.mk.injEq, true_and] at e
      omega
  · refine List.Pairwise.imp ?_ (List.pairwise_lt_range (n := m))
    intro a b h p hp q hq e
    have h1 : p.1 = a := by
      split at hp
      · cases hp
      · obtain ⟨_, _, rfl⟩ := List.mem_map.1 hp; rfl
    have h2 : q.1 = b := by
      split at hq
      · cases hq
      · obtain ⟨_, _, rfl⟩ := List.mem_map.1 hq; rfl
    simp only [Prod.mk.injEq] at e
    omega
theorem best_all (l : List EH) : bestF (rcA l l.length) = frst l := by
  rw [rcA_prs]
  exact best_groups (fun p => ((p.1 : Int), p.2)) _ (fun p r hr => rcL_key r hr) (fun p => rcL_sorted) _ (prs_nodup l _)
end Go.Proofs.YtofjnldidkiihaaDoor
