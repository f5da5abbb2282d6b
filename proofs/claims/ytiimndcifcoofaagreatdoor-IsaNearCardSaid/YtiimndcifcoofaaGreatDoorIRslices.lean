/- The lowered code of a package, printed by program; each function is checked against the loaded program by the kernel. No condition. -/
import Derived.Test.YtiimndcifcoofaaGreatDoorIR
namespace Go.Proofs.YtiimndcifcoofaaGreatDoor
open Go
set_option maxRecDepth 100000

/-- slices.Compact(()int,int) -/
def ir_slices_Compact_int : IFn := ⟨61,
 (.seq (.region [
 ⟨some 2, .mov (.const (.slice none 0 0)), none⟩])
 (.seq (.seq (.region [
 ⟨some 6, .mov (.tmp 0), none⟩,
 ⟨some 7, .len (.tmp 6), none⟩,
 ⟨some 8, .bin .lss (.tmp 7) (.const (.int .i64 2)), none⟩])
 (.cond (.tmp 8)
  (.seq (.region [
  ⟨some 9, .mov (.tmp 0), none⟩,
  ⟨some 2, .mov (.tmp 9), none⟩])
  .ret)
  .skip))
 (.seq (.seq (.region [
 ⟨some 3, .mov (.const (.int .i64 1)), none⟩])
 (.block 0
  (.loop 1152921504606846012
   (.seq (.seq (.region [
   ⟨some 10, .mov (.tmp 3), none⟩,
   ⟨some 11, .mov (.tmp 0), none⟩,
   ⟨some 12, .len (.tmp 11), none⟩,
   ⟨some 13, .bin .lss (.tmp 10) (.tmp 12), none⟩])
   (.cond (.tmp 13)
    .skip
    (.exit 0)))
   (.seq (.block 1
    (.seq (.draw (.f ⟨some 16, .mov (.tmp 0), none⟩
    (.f ⟨some 17, .mov (.tmp 3), none⟩
    (.f ⟨some 18, .ixs 1 (.tmp 16) (.tmp 17), none⟩
    (.f ⟨some 19, .ld (.tmp 18), none⟩
    (.f ⟨some 20, .mov (.tmp 0), none⟩
    (.f ⟨some 21, .mov (.tmp 3), none⟩
    (.f ⟨some 22, .bin .sub (.tmp 21) (.const (.int .i64 1)), none⟩
    (.f ⟨some 23, .ixs 1 (.tmp 20) (.tmp 22), none⟩
    (.f ⟨some 24, .ld (.tmp 23), none⟩
    (.f ⟨some 25, .bin .eql (.tmp 19) (.tmp 24), none⟩
    .done)))))))))))
    (.cond (.tmp 25)
     (.seq (.region [
     ⟨some 26, .mov (.tmp 0), none⟩,
     ⟨some 27, .mov (.tmp 3), none⟩,
     ⟨some 28, .sls 1 (.tmp 26) (some (.tmp 27)) none none, none⟩,
     ⟨some 4, .mov (.tmp 28), none⟩])
     (.seq (.seq (.region [
     ⟨some 5, .mov (.const (.int .i64 1)), none⟩])
     (.block 2
      (.loop 18014397972611112
       (.seq (.seq (.region [
       ⟨some 29, .mov (.tmp 5), none⟩,
       ⟨some 30, .mov (.tmp 4), none⟩,
       ⟨some 31, .len (.tmp 30), none⟩,
       ⟨some 32, .bin .lss (.tmp 29) (.tmp 31), none⟩])
       (.cond (.tmp 32)
        .skip
        (.exit 2)))
       (.seq (.block 3
        (.seq (.draw (.f ⟨some 35, .mov (.tmp 4), none⟩
        (.f ⟨some 36, .mov (.tmp 5), none⟩
        (.f ⟨some 37, .ixs 1 (.tmp 35) (.tmp 36), none⟩
        (.f ⟨some 38, .ld (.tmp 37), none⟩
        (.f ⟨some 39, .mov (.tmp 4), none⟩
        (.f ⟨some 40, .mov (.tmp 5), none⟩
        (.f ⟨some 41, .bin .sub (.tmp 40) (.const (.int .i64 1)), none⟩
        (.f ⟨some 42, .ixs 1 (.tmp 39) (.tmp 41), none⟩
        (.f ⟨some 43, .ld (.tmp 42), none⟩
        (.f ⟨some 44, .bin .neq (.tmp 38) (.tmp 43), none⟩
        .done)))))))))))
        (.cond (.tmp 44)
         (.seq (.region [
         ⟨some 45, .mov (.tmp 0), none⟩,
         ⟨some 46, .mov (.tmp 3), none⟩,
         ⟨some 47, .mov (.tmp 4), none⟩,
         ⟨some 48, .mov (.tmp 5), none⟩,
         ⟨some 49, .ixs 1 (.tmp 47) (.tmp 48), none⟩,
         ⟨some 50, .ld (.tmp 49), none⟩,
         ⟨some 51, .ixs 1 (.tmp 45) (.tmp 46), none⟩,
         ⟨none, .st (.tmp 51) (.tmp 50), none⟩])
         (.region [
         ⟨some 52, .mov (.tmp 3), none⟩,
         ⟨some 53, .bin .add (.tmp 52) (.const (.int .i64 1)), none⟩,
         ⟨some 3, .mov (.tmp 53), none⟩]))
         .skip)))
       (.region [
       ⟨some 33, .mov (.tmp 5), none⟩,
       ⟨some 34, .bin .add (.tmp 33) (.const (.int .i64 1)), none⟩,
       ⟨some 5, .mov (.tmp 34), none⟩]))))))
     (.seq (.region [
     ⟨some 54, .mov (.tmp 0), none⟩,
     ⟨some 55, .mov (.tmp 3), none⟩,
     ⟨some 56, .sls 1 (.tmp 54) (some (.tmp 55)) none none, none⟩,
     ⟨none, .clr [(.int .i64 0)] (.tmp 56), none⟩])
     (.seq (.region [
     ⟨some 57, .mov (.tmp 0), none⟩,
     ⟨some 58, .mov (.tmp 3), none⟩,
     ⟨some 59, .sls 1 (.tmp 57) none (some (.tmp 58)) none, none⟩,
     ⟨some 2, .mov (.tmp 59), none⟩])
     .ret))))
     .skip)))
   (.region [
   ⟨some 14, .mov (.tmp 3), none⟩,
   ⟨some 15, .bin .add (.tmp 14) (.const (.int .i64 1)), none⟩,
   ⟨some 3, .mov (.tmp 15), none⟩]))))))
 (.seq (.region [
 ⟨some 60, .mov (.tmp 0), none⟩,
 ⟨some 2, .mov (.tmp 60), none⟩])
 .ret)))),
 [.tmp 2]⟩
theorem low_slices_Compact_int : lowFn Tryz.prog movers 46 = some ⟨ir_slices_Compact_int.n, strip ir_slices_Compact_int.body, ir_slices_Compact_int.res⟩ := by kernel_rfl
end Go.Proofs.YtiimndcifcoofaaGreatDoor
