/- The lowered code of a package, printed by program; each function is checked against the loaded program by the kernel. No condition. -/
import Derived.Test.YtiimndcifcoofaaGreatDoorIR
namespace Go.Proofs.YtiimndcifcoofaaGreatDoor
open Go
set_option maxRecDepth 100000

/-- strongtx/strongtxkit.Ints -/
def ir_kit_Ints : IFn := ⟨26,
 (.seq (.region [
 ⟨some 4, .mov (.const (.bool false)), none⟩])
 (.seq (.seq (.region [
 ⟨some 6, .mov (.tmp 0), none⟩,
 ⟨some 7, .len (.tmp 6), none⟩,
 ⟨some 8, .mov (.tmp 1), none⟩,
 ⟨some 9, .len (.tmp 8), none⟩,
 ⟨some 10, .bin .neq (.tmp 7) (.tmp 9), none⟩])
 (.cond (.tmp 10)
  (.seq (.region [
  ⟨some 4, .mov (.const (.bool false)), none⟩])
  .ret)
  .skip))
 (.seq (.seq (.region [
 ⟨some 5, .mov (.const (.int .i64 0)), none⟩])
 (.block 0
  (.loop 67106864
   (.seq (.seq (.region [
   ⟨some 11, .mov (.tmp 5), none⟩,
   ⟨some 12, .mov (.tmp 0), none⟩,
   ⟨some 13, .len (.tmp 12), none⟩,
   ⟨some 14, .bin .lss (.tmp 11) (.tmp 13), none⟩])
   (.cond (.tmp 14)
    .skip
    (.exit 0)))
   (.seq (.block 1
    (.seq (.draw (.f ⟨some 17, .mov (.tmp 0), none⟩
    (.f ⟨some 18, .mov (.tmp 5), none⟩
    (.f ⟨some 19, .ixs 1 (.tmp 17) (.tmp 18), none⟩
    (.f ⟨some 20, .ld (.tmp 19), none⟩
    (.f ⟨some 21, .mov (.tmp 1), none⟩
    (.f ⟨some 22, .mov (.tmp 5), none⟩
    (.f ⟨some 23, .ixs 1 (.tmp 21) (.tmp 22), none⟩
    (.f ⟨some 24, .ld (.tmp 23), none⟩
    (.f ⟨some 25, .bin .neq (.tmp 20) (.tmp 24), none⟩
    .done))))))))))
    (.cond (.tmp 25)
     (.seq (.region [
     ⟨some 4, .mov (.const (.bool false)), none⟩])
     .ret)
     .skip)))
   (.region [
   ⟨some 15, .mov (.tmp 5), none⟩,
   ⟨some 16, .bin .add (.tmp 15) (.const (.int .i64 1)), none⟩,
   ⟨some 5, .mov (.tmp 16), none⟩]))))))
 (.seq (.region [
 ⟨some 4, .mov (.const (.bool true)), none⟩])
 .ret)))),
 [.tmp 4]⟩
theorem low_kit_Ints : lowFn Tryz.prog movers 15 = some ⟨ir_kit_Ints.n, strip ir_kit_Ints.body, ir_kit_Ints.res⟩ := by kernel_rfl

/-- strongtx/strongtxkit.Program -/
def ir_kit_Program : IFn := ⟨26,
 (.seq (.region [
 ⟨some 4, .mov (.const (.bool false)), none⟩])
 (.seq (.seq (.region [
 ⟨some 6, .mov (.tmp 0), none⟩,
 ⟨some 7, .len (.tmp 6), none⟩,
 ⟨some 8, .mov (.tmp 1), none⟩,
 ⟨some 9, .len (.tmp 8), none⟩,
 ⟨some 10, .bin .neq (.tmp 7) (.tmp 9), none⟩])
 (.cond (.tmp 10)
  (.seq (.region [
  ⟨some 4, .mov (.const (.bool false)), none⟩])
  .ret)
  .skip))
 (.seq (.seq (.region [
 ⟨some 5, .mov (.const (.int .i64 0)), none⟩])
 (.block 0
  (.loop 67106864
   (.seq (.seq (.region [
   ⟨some 11, .mov (.tmp 5), none⟩,
   ⟨some 12, .mov (.tmp 0), none⟩,
   ⟨some 13, .len (.tmp 12), none⟩,
   ⟨some 14, .bin .lss (.tmp 11) (.tmp 13), none⟩])
   (.cond (.tmp 14)
    .skip
    (.exit 0)))
   (.seq (.block 1
    (.seq (.draw (.f ⟨some 17, .mov (.tmp 0), none⟩
    (.f ⟨some 18, .mov (.tmp 5), none⟩
    (.f ⟨some 19, .ixs 5 (.tmp 17) (.tmp 18), none⟩
    (.f ⟨some 20, .ldN 5 (.tmp 19), none⟩
    (.f ⟨some 21, .mov (.tmp 1), none⟩
    (.f ⟨some 22, .mov (.tmp 5), none⟩
    (.f ⟨some 23, .ixs 5 (.tmp 21) (.tmp 22), none⟩
    (.f ⟨some 24, .ldN 5 (.tmp 23), none⟩
    (.f ⟨some 25, .ageq true [0, 0, 0, 0, 0] (.tmp 20) (.tmp 24), none⟩
    .done))))))))))
    (.cond (.tmp 25)
     (.seq (.region [
     ⟨some 4, .mov (.const (.bool false)), none⟩])
     .ret)
     .skip)))
   (.region [
   ⟨some 15, .mov (.tmp 5), none⟩,
   ⟨some 16, .bin .add (.tmp 15) (.const (.int .i64 1)), none⟩,
   ⟨some 5, .mov (.tmp 16), none⟩]))))))
 (.seq (.region [
 ⟨some 4, .mov (.const (.bool true)), none⟩])
 .ret)))),
 [.tmp 4]⟩
theorem low_kit_Program : lowFn Tryz.prog movers 26 = some ⟨ir_kit_Program.n, strip ir_kit_Program.body, ir_kit_Program.res⟩ := by kernel_rfl

/-- strongtx/strongtxkit.Place -/
def ir_kit_Place : IFn := ⟨11,
 (.seq (.region [
 ⟨some 4, .mov (.const (.int .i64 0)), none⟩])
 (.seq (.region [
 ⟨some 5, .mov (.tmp 0), none⟩,
 ⟨some 6, .conv .u64 (.tmp 5), none⟩,
 ⟨some 7, .mov (.tmp 1), none⟩,
 ⟨some 8, .conv .u64 (.tmp 7), none⟩,
 ⟨some 9, .bin .rem (.tmp 6) (.tmp 8), none⟩,
 ⟨some 10, .conv .i64 (.tmp 9), none⟩,
 ⟨some 4, .mov (.tmp 10), none⟩])
 .ret)),
 [.tmp 4]⟩
theorem low_kit_Place : lowFn Tryz.prog movers 31 = some ⟨ir_kit_Place.n, strip ir_kit_Place.body, ir_kit_Place.res⟩ := by kernel_rfl
end Go.Proofs.YtiimndcifcoofaaGreatDoor
