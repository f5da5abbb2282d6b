/- The lowered code of a package, printed by program; each function is checked against the loaded program by the kernel. No condition. -/
import Derived.Test.YtiimndcifcoofaaGreatDoorIR
namespace Go.Proofs.YtiimndcifcoofaaGreatDoor
open Go
set_option maxRecDepth 100000

/-- strongtx/alu.Name -/
def ir_alu_Name : IFn := ⟨12,
 (.seq (.region [
 ⟨some 2, .mov (.const (.string ⟨#[]⟩)), none⟩])
 (.seq (.seq (.region [
 ⟨some 3, .mov (.tmp 0), none⟩,
 ⟨some 4, .bin .lss (.tmp 3) (.const (.int .i64 0)), none⟩,
 ⟨some 5, .mov (.tmp 4), none⟩,
 ⟨some 6, .mov (.tmp 0), some (5, false)⟩,
 ⟨some 7, .bin .geq (.tmp 6) (.const (.int .i64 22)), some (5, false)⟩,
 ⟨some 8, .pick (.tmp 5) (.const (.bool true)) (.tmp 7), none⟩])
 (.cond (.tmp 8)
  (.seq (.region [
  ⟨some 2, .mov (.const (.string ⟨#[]⟩)), none⟩])
  .ret)
  .skip))
 (.seq (.region [
 ⟨some 9, .mov (.tmp 0), none⟩,
 ⟨some 10, .ixa 22 1 (.global 1) (.tmp 9), none⟩,
 ⟨some 11, .ld (.tmp 10), none⟩,
 ⟨some 2, .mov (.tmp 11), none⟩])
 .ret))),
 [.tmp 2]⟩
theorem low_alu_Name : lowFn Tryz.prog movers 35 = some ⟨ir_alu_Name.n, strip ir_alu_Name.body, ir_alu_Name.res⟩ := by kernel_rfl

/-- strongtx/alu.Number -/
def ir_alu_Number : IFn := ⟨15,
 (.seq (.region [
 ⟨some 2, .mov (.const (.int .i64 0)), none⟩,
 ⟨some 3, .mov (.const (.bool false)), none⟩])
 (.seq (.seq (.region [
 ⟨some 5, .mov (.const (.int .i64 0)), none⟩])
 (.block 0
  (.loop 32764
   (.seq (.region [
   ⟨some 6, .bin .lss (.tmp 5) (.const (.int .i64 22)), none⟩])
   (.seq (.cond (.tmp 6)
    .skip
    (.exit 0))
   (.seq (.block 1
    (.seq (.region [
    ⟨some 7, .mov (.tmp 5), none⟩,
    ⟨some 4, .mov (.tmp 7), none⟩])
    (.seq (.region [
    ⟨some 8, .mov (.tmp 4), none⟩,
    ⟨some 9, .ixa 22 1 (.global 1) (.tmp 8), none⟩,
    ⟨some 10, .ld (.tmp 9), none⟩,
    ⟨some 11, .mov (.tmp 0), none⟩,
    ⟨some 12, .sbin .eql (.tmp 10) (.tmp 11), none⟩])
    (.cond (.tmp 12)
     (.seq (.region [
     ⟨some 13, .mov (.tmp 4), none⟩,
     ⟨some 2, .mov (.tmp 13), none⟩,
     ⟨some 3, .mov (.const (.bool true)), none⟩])
     .ret)
     .skip))))
   (.region [
   ⟨some 14, .bin .add (.tmp 5) (.const (.int .i64 1)), none⟩,
   ⟨some 5, .mov (.tmp 14), none⟩])))))))
 (.seq (.region [
 ⟨some 2, .mov (.const (.int .i64 0)), none⟩,
 ⟨some 3, .mov (.const (.bool false)), none⟩])
 .ret))),
 [.tmp 2, .tmp 3]⟩
theorem low_alu_Number : lowFn Tryz.prog movers 107 = some ⟨ir_alu_Number.n, strip ir_alu_Number.body, ir_alu_Number.res⟩ := by kernel_rfl
end Go.Proofs.YtiimndcifcoofaaGreatDoor
