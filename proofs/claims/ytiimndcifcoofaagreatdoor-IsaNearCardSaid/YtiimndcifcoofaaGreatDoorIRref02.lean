/- The lowered code of a package, printed by program; each function is checked against the loaded program by the kernel. No condition. -/
import Derived.Test.YtiimndcifcoofaaGreatDoorIR
namespace Go.Proofs.YtiimndcifcoofaaGreatDoor
open Go
set_option maxRecDepth 100000

/-- strongtx/strongtxref02.Name -/
def ir_ref02_Name : IFn := ⟨13,
 (.seq (.region [
 ⟨some 2, .mov (.const (.string ⟨#[]⟩)), none⟩])
 (.seq (.seq (.region [
 ⟨some 3, .mov (.tmp 0), none⟩,
 ⟨some 4, .bin .lss (.tmp 3) (.const (.int .i64 0)), none⟩,
 ⟨some 5, .mov (.tmp 4), none⟩,
 ⟨some 6, .mov (.tmp 0), some (5, false)⟩,
 ⟨some 7, .bin .geq (.tmp 6) (.const (.int .i64 22)), some (5, false)⟩,
 ⟨some 8, .pick (.tmp 5) (.const (.bool true)) (.tmp 7), none⟩])
 (.cond (.tmp 8)
  (.seq (.region [
  ⟨some 2, .mov (.const (.string ⟨#[]⟩)), none⟩])
  .ret)
  .skip))
 (.seq (.region [
 ⟨some 9, .call 69 [], none⟩,
 ⟨some 10, .mov (.tmp 0), none⟩,
 ⟨some 11, .ixs 1 (.tmp 9) (.tmp 10), none⟩,
 ⟨some 12, .ld (.tmp 11), none⟩,
 ⟨some 2, .mov (.tmp 12), none⟩])
 .ret))),
 [.tmp 2]⟩
theorem low_ref02_Name : lowFn Tryz.prog movers 40 = some ⟨ir_ref02_Name.n, strip ir_ref02_Name.body, ir_ref02_Name.res⟩ := by kernel_rfl

/-- strongtx/strongtxref02.names -/
def ir_ref02_names : IFn := ⟨2,
 (.seq (.region [
 ⟨some 0, .mov (.const (.slice none 0 0)), none⟩])
 (.seq (.region [
 ⟨some 1, .blds 9 22 [(.string ⟨#[]⟩), (.string ⟨#[]⟩), (.string ⟨#[]⟩), (.string ⟨#[]⟩), (.string ⟨#[]⟩), (.string ⟨#[]⟩), (.string ⟨#[]⟩), (.string ⟨#[]⟩), (.string ⟨#[]⟩), (.string ⟨#[]⟩), (.string ⟨#[]⟩), (.string ⟨#[]⟩), (.string ⟨#[]⟩), (.string ⟨#[]⟩), (.string ⟨#[]⟩), (.string ⟨#[]⟩), (.string ⟨#[]⟩), (.string ⟨#[]⟩), (.string ⟨#[]⟩), (.string ⟨#[]⟩), (.string ⟨#[]⟩), (.string ⟨#[]⟩)] [(0, 1, (.const (.string ⟨#[97, 100, 100]⟩))), (1, 1, (.const (.string ⟨#[115, 117, 98]⟩))), (2, 1, (.const (.string ⟨#[109, 117, 108]⟩))), (3, 1, (.const (.string ⟨#[97, 110, 100]⟩))), (4, 1, (.const (.string ⟨#[111, 114]⟩))), (5, 1, (.const (.string ⟨#[120, 111, 114]⟩))), (6, 1, (.const (.string ⟨#[115, 104, 108]⟩))), (7, 1, (.const (.string ⟨#[115, 104, 114]⟩))), (8, 1, (.const (.string ⟨#[101, 113]⟩))), (9, 1, (.const (.string ⟨#[110, 101]⟩))), (10, 1, (.const (.string ⟨#[108, 116]⟩))), (11, 1, (.const (.string ⟨#[108, 116, 117]⟩))), (12, 1, (.const (.string ⟨#[102, 97, 100, 100]⟩))), (13, 1, (.const (.string ⟨#[102, 115, 117, 98]⟩))), (14, 1, (.const (.string ⟨#[102, 109, 117, 108]⟩))), (15, 1, (.const (.string ⟨#[102, 100, 105, 118]⟩))), (16, 1, (.const (.string ⟨#[102, 109, 105, 110]⟩))), (17, 1, (.const (.string ⟨#[102, 109, 97, 120]⟩))), (18, 1, (.const (.string ⟨#[102, 101, 113]⟩))), (19, 1, (.const (.string ⟨#[102, 108, 116]⟩))), (20, 1, (.const (.string ⟨#[102, 114, 111, 109, 105, 110, 116]⟩))), (21, 1, (.const (.string ⟨#[116, 111, 105, 110, 116]⟩)))], none⟩,
 ⟨some 0, .mov (.tmp 1), none⟩])
 .ret)),
 [.tmp 0]⟩
theorem low_ref02_names : lowFn Tryz.prog movers 69 = some ⟨ir_ref02_names.n, strip ir_ref02_names.body, ir_ref02_names.res⟩ := by kernel_rfl

/-- strongtx/strongtxref02.Number -/
def ir_ref02_Number : IFn := ⟨20,
 (.seq (.region [
 ⟨some 2, .mov (.const (.int .i64 0)), none⟩,
 ⟨some 3, .mov (.const (.bool false)), none⟩])
 (.seq (.region [
 ⟨some 6, .call 69 [], none⟩,
 ⟨some 4, .mov (.tmp 6), none⟩])
 (.seq (.seq (.region [
 ⟨some 5, .mov (.const (.int .i64 0)), none⟩])
 (.block 0
  (.loop 1048492
   (.seq (.seq (.region [
   ⟨some 7, .mov (.tmp 5), none⟩,
   ⟨some 8, .mov (.tmp 4), none⟩,
   ⟨some 9, .len (.tmp 8), none⟩,
   ⟨some 10, .bin .lss (.tmp 7) (.tmp 9), none⟩])
   (.cond (.tmp 10)
    .skip
    (.exit 0)))
   (.seq (.block 1
    (.seq (.region [
    ⟨some 13, .mov (.tmp 4), none⟩,
    ⟨some 14, .mov (.tmp 5), none⟩,
    ⟨some 15, .ixs 1 (.tmp 13) (.tmp 14), none⟩,
    ⟨some 16, .ld (.tmp 15), none⟩,
    ⟨some 17, .mov (.tmp 0), none⟩,
    ⟨some 18, .sbin .eql (.tmp 16) (.tmp 17), none⟩])
    (.cond (.tmp 18)
     (.seq (.region [
     ⟨some 19, .mov (.tmp 5), none⟩,
     ⟨some 2, .mov (.tmp 19), none⟩,
     ⟨some 3, .mov (.const (.bool true)), none⟩])
     .ret)
     .skip)))
   (.region [
   ⟨some 11, .mov (.tmp 5), none⟩,
   ⟨some 12, .bin .add (.tmp 11) (.const (.int .i64 1)), none⟩,
   ⟨some 5, .mov (.tmp 12), none⟩]))))))
 (.seq (.region [
 ⟨some 2, .mov (.const (.int .i64 0)), none⟩,
 ⟨some 3, .mov (.const (.bool false)), none⟩])
 .ret)))),
 [.tmp 2, .tmp 3]⟩
theorem low_ref02_Number : lowFn Tryz.prog movers 83 = some ⟨ir_ref02_Number.n, strip ir_ref02_Number.body, ir_ref02_Number.res⟩ := by kernel_rfl
end Go.Proofs.YtiimndcifcoofaaGreatDoor
