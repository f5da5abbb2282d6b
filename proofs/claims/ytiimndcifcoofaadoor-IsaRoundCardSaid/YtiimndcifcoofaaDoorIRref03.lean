/- The lowered code of a package, printed by program; each function is checked against the loaded program by the kernel. No condition. -/
import Derived.Test.YtiimndcifcoofaaDoorIR
namespace Go.Proofs.YtiimndcifcoofaaDoor
open Go
set_option maxRecDepth 100000

/-- strongtx/strongtxref03.Check -/
def ir_ref03_Check : IFn := ⟨64,
 (.seq (.region [
 ⟨some 1, .box 23 (.tmp 0), none⟩,
 ⟨some 2, .mov (.const (.int .i64 0)), none⟩])
 (.seq (.seq (.region [
 ⟨some 6, .fad 0 (.tmp 1), none⟩,
 ⟨some 7, .ld (.tmp 6), none⟩,
 ⟨some 8, .bin .lss (.tmp 7) (.const (.int .i64 0)), none⟩,
 ⟨some 9, .mov (.tmp 8), none⟩,
 ⟨some 10, .fad 0 (.tmp 1), some (9, false)⟩,
 ⟨some 11, .ld (.tmp 10), some (9, false)⟩,
 ⟨some 12, .bin .geq (.tmp 11) (.const (.int .i64 18)), some (9, false)⟩,
 ⟨some 13, .pick (.tmp 9) (.const (.bool true)) (.tmp 12), none⟩])
 (.cond (.tmp 13)
  (.seq (.region [
  ⟨some 2, .mov (.const (.int .i64 10)), none⟩])
  .ret)
  .skip))
 (.seq (.region [
 ⟨some 14, .fad 0 (.tmp 1), none⟩,
 ⟨some 15, .ld (.tmp 14), none⟩,
 ⟨some 16, .call 19 [(.tmp 15)], none⟩,
 ⟨some 3, .mov (.tmp 16), none⟩])
 (.seq (.seq (.draw (.f ⟨some 17, .fad 1 (.tmp 1), none⟩
 (.f ⟨some 18, .ld (.tmp 17), none⟩
 (.f ⟨some 19, .mov (.tmp 3), none⟩
 (.f ⟨some 20, .call 21 [(.tmp 19), (.const (.int .u8 114))], none⟩
 (.f ⟨some 21, .call 20 [(.tmp 18), (.tmp 20)], none⟩
 (.f ⟨some 22, .not (.tmp 21), none⟩
 (.f ⟨some 23, .mov (.tmp 22), none⟩
 (.f ⟨some 24, .fad 2 (.tmp 1), some (23, false)⟩
 (.f ⟨some 25, .ld (.tmp 24), some (23, false)⟩
 (.f ⟨some 26, .mov (.tmp 3), some (23, false)⟩
 (.f ⟨some 27, .call 21 [(.tmp 26), (.const (.int .u8 115))], some (23, false)⟩
 (.f ⟨some 28, .call 20 [(.tmp 25), (.tmp 27)], some (23, false)⟩
 (.f ⟨some 29, .not (.tmp 28), some (23, false)⟩
 (.f ⟨some 30, .pick (.tmp 23) (.const (.bool true)) (.tmp 29), none⟩
 (.f ⟨some 31, .mov (.tmp 30), none⟩
 (.f ⟨some 32, .fad 3 (.tmp 1), some (31, false)⟩
 (.f ⟨some 33, .ld (.tmp 32), some (31, false)⟩
 (.f ⟨some 34, .mov (.tmp 3), some (31, false)⟩
 (.f ⟨some 35, .call 21 [(.tmp 34), (.const (.int .u8 116))], some (31, false)⟩
 (.f ⟨some 36, .call 20 [(.tmp 33), (.tmp 35)], some (31, false)⟩
 (.f ⟨some 37, .not (.tmp 36), some (31, false)⟩
 (.f ⟨some 38, .pick (.tmp 31) (.const (.bool true)) (.tmp 37), none⟩
 .done)))))))))))))))))))))))
 (.cond (.tmp 38)
  (.seq (.region [
  ⟨some 2, .mov (.const (.int .i64 11)), none⟩])
  .ret)
  .skip))
 (.seq (.region [
 ⟨some 4, .mov (.const (.int .i64 0)), none⟩,
 ⟨some 5, .mov (.const (.int .i64 0)), none⟩])
 (.seq (.block 0
  (.seq (.region [
  ⟨some 40, .mov (.tmp 3), none⟩,
  ⟨some 41, .call 21 [(.tmp 40), (.const (.int .u8 105))], none⟩,
  ⟨some 39, .mov (.tmp 41), none⟩])
  (.cond (.tmp 39)
   (.seq (.region [
   ⟨some 2, .mov (.const (.int .i64 0)), none⟩])
   .ret)
   (.seq (.region [
   ⟨some 43, .mov (.tmp 3), none⟩,
   ⟨some 44, .call 21 [(.tmp 43), (.const (.int .u8 102))], none⟩,
   ⟨some 42, .mov (.tmp 44), none⟩])
   (.cond (.tmp 42)
    (.region [
    ⟨some 5, .mov (.const (.int .i64 21)), none⟩])
    (.seq (.region [
    ⟨some 46, .mov (.tmp 3), none⟩,
    ⟨some 47, .call 21 [(.tmp 46), (.const (.int .u8 106))], none⟩,
    ⟨some 45, .mov (.tmp 47), none⟩])
    (.cond (.tmp 45)
     (.region [
     ⟨some 5, .mov (.const (.int .i64 64)), none⟩])
     (.seq (.region [
     ⟨some 49, .mov (.tmp 3), none⟩,
     ⟨some 50, .call 21 [(.tmp 49), (.const (.int .u8 97))], none⟩,
     ⟨some 48, .mov (.tmp 50), none⟩])
     (.cond (.tmp 48)
      (.region [
      ⟨some 4, .mov (.const (.int .i64 1)), none⟩,
      ⟨some 5, .mov (.const (.int .i64 8)), none⟩])
      (.seq (.region [
      ⟨some 52, .mov (.tmp 3), none⟩,
      ⟨some 53, .call 21 [(.tmp 52), (.const (.int .u8 99))], none⟩,
      ⟨some 51, .mov (.tmp 53), none⟩])
      (.cond (.tmp 51)
       (.region [
       ⟨some 5, .mov (.const (.int .i64 3)), none⟩])
       .skip)))))))))))
 (.seq (.seq (.region [
 ⟨some 54, .fad 4 (.tmp 1), none⟩,
 ⟨some 55, .ld (.tmp 54), none⟩,
 ⟨some 56, .mov (.tmp 4), none⟩,
 ⟨some 57, .bin .lss (.tmp 55) (.tmp 56), none⟩,
 ⟨some 58, .mov (.tmp 57), none⟩,
 ⟨some 59, .fad 4 (.tmp 1), some (58, false)⟩,
 ⟨some 60, .ld (.tmp 59), some (58, false)⟩,
 ⟨some 61, .mov (.tmp 5), some (58, false)⟩,
 ⟨some 62, .bin .gtr (.tmp 60) (.tmp 61), some (58, false)⟩,
 ⟨some 63, .pick (.tmp 58) (.const (.bool true)) (.tmp 62), none⟩])
 (.cond (.tmp 63)
  (.seq (.region [
  ⟨some 2, .mov (.const (.int .i64 11)), none⟩])
  .ret)
  .skip))
 (.seq (.region [
 ⟨some 2, .mov (.const (.int .i64 0)), none⟩])
 .ret)))))))),
 [.tmp 2]⟩
theorem low_ref03_Check : lowFn Tryd.prog movers 8 = some ⟨ir_ref03_Check.n, strip ir_ref03_Check.body, ir_ref03_Check.res⟩ := by kernel_rfl

/-- strongtx/strongtxref03.form -/
def ir_ref03_form : IFn := ⟨7,
 (.seq (.region [
 ⟨some 2, .mov (.const (.string ⟨#[]⟩)), none⟩])
 (.seq (.region [
 ⟨some 3, .blds 9 18 [(.string ⟨#[]⟩), (.string ⟨#[]⟩), (.string ⟨#[]⟩), (.string ⟨#[]⟩), (.string ⟨#[]⟩), (.string ⟨#[]⟩), (.string ⟨#[]⟩), (.string ⟨#[]⟩), (.string ⟨#[]⟩), (.string ⟨#[]⟩), (.string ⟨#[]⟩), (.string ⟨#[]⟩), (.string ⟨#[]⟩), (.string ⟨#[]⟩), (.string ⟨#[]⟩), (.string ⟨#[]⟩), (.string ⟨#[]⟩), (.string ⟨#[]⟩)] [(0, 1, (.const (.string ⟨#[]⟩))), (1, 1, (.const (.string ⟨#[114, 105]⟩))), (2, 1, (.const (.string ⟨#[114, 115]⟩))), (3, 1, (.const (.string ⟨#[114, 115, 116, 102]⟩))), (4, 1, (.const (.string ⟨#[106]⟩))), (5, 1, (.const (.string ⟨#[114, 106]⟩))), (6, 1, (.const (.string ⟨#[114, 106]⟩))), (7, 1, (.const (.string ⟨#[97]⟩))), (8, 1, (.const (.string ⟨#[]⟩))), (9, 1, (.const (.string ⟨#[]⟩))), (10, 1, (.const (.string ⟨#[114, 115, 105]⟩))), (11, 1, (.const (.string ⟨#[114, 115, 105]⟩))), (12, 1, (.const (.string ⟨#[114, 115, 105]⟩))), (13, 1, (.const (.string ⟨#[114, 115, 105]⟩))), (14, 1, (.const (.string ⟨#[114, 99]⟩))), (15, 1, (.const (.string ⟨#[114]⟩))), (16, 1, (.const (.string ⟨#[]⟩))), (17, 1, (.const (.string ⟨#[114]⟩)))], none⟩,
 ⟨some 4, .mov (.tmp 0), none⟩,
 ⟨some 5, .ixs 1 (.tmp 3) (.tmp 4), none⟩,
 ⟨some 6, .ld (.tmp 5), none⟩,
 ⟨some 2, .mov (.tmp 6), none⟩])
 .ret)),
 [.tmp 2]⟩
theorem low_ref03_form : lowFn Tryd.prog movers 19 = some ⟨ir_ref03_form.n, strip ir_ref03_form.body, ir_ref03_form.res⟩ := by kernel_rfl

/-- strongtx/strongtxref03.register -/
def ir_ref03_register : IFn := ⟨14,
 (.seq (.region [
 ⟨some 4, .mov (.const (.bool false)), none⟩])
 (.seq (.seq (.region [
 ⟨some 5, .mov (.tmp 1), none⟩])
 (.cond (.tmp 5)
  (.seq (.region [
  ⟨some 6, .mov (.tmp 0), none⟩,
  ⟨some 7, .bin .geq (.tmp 6) (.const (.int .i64 0)), none⟩,
  ⟨some 8, .mov (.tmp 7), none⟩,
  ⟨some 9, .mov (.tmp 0), some (8, true)⟩,
  ⟨some 10, .bin .lss (.tmp 9) (.const (.int .i64 8)), some (8, true)⟩,
  ⟨some 11, .pick (.tmp 8) (.tmp 10) (.const (.bool false)), none⟩,
  ⟨some 4, .mov (.tmp 11), none⟩])
  .ret)
  .skip))
 (.seq (.region [
 ⟨some 12, .mov (.tmp 0), none⟩,
 ⟨some 13, .bin .eql (.tmp 12) (.const (.int .i64 0)), none⟩,
 ⟨some 4, .mov (.tmp 13), none⟩])
 .ret))),
 [.tmp 4]⟩
theorem low_ref03_register : lowFn Tryd.prog movers 20 = some ⟨ir_ref03_register.n, strip ir_ref03_register.body, ir_ref03_register.res⟩ := by kernel_rfl

/-- strongtx/strongtxref03.has -/
def ir_ref03_has : IFn := ⟨17,
 (.seq (.region [
 ⟨some 4, .mov (.const (.bool false)), none⟩])
 (.seq (.seq (.region [
 ⟨some 5, .mov (.const (.int .i64 0)), none⟩])
 (.block 0
  (.loop 131056
   (.seq (.seq (.region [
   ⟨some 6, .mov (.tmp 5), none⟩,
   ⟨some 7, .mov (.tmp 0), none⟩,
   ⟨some 8, .lens (.tmp 7), none⟩,
   ⟨some 9, .bin .lss (.tmp 6) (.tmp 8), none⟩])
   (.cond (.tmp 9)
    .skip
    (.exit 0)))
   (.seq (.block 1
    (.seq (.region [
    ⟨some 12, .mov (.tmp 0), none⟩,
    ⟨some 13, .mov (.tmp 5), none⟩,
    ⟨some 14, .sidx (.tmp 12) (.tmp 13), none⟩,
    ⟨some 15, .mov (.tmp 1), none⟩,
    ⟨some 16, .bin .eql (.tmp 14) (.tmp 15), none⟩])
    (.cond (.tmp 16)
     (.seq (.region [
     ⟨some 4, .mov (.const (.bool true)), none⟩])
     .ret)
     .skip)))
   (.region [
   ⟨some 10, .mov (.tmp 5), none⟩,
   ⟨some 11, .bin .add (.tmp 10) (.const (.int .i64 1)), none⟩,
   ⟨some 5, .mov (.tmp 11), none⟩]))))))
 (.seq (.region [
 ⟨some 4, .mov (.const (.bool false)), none⟩])
 .ret))),
 [.tmp 4]⟩
theorem low_ref03_has : lowFn Tryd.prog movers 21 = some ⟨ir_ref03_has.n, strip ir_ref03_has.body, ir_ref03_has.res⟩ := by kernel_rfl
end Go.Proofs.YtiimndcifcoofaaDoor
