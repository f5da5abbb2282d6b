/- The lowered code of a package, printed by program; each function is checked against the loaded program by the kernel. No condition. -/
import Derived.Test.YtiimndcifcoofaaGreatDoorIR
namespace Go.Proofs.YtiimndcifcoofaaGreatDoor
open Go
set_option maxRecDepth 100000

/-- strongtx/strongtxref03.Format -/
def ir_ref03_Format : IFn := ⟨69,
 (.seq (.region [
 ⟨some 1, .box 23 (.tmp 0), none⟩,
 ⟨some 2, .mov (.const (.string ⟨#[]⟩)), none⟩,
 ⟨some 3, .mov (.const (.int .i64 0)), none⟩])
 (.seq (.seq (.region [
 ⟨some 7, .ldN 5 (.tmp 1), none⟩,
 ⟨some 8, .call 14 [(.tmp 7)], none⟩,
 ⟨some 4, .mov (.tmp 8), none⟩])
 (.seq (.region [
 ⟨some 9, .mov (.tmp 4), none⟩,
 ⟨some 10, .bin .neq (.tmp 9) (.const (.int .i64 0)), none⟩])
 (.cond (.tmp 10)
  (.seq (.region [
  ⟨some 11, .mov (.tmp 4), none⟩,
  ⟨some 2, .mov (.const (.string ⟨#[]⟩)), none⟩,
  ⟨some 3, .mov (.tmp 11), none⟩])
  .ret)
  .skip)))
 (.seq (.region [
 ⟨some 12, .fad 0 (.tmp 1), none⟩,
 ⟨some 13, .ld (.tmp 12), none⟩,
 ⟨some 14, .call 38 [(.tmp 13)], none⟩,
 ⟨some 5, .mov (.tmp 14), none⟩])
 (.seq (.region [
 ⟨some 15, .fad 0 (.tmp 1), none⟩,
 ⟨some 16, .ld (.tmp 15), none⟩,
 ⟨some 17, .call 39 [(.tmp 16)], none⟩,
 ⟨some 6, .mov (.tmp 17), none⟩])
 (.seq (.seq (.region [
 ⟨some 18, .fad 0 (.tmp 1), none⟩,
 ⟨some 19, .ld (.tmp 18), none⟩,
 ⟨some 20, .bin .eql (.tmp 19) (.const (.int .i64 3)), none⟩])
 (.cond (.tmp 20)
  (.region [
  ⟨some 21, .fad 4 (.tmp 1), none⟩,
  ⟨some 22, .ld (.tmp 21), none⟩,
  ⟨some 23, .call 40 [(.tmp 22)], none⟩,
  ⟨some 6, .mov (.tmp 23), none⟩])
  .skip))
 (.seq (.seq (.region [
 ⟨some 24, .mov (.tmp 5), none⟩,
 ⟨some 25, .call 41 [(.tmp 24), (.const (.int .u8 114))], none⟩])
 (.cond (.tmp 25)
  (.region [
  ⟨some 26, .mov (.tmp 6), none⟩,
  ⟨some 27, .scat (.tmp 26) (.const (.string ⟨#[32, 114]⟩)), none⟩,
  ⟨some 28, .fad 1 (.tmp 1), none⟩,
  ⟨some 29, .ld (.tmp 28), none⟩,
  ⟨some 30, .call 36 [(.tmp 29)], none⟩,
  ⟨some 31, .scat (.tmp 27) (.tmp 30), none⟩,
  ⟨some 6, .mov (.tmp 31), none⟩])
  .skip))
 (.seq (.seq (.region [
 ⟨some 32, .mov (.tmp 5), none⟩,
 ⟨some 33, .call 41 [(.tmp 32), (.const (.int .u8 115))], none⟩])
 (.cond (.tmp 33)
  (.region [
  ⟨some 34, .mov (.tmp 6), none⟩,
  ⟨some 35, .scat (.tmp 34) (.const (.string ⟨#[32, 114]⟩)), none⟩,
  ⟨some 36, .fad 2 (.tmp 1), none⟩,
  ⟨some 37, .ld (.tmp 36), none⟩,
  ⟨some 38, .call 36 [(.tmp 37)], none⟩,
  ⟨some 39, .scat (.tmp 35) (.tmp 38), none⟩,
  ⟨some 6, .mov (.tmp 39), none⟩])
  .skip))
 (.seq (.seq (.region [
 ⟨some 40, .mov (.tmp 5), none⟩,
 ⟨some 41, .call 41 [(.tmp 40), (.const (.int .u8 116))], none⟩])
 (.cond (.tmp 41)
  (.region [
  ⟨some 42, .mov (.tmp 6), none⟩,
  ⟨some 43, .scat (.tmp 42) (.const (.string ⟨#[32, 114]⟩)), none⟩,
  ⟨some 44, .fad 3 (.tmp 1), none⟩,
  ⟨some 45, .ld (.tmp 44), none⟩,
  ⟨some 46, .call 36 [(.tmp 45)], none⟩,
  ⟨some 47, .scat (.tmp 43) (.tmp 46), none⟩,
  ⟨some 6, .mov (.tmp 47), none⟩])
  .skip))
 (.seq (.seq (.region [
 ⟨some 48, .mov (.tmp 5), none⟩,
 ⟨some 49, .call 41 [(.tmp 48), (.const (.int .u8 105))], none⟩,
 ⟨some 50, .mov (.tmp 49), none⟩,
 ⟨some 51, .mov (.tmp 5), some (50, false)⟩,
 ⟨some 52, .call 41 [(.tmp 51), (.const (.int .u8 106))], some (50, false)⟩,
 ⟨some 53, .pick (.tmp 50) (.const (.bool true)) (.tmp 52), none⟩,
 ⟨some 54, .mov (.tmp 53), none⟩,
 ⟨some 55, .mov (.tmp 5), some (54, false)⟩,
 ⟨some 56, .call 41 [(.tmp 55), (.const (.int .u8 97))], some (54, false)⟩,
 ⟨some 57, .pick (.tmp 54) (.const (.bool true)) (.tmp 56), none⟩,
 ⟨some 58, .mov (.tmp 57), none⟩,
 ⟨some 59, .mov (.tmp 5), some (58, false)⟩,
 ⟨some 60, .call 41 [(.tmp 59), (.const (.int .u8 99))], some (58, false)⟩,
 ⟨some 61, .pick (.tmp 58) (.const (.bool true)) (.tmp 60), none⟩])
 (.cond (.tmp 61)
  (.region [
  ⟨some 62, .mov (.tmp 6), none⟩,
  ⟨some 63, .scat (.tmp 62) (.const (.string ⟨#[32]⟩)), none⟩,
  ⟨some 64, .fad 4 (.tmp 1), none⟩,
  ⟨some 65, .ld (.tmp 64), none⟩,
  ⟨some 66, .call 36 [(.tmp 65)], none⟩,
  ⟨some 67, .scat (.tmp 63) (.tmp 66), none⟩,
  ⟨some 6, .mov (.tmp 67), none⟩])
  .skip))
 (.seq (.region [
 ⟨some 68, .mov (.tmp 6), none⟩,
 ⟨some 2, .mov (.tmp 68), none⟩,
 ⟨some 3, .mov (.const (.int .i64 0)), none⟩])
 .ret)))))))))),
 [.tmp 2, .tmp 3]⟩
theorem low_ref03_Format : lowFn Tryz.prog movers 12 = some ⟨ir_ref03_Format.n, strip ir_ref03_Format.body, ir_ref03_Format.res⟩ := by kernel_rfl

/-- strongtx/strongtxref03.Check -/
def ir_ref03_Check : IFn := ⟨64,
 (.seq (.region [
 ⟨some 1, .box 23 (.tmp 0), none⟩,
 ⟨some 2, .mov (.const (.int .i64 0)), none⟩])
 (.seq (.seq (.region [
 ⟨some 6, .fad 0 (.tmp 1), none⟩,
 ⟨some 7, .ld (.tmp 6), none⟩,
 ⟨some 8, .bin .lss (.tmp 7) (.const (.int .i64 0)), none⟩,
 ⟨some 9, .mov (.tmp 8), none⟩,
 ⟨some 10, .fad 0 (.tmp 1), some (9, false)⟩,
 ⟨some 11, .ld (.tmp 10), some (9, false)⟩,
 ⟨some 12, .bin .geq (.tmp 11) (.const (.int .i64 18)), some (9, false)⟩,
 ⟨some 13, .pick (.tmp 9) (.const (.bool true)) (.tmp 12), none⟩])
 (.cond (.tmp 13)
  (.seq (.region [
  ⟨some 2, .mov (.const (.int .i64 10)), none⟩])
  .ret)
  .skip))
 (.seq (.region [
 ⟨some 14, .fad 0 (.tmp 1), none⟩,
 ⟨some 15, .ld (.tmp 14), none⟩,
 ⟨some 16, .call 38 [(.tmp 15)], none⟩,
 ⟨some 3, .mov (.tmp 16), none⟩])
 (.seq (.seq (.draw (.f ⟨some 17, .fad 1 (.tmp 1), none⟩
 (.f ⟨some 18, .ld (.tmp 17), none⟩
 (.f ⟨some 19, .mov (.tmp 3), none⟩
 (.f ⟨some 20, .call 41 [(.tmp 19), (.const (.int .u8 114))], none⟩
 (.f ⟨some 21, .call 44 [(.tmp 18), (.tmp 20)], none⟩
 (.f ⟨some 22, .not (.tmp 21), none⟩
 (.f ⟨some 23, .mov (.tmp 22), none⟩
 (.f ⟨some 24, .fad 2 (.tmp 1), some (23, false)⟩
 (.f ⟨some 25, .ld (.tmp 24), some (23, false)⟩
 (.f ⟨some 26, .mov (.tmp 3), some (23, false)⟩
 (.f ⟨some 27, .call 41 [(.tmp 26), (.const (.int .u8 115))], some (23, false)⟩
 (.f ⟨some 28, .call 44 [(.tmp 25), (.tmp 27)], some (23, false)⟩
 (.f ⟨some 29, .not (.tmp 28), some (23, false)⟩
 (.f ⟨some 30, .pick (.tmp 23) (.const (.bool true)) (.tmp 29), none⟩
 (.f ⟨some 31, .mov (.tmp 30), none⟩
 (.f ⟨some 32, .fad 3 (.tmp 1), some (31, false)⟩
 (.f ⟨some 33, .ld (.tmp 32), some (31, false)⟩
 (.f ⟨some 34, .mov (.tmp 3), some (31, false)⟩
 (.f ⟨some 35, .call 41 [(.tmp 34), (.const (.int .u8 116))], some (31, false)⟩
 (.f ⟨some 36, .call 44 [(.tmp 33), (.tmp 35)], some (31, false)⟩
 (.f ⟨some 37, .not (.tmp 36), some (31, false)⟩
 (.f ⟨some 38, .pick (.tmp 31) (.const (.bool true)) (.tmp 37), none⟩
 .done)))))))))))))))))))))))
 (.cond (.tmp 38)
  (.seq (.region [
  ⟨some 2, .mov (.const (.int .i64 11)), none⟩])
  .ret)
  .skip))
 (.seq (.region [
 ⟨some 4, .mov (.const (.int .i64 0)), none⟩,
 ⟨some 5, .mov (.const (.int .i64 0)), none⟩])
 (.seq (.block 0
  (.seq (.region [
  ⟨some 40, .mov (.tmp 3), none⟩,
  ⟨some 41, .call 41 [(.tmp 40), (.const (.int .u8 105))], none⟩,
  ⟨some 39, .mov (.tmp 41), none⟩])
  (.cond (.tmp 39)
   (.seq (.region [
   ⟨some 2, .mov (.const (.int .i64 0)), none⟩])
   .ret)
   (.seq (.region [
   ⟨some 43, .mov (.tmp 3), none⟩,
   ⟨some 44, .call 41 [(.tmp 43), (.const (.int .u8 102))], none⟩,
   ⟨some 42, .mov (.tmp 44), none⟩])
   (.cond (.tmp 42)
    (.region [
    ⟨some 5, .mov (.const (.int .i64 21)), none⟩])
    (.seq (.region [
    ⟨some 46, .mov (.tmp 3), none⟩,
    ⟨some 47, .call 41 [(.tmp 46), (.const (.int .u8 106))], none⟩,
    ⟨some 45, .mov (.tmp 47), none⟩])
    (.cond (.tmp 45)
     (.region [
     ⟨some 5, .mov (.const (.int .i64 64)), none⟩])
     (.seq (.region [
     ⟨some 49, .mov (.tmp 3), none⟩,
     ⟨some 50, .call 41 [(.tmp 49), (.const (.int .u8 97))], none⟩,
     ⟨some 48, .mov (.tmp 50), none⟩])
     (.cond (.tmp 48)
      (.region [
      ⟨some 4, .mov (.const (.int .i64 1)), none⟩,
      ⟨some 5, .mov (.const (.int .i64 8)), none⟩])
      (.seq (.region [
      ⟨some 52, .mov (.tmp 3), none⟩,
      ⟨some 53, .call 41 [(.tmp 52), (.const (.int .u8 99))], none⟩,
      ⟨some 51, .mov (.tmp 53), none⟩])
      (.cond (.tmp 51)
       (.region [
       ⟨some 5, .mov (.const (.int .i64 3)), none⟩])
       .skip)))))))))))
 (.seq (.seq (.region [
 ⟨some 54, .fad 4 (.tmp 1), none⟩,
 ⟨some 55, .ld (.tmp 54), none⟩,
 ⟨some 56, .mov (.tmp 4), none⟩,
 ⟨some 57, .bin .lss (.tmp 55) (.tmp 56), none⟩,
 ⟨some 58, .mov (.tmp 57), none⟩,
 ⟨some 59, .fad 4 (.tmp 1), some (58, false)⟩,
 ⟨some 60, .ld (.tmp 59), some (58, false)⟩,
 ⟨some 61, .mov (.tmp 5), some (58, false)⟩,
 ⟨some 62, .bin .gtr (.tmp 60) (.tmp 61), some (58, false)⟩,
 ⟨some 63, .pick (.tmp 58) (.const (.bool true)) (.tmp 62), none⟩])
 (.cond (.tmp 63)
  (.seq (.region [
  ⟨some 2, .mov (.const (.int .i64 11)), none⟩])
  .ret)
  .skip))
 (.seq (.region [
 ⟨some 2, .mov (.const (.int .i64 0)), none⟩])
 .ret)))))))),
 [.tmp 2]⟩
theorem low_ref03_Check : lowFn Tryz.prog movers 14 = some ⟨ir_ref03_Check.n, strip ir_ref03_Check.body, ir_ref03_Check.res⟩ := by kernel_rfl

/-- strongtx/strongtxref03.Uses -/
def ir_ref03_Uses : IFn := ⟨37,
 (.seq (.region [
 ⟨some 1, .box 23 (.tmp 0), none⟩,
 ⟨some 2, .mov (.const (.slice none 0 0)), none⟩])
 (.seq (.seq (.region [
 ⟨some 3, .ldN 5 (.tmp 1), none⟩,
 ⟨some 4, .call 14 [(.tmp 3)], none⟩,
 ⟨some 5, .bin .neq (.tmp 4) (.const (.int .i64 0)), none⟩])
 (.cond (.tmp 5)
  (.seq (.region [
  ⟨some 2, .mov (.const (.slice none 0 0)), none⟩])
  .ret)
  .skip))
 (.seq (.seq (.region [
 ⟨some 6, .fad 0 (.tmp 1), none⟩,
 ⟨some 7, .ld (.tmp 6), none⟩])
 (.block 0
  (.seq (.seq (.region [
  ⟨some 9, .bin .eql (.tmp 7) (.const (.int .i64 2)), none⟩,
  ⟨some 8, .mov (.tmp 9), none⟩])
  (.cond (.tmp 8)
   .skip
   (.seq (.region [
   ⟨some 10, .bin .eql (.tmp 7) (.const (.int .i64 10)), none⟩,
   ⟨some 8, .mov (.tmp 10), none⟩])
   (.cond (.tmp 8)
    .skip
    (.region [
    ⟨some 11, .bin .eql (.tmp 7) (.const (.int .i64 12)), none⟩,
    ⟨some 8, .mov (.tmp 11), none⟩])))))
  (.cond (.tmp 8)
   (.seq (.region [
   ⟨some 12, .fad 2 (.tmp 1), none⟩,
   ⟨some 13, .ld (.tmp 12), none⟩,
   ⟨some 14, .blds 3 1 [(.int .i64 0)] [(0, 1, (.tmp 13))], none⟩,
   ⟨some 2, .mov (.tmp 14), none⟩])
   .ret)
   (.seq (.region [
   ⟨some 16, .bin .eql (.tmp 7) (.const (.int .i64 3)), none⟩,
   ⟨some 15, .mov (.tmp 16), none⟩])
   (.cond (.tmp 15)
    (.seq (.region [
    ⟨some 17, .fad 2 (.tmp 1), none⟩,
    ⟨some 18, .ld (.tmp 17), none⟩,
    ⟨some 19, .fad 3 (.tmp 1), none⟩,
    ⟨some 20, .ld (.tmp 19), none⟩,
    ⟨some 21, .call 47 [(.tmp 18), (.tmp 20)], none⟩,
    ⟨some 2, .mov (.tmp 21), none⟩])
    .ret)
    (.seq (.seq (.region [
    ⟨some 23, .bin .eql (.tmp 7) (.const (.int .i64 5)), none⟩,
    ⟨some 22, .mov (.tmp 23), none⟩])
    (.cond (.tmp 22)
     .skip
     (.seq (.region [
     ⟨some 24, .bin .eql (.tmp 7) (.const (.int .i64 6)), none⟩,
     ⟨some 22, .mov (.tmp 24), none⟩])
     (.cond (.tmp 22)
      .skip
      (.region [
      ⟨some 25, .bin .eql (.tmp 7) (.const (.int .i64 15)), none⟩,
      ⟨some 22, .mov (.tmp 25), none⟩])))))
    (.cond (.tmp 22)
     (.seq (.region [
     ⟨some 26, .fad 1 (.tmp 1), none⟩,
     ⟨some 27, .ld (.tmp 26), none⟩,
     ⟨some 28, .blds 3 1 [(.int .i64 0)] [(0, 1, (.tmp 27))], none⟩,
     ⟨some 2, .mov (.tmp 28), none⟩])
     .ret)
     (.seq (.seq (.region [
     ⟨some 30, .bin .eql (.tmp 7) (.const (.int .i64 11)), none⟩,
     ⟨some 29, .mov (.tmp 30), none⟩])
     (.cond (.tmp 29)
      .skip
      (.region [
      ⟨some 31, .bin .eql (.tmp 7) (.const (.int .i64 13)), none⟩,
      ⟨some 29, .mov (.tmp 31), none⟩])))
     (.cond (.tmp 29)
      (.seq (.region [
      ⟨some 32, .fad 1 (.tmp 1), none⟩,
      ⟨some 33, .ld (.tmp 32), none⟩,
      ⟨some 34, .fad 2 (.tmp 1), none⟩,
      ⟨some 35, .ld (.tmp 34), none⟩,
      ⟨some 36, .call 47 [(.tmp 33), (.tmp 35)], none⟩,
      ⟨some 2, .mov (.tmp 36), none⟩])
      .ret)
      .skip))))))))))
 (.seq (.region [
 ⟨some 2, .mov (.const (.slice none 0 0)), none⟩])
 .ret)))),
 [.tmp 2]⟩
theorem low_ref03_Uses : lowFn Tryz.prog movers 17 = some ⟨ir_ref03_Uses.n, strip ir_ref03_Uses.body, ir_ref03_Uses.res⟩ := by kernel_rfl

/-- strongtx/strongtxref03.Sets -/
def ir_ref03_Sets : IFn := ⟨18,
 (.seq (.region [
 ⟨some 1, .box 23 (.tmp 0), none⟩,
 ⟨some 2, .mov (.const (.int .i64 0)), none⟩])
 (.seq (.seq (.region [
 ⟨some 3, .ldN 5 (.tmp 1), none⟩,
 ⟨some 4, .call 14 [(.tmp 3)], none⟩,
 ⟨some 5, .bin .neq (.tmp 4) (.const (.int .i64 0)), none⟩])
 (.cond (.tmp 5)
  (.seq (.region [
  ⟨some 2, .mov (.const (.int .i64 (-1))), none⟩])
  .ret)
  .skip))
 (.seq (.seq (.region [
 ⟨some 6, .fad 0 (.tmp 1), none⟩,
 ⟨some 7, .ld (.tmp 6), none⟩])
 (.block 0
  (.seq (.seq (.region [
  ⟨some 9, .bin .eql (.tmp 7) (.const (.int .i64 1)), none⟩,
  ⟨some 8, .mov (.tmp 9), none⟩])
  (.cond (.tmp 8)
   .skip
   (.seq (.region [
   ⟨some 10, .bin .eql (.tmp 7) (.const (.int .i64 2)), none⟩,
   ⟨some 8, .mov (.tmp 10), none⟩])
   (.cond (.tmp 8)
    .skip
    (.seq (.region [
    ⟨some 11, .bin .eql (.tmp 7) (.const (.int .i64 3)), none⟩,
    ⟨some 8, .mov (.tmp 11), none⟩])
    (.cond (.tmp 8)
     .skip
     (.seq (.region [
     ⟨some 12, .bin .eql (.tmp 7) (.const (.int .i64 10)), none⟩,
     ⟨some 8, .mov (.tmp 12), none⟩])
     (.cond (.tmp 8)
      .skip
      (.seq (.region [
      ⟨some 13, .bin .eql (.tmp 7) (.const (.int .i64 12)), none⟩,
      ⟨some 8, .mov (.tmp 13), none⟩])
      (.cond (.tmp 8)
       .skip
       (.seq (.region [
       ⟨some 14, .bin .eql (.tmp 7) (.const (.int .i64 14)), none⟩,
       ⟨some 8, .mov (.tmp 14), none⟩])
       (.cond (.tmp 8)
        .skip
        (.region [
        ⟨some 15, .bin .eql (.tmp 7) (.const (.int .i64 17)), none⟩,
        ⟨some 8, .mov (.tmp 15), none⟩])))))))))))))
  (.cond (.tmp 8)
   (.seq (.region [
   ⟨some 16, .fad 1 (.tmp 1), none⟩,
   ⟨some 17, .ld (.tmp 16), none⟩,
   ⟨some 2, .mov (.tmp 17), none⟩])
   .ret)
   .skip))))
 (.seq (.region [
 ⟨some 2, .mov (.const (.int .i64 (-1))), none⟩])
 .ret)))),
 [.tmp 2]⟩
theorem low_ref03_Sets : lowFn Tryz.prog movers 19 = some ⟨ir_ref03_Sets.n, strip ir_ref03_Sets.body, ir_ref03_Sets.res⟩ := by kernel_rfl

/-- strongtx/strongtxref03.Place -/
def ir_ref03_Place : IFn := ⟨21,
 (.seq (.region [
 ⟨some 1, .box 23 (.tmp 0), none⟩,
 ⟨some 2, .mov (.const (.int .i64 0)), none⟩])
 (.seq (.seq (.region [
 ⟨some 3, .ldN 5 (.tmp 1), none⟩,
 ⟨some 4, .call 14 [(.tmp 3)], none⟩,
 ⟨some 5, .bin .neq (.tmp 4) (.const (.int .i64 0)), none⟩])
 (.cond (.tmp 5)
  (.seq (.region [
  ⟨some 2, .mov (.const (.int .i64 0)), none⟩])
  .ret)
  .skip))
 (.seq (.seq (.region [
 ⟨some 6, .fad 0 (.tmp 1), none⟩,
 ⟨some 7, .ld (.tmp 6), none⟩])
 (.block 0
  (.seq (.seq (.region [
  ⟨some 9, .bin .eql (.tmp 7) (.const (.int .i64 8)), none⟩,
  ⟨some 8, .mov (.tmp 9), none⟩])
  (.cond (.tmp 8)
   .skip
   (.seq (.region [
   ⟨some 10, .bin .eql (.tmp 7) (.const (.int .i64 9)), none⟩,
   ⟨some 8, .mov (.tmp 10), none⟩])
   (.cond (.tmp 8)
    .skip
    (.seq (.region [
    ⟨some 11, .bin .eql (.tmp 7) (.const (.int .i64 10)), none⟩,
    ⟨some 8, .mov (.tmp 11), none⟩])
    (.cond (.tmp 8)
     .skip
     (.seq (.region [
     ⟨some 12, .bin .eql (.tmp 7) (.const (.int .i64 11)), none⟩,
     ⟨some 8, .mov (.tmp 12), none⟩])
     (.cond (.tmp 8)
      .skip
      (.seq (.region [
      ⟨some 13, .bin .eql (.tmp 7) (.const (.int .i64 14)), none⟩,
      ⟨some 8, .mov (.tmp 13), none⟩])
      (.cond (.tmp 8)
       .skip
       (.region [
       ⟨some 14, .bin .eql (.tmp 7) (.const (.int .i64 15)), none⟩,
       ⟨some 8, .mov (.tmp 14), none⟩])))))))))))
  (.cond (.tmp 8)
   (.seq (.region [
   ⟨some 2, .mov (.const (.int .i64 1)), none⟩])
   .ret)
   (.seq (.seq (.region [
   ⟨some 16, .bin .eql (.tmp 7) (.const (.int .i64 7)), none⟩,
   ⟨some 15, .mov (.tmp 16), none⟩])
   (.cond (.tmp 15)
    .skip
    (.seq (.region [
    ⟨some 17, .bin .eql (.tmp 7) (.const (.int .i64 12)), none⟩,
    ⟨some 15, .mov (.tmp 17), none⟩])
    (.cond (.tmp 15)
     .skip
     (.seq (.region [
     ⟨some 18, .bin .eql (.tmp 7) (.const (.int .i64 13)), none⟩,
     ⟨some 15, .mov (.tmp 18), none⟩])
     (.cond (.tmp 15)
      .skip
      (.seq (.region [
      ⟨some 19, .bin .eql (.tmp 7) (.const (.int .i64 16)), none⟩,
      ⟨some 15, .mov (.tmp 19), none⟩])
      (.cond (.tmp 15)
       .skip
       (.region [
       ⟨some 20, .bin .eql (.tmp 7) (.const (.int .i64 17)), none⟩,
       ⟨some 15, .mov (.tmp 20), none⟩])))))))))
   (.cond (.tmp 15)
    (.seq (.region [
    ⟨some 2, .mov (.const (.int .i64 2)), none⟩])
    .ret)
    .skip))))))
 (.seq (.region [
 ⟨some 2, .mov (.const (.int .i64 0)), none⟩])
 .ret)))),
 [.tmp 2]⟩
theorem low_ref03_Place : lowFn Tryz.prog movers 21 = some ⟨ir_ref03_Place.n, strip ir_ref03_Place.body, ir_ref03_Place.res⟩ := by kernel_rfl

/-- strongtx/strongtxref03.Skips -/
def ir_ref03_Skips : IFn := ⟨16,
 (.seq (.region [
 ⟨some 1, .box 23 (.tmp 0), none⟩,
 ⟨some 2, .mov (.const (.int .i64 0)), none⟩,
 ⟨some 3, .mov (.const (.bool false)), none⟩])
 (.seq (.seq (.region [
 ⟨some 4, .ldN 5 (.tmp 1), none⟩,
 ⟨some 5, .call 14 [(.tmp 4)], none⟩,
 ⟨some 6, .bin .neq (.tmp 5) (.const (.int .i64 0)), none⟩,
 ⟨some 7, .mov (.tmp 6), none⟩,
 ⟨some 8, .fad 0 (.tmp 1), some (7, false)⟩,
 ⟨some 9, .ld (.tmp 8), some (7, false)⟩,
 ⟨some 10, .call 38 [(.tmp 9)], some (7, false)⟩,
 ⟨some 11, .call 41 [(.tmp 10), (.const (.int .u8 106))], some (7, false)⟩,
 ⟨some 12, .not (.tmp 11), some (7, false)⟩,
 ⟨some 13, .pick (.tmp 7) (.const (.bool true)) (.tmp 12), none⟩])
 (.cond (.tmp 13)
  (.seq (.region [
  ⟨some 2, .mov (.const (.int .i64 0)), none⟩,
  ⟨some 3, .mov (.const (.bool false)), none⟩])
  .ret)
  .skip))
 (.seq (.region [
 ⟨some 14, .fad 4 (.tmp 1), none⟩,
 ⟨some 15, .ld (.tmp 14), none⟩,
 ⟨some 2, .mov (.tmp 15), none⟩,
 ⟨some 3, .mov (.const (.bool true)), none⟩])
 .ret))),
 [.tmp 2, .tmp 3]⟩
theorem low_ref03_Skips : lowFn Tryz.prog movers 30 = some ⟨ir_ref03_Skips.n, strip ir_ref03_Skips.body, ir_ref03_Skips.res⟩ := by kernel_rfl

/-- strongtx/strongtxref03.form -/
def ir_ref03_form : IFn := ⟨7,
 (.seq (.region [
 ⟨some 2, .mov (.const (.string ⟨#[]⟩)), none⟩])
 (.seq (.region [
 ⟨some 3, .blds 9 18 [(.string ⟨#[]⟩), (.string ⟨#[]⟩), (.string ⟨#[]⟩), (.string ⟨#[]⟩), (.string ⟨#[]⟩), (.string ⟨#[]⟩), (.string ⟨#[]⟩), (.string ⟨#[]⟩), (.string ⟨#[]⟩), (.string ⟨#[]⟩), (.string ⟨#[]⟩), (.string ⟨#[]⟩), (.string ⟨#[]⟩), (.string ⟨#[]⟩), (.string ⟨#[]⟩), (.string ⟨#[]⟩), (.string ⟨#[]⟩), (.string ⟨#[]⟩)] [(0, 1, (.const (.string ⟨#[]⟩))), (1, 1, (.const (.string ⟨#[114, 105]⟩))), (2, 1, (.const (.string ⟨#[114, 115]⟩))), (3, 1, (.const (.string ⟨#[114, 115, 116, 102]⟩))), (4, 1, (.const (.string ⟨#[106]⟩))), (5, 1, (.const (.string ⟨#[114, 106]⟩))), (6, 1, (.const (.string ⟨#[114, 106]⟩))), (7, 1, (.const (.string ⟨#[97]⟩))), (8, 1, (.const (.string ⟨#[]⟩))), (9, 1, (.const (.string ⟨#[]⟩))), (10, 1, (.const (.string ⟨#[114, 115, 105]⟩))), (11, 1, (.const (.string ⟨#[114, 115, 105]⟩))), (12, 1, (.const (.string ⟨#[114, 115, 105]⟩))), (13, 1, (.const (.string ⟨#[114, 115, 105]⟩))), (14, 1, (.const (.string ⟨#[114, 99]⟩))), (15, 1, (.const (.string ⟨#[114]⟩))), (16, 1, (.const (.string ⟨#[]⟩))), (17, 1, (.const (.string ⟨#[114]⟩)))], none⟩,
 ⟨some 4, .mov (.tmp 0), none⟩,
 ⟨some 5, .ixs 1 (.tmp 3) (.tmp 4), none⟩,
 ⟨some 6, .ld (.tmp 5), none⟩,
 ⟨some 2, .mov (.tmp 6), none⟩])
 .ret)),
 [.tmp 2]⟩
theorem low_ref03_form : lowFn Tryz.prog movers 38 = some ⟨ir_ref03_form.n, strip ir_ref03_form.body, ir_ref03_form.res⟩ := by kernel_rfl

/-- strongtx/strongtxref03.name -/
def ir_ref03_name : IFn := ⟨7,
 (.seq (.region [
 ⟨some 2, .mov (.const (.string ⟨#[]⟩)), none⟩])
 (.seq (.region [
 ⟨some 3, .blds 9 18 [(.string ⟨#[]⟩), (.string ⟨#[]⟩), (.string ⟨#[]⟩), (.string ⟨#[]⟩), (.string ⟨#[]⟩), (.string ⟨#[]⟩), (.string ⟨#[]⟩), (.string ⟨#[]⟩), (.string ⟨#[]⟩), (.string ⟨#[]⟩), (.string ⟨#[]⟩), (.string ⟨#[]⟩), (.string ⟨#[]⟩), (.string ⟨#[]⟩), (.string ⟨#[]⟩), (.string ⟨#[]⟩), (.string ⟨#[]⟩), (.string ⟨#[]⟩)] [(0, 1, (.const (.string ⟨#[110, 111, 112]⟩))), (1, 1, (.const (.string ⟨#[99, 111, 110, 115, 116]⟩))), (2, 1, (.const (.string ⟨#[109, 111, 118, 101]⟩))), (3, 1, (.const (.string ⟨#[]⟩))), (4, 1, (.const (.string ⟨#[106, 117, 109, 112]⟩))), (5, 1, (.const (.string ⟨#[122, 101, 114, 111]⟩))), (6, 1, (.const (.string ⟨#[110, 111, 110, 122, 101, 114, 111]⟩))), (7, 1, (.const (.string ⟨#[98, 101, 103, 105, 110]⟩))), (8, 1, (.const (.string ⟨#[99, 111, 109, 109, 105, 116]⟩))), (9, 1, (.const (.string ⟨#[97, 98, 111, 114, 116]⟩))), (10, 1, (.const (.string ⟨#[116, 114, 101, 97, 100]⟩))), (11, 1, (.const (.string ⟨#[116, 119, 114, 105, 116, 101]⟩))), (12, 1, (.const (.string ⟨#[112, 114, 101, 97, 100]⟩))), (13, 1, (.const (.string ⟨#[112, 119, 114, 105, 116, 101]⟩))), (14, 1, (.const (.string ⟨#[97, 108, 108, 111, 99]⟩))), (15, 1, (.const (.string ⟨#[102, 114, 101, 101]⟩))), (16, 1, (.const (.string ⟨#[102, 101, 110, 99, 101]⟩))), (17, 1, (.const (.string ⟨#[111, 117, 116, 99, 111, 109, 101]⟩)))], none⟩,
 ⟨some 4, .mov (.tmp 0), none⟩,
 ⟨some 5, .ixs 1 (.tmp 3) (.tmp 4), none⟩,
 ⟨some 6, .ld (.tmp 5), none⟩,
 ⟨some 2, .mov (.tmp 6), none⟩])
 .ret)),
 [.tmp 2]⟩
theorem low_ref03_name : lowFn Tryz.prog movers 39 = some ⟨ir_ref03_name.n, strip ir_ref03_name.body, ir_ref03_name.res⟩ := by kernel_rfl

/-- strongtx/strongtxref03.has -/
def ir_ref03_has : IFn := ⟨17,
 (.seq (.region [
 ⟨some 4, .mov (.const (.bool false)), none⟩])
 (.seq (.seq (.region [
 ⟨some 5, .mov (.const (.int .i64 0)), none⟩])
 (.block 0
  (.loop 131056
   (.seq (.seq (.region [
   ⟨some 6, .mov (.tmp 5), none⟩,
   ⟨some 7, .mov (.tmp 0), none⟩,
   ⟨some 8, .lens (.tmp 7), none⟩,
   ⟨some 9, .bin .lss (.tmp 6) (.tmp 8), none⟩])
   (.cond (.tmp 9)
    .skip
    (.exit 0)))
   (.seq (.block 1
    (.seq (.region [
    ⟨some 12, .mov (.tmp 0), none⟩,
    ⟨some 13, .mov (.tmp 5), none⟩,
    ⟨some 14, .sidx (.tmp 12) (.tmp 13), none⟩,
    ⟨some 15, .mov (.tmp 1), none⟩,
    ⟨some 16, .bin .eql (.tmp 14) (.tmp 15), none⟩])
    (.cond (.tmp 16)
     (.seq (.region [
     ⟨some 4, .mov (.const (.bool true)), none⟩])
     .ret)
     .skip)))
   (.region [
   ⟨some 10, .mov (.tmp 5), none⟩,
   ⟨some 11, .bin .add (.tmp 10) (.const (.int .i64 1)), none⟩,
   ⟨some 5, .mov (.tmp 11), none⟩]))))))
 (.seq (.region [
 ⟨some 4, .mov (.const (.bool false)), none⟩])
 .ret))),
 [.tmp 4]⟩
theorem low_ref03_has : lowFn Tryz.prog movers 41 = some ⟨ir_ref03_has.n, strip ir_ref03_has.body, ir_ref03_has.res⟩ := by kernel_rfl

/-- strongtx/strongtxref03.register -/
def ir_ref03_register : IFn := ⟨14,
 (.seq (.region [
 ⟨some 4, .mov (.const (.bool false)), none⟩])
 (.seq (.seq (.region [
 ⟨some 5, .mov (.tmp 1), none⟩])
 (.cond (.tmp 5)
  (.seq (.region [
  ⟨some 6, .mov (.tmp 0), none⟩,
  ⟨some 7, .bin .geq (.tmp 6) (.const (.int .i64 0)), none⟩,
  ⟨some 8, .mov (.tmp 7), none⟩,
  ⟨some 9, .mov (.tmp 0), some (8, true)⟩,
  ⟨some 10, .bin .lss (.tmp 9) (.const (.int .i64 8)), some (8, true)⟩,
  ⟨some 11, .pick (.tmp 8) (.tmp 10) (.const (.bool false)), none⟩,
  ⟨some 4, .mov (.tmp 11), none⟩])
  .ret)
  .skip))
 (.seq (.region [
 ⟨some 12, .mov (.tmp 0), none⟩,
 ⟨some 13, .bin .eql (.tmp 12) (.const (.int .i64 0)), none⟩,
 ⟨some 4, .mov (.tmp 13), none⟩])
 .ret))),
 [.tmp 4]⟩
theorem low_ref03_register : lowFn Tryz.prog movers 44 = some ⟨ir_ref03_register.n, strip ir_ref03_register.body, ir_ref03_register.res⟩ := by kernel_rfl

/-- strongtx/strongtxref03.two -/
def ir_ref03_two : IFn := ⟨17,
 (.seq (.region [
 ⟨some 4, .mov (.const (.slice none 0 0)), none⟩])
 (.seq (.seq (.region [
 ⟨some 5, .mov (.tmp 0), none⟩,
 ⟨some 6, .mov (.tmp 1), none⟩,
 ⟨some 7, .bin .eql (.tmp 5) (.tmp 6), none⟩])
 (.cond (.tmp 7)
  (.seq (.region [
  ⟨some 8, .mov (.tmp 0), none⟩,
  ⟨some 9, .blds 3 1 [(.int .i64 0)] [(0, 1, (.tmp 8))], none⟩,
  ⟨some 4, .mov (.tmp 9), none⟩])
  .ret)
  .skip))
 (.seq (.region [
 ⟨some 10, .mov (.tmp 0), none⟩,
 ⟨some 11, .mov (.tmp 1), none⟩,
 ⟨some 12, .mm false (.tmp 10) (.tmp 11), none⟩,
 ⟨some 13, .mov (.tmp 0), none⟩,
 ⟨some 14, .mov (.tmp 1), none⟩,
 ⟨some 15, .mm true (.tmp 13) (.tmp 14), none⟩,
 ⟨some 16, .blds 3 2 [(.int .i64 0), (.int .i64 0)] [(0, 1, (.tmp 12)), (1, 1, (.tmp 15))], none⟩,
 ⟨some 4, .mov (.tmp 16), none⟩])
 .ret))),
 [.tmp 4]⟩
theorem low_ref03_two : lowFn Tryz.prog movers 47 = some ⟨ir_ref03_two.n, strip ir_ref03_two.body, ir_ref03_two.res⟩ := by kernel_rfl

/-- strongtx/strongtxref03.Words -/
def ir_ref03_Words : IFn := ⟨35,
 (.seq (.region [
 ⟨some 2, .mov (.const (.slice none 0 0)), none⟩])
 (.seq (.region [
 ⟨some 3, .mov (.const (.slice none 0 0)), none⟩])
 (.seq (.region [
 ⟨some 4, .mov (.const (.int .i64 0)), none⟩])
 (.seq (.seq (.region [
 ⟨some 5, .mov (.const (.int .i64 0)), none⟩])
 (.block 0
  (.loop 17179869176
   (.seq (.seq (.region [
   ⟨some 6, .mov (.tmp 5), none⟩,
   ⟨some 7, .mov (.tmp 0), none⟩,
   ⟨some 8, .lens (.tmp 7), none⟩,
   ⟨some 9, .bin .leq (.tmp 6) (.tmp 8), none⟩])
   (.cond (.tmp 9)
    .skip
    (.exit 0)))
   (.seq (.block 1
    (.seq (.seq (.region [
    ⟨some 12, .mov (.tmp 5), none⟩,
    ⟨some 13, .mov (.tmp 0), none⟩,
    ⟨some 14, .lens (.tmp 13), none⟩,
    ⟨some 15, .bin .lss (.tmp 12) (.tmp 14), none⟩,
    ⟨some 16, .mov (.tmp 15), none⟩,
    ⟨some 17, .mov (.tmp 0), some (16, true)⟩,
    ⟨some 18, .mov (.tmp 5), some (16, true)⟩,
    ⟨some 19, .sidx (.tmp 17) (.tmp 18), some (16, true)⟩,
    ⟨some 20, .bin .neq (.tmp 19) (.const (.int .u8 32)), some (16, true)⟩,
    ⟨some 21, .pick (.tmp 16) (.tmp 20) (.const (.bool false)), none⟩])
    (.cond (.tmp 21)
     (.exit 1)
     .skip))
    (.seq (.seq (.region [
    ⟨some 22, .mov (.tmp 5), none⟩,
    ⟨some 23, .mov (.tmp 4), none⟩,
    ⟨some 24, .bin .gtr (.tmp 22) (.tmp 23), none⟩])
    (.cond (.tmp 24)
     (.region [
     ⟨some 25, .mov (.tmp 3), none⟩,
     ⟨some 26, .mov (.tmp 0), none⟩,
     ⟨some 27, .mov (.tmp 4), none⟩,
     ⟨some 28, .mov (.tmp 5), none⟩,
     ⟨some 29, .sslc (.tmp 26) (some (.tmp 27)) (some (.tmp 28)), none⟩,
     ⟨some 30, .blds 9 1 [(.string ⟨#[]⟩)] [(0, 1, (.tmp 29))], none⟩,
     ⟨some 31, .app 9 1 16 [(.string ⟨#[]⟩)] (.tmp 25) (.tmp 30), none⟩,
     ⟨some 3, .mov (.tmp 31), none⟩])
     .skip))
    (.region [
    ⟨some 32, .mov (.tmp 5), none⟩,
    ⟨some 33, .bin .add (.tmp 32) (.const (.int .i64 1)), none⟩,
    ⟨some 4, .mov (.tmp 33), none⟩]))))
   (.region [
   ⟨some 10, .mov (.tmp 5), none⟩,
   ⟨some 11, .bin .add (.tmp 10) (.const (.int .i64 1)), none⟩,
   ⟨some 5, .mov (.tmp 11), none⟩]))))))
 (.seq (.region [
 ⟨some 34, .mov (.tmp 3), none⟩,
 ⟨some 2, .mov (.tmp 34), none⟩])
 .ret))))),
 [.tmp 2]⟩
theorem low_ref03_Words : lowFn Tryz.prog movers 52 = some ⟨ir_ref03_Words.n, strip ir_ref03_Words.body, ir_ref03_Words.res⟩ := by kernel_rfl

/-- strongtx/strongtxref03.Parse -/
def ir_ref03_Parse : IFn := ⟨141,
 (.seq (.region [
 ⟨some 2, .new 23 (.agg #[.int .i64 0, .int .i64 0, .int .i64 0, .int .i64 0, .int .i64 0]), none⟩,
 ⟨some 3, .mov (.const (.int .i64 0)), none⟩])
 (.seq (.seq (.region [
 ⟨some 15, .mov (.tmp 0), none⟩,
 ⟨some 16, .lens (.tmp 15), none⟩,
 ⟨some 17, .bin .gtr (.tmp 16) (.const (.int .i64 200)), none⟩])
 (.cond (.tmp 17)
  (.seq (.region [
  ⟨some 18, .bld [(.int .i64 0), (.int .i64 0), (.int .i64 0), (.int .i64 0), (.int .i64 0)] [], none⟩,
  ⟨none, .stN 5 (.tmp 2) (.tmp 18), none⟩,
  ⟨some 3, .mov (.const (.int .i64 3)), none⟩])
  .ret)
  .skip))
 (.seq (.region [
 ⟨some 19, .mov (.tmp 0), none⟩,
 ⟨some 20, .call 52 [(.tmp 19)], none⟩,
 ⟨some 4, .mov (.tmp 20), none⟩])
 (.seq (.seq (.region [
 ⟨some 21, .mov (.tmp 4), none⟩,
 ⟨some 22, .len (.tmp 21), none⟩,
 ⟨some 23, .bin .eql (.tmp 22) (.const (.int .i64 0)), none⟩])
 (.cond (.tmp 23)
  (.seq (.region [
  ⟨some 24, .bld [(.int .i64 0), (.int .i64 0), (.int .i64 0), (.int .i64 0), (.int .i64 0)] [], none⟩,
  ⟨none, .stN 5 (.tmp 2) (.tmp 24), none⟩,
  ⟨some 3, .mov (.const (.int .i64 4)), none⟩])
  .ret)
  .skip))
 (.seq (.region [
 ⟨some 25, .bld [(.int .i64 0), (.int .i64 0), (.int .i64 0), (.int .i64 0), (.int .i64 0)] [(0, 1, (.const (.int .i64 (-1))))], none⟩,
 ⟨some 5, .new 23 (.agg #[.int .i64 0, .int .i64 0, .int .i64 0, .int .i64 0, .int .i64 0]), none⟩,
 ⟨none, .stN 5 (.tmp 5) (.tmp 25), none⟩])
 (.seq (.seq (.region [
 ⟨some 6, .mov (.const (.int .i64 0)), none⟩])
 (.block 0
  (.loop 4397979402304
   (.seq (.seq (.region [
   ⟨some 26, .mov (.tmp 6), none⟩,
   ⟨some 27, .bin .lss (.tmp 26) (.const (.int .i64 18)), none⟩])
   (.cond (.tmp 27)
    .skip
    (.exit 0)))
   (.seq (.block 1
    (.seq (.draw (.f ⟨some 30, .mov (.tmp 6), none⟩
    (.f ⟨some 31, .bin .neq (.tmp 30) (.const (.int .i64 3)), none⟩
    (.f ⟨some 32, .mov (.tmp 31), none⟩
    (.f ⟨some 33, .mov (.tmp 6), some (32, true)⟩
    (.f ⟨some 34, .call 39 [(.tmp 33)], some (32, true)⟩
    (.f ⟨some 35, .mov (.tmp 4), some (32, true)⟩
    (.f ⟨some 36, .ixs 1 (.tmp 35) (.const (.int .i64 0)), some (32, true)⟩
    (.f ⟨some 37, .ld (.tmp 36), some (32, true)⟩
    (.f ⟨some 38, .sbin .eql (.tmp 34) (.tmp 37), some (32, true)⟩
    (.f ⟨some 39, .pick (.tmp 32) (.tmp 38) (.const (.bool false)), none⟩
    .done)))))))))))
    (.cond (.tmp 39)
     (.region [
     ⟨some 40, .mov (.tmp 6), none⟩,
     ⟨some 41, .fad 0 (.tmp 5), none⟩,
     ⟨none, .st (.tmp 41) (.tmp 40), none⟩])
     .skip)))
   (.region [
   ⟨some 28, .mov (.tmp 6), none⟩,
   ⟨some 29, .bin .add (.tmp 28) (.const (.int .i64 1)), none⟩,
   ⟨some 6, .mov (.tmp 29), none⟩]))))))
 (.seq (.seq (.region [
 ⟨some 43, .mov (.tmp 4), none⟩,
 ⟨some 44, .ixs 1 (.tmp 43) (.const (.int .i64 0)), none⟩,
 ⟨some 45, .ld (.tmp 44), none⟩,
 ⟨some 46, .call 83 [(.tmp 45)], none⟩,
 ⟨some 42, .mov (.tmp 46), none⟩,
 ⟨some 47, .ext (.tmp 42) 0, none⟩,
 ⟨some 48, .ext (.tmp 42) 1, none⟩,
 ⟨some 7, .mov (.tmp 47), none⟩,
 ⟨some 8, .mov (.tmp 48), none⟩])
 (.seq (.region [
 ⟨some 49, .mov (.tmp 8), none⟩])
 (.cond (.tmp 49)
  (.region [
  ⟨some 50, .mov (.tmp 7), none⟩,
  ⟨some 51, .fad 0 (.tmp 5), none⟩,
  ⟨none, .st (.tmp 51) (.const (.int .i64 3)), none⟩,
  ⟨some 52, .fad 4 (.tmp 5), none⟩,
  ⟨none, .st (.tmp 52) (.tmp 50), none⟩])
  .skip)))
 (.seq (.seq (.region [
 ⟨some 53, .fad 0 (.tmp 5), none⟩,
 ⟨some 54, .ld (.tmp 53), none⟩,
 ⟨some 55, .bin .lss (.tmp 54) (.const (.int .i64 0)), none⟩])
 (.cond (.tmp 55)
  (.seq (.region [
  ⟨some 56, .bld [(.int .i64 0), (.int .i64 0), (.int .i64 0), (.int .i64 0), (.int .i64 0)] [], none⟩,
  ⟨none, .stN 5 (.tmp 2) (.tmp 56), none⟩,
  ⟨some 3, .mov (.const (.int .i64 4)), none⟩])
  .ret)
  .skip))
 (.seq (.region [
 ⟨some 57, .fad 0 (.tmp 5), none⟩,
 ⟨some 58, .ld (.tmp 57), none⟩,
 ⟨some 59, .call 38 [(.tmp 58)], none⟩,
 ⟨some 9, .mov (.tmp 59), none⟩])
 (.seq (.region [
 ⟨some 10, .mov (.const (.int .i64 1)), none⟩])
 (.seq (.seq (.region [
 ⟨some 11, .mov (.const (.int .i64 0)), none⟩])
 (.block 2
  (.loop 680564733841876926925596293358929591304
   (.seq (.seq (.region [
   ⟨some 60, .mov (.tmp 11), none⟩,
   ⟨some 61, .mov (.tmp 9), none⟩,
   ⟨some 62, .lens (.tmp 61), none⟩,
   ⟨some 63, .bin .lss (.tmp 60) (.tmp 62), none⟩])
   (.cond (.tmp 63)
    .skip
    (.exit 2)))
   (.seq (.block 3
    (.seq (.seq (.region [
    ⟨some 66, .mov (.tmp 9), none⟩,
    ⟨some 67, .mov (.tmp 11), none⟩,
    ⟨some 68, .sidx (.tmp 66) (.tmp 67), none⟩,
    ⟨some 69, .bin .eql (.tmp 68) (.const (.int .u8 102)), none⟩])
    (.cond (.tmp 69)
     (.exit 3)
     .skip))
    (.seq (.seq (.region [
    ⟨some 70, .mov (.tmp 10), none⟩,
    ⟨some 71, .mov (.tmp 4), none⟩,
    ⟨some 72, .len (.tmp 71), none⟩,
    ⟨some 73, .bin .eql (.tmp 70) (.tmp 72), none⟩])
    (.cond (.tmp 73)
     (.seq (.region [
     ⟨some 74, .bld [(.int .i64 0), (.int .i64 0), (.int .i64 0), (.int .i64 0), (.int .i64 0)] [], none⟩,
     ⟨none, .stN 5 (.tmp 2) (.tmp 74), none⟩,
     ⟨some 3, .mov (.const (.int .i64 4)), none⟩])
     .ret)
     .skip))
    (.seq (.region [
    ⟨some 12, .mov (.const (.int .i64 0)), none⟩,
    ⟨some 13, .mov (.const (.bool false)), none⟩])
    (.seq (.seq (.region [
    ⟨some 75, .mov (.tmp 9), none⟩,
    ⟨some 76, .mov (.tmp 11), none⟩,
    ⟨some 77, .sidx (.tmp 75) (.tmp 76), none⟩,
    ⟨some 78, .bin .eql (.tmp 77) (.const (.int .u8 114)), none⟩,
    ⟨some 79, .mov (.tmp 78), none⟩,
    ⟨some 80, .mov (.tmp 9), some (79, false)⟩,
    ⟨some 81, .mov (.tmp 11), some (79, false)⟩,
    ⟨some 82, .sidx (.tmp 80) (.tmp 81), some (79, false)⟩,
    ⟨some 83, .bin .eql (.tmp 82) (.const (.int .u8 115)), some (79, false)⟩,
    ⟨some 84, .pick (.tmp 79) (.const (.bool true)) (.tmp 83), none⟩,
    ⟨some 85, .mov (.tmp 84), none⟩,
    ⟨some 86, .mov (.tmp 9), some (85, false)⟩,
    ⟨some 87, .mov (.tmp 11), some (85, false)⟩,
    ⟨some 88, .sidx (.tmp 86) (.tmp 87), some (85, false)⟩,
    ⟨some 89, .bin .eql (.tmp 88) (.const (.int .u8 116)), some (85, false)⟩,
    ⟨some 90, .pick (.tmp 85) (.const (.bool true)) (.tmp 89), none⟩])
    (.cond (.tmp 90)
     (.region [
     ⟨some 92, .mov (.tmp 4), none⟩,
     ⟨some 93, .mov (.tmp 10), none⟩,
     ⟨some 94, .ixs 1 (.tmp 92) (.tmp 93), none⟩,
     ⟨some 95, .ld (.tmp 94), none⟩,
     ⟨some 96, .call 82 [(.tmp 95)], none⟩,
     ⟨some 91, .mov (.tmp 96), none⟩,
     ⟨some 97, .ext (.tmp 91) 0, none⟩,
     ⟨some 98, .ext (.tmp 91) 1, none⟩,
     ⟨some 12, .mov (.tmp 97), none⟩,
     ⟨some 13, .mov (.tmp 98), none⟩])
     (.region [
     ⟨some 100, .mov (.tmp 4), none⟩,
     ⟨some 101, .mov (.tmp 10), none⟩,
     ⟨some 102, .ixs 1 (.tmp 100) (.tmp 101), none⟩,
     ⟨some 103, .ld (.tmp 102), none⟩,
     ⟨some 104, .call 84 [(.tmp 103)], none⟩,
     ⟨some 99, .mov (.tmp 104), none⟩,
     ⟨some 105, .ext (.tmp 99) 0, none⟩,
     ⟨some 106, .ext (.tmp 99) 1, none⟩,
     ⟨some 12, .mov (.tmp 105), none⟩,
     ⟨some 13, .mov (.tmp 106), none⟩])))
    (.seq (.seq (.region [
    ⟨some 107, .mov (.tmp 13), none⟩,
    ⟨some 108, .not (.tmp 107), none⟩])
    (.cond (.tmp 108)
     (.seq (.region [
     ⟨some 109, .bld [(.int .i64 0), (.int .i64 0), (.int .i64 0), (.int .i64 0), (.int .i64 0)] [], none⟩,
     ⟨none, .stN 5 (.tmp 2) (.tmp 109), none⟩,
     ⟨some 3, .mov (.const (.int .i64 4)), none⟩])
     .ret)
     .skip))
    (.seq (.seq (.region [
    ⟨some 110, .mov (.tmp 9), none⟩,
    ⟨some 111, .mov (.tmp 11), none⟩,
    ⟨some 112, .sidx (.tmp 110) (.tmp 111), none⟩])
    (.block 4
     (.seq (.region [
     ⟨some 116, .bin .eql (.tmp 112) (.const (.int .u8 114)), none⟩,
     ⟨some 115, .mov (.tmp 116), none⟩])
     (.cond (.tmp 115)
      (.region [
      ⟨some 117, .mov (.tmp 12), none⟩,
      ⟨some 118, .fad 1 (.tmp 5), none⟩,
      ⟨none, .st (.tmp 118) (.tmp 117), none⟩])
      (.seq (.region [
      ⟨some 120, .bin .eql (.tmp 112) (.const (.int .u8 115)), none⟩,
      ⟨some 119, .mov (.tmp 120), none⟩])
      (.cond (.tmp 119)
       (.region [
       ⟨some 121, .mov (.tmp 12), none⟩,
       ⟨some 122, .fad 2 (.tmp 5), none⟩,
       ⟨none, .st (.tmp 122) (.tmp 121), none⟩])
       (.seq (.region [
       ⟨some 124, .bin .eql (.tmp 112) (.const (.int .u8 116)), none⟩,
       ⟨some 123, .mov (.tmp 124), none⟩])
       (.cond (.tmp 123)
        (.region [
        ⟨some 125, .mov (.tmp 12), none⟩,
        ⟨some 126, .fad 3 (.tmp 5), none⟩,
        ⟨none, .st (.tmp 126) (.tmp 125), none⟩])
        (.region [
        ⟨some 113, .mov (.tmp 12), none⟩,
        ⟨some 114, .fad 4 (.tmp 5), none⟩,
        ⟨none, .st (.tmp 114) (.tmp 113), none⟩])))))))))
    (.region [
    ⟨some 127, .mov (.tmp 10), none⟩,
    ⟨some 128, .bin .add (.tmp 127) (.const (.int .i64 1)), none⟩,
    ⟨some 10, .mov (.tmp 128), none⟩]))))))))
   (.region [
   ⟨some 64, .mov (.tmp 11), none⟩,
   ⟨some 65, .bin .add (.tmp 64) (.const (.int .i64 1)), none⟩,
   ⟨some 11, .mov (.tmp 65), none⟩]))))))
 (.seq (.seq (.region [
 ⟨some 129, .mov (.tmp 10), none⟩,
 ⟨some 130, .mov (.tmp 4), none⟩,
 ⟨some 131, .len (.tmp 130), none⟩,
 ⟨some 132, .bin .neq (.tmp 129) (.tmp 131), none⟩])
 (.cond (.tmp 132)
  (.seq (.region [
  ⟨some 133, .bld [(.int .i64 0), (.int .i64 0), (.int .i64 0), (.int .i64 0), (.int .i64 0)] [], none⟩,
  ⟨none, .stN 5 (.tmp 2) (.tmp 133), none⟩,
  ⟨some 3, .mov (.const (.int .i64 4)), none⟩])
  .ret)
  .skip))
 (.seq (.seq (.region [
 ⟨some 134, .ldN 5 (.tmp 5), none⟩,
 ⟨some 135, .call 14 [(.tmp 134)], none⟩,
 ⟨some 14, .mov (.tmp 135), none⟩])
 (.seq (.region [
 ⟨some 136, .mov (.tmp 14), none⟩,
 ⟨some 137, .bin .neq (.tmp 136) (.const (.int .i64 0)), none⟩])
 (.cond (.tmp 137)
  (.seq (.region [
  ⟨some 138, .bld [(.int .i64 0), (.int .i64 0), (.int .i64 0), (.int .i64 0), (.int .i64 0)] [], none⟩,
  ⟨some 139, .mov (.tmp 14), none⟩,
  ⟨none, .stN 5 (.tmp 2) (.tmp 138), none⟩,
  ⟨some 3, .mov (.tmp 139), none⟩])
  .ret)
  .skip)))
 (.seq (.region [
 ⟨some 140, .ldN 5 (.tmp 5), none⟩,
 ⟨none, .stN 5 (.tmp 2) (.tmp 140), none⟩,
 ⟨some 3, .mov (.const (.int .i64 0)), none⟩])
 .ret)))))))))))))),
 [.cellN 2 5, .tmp 3]⟩
theorem low_ref03_Parse : lowFn Tryz.prog movers 56 = some ⟨ir_ref03_Parse.n, strip ir_ref03_Parse.body, ir_ref03_Parse.res⟩ := by kernel_rfl

/-- strongtx/strongtxref03.Register -/
def ir_ref03_Register : IFn := ⟨26,
 (.seq (.region [
 ⟨some 2, .mov (.const (.int .i64 0)), none⟩,
 ⟨some 3, .mov (.const (.bool false)), none⟩])
 (.seq (.seq (.region [
 ⟨some 4, .mov (.tmp 0), none⟩,
 ⟨some 5, .lens (.tmp 4), none⟩,
 ⟨some 6, .bin .neq (.tmp 5) (.const (.int .i64 2)), none⟩,
 ⟨some 7, .mov (.tmp 6), none⟩,
 ⟨some 8, .mov (.tmp 0), some (7, false)⟩,
 ⟨some 9, .sidx (.tmp 8) (.const (.int .i64 0)), some (7, false)⟩,
 ⟨some 10, .bin .neq (.tmp 9) (.const (.int .u8 114)), some (7, false)⟩,
 ⟨some 11, .pick (.tmp 7) (.const (.bool true)) (.tmp 10), none⟩,
 ⟨some 12, .mov (.tmp 11), none⟩,
 ⟨some 13, .mov (.tmp 0), some (12, false)⟩,
 ⟨some 14, .sidx (.tmp 13) (.const (.int .i64 1)), some (12, false)⟩,
 ⟨some 15, .bin .lss (.tmp 14) (.const (.int .u8 48)), some (12, false)⟩,
 ⟨some 16, .pick (.tmp 12) (.const (.bool true)) (.tmp 15), none⟩,
 ⟨some 17, .mov (.tmp 16), none⟩,
 ⟨some 18, .mov (.tmp 0), some (17, false)⟩,
 ⟨some 19, .sidx (.tmp 18) (.const (.int .i64 1)), some (17, false)⟩,
 ⟨some 20, .bin .gtr (.tmp 19) (.const (.int .u8 55)), some (17, false)⟩,
 ⟨some 21, .pick (.tmp 17) (.const (.bool true)) (.tmp 20), none⟩])
 (.cond (.tmp 21)
  (.seq (.region [
  ⟨some 2, .mov (.const (.int .i64 0)), none⟩,
  ⟨some 3, .mov (.const (.bool false)), none⟩])
  .ret)
  .skip))
 (.seq (.region [
 ⟨some 22, .mov (.tmp 0), none⟩,
 ⟨some 23, .sidx (.tmp 22) (.const (.int .i64 1)), none⟩,
 ⟨some 24, .bin .sub (.tmp 23) (.const (.int .u8 48)), none⟩,
 ⟨some 25, .conv .i64 (.tmp 24), none⟩,
 ⟨some 2, .mov (.tmp 25), none⟩,
 ⟨some 3, .mov (.const (.bool true)), none⟩])
 .ret))),
 [.tmp 2, .tmp 3]⟩
theorem low_ref03_Register : lowFn Tryz.prog movers 82 = some ⟨ir_ref03_Register.n, strip ir_ref03_Register.body, ir_ref03_Register.res⟩ := by kernel_rfl

/-- strongtx/strongtxref03.Number -/
def ir_ref03_Number : IFn := ⟨63,
 (.seq (.region [
 ⟨some 2, .mov (.const (.int .i64 0)), none⟩,
 ⟨some 3, .mov (.const (.bool false)), none⟩])
 (.seq (.region [
 ⟨some 4, .mov (.const (.int .i64 0)), none⟩])
 (.seq (.seq (.region [
 ⟨some 8, .mov (.tmp 0), none⟩,
 ⟨some 9, .lens (.tmp 8), none⟩,
 ⟨some 10, .bin .gtr (.tmp 9) (.const (.int .i64 0)), none⟩,
 ⟨some 11, .mov (.tmp 10), none⟩,
 ⟨some 12, .mov (.tmp 0), some (11, true)⟩,
 ⟨some 13, .sidx (.tmp 12) (.const (.int .i64 0)), some (11, true)⟩,
 ⟨some 14, .bin .eql (.tmp 13) (.const (.int .u8 45)), some (11, true)⟩,
 ⟨some 15, .pick (.tmp 11) (.tmp 14) (.const (.bool false)), none⟩])
 (.cond (.tmp 15)
  (.region [
  ⟨some 4, .mov (.const (.int .i64 1)), none⟩])
  .skip))
 (.seq (.seq (.region [
 ⟨some 16, .mov (.tmp 4), none⟩,
 ⟨some 17, .mov (.tmp 0), none⟩,
 ⟨some 18, .lens (.tmp 17), none⟩,
 ⟨some 19, .bin .eql (.tmp 16) (.tmp 18), none⟩])
 (.cond (.tmp 19)
  (.seq (.region [
  ⟨some 2, .mov (.const (.int .i64 0)), none⟩,
  ⟨some 3, .mov (.const (.bool false)), none⟩])
  .ret)
  .skip))
 (.seq (.region [
 ⟨some 5, .mov (.const (.int .i64 0)), none⟩])
 (.seq (.seq (.region [
 ⟨some 20, .mov (.tmp 4), none⟩,
 ⟨some 6, .mov (.tmp 20), none⟩])
 (.block 0
  (.loop 72057594035831020
   (.seq (.seq (.region [
   ⟨some 21, .mov (.tmp 6), none⟩,
   ⟨some 22, .mov (.tmp 0), none⟩,
   ⟨some 23, .lens (.tmp 22), none⟩,
   ⟨some 24, .bin .lss (.tmp 21) (.tmp 23), none⟩])
   (.cond (.tmp 24)
    .skip
    (.exit 0)))
   (.seq (.block 1
    (.seq (.seq (.region [
    ⟨some 27, .mov (.tmp 0), none⟩,
    ⟨some 28, .mov (.tmp 6), none⟩,
    ⟨some 29, .sidx (.tmp 27) (.tmp 28), none⟩,
    ⟨some 30, .bin .lss (.tmp 29) (.const (.int .u8 48)), none⟩,
    ⟨some 31, .mov (.tmp 30), none⟩,
    ⟨some 32, .mov (.tmp 0), some (31, false)⟩,
    ⟨some 33, .mov (.tmp 6), some (31, false)⟩,
    ⟨some 34, .sidx (.tmp 32) (.tmp 33), some (31, false)⟩,
    ⟨some 35, .bin .gtr (.tmp 34) (.const (.int .u8 57)), some (31, false)⟩,
    ⟨some 36, .pick (.tmp 31) (.const (.bool true)) (.tmp 35), none⟩])
    (.cond (.tmp 36)
     (.seq (.region [
     ⟨some 2, .mov (.const (.int .i64 0)), none⟩,
     ⟨some 3, .mov (.const (.bool false)), none⟩])
     .ret)
     .skip))
    (.seq (.region [
    ⟨some 37, .mov (.tmp 0), none⟩,
    ⟨some 38, .mov (.tmp 6), none⟩,
    ⟨some 39, .sidx (.tmp 37) (.tmp 38), none⟩,
    ⟨some 40, .bin .sub (.tmp 39) (.const (.int .u8 48)), none⟩,
    ⟨some 41, .conv .i64 (.tmp 40), none⟩,
    ⟨some 7, .mov (.tmp 41), none⟩])
    (.seq (.seq (.region [
    ⟨some 42, .mov (.tmp 5), none⟩,
    ⟨some 43, .bin .lss (.tmp 42) (.const (.int .i64 (-922337203685477580))), none⟩,
    ⟨some 44, .mov (.tmp 43), none⟩,
    ⟨some 45, .mov (.tmp 5), some (44, false)⟩,
    ⟨some 46, .bin .eql (.tmp 45) (.const (.int .i64 (-922337203685477580))), some (44, false)⟩,
    ⟨some 47, .mov (.tmp 46), some (44, false)⟩,
    ⟨some 48, .mov (.tmp 7), some (47, true)⟩,
    ⟨some 49, .bin .gtr (.tmp 48) (.const (.int .i64 8)), some (47, true)⟩,
    ⟨some 50, .pick (.tmp 47) (.tmp 49) (.const (.bool false)), some (44, false)⟩,
    ⟨some 51, .pick (.tmp 44) (.const (.bool true)) (.tmp 50), none⟩])
    (.cond (.tmp 51)
     (.seq (.region [
     ⟨some 2, .mov (.const (.int .i64 0)), none⟩,
     ⟨some 3, .mov (.const (.bool false)), none⟩])
     .ret)
     .skip))
    (.region [
    ⟨some 52, .mov (.tmp 5), none⟩,
    ⟨some 53, .bin .mul (.const (.int .i64 10)) (.tmp 52), none⟩,
    ⟨some 54, .mov (.tmp 7), none⟩,
    ⟨some 55, .bin .sub (.tmp 53) (.tmp 54), none⟩,
    ⟨some 5, .mov (.tmp 55), none⟩])))))
   (.region [
   ⟨some 25, .mov (.tmp 6), none⟩,
   ⟨some 26, .bin .add (.tmp 25) (.const (.int .i64 1)), none⟩,
   ⟨some 6, .mov (.tmp 26), none⟩]))))))
 (.seq (.seq (.region [
 ⟨some 56, .mov (.tmp 4), none⟩,
 ⟨some 57, .bin .eql (.tmp 56) (.const (.int .i64 1)), none⟩])
 (.cond (.tmp 57)
  (.seq (.region [
  ⟨some 58, .mov (.tmp 5), none⟩,
  ⟨some 2, .mov (.tmp 58), none⟩,
  ⟨some 3, .mov (.const (.bool true)), none⟩])
  .ret)
  .skip))
 (.seq (.seq (.region [
 ⟨some 59, .mov (.tmp 5), none⟩,
 ⟨some 60, .bin .eql (.tmp 59) (.const (.int .i64 (-9223372036854775808))), none⟩])
 (.cond (.tmp 60)
  (.seq (.region [
  ⟨some 2, .mov (.const (.int .i64 0)), none⟩,
  ⟨some 3, .mov (.const (.bool false)), none⟩])
  .ret)
  .skip))
 (.seq (.region [
 ⟨some 61, .mov (.tmp 5), none⟩,
 ⟨some 62, .neg (.tmp 61), none⟩,
 ⟨some 2, .mov (.tmp 62), none⟩,
 ⟨some 3, .mov (.const (.bool true)), none⟩])
 .ret))))))))),
 [.tmp 2, .tmp 3]⟩
theorem low_ref03_Number : lowFn Tryz.prog movers 84 = some ⟨ir_ref03_Number.n, strip ir_ref03_Number.body, ir_ref03_Number.res⟩ := by kernel_rfl
end Go.Proofs.YtiimndcifcoofaaGreatDoor
