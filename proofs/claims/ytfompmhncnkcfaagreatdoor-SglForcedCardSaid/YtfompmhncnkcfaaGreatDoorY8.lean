/- What the laws share, part 8. No condition. -/
import Derived.Test.YtfompmhncnkcfaaGreatDoorY7
namespace Go.Proofs.YtfompmhncnkcfaaGreatDoor
open Go
set_option maxRecDepth 100000
def ir_program_Check : IFn := ⟨37,
 (.seq (.region [
 ⟨some 2, .mov (.const (.int .i64 0)), none⟩,
 ⟨some 3, .mov (.const (.int .i64 0)), none⟩])
 (.seq (.seq (.region [
 ⟨some 8, .mov (.tmp 0), none⟩,
 ⟨some 9, .len (.tmp 8), none⟩,
 ⟨some 10, .bin .gtr (.tmp 9) (.const (.int .i64 64)), none⟩])
 (.cond (.tmp 10)
  (.seq (.region [
  ⟨some 2, .mov (.const (.int .i64 0)), none⟩,
  ⟨some 3, .mov (.const (.int .i64 3)), none⟩])
  .ret)
  .skip))
 (.seq (.region [
 ⟨some 4, .mov (.const (.int .i64 (-1))), none⟩])
 (.seq (.seq (.region [
 ⟨some 11, .mov (.tmp 0), none⟩,
 ⟨some 12, .len (.tmp 11), none⟩,
 ⟨some 13, .mov (.const (.int .i64 0)), none⟩])
 (.block 0
  (.loop 17179861244
   (.seq (.region [
   ⟨some 14, .bin .lss (.tmp 13) (.tmp 12), none⟩])
   (.seq (.cond (.tmp 14)
    .skip
    (.exit 0))
   (.seq (.block 1
    (.seq (.region [
    ⟨some 15, .mov (.tmp 13), none⟩,
    ⟨some 16, .ixs 5 (.tmp 11) (.tmp 13), none⟩,
    ⟨some 17, .ldN 5 (.tmp 16), none⟩,
    ⟨some 6, .new 69 (.agg #[.int .i64 0, .int .i64 0, .int .i64 0, .int .i64 0, .int .i64 0]), none⟩,
    ⟨some 5, .mov (.tmp 15), none⟩,
    ⟨none, .stN 5 (.tmp 6) (.tmp 17), none⟩])
    (.seq (.seq (.region [
    ⟨some 18, .mov (.tmp 0), none⟩,
    ⟨some 19, .mov (.tmp 5), none⟩,
    ⟨some 20, .mov (.tmp 4), none⟩,
    ⟨some 21, .call 81 [(.tmp 18), (.tmp 19), (.tmp 20)], none⟩,
    ⟨some 7, .mov (.tmp 21), none⟩])
    (.seq (.region [
    ⟨some 22, .mov (.tmp 7), none⟩,
    ⟨some 23, .bin .neq (.tmp 22) (.const (.int .i64 0)), none⟩])
    (.cond (.tmp 23)
     (.seq (.region [
     ⟨some 24, .mov (.tmp 5), none⟩,
     ⟨some 25, .mov (.tmp 7), none⟩,
     ⟨some 2, .mov (.tmp 24), none⟩,
     ⟨some 3, .mov (.tmp 25), none⟩])
     .ret)
     .skip)))
    (.seq (.region [
    ⟨some 26, .fad 0 (.tmp 6), none⟩,
    ⟨some 27, .ld (.tmp 26), none⟩])
    (.block 2
     (.seq (.region [
     ⟨some 29, .bin .eql (.tmp 27) (.const (.int .i64 7)), none⟩,
     ⟨some 28, .mov (.tmp 29), none⟩])
     (.cond (.tmp 28)
      (.region [
      ⟨some 30, .mov (.tmp 5), none⟩,
      ⟨some 4, .mov (.tmp 30), none⟩])
      (.seq (.region [
      ⟨some 32, .bin .eql (.tmp 27) (.const (.int .i64 8)), none⟩,
      ⟨some 31, .mov (.tmp 32), none⟩])
      (.cond (.tmp 31)
       (.region [
       ⟨some 4, .mov (.const (.int .i64 (-1))), none⟩])
       .skip)))))))))
   (.region [
   ⟨some 33, .bin .add (.tmp 13) (.const (.int .i64 1)), none⟩,
   ⟨some 13, .mov (.tmp 33), none⟩])))))))
 (.seq (.seq (.region [
 ⟨some 34, .mov (.tmp 4), none⟩,
 ⟨some 35, .bin .geq (.tmp 34) (.const (.int .i64 0)), none⟩])
 (.cond (.tmp 35)
  (.seq (.region [
  ⟨some 36, .mov (.tmp 4), none⟩,
  ⟨some 2, .mov (.tmp 36), none⟩,
  ⟨some 3, .mov (.const (.int .i64 43)), none⟩])
  .ret)
  .skip))
 (.seq (.region [
 ⟨some 2, .mov (.const (.int .i64 0)), none⟩,
 ⟨some 3, .mov (.const (.int .i64 0)), none⟩])
 .ret)))))),
 [.tmp 2, .tmp 3]⟩
theorem low_program_Check : lowFn Tryz.prog movers 56 = some ⟨ir_program_Check.n, strip ir_program_Check.body, ir_program_Check.res⟩ := by kernel_rfl
def ir_program_Commit : IFn := ⟨29,
 (.seq (.region [
 ⟨some 4, .mov (.const (.int .i64 0)), none⟩])
 (.seq (.seq (.region [
 ⟨some 5, .mov (.tmp 0), none⟩,
 ⟨some 6, .call 85 [(.tmp 5)], none⟩,
 ⟨some 7, .not (.tmp 6), none⟩,
 ⟨some 8, .mov (.tmp 7), none⟩,
 ⟨some 9, .mov (.tmp 1), some (8, false)⟩,
 ⟨some 10, .bin .lss (.tmp 9) (.const (.int .i64 0)), some (8, false)⟩,
 ⟨some 11, .pick (.tmp 8) (.const (.bool true)) (.tmp 10), none⟩,
 ⟨some 12, .mov (.tmp 11), none⟩,
 ⟨some 13, .mov (.tmp 1), some (12, false)⟩,
 ⟨some 14, .mov (.tmp 0), some (12, false)⟩,
 ⟨some 15, .len (.tmp 14), some (12, false)⟩,
 ⟨some 16, .bin .geq (.tmp 13) (.tmp 15), some (12, false)⟩,
 ⟨some 17, .pick (.tmp 12) (.const (.bool true)) (.tmp 16), none⟩,
 ⟨some 18, .mov (.tmp 17), none⟩,
 ⟨some 19, .mov (.tmp 0), some (18, false)⟩,
 ⟨some 20, .mov (.tmp 1), some (18, false)⟩,
 ⟨some 21, .ixs 5 (.tmp 19) (.tmp 20), some (18, false)⟩,
 ⟨some 22, .fad 0 (.tmp 21), some (18, false)⟩,
 ⟨some 23, .ld (.tmp 22), some (18, false)⟩,
 ⟨some 24, .bin .neq (.tmp 23) (.const (.int .i64 7)), some (18, false)⟩,
 ⟨some 25, .pick (.tmp 18) (.const (.bool true)) (.tmp 24), none⟩])
 (.cond (.tmp 25)
  (.seq (.region [
  ⟨some 4, .mov (.const (.int .i64 (-1))), none⟩])
  .ret)
  .skip))
 (.seq (.region [
 ⟨some 26, .mov (.tmp 0), none⟩,
 ⟨some 27, .mov (.tmp 1), none⟩,
 ⟨some 28, .call 86 [(.tmp 26), (.tmp 27)], none⟩,
 ⟨some 4, .mov (.tmp 28), none⟩])
 .ret))),
 [.tmp 4]⟩
theorem low_program_Commit : lowFn Tryz.prog movers 64 = some ⟨ir_program_Commit.n, strip ir_program_Commit.body, ir_program_Commit.res⟩ := by kernel_rfl
def ir_program_one : IFn := ⟨61,
 (.seq (.region [
 ⟨some 6, .mov (.const (.int .i64 0)), none⟩])
 (.seq (.seq (.region [
 ⟨some 10, .mov (.tmp 0), none⟩,
 ⟨some 11, .mov (.tmp 1), none⟩,
 ⟨some 12, .ixs 5 (.tmp 10) (.tmp 11), none⟩,
 ⟨some 13, .ldN 5 (.tmp 12), none⟩,
 ⟨some 14, .call 96 [(.tmp 13)], none⟩,
 ⟨some 7, .mov (.tmp 14), none⟩])
 (.seq (.region [
 ⟨some 15, .mov (.tmp 7), none⟩,
 ⟨some 16, .bin .neq (.tmp 15) (.const (.int .i64 0)), none⟩])
 (.cond (.tmp 16)
  (.seq (.region [
  ⟨some 17, .mov (.tmp 7), none⟩,
  ⟨some 6, .mov (.tmp 17), none⟩])
  .ret)
  .skip)))
 (.seq (.region [
 ⟨some 18, .mov (.tmp 2), none⟩,
 ⟨some 19, .bin .geq (.tmp 18) (.const (.int .i64 0)), none⟩,
 ⟨some 8, .mov (.tmp 19), none⟩])
 (.seq (.seq (.region [
 ⟨some 20, .mov (.tmp 0), none⟩,
 ⟨some 21, .mov (.tmp 1), none⟩,
 ⟨some 22, .ixs 5 (.tmp 20) (.tmp 21), none⟩,
 ⟨some 23, .ldN 5 (.tmp 22), none⟩,
 ⟨some 24, .call 97 [(.tmp 23)], none⟩,
 ⟨some 9, .mov (.tmp 24), none⟩])
 (.block 0
  (.seq (.seq (.region [
  ⟨some 26, .mov (.tmp 0), none⟩,
  ⟨some 27, .mov (.tmp 1), none⟩,
  ⟨some 28, .ixs 5 (.tmp 26) (.tmp 27), none⟩,
  ⟨some 29, .fad 0 (.tmp 28), none⟩,
  ⟨some 30, .ld (.tmp 29), none⟩,
  ⟨some 31, .bin .eql (.tmp 30) (.const (.int .i64 7)), none⟩,
  ⟨some 32, .mov (.tmp 31), none⟩,
  ⟨some 33, .mov (.tmp 8), some (32, true)⟩,
  ⟨some 34, .pick (.tmp 32) (.tmp 33) (.const (.bool false)), none⟩,
  ⟨some 25, .mov (.tmp 34), none⟩])
  (.cond (.tmp 25)
   .skip
   (.region [
   ⟨some 35, .mov (.tmp 0), none⟩,
   ⟨some 36, .mov (.tmp 1), none⟩,
   ⟨some 37, .ixs 5 (.tmp 35) (.tmp 36), none⟩,
   ⟨some 38, .fad 0 (.tmp 37), none⟩,
   ⟨some 39, .ld (.tmp 38), none⟩,
   ⟨some 40, .bin .eql (.tmp 39) (.const (.int .i64 8)), none⟩,
   ⟨some 41, .mov (.tmp 40), none⟩,
   ⟨some 42, .mov (.tmp 8), some (41, true)⟩,
   ⟨some 43, .not (.tmp 42), some (41, true)⟩,
   ⟨some 44, .pick (.tmp 41) (.tmp 43) (.const (.bool false)), none⟩,
   ⟨some 25, .mov (.tmp 44), none⟩])))
  (.cond (.tmp 25)
   (.seq (.region [
   ⟨some 6, .mov (.const (.int .i64 40)), none⟩])
   .ret)
   (.seq (.seq (.region [
   ⟨some 46, .mov (.tmp 9), none⟩,
   ⟨some 47, .bin .eql (.tmp 46) (.const (.int .i64 1)), none⟩,
   ⟨some 48, .mov (.tmp 47), none⟩,
   ⟨some 49, .mov (.tmp 8), some (48, true)⟩,
   ⟨some 50, .not (.tmp 49), some (48, true)⟩,
   ⟨some 51, .pick (.tmp 48) (.tmp 50) (.const (.bool false)), none⟩,
   ⟨some 45, .mov (.tmp 51), none⟩])
   (.cond (.tmp 45)
    .skip
    (.region [
    ⟨some 52, .mov (.tmp 9), none⟩,
    ⟨some 53, .bin .eql (.tmp 52) (.const (.int .i64 2)), none⟩,
    ⟨some 54, .mov (.tmp 53), none⟩,
    ⟨some 55, .mov (.tmp 8), some (54, true)⟩,
    ⟨some 56, .pick (.tmp 54) (.tmp 55) (.const (.bool false)), none⟩,
    ⟨some 45, .mov (.tmp 56), none⟩])))
   (.cond (.tmp 45)
    (.seq (.region [
    ⟨some 6, .mov (.const (.int .i64 41)), none⟩])
    .ret)
    .skip))))))
 (.seq (.region [
 ⟨some 57, .mov (.tmp 0), none⟩,
 ⟨some 58, .mov (.tmp 1), none⟩,
 ⟨some 59, .mov (.tmp 2), none⟩,
 ⟨some 60, .call 98 [(.tmp 57), (.tmp 58), (.tmp 59)], none⟩,
 ⟨some 6, .mov (.tmp 60), none⟩])
 .ret))))),
 [.tmp 6]⟩
theorem low_program_one : lowFn Tryz.prog movers 81 = some ⟨ir_program_one.n, strip ir_program_one.body, ir_program_one.res⟩ := by kernel_rfl
def ir_program_valid : IFn := ⟨12,
 (.seq (.region [
 ⟨some 2, .mov (.const (.bool false)), none⟩])
 (.seq (.region [
 ⟨some 6, .mov (.tmp 0), none⟩,
 ⟨some 7, .call 56 [(.tmp 6)], none⟩,
 ⟨some 5, .mov (.tmp 7), none⟩,
 ⟨some 8, .ext (.tmp 5) 0, none⟩,
 ⟨some 9, .ext (.tmp 5) 1, none⟩,
 ⟨some 3, .mov (.tmp 8), none⟩,
 ⟨some 4, .mov (.tmp 9), none⟩])
 (.seq (.region [
 ⟨some 10, .mov (.tmp 4), none⟩,
 ⟨some 11, .bin .eql (.tmp 10) (.const (.int .i64 0)), none⟩,
 ⟨some 2, .mov (.tmp 11), none⟩])
 .ret))),
 [.tmp 2]⟩
theorem low_program_valid : lowFn Tryz.prog movers 85 = some ⟨ir_program_valid.n, strip ir_program_valid.body, ir_program_valid.res⟩ := by kernel_rfl
def ir_program_end : IFn := ⟨23,
 (.seq (.region [
 ⟨some 4, .mov (.const (.int .i64 0)), none⟩])
 (.seq (.seq (.region [
 ⟨some 6, .mov (.tmp 1), none⟩,
 ⟨some 7, .bin .add (.tmp 6) (.const (.int .i64 1)), none⟩,
 ⟨some 5, .mov (.tmp 7), none⟩])
 (.block 0
  (.loop 2096944
   (.seq (.seq (.region [
   ⟨some 8, .mov (.tmp 5), none⟩,
   ⟨some 9, .mov (.tmp 0), none⟩,
   ⟨some 10, .len (.tmp 9), none⟩,
   ⟨some 11, .bin .lss (.tmp 8) (.tmp 10), none⟩])
   (.cond (.tmp 11)
    .skip
    (.exit 0)))
   (.seq (.block 1
    (.seq (.region [
    ⟨some 14, .mov (.tmp 0), none⟩,
    ⟨some 15, .mov (.tmp 5), none⟩,
    ⟨some 16, .ixs 5 (.tmp 14) (.tmp 15), none⟩,
    ⟨some 17, .fad 0 (.tmp 16), none⟩,
    ⟨some 18, .ld (.tmp 17), none⟩,
    ⟨some 19, .bin .eql (.tmp 18) (.const (.int .i64 8)), none⟩])
    (.cond (.tmp 19)
     (.seq (.region [
     ⟨some 20, .mov (.tmp 5), none⟩,
     ⟨some 4, .mov (.tmp 20), none⟩])
     .ret)
     .skip)))
   (.region [
   ⟨some 12, .mov (.tmp 5), none⟩,
   ⟨some 13, .bin .add (.tmp 12) (.const (.int .i64 1)), none⟩,
   ⟨some 5, .mov (.tmp 13), none⟩]))))))
 (.seq (.region [
 ⟨some 21, .mov (.tmp 0), none⟩,
 ⟨some 22, .len (.tmp 21), none⟩,
 ⟨some 4, .mov (.tmp 22), none⟩])
 .ret))),
 [.tmp 4]⟩
theorem low_program_end : lowFn Tryz.prog movers 86 = some ⟨ir_program_end.n, strip ir_program_end.body, ir_program_end.res⟩ := by kernel_rfl
def ir_program_target : IFn := ⟨48,
 (.seq (.region [
 ⟨some 6, .mov (.const (.int .i64 0)), none⟩])
 (.seq (.region [
 ⟨some 11, .mov (.tmp 0), none⟩,
 ⟨some 12, .mov (.tmp 1), none⟩,
 ⟨some 13, .ixs 5 (.tmp 11) (.tmp 12), none⟩,
 ⟨some 14, .ldN 5 (.tmp 13), none⟩,
 ⟨some 15, .call 115 [(.tmp 14)], none⟩,
 ⟨some 10, .mov (.tmp 15), none⟩,
 ⟨some 16, .ext (.tmp 10) 0, none⟩,
 ⟨some 17, .ext (.tmp 10) 1, none⟩,
 ⟨some 7, .mov (.tmp 16), none⟩,
 ⟨some 8, .mov (.tmp 17), none⟩])
 (.seq (.seq (.region [
 ⟨some 18, .mov (.tmp 8), none⟩,
 ⟨some 19, .not (.tmp 18), none⟩])
 (.cond (.tmp 19)
  (.seq (.region [
  ⟨some 6, .mov (.const (.int .i64 0)), none⟩])
  .ret)
  .skip))
 (.seq (.region [
 ⟨some 20, .mov (.tmp 1), none⟩,
 ⟨some 21, .bin .add (.tmp 20) (.const (.int .i64 1)), none⟩,
 ⟨some 22, .mov (.tmp 7), none⟩,
 ⟨some 23, .bin .add (.tmp 21) (.tmp 22), none⟩,
 ⟨some 9, .mov (.tmp 23), none⟩])
 (.seq (.block 0
  (.seq (.region [
  ⟨some 25, .mov (.tmp 9), none⟩,
  ⟨some 26, .mov (.tmp 0), none⟩,
  ⟨some 27, .len (.tmp 26), none⟩,
  ⟨some 28, .bin .gtr (.tmp 25) (.tmp 27), none⟩,
  ⟨some 24, .mov (.tmp 28), none⟩])
  (.cond (.tmp 24)
   (.seq (.region [
   ⟨some 6, .mov (.const (.int .i64 42)), none⟩])
   .ret)
   (.seq (.region [
   ⟨some 30, .mov (.tmp 2), none⟩,
   ⟨some 31, .bin .geq (.tmp 30) (.const (.int .i64 0)), none⟩,
   ⟨some 32, .mov (.tmp 31), none⟩,
   ⟨some 33, .mov (.tmp 9), some (32, true)⟩,
   ⟨some 34, .mov (.tmp 0), some (32, true)⟩,
   ⟨some 35, .mov (.tmp 2), some (32, true)⟩,
   ⟨some 36, .call 86 [(.tmp 34), (.tmp 35)], some (32, true)⟩,
   ⟨some 37, .bin .gtr (.tmp 33) (.tmp 36), some (32, true)⟩,
   ⟨some 38, .pick (.tmp 32) (.tmp 37) (.const (.bool false)), none⟩,
   ⟨some 29, .mov (.tmp 38), none⟩])
   (.cond (.tmp 29)
    (.seq (.region [
    ⟨some 6, .mov (.const (.int .i64 42)), none⟩])
    .ret)
    (.seq (.region [
    ⟨some 40, .mov (.tmp 2), none⟩,
    ⟨some 41, .bin .lss (.tmp 40) (.const (.int .i64 0)), none⟩,
    ⟨some 42, .mov (.tmp 41), none⟩,
    ⟨some 43, .mov (.tmp 0), some (42, true)⟩,
    ⟨some 44, .mov (.tmp 1), some (42, true)⟩,
    ⟨some 45, .mov (.tmp 9), some (42, true)⟩,
    ⟨some 46, .call 116 [(.tmp 43), (.tmp 44), (.tmp 45)], some (42, true)⟩,
    ⟨some 47, .pick (.tmp 42) (.tmp 46) (.const (.bool false)), none⟩,
    ⟨some 39, .mov (.tmp 47), none⟩])
    (.cond (.tmp 39)
     (.seq (.region [
     ⟨some 6, .mov (.const (.int .i64 42)), none⟩])
     .ret)
     .skip)))))))
 (.seq (.region [
 ⟨some 6, .mov (.const (.int .i64 0)), none⟩])
 .ret)))))),
 [.tmp 6]⟩
theorem low_program_target : lowFn Tryz.prog movers 98 = some ⟨ir_program_target.n, strip ir_program_target.body, ir_program_target.res⟩ := by kernel_rfl
def ir_program_into : IFn := ⟨32,
 (.seq (.region [
 ⟨some 6, .mov (.const (.bool false)), none⟩])
 (.seq (.seq (.region [
 ⟨some 8, .mov (.tmp 1), none⟩,
 ⟨some 9, .bin .add (.tmp 8) (.const (.int .i64 1)), none⟩,
 ⟨some 7, .mov (.tmp 9), none⟩])
 (.block 0
  (.loop 4294966464
   (.seq (.seq (.region [
   ⟨some 10, .mov (.tmp 7), none⟩,
   ⟨some 11, .mov (.tmp 2), none⟩,
   ⟨some 12, .bin .lss (.tmp 10) (.tmp 11), none⟩])
   (.cond (.tmp 12)
    .skip
    (.exit 0)))
   (.seq (.block 1
    (.seq (.region [
    ⟨some 15, .mov (.tmp 0), none⟩,
    ⟨some 16, .mov (.tmp 7), none⟩,
    ⟨some 17, .ixs 5 (.tmp 15) (.tmp 16), none⟩,
    ⟨some 18, .fad 0 (.tmp 17), none⟩,
    ⟨some 19, .ld (.tmp 18), none⟩,
    ⟨some 20, .bin .eql (.tmp 19) (.const (.int .i64 7)), none⟩,
    ⟨some 21, .mov (.tmp 20), none⟩,
    ⟨some 22, .mov (.tmp 2), some (21, true)⟩,
    ⟨some 23, .mov (.tmp 0), some (21, true)⟩,
    ⟨some 24, .mov (.tmp 7), some (21, true)⟩,
    ⟨some 25, .call 86 [(.tmp 23), (.tmp 24)], some (21, true)⟩,
    ⟨some 26, .mov (.tmp 0), some (21, true)⟩,
    ⟨some 27, .len (.tmp 26), some (21, true)⟩,
    ⟨some 28, .bin .sub (.tmp 27) (.const (.int .i64 1)), some (21, true)⟩,
    ⟨some 29, .mm false (.tmp 25) (.tmp 28), some (21, true)⟩,
    ⟨some 30, .bin .leq (.tmp 22) (.tmp 29), some (21, true)⟩,
    ⟨some 31, .pick (.tmp 21) (.tmp 30) (.const (.bool false)), none⟩])
    (.cond (.tmp 31)
     (.seq (.region [
     ⟨some 6, .mov (.const (.bool true)), none⟩])
     .ret)
     .skip)))
   (.region [
   ⟨some 13, .mov (.tmp 7), none⟩,
   ⟨some 14, .bin .add (.tmp 13) (.const (.int .i64 1)), none⟩,
   ⟨some 7, .mov (.tmp 14), none⟩]))))))
 (.seq (.region [
 ⟨some 6, .mov (.const (.bool false)), none⟩])
 .ret))),
 [.tmp 6]⟩
theorem low_program_into : lowFn Tryz.prog movers 116 = some ⟨ir_program_into.n, strip ir_program_into.body, ir_program_into.res⟩ := by kernel_rfl
end Go.Proofs.YtfompmhncnkcfaaGreatDoor
namespace Go.Proofs.YtfompmhncnkcfaaGreatDoor
open Go
set_option maxRecDepth 100000
def ir_ref06_Check : IFn := ⟨91,
 (.seq (.region [
 ⟨some 2, .mov (.const (.int .i64 0)), none⟩,
 ⟨some 3, .mov (.const (.int .i64 0)), none⟩])
 (.seq (.seq (.region [
 ⟨some 11, .mov (.tmp 0), none⟩,
 ⟨some 12, .len (.tmp 11), none⟩,
 ⟨some 13, .bin .gtr (.tmp 12) (.const (.int .i64 64)), none⟩])
 (.cond (.tmp 13)
  (.seq (.region [
  ⟨some 2, .mov (.const (.int .i64 0)), none⟩,
  ⟨some 3, .mov (.const (.int .i64 3)), none⟩])
  .ret)
  .skip))
 (.seq (.region [
 ⟨some 4, .mov (.const (.int .i64 (-1))), none⟩])
 (.seq (.seq (.region [
 ⟨some 5, .mov (.const (.int .i64 0)), none⟩])
 (.block 0
  (.loop 309485009821345068724766716
   (.seq (.seq (.region [
   ⟨some 14, .mov (.tmp 5), none⟩,
   ⟨some 15, .mov (.tmp 0), none⟩,
   ⟨some 16, .len (.tmp 15), none⟩,
   ⟨some 17, .bin .lss (.tmp 14) (.tmp 16), none⟩])
   (.cond (.tmp 17)
    .skip
    (.exit 0)))
   (.seq (.block 1
    (.seq (.region [
    ⟨some 20, .mov (.tmp 0), none⟩,
    ⟨some 21, .mov (.tmp 5), none⟩,
    ⟨some 22, .ixs 5 (.tmp 20) (.tmp 21), none⟩,
    ⟨some 23, .ldN 5 (.tmp 22), none⟩,
    ⟨some 6, .new 69 (.agg #[.int .i64 0, .int .i64 0, .int .i64 0, .int .i64 0, .int .i64 0]), none⟩,
    ⟨none, .stN 5 (.tmp 6) (.tmp 23), none⟩])
    (.seq (.seq (.region [
    ⟨some 24, .ldN 5 (.tmp 6), none⟩,
    ⟨some 25, .call 74 [(.tmp 24)], none⟩,
    ⟨some 7, .mov (.tmp 25), none⟩])
    (.seq (.region [
    ⟨some 26, .mov (.tmp 7), none⟩,
    ⟨some 27, .bin .neq (.tmp 26) (.const (.int .i64 0)), none⟩])
    (.cond (.tmp 27)
     (.seq (.region [
     ⟨some 28, .mov (.tmp 5), none⟩,
     ⟨some 29, .mov (.tmp 7), none⟩,
     ⟨some 2, .mov (.tmp 28), none⟩,
     ⟨some 3, .mov (.tmp 29), none⟩])
     .ret)
     .skip)))
    (.seq (.seq (.region [
    ⟨some 30, .fad 0 (.tmp 6), none⟩,
    ⟨some 31, .ld (.tmp 30), none⟩,
    ⟨some 32, .bin .eql (.tmp 31) (.const (.int .i64 7)), none⟩,
    ⟨some 33, .mov (.tmp 32), none⟩,
    ⟨some 34, .mov (.tmp 4), some (33, true)⟩,
    ⟨some 35, .bin .geq (.tmp 34) (.const (.int .i64 0)), some (33, true)⟩,
    ⟨some 36, .pick (.tmp 33) (.tmp 35) (.const (.bool false)), none⟩,
    ⟨some 37, .mov (.tmp 36), none⟩,
    ⟨some 38, .fad 0 (.tmp 6), some (37, false)⟩,
    ⟨some 39, .ld (.tmp 38), some (37, false)⟩,
    ⟨some 40, .bin .eql (.tmp 39) (.const (.int .i64 8)), some (37, false)⟩,
    ⟨some 41, .mov (.tmp 40), some (37, false)⟩,
    ⟨some 42, .mov (.tmp 4), some (41, true)⟩,
    ⟨some 43, .bin .lss (.tmp 42) (.const (.int .i64 0)), some (41, true)⟩,
    ⟨some 44, .pick (.tmp 41) (.tmp 43) (.const (.bool false)), some (37, false)⟩,
    ⟨some 45, .pick (.tmp 37) (.const (.bool true)) (.tmp 44), none⟩])
    (.cond (.tmp 45)
     (.seq (.region [
     ⟨some 46, .mov (.tmp 5), none⟩,
     ⟨some 2, .mov (.tmp 46), none⟩,
     ⟨some 3, .mov (.const (.int .i64 40)), none⟩])
     .ret)
     .skip))
    (.seq (.seq (.region [
    ⟨some 47, .ldN 5 (.tmp 6), none⟩,
    ⟨some 48, .call 75 [(.tmp 47)], none⟩,
    ⟨some 8, .mov (.tmp 48), none⟩])
    (.seq (.region [
    ⟨some 49, .mov (.tmp 8), none⟩,
    ⟨some 50, .bin .eql (.tmp 49) (.const (.int .i64 1)), none⟩,
    ⟨some 51, .mov (.tmp 50), none⟩,
    ⟨some 52, .mov (.tmp 4), some (51, true)⟩,
    ⟨some 53, .bin .lss (.tmp 52) (.const (.int .i64 0)), some (51, true)⟩,
    ⟨some 54, .pick (.tmp 51) (.tmp 53) (.const (.bool false)), none⟩,
    ⟨some 55, .mov (.tmp 54), none⟩,
    ⟨some 56, .mov (.tmp 8), some (55, false)⟩,
    ⟨some 57, .bin .eql (.tmp 56) (.const (.int .i64 2)), some (55, false)⟩,
    ⟨some 58, .mov (.tmp 57), some (55, false)⟩,
    ⟨some 59, .mov (.tmp 4), some (58, true)⟩,
    ⟨some 60, .bin .geq (.tmp 59) (.const (.int .i64 0)), some (58, true)⟩,
    ⟨some 61, .pick (.tmp 58) (.tmp 60) (.const (.bool false)), some (55, false)⟩,
    ⟨some 62, .pick (.tmp 55) (.const (.bool true)) (.tmp 61), none⟩])
    (.cond (.tmp 62)
     (.seq (.region [
     ⟨some 63, .mov (.tmp 5), none⟩,
     ⟨some 2, .mov (.tmp 63), none⟩,
     ⟨some 3, .mov (.const (.int .i64 41)), none⟩])
     .ret)
     .skip)))
    (.seq (.seq (.region [
    ⟨some 65, .ldN 5 (.tmp 6), none⟩,
    ⟨some 66, .call 76 [(.tmp 65)], none⟩,
    ⟨some 64, .mov (.tmp 66), none⟩,
    ⟨some 67, .ext (.tmp 64) 0, none⟩,
    ⟨some 68, .ext (.tmp 64) 1, none⟩,
    ⟨some 9, .mov (.tmp 67), none⟩,
    ⟨some 10, .mov (.tmp 68), none⟩])
    (.seq (.region [
    ⟨some 69, .mov (.tmp 10), none⟩,
    ⟨some 70, .mov (.tmp 69), none⟩,
    ⟨some 71, .mov (.tmp 0), some (70, true)⟩,
    ⟨some 72, .mov (.tmp 5), some (70, true)⟩,
    ⟨some 73, .mov (.tmp 5), some (70, true)⟩,
    ⟨some 74, .bin .add (.tmp 73) (.const (.int .i64 1)), some (70, true)⟩,
    ⟨some 75, .mov (.tmp 9), some (70, true)⟩,
    ⟨some 76, .bin .add (.tmp 74) (.tmp 75), some (70, true)⟩,
    ⟨some 77, .call 77 [(.tmp 71), (.tmp 72), (.tmp 76)], some (70, true)⟩,
    ⟨some 78, .not (.tmp 77), some (70, true)⟩,
    ⟨some 79, .pick (.tmp 70) (.tmp 78) (.const (.bool false)), none⟩])
    (.cond (.tmp 79)
     (.seq (.region [
     ⟨some 80, .mov (.tmp 5), none⟩,
     ⟨some 2, .mov (.tmp 80), none⟩,
     ⟨some 3, .mov (.const (.int .i64 42)), none⟩])
     .ret)
     .skip)))
    (.seq (.region [
    ⟨some 81, .fad 0 (.tmp 6), none⟩,
    ⟨some 82, .ld (.tmp 81), none⟩])
    (.block 2
     (.seq (.region [
     ⟨some 84, .bin .eql (.tmp 82) (.const (.int .i64 7)), none⟩,
     ⟨some 83, .mov (.tmp 84), none⟩])
     (.cond (.tmp 83)
      (.region [
      ⟨some 85, .mov (.tmp 5), none⟩,
      ⟨some 4, .mov (.tmp 85), none⟩])
      (.seq (.region [
      ⟨some 87, .bin .eql (.tmp 82) (.const (.int .i64 8)), none⟩,
      ⟨some 86, .mov (.tmp 87), none⟩])
      (.cond (.tmp 86)
       (.region [
       ⟨some 4, .mov (.const (.int .i64 (-1))), none⟩])
       .skip))))))))))))
   (.region [
   ⟨some 18, .mov (.tmp 5), none⟩,
   ⟨some 19, .bin .add (.tmp 18) (.const (.int .i64 1)), none⟩,
   ⟨some 5, .mov (.tmp 19), none⟩]))))))
 (.seq (.seq (.region [
 ⟨some 88, .mov (.tmp 4), none⟩,
 ⟨some 89, .bin .geq (.tmp 88) (.const (.int .i64 0)), none⟩])
 (.cond (.tmp 89)
  (.seq (.region [
  ⟨some 90, .mov (.tmp 4), none⟩,
  ⟨some 2, .mov (.tmp 90), none⟩,
  ⟨some 3, .mov (.const (.int .i64 43)), none⟩])
  .ret)
  .skip))
 (.seq (.region [
 ⟨some 2, .mov (.const (.int .i64 0)), none⟩,
 ⟨some 3, .mov (.const (.int .i64 0)), none⟩])
 .ret)))))),
 [.tmp 2, .tmp 3]⟩
theorem low_ref06_Check : lowFn Tryz.prog movers 50 = some ⟨ir_ref06_Check.n, strip ir_ref06_Check.body, ir_ref06_Check.res⟩ := by kernel_rfl
def ir_ref06_Span : IFn := ⟨61,
 (.seq (.region [
 ⟨some 4, .mov (.const (.int .i64 0)), none⟩,
 ⟨some 5, .mov (.const (.int .i64 0)), none⟩])
 (.seq (.region [
 ⟨some 6, .mov (.const (.int .i64 (-1))), none⟩])
 (.seq (.seq (.region [
 ⟨some 7, .mov (.const (.int .i64 0)), none⟩])
 (.block 0
  (.loop 35184372088816
   (.seq (.seq (.region [
   ⟨some 8, .mov (.tmp 7), none⟩,
   ⟨some 9, .mov (.tmp 0), none⟩,
   ⟨some 10, .len (.tmp 9), none⟩,
   ⟨some 11, .bin .lss (.tmp 8) (.tmp 10), none⟩])
   (.cond (.tmp 11)
    .skip
    (.exit 0)))
   (.seq (.block 1
    (.seq (.region [
    ⟨some 14, .mov (.tmp 6), none⟩,
    ⟨some 15, .bin .lss (.tmp 14) (.const (.int .i64 0)), none⟩,
    ⟨some 16, .mov (.tmp 15), none⟩,
    ⟨some 17, .mov (.tmp 0), some (16, true)⟩,
    ⟨some 18, .mov (.tmp 7), some (16, true)⟩,
    ⟨some 19, .ixs 5 (.tmp 17) (.tmp 18), some (16, true)⟩,
    ⟨some 20, .fad 0 (.tmp 19), some (16, true)⟩,
    ⟨some 21, .ld (.tmp 20), some (16, true)⟩,
    ⟨some 22, .bin .eql (.tmp 21) (.const (.int .i64 7)), some (16, true)⟩,
    ⟨some 23, .pick (.tmp 16) (.tmp 22) (.const (.bool false)), none⟩])
    (.cond (.tmp 23)
     (.region [
     ⟨some 24, .mov (.tmp 7), none⟩,
     ⟨some 6, .mov (.tmp 24), none⟩])
     (.seq (.region [
     ⟨some 25, .mov (.tmp 6), none⟩,
     ⟨some 26, .bin .geq (.tmp 25) (.const (.int .i64 0)), none⟩,
     ⟨some 27, .mov (.tmp 26), none⟩,
     ⟨some 28, .mov (.tmp 0), some (27, true)⟩,
     ⟨some 29, .mov (.tmp 7), some (27, true)⟩,
     ⟨some 30, .ixs 5 (.tmp 28) (.tmp 29), some (27, true)⟩,
     ⟨some 31, .fad 0 (.tmp 30), some (27, true)⟩,
     ⟨some 32, .ld (.tmp 31), some (27, true)⟩,
     ⟨some 33, .bin .eql (.tmp 32) (.const (.int .i64 8)), some (27, true)⟩,
     ⟨some 34, .pick (.tmp 27) (.tmp 33) (.const (.bool false)), none⟩])
     (.cond (.tmp 34)
      (.seq (.seq (.region [
      ⟨some 35, .mov (.tmp 6), none⟩,
      ⟨some 36, .mov (.tmp 1), none⟩,
      ⟨some 37, .bin .leq (.tmp 35) (.tmp 36), none⟩,
      ⟨some 38, .mov (.tmp 37), none⟩,
      ⟨some 39, .mov (.tmp 1), some (38, true)⟩,
      ⟨some 40, .mov (.tmp 7), some (38, true)⟩,
      ⟨some 41, .bin .leq (.tmp 39) (.tmp 40), some (38, true)⟩,
      ⟨some 42, .pick (.tmp 38) (.tmp 41) (.const (.bool false)), none⟩])
      (.cond (.tmp 42)
       (.seq (.region [
       ⟨some 43, .mov (.tmp 6), none⟩,
       ⟨some 44, .mov (.tmp 7), none⟩,
       ⟨some 4, .mov (.tmp 43), none⟩,
       ⟨some 5, .mov (.tmp 44), none⟩])
       .ret)
       .skip))
      (.region [
      ⟨some 6, .mov (.const (.int .i64 (-1))), none⟩]))
      .skip)))))
   (.region [
   ⟨some 12, .mov (.tmp 7), none⟩,
   ⟨some 13, .bin .add (.tmp 12) (.const (.int .i64 1)), none⟩,
   ⟨some 7, .mov (.tmp 13), none⟩]))))))
 (.seq (.seq (.region [
 ⟨some 45, .mov (.tmp 6), none⟩,
 ⟨some 46, .bin .geq (.tmp 45) (.const (.int .i64 0)), none⟩,
 ⟨some 47, .mov (.tmp 46), none⟩,
 ⟨some 48, .mov (.tmp 6), some (47, true)⟩,
 ⟨some 49, .mov (.tmp 1), some (47, true)⟩,
 ⟨some 50, .bin .leq (.tmp 48) (.tmp 49), some (47, true)⟩,
 ⟨some 51, .pick (.tmp 47) (.tmp 50) (.const (.bool false)), none⟩,
 ⟨some 52, .mov (.tmp 51), none⟩,
 ⟨some 53, .mov (.tmp 1), some (52, true)⟩,
 ⟨some 54, .mov (.tmp 0), some (52, true)⟩,
 ⟨some 55, .len (.tmp 54), some (52, true)⟩,
 ⟨some 56, .bin .lss (.tmp 53) (.tmp 55), some (52, true)⟩,
 ⟨some 57, .pick (.tmp 52) (.tmp 56) (.const (.bool false)), none⟩])
 (.cond (.tmp 57)
  (.seq (.region [
  ⟨some 58, .mov (.tmp 6), none⟩,
  ⟨some 59, .mov (.tmp 0), none⟩,
  ⟨some 60, .len (.tmp 59), none⟩,
  ⟨some 4, .mov (.tmp 58), none⟩,
  ⟨some 5, .mov (.tmp 60), none⟩])
  .ret)
  .skip))
 (.seq (.region [
 ⟨some 4, .mov (.const (.int .i64 (-1))), none⟩,
 ⟨some 5, .mov (.const (.int .i64 (-1))), none⟩])
 .ret))))),
 [.tmp 4, .tmp 5]⟩
theorem low_ref06_Span : lowFn Tryz.prog movers 67 = some ⟨ir_ref06_Span.n, strip ir_ref06_Span.body, ir_ref06_Span.res⟩ := by kernel_rfl
def ir_ref06_reaches : IFn := ⟨37,
 (.seq (.region [
 ⟨some 6, .mov (.const (.bool false)), none⟩])
 (.seq (.seq (.region [
 ⟨some 9, .mov (.tmp 2), none⟩,
 ⟨some 10, .mov (.tmp 0), none⟩,
 ⟨some 11, .len (.tmp 10), none⟩,
 ⟨some 12, .bin .gtr (.tmp 9) (.tmp 11), none⟩])
 (.cond (.tmp 12)
  (.seq (.region [
  ⟨some 6, .mov (.const (.bool false)), none⟩])
  .ret)
  .skip))
 (.seq (.region [
 ⟨some 14, .mov (.tmp 0), none⟩,
 ⟨some 15, .mov (.tmp 1), none⟩,
 ⟨some 16, .call 67 [(.tmp 14), (.tmp 15)], none⟩,
 ⟨some 13, .mov (.tmp 16), none⟩,
 ⟨some 17, .ext (.tmp 13) 0, none⟩,
 ⟨some 18, .ext (.tmp 13) 1, none⟩,
 ⟨some 7, .mov (.tmp 17), none⟩,
 ⟨some 8, .mov (.tmp 18), none⟩])
 (.seq (.seq (.region [
 ⟨some 19, .mov (.tmp 7), none⟩,
 ⟨some 20, .bin .geq (.tmp 19) (.const (.int .i64 0)), none⟩])
 (.cond (.tmp 20)
  (.seq (.region [
  ⟨some 21, .mov (.tmp 2), none⟩,
  ⟨some 22, .mov (.tmp 8), none⟩,
  ⟨some 23, .bin .leq (.tmp 21) (.tmp 22), none⟩,
  ⟨some 6, .mov (.tmp 23), none⟩])
  .ret)
  .skip))
 (.seq (.region [
 ⟨some 25, .mov (.tmp 0), none⟩,
 ⟨some 26, .mov (.tmp 2), none⟩,
 ⟨some 27, .call 67 [(.tmp 25), (.tmp 26)], none⟩,
 ⟨some 24, .mov (.tmp 27), none⟩,
 ⟨some 28, .ext (.tmp 24) 0, none⟩,
 ⟨some 29, .ext (.tmp 24) 1, none⟩,
 ⟨some 7, .mov (.tmp 28), none⟩])
 (.seq (.region [
 ⟨some 30, .mov (.tmp 7), none⟩,
 ⟨some 31, .bin .lss (.tmp 30) (.const (.int .i64 0)), none⟩,
 ⟨some 32, .mov (.tmp 31), none⟩,
 ⟨some 33, .mov (.tmp 7), some (32, false)⟩,
 ⟨some 34, .mov (.tmp 2), some (32, false)⟩,
 ⟨some 35, .bin .eql (.tmp 33) (.tmp 34), some (32, false)⟩,
 ⟨some 36, .pick (.tmp 32) (.const (.bool true)) (.tmp 35), none⟩,
 ⟨some 6, .mov (.tmp 36), none⟩])
 .ret)))))),
 [.tmp 6]⟩
theorem low_ref06_reaches : lowFn Tryz.prog movers 77 = some ⟨ir_ref06_reaches.n, strip ir_ref06_reaches.body, ir_ref06_reaches.res⟩ := by kernel_rfl
end Go.Proofs.YtfompmhncnkcfaaGreatDoor
namespace Go.Proofs.YtfompmhncnkcfaaGreatDoor
open Go
set_option maxRecDepth 100000
def ir_layout_CheckScript : IFn := ⟨72,
 (.seq (.region [
 ⟨some 1, .box 32 (.tmp 0), none⟩,
 ⟨some 2, .mov (.const (.int .i64 0)), none⟩,
 ⟨some 3, .mov (.const (.int .i64 0)), none⟩,
 ⟨some 4, .mov (.const (.int .i64 0)), none⟩])
 (.seq (.seq (.region [
 ⟨some 12, .fad 0 (.tmp 1), none⟩,
 ⟨some 13, .ldN 13 (.tmp 12), none⟩,
 ⟨some 14, .call 54 [(.tmp 13)], none⟩,
 ⟨some 5, .mov (.tmp 14), none⟩])
 (.seq (.region [
 ⟨some 15, .mov (.tmp 5), none⟩,
 ⟨some 16, .bin .neq (.tmp 15) (.const (.int .i64 0)), none⟩])
 (.cond (.tmp 16)
  (.seq (.region [
  ⟨some 17, .mov (.tmp 5), none⟩,
  ⟨some 2, .mov (.const (.int .i64 0)), none⟩,
  ⟨some 3, .mov (.const (.int .i64 0)), none⟩,
  ⟨some 4, .mov (.tmp 17), none⟩])
  .ret)
  .skip)))
 (.seq (.seq (.region [
 ⟨some 18, .fad 14 (.tmp 1), none⟩,
 ⟨some 19, .ld (.tmp 18), none⟩,
 ⟨some 20, .len (.tmp 19), none⟩,
 ⟨some 21, .call 55 [(.tmp 20), (.const (.int .i64 1)), (.const (.int .i64 16))], none⟩,
 ⟨some 22, .not (.tmp 21), none⟩])
 (.cond (.tmp 22)
  (.seq (.region [
  ⟨some 2, .mov (.const (.int .i64 0)), none⟩,
  ⟨some 3, .mov (.const (.int .i64 0)), none⟩,
  ⟨some 4, .mov (.const (.int .i64 54)), none⟩])
  .ret)
  .skip))
 (.seq (.seq (.region [
 ⟨some 23, .fad 13 (.tmp 1), none⟩,
 ⟨some 24, .ld (.tmp 23), none⟩,
 ⟨some 25, .len (.tmp 24), none⟩,
 ⟨some 26, .fad 0 (.tmp 1), none⟩,
 ⟨some 27, .fad 0 (.tmp 26), none⟩,
 ⟨some 28, .ld (.tmp 27), none⟩,
 ⟨some 29, .bin .neq (.tmp 25) (.tmp 28), none⟩])
 (.cond (.tmp 29)
  (.seq (.region [
  ⟨some 2, .mov (.const (.int .i64 0)), none⟩,
  ⟨some 3, .mov (.const (.int .i64 0)), none⟩,
  ⟨some 4, .mov (.const (.int .i64 55)), none⟩])
  .ret)
  .skip))
 (.seq (.seq (.region [
 ⟨some 30, .fad 14 (.tmp 1), none⟩,
 ⟨some 31, .ld (.tmp 30), none⟩,
 ⟨some 32, .len (.tmp 31), none⟩,
 ⟨some 33, .mov (.const (.int .i64 0)), none⟩])
 (.block 0
  (.loop 562941363487708
   (.seq (.region [
   ⟨some 34, .bin .lss (.tmp 33) (.tmp 32), none⟩])
   (.seq (.cond (.tmp 34)
    .skip
    (.exit 0))
   (.seq (.block 1
    (.seq (.region [
    ⟨some 35, .mov (.tmp 33), none⟩,
    ⟨some 36, .ixs 1 (.tmp 31) (.tmp 33), none⟩,
    ⟨some 37, .ld (.tmp 36), none⟩,
    ⟨some 6, .mov (.tmp 35), none⟩,
    ⟨some 7, .mov (.tmp 37), none⟩])
    (.seq (.region [
    ⟨some 39, .mov (.tmp 7), none⟩,
    ⟨some 40, .call 56 [(.tmp 39)], none⟩,
    ⟨some 38, .mov (.tmp 40), none⟩,
    ⟨some 41, .ext (.tmp 38) 0, none⟩,
    ⟨some 42, .ext (.tmp 38) 1, none⟩,
    ⟨some 8, .mov (.tmp 41), none⟩,
    ⟨some 9, .mov (.tmp 42), none⟩])
    (.seq (.region [
    ⟨some 43, .mov (.tmp 9), none⟩,
    ⟨some 44, .bin .neq (.tmp 43) (.const (.int .i64 0)), none⟩])
    (.cond (.tmp 44)
     (.seq (.region [
     ⟨some 45, .mov (.tmp 6), none⟩,
     ⟨some 46, .mov (.tmp 8), none⟩,
     ⟨some 47, .mov (.tmp 9), none⟩,
     ⟨some 2, .mov (.tmp 45), none⟩,
     ⟨some 3, .mov (.tmp 46), none⟩,
     ⟨some 4, .mov (.tmp 47), none⟩])
     .ret)
     .skip)))))
   (.region [
   ⟨some 48, .bin .add (.tmp 33) (.const (.int .i64 1)), none⟩,
   ⟨some 33, .mov (.tmp 48), none⟩])))))))
 (.seq (.seq (.region [
 ⟨some 49, .fad 15 (.tmp 1), none⟩,
 ⟨some 50, .ld (.tmp 49), none⟩,
 ⟨some 51, .len (.tmp 50), none⟩,
 ⟨some 52, .bin .gtr (.tmp 51) (.const (.int .i64 65536)), none⟩])
 (.cond (.tmp 52)
  (.seq (.region [
  ⟨some 2, .mov (.const (.int .i64 0)), none⟩,
  ⟨some 3, .mov (.const (.int .i64 0)), none⟩,
  ⟨some 4, .mov (.const (.int .i64 56)), none⟩])
  .ret)
  .skip))
 (.seq (.seq (.region [
 ⟨some 53, .fad 15 (.tmp 1), none⟩,
 ⟨some 54, .ld (.tmp 53), none⟩,
 ⟨some 55, .len (.tmp 54), none⟩,
 ⟨some 56, .mov (.const (.int .i64 0)), none⟩])
 (.block 2
  (.loop 4722294425275607288860
   (.seq (.region [
   ⟨some 57, .bin .lss (.tmp 56) (.tmp 55), none⟩])
   (.seq (.cond (.tmp 57)
    .skip
    (.exit 2))
   (.seq (.block 3
    (.seq (.region [
    ⟨some 58, .mov (.tmp 56), none⟩,
    ⟨some 59, .ixs 1 (.tmp 54) (.tmp 56), none⟩,
    ⟨some 60, .ld (.tmp 59), none⟩,
    ⟨some 10, .mov (.tmp 58), none⟩,
    ⟨some 11, .mov (.tmp 60), none⟩])
    (.seq (.region [
    ⟨some 61, .mov (.tmp 11), none⟩,
    ⟨some 62, .bin .lss (.tmp 61) (.const (.int .i64 0)), none⟩,
    ⟨some 63, .mov (.tmp 62), none⟩,
    ⟨some 64, .mov (.tmp 11), some (63, false)⟩,
    ⟨some 65, .fad 14 (.tmp 1), some (63, false)⟩,
    ⟨some 66, .ld (.tmp 65), some (63, false)⟩,
    ⟨some 67, .len (.tmp 66), some (63, false)⟩,
    ⟨some 68, .bin .geq (.tmp 64) (.tmp 67), some (63, false)⟩,
    ⟨some 69, .pick (.tmp 63) (.const (.bool true)) (.tmp 68), none⟩])
    (.cond (.tmp 69)
     (.seq (.region [
     ⟨some 70, .mov (.tmp 10), none⟩,
     ⟨some 2, .mov (.const (.int .i64 0)), none⟩,
     ⟨some 3, .mov (.tmp 70), none⟩,
     ⟨some 4, .mov (.const (.int .i64 56)), none⟩])
     .ret)
     .skip))))
   (.region [
   ⟨some 71, .bin .add (.tmp 56) (.const (.int .i64 1)), none⟩,
   ⟨some 56, .mov (.tmp 71), none⟩])))))))
 (.seq (.region [
 ⟨some 2, .mov (.const (.int .i64 0)), none⟩,
 ⟨some 3, .mov (.const (.int .i64 0)), none⟩,
 ⟨some 4, .mov (.const (.int .i64 0)), none⟩])
 .ret)))))))),
 [.tmp 2, .tmp 3, .tmp 4]⟩
theorem low_layout_CheckScript : lowFn Tryz.prog movers 30 = some ⟨ir_layout_CheckScript.n, strip ir_layout_CheckScript.body, ir_layout_CheckScript.res⟩ := by kernel_rfl
def ir_layout_Check : IFn := ⟨70,
 (.seq (.region [
 ⟨some 1, .box 27 (.tmp 0), none⟩,
 ⟨some 2, .mov (.const (.int .i64 0)), none⟩])
 (.seq (.region [
 ⟨some 7, .ldN 13 (.tmp 1), none⟩,
 ⟨some 8, .call 80 [(.tmp 7)], none⟩,
 ⟨some 6, .mov (.tmp 8), none⟩,
 ⟨some 9, .ext (.tmp 6) 0, none⟩,
 ⟨some 10, .ext (.tmp 6) 1, none⟩,
 ⟨some 11, .ext (.tmp 6) 2, none⟩,
 ⟨some 3, .mov (.tmp 9), none⟩,
 ⟨some 4, .mov (.tmp 10), none⟩,
 ⟨some 5, .mov (.tmp 11), none⟩])
 (.seq (.block 0
  (.seq (.region [
  ⟨some 13, .fad 0 (.tmp 1), none⟩,
  ⟨some 14, .ld (.tmp 13), none⟩,
  ⟨some 15, .call 55 [(.tmp 14), (.const (.int .i64 1)), (.const (.int .i64 64))], none⟩,
  ⟨some 16, .not (.tmp 15), none⟩,
  ⟨some 17, .mov (.tmp 16), none⟩,
  ⟨some 18, .fad 1 (.tmp 1), some (17, false)⟩,
  ⟨some 19, .ld (.tmp 18), some (17, false)⟩,
  ⟨some 20, .call 55 [(.tmp 19), (.const (.int .i64 1)), (.const (.int .i64 64))], some (17, false)⟩,
  ⟨some 21, .not (.tmp 20), some (17, false)⟩,
  ⟨some 22, .pick (.tmp 17) (.const (.bool true)) (.tmp 21), none⟩,
  ⟨some 12, .mov (.tmp 22), none⟩])
  (.cond (.tmp 12)
   (.seq (.region [
   ⟨some 2, .mov (.const (.int .i64 50)), none⟩])
   .ret)
   (.seq (.region [
   ⟨some 24, .mov (.tmp 5), none⟩,
   ⟨some 25, .not (.tmp 24), none⟩,
   ⟨some 26, .mov (.tmp 25), none⟩,
   ⟨some 27, .fad 2 (.tmp 1), some (26, false)⟩,
   ⟨some 28, .ld (.tmp 27), some (26, false)⟩,
   ⟨some 29, .fad 0 (.tmp 1), some (26, false)⟩,
   ⟨some 30, .ld (.tmp 29), some (26, false)⟩,
   ⟨some 31, .call 55 [(.tmp 28), (.const (.int .i64 0)), (.tmp 30)], some (26, false)⟩,
   ⟨some 32, .not (.tmp 31), some (26, false)⟩,
   ⟨some 33, .pick (.tmp 26) (.const (.bool true)) (.tmp 32), none⟩,
   ⟨some 34, .mov (.tmp 33), none⟩,
   ⟨some 35, .mov (.tmp 4), some (34, false)⟩,
   ⟨some 36, .fad 0 (.tmp 1), some (34, false)⟩,
   ⟨some 37, .ld (.tmp 36), some (34, false)⟩,
   ⟨some 38, .fad 2 (.tmp 1), some (34, false)⟩,
   ⟨some 39, .ld (.tmp 38), some (34, false)⟩,
   ⟨some 40, .bin .sub (.tmp 37) (.tmp 39), some (34, false)⟩,
   ⟨some 41, .bin .gtr (.tmp 35) (.tmp 40), some (34, false)⟩,
   ⟨some 42, .pick (.tmp 34) (.const (.bool true)) (.tmp 41), none⟩,
   ⟨some 23, .mov (.tmp 42), none⟩])
   (.cond (.tmp 23)
    (.seq (.region [
    ⟨some 2, .mov (.const (.int .i64 51)), none⟩])
    .ret)
    (.seq (.region [
    ⟨some 44, .fad 7 (.tmp 1), none⟩,
    ⟨some 45, .ld (.tmp 44), none⟩,
    ⟨some 46, .call 55 [(.tmp 45), (.const (.int .i64 1)), (.const (.int .i64 32))], none⟩,
    ⟨some 47, .not (.tmp 46), none⟩,
    ⟨some 48, .mov (.tmp 47), none⟩,
    ⟨some 49, .fad 8 (.tmp 1), some (48, false)⟩,
    ⟨some 50, .ld (.tmp 49), some (48, false)⟩,
    ⟨some 51, .call 55 [(.tmp 50), (.const (.int .i64 1)), (.const (.int .i64 32))], some (48, false)⟩,
    ⟨some 52, .not (.tmp 51), some (48, false)⟩,
    ⟨some 53, .pick (.tmp 48) (.const (.bool true)) (.tmp 52), none⟩,
    ⟨some 43, .mov (.tmp 53), none⟩])
    (.cond (.tmp 43)
     (.seq (.region [
     ⟨some 2, .mov (.const (.int .i64 52)), none⟩])
     .ret)
     (.seq (.region [
     ⟨some 55, .fad 9 (.tmp 1), none⟩,
     ⟨some 56, .ld (.tmp 55), none⟩,
     ⟨some 57, .call 55 [(.tmp 56), (.const (.int .i64 0)), (.const (.int .i64 8))], none⟩,
     ⟨some 58, .not (.tmp 57), none⟩,
     ⟨some 59, .mov (.tmp 58), none⟩,
     ⟨some 60, .fad 10 (.tmp 1), some (59, false)⟩,
     ⟨some 61, .ld (.tmp 60), some (59, false)⟩,
     ⟨some 62, .call 55 [(.tmp 61), (.const (.int .i64 0)), (.const (.int .i64 8))], some (59, false)⟩,
     ⟨some 63, .not (.tmp 62), some (59, false)⟩,
     ⟨some 64, .pick (.tmp 59) (.const (.bool true)) (.tmp 63), none⟩,
     ⟨some 54, .mov (.tmp 64), none⟩])
     (.cond (.tmp 54)
      (.seq (.region [
      ⟨some 2, .mov (.const (.int .i64 52)), none⟩])
      .ret)
      (.seq (.region [
      ⟨some 66, .fad 11 (.tmp 1), none⟩,
      ⟨some 67, .ld (.tmp 66), none⟩,
      ⟨some 68, .call 55 [(.tmp 67), (.const (.int .i64 0)), (.const (.int .i64 1099511627776))], none⟩,
      ⟨some 69, .not (.tmp 68), none⟩,
      ⟨some 65, .mov (.tmp 69), none⟩])
      (.cond (.tmp 65)
       (.seq (.region [
       ⟨some 2, .mov (.const (.int .i64 53)), none⟩])
       .ret)
       .skip)))))))))))
 (.seq (.region [
 ⟨some 2, .mov (.const (.int .i64 0)), none⟩])
 .ret)))),
 [.tmp 2]⟩
theorem low_layout_Check : lowFn Tryz.prog movers 54 = some ⟨ir_layout_Check.n, strip ir_layout_Check.body, ir_layout_Check.res⟩ := by kernel_rfl
def ir_layout_within : IFn := ⟨15,
 (.seq (.region [
 ⟨some 6, .mov (.const (.bool false)), none⟩])
 (.seq (.region [
 ⟨some 7, .mov (.tmp 0), none⟩,
 ⟨some 8, .mov (.tmp 1), none⟩,
 ⟨some 9, .bin .geq (.tmp 7) (.tmp 8), none⟩,
 ⟨some 10, .mov (.tmp 9), none⟩,
 ⟨some 11, .mov (.tmp 0), some (10, true)⟩,
 ⟨some 12, .mov (.tmp 2), some (10, true)⟩,
 ⟨some 13, .bin .leq (.tmp 11) (.tmp 12), some (10, true)⟩,
 ⟨some 14, .pick (.tmp 10) (.tmp 13) (.const (.bool false)), none⟩,
 ⟨some 6, .mov (.tmp 14), none⟩])
 .ret)),
 [.tmp 6]⟩
theorem low_layout_within : lowFn Tryz.prog movers 55 = some ⟨ir_layout_within.n, strip ir_layout_within.body, ir_layout_within.res⟩ := by kernel_rfl
def ir_layout_heap : IFn := ⟨32,
 (.seq (.region [
 ⟨some 1, .box 27 (.tmp 0), none⟩,
 ⟨some 2, .mov (.const (.int .i64 0)), none⟩,
 ⟨some 3, .mov (.const (.int .i64 0)), none⟩,
 ⟨some 4, .mov (.const (.bool false)), none⟩])
 (.seq (.seq (.region [
 ⟨some 7, .fad 3 (.tmp 1), none⟩,
 ⟨some 8, .ldN 4 (.tmp 7), none⟩,
 ⟨some 9, .mov (.const (.int .i64 0)), none⟩])
 (.block 0
  (.loop 268435068
   (.seq (.region [
   ⟨some 10, .bin .lss (.tmp 9) (.const (.int .i64 4)), none⟩])
   (.seq (.cond (.tmp 10)
    .skip
    (.exit 0))
   (.seq (.block 1
    (.seq (.region [
    ⟨some 11, .mov (.tmp 9), none⟩,
    ⟨some 12, .idx 4 (.tmp 8) (.tmp 9), none⟩,
    ⟨some 5, .mov (.tmp 11), none⟩,
    ⟨some 6, .mov (.tmp 12), none⟩])
    (.seq (.seq (.region [
    ⟨some 13, .mov (.tmp 6), none⟩,
    ⟨some 14, .bin .lss (.tmp 13) (.const (.int .i64 0)), none⟩,
    ⟨some 15, .mov (.tmp 14), none⟩,
    ⟨some 16, .mov (.tmp 6), some (15, false)⟩,
    ⟨some 17, .bin .gtr (.tmp 16) (.const (.int .i64 64)), some (15, false)⟩,
    ⟨some 18, .pick (.tmp 15) (.const (.bool true)) (.tmp 17), none⟩])
    (.cond (.tmp 18)
     (.seq (.region [
     ⟨some 2, .mov (.const (.int .i64 0)), none⟩,
     ⟨some 3, .mov (.const (.int .i64 0)), none⟩,
     ⟨some 4, .mov (.const (.bool false)), none⟩])
     .ret)
     .skip))
    (.seq (.region [
    ⟨some 19, .mov (.tmp 2), none⟩,
    ⟨some 20, .mov (.tmp 6), none⟩,
    ⟨some 21, .bin .add (.tmp 19) (.tmp 20), none⟩,
    ⟨some 2, .mov (.tmp 21), none⟩])
    (.region [
    ⟨some 22, .mov (.tmp 3), none⟩,
    ⟨some 23, .mov (.tmp 6), none⟩,
    ⟨some 24, .mov (.tmp 5), none⟩,
    ⟨some 25, .bin .shl (.tmp 23) (.tmp 24), none⟩,
    ⟨some 26, .bin .add (.tmp 22) (.tmp 25), none⟩,
    ⟨some 3, .mov (.tmp 26), none⟩])))))
   (.region [
   ⟨some 27, .bin .add (.tmp 9) (.const (.int .i64 1)), none⟩,
   ⟨some 9, .mov (.tmp 27), none⟩])))))))
 (.seq (.region [
 ⟨some 28, .mov (.tmp 2), none⟩,
 ⟨some 29, .mov (.tmp 3), none⟩,
 ⟨some 30, .mov (.tmp 2), none⟩,
 ⟨some 31, .bin .leq (.tmp 30) (.const (.int .i64 64)), none⟩,
 ⟨some 2, .mov (.tmp 28), none⟩,
 ⟨some 3, .mov (.tmp 29), none⟩,
 ⟨some 4, .mov (.tmp 31), none⟩])
 .ret))),
 [.tmp 2, .tmp 3, .tmp 4]⟩
theorem low_layout_heap : lowFn Tryz.prog movers 80 = some ⟨ir_layout_heap.n, strip ir_layout_heap.body, ir_layout_heap.res⟩ := by kernel_rfl
def ir_layout_Find : IFn := ⟨19,
 (.seq (.region [
 ⟨some 2, .box 27 (.tmp 0), none⟩,
 ⟨some 4, .mov (.const (.int .i64 0)), none⟩])
 (.seq (.seq (.region [
 ⟨some 6, .ldN 13 (.tmp 2), none⟩,
 ⟨some 7, .call 129 [(.tmp 6)], none⟩,
 ⟨some 8, .mov (.const (.int .i64 0)), none⟩])
 (.block 0
  (.loop 524080
   (.seq (.region [
   ⟨some 9, .bin .lss (.tmp 8) (.tmp 7), none⟩])
   (.seq (.cond (.tmp 9)
    .skip
    (.exit 0))
   (.seq (.block 1
    (.seq (.region [
    ⟨some 10, .mov (.tmp 8), none⟩,
    ⟨some 5, .mov (.tmp 10), none⟩])
    (.seq (.region [
    ⟨some 11, .ldN 13 (.tmp 2), none⟩,
    ⟨some 12, .mov (.tmp 5), none⟩,
    ⟨some 13, .call 130 [(.tmp 11), (.tmp 12)], none⟩,
    ⟨some 14, .conv .u64 (.tmp 13), none⟩,
    ⟨some 15, .mov (.tmp 1), none⟩,
    ⟨some 16, .bin .eql (.tmp 14) (.tmp 15), none⟩])
    (.cond (.tmp 16)
     (.seq (.region [
     ⟨some 17, .mov (.tmp 5), none⟩,
     ⟨some 4, .mov (.tmp 17), none⟩])
     .ret)
     .skip))))
   (.region [
   ⟨some 18, .bin .add (.tmp 8) (.const (.int .i64 1)), none⟩,
   ⟨some 8, .mov (.tmp 18), none⟩])))))))
 (.seq (.region [
 ⟨some 4, .mov (.const (.int .i64 (-1))), none⟩])
 .ret))),
 [.tmp 4]⟩
theorem low_layout_Find : lowFn Tryz.prog movers 120 = some ⟨ir_layout_Find.n, strip ir_layout_Find.body, ir_layout_Find.res⟩ := by kernel_rfl
def ir_layout_Class : IFn := ⟨14,
 (.seq (.region [
 ⟨some 2, .box 27 (.tmp 0), none⟩,
 ⟨some 4, .mov (.const (.int .i64 0)), none⟩])
 (.seq (.region [
 ⟨some 8, .ldN 13 (.tmp 2), none⟩,
 ⟨some 9, .mov (.tmp 1), none⟩,
 ⟨some 10, .call 131 [(.tmp 8), (.tmp 9)], none⟩,
 ⟨some 7, .mov (.tmp 10), none⟩,
 ⟨some 11, .ext (.tmp 7) 0, none⟩,
 ⟨some 12, .ext (.tmp 7) 1, none⟩,
 ⟨some 5, .mov (.tmp 11), none⟩,
 ⟨some 6, .mov (.tmp 12), none⟩])
 (.seq (.region [
 ⟨some 13, .mov (.tmp 5), none⟩,
 ⟨some 4, .mov (.tmp 13), none⟩])
 .ret))),
 [.tmp 4]⟩
theorem low_layout_Class : lowFn Tryz.prog movers 121 = some ⟨ir_layout_Class.n, strip ir_layout_Class.body, ir_layout_Class.res⟩ := by kernel_rfl
def ir_layout_Blocks : IFn := ⟨16,
 (.seq (.region [
 ⟨some 1, .box 27 (.tmp 0), none⟩,
 ⟨some 2, .mov (.const (.int .i64 0)), none⟩])
 (.seq (.seq (.region [
 ⟨some 6, .ldN 13 (.tmp 1), none⟩,
 ⟨some 7, .call 54 [(.tmp 6)], none⟩,
 ⟨some 8, .bin .neq (.tmp 7) (.const (.int .i64 0)), none⟩])
 (.cond (.tmp 8)
  (.seq (.region [
  ⟨some 2, .mov (.const (.int .i64 0)), none⟩])
  .ret)
  .skip))
 (.seq (.region [
 ⟨some 10, .ldN 13 (.tmp 1), none⟩,
 ⟨some 11, .call 80 [(.tmp 10)], none⟩,
 ⟨some 9, .mov (.tmp 11), none⟩,
 ⟨some 12, .ext (.tmp 9) 0, none⟩,
 ⟨some 13, .ext (.tmp 9) 1, none⟩,
 ⟨some 14, .ext (.tmp 9) 2, none⟩,
 ⟨some 3, .mov (.tmp 12), none⟩,
 ⟨some 4, .mov (.tmp 13), none⟩,
 ⟨some 5, .mov (.tmp 14), none⟩])
 (.seq (.region [
 ⟨some 15, .mov (.tmp 3), none⟩,
 ⟨some 2, .mov (.tmp 15), none⟩])
 .ret)))),
 [.tmp 2]⟩
theorem low_layout_Blocks : lowFn Tryz.prog movers 129 = some ⟨ir_layout_Blocks.n, strip ir_layout_Blocks.body, ir_layout_Blocks.res⟩ := by kernel_rfl
def ir_layout_First : IFn := ⟨14,
 (.seq (.region [
 ⟨some 2, .box 27 (.tmp 0), none⟩,
 ⟨some 4, .mov (.const (.int .i64 0)), none⟩])
 (.seq (.region [
 ⟨some 8, .ldN 13 (.tmp 2), none⟩,
 ⟨some 9, .mov (.tmp 1), none⟩,
 ⟨some 10, .call 131 [(.tmp 8), (.tmp 9)], none⟩,
 ⟨some 7, .mov (.tmp 10), none⟩,
 ⟨some 11, .ext (.tmp 7) 0, none⟩,
 ⟨some 12, .ext (.tmp 7) 1, none⟩,
 ⟨some 5, .mov (.tmp 11), none⟩,
 ⟨some 6, .mov (.tmp 12), none⟩])
 (.seq (.region [
 ⟨some 13, .mov (.tmp 6), none⟩,
 ⟨some 4, .mov (.tmp 13), none⟩])
 .ret))),
 [.tmp 4]⟩
theorem low_layout_First : lowFn Tryz.prog movers 130 = some ⟨ir_layout_First.n, strip ir_layout_First.body, ir_layout_First.res⟩ := by kernel_rfl
def ir_layout_locate : IFn := ⟨41,
 (.seq (.region [
 ⟨some 2, .box 27 (.tmp 0), none⟩,
 ⟨some 4, .mov (.const (.int .i64 0)), none⟩,
 ⟨some 5, .mov (.const (.int .i64 0)), none⟩])
 (.seq (.seq (.region [
 ⟨some 8, .ldN 13 (.tmp 2), none⟩,
 ⟨some 9, .call 54 [(.tmp 8)], none⟩,
 ⟨some 10, .bin .neq (.tmp 9) (.const (.int .i64 0)), none⟩,
 ⟨some 11, .mov (.tmp 10), none⟩,
 ⟨some 12, .mov (.tmp 1), some (11, false)⟩,
 ⟨some 13, .bin .lss (.tmp 12) (.const (.int .i64 0)), some (11, false)⟩,
 ⟨some 14, .pick (.tmp 11) (.const (.bool true)) (.tmp 13), none⟩])
 (.cond (.tmp 14)
  (.seq (.region [
  ⟨some 4, .mov (.const (.int .i64 (-1))), none⟩,
  ⟨some 5, .mov (.const (.int .i64 (-1))), none⟩])
  .ret)
  .skip))
 (.seq (.region [
 ⟨some 15, .fad 2 (.tmp 2), none⟩,
 ⟨some 16, .ld (.tmp 15), none⟩,
 ⟨some 5, .mov (.tmp 16), none⟩])
 (.seq (.seq (.region [
 ⟨some 17, .fad 3 (.tmp 2), none⟩,
 ⟨some 18, .ldN 4 (.tmp 17), none⟩,
 ⟨some 19, .mov (.const (.int .i64 0)), none⟩])
 (.block 0
  (.loop 2199022731506
   (.seq (.region [
   ⟨some 20, .bin .lss (.tmp 19) (.const (.int .i64 4)), none⟩])
   (.seq (.cond (.tmp 20)
    .skip
    (.exit 0))
   (.seq (.block 1
    (.seq (.region [
    ⟨some 21, .mov (.tmp 19), none⟩,
    ⟨some 22, .idx 4 (.tmp 18) (.tmp 19), none⟩,
    ⟨some 6, .mov (.tmp 21), none⟩,
    ⟨some 7, .mov (.tmp 22), none⟩])
    (.seq (.seq (.region [
    ⟨some 23, .mov (.tmp 1), none⟩,
    ⟨some 24, .mov (.tmp 7), none⟩,
    ⟨some 25, .bin .lss (.tmp 23) (.tmp 24), none⟩])
    (.cond (.tmp 25)
     (.seq (.draw (.f ⟨some 26, .mov (.tmp 6), none⟩
     (.f ⟨some 27, .mov (.tmp 5), none⟩
     (.f ⟨some 28, .mov (.tmp 1), none⟩
     (.f ⟨some 29, .mov (.tmp 6), none⟩
     (.f ⟨some 30, .bin .shl (.tmp 28) (.tmp 29), none⟩
     (.f ⟨some 31, .bin .add (.tmp 27) (.tmp 30), none⟩
     (.f ⟨some 4, .mov (.tmp 26), none⟩
     (.f ⟨some 5, .mov (.tmp 31), none⟩
     .done)))))))))
     .ret)
     .skip))
    (.seq (.region [
    ⟨some 32, .mov (.tmp 1), none⟩,
    ⟨some 33, .mov (.tmp 7), none⟩,
    ⟨some 34, .bin .sub (.tmp 32) (.tmp 33), none⟩,
    ⟨some 1, .mov (.tmp 34), none⟩])
    (.region [
    ⟨some 35, .mov (.tmp 5), none⟩,
    ⟨some 36, .mov (.tmp 7), none⟩,
    ⟨some 37, .mov (.tmp 6), none⟩,
    ⟨some 38, .bin .shl (.tmp 36) (.tmp 37), none⟩,
    ⟨some 39, .bin .add (.tmp 35) (.tmp 38), none⟩,
    ⟨some 5, .mov (.tmp 39), none⟩])))))
   (.region [
   ⟨some 40, .bin .add (.tmp 19) (.const (.int .i64 1)), none⟩,
   ⟨some 19, .mov (.tmp 40), none⟩])))))))
 (.seq (.region [
 ⟨some 4, .mov (.const (.int .i64 (-1))), none⟩,
 ⟨some 5, .mov (.const (.int .i64 (-1))), none⟩])
 .ret))))),
 [.tmp 4, .tmp 5]⟩
theorem low_layout_locate : lowFn Tryz.prog movers 131 = some ⟨ir_layout_locate.n, strip ir_layout_locate.body, ir_layout_locate.res⟩ := by kernel_rfl
end Go.Proofs.YtfompmhncnkcfaaGreatDoor
namespace Go.Proofs.YtfompmhncnkcfaaGreatDoor
open Go
set_option maxRecDepth 100000
def ir_ref07_Blocks : IFn := ⟨21,
 (.seq (.region [
 ⟨some 1, .box 27 (.tmp 0), none⟩,
 ⟨some 2, .mov (.const (.int .i64 0)), none⟩])
 (.seq (.seq (.region [
 ⟨some 3, .ldN 13 (.tmp 1), none⟩,
 ⟨some 4, .call 49 [(.tmp 3)], none⟩,
 ⟨some 5, .bin .neq (.tmp 4) (.const (.int .i64 0)), none⟩])
 (.cond (.tmp 5)
  (.seq (.region [
  ⟨some 2, .mov (.const (.int .i64 0)), none⟩])
  .ret)
  .skip))
 (.seq (.region [
 ⟨some 6, .fad 3 (.tmp 1), none⟩,
 ⟨some 7, .ixa 4 1 (.tmp 6) (.const (.int .i64 0)), none⟩,
 ⟨some 8, .ld (.tmp 7), none⟩,
 ⟨some 9, .fad 3 (.tmp 1), none⟩,
 ⟨some 10, .ixa 4 1 (.tmp 9) (.const (.int .i64 1)), none⟩,
 ⟨some 11, .ld (.tmp 10), none⟩,
 ⟨some 12, .bin .add (.tmp 8) (.tmp 11), none⟩,
 ⟨some 13, .fad 3 (.tmp 1), none⟩,
 ⟨some 14, .ixa 4 1 (.tmp 13) (.const (.int .i64 2)), none⟩,
 ⟨some 15, .ld (.tmp 14), none⟩,
 ⟨some 16, .bin .add (.tmp 12) (.tmp 15), none⟩,
 ⟨some 17, .fad 3 (.tmp 1), none⟩,
 ⟨some 18, .ixa 4 1 (.tmp 17) (.const (.int .i64 3)), none⟩,
 ⟨some 19, .ld (.tmp 18), none⟩,
 ⟨some 20, .bin .add (.tmp 16) (.tmp 19), none⟩,
 ⟨some 2, .mov (.tmp 20), none⟩])
 .ret))),
 [.tmp 2]⟩
theorem low_ref07_Blocks : lowFn Tryz.prog movers 35 = some ⟨ir_ref07_Blocks.n, strip ir_ref07_Blocks.body, ir_ref07_Blocks.res⟩ := by kernel_rfl
def ir_ref07_Check : IFn := ⟨85,
 (.seq (.region [
 ⟨some 1, .box 27 (.tmp 0), none⟩,
 ⟨some 2, .mov (.const (.int .i64 0)), none⟩])
 (.seq (.seq (.region [
 ⟨some 6, .fad 0 (.tmp 1), none⟩,
 ⟨some 7, .ld (.tmp 6), none⟩,
 ⟨some 8, .call 73 [(.tmp 7), (.const (.int .i64 1)), (.const (.int .i64 64))], none⟩,
 ⟨some 9, .not (.tmp 8), none⟩,
 ⟨some 10, .mov (.tmp 9), none⟩,
 ⟨some 11, .fad 1 (.tmp 1), some (10, false)⟩,
 ⟨some 12, .ld (.tmp 11), some (10, false)⟩,
 ⟨some 13, .call 73 [(.tmp 12), (.const (.int .i64 1)), (.const (.int .i64 64))], some (10, false)⟩,
 ⟨some 14, .not (.tmp 13), some (10, false)⟩,
 ⟨some 15, .pick (.tmp 10) (.const (.bool true)) (.tmp 14), none⟩])
 (.cond (.tmp 15)
  (.seq (.region [
  ⟨some 2, .mov (.const (.int .i64 50)), none⟩])
  .ret)
  .skip))
 (.seq (.region [
 ⟨some 3, .mov (.const (.int .i64 0)), none⟩,
 ⟨some 4, .mov (.const (.int .i64 0)), none⟩])
 (.seq (.seq (.region [
 ⟨some 5, .mov (.const (.int .i64 0)), none⟩])
 (.block 0
  (.loop 1099511562300
   (.seq (.seq (.region [
   ⟨some 16, .mov (.tmp 5), none⟩,
   ⟨some 17, .bin .lss (.tmp 16) (.const (.int .i64 4)), none⟩])
   (.cond (.tmp 17)
    .skip
    (.exit 0)))
   (.seq (.block 1
    (.seq (.seq (.region [
    ⟨some 20, .mov (.tmp 5), none⟩,
    ⟨some 21, .fad 3 (.tmp 1), none⟩,
    ⟨some 22, .ixa 4 1 (.tmp 21) (.tmp 20), none⟩,
    ⟨some 23, .ld (.tmp 22), none⟩,
    ⟨some 24, .call 73 [(.tmp 23), (.const (.int .i64 0)), (.const (.int .i64 64))], none⟩,
    ⟨some 25, .not (.tmp 24), none⟩])
    (.cond (.tmp 25)
     (.seq (.region [
     ⟨some 2, .mov (.const (.int .i64 51)), none⟩])
     .ret)
     .skip))
    (.seq (.region [
    ⟨some 26, .mov (.tmp 3), none⟩,
    ⟨some 27, .mov (.tmp 5), none⟩,
    ⟨some 28, .fad 3 (.tmp 1), none⟩,
    ⟨some 29, .ixa 4 1 (.tmp 28) (.tmp 27), none⟩,
    ⟨some 30, .ld (.tmp 29), none⟩,
    ⟨some 31, .bin .add (.tmp 26) (.tmp 30), none⟩,
    ⟨some 3, .mov (.tmp 31), none⟩])
    (.region [
    ⟨some 32, .mov (.tmp 4), none⟩,
    ⟨some 33, .mov (.tmp 5), none⟩,
    ⟨some 34, .fad 3 (.tmp 1), none⟩,
    ⟨some 35, .ixa 4 1 (.tmp 34) (.tmp 33), none⟩,
    ⟨some 36, .ld (.tmp 35), none⟩,
    ⟨some 37, .mov (.tmp 5), none⟩,
    ⟨some 38, .bin .shl (.tmp 36) (.tmp 37), none⟩,
    ⟨some 39, .bin .add (.tmp 32) (.tmp 38), none⟩,
    ⟨some 4, .mov (.tmp 39), none⟩]))))
   (.region [
   ⟨some 18, .mov (.tmp 5), none⟩,
   ⟨some 19, .bin .add (.tmp 18) (.const (.int .i64 1)), none⟩,
   ⟨some 5, .mov (.tmp 19), none⟩]))))))
 (.seq (.seq (.region [
 ⟨some 40, .mov (.tmp 3), none⟩,
 ⟨some 41, .bin .gtr (.tmp 40) (.const (.int .i64 64)), none⟩,
 ⟨some 42, .mov (.tmp 41), none⟩,
 ⟨some 43, .fad 2 (.tmp 1), some (42, false)⟩,
 ⟨some 44, .ld (.tmp 43), some (42, false)⟩,
 ⟨some 45, .fad 0 (.tmp 1), some (42, false)⟩,
 ⟨some 46, .ld (.tmp 45), some (42, false)⟩,
 ⟨some 47, .call 73 [(.tmp 44), (.const (.int .i64 0)), (.tmp 46)], some (42, false)⟩,
 ⟨some 48, .not (.tmp 47), some (42, false)⟩,
 ⟨some 49, .pick (.tmp 42) (.const (.bool true)) (.tmp 48), none⟩,
 ⟨some 50, .mov (.tmp 49), none⟩,
 ⟨some 51, .fad 2 (.tmp 1), some (50, false)⟩,
 ⟨some 52, .ld (.tmp 51), some (50, false)⟩,
 ⟨some 53, .mov (.tmp 4), some (50, false)⟩,
 ⟨some 54, .bin .add (.tmp 52) (.tmp 53), some (50, false)⟩,
 ⟨some 55, .fad 0 (.tmp 1), some (50, false)⟩,
 ⟨some 56, .ld (.tmp 55), some (50, false)⟩,
 ⟨some 57, .bin .gtr (.tmp 54) (.tmp 56), some (50, false)⟩,
 ⟨some 58, .pick (.tmp 50) (.const (.bool true)) (.tmp 57), none⟩])
 (.cond (.tmp 58)
  (.seq (.region [
  ⟨some 2, .mov (.const (.int .i64 51)), none⟩])
  .ret)
  .skip))
 (.seq (.seq (.region [
 ⟨some 59, .fad 7 (.tmp 1), none⟩,
 ⟨some 60, .ld (.tmp 59), none⟩,
 ⟨some 61, .call 73 [(.tmp 60), (.const (.int .i64 1)), (.const (.int .i64 32))], none⟩,
 ⟨some 62, .not (.tmp 61), none⟩,
 ⟨some 63, .mov (.tmp 62), none⟩,
 ⟨some 64, .fad 8 (.tmp 1), some (63, false)⟩,
 ⟨some 65, .ld (.tmp 64), some (63, false)⟩,
 ⟨some 66, .call 73 [(.tmp 65), (.const (.int .i64 1)), (.const (.int .i64 32))], some (63, false)⟩,
 ⟨some 67, .not (.tmp 66), some (63, false)⟩,
 ⟨some 68, .pick (.tmp 63) (.const (.bool true)) (.tmp 67), none⟩,
 ⟨some 69, .mov (.tmp 68), none⟩,
 ⟨some 70, .fad 9 (.tmp 1), some (69, false)⟩,
 ⟨some 71, .ld (.tmp 70), some (69, false)⟩,
 ⟨some 72, .call 73 [(.tmp 71), (.const (.int .i64 0)), (.const (.int .i64 8))], some (69, false)⟩,
 ⟨some 73, .not (.tmp 72), some (69, false)⟩,
 ⟨some 74, .pick (.tmp 69) (.const (.bool true)) (.tmp 73), none⟩,
 ⟨some 75, .mov (.tmp 74), none⟩,
 ⟨some 76, .fad 10 (.tmp 1), some (75, false)⟩,
 ⟨some 77, .ld (.tmp 76), some (75, false)⟩,
 ⟨some 78, .call 73 [(.tmp 77), (.const (.int .i64 0)), (.const (.int .i64 8))], some (75, false)⟩,
 ⟨some 79, .not (.tmp 78), some (75, false)⟩,
 ⟨some 80, .pick (.tmp 75) (.const (.bool true)) (.tmp 79), none⟩])
 (.cond (.tmp 80)
  (.seq (.region [
  ⟨some 2, .mov (.const (.int .i64 52)), none⟩])
  .ret)
  .skip))
 (.seq (.seq (.region [
 ⟨some 81, .fad 11 (.tmp 1), none⟩,
 ⟨some 82, .ld (.tmp 81), none⟩,
 ⟨some 83, .call 73 [(.tmp 82), (.const (.int .i64 0)), (.const (.int .i64 1099511627776))], none⟩,
 ⟨some 84, .not (.tmp 83), none⟩])
 (.cond (.tmp 84)
  (.seq (.region [
  ⟨some 2, .mov (.const (.int .i64 53)), none⟩])
  .ret)
  .skip))
 (.seq (.region [
 ⟨some 2, .mov (.const (.int .i64 0)), none⟩])
 .ret)))))))),
 [.tmp 2]⟩
theorem low_ref07_Check : lowFn Tryz.prog movers 49 = some ⟨ir_ref07_Check.n, strip ir_ref07_Check.body, ir_ref07_Check.res⟩ := by kernel_rfl
def ir_ref07_within : IFn := ⟨15,
 (.seq (.region [
 ⟨some 6, .mov (.const (.bool false)), none⟩])
 (.seq (.region [
 ⟨some 7, .mov (.tmp 0), none⟩,
 ⟨some 8, .mov (.tmp 1), none⟩,
 ⟨some 9, .bin .geq (.tmp 7) (.tmp 8), none⟩,
 ⟨some 10, .mov (.tmp 9), none⟩,
 ⟨some 11, .mov (.tmp 0), some (10, true)⟩,
 ⟨some 12, .mov (.tmp 2), some (10, true)⟩,
 ⟨some 13, .bin .leq (.tmp 11) (.tmp 12), some (10, true)⟩,
 ⟨some 14, .pick (.tmp 10) (.tmp 13) (.const (.bool false)), none⟩,
 ⟨some 6, .mov (.tmp 14), none⟩])
 .ret)),
 [.tmp 6]⟩
theorem low_ref07_within : lowFn Tryz.prog movers 73 = some ⟨ir_ref07_within.n, strip ir_ref07_within.body, ir_ref07_within.res⟩ := by kernel_rfl
end Go.Proofs.YtfompmhncnkcfaaGreatDoor
