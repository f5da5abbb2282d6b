/- What the laws share, part 10. No condition. -/
import Derived.Test.YtiimndcifcoofaaGreatDoorY9
namespace Go.Proofs.YtiimndcifcoofaaGreatDoor
open Go
set_option maxRecDepth 100000
def ir_asm_Assemble : IFn := ⟨85,
 (.seq (.region [
 ⟨some 2, .mov (.const (.slice none 0 0)), none⟩,
 ⟨some 3, .mov (.const (.int .i64 0)), none⟩,
 ⟨some 4, .mov (.const (.int .i64 0)), none⟩])
 (.seq (.seq (.region [
 ⟨some 13, .mov (.tmp 0), none⟩,
 ⟨some 14, .lens (.tmp 13), none⟩,
 ⟨some 15, .bin .gtr (.tmp 14) (.const (.int .i64 65536)), none⟩])
 (.cond (.tmp 15)
  (.seq (.region [
  ⟨some 2, .mov (.const (.slice none 0 0)), none⟩,
  ⟨some 3, .mov (.const (.int .i64 0)), none⟩,
  ⟨some 4, .mov (.const (.int .i64 3)), none⟩])
  .ret)
  .skip))
 (.seq (.region [
 ⟨some 16, .mkm, none⟩,
 ⟨some 17, .bld [(.slice none 0 0), (.map none), (.slice none 0 0)] [(1, 1, (.tmp 16))], none⟩,
 ⟨some 18, .box 71 (.tmp 17), none⟩,
 ⟨some 5, .mov (.tmp 18), none⟩])
 (.seq (.seq (.region [
 ⟨some 19, .mov (.tmp 0), none⟩,
 ⟨some 20, .call 49 [(.tmp 19)], none⟩,
 ⟨some 21, .len (.tmp 20), none⟩,
 ⟨some 22, .mov (.const (.int .i64 0)), none⟩])
 (.block 0
  (.loop 274873713116
   (.seq (.region [
   ⟨some 23, .bin .lss (.tmp 22) (.tmp 21), none⟩])
   (.seq (.cond (.tmp 23)
    .skip
    (.exit 0))
   (.seq (.block 1
    (.seq (.region [
    ⟨some 24, .mov (.tmp 22), none⟩,
    ⟨some 25, .ixs 1 (.tmp 20) (.tmp 22), none⟩,
    ⟨some 26, .ld (.tmp 25), none⟩,
    ⟨some 6, .mov (.tmp 24), none⟩,
    ⟨some 7, .mov (.tmp 26), none⟩])
    (.seq (.region [
    ⟨some 27, .mov (.tmp 5), none⟩,
    ⟨some 28, .mov (.tmp 7), none⟩,
    ⟨some 29, .mov (.tmp 6), none⟩,
    ⟨some 30, .bin .add (.tmp 29) (.const (.int .i64 1)), none⟩,
    ⟨some 31, .call 50 [(.tmp 27), (.tmp 28), (.tmp 30)], none⟩,
    ⟨some 8, .mov (.tmp 31), none⟩])
    (.seq (.region [
    ⟨some 32, .mov (.tmp 8), none⟩,
    ⟨some 33, .bin .neq (.tmp 32) (.const (.int .i64 0)), none⟩])
    (.cond (.tmp 33)
     (.seq (.region [
     ⟨some 34, .mov (.tmp 6), none⟩,
     ⟨some 35, .bin .add (.tmp 34) (.const (.int .i64 1)), none⟩,
     ⟨some 36, .mov (.tmp 8), none⟩,
     ⟨some 2, .mov (.const (.slice none 0 0)), none⟩,
     ⟨some 3, .mov (.tmp 35), none⟩,
     ⟨some 4, .mov (.tmp 36), none⟩])
     .ret)
     .skip)))))
   (.region [
   ⟨some 37, .bin .add (.tmp 22) (.const (.int .i64 1)), none⟩,
   ⟨some 22, .mov (.tmp 37), none⟩])))))))
 (.seq (.seq (.region [
 ⟨some 38, .mov (.tmp 5), none⟩,
 ⟨some 39, .nilc (.tmp 38), none⟩,
 ⟨some 40, .fad 2 (.tmp 39), none⟩,
 ⟨some 41, .ld (.tmp 40), none⟩,
 ⟨some 42, .len (.tmp 41), none⟩,
 ⟨some 43, .mov (.const (.int .i64 0)), none⟩])
 (.block 2
  (.loop 2417851639220462256397340
   (.seq (.region [
   ⟨some 44, .bin .lss (.tmp 43) (.tmp 42), none⟩])
   (.seq (.cond (.tmp 44)
    .skip
    (.exit 2))
   (.seq (.block 3
    (.seq (.region [
    ⟨some 45, .ixs 3 (.tmp 41) (.tmp 43), none⟩,
    ⟨some 46, .ldN 3 (.tmp 45), none⟩,
    ⟨some 10, .new 74 (.agg #[.int .i64 0, .int .i64 0, .string ⟨#[]⟩]), none⟩,
    ⟨none, .stN 3 (.tmp 10) (.tmp 46), none⟩])
    (.seq (.draw (.f ⟨some 48, .mov (.tmp 5), none⟩
    (.f ⟨some 49, .nilc (.tmp 48), none⟩
    (.f ⟨some 50, .fad 1 (.tmp 49), none⟩
    (.f ⟨some 51, .ld (.tmp 50), none⟩
    (.f ⟨some 52, .fad 2 (.tmp 10), none⟩
    (.f ⟨some 53, .ld (.tmp 52), none⟩
    (.f ⟨some 54, .mlk 2 (.int .i64 0) true (.tmp 51) (.tmp 53), none⟩
    (.f ⟨some 47, .mov (.tmp 54), none⟩
    (.f ⟨some 55, .ext (.tmp 47) 0, none⟩
    (.f ⟨some 56, .ext (.tmp 47) 1, none⟩
    (.f ⟨some 11, .mov (.tmp 55), none⟩
    (.f ⟨some 12, .mov (.tmp 56), none⟩
    .done)))))))))))))
    (.seq (.seq (.region [
    ⟨some 57, .mov (.tmp 12), none⟩,
    ⟨some 58, .not (.tmp 57), none⟩,
    ⟨some 59, .mov (.tmp 58), none⟩,
    ⟨some 60, .mov (.tmp 11), some (59, false)⟩,
    ⟨some 61, .fad 0 (.tmp 10), some (59, false)⟩,
    ⟨some 62, .ld (.tmp 61), some (59, false)⟩,
    ⟨some 63, .bin .leq (.tmp 60) (.tmp 62), some (59, false)⟩,
    ⟨some 64, .pick (.tmp 59) (.const (.bool true)) (.tmp 63), none⟩])
    (.cond (.tmp 64)
     (.seq (.draw (.f ⟨some 65, .fad 1 (.tmp 10), none⟩
     (.f ⟨some 66, .ld (.tmp 65), none⟩
     (.f ⟨some 2, .mov (.const (.slice none 0 0)), none⟩
     (.f ⟨some 3, .mov (.tmp 66), none⟩
     (.f ⟨some 4, .mov (.const (.int .i64 20)), none⟩
     .done))))))
     .ret)
     .skip))
    (.draw (.f ⟨some 67, .mov (.tmp 5), none⟩
    (.f ⟨some 68, .nilc (.tmp 67), none⟩
    (.f ⟨some 69, .fad 0 (.tmp 68), none⟩
    (.f ⟨some 70, .ld (.tmp 69), none⟩
    (.f ⟨some 71, .fad 0 (.tmp 10), none⟩
    (.f ⟨some 72, .ld (.tmp 71), none⟩
    (.f ⟨some 73, .mov (.tmp 11), none⟩
    (.f ⟨some 74, .fad 0 (.tmp 10), none⟩
    (.f ⟨some 75, .ld (.tmp 74), none⟩
    (.f ⟨some 76, .bin .sub (.tmp 73) (.tmp 75), none⟩
    (.f ⟨some 77, .bin .sub (.tmp 76) (.const (.int .i64 1)), none⟩
    (.f ⟨some 78, .ixs 5 (.tmp 70) (.tmp 72), none⟩
    (.f ⟨some 79, .fad 4 (.tmp 78), none⟩
    (.m ⟨none, .st (.tmp 79) (.tmp 77), none⟩
    .done)))))))))))))))))))
   (.region [
   ⟨some 80, .bin .add (.tmp 43) (.const (.int .i64 1)), none⟩,
   ⟨some 43, .mov (.tmp 80), none⟩])))))))
 (.seq (.region [
 ⟨some 81, .mov (.tmp 5), none⟩,
 ⟨some 82, .nilc (.tmp 81), none⟩,
 ⟨some 83, .fad 0 (.tmp 82), none⟩,
 ⟨some 84, .ld (.tmp 83), none⟩,
 ⟨some 2, .mov (.tmp 84), none⟩,
 ⟨some 3, .mov (.const (.int .i64 0)), none⟩,
 ⟨some 4, .mov (.const (.int .i64 0)), none⟩])
 .ret)))))),
 [.tmp 2, .tmp 3, .tmp 4]⟩
theorem low_asm_Assemble : lowFn Tryz.prog movers 24 = some ⟨ir_asm_Assemble.n, strip ir_asm_Assemble.body, ir_asm_Assemble.res⟩ := by kernel_rfl
def ir_asm_Disassemble : IFn := ⟨109,
 (.seq (.region [
 ⟨some 2, .mov (.const (.string ⟨#[]⟩)), none⟩,
 ⟨some 3, .mov (.const (.int .i64 0)), none⟩])
 (.seq (.seq (.region [
 ⟨some 20, .mov (.tmp 0), none⟩,
 ⟨some 21, .len (.tmp 20), none⟩,
 ⟨some 22, .bin .gtr (.tmp 21) (.const (.int .i64 64)), none⟩])
 (.cond (.tmp 22)
  (.seq (.region [
  ⟨some 2, .mov (.const (.string ⟨#[]⟩)), none⟩,
  ⟨some 3, .mov (.const (.int .i64 3)), none⟩])
  .ret)
  .skip))
 (.seq (.seq (.region [
 ⟨some 23, .mov (.tmp 0), none⟩,
 ⟨some 24, .len (.tmp 23), none⟩,
 ⟨some 25, .mov (.const (.int .i64 0)), none⟩])
 (.block 0
  (.loop 34326184044
   (.seq (.region [
   ⟨some 26, .bin .lss (.tmp 25) (.tmp 24), none⟩])
   (.seq (.cond (.tmp 26)
    .skip
    (.exit 0))
   (.seq (.block 1
    (.seq (.region [
    ⟨some 27, .ixs 5 (.tmp 23) (.tmp 25), none⟩,
    ⟨some 28, .ldN 5 (.tmp 27), none⟩,
    ⟨some 5, .new 23 (.agg #[.int .i64 0, .int .i64 0, .int .i64 0, .int .i64 0, .int .i64 0]), none⟩,
    ⟨none, .stN 5 (.tmp 5) (.tmp 28), none⟩])
    (.seq (.region [
    ⟨some 29, .ldN 5 (.tmp 5), none⟩,
    ⟨some 30, .call 13 [(.tmp 29)], none⟩,
    ⟨some 6, .mov (.tmp 30), none⟩])
    (.seq (.region [
    ⟨some 31, .mov (.tmp 6), none⟩,
    ⟨some 32, .bin .neq (.tmp 31) (.const (.int .i64 0)), none⟩])
    (.cond (.tmp 32)
     (.seq (.region [
     ⟨some 33, .mov (.tmp 6), none⟩,
     ⟨some 2, .mov (.const (.string ⟨#[]⟩)), none⟩,
     ⟨some 3, .mov (.tmp 33), none⟩])
     .ret)
     .skip)))))
   (.region [
   ⟨some 34, .bin .add (.tmp 25) (.const (.int .i64 1)), none⟩,
   ⟨some 25, .mov (.tmp 34), none⟩])))))))
 (.seq (.region [
 ⟨some 35, .mkm, none⟩,
 ⟨some 7, .mov (.tmp 35), none⟩])
 (.seq (.seq (.region [
 ⟨some 36, .mov (.tmp 0), none⟩,
 ⟨some 37, .call 57 [(.tmp 36)], none⟩,
 ⟨some 38, .len (.tmp 37), none⟩,
 ⟨some 39, .mov (.const (.int .i64 0)), none⟩])
 (.block 2
  (.loop 2251250057872128
   (.seq (.region [
   ⟨some 40, .bin .lss (.tmp 39) (.tmp 38), none⟩])
   (.seq (.cond (.tmp 40)
    .skip
    (.exit 2))
   (.seq (.block 3
    (.seq (.region [
    ⟨some 41, .mov (.tmp 39), none⟩,
    ⟨some 42, .ixs 1 (.tmp 37) (.tmp 39), none⟩,
    ⟨some 43, .ld (.tmp 42), none⟩,
    ⟨some 8, .mov (.tmp 41), none⟩,
    ⟨some 9, .mov (.tmp 43), none⟩])
    (.region [
    ⟨some 44, .mov (.tmp 7), none⟩,
    ⟨some 45, .mov (.tmp 9), none⟩,
    ⟨some 46, .mov (.tmp 8), none⟩,
    ⟨some 47, .bin .add (.tmp 46) (.const (.int .i64 1)), none⟩,
    ⟨some 48, .call 36 [(.tmp 47)], none⟩,
    ⟨some 49, .scat (.const (.string ⟨#[108]⟩)) (.tmp 48), none⟩,
    ⟨none, .mup 0 (.tmp 44) (.tmp 45) (.tmp 49), none⟩])))
   (.region [
   ⟨some 50, .bin .add (.tmp 39) (.const (.int .i64 1)), none⟩,
   ⟨some 39, .mov (.tmp 50), none⟩])))))))
 (.seq (.region [
 ⟨some 10, .new 84 (.agg #[.pointer none, .slice none 0 0]), none⟩])
 (.seq (.seq (.region [
 ⟨some 11, .mov (.const (.int .i64 0)), none⟩])
 (.block 4
  (.loop 324518553658426724531356207937536
   (.seq (.seq (.region [
   ⟨some 51, .mov (.tmp 11), none⟩,
   ⟨some 52, .mov (.tmp 0), none⟩,
   ⟨some 53, .len (.tmp 52), none⟩,
   ⟨some 54, .bin .leq (.tmp 51) (.tmp 53), none⟩])
   (.cond (.tmp 54)
    .skip
    (.exit 4)))
   (.seq (.block 5
    (.seq (.seq (.region [
    ⟨some 58, .mov (.tmp 7), none⟩,
    ⟨some 59, .mov (.tmp 11), none⟩,
    ⟨some 60, .mlk 0 (.string ⟨#[]⟩) true (.tmp 58) (.tmp 59), none⟩,
    ⟨some 57, .mov (.tmp 60), none⟩,
    ⟨some 61, .ext (.tmp 57) 0, none⟩,
    ⟨some 62, .ext (.tmp 57) 1, none⟩,
    ⟨some 12, .mov (.tmp 61), none⟩,
    ⟨some 13, .mov (.tmp 62), none⟩])
    (.seq (.region [
    ⟨some 63, .mov (.tmp 13), none⟩])
    (.cond (.tmp 63)
     (.region [
     ⟨some 64, .mov (.tmp 12), none⟩,
     ⟨some 65, .scat (.tmp 64) (.const (.string ⟨#[58, 10]⟩)), none⟩,
     ⟨some 66, .call 58 [(.tmp 10), (.tmp 65)], none⟩])
     .skip)))
    (.seq (.seq (.region [
    ⟨some 67, .mov (.tmp 11), none⟩,
    ⟨some 68, .mov (.tmp 0), none⟩,
    ⟨some 69, .len (.tmp 68), none⟩,
    ⟨some 70, .bin .eql (.tmp 67) (.tmp 69), none⟩])
    (.cond (.tmp 70)
     (.exit 4)
     .skip))
    (.seq (.region [
    ⟨some 72, .mov (.tmp 0), none⟩,
    ⟨some 73, .mov (.tmp 11), none⟩,
    ⟨some 74, .ixs 5 (.tmp 72) (.tmp 73), none⟩,
    ⟨some 75, .ldN 5 (.tmp 74), none⟩,
    ⟨some 76, .call 11 [(.tmp 75)], none⟩,
    ⟨some 71, .mov (.tmp 76), none⟩,
    ⟨some 77, .ext (.tmp 71) 0, none⟩,
    ⟨some 78, .ext (.tmp 71) 1, none⟩,
    ⟨some 14, .mov (.tmp 77), none⟩,
    ⟨some 15, .mov (.tmp 78), none⟩])
    (.seq (.seq (.region [
    ⟨some 80, .mov (.tmp 0), none⟩,
    ⟨some 81, .mov (.tmp 11), none⟩,
    ⟨some 82, .ixs 5 (.tmp 80) (.tmp 81), none⟩,
    ⟨some 83, .ldN 5 (.tmp 82), none⟩,
    ⟨some 84, .call 59 [(.tmp 83)], none⟩,
    ⟨some 79, .mov (.tmp 84), none⟩,
    ⟨some 85, .ext (.tmp 79) 0, none⟩,
    ⟨some 86, .ext (.tmp 79) 1, none⟩,
    ⟨some 16, .mov (.tmp 85), none⟩,
    ⟨some 17, .mov (.tmp 86), none⟩])
    (.seq (.region [
    ⟨some 87, .mov (.tmp 17), none⟩])
    (.cond (.tmp 87)
     (.seq (.region [
     ⟨some 89, .mov (.tmp 7), none⟩,
     ⟨some 90, .mov (.tmp 11), none⟩,
     ⟨some 91, .bin .add (.tmp 90) (.const (.int .i64 1)), none⟩,
     ⟨some 92, .mov (.tmp 16), none⟩,
     ⟨some 93, .bin .add (.tmp 91) (.tmp 92), none⟩,
     ⟨some 94, .mlk 0 (.string ⟨#[]⟩) true (.tmp 89) (.tmp 93), none⟩,
     ⟨some 88, .mov (.tmp 94), none⟩,
     ⟨some 95, .ext (.tmp 88) 0, none⟩,
     ⟨some 96, .ext (.tmp 88) 1, none⟩,
     ⟨some 18, .mov (.tmp 95), none⟩,
     ⟨some 19, .mov (.tmp 96), none⟩])
     (.seq (.region [
     ⟨some 97, .mov (.tmp 19), none⟩])
     (.cond (.tmp 97)
      (.region [
      ⟨some 98, .mov (.tmp 14), none⟩,
      ⟨some 99, .mov (.tmp 14), none⟩,
      ⟨some 100, .call 60 [(.tmp 99), (.const (.int .u8 32))], none⟩,
      ⟨some 101, .bin .add (.tmp 100) (.const (.int .i64 1)), none⟩,
      ⟨some 102, .sslc (.tmp 98) none (some (.tmp 101)), none⟩,
      ⟨some 103, .mov (.tmp 18), none⟩,
      ⟨some 104, .scat (.tmp 102) (.tmp 103), none⟩,
      ⟨some 14, .mov (.tmp 104), none⟩])
      .skip)))
     .skip)))
    (.region [
    ⟨some 105, .mov (.tmp 14), none⟩,
    ⟨some 106, .scat (.tmp 105) (.const (.string ⟨#[10]⟩)), none⟩,
    ⟨some 107, .call 58 [(.tmp 10), (.tmp 106)], none⟩]))))))
   (.region [
   ⟨some 55, .mov (.tmp 11), none⟩,
   ⟨some 56, .bin .add (.tmp 55) (.const (.int .i64 1)), none⟩,
   ⟨some 11, .mov (.tmp 56), none⟩]))))))
 (.seq (.region [
 ⟨some 108, .call 61 [(.tmp 10)], none⟩,
 ⟨some 2, .mov (.tmp 108), none⟩,
 ⟨some 3, .mov (.const (.int .i64 0)), none⟩])
 .ret)))))))),
 [.tmp 2, .tmp 3]⟩
theorem low_asm_Disassemble : lowFn Tryz.prog movers 27 = some ⟨ir_asm_Disassemble.n, strip ir_asm_Disassemble.body, ir_asm_Disassemble.res⟩ := by kernel_rfl
def ir_asm_lines : IFn := ⟨19,
 (.seq (.region [
 ⟨some 2, .mov (.const (.slice none 0 0)), none⟩])
 (.seq (.region [
 ⟨some 5, .mov (.tmp 0), none⟩,
 ⟨some 6, .call 76 [(.tmp 5), (.const (.string ⟨#[10]⟩))], none⟩,
 ⟨some 3, .mov (.tmp 6), none⟩])
 (.seq (.seq (.region [
 ⟨some 7, .mov (.tmp 3), none⟩,
 ⟨some 8, .len (.tmp 7), none⟩,
 ⟨some 9, .bin .sub (.tmp 8) (.const (.int .i64 1)), none⟩,
 ⟨some 4, .mov (.tmp 9), none⟩])
 (.seq (.region [
 ⟨some 10, .mov (.tmp 3), none⟩,
 ⟨some 11, .mov (.tmp 4), none⟩,
 ⟨some 12, .ixs 1 (.tmp 10) (.tmp 11), none⟩,
 ⟨some 13, .ld (.tmp 12), none⟩,
 ⟨some 14, .sbin .eql (.tmp 13) (.const (.string ⟨#[]⟩)), none⟩])
 (.cond (.tmp 14)
  (.region [
  ⟨some 15, .mov (.tmp 3), none⟩,
  ⟨some 16, .mov (.tmp 4), none⟩,
  ⟨some 17, .sls 1 (.tmp 15) none (some (.tmp 16)) none, none⟩,
  ⟨some 3, .mov (.tmp 17), none⟩])
  .skip)))
 (.seq (.region [
 ⟨some 18, .mov (.tmp 3), none⟩,
 ⟨some 2, .mov (.tmp 18), none⟩])
 .ret)))),
 [.tmp 2]⟩
theorem low_asm_lines : lowFn Tryz.prog movers 49 = some ⟨ir_asm_lines.n, strip ir_asm_lines.body, ir_asm_lines.res⟩ := by kernel_rfl
def ir_asm_assembler_read : IFn := ⟨106,
 (.seq (.region [
 ⟨some 6, .mov (.const (.int .i64 0)), none⟩])
 (.seq (.region [
 ⟨some 17, .mov (.tmp 1), none⟩,
 ⟨some 18, .call 77 [(.tmp 17), (.const (.string ⟨#[35]⟩))], none⟩,
 ⟨some 16, .mov (.tmp 18), none⟩,
 ⟨some 19, .ext (.tmp 16) 0, none⟩,
 ⟨some 20, .ext (.tmp 16) 1, none⟩,
 ⟨some 21, .ext (.tmp 16) 2, none⟩,
 ⟨some 1, .mov (.tmp 19), none⟩])
 (.seq (.region [
 ⟨some 22, .mov (.tmp 1), none⟩,
 ⟨some 23, .call 78 [(.tmp 22), (.const (.string ⟨#[32]⟩))], none⟩,
 ⟨some 7, .mov (.tmp 23), none⟩])
 (.seq (.seq (.region [
 ⟨some 24, .mov (.tmp 7), none⟩,
 ⟨some 25, .sbin .eql (.tmp 24) (.const (.string ⟨#[]⟩)), none⟩])
 (.cond (.tmp 25)
  (.seq (.region [
  ⟨some 6, .mov (.const (.int .i64 0)), none⟩])
  .ret)
  .skip))
 (.seq (.seq (.region [
 ⟨some 27, .mov (.tmp 7), none⟩,
 ⟨some 28, .call 79 [(.tmp 27), (.const (.string ⟨#[58]⟩))], none⟩,
 ⟨some 26, .mov (.tmp 28), none⟩,
 ⟨some 29, .ext (.tmp 26) 0, none⟩,
 ⟨some 30, .ext (.tmp 26) 1, none⟩,
 ⟨some 8, .mov (.tmp 29), none⟩,
 ⟨some 9, .mov (.tmp 30), none⟩])
 (.seq (.region [
 ⟨some 31, .mov (.tmp 9), none⟩,
 ⟨some 32, .mov (.tmp 31), none⟩,
 ⟨some 33, .mov (.tmp 8), some (32, true)⟩,
 ⟨some 34, .call 80 [(.tmp 33)], some (32, true)⟩,
 ⟨some 35, .pick (.tmp 32) (.tmp 34) (.const (.bool false)), none⟩])
 (.cond (.tmp 35)
  (.seq (.seq (.region [
  ⟨some 37, .mov (.tmp 0), none⟩,
  ⟨some 38, .nilc (.tmp 37), none⟩,
  ⟨some 39, .fad 1 (.tmp 38), none⟩,
  ⟨some 40, .ld (.tmp 39), none⟩,
  ⟨some 41, .mov (.tmp 8), none⟩,
  ⟨some 42, .mlk 2 (.int .i64 0) true (.tmp 40) (.tmp 41), none⟩,
  ⟨some 36, .mov (.tmp 42), none⟩,
  ⟨some 43, .ext (.tmp 36) 0, none⟩,
  ⟨some 44, .ext (.tmp 36) 1, none⟩,
  ⟨some 10, .mov (.tmp 43), none⟩,
  ⟨some 11, .mov (.tmp 44), none⟩])
  (.seq (.region [
  ⟨some 45, .mov (.tmp 11), none⟩])
  (.cond (.tmp 45)
   (.seq (.region [
   ⟨some 6, .mov (.const (.int .i64 20)), none⟩])
   .ret)
   .skip)))
  (.seq (.draw (.f ⟨some 46, .mov (.tmp 0), none⟩
  (.f ⟨some 47, .nilc (.tmp 46), none⟩
  (.f ⟨some 48, .fad 1 (.tmp 47), none⟩
  (.f ⟨some 49, .ld (.tmp 48), none⟩
  (.f ⟨some 50, .mov (.tmp 8), none⟩
  (.f ⟨some 51, .mov (.tmp 0), none⟩
  (.f ⟨some 52, .nilc (.tmp 51), none⟩
  (.f ⟨some 53, .fad 0 (.tmp 52), none⟩
  (.f ⟨some 54, .ld (.tmp 53), none⟩
  (.f ⟨some 55, .len (.tmp 54), none⟩
  (.m ⟨none, .mup 2 (.tmp 49) (.tmp 50) (.tmp 55), none⟩
  .done))))))))))))
  (.seq (.region [
  ⟨some 6, .mov (.const (.int .i64 0)), none⟩])
  .ret)))
  .skip)))
 (.seq (.region [
 ⟨some 57, .mov (.tmp 7), none⟩,
 ⟨some 58, .call 81 [(.tmp 57)], none⟩,
 ⟨some 56, .mov (.tmp 58), none⟩,
 ⟨some 59, .ext (.tmp 56) 0, none⟩,
 ⟨some 60, .ext (.tmp 56) 1, none⟩,
 ⟨some 61, .ext (.tmp 56) 2, none⟩,
 ⟨some 12, .new 23 (.agg #[.int .i64 0, .int .i64 0, .int .i64 0, .int .i64 0, .int .i64 0]), none⟩,
 ⟨none, .stN 5 (.tmp 12) (.tmp 59), none⟩,
 ⟨some 13, .mov (.tmp 60), none⟩,
 ⟨some 14, .mov (.tmp 61), none⟩])
 (.seq (.seq (.region [
 ⟨some 62, .mov (.tmp 14), none⟩,
 ⟨some 63, .not (.tmp 62), none⟩])
 (.cond (.tmp 63)
  (.seq (.region [
  ⟨some 15, .mov (.const (.int .i64 0)), none⟩])
  (.seq (.region [
  ⟨some 65, .mov (.tmp 1), none⟩,
  ⟨some 66, .call 48 [(.tmp 65)], none⟩,
  ⟨some 64, .mov (.tmp 66), none⟩,
  ⟨some 67, .ext (.tmp 64) 0, none⟩,
  ⟨some 68, .ext (.tmp 64) 1, none⟩,
  ⟨none, .stN 5 (.tmp 12) (.tmp 67), none⟩,
  ⟨some 15, .mov (.tmp 68), none⟩])
  (.seq (.region [
  ⟨some 69, .mov (.tmp 15), none⟩,
  ⟨some 70, .bin .neq (.tmp 69) (.const (.int .i64 0)), none⟩])
  (.cond (.tmp 70)
   (.seq (.region [
   ⟨some 71, .mov (.tmp 15), none⟩,
   ⟨some 6, .mov (.tmp 71), none⟩])
   .ret)
   .skip))))
  .skip))
 (.seq (.seq (.region [
 ⟨some 72, .mov (.tmp 0), none⟩,
 ⟨some 73, .nilc (.tmp 72), none⟩,
 ⟨some 74, .fad 0 (.tmp 73), none⟩,
 ⟨some 75, .ld (.tmp 74), none⟩,
 ⟨some 76, .len (.tmp 75), none⟩,
 ⟨some 77, .bin .eql (.tmp 76) (.const (.int .i64 64)), none⟩])
 (.cond (.tmp 77)
  (.seq (.region [
  ⟨some 6, .mov (.const (.int .i64 3)), none⟩])
  .ret)
  .skip))
 (.seq (.seq (.region [
 ⟨some 78, .mov (.tmp 14), none⟩])
 (.cond (.tmp 78)
  (.draw (.f ⟨some 79, .mov (.tmp 0), none⟩
  (.f ⟨some 80, .mov (.tmp 0), none⟩
  (.f ⟨some 81, .nilc (.tmp 80), none⟩
  (.f ⟨some 82, .fad 2 (.tmp 81), none⟩
  (.f ⟨some 83, .ld (.tmp 82), none⟩
  (.f ⟨some 84, .mov (.tmp 0), none⟩
  (.f ⟨some 85, .nilc (.tmp 84), none⟩
  (.f ⟨some 86, .fad 0 (.tmp 85), none⟩
  (.f ⟨some 89, .mov (.tmp 2), none⟩
  (.f ⟨some 90, .mov (.tmp 13), none⟩
  (.f ⟨some 87, .ld (.tmp 86), none⟩
  (.f ⟨some 88, .len (.tmp 87), none⟩
  (.f ⟨some 91, .bld [(.int .i64 0), (.int .i64 0), (.string ⟨#[]⟩)] [(0, 1, (.tmp 88)), (1, 1, (.tmp 89)), (2, 1, (.tmp 90))], none⟩
  (.m ⟨some 92, .blds 74 1 [(.int .i64 0), (.int .i64 0), (.string ⟨#[]⟩)] [(0, 3, (.tmp 91))], none⟩
  (.m ⟨some 93, .app 74 3 32 [(.int .i64 0), (.int .i64 0), (.string ⟨#[]⟩)] (.tmp 83) (.tmp 92), none⟩
  (.f ⟨some 94, .nilc (.tmp 79), none⟩
  (.f ⟨some 95, .fad 2 (.tmp 94), none⟩
  (.m ⟨none, .st (.tmp 95) (.tmp 93), none⟩
  .done)))))))))))))))))))
  .skip))
 (.seq (.draw (.f ⟨some 96, .mov (.tmp 0), none⟩
 (.f ⟨some 97, .mov (.tmp 0), none⟩
 (.f ⟨some 98, .nilc (.tmp 97), none⟩
 (.f ⟨some 99, .fad 0 (.tmp 98), none⟩
 (.f ⟨some 100, .ld (.tmp 99), none⟩
 (.f ⟨some 101, .ldN 5 (.tmp 12), none⟩
 (.m ⟨some 102, .blds 23 1 [(.int .i64 0), (.int .i64 0), (.int .i64 0), (.int .i64 0), (.int .i64 0)] [(0, 5, (.tmp 101))], none⟩
 (.m ⟨some 103, .app 23 5 40 [(.int .i64 0), (.int .i64 0), (.int .i64 0), (.int .i64 0), (.int .i64 0)] (.tmp 100) (.tmp 102), none⟩
 (.f ⟨some 104, .nilc (.tmp 96), none⟩
 (.f ⟨some 105, .fad 0 (.tmp 104), none⟩
 (.m ⟨none, .st (.tmp 105) (.tmp 103), none⟩
 .done))))))))))))
 (.seq (.region [
 ⟨some 6, .mov (.const (.int .i64 0)), none⟩])
 .ret))))))))))),
 [.tmp 6]⟩
theorem low_asm_assembler_read : lowFn Tryz.prog movers 50 = some ⟨ir_asm_assembler_read.n, strip ir_asm_assembler_read.body, ir_asm_assembler_read.res⟩ := by kernel_rfl
def ir_asm_targets : IFn := ⟨42,
 (.seq (.region [
 ⟨some 2, .mov (.const (.slice none 0 0)), none⟩])
 (.seq (.region [
 ⟨some 3, .mov (.const (.slice none 0 0)), none⟩])
 (.seq (.seq (.region [
 ⟨some 8, .mov (.tmp 0), none⟩,
 ⟨some 9, .len (.tmp 8), none⟩,
 ⟨some 10, .mov (.const (.int .i64 0)), none⟩])
 (.block 0
  (.loop 274877906168
   (.seq (.region [
   ⟨some 11, .bin .lss (.tmp 10) (.tmp 9), none⟩])
   (.seq (.cond (.tmp 11)
    .skip
    (.exit 0))
   (.seq (.block 1
    (.seq (.region [
    ⟨some 12, .mov (.tmp 10), none⟩,
    ⟨some 13, .ixs 5 (.tmp 8) (.tmp 10), none⟩,
    ⟨some 14, .ldN 5 (.tmp 13), none⟩,
    ⟨some 5, .new 23 (.agg #[.int .i64 0, .int .i64 0, .int .i64 0, .int .i64 0, .int .i64 0]), none⟩,
    ⟨some 4, .mov (.tmp 12), none⟩,
    ⟨none, .stN 5 (.tmp 5) (.tmp 14), none⟩])
    (.seq (.region [
    ⟨some 16, .ldN 5 (.tmp 5), none⟩,
    ⟨some 17, .call 59 [(.tmp 16)], none⟩,
    ⟨some 15, .mov (.tmp 17), none⟩,
    ⟨some 18, .ext (.tmp 15) 0, none⟩,
    ⟨some 19, .ext (.tmp 15) 1, none⟩,
    ⟨some 6, .mov (.tmp 18), none⟩,
    ⟨some 7, .mov (.tmp 19), none⟩])
    (.seq (.region [
    ⟨some 20, .mov (.tmp 7), none⟩,
    ⟨some 21, .mov (.tmp 20), none⟩,
    ⟨some 22, .mov (.tmp 4), some (21, true)⟩,
    ⟨some 23, .bin .add (.tmp 22) (.const (.int .i64 1)), some (21, true)⟩,
    ⟨some 24, .mov (.tmp 6), some (21, true)⟩,
    ⟨some 25, .bin .add (.tmp 23) (.tmp 24), some (21, true)⟩,
    ⟨some 26, .mov (.tmp 0), some (21, true)⟩,
    ⟨some 27, .len (.tmp 26), some (21, true)⟩,
    ⟨some 28, .bin .leq (.tmp 25) (.tmp 27), some (21, true)⟩,
    ⟨some 29, .pick (.tmp 21) (.tmp 28) (.const (.bool false)), none⟩])
    (.cond (.tmp 29)
     (.region [
     ⟨some 30, .mov (.tmp 3), none⟩,
     ⟨some 31, .mov (.tmp 4), none⟩,
     ⟨some 32, .bin .add (.tmp 31) (.const (.int .i64 1)), none⟩,
     ⟨some 33, .mov (.tmp 6), none⟩,
     ⟨some 34, .bin .add (.tmp 32) (.tmp 33), none⟩,
     ⟨some 35, .blds 3 1 [(.int .i64 0)] [(0, 1, (.tmp 34))], none⟩,
     ⟨some 36, .app 3 1 8 [(.int .i64 0)] (.tmp 30) (.tmp 35), none⟩,
     ⟨some 3, .mov (.tmp 36), none⟩])
     .skip)))))
   (.region [
   ⟨some 37, .bin .add (.tmp 10) (.const (.int .i64 1)), none⟩,
   ⟨some 10, .mov (.tmp 37), none⟩])))))))
 (.seq (.region [
 ⟨some 38, .mov (.tmp 3), none⟩,
 ⟨some 39, .call 45 [(.tmp 38)], none⟩])
 (.seq (.region [
 ⟨some 40, .mov (.tmp 3), none⟩,
 ⟨some 41, .call 46 [(.tmp 40)], none⟩,
 ⟨some 2, .mov (.tmp 41), none⟩])
 .ret))))),
 [.tmp 2]⟩
theorem low_asm_targets : lowFn Tryz.prog movers 57 = some ⟨ir_asm_targets.n, strip ir_asm_targets.body, ir_asm_targets.res⟩ := by kernel_rfl
def ir_asm_isName : IFn := ⟨40,
 (.seq (.region [
 ⟨some 2, .mov (.const (.bool false)), none⟩])
 (.seq (.seq (.region [
 ⟨some 5, .mov (.tmp 0), none⟩,
 ⟨some 6, .lens (.tmp 5), none⟩,
 ⟨some 7, .bin .lss (.tmp 6) (.const (.int .i64 1)), none⟩,
 ⟨some 8, .mov (.tmp 7), none⟩,
 ⟨some 9, .mov (.tmp 0), some (8, false)⟩,
 ⟨some 10, .lens (.tmp 9), some (8, false)⟩,
 ⟨some 11, .bin .gtr (.tmp 10) (.const (.int .i64 20)), some (8, false)⟩,
 ⟨some 12, .pick (.tmp 8) (.const (.bool true)) (.tmp 11), none⟩,
 ⟨some 13, .mov (.tmp 12), none⟩,
 ⟨some 14, .mov (.tmp 0), some (13, false)⟩,
 ⟨some 15, .sidx (.tmp 14) (.const (.int .i64 0)), some (13, false)⟩,
 ⟨some 16, .call 120 [(.tmp 15)], some (13, false)⟩,
 ⟨some 17, .not (.tmp 16), some (13, false)⟩,
 ⟨some 18, .pick (.tmp 13) (.const (.bool true)) (.tmp 17), none⟩])
 (.cond (.tmp 18)
  (.seq (.region [
  ⟨some 2, .mov (.const (.bool false)), none⟩])
  .ret)
  .skip))
 (.seq (.seq (.region [
 ⟨some 19, .mov (.tmp 0), none⟩,
 ⟨some 20, .lens (.tmp 19), none⟩,
 ⟨some 21, .mov (.const (.int .i64 0)), none⟩])
 (.block 0
  (.loop 1099509530652
   (.seq (.region [
   ⟨some 22, .bin .lss (.tmp 21) (.tmp 20), none⟩])
   (.seq (.cond (.tmp 22)
    .skip
    (.exit 0))
   (.seq (.block 1
    (.seq (.region [
    ⟨some 23, .mov (.tmp 21), none⟩,
    ⟨some 3, .mov (.tmp 23), none⟩])
    (.seq (.region [
    ⟨some 24, .mov (.tmp 0), none⟩,
    ⟨some 25, .mov (.tmp 3), none⟩,
    ⟨some 26, .sidx (.tmp 24) (.tmp 25), none⟩,
    ⟨some 4, .mov (.tmp 26), none⟩])
    (.seq (.region [
    ⟨some 27, .mov (.tmp 4), none⟩,
    ⟨some 28, .call 120 [(.tmp 27)], none⟩,
    ⟨some 29, .not (.tmp 28), none⟩,
    ⟨some 30, .mov (.tmp 29), none⟩,
    ⟨some 31, .mov (.tmp 4), some (30, true)⟩,
    ⟨some 32, .call 121 [(.tmp 31)], some (30, true)⟩,
    ⟨some 33, .not (.tmp 32), some (30, true)⟩,
    ⟨some 34, .pick (.tmp 30) (.tmp 33) (.const (.bool false)), none⟩,
    ⟨some 35, .mov (.tmp 34), none⟩,
    ⟨some 36, .mov (.tmp 4), some (35, true)⟩,
    ⟨some 37, .bin .neq (.tmp 36) (.const (.int .u8 95)), some (35, true)⟩,
    ⟨some 38, .pick (.tmp 35) (.tmp 37) (.const (.bool false)), none⟩])
    (.cond (.tmp 38)
     (.seq (.region [
     ⟨some 2, .mov (.const (.bool false)), none⟩])
     .ret)
     .skip)))))
   (.region [
   ⟨some 39, .bin .add (.tmp 21) (.const (.int .i64 1)), none⟩,
   ⟨some 21, .mov (.tmp 39), none⟩])))))))
 (.seq (.region [
 ⟨some 2, .mov (.const (.bool true)), none⟩])
 .ret)))),
 [.tmp 2]⟩
theorem low_asm_isName : lowFn Tryz.prog movers 80 = some ⟨ir_asm_isName.n, strip ir_asm_isName.body, ir_asm_isName.res⟩ := by kernel_rfl
def ir_asm_toLabel : IFn := ⟨70,
 (.seq (.region [
 ⟨some 2, .new 23 (.agg #[.int .i64 0, .int .i64 0, .int .i64 0, .int .i64 0, .int .i64 0]), none⟩,
 ⟨some 3, .mov (.const (.string ⟨#[]⟩)), none⟩,
 ⟨some 4, .mov (.const (.bool false)), none⟩])
 (.seq (.region [
 ⟨some 8, .mov (.tmp 0), none⟩,
 ⟨some 9, .call 105 [(.tmp 8), (.func 122)], none⟩,
 ⟨some 5, .mov (.tmp 9), none⟩])
 (.seq (.block 0
  (.seq (.region [
  ⟨some 12, .mov (.tmp 5), none⟩,
  ⟨some 13, .len (.tmp 12), none⟩,
  ⟨some 14, .bin .eql (.tmp 13) (.const (.int .i64 2)), none⟩,
  ⟨some 15, .mov (.tmp 14), none⟩,
  ⟨some 16, .mov (.tmp 5), some (15, true)⟩,
  ⟨some 17, .ixs 1 (.tmp 16) (.const (.int .i64 0)), some (15, true)⟩,
  ⟨some 18, .ld (.tmp 17), some (15, true)⟩,
  ⟨some 19, .sbin .eql (.tmp 18) (.const (.string ⟨#[106, 117, 109, 112]⟩)), some (15, true)⟩,
  ⟨some 20, .pick (.tmp 15) (.tmp 19) (.const (.bool false)), none⟩,
  ⟨some 11, .mov (.tmp 20), none⟩])
  (.cond (.tmp 11)
   .skip
   (.seq (.region [
   ⟨some 22, .mov (.tmp 5), none⟩,
   ⟨some 23, .len (.tmp 22), none⟩,
   ⟨some 24, .bin .eql (.tmp 23) (.const (.int .i64 3)), none⟩,
   ⟨some 25, .mov (.tmp 24), none⟩,
   ⟨some 26, .mov (.tmp 5), some (25, true)⟩,
   ⟨some 27, .ixs 1 (.tmp 26) (.const (.int .i64 0)), some (25, true)⟩,
   ⟨some 28, .ld (.tmp 27), some (25, true)⟩,
   ⟨some 29, .sbin .eql (.tmp 28) (.const (.string ⟨#[122, 101, 114, 111]⟩)), some (25, true)⟩,
   ⟨some 30, .mov (.tmp 29), some (25, true)⟩,
   ⟨some 31, .mov (.tmp 5), some (30, false)⟩,
   ⟨some 32, .ixs 1 (.tmp 31) (.const (.int .i64 0)), some (30, false)⟩,
   ⟨some 33, .ld (.tmp 32), some (30, false)⟩,
   ⟨some 34, .sbin .eql (.tmp 33) (.const (.string ⟨#[110, 111, 110, 122, 101, 114, 111]⟩)), some (30, false)⟩,
   ⟨some 35, .pick (.tmp 30) (.const (.bool true)) (.tmp 34), some (25, true)⟩,
   ⟨some 36, .pick (.tmp 25) (.tmp 35) (.const (.bool false)), none⟩,
   ⟨some 37, .mov (.tmp 36), none⟩,
   ⟨some 38, .mov (.tmp 5), some (37, true)⟩,
   ⟨some 39, .ixs 1 (.tmp 38) (.const (.int .i64 1)), some (37, true)⟩,
   ⟨some 40, .ld (.tmp 39), some (37, true)⟩,
   ⟨some 41, .call 123 [(.tmp 40)], some (37, true)⟩,
   ⟨some 42, .pick (.tmp 37) (.tmp 41) (.const (.bool false)), none⟩,
   ⟨some 21, .mov (.tmp 42), none⟩])
   (.cond (.tmp 21)
    .skip
    (.seq (.region [
    ⟨some 10, .ldN 5 (.tmp 2), none⟩,
    ⟨none, .stN 5 (.tmp 2) (.tmp 10), none⟩,
    ⟨some 3, .mov (.const (.string ⟨#[]⟩)), none⟩,
    ⟨some 4, .mov (.const (.bool false)), none⟩])
    .ret))))))
 (.seq (.region [
 ⟨some 43, .mov (.tmp 5), none⟩,
 ⟨some 44, .len (.tmp 43), none⟩,
 ⟨some 45, .bin .sub (.tmp 44) (.const (.int .i64 1)), none⟩,
 ⟨some 6, .mov (.tmp 45), none⟩])
 (.seq (.seq (.region [
 ⟨some 46, .mov (.tmp 5), none⟩,
 ⟨some 47, .mov (.tmp 6), none⟩,
 ⟨some 48, .ixs 1 (.tmp 46) (.tmp 47), none⟩,
 ⟨some 49, .ld (.tmp 48), none⟩,
 ⟨some 50, .call 80 [(.tmp 49)], none⟩,
 ⟨some 51, .not (.tmp 50), none⟩])
 (.cond (.tmp 51)
  (.seq (.region [
  ⟨some 52, .ldN 5 (.tmp 2), none⟩,
  ⟨none, .stN 5 (.tmp 2) (.tmp 52), none⟩,
  ⟨some 3, .mov (.const (.string ⟨#[]⟩)), none⟩,
  ⟨some 4, .mov (.const (.bool false)), none⟩])
  .ret)
  .skip))
 (.seq (.region [
 ⟨some 53, .mov (.tmp 5), none⟩,
 ⟨some 54, .mov (.tmp 6), none⟩,
 ⟨some 55, .ixs 1 (.tmp 53) (.tmp 54), none⟩,
 ⟨some 56, .ld (.tmp 55), none⟩,
 ⟨some 3, .mov (.tmp 56), none⟩])
 (.seq (.region [
 ⟨some 57, .mov (.tmp 5), none⟩,
 ⟨some 58, .mov (.tmp 6), none⟩,
 ⟨some 59, .ixs 1 (.tmp 57) (.tmp 58), none⟩,
 ⟨none, .st (.tmp 59) (.const (.string ⟨#[48]⟩)), none⟩])
 (.seq (.region [
 ⟨some 61, .mov (.tmp 5), none⟩,
 ⟨some 62, .call 37 [(.tmp 61), (.const (.string ⟨#[32]⟩))], none⟩,
 ⟨some 63, .call 48 [(.tmp 62)], none⟩,
 ⟨some 60, .mov (.tmp 63), none⟩,
 ⟨some 64, .ext (.tmp 60) 0, none⟩,
 ⟨some 65, .ext (.tmp 60) 1, none⟩,
 ⟨none, .stN 5 (.tmp 2) (.tmp 64), none⟩,
 ⟨some 7, .mov (.tmp 65), none⟩])
 (.seq (.region [
 ⟨some 66, .ldN 5 (.tmp 2), none⟩,
 ⟨some 67, .mov (.tmp 3), none⟩,
 ⟨some 68, .mov (.tmp 7), none⟩,
 ⟨some 69, .bin .eql (.tmp 68) (.const (.int .i64 0)), none⟩,
 ⟨none, .stN 5 (.tmp 2) (.tmp 66), none⟩,
 ⟨some 3, .mov (.tmp 67), none⟩,
 ⟨some 4, .mov (.tmp 69), none⟩])
 .ret))))))))),
 [.cellN 2 5, .tmp 3, .tmp 4]⟩
theorem low_asm_toLabel : lowFn Tryz.prog movers 81 = some ⟨ir_asm_toLabel.n, strip ir_asm_toLabel.body, ir_asm_toLabel.res⟩ := by kernel_rfl
def ir_asm_letter : IFn := ⟨9,
 (.seq (.region [
 ⟨some 2, .mov (.const (.bool false)), none⟩])
 (.seq (.region [
 ⟨some 3, .mov (.tmp 0), none⟩,
 ⟨some 4, .bin .geq (.tmp 3) (.const (.int .u8 97)), none⟩,
 ⟨some 5, .mov (.tmp 4), none⟩,
 ⟨some 6, .mov (.tmp 0), some (5, true)⟩,
 ⟨some 7, .bin .leq (.tmp 6) (.const (.int .u8 122)), some (5, true)⟩,
 ⟨some 8, .pick (.tmp 5) (.tmp 7) (.const (.bool false)), none⟩,
 ⟨some 2, .mov (.tmp 8), none⟩])
 .ret)),
 [.tmp 2]⟩
theorem low_asm_letter : lowFn Tryz.prog movers 120 = some ⟨ir_asm_letter.n, strip ir_asm_letter.body, ir_asm_letter.res⟩ := by kernel_rfl
def ir_asm_digit : IFn := ⟨9,
 (.seq (.region [
 ⟨some 2, .mov (.const (.bool false)), none⟩])
 (.seq (.region [
 ⟨some 3, .mov (.tmp 0), none⟩,
 ⟨some 4, .bin .geq (.tmp 3) (.const (.int .u8 48)), none⟩,
 ⟨some 5, .mov (.tmp 4), none⟩,
 ⟨some 6, .mov (.tmp 0), some (5, true)⟩,
 ⟨some 7, .bin .leq (.tmp 6) (.const (.int .u8 57)), some (5, true)⟩,
 ⟨some 8, .pick (.tmp 5) (.tmp 7) (.const (.bool false)), none⟩,
 ⟨some 2, .mov (.tmp 8), none⟩])
 .ret)),
 [.tmp 2]⟩
theorem low_asm_digit : lowFn Tryz.prog movers 121 = some ⟨ir_asm_digit.n, strip ir_asm_digit.body, ir_asm_digit.res⟩ := by kernel_rfl
def ir_asm_isRegister : IFn := ⟨21,
 (.seq (.region [
 ⟨some 2, .mov (.const (.bool false)), none⟩])
 (.seq (.region [
 ⟨some 3, .mov (.tmp 0), none⟩,
 ⟨some 4, .lens (.tmp 3), none⟩,
 ⟨some 5, .bin .eql (.tmp 4) (.const (.int .i64 2)), none⟩,
 ⟨some 6, .mov (.tmp 5), none⟩,
 ⟨some 7, .mov (.tmp 0), some (6, true)⟩,
 ⟨some 8, .sidx (.tmp 7) (.const (.int .i64 0)), some (6, true)⟩,
 ⟨some 9, .bin .eql (.tmp 8) (.const (.int .u8 114)), some (6, true)⟩,
 ⟨some 10, .pick (.tmp 6) (.tmp 9) (.const (.bool false)), none⟩,
 ⟨some 11, .mov (.tmp 10), none⟩,
 ⟨some 12, .mov (.tmp 0), some (11, true)⟩,
 ⟨some 13, .sidx (.tmp 12) (.const (.int .i64 1)), some (11, true)⟩,
 ⟨some 14, .bin .geq (.tmp 13) (.const (.int .u8 48)), some (11, true)⟩,
 ⟨some 15, .pick (.tmp 11) (.tmp 14) (.const (.bool false)), none⟩,
 ⟨some 16, .mov (.tmp 15), none⟩,
 ⟨some 17, .mov (.tmp 0), some (16, true)⟩,
 ⟨some 18, .sidx (.tmp 17) (.const (.int .i64 1)), some (16, true)⟩,
 ⟨some 19, .bin .lss (.tmp 18) (.const (.int .u8 56)), some (16, true)⟩,
 ⟨some 20, .pick (.tmp 16) (.tmp 19) (.const (.bool false)), none⟩,
 ⟨some 2, .mov (.tmp 20), none⟩])
 .ret)),
 [.tmp 2]⟩
theorem low_asm_isRegister : lowFn Tryz.prog movers 123 = some ⟨ir_asm_isRegister.n, strip ir_asm_isRegister.body, ir_asm_isRegister.res⟩ := by kernel_rfl
end Go.Proofs.YtiimndcifcoofaaGreatDoor
namespace Go.Proofs.YtiimndcifcoofaaGreatDoor
open Go
set_option maxRecDepth 100000
def ir_strings_CutSuffix : IFn := ⟨11,
 (.seq (.region [
 ⟨some 4, .mov (.const (.string ⟨#[]⟩)), none⟩,
 ⟨some 5, .mov (.const (.bool false)), none⟩])
 (.seq (.region [
 ⟨some 6, .mov (.tmp 0), none⟩,
 ⟨some 7, .mov (.tmp 1), none⟩,
 ⟨some 8, .call 119 [(.tmp 6), (.tmp 7)], none⟩,
 ⟨some 9, .ext (.tmp 8) 0, none⟩,
 ⟨some 10, .ext (.tmp 8) 1, none⟩,
 ⟨some 4, .mov (.tmp 9), none⟩,
 ⟨some 5, .mov (.tmp 10), none⟩])
 .ret)),
 [.tmp 4, .tmp 5]⟩
theorem low_strings_CutSuffix : lowFn Tryz.prog movers 79 = some ⟨ir_strings_CutSuffix.n, strip ir_strings_CutSuffix.body, ir_strings_CutSuffix.res⟩ := by kernel_rfl
end Go.Proofs.YtiimndcifcoofaaGreatDoor
namespace Go.Proofs.YtiimndcifcoofaaGreatDoor
open Go
set_option maxRecDepth 100000
def ir_internal_stringslite_CutSuffix : IFn := ⟨18,
 (.seq (.region [
 ⟨some 4, .mov (.const (.string ⟨#[]⟩)), none⟩,
 ⟨some 5, .mov (.const (.bool false)), none⟩])
 (.seq (.seq (.region [
 ⟨some 6, .mov (.tmp 0), none⟩,
 ⟨some 7, .mov (.tmp 1), none⟩,
 ⟨some 8, .call 148 [(.tmp 6), (.tmp 7)], none⟩,
 ⟨some 9, .not (.tmp 8), none⟩])
 (.cond (.tmp 9)
  (.seq (.region [
  ⟨some 10, .mov (.tmp 0), none⟩,
  ⟨some 4, .mov (.tmp 10), none⟩,
  ⟨some 5, .mov (.const (.bool false)), none⟩])
  .ret)
  .skip))
 (.seq (.region [
 ⟨some 11, .mov (.tmp 0), none⟩,
 ⟨some 12, .mov (.tmp 0), none⟩,
 ⟨some 13, .lens (.tmp 12), none⟩,
 ⟨some 14, .mov (.tmp 1), none⟩,
 ⟨some 15, .lens (.tmp 14), none⟩,
 ⟨some 16, .bin .sub (.tmp 13) (.tmp 15), none⟩,
 ⟨some 17, .sslc (.tmp 11) none (some (.tmp 16)), none⟩,
 ⟨some 4, .mov (.tmp 17), none⟩,
 ⟨some 5, .mov (.const (.bool true)), none⟩])
 .ret))),
 [.tmp 4, .tmp 5]⟩
theorem low_internal_stringslite_CutSuffix : lowFn Tryz.prog movers 119 = some ⟨ir_internal_stringslite_CutSuffix.n, strip ir_internal_stringslite_CutSuffix.body, ir_internal_stringslite_CutSuffix.res⟩ := by kernel_rfl
end Go.Proofs.YtiimndcifcoofaaGreatDoor
namespace Go.Proofs.YtiimndcifcoofaaGreatDoor
open Go
set_option maxRecDepth 100000
def ir_slices_Compact_int : IFn := ⟨61,
 (.seq (.region [
 ⟨some 2, .mov (.const (.slice none 0 0)), none⟩])
 (.seq (.seq (.region [
 ⟨some 6, .mov (.tmp 0), none⟩,
 ⟨some 7, .len (.tmp 6), none⟩,
 ⟨some 8, .bin .lss (.tmp 7) (.const (.int .i64 2)), none⟩])
 (.cond (.tmp 8)
  (.seq (.region [
  ⟨some 9, .mov (.tmp 0), none⟩,
  ⟨some 2, .mov (.tmp 9), none⟩])
  .ret)
  .skip))
 (.seq (.seq (.region [
 ⟨some 3, .mov (.const (.int .i64 1)), none⟩])
 (.block 0
  (.loop 1152921504606846012
   (.seq (.seq (.region [
   ⟨some 10, .mov (.tmp 3), none⟩,
   ⟨some 11, .mov (.tmp 0), none⟩,
   ⟨some 12, .len (.tmp 11), none⟩,
   ⟨some 13, .bin .lss (.tmp 10) (.tmp 12), none⟩])
   (.cond (.tmp 13)
    .skip
    (.exit 0)))
   (.seq (.block 1
    (.seq (.draw (.f ⟨some 16, .mov (.tmp 0), none⟩
    (.f ⟨some 17, .mov (.tmp 3), none⟩
    (.f ⟨some 18, .ixs 1 (.tmp 16) (.tmp 17), none⟩
    (.f ⟨some 19, .ld (.tmp 18), none⟩
    (.f ⟨some 20, .mov (.tmp 0), none⟩
    (.f ⟨some 21, .mov (.tmp 3), none⟩
    (.f ⟨some 22, .bin .sub (.tmp 21) (.const (.int .i64 1)), none⟩
    (.f ⟨some 23, .ixs 1 (.tmp 20) (.tmp 22), none⟩
    (.f ⟨some 24, .ld (.tmp 23), none⟩
    (.f ⟨some 25, .bin .eql (.tmp 19) (.tmp 24), none⟩
    .done)))))))))))
    (.cond (.tmp 25)
     (.seq (.region [
     ⟨some 26, .mov (.tmp 0), none⟩,
     ⟨some 27, .mov (.tmp 3), none⟩,
     ⟨some 28, .sls 1 (.tmp 26) (some (.tmp 27)) none none, none⟩,
     ⟨some 4, .mov (.tmp 28), none⟩])
     (.seq (.seq (.region [
     ⟨some 5, .mov (.const (.int .i64 1)), none⟩])
     (.block 2
      (.loop 18014397972611112
       (.seq (.seq (.region [
       ⟨some 29, .mov (.tmp 5), none⟩,
       ⟨some 30, .mov (.tmp 4), none⟩,
       ⟨some 31, .len (.tmp 30), none⟩,
       ⟨some 32, .bin .lss (.tmp 29) (.tmp 31), none⟩])
       (.cond (.tmp 32)
        .skip
        (.exit 2)))
       (.seq (.block 3
        (.seq (.draw (.f ⟨some 35, .mov (.tmp 4), none⟩
        (.f ⟨some 36, .mov (.tmp 5), none⟩
        (.f ⟨some 37, .ixs 1 (.tmp 35) (.tmp 36), none⟩
        (.f ⟨some 38, .ld (.tmp 37), none⟩
        (.f ⟨some 39, .mov (.tmp 4), none⟩
        (.f ⟨some 40, .mov (.tmp 5), none⟩
        (.f ⟨some 41, .bin .sub (.tmp 40) (.const (.int .i64 1)), none⟩
        (.f ⟨some 42, .ixs 1 (.tmp 39) (.tmp 41), none⟩
        (.f ⟨some 43, .ld (.tmp 42), none⟩
        (.f ⟨some 44, .bin .neq (.tmp 38) (.tmp 43), none⟩
        .done)))))))))))
        (.cond (.tmp 44)
         (.seq (.region [
         ⟨some 45, .mov (.tmp 0), none⟩,
         ⟨some 46, .mov (.tmp 3), none⟩,
         ⟨some 47, .mov (.tmp 4), none⟩,
         ⟨some 48, .mov (.tmp 5), none⟩,
         ⟨some 49, .ixs 1 (.tmp 47) (.tmp 48), none⟩,
         ⟨some 50, .ld (.tmp 49), none⟩,
         ⟨some 51, .ixs 1 (.tmp 45) (.tmp 46), none⟩,
         ⟨none, .st (.tmp 51) (.tmp 50), none⟩])
         (.region [
         ⟨some 52, .mov (.tmp 3), none⟩,
         ⟨some 53, .bin .add (.tmp 52) (.const (.int .i64 1)), none⟩,
         ⟨some 3, .mov (.tmp 53), none⟩]))
         .skip)))
       (.region [
       ⟨some 33, .mov (.tmp 5), none⟩,
       ⟨some 34, .bin .add (.tmp 33) (.const (.int .i64 1)), none⟩,
       ⟨some 5, .mov (.tmp 34), none⟩]))))))
     (.seq (.region [
     ⟨some 54, .mov (.tmp 0), none⟩,
     ⟨some 55, .mov (.tmp 3), none⟩,
     ⟨some 56, .sls 1 (.tmp 54) (some (.tmp 55)) none none, none⟩,
     ⟨none, .clr [(.int .i64 0)] (.tmp 56), none⟩])
     (.seq (.region [
     ⟨some 57, .mov (.tmp 0), none⟩,
     ⟨some 58, .mov (.tmp 3), none⟩,
     ⟨some 59, .sls 1 (.tmp 57) none (some (.tmp 58)) none, none⟩,
     ⟨some 2, .mov (.tmp 59), none⟩])
     .ret))))
     .skip)))
   (.region [
   ⟨some 14, .mov (.tmp 3), none⟩,
   ⟨some 15, .bin .add (.tmp 14) (.const (.int .i64 1)), none⟩,
   ⟨some 3, .mov (.tmp 15), none⟩]))))))
 (.seq (.region [
 ⟨some 60, .mov (.tmp 0), none⟩,
 ⟨some 2, .mov (.tmp 60), none⟩])
 .ret)))),
 [.tmp 2]⟩
theorem low_slices_Compact_int : lowFn Tryz.prog movers 46 = some ⟨ir_slices_Compact_int.n, strip ir_slices_Compact_int.body, ir_slices_Compact_int.res⟩ := by kernel_rfl
end Go.Proofs.YtiimndcifcoofaaGreatDoor
namespace Go.Proofs.YtiimndcifcoofaaGreatDoor
open Go
set_option maxRecDepth 100000
def ir_law04_AsmDisassembles : IFn := ⟨101,
 (.seq (.region [
 ⟨some 6, .mov (.const (.bool false)), none⟩])
 (.seq (.seq (.region [
 ⟨some 19, .mov (.tmp 0), none⟩,
 ⟨some 20, .len (.tmp 19), none⟩,
 ⟨some 21, .bin .gtr (.tmp 20) (.const (.int .i64 70)), none⟩,
 ⟨some 22, .mov (.tmp 21), none⟩,
 ⟨some 23, .mov (.tmp 1), some (22, false)⟩,
 ⟨some 24, .len (.tmp 23), some (22, false)⟩,
 ⟨some 25, .bin .gtr (.tmp 24) (.const (.int .i64 60)), some (22, false)⟩,
 ⟨some 26, .pick (.tmp 22) (.const (.bool true)) (.tmp 25), none⟩])
 (.cond (.tmp 26)
  (.seq (.region [
  ⟨some 27, .call 23 [], none⟩,
  ⟨some 6, .mov (.tmp 27), none⟩])
  .ret)
  .skip))
 (.seq (.region [
 ⟨some 29, .mov (.tmp 0), none⟩,
 ⟨some 30, .call 27 [(.tmp 29)], none⟩,
 ⟨some 28, .mov (.tmp 30), none⟩,
 ⟨some 31, .ext (.tmp 28) 0, none⟩,
 ⟨some 32, .ext (.tmp 28) 1, none⟩,
 ⟨some 7, .mov (.tmp 31), none⟩,
 ⟨some 8, .mov (.tmp 32), none⟩])
 (.seq (.region [
 ⟨some 34, .mov (.tmp 0), none⟩,
 ⟨some 35, .call 28 [(.tmp 34)], none⟩,
 ⟨some 33, .mov (.tmp 35), none⟩,
 ⟨some 36, .ext (.tmp 33) 0, none⟩,
 ⟨some 37, .ext (.tmp 33) 1, none⟩,
 ⟨some 9, .mov (.tmp 36), none⟩,
 ⟨some 10, .mov (.tmp 37), none⟩])
 (.seq (.region [
 ⟨some 38, .mov (.tmp 1), none⟩,
 ⟨some 39, .call 29 [(.tmp 38), (.const (.int .i64 30)), (.const (.bool true)), (.const (.bool true))], none⟩,
 ⟨some 11, .mov (.tmp 39), none⟩])
 (.seq (.seq (.region [
 ⟨some 12, .mov (.const (.int .i64 0)), none⟩])
 (.block 0
  (.loop 1180591619617899704320
   (.seq (.seq (.region [
   ⟨some 40, .mov (.tmp 12), none⟩,
   ⟨some 41, .mov (.tmp 11), none⟩,
   ⟨some 42, .len (.tmp 41), none⟩,
   ⟨some 43, .bin .lss (.tmp 40) (.tmp 42), none⟩])
   (.cond (.tmp 43)
    .skip
    (.exit 0)))
   (.seq (.block 1
    (.seq (.region [
    ⟨some 47, .mov (.tmp 11), none⟩,
    ⟨some 48, .mov (.tmp 12), none⟩,
    ⟨some 49, .ixs 5 (.tmp 47) (.tmp 48), none⟩,
    ⟨some 50, .ldN 5 (.tmp 49), none⟩,
    ⟨some 51, .call 30 [(.tmp 50)], none⟩,
    ⟨some 46, .mov (.tmp 51), none⟩,
    ⟨some 52, .ext (.tmp 46) 0, none⟩,
    ⟨some 53, .ext (.tmp 46) 1, none⟩,
    ⟨some 13, .mov (.tmp 52), none⟩,
    ⟨some 14, .mov (.tmp 53), none⟩])
    (.seq (.region [
    ⟨some 54, .mov (.tmp 14), none⟩,
    ⟨some 55, .mov (.tmp 54), none⟩,
    ⟨some 56, .mov (.tmp 12), some (55, true)⟩,
    ⟨some 57, .mov (.tmp 2), some (55, true)⟩,
    ⟨some 58, .len (.tmp 57), some (55, true)⟩,
    ⟨some 59, .bin .lss (.tmp 56) (.tmp 58), some (55, true)⟩,
    ⟨some 60, .pick (.tmp 55) (.tmp 59) (.const (.bool false)), none⟩])
    (.cond (.tmp 60)
     (.region [
     ⟨some 61, .mov (.tmp 11), none⟩,
     ⟨some 62, .mov (.tmp 12), none⟩,
     ⟨some 63, .mov (.tmp 2), none⟩,
     ⟨some 64, .mov (.tmp 12), none⟩,
     ⟨some 65, .ixs 1 (.tmp 63) (.tmp 64), none⟩,
     ⟨some 66, .ld (.tmp 65), none⟩,
     ⟨some 67, .call 31 [(.tmp 66), (.const (.int .i64 40))], none⟩,
     ⟨some 68, .ixs 5 (.tmp 61) (.tmp 62), none⟩,
     ⟨some 69, .fad 4 (.tmp 68), none⟩,
     ⟨none, .st (.tmp 69) (.tmp 67), none⟩])
     .skip))))
   (.region [
   ⟨some 44, .mov (.tmp 12), none⟩,
   ⟨some 45, .bin .add (.tmp 44) (.const (.int .i64 1)), none⟩,
   ⟨some 12, .mov (.tmp 45), none⟩]))))))
 (.seq (.region [
 ⟨some 71, .mov (.tmp 11), none⟩,
 ⟨some 72, .call 27 [(.tmp 71)], none⟩,
 ⟨some 70, .mov (.tmp 72), none⟩,
 ⟨some 73, .ext (.tmp 70) 0, none⟩,
 ⟨some 74, .ext (.tmp 70) 1, none⟩,
 ⟨some 15, .mov (.tmp 73), none⟩,
 ⟨some 16, .mov (.tmp 74), none⟩])
 (.seq (.region [
 ⟨some 76, .mov (.tmp 11), none⟩,
 ⟨some 77, .call 28 [(.tmp 76)], none⟩,
 ⟨some 75, .mov (.tmp 77), none⟩,
 ⟨some 78, .ext (.tmp 75) 0, none⟩,
 ⟨some 79, .ext (.tmp 75) 1, none⟩,
 ⟨some 17, .mov (.tmp 78), none⟩,
 ⟨some 18, .mov (.tmp 79), none⟩])
 (.seq (.region [
 ⟨some 80, .mov (.tmp 7), none⟩,
 ⟨some 81, .mov (.tmp 9), none⟩,
 ⟨some 82, .sbin .eql (.tmp 80) (.tmp 81), none⟩,
 ⟨some 83, .mov (.tmp 82), none⟩,
 ⟨some 84, .mov (.tmp 8), some (83, true)⟩,
 ⟨some 85, .mov (.tmp 10), some (83, true)⟩,
 ⟨some 86, .bin .eql (.tmp 84) (.tmp 85), some (83, true)⟩,
 ⟨some 87, .pick (.tmp 83) (.tmp 86) (.const (.bool false)), none⟩,
 ⟨some 88, .mov (.tmp 87), none⟩,
 ⟨some 89, .mov (.tmp 15), some (88, true)⟩,
 ⟨some 90, .mov (.tmp 17), some (88, true)⟩,
 ⟨some 91, .sbin .eql (.tmp 89) (.tmp 90), some (88, true)⟩,
 ⟨some 92, .pick (.tmp 88) (.tmp 91) (.const (.bool false)), none⟩,
 ⟨some 93, .mov (.tmp 92), none⟩,
 ⟨some 94, .mov (.tmp 16), some (93, true)⟩,
 ⟨some 95, .mov (.tmp 18), some (93, true)⟩,
 ⟨some 96, .bin .eql (.tmp 94) (.tmp 95), some (93, true)⟩,
 ⟨some 97, .pick (.tmp 93) (.tmp 96) (.const (.bool false)), none⟩,
 ⟨some 98, .mov (.tmp 97), none⟩,
 ⟨some 99, .call 23 [], some (98, true)⟩,
 ⟨some 100, .pick (.tmp 98) (.tmp 99) (.const (.bool false)), none⟩,
 ⟨some 6, .mov (.tmp 100), none⟩])
 .ret))))))))),
 [.tmp 6]⟩
theorem low_law04_AsmDisassembles : lowFn Tryz.prog movers 5 = some ⟨ir_law04_AsmDisassembles.n, strip ir_law04_AsmDisassembles.body, ir_law04_AsmDisassembles.res⟩ := by kernel_rfl
def ir_law04_awake : IFn := ⟨43,
 (.seq (.region [
 ⟨some 0, .mov (.const (.bool false)), none⟩])
 (.seq (.region [
 ⟨some 7, .call 24 [(.const (.string ⟨#[122, 101, 114, 111, 32, 114, 49, 32, 101, 110, 100, 10, 99, 111, 110, 115, 116, 32, 114, 50, 32, 53, 32, 35, 32, 102, 105, 118, 101, 10, 101, 110, 100, 58, 10]⟩))], none⟩,
 ⟨some 6, .mov (.tmp 7), none⟩,
 ⟨some 8, .ext (.tmp 6) 0, none⟩,
 ⟨some 9, .ext (.tmp 6) 1, none⟩,
 ⟨some 10, .ext (.tmp 6) 2, none⟩,
 ⟨some 1, .mov (.tmp 8), none⟩,
 ⟨some 2, .mov (.tmp 9), none⟩,
 ⟨some 3, .mov (.tmp 10), none⟩])
 (.seq (.region [
 ⟨some 12, .bld [(.int .i64 0), (.int .i64 0), (.int .i64 0), (.int .i64 0), (.int .i64 0)] [(0, 1, (.const (.int .i64 4)))], none⟩,
 ⟨some 13, .blds 23 1 [(.int .i64 0), (.int .i64 0), (.int .i64 0), (.int .i64 0), (.int .i64 0)] [(0, 5, (.tmp 12))], none⟩,
 ⟨some 14, .call 27 [(.tmp 13)], none⟩,
 ⟨some 11, .mov (.tmp 14), none⟩,
 ⟨some 15, .ext (.tmp 11) 0, none⟩,
 ⟨some 16, .ext (.tmp 11) 1, none⟩,
 ⟨some 4, .mov (.tmp 15), none⟩,
 ⟨some 5, .mov (.tmp 16), none⟩])
 (.seq (.region [
 ⟨some 17, .mov (.tmp 3), none⟩,
 ⟨some 18, .bin .eql (.tmp 17) (.const (.int .i64 0)), none⟩,
 ⟨some 19, .mov (.tmp 18), none⟩,
 ⟨some 20, .mov (.tmp 2), some (19, true)⟩,
 ⟨some 21, .bin .eql (.tmp 20) (.const (.int .i64 0)), some (19, true)⟩,
 ⟨some 22, .pick (.tmp 19) (.tmp 21) (.const (.bool false)), none⟩,
 ⟨some 23, .mov (.tmp 22), none⟩,
 ⟨some 24, .mov (.tmp 1), some (23, true)⟩,
 ⟨some 25, .len (.tmp 24), some (23, true)⟩,
 ⟨some 26, .bin .eql (.tmp 25) (.const (.int .i64 2)), some (23, true)⟩,
 ⟨some 27, .pick (.tmp 23) (.tmp 26) (.const (.bool false)), none⟩,
 ⟨some 28, .mov (.tmp 27), none⟩,
 ⟨some 29, .mov (.tmp 1), some (28, true)⟩,
 ⟨some 30, .ixs 5 (.tmp 29) (.const (.int .i64 0)), some (28, true)⟩,
 ⟨some 31, .ldN 5 (.tmp 30), some (28, true)⟩,
 ⟨some 32, .bld [(.int .i64 0), (.int .i64 0), (.int .i64 0), (.int .i64 0), (.int .i64 0)] [(0, 1, (.const (.int .i64 5))), (1, 1, (.const (.int .i64 1))), (4, 1, (.const (.int .i64 1)))], some (28, true)⟩,
 ⟨some 33, .ageq false [0, 0, 0, 0, 0] (.tmp 31) (.tmp 32), some (28, true)⟩,
 ⟨some 34, .pick (.tmp 28) (.tmp 33) (.const (.bool false)), none⟩,
 ⟨some 35, .mov (.tmp 34), none⟩,
 ⟨some 36, .mov (.tmp 5), some (35, true)⟩,
 ⟨some 37, .bin .eql (.tmp 36) (.const (.int .i64 0)), some (35, true)⟩,
 ⟨some 38, .pick (.tmp 35) (.tmp 37) (.const (.bool false)), none⟩,
 ⟨some 39, .mov (.tmp 38), none⟩,
 ⟨some 40, .mov (.tmp 4), some (39, true)⟩,
 ⟨some 41, .sbin .eql (.tmp 40) (.const (.string ⟨#[106, 117, 109, 112, 32, 108, 49, 10, 108, 49, 58, 10]⟩)), some (39, true)⟩,
 ⟨some 42, .pick (.tmp 39) (.tmp 41) (.const (.bool false)), none⟩,
 ⟨some 0, .mov (.tmp 42), none⟩])
 .ret)))),
 [.tmp 0]⟩
theorem low_law04_awake : lowFn Tryz.prog movers 23 = some ⟨ir_law04_awake.n, strip ir_law04_awake.body, ir_law04_awake.res⟩ := by kernel_rfl
end Go.Proofs.YtiimndcifcoofaaGreatDoor
