/- What the laws share, part 10. No condition. -/
import Derived.Test.YtfompmhncnkcfaaGreatDoorY9
namespace Go.Proofs.YtfompmhncnkcfaaGreatDoor
open Go
set_option maxRecDepth 100000
def ir_sgl_Global_Do : IFn := ⟨43,
 (.seq (.region [
 ⟨some 3, .box 43 (.tmp 1), none⟩,
 ⟨some 4, .mov (.const (.int .i64 0)), none⟩])
 (.seq (.seq (.region [
 ⟨some 7, .mov (.tmp 0), none⟩,
 ⟨some 8, .nilq false 1 (.tmp 7) (.const (.pointer none)), none⟩])
 (.cond (.tmp 8)
  (.seq (.region [
  ⟨some 4, .mov (.const (.int .i64 1)), none⟩])
  .ret)
  .skip))
 (.seq (.region [
 ⟨some 10, .mov (.tmp 0), none⟩,
 ⟨some 11, .fad 0 (.tmp 3), none⟩,
 ⟨some 12, .ld (.tmp 11), none⟩,
 ⟨some 13, .call 40 [(.tmp 10), (.tmp 12)], none⟩,
 ⟨some 9, .mov (.tmp 13), none⟩,
 ⟨some 14, .ext (.tmp 9) 0, none⟩,
 ⟨some 15, .ext (.tmp 9) 1, none⟩,
 ⟨some 5, .new 69 (.agg #[.int .i64 0, .int .i64 0, .int .i64 0, .int .i64 0, .int .i64 0]), none⟩,
 ⟨none, .stN 5 (.tmp 5) (.tmp 14), none⟩,
 ⟨some 6, .mov (.tmp 15), none⟩])
 (.seq (.seq (.region [
 ⟨some 16, .mov (.tmp 6), none⟩,
 ⟨some 17, .not (.tmp 16), none⟩])
 (.cond (.tmp 17)
  (.seq (.region [
  ⟨some 4, .mov (.const (.int .i64 70)), none⟩])
  .ret)
  .skip))
 (.seq (.seq (.region [
 ⟨some 18, .fad 0 (.tmp 5), none⟩,
 ⟨some 19, .ld (.tmp 18), none⟩,
 ⟨some 20, .bin .eql (.tmp 19) (.const (.int .i64 7)), none⟩])
 (.cond (.tmp 20)
  (.region [
  ⟨some 21, .mov (.tmp 0), none⟩,
  ⟨some 22, .ldN 3 (.tmp 3), none⟩,
  ⟨some 23, .call 41 [(.tmp 21), (.tmp 22)], none⟩,
  ⟨some 6, .mov (.tmp 23), none⟩])
  (.region [
  ⟨some 24, .fad 2 (.tmp 3), none⟩,
  ⟨some 25, .ld (.tmp 24), none⟩,
  ⟨some 26, .len (.tmp 25), none⟩,
  ⟨some 27, .bin .eql (.tmp 26) (.const (.int .i64 0)), none⟩,
  ⟨some 28, .mov (.tmp 27), none⟩,
  ⟨some 29, .mov (.tmp 0), some (28, true)⟩,
  ⟨some 30, .ldN 3 (.tmp 3), some (28, true)⟩,
  ⟨some 31, .ldN 5 (.tmp 5), some (28, true)⟩,
  ⟨some 32, .call 42 [(.tmp 29), (.tmp 30), (.tmp 31)], some (28, true)⟩,
  ⟨some 33, .pick (.tmp 28) (.tmp 32) (.const (.bool false)), none⟩,
  ⟨some 6, .mov (.tmp 33), none⟩])))
 (.seq (.seq (.region [
 ⟨some 34, .mov (.tmp 6), none⟩,
 ⟨some 35, .not (.tmp 34), none⟩])
 (.cond (.tmp 35)
  (.seq (.region [
  ⟨some 4, .mov (.const (.int .i64 70)), none⟩])
  .ret)
  .skip))
 (.seq (.region [
 ⟨some 36, .mov (.tmp 0), none⟩,
 ⟨some 37, .nilc (.tmp 36), none⟩,
 ⟨some 38, .fad 19 (.tmp 37), none⟩,
 ⟨some 39, .ld (.tmp 38), none⟩,
 ⟨some 40, .bin .add (.tmp 39) (.const (.int .i64 1)), none⟩,
 ⟨some 41, .nilc (.tmp 36), none⟩,
 ⟨some 42, .fad 19 (.tmp 41), none⟩,
 ⟨none, .st (.tmp 42) (.tmp 40), none⟩])
 (.seq (.region [
 ⟨some 4, .mov (.const (.int .i64 0)), none⟩])
 .ret)))))))),
 [.tmp 4]⟩
theorem low_sgl_Global_Do : lowFn Tryz.prog movers 14 = some ⟨ir_sgl_Global_Do.n, strip ir_sgl_Global_Do.body, ir_sgl_Global_Do.res⟩ := by kernel_rfl
def ir_sgl_Run : IFn := ⟨43,
 (.seq (.region [
 ⟨some 2, .box 32 (.tmp 0), none⟩,
 ⟨some 4, .new 52 (.agg #[.slice none 0 0, .slice none 0 0, .slice none 0 0, .slice none 0 0]), none⟩,
 ⟨some 5, .mov (.const (.int .i64 0)), none⟩,
 ⟨some 6, .mov (.const (.int .i64 0)), none⟩])
 (.seq (.region [
 ⟨some 15, .ldN 16 (.tmp 2), none⟩,
 ⟨some 16, .call 11 [(.tmp 15)], none⟩,
 ⟨some 14, .mov (.tmp 16), none⟩,
 ⟨some 17, .ext (.tmp 14) 0, none⟩,
 ⟨some 18, .ext (.tmp 14) 1, none⟩,
 ⟨some 19, .ext (.tmp 14) 2, none⟩,
 ⟨some 20, .ext (.tmp 14) 3, none⟩,
 ⟨some 7, .mov (.tmp 17), none⟩,
 ⟨some 8, .mov (.tmp 18), none⟩,
 ⟨some 9, .mov (.tmp 19), none⟩,
 ⟨some 10, .mov (.tmp 20), none⟩])
 (.seq (.seq (.region [
 ⟨some 21, .mov (.tmp 10), none⟩,
 ⟨some 22, .bin .neq (.tmp 21) (.const (.int .i64 0)), none⟩])
 (.cond (.tmp 22)
  (.seq (.region [
  ⟨some 23, .bld [(.slice none 0 0), (.slice none 0 0), (.slice none 0 0), (.slice none 0 0)] [], none⟩,
  ⟨some 24, .mov (.tmp 10), none⟩,
  ⟨none, .stN 4 (.tmp 4) (.tmp 23), none⟩,
  ⟨some 5, .mov (.const (.int .i64 0)), none⟩,
  ⟨some 6, .mov (.tmp 24), none⟩])
  .ret)
  .skip))
 (.seq (.seq (.region [
 ⟨some 25, .mov (.tmp 1), none⟩,
 ⟨some 26, .len (.tmp 25), none⟩,
 ⟨some 27, .mov (.const (.int .i64 0)), none⟩])
 (.block 0
  (.loop 2198889052256
   (.seq (.region [
   ⟨some 28, .bin .lss (.tmp 27) (.tmp 26), none⟩])
   (.seq (.cond (.tmp 28)
    .skip
    (.exit 0))
   (.seq (.block 1
    (.seq (.region [
    ⟨some 29, .mov (.tmp 27), none⟩,
    ⟨some 30, .ixs 3 (.tmp 25) (.tmp 27), none⟩,
    ⟨some 31, .ldN 3 (.tmp 30), none⟩,
    ⟨some 12, .new 43 (.agg #[.int .i64 0, .int .i64 0, .slice none 0 0]), none⟩,
    ⟨some 11, .mov (.tmp 29), none⟩,
    ⟨none, .stN 3 (.tmp 12) (.tmp 31), none⟩])
    (.seq (.region [
    ⟨some 32, .mov (.tmp 7), none⟩,
    ⟨some 33, .ldN 3 (.tmp 12), none⟩,
    ⟨some 34, .call 14 [(.tmp 32), (.tmp 33)], none⟩,
    ⟨some 13, .mov (.tmp 34), none⟩])
    (.seq (.region [
    ⟨some 35, .mov (.tmp 13), none⟩,
    ⟨some 36, .bin .neq (.tmp 35) (.const (.int .i64 0)), none⟩])
    (.cond (.tmp 36)
     (.seq (.region [
     ⟨some 37, .bld [(.slice none 0 0), (.slice none 0 0), (.slice none 0 0), (.slice none 0 0)] [], none⟩,
     ⟨some 38, .mov (.tmp 11), none⟩,
     ⟨some 39, .mov (.tmp 13), none⟩,
     ⟨none, .stN 4 (.tmp 4) (.tmp 37), none⟩,
     ⟨some 5, .mov (.tmp 38), none⟩,
     ⟨some 6, .mov (.tmp 39), none⟩])
     .ret)
     .skip)))))
   (.region [
   ⟨some 40, .bin .add (.tmp 27) (.const (.int .i64 1)), none⟩,
   ⟨some 27, .mov (.tmp 40), none⟩])))))))
 (.seq (.region [
 ⟨some 41, .mov (.tmp 7), none⟩,
 ⟨some 42, .call 17 [(.tmp 41)], none⟩,
 ⟨none, .stN 4 (.tmp 4) (.tmp 42), none⟩,
 ⟨some 5, .mov (.const (.int .i64 0)), none⟩,
 ⟨some 6, .mov (.const (.int .i64 0)), none⟩])
 .ret))))),
 [.cellN 4 4, .tmp 5, .tmp 6]⟩
theorem low_sgl_Run : lowFn Tryz.prog movers 19 = some ⟨ir_sgl_Run.n, strip ir_sgl_Run.body, ir_sgl_Run.res⟩ := by kernel_rfl
def ir_sgl_Global_Next : IFn := ⟨49,
 (.seq (.region [
 ⟨some 4, .new 69 (.agg #[.int .i64 0, .int .i64 0, .int .i64 0, .int .i64 0, .int .i64 0]), none⟩,
 ⟨some 5, .mov (.const (.bool false)), none⟩])
 (.seq (.seq (.region [
 ⟨some 6, .mov (.tmp 0), none⟩,
 ⟨some 7, .nilq false 1 (.tmp 6) (.const (.pointer none)), none⟩,
 ⟨some 8, .mov (.tmp 7), none⟩,
 ⟨some 9, .mov (.tmp 1), some (8, false)⟩,
 ⟨some 10, .bin .lss (.tmp 9) (.const (.int .i64 0)), some (8, false)⟩,
 ⟨some 11, .pick (.tmp 8) (.const (.bool true)) (.tmp 10), none⟩,
 ⟨some 12, .mov (.tmp 11), none⟩,
 ⟨some 13, .mov (.tmp 1), some (12, false)⟩,
 ⟨some 14, .mov (.tmp 0), some (12, false)⟩,
 ⟨some 15, .nilc (.tmp 14), some (12, false)⟩,
 ⟨some 16, .fad 16 (.tmp 15), some (12, false)⟩,
 ⟨some 17, .ld (.tmp 16), some (12, false)⟩,
 ⟨some 18, .len (.tmp 17), some (12, false)⟩,
 ⟨some 19, .bin .geq (.tmp 13) (.tmp 18), some (12, false)⟩,
 ⟨some 20, .pick (.tmp 12) (.const (.bool true)) (.tmp 19), none⟩,
 ⟨some 21, .mov (.tmp 20), none⟩,
 ⟨some 22, .mov (.tmp 0), some (21, false)⟩,
 ⟨some 23, .nilc (.tmp 22), some (21, false)⟩,
 ⟨some 24, .fad 16 (.tmp 23), some (21, false)⟩,
 ⟨some 25, .ld (.tmp 24), some (21, false)⟩,
 ⟨some 26, .mov (.tmp 1), some (21, false)⟩,
 ⟨some 27, .ixs 11 (.tmp 25) (.tmp 26), some (21, false)⟩,
 ⟨some 28, .fad 10 (.tmp 27), some (21, false)⟩,
 ⟨some 29, .ld (.tmp 28), some (21, false)⟩,
 ⟨some 30, .pick (.tmp 21) (.const (.bool true)) (.tmp 29), none⟩])
 (.cond (.tmp 30)
  (.seq (.region [
  ⟨some 31, .bld [(.int .i64 0), (.int .i64 0), (.int .i64 0), (.int .i64 0), (.int .i64 0)] [], none⟩,
  ⟨none, .stN 5 (.tmp 4) (.tmp 31), none⟩,
  ⟨some 5, .mov (.const (.bool false)), none⟩])
  .ret)
  .skip))
 (.seq (.draw (.f ⟨some 32, .mov (.tmp 0), none⟩
 (.f ⟨some 33, .nilc (.tmp 32), none⟩
 (.f ⟨some 34, .fad 15 (.tmp 33), none⟩
 (.f ⟨some 35, .ld (.tmp 34), none⟩
 (.f ⟨some 36, .mov (.tmp 1), none⟩
 (.f ⟨some 37, .ixs 1 (.tmp 35) (.tmp 36), none⟩
 (.f ⟨some 38, .ld (.tmp 37), none⟩
 (.f ⟨some 39, .mov (.tmp 0), none⟩
 (.f ⟨some 40, .nilc (.tmp 39), none⟩
 (.f ⟨some 41, .fad 16 (.tmp 40), none⟩
 (.f ⟨some 42, .ld (.tmp 41), none⟩
 (.f ⟨some 43, .mov (.tmp 1), none⟩
 (.f ⟨some 44, .ixs 11 (.tmp 42) (.tmp 43), none⟩
 (.f ⟨some 45, .fad 0 (.tmp 44), none⟩
 (.f ⟨some 46, .ld (.tmp 45), none⟩
 (.f ⟨some 47, .ixs 5 (.tmp 38) (.tmp 46), none⟩
 (.f ⟨some 48, .ldN 5 (.tmp 47), none⟩
 (.m ⟨none, .stN 5 (.tmp 4) (.tmp 48), none⟩
 (.f ⟨some 5, .mov (.const (.bool true)), none⟩
 .done))))))))))))))))))))
 .ret))),
 [.cellN 4 5, .tmp 5]⟩
theorem low_sgl_Global_Next : lowFn Tryz.prog movers 40 = some ⟨ir_sgl_Global_Next.n, strip ir_sgl_Global_Next.body, ir_sgl_Global_Next.res⟩ := by kernel_rfl
def ir_sgl_Global_single : IFn := ⟨48,
 (.seq (.region [
 ⟨some 4, .box 43 (.tmp 1), none⟩,
 ⟨some 5, .box 69 (.tmp 2), none⟩,
 ⟨some 6, .mov (.const (.bool false)), none⟩])
 (.seq (.seq (.region [
 ⟨some 8, .fad 0 (.tmp 5), none⟩,
 ⟨some 9, .ld (.tmp 8), none⟩,
 ⟨some 10, .bin .eql (.tmp 9) (.const (.int .i64 12)), none⟩,
 ⟨some 11, .mov (.tmp 10), none⟩,
 ⟨some 12, .fad 0 (.tmp 5), some (11, false)⟩,
 ⟨some 13, .ld (.tmp 12), some (11, false)⟩,
 ⟨some 14, .bin .eql (.tmp 13) (.const (.int .i64 13)), some (11, false)⟩,
 ⟨some 15, .pick (.tmp 11) (.const (.bool true)) (.tmp 14), none⟩])
 (.cond (.tmp 15)
  (.seq (.region [
  ⟨some 16, .mov (.tmp 0), none⟩,
  ⟨some 17, .ldN 3 (.tmp 4), none⟩,
  ⟨some 18, .ldN 5 (.tmp 5), none⟩,
  ⟨some 19, .call 65 [(.tmp 16), (.tmp 17), (.tmp 18)], none⟩,
  ⟨some 6, .mov (.tmp 19), none⟩])
  .ret)
  .skip))
 (.seq (.seq (.region [
 ⟨some 20, .fad 1 (.tmp 4), none⟩,
 ⟨some 21, .ld (.tmp 20), none⟩,
 ⟨some 22, .bin .neq (.tmp 21) (.const (.int .i64 0)), none⟩])
 (.cond (.tmp 22)
  (.seq (.region [
  ⟨some 6, .mov (.const (.bool false)), none⟩])
  .ret)
  .skip))
 (.seq (.draw (.f ⟨some 23, .mov (.tmp 0), none⟩
 (.f ⟨some 24, .nilc (.tmp 23), none⟩
 (.f ⟨some 25, .fad 16 (.tmp 24), none⟩
 (.f ⟨some 26, .ld (.tmp 25), none⟩
 (.f ⟨some 27, .fad 0 (.tmp 4), none⟩
 (.f ⟨some 28, .ld (.tmp 27), none⟩
 (.f ⟨some 29, .ixs 11 (.tmp 26) (.tmp 28), none⟩
 (.f ⟨some 7, .mov (.tmp 29), none⟩
 .done)))))))))
 (.seq (.seq (.region [
 ⟨some 30, .fad 0 (.tmp 5), none⟩,
 ⟨some 31, .ld (.tmp 30), none⟩,
 ⟨some 32, .bin .eql (.tmp 31) (.const (.int .i64 16)), none⟩])
 (.cond (.tmp 32)
  (.draw (.f ⟨some 33, .mov (.tmp 0), none⟩
  (.f ⟨some 34, .fad 0 (.tmp 4), none⟩
  (.f ⟨some 35, .ld (.tmp 34), none⟩
  (.f ⟨some 36, .mov (.tmp 7), none⟩
  (.f ⟨some 37, .nilc (.tmp 36), none⟩
  (.f ⟨some 38, .fad 0 (.tmp 37), none⟩
  (.f ⟨some 39, .ld (.tmp 38), none⟩
  (.m ⟨some 40, .call 62 [(.tmp 33), (.tmp 35), (.tmp 39), (.const (.int .i64 6)), (.const (.int .u64 0))], none⟩
  .done)))))))))
  .skip))
 (.seq (.draw (.f ⟨some 41, .mov (.tmp 0), none⟩
 (.f ⟨some 42, .fad 0 (.tmp 4), none⟩
 (.f ⟨some 44, .mov (.tmp 7), none⟩
 (.f ⟨some 45, .ldN 5 (.tmp 5), none⟩
 (.both (.f ⟨some 43, .ld (.tmp 42), none⟩
  (.m ⟨some 46, .call 66 [(.tmp 44), (.tmp 45)], none⟩
  (.m ⟨some 47, .call 63 [(.tmp 41), (.tmp 43), (.tmp 46)], none⟩
  .done)))
 (.m ⟨some 46, .call 66 [(.tmp 44), (.tmp 45)], none⟩
  (.f ⟨some 43, .ld (.tmp 42), none⟩
  (.m ⟨some 47, .call 63 [(.tmp 41), (.tmp 43), (.tmp 46)], none⟩
  .done)))))))))
 (.seq (.region [
 ⟨some 6, .mov (.const (.bool true)), none⟩])
 .ret))))))),
 [.tmp 6]⟩
theorem low_sgl_Global_single : lowFn Tryz.prog movers 42 = some ⟨ir_sgl_Global_single.n, strip ir_sgl_Global_single.body, ir_sgl_Global_single.res⟩ := by kernel_rfl
def ir_sgl_memory_clone : IFn := ⟨10,
 (.seq (.region [
 ⟨some 1, .box 89 (.tmp 0), none⟩,
 ⟨some 2, .new 89 (.agg #[.slice none 0 0, .map none]), none⟩])
 (.seq (.draw (.f ⟨some 3, .fad 0 (.tmp 1), none⟩
 (.f ⟨some 4, .ld (.tmp 3), none⟩
 (.f ⟨some 6, .fad 1 (.tmp 1), none⟩
 (.both (.m ⟨some 5, .call 31 [(.tmp 4)], none⟩
  (.f ⟨some 7, .ld (.tmp 6), none⟩
  (.m ⟨some 8, .call 82 [(.tmp 7)], none⟩
  (.f ⟨some 9, .bld [(.slice none 0 0), (.map none)] [(0, 1, (.tmp 5)), (1, 1, (.tmp 8))], none⟩
  (.m ⟨none, .stN 2 (.tmp 2) (.tmp 9), none⟩
  .done)))))
 (.f ⟨some 7, .ld (.tmp 6), none⟩
  (.m ⟨some 5, .call 31 [(.tmp 4)], none⟩
  (.m ⟨some 8, .call 82 [(.tmp 7)], none⟩
  (.f ⟨some 9, .bld [(.slice none 0 0), (.map none)] [(0, 1, (.tmp 5)), (1, 1, (.tmp 8))], none⟩
  (.m ⟨none, .stN 2 (.tmp 2) (.tmp 9), none⟩
  .done))))))))))
 .ret)),
 [.cellN 2 2]⟩
theorem low_sgl_memory_clone : lowFn Tryz.prog movers 59 = some ⟨ir_sgl_memory_clone.n, strip ir_sgl_memory_clone.body, ir_sgl_memory_clone.res⟩ := by kernel_rfl
def ir_sgl_transaction_run : IFn := ⟨36,
 (.seq (.region [
 ⟨some 4, .mov (.const (.bool false)), none⟩])
 (.seq (.region [
 ⟨some 5, .mov (.tmp 0), none⟩,
 ⟨some 6, .nilc (.tmp 5), none⟩,
 ⟨some 7, .fad 15 (.tmp 6), none⟩,
 ⟨some 8, .fad 0 (.tmp 7), none⟩,
 ⟨some 9, .ld (.tmp 8), none⟩,
 ⟨some 10, .bin .add (.tmp 9) (.const (.int .i64 1)), none⟩,
 ⟨some 11, .nilc (.tmp 5), none⟩,
 ⟨some 12, .fad 15 (.tmp 11), none⟩,
 ⟨some 13, .fad 0 (.tmp 12), none⟩,
 ⟨none, .st (.tmp 13) (.tmp 10), none⟩])
 (.seq (.block 0
  (.loop 1073725456
   (.seq (.seq (.region [
   ⟨some 14, .mov (.tmp 0), none⟩,
   ⟨some 15, .nilc (.tmp 14), none⟩,
   ⟨some 16, .fad 30 (.tmp 15), none⟩,
   ⟨some 17, .ld (.tmp 16), none⟩,
   ⟨some 18, .bin .eql (.tmp 17) (.const (.int .i64 0)), none⟩])
   (.cond (.tmp 18)
    .skip
    (.exit 0)))
   (.block 1
    (.seq (.region [
    ⟨some 19, .mov (.tmp 0), none⟩,
    ⟨some 20, .mov (.tmp 1), none⟩,
    ⟨some 21, .mov (.tmp 0), none⟩,
    ⟨some 22, .nilc (.tmp 21), none⟩,
    ⟨some 23, .fad 15 (.tmp 22), none⟩,
    ⟨some 24, .fad 0 (.tmp 23), none⟩,
    ⟨some 25, .ld (.tmp 24), none⟩,
    ⟨some 26, .ixs 5 (.tmp 20) (.tmp 25), none⟩,
    ⟨some 27, .ldN 5 (.tmp 26), none⟩,
    ⟨some 28, .call 83 [(.tmp 19), (.tmp 27)], none⟩,
    ⟨some 29, .not (.tmp 28), none⟩])
    (.cond (.tmp 29)
     (.seq (.region [
     ⟨some 4, .mov (.const (.bool false)), none⟩])
     .ret)
     .skip))))))
 (.seq (.region [
 ⟨some 30, .mov (.tmp 0), none⟩,
 ⟨some 31, .nilc (.tmp 30), none⟩,
 ⟨some 32, .fad 26 (.tmp 31), none⟩,
 ⟨some 33, .ld (.tmp 32), none⟩,
 ⟨some 34, .len (.tmp 33), none⟩,
 ⟨some 35, .bin .eql (.tmp 34) (.const (.int .i64 0)), none⟩,
 ⟨some 4, .mov (.tmp 35), none⟩])
 .ret)))),
 [.tmp 4]⟩
theorem low_sgl_transaction_run : lowFn Tryz.prog movers 60 = some ⟨ir_sgl_transaction_run.n, strip ir_sgl_transaction_run.body, ir_sgl_transaction_run.res⟩ := by kernel_rfl
def ir_sgl_Global_commit : IFn := ⟨67,
 (.seq (.region [
 ⟨some 7, .mov (.tmp 1), none⟩,
 ⟨some 8, .mov (.tmp 2), none⟩,
 ⟨some 9, .nilc (.tmp 8), none⟩,
 ⟨some 10, .fad 27 (.tmp 9), none⟩,
 ⟨some 11, .ld (.tmp 10), none⟩,
 ⟨some 12, .bld [(.int .i64 0), (.int .i64 0), (.int .i64 0), (.int .i64 0), (.slice none 0 0), (.slice none 0 0)] [(1, 1, (.tmp 7)), (2, 1, (.const (.int .i64 4))), (4, 1, (.tmp 11))], none⟩,
 ⟨some 6, .new 75 (.agg #[.int .i64 0, .int .i64 0, .int .i64 0, .int .i64 0, .slice none 0 0, .slice none 0 0]), none⟩,
 ⟨none, .stN 6 (.tmp 6) (.tmp 12), none⟩])
 (.seq (.seq (.region [
 ⟨some 13, .mov (.tmp 2), none⟩,
 ⟨some 14, .nilc (.tmp 13), none⟩,
 ⟨some 15, .fad 30 (.tmp 14), none⟩,
 ⟨some 16, .ld (.tmp 15), none⟩,
 ⟨some 17, .bin .eql (.tmp 16) (.const (.int .i64 1)), none⟩])
 (.cond (.tmp 17)
  (.seq (.region [
  ⟨some 18, .mov (.tmp 0), none⟩,
  ⟨some 19, .mov (.tmp 2), none⟩,
  ⟨some 20, .nilc (.tmp 19), none⟩,
  ⟨some 21, .fad 0 (.tmp 20), none⟩,
  ⟨some 22, .ldN 2 (.tmp 21), none⟩,
  ⟨some 23, .nilc (.tmp 18), none⟩,
  ⟨some 24, .fad 0 (.tmp 23), none⟩,
  ⟨none, .stN 2 (.tmp 24) (.tmp 22), none⟩])
  (.seq (.draw (.f ⟨some 25, .mov (.tmp 0), none⟩
  (.f ⟨some 26, .nilc (.tmp 25), none⟩
  (.f ⟨some 27, .fad 16 (.tmp 26), none⟩
  (.f ⟨some 28, .ld (.tmp 27), none⟩
  (.f ⟨some 29, .mov (.tmp 1), none⟩
  (.f ⟨some 30, .mov (.tmp 2), none⟩
  (.f ⟨some 31, .nilc (.tmp 30), none⟩
  (.f ⟨some 32, .fad 15 (.tmp 31), none⟩
  (.f ⟨some 33, .fad 1 (.tmp 32), none⟩
  (.f ⟨some 34, .ldN 8 (.tmp 33), none⟩
  (.f ⟨some 35, .ixs 11 (.tmp 28) (.tmp 29), none⟩
  (.f ⟨some 36, .fad 1 (.tmp 35), none⟩
  (.m ⟨none, .stN 8 (.tmp 36) (.tmp 34), none⟩
  .done))))))))))))))
  (.seq (.draw (.f ⟨some 37, .mov (.tmp 0), none⟩
  (.f ⟨some 38, .nilc (.tmp 37), none⟩
  (.f ⟨some 39, .fad 18 (.tmp 38), none⟩
  (.f ⟨some 41, .mov (.tmp 1), none⟩
  (.f ⟨some 42, .mov (.tmp 0), none⟩
  (.f ⟨some 43, .nilc (.tmp 42), none⟩
  (.f ⟨some 44, .fad 18 (.tmp 43), none⟩
  (.f ⟨some 45, .ld (.tmp 44), none⟩
  (.f ⟨some 46, .mov (.tmp 1), none⟩
  (.f ⟨some 47, .ixs 1 (.tmp 45) (.tmp 46), none⟩
  (.f ⟨some 48, .ld (.tmp 47), none⟩
  (.f ⟨some 49, .mov (.tmp 2), none⟩
  (.f ⟨some 50, .nilc (.tmp 49), none⟩
  (.f ⟨some 51, .fad 29 (.tmp 50), none⟩
  (.f ⟨some 52, .ld (.tmp 51), none⟩
  (.both (.f ⟨some 40, .ld (.tmp 39), none⟩
   (.m ⟨some 53, .app 106 3 24 [(.int .i64 0), (.int .i64 0), (.int .u64 0)] (.tmp 48) (.tmp 52), none⟩
   (.f ⟨some 54, .ixs 1 (.tmp 40) (.tmp 41), none⟩
   (.m ⟨none, .st (.tmp 54) (.tmp 53), none⟩
   .done))))
  (.m ⟨some 53, .app 106 3 24 [(.int .i64 0), (.int .i64 0), (.int .u64 0)] (.tmp 48) (.tmp 52), none⟩
   (.f ⟨some 40, .ld (.tmp 39), none⟩
   (.f ⟨some 54, .ixs 1 (.tmp 40) (.tmp 41), none⟩
   (.m ⟨none, .st (.tmp 54) (.tmp 53), none⟩
   .done)))))))))))))))))))))
  (.region [
  ⟨some 55, .mov (.tmp 2), none⟩,
  ⟨some 56, .nilc (.tmp 55), none⟩,
  ⟨some 57, .fad 28 (.tmp 56), none⟩,
  ⟨some 58, .ld (.tmp 57), none⟩,
  ⟨some 59, .fad 5 (.tmp 6), none⟩,
  ⟨none, .st (.tmp 59) (.tmp 58), none⟩]))))
  .skip))
 (.seq (.region [
 ⟨some 60, .mov (.tmp 0), none⟩,
 ⟨some 61, .mov (.tmp 1), none⟩,
 ⟨some 62, .bld [(.int .i64 0), (.int .i64 0), (.int .i64 0), (.int .i64 0), (.slice none 0 0), (.slice none 0 0)] [(1, 1, (.tmp 61)), (2, 1, (.const (.int .i64 3)))], none⟩,
 ⟨some 63, .call 84 [(.tmp 60), (.tmp 62)], none⟩])
 (.region [
 ⟨some 64, .mov (.tmp 0), none⟩,
 ⟨some 65, .ldN 6 (.tmp 6), none⟩,
 ⟨some 66, .call 84 [(.tmp 64), (.tmp 65)], none⟩])))),
 []⟩
theorem low_sgl_Global_commit : lowFn Tryz.prog movers 61 = some ⟨ir_sgl_Global_commit.n, strip ir_sgl_Global_commit.body, ir_sgl_Global_commit.res⟩ := by kernel_rfl
def ir_sgl_Global_observe : IFn := ⟨29,
 (.draw (.f ⟨some 10, .mov (.tmp 0), none⟩
 (.f ⟨some 11, .nilc (.tmp 10), none⟩
 (.f ⟨some 12, .fad 18 (.tmp 11), none⟩
 (.f ⟨some 14, .mov (.tmp 1), none⟩
 (.f ⟨some 15, .mov (.tmp 0), none⟩
 (.f ⟨some 16, .nilc (.tmp 15), none⟩
 (.f ⟨some 17, .fad 18 (.tmp 16), none⟩
 (.f ⟨some 18, .ld (.tmp 17), none⟩
 (.f ⟨some 19, .mov (.tmp 1), none⟩
 (.f ⟨some 20, .ixs 1 (.tmp 18) (.tmp 19), none⟩
 (.f ⟨some 21, .ld (.tmp 20), none⟩
 (.f ⟨some 22, .mov (.tmp 2), none⟩
 (.f ⟨some 23, .mov (.tmp 3), none⟩
 (.f ⟨some 24, .mov (.tmp 4), none⟩
 (.f ⟨some 25, .bld [(.int .i64 0), (.int .i64 0), (.int .u64 0)] [(0, 1, (.tmp 22)), (1, 1, (.tmp 23)), (2, 1, (.tmp 24))], none⟩
 (.both (.f ⟨some 13, .ld (.tmp 12), none⟩
  (.m ⟨some 26, .blds 106 1 [(.int .i64 0), (.int .i64 0), (.int .u64 0)] [(0, 3, (.tmp 25))], none⟩
  (.m ⟨some 27, .app 106 3 24 [(.int .i64 0), (.int .i64 0), (.int .u64 0)] (.tmp 21) (.tmp 26), none⟩
  (.f ⟨some 28, .ixs 1 (.tmp 13) (.tmp 14), none⟩
  (.m ⟨none, .st (.tmp 28) (.tmp 27), none⟩
  .done)))))
 (.m ⟨some 26, .blds 106 1 [(.int .i64 0), (.int .i64 0), (.int .u64 0)] [(0, 3, (.tmp 25))], none⟩
  (.both (.f ⟨some 13, .ld (.tmp 12), none⟩
   (.m ⟨some 27, .app 106 3 24 [(.int .i64 0), (.int .i64 0), (.int .u64 0)] (.tmp 21) (.tmp 26), none⟩
   (.f ⟨some 28, .ixs 1 (.tmp 13) (.tmp 14), none⟩
   (.m ⟨none, .st (.tmp 28) (.tmp 27), none⟩
   .done))))
  (.m ⟨some 27, .app 106 3 24 [(.int .i64 0), (.int .i64 0), (.int .u64 0)] (.tmp 21) (.tmp 26), none⟩
   (.f ⟨some 13, .ld (.tmp 12), none⟩
   (.f ⟨some 28, .ixs 1 (.tmp 13) (.tmp 14), none⟩
   (.m ⟨none, .st (.tmp 28) (.tmp 27), none⟩
   .done))))))))))))))))))))))),
 []⟩
theorem low_sgl_Global_observe : lowFn Tryz.prog movers 62 = some ⟨ir_sgl_Global_observe.n, strip ir_sgl_Global_observe.body, ir_sgl_Global_observe.res⟩ := by kernel_rfl
def ir_sgl_Global_to : IFn := ⟨31,
 (.draw (.f ⟨some 6, .mov (.tmp 0), none⟩
 (.f ⟨some 7, .nilc (.tmp 6), none⟩
 (.f ⟨some 8, .fad 16 (.tmp 7), none⟩
 (.f ⟨some 9, .ld (.tmp 8), none⟩
 (.f ⟨some 10, .mov (.tmp 1), none⟩
 (.f ⟨some 11, .mov (.tmp 0), none⟩
 (.f ⟨some 12, .nilc (.tmp 11), none⟩
 (.f ⟨some 13, .fad 16 (.tmp 12), none⟩
 (.f ⟨some 14, .ld (.tmp 13), none⟩
 (.f ⟨some 15, .mov (.tmp 1), none⟩
 (.f ⟨some 16, .mov (.tmp 2), none⟩
 (.f ⟨some 17, .mov (.tmp 2), none⟩
 (.f ⟨some 18, .mov (.tmp 0), none⟩
 (.f ⟨some 19, .nilc (.tmp 18), none⟩
 (.f ⟨some 20, .fad 15 (.tmp 19), none⟩
 (.f ⟨some 21, .ld (.tmp 20), none⟩
 (.f ⟨some 22, .mov (.tmp 1), none⟩
 (.f ⟨some 23, .ixs 1 (.tmp 21) (.tmp 22), none⟩
 (.f ⟨some 24, .ld (.tmp 23), none⟩
 (.f ⟨some 25, .len (.tmp 24), none⟩
 (.f ⟨some 26, .bin .eql (.tmp 17) (.tmp 25), none⟩
 (.f ⟨some 27, .ixs 11 (.tmp 9) (.tmp 10), none⟩
 (.f ⟨some 28, .fad 0 (.tmp 27), none⟩
 (.m ⟨none, .st (.tmp 28) (.tmp 16), none⟩
 (.f ⟨some 29, .ixs 11 (.tmp 14) (.tmp 15), none⟩
 (.f ⟨some 30, .fad 10 (.tmp 29), none⟩
 (.m ⟨none, .st (.tmp 30) (.tmp 26), none⟩
 .done)))))))))))))))))))))))))))),
 []⟩
theorem low_sgl_Global_to : lowFn Tryz.prog movers 63 = some ⟨ir_sgl_Global_to.n, strip ir_sgl_Global_to.body, ir_sgl_Global_to.res⟩ := by kernel_rfl
def ir_sgl_local : IFn := ⟨110,
 (.seq (.region [
 ⟨some 3, .box 69 (.tmp 1), none⟩,
 ⟨some 4, .mov (.const (.int .i64 0)), none⟩])
 (.seq (.region [
 ⟨some 7, .mov (.tmp 0), none⟩,
 ⟨some 8, .nilc (.tmp 7), none⟩,
 ⟨some 9, .fad 1 (.tmp 8), none⟩,
 ⟨some 5, .mov (.tmp 9), none⟩])
 (.seq (.region [
 ⟨some 10, .mov (.tmp 0), none⟩,
 ⟨some 11, .nilc (.tmp 10), none⟩,
 ⟨some 12, .fad 0 (.tmp 11), none⟩,
 ⟨some 13, .ld (.tmp 12), none⟩,
 ⟨some 14, .bin .add (.tmp 13) (.const (.int .i64 1)), none⟩,
 ⟨some 6, .mov (.tmp 14), none⟩])
 (.seq (.seq (.region [
 ⟨some 15, .fad 0 (.tmp 3), none⟩,
 ⟨some 16, .ld (.tmp 15), none⟩])
 (.block 0
  (.seq (.region [
  ⟨some 18, .bin .eql (.tmp 16) (.const (.int .i64 1)), none⟩,
  ⟨some 17, .mov (.tmp 18), none⟩])
  (.cond (.tmp 17)
   (.draw (.f ⟨some 19, .mov (.tmp 5), none⟩
   (.f ⟨some 20, .fad 1 (.tmp 3), none⟩
   (.f ⟨some 21, .ld (.tmp 20), none⟩
   (.f ⟨some 22, .fad 4 (.tmp 3), none⟩
   (.f ⟨some 23, .ld (.tmp 22), none⟩
   (.f ⟨some 24, .conv .u64 (.tmp 23), none⟩
   (.f ⟨some 25, .nilc (.tmp 19), none⟩
   (.f ⟨some 26, .ixa 8 1 (.tmp 25) (.tmp 21), none⟩
   (.m ⟨none, .st (.tmp 26) (.tmp 24), none⟩
   .done))))))))))
   (.seq (.region [
   ⟨some 28, .bin .eql (.tmp 16) (.const (.int .i64 2)), none⟩,
   ⟨some 27, .mov (.tmp 28), none⟩])
   (.cond (.tmp 27)
    (.draw (.f ⟨some 29, .mov (.tmp 5), none⟩
    (.f ⟨some 30, .fad 1 (.tmp 3), none⟩
    (.f ⟨some 31, .ld (.tmp 30), none⟩
    (.f ⟨some 32, .mov (.tmp 5), none⟩
    (.f ⟨some 33, .fad 2 (.tmp 3), none⟩
    (.f ⟨some 34, .ld (.tmp 33), none⟩
    (.f ⟨some 35, .nilc (.tmp 32), none⟩
    (.f ⟨some 36, .ixa 8 1 (.tmp 35) (.tmp 34), none⟩
    (.f ⟨some 37, .ld (.tmp 36), none⟩
    (.f ⟨some 38, .nilc (.tmp 29), none⟩
    (.f ⟨some 39, .ixa 8 1 (.tmp 38) (.tmp 31), none⟩
    (.m ⟨none, .st (.tmp 39) (.tmp 37), none⟩
    .done)))))))))))))
    (.seq (.region [
    ⟨some 41, .bin .eql (.tmp 16) (.const (.int .i64 3)), none⟩,
    ⟨some 40, .mov (.tmp 41), none⟩])
    (.cond (.tmp 40)
     (.draw (.f ⟨some 43, .mov (.tmp 5), none⟩
     (.f ⟨some 44, .fad 1 (.tmp 3), none⟩
     (.f ⟨some 45, .ld (.tmp 44), none⟩
     (.f ⟨some 46, .fad 4 (.tmp 3), none⟩
     (.f ⟨some 47, .ld (.tmp 46), none⟩
     (.f ⟨some 48, .mov (.tmp 5), none⟩
     (.f ⟨some 49, .fad 2 (.tmp 3), none⟩
     (.f ⟨some 50, .ld (.tmp 49), none⟩
     (.f ⟨some 51, .nilc (.tmp 48), none⟩
     (.f ⟨some 52, .ixa 8 1 (.tmp 51) (.tmp 50), none⟩
     (.f ⟨some 53, .ld (.tmp 52), none⟩
     (.f ⟨some 54, .mov (.tmp 5), none⟩
     (.f ⟨some 55, .fad 3 (.tmp 3), none⟩
     (.f ⟨some 56, .ld (.tmp 55), none⟩
     (.f ⟨some 57, .nilc (.tmp 54), none⟩
     (.f ⟨some 58, .ixa 8 1 (.tmp 57) (.tmp 56), none⟩
     (.f ⟨some 59, .ld (.tmp 58), none⟩
     (.f ⟨some 60, .call 89 [(.tmp 47), (.tmp 53), (.tmp 59)], none⟩
     (.f ⟨some 42, .mov (.tmp 60), none⟩
     (.f ⟨some 61, .ext (.tmp 42) 0, none⟩
     (.f ⟨some 62, .ext (.tmp 42) 1, none⟩
     (.f ⟨some 63, .nilc (.tmp 43), none⟩
     (.f ⟨some 64, .ixa 8 1 (.tmp 63) (.tmp 45), none⟩
     (.m ⟨none, .st (.tmp 64) (.tmp 61), none⟩
     .done)))))))))))))))))))))))))
     (.seq (.region [
     ⟨some 66, .bin .eql (.tmp 16) (.const (.int .i64 17)), none⟩,
     ⟨some 65, .mov (.tmp 66), none⟩])
     (.cond (.tmp 65)
      (.draw (.f ⟨some 67, .mov (.tmp 5), none⟩
      (.f ⟨some 68, .fad 1 (.tmp 3), none⟩
      (.f ⟨some 69, .ld (.tmp 68), none⟩
      (.f ⟨some 70, .mov (.tmp 0), none⟩
      (.f ⟨some 71, .nilc (.tmp 70), none⟩
      (.f ⟨some 72, .fad 9 (.tmp 71), none⟩
      (.f ⟨some 73, .ld (.tmp 72), none⟩
      (.f ⟨some 74, .conv .u64 (.tmp 73), none⟩
      (.f ⟨some 75, .nilc (.tmp 67), none⟩
      (.f ⟨some 76, .ixa 8 1 (.tmp 75) (.tmp 69), none⟩
      (.m ⟨none, .st (.tmp 76) (.tmp 74), none⟩
      .done))))))))))))
      (.seq (.region [
      ⟨some 78, .bin .eql (.tmp 16) (.const (.int .i64 4)), none⟩,
      ⟨some 77, .mov (.tmp 78), none⟩])
      (.cond (.tmp 77)
       (.region [
       ⟨some 79, .mov (.tmp 6), none⟩,
       ⟨some 80, .fad 4 (.tmp 3), none⟩,
       ⟨some 81, .ld (.tmp 80), none⟩,
       ⟨some 82, .bin .add (.tmp 79) (.tmp 81), none⟩,
       ⟨some 6, .mov (.tmp 82), none⟩])
       (.seq (.region [
       ⟨some 84, .bin .eql (.tmp 16) (.const (.int .i64 5)), none⟩,
       ⟨some 83, .mov (.tmp 84), none⟩])
       (.cond (.tmp 83)
        (.seq (.draw (.f ⟨some 85, .mov (.tmp 5), none⟩
        (.f ⟨some 86, .fad 1 (.tmp 3), none⟩
        (.f ⟨some 87, .ld (.tmp 86), none⟩
        (.f ⟨some 88, .nilc (.tmp 85), none⟩
        (.f ⟨some 89, .ixa 8 1 (.tmp 88) (.tmp 87), none⟩
        (.f ⟨some 90, .ld (.tmp 89), none⟩
        (.f ⟨some 91, .bin .eql (.tmp 90) (.const (.int .u64 0)), none⟩
        .done))))))))
        (.cond (.tmp 91)
         (.region [
         ⟨some 92, .mov (.tmp 6), none⟩,
         ⟨some 93, .fad 4 (.tmp 3), none⟩,
         ⟨some 94, .ld (.tmp 93), none⟩,
         ⟨some 95, .bin .add (.tmp 92) (.tmp 94), none⟩,
         ⟨some 6, .mov (.tmp 95), none⟩])
         .skip))
        (.seq (.region [
        ⟨some 97, .bin .eql (.tmp 16) (.const (.int .i64 6)), none⟩,
        ⟨some 96, .mov (.tmp 97), none⟩])
        (.cond (.tmp 96)
         (.seq (.draw (.f ⟨some 98, .mov (.tmp 5), none⟩
         (.f ⟨some 99, .fad 1 (.tmp 3), none⟩
         (.f ⟨some 100, .ld (.tmp 99), none⟩
         (.f ⟨some 101, .nilc (.tmp 98), none⟩
         (.f ⟨some 102, .ixa 8 1 (.tmp 101) (.tmp 100), none⟩
         (.f ⟨some 103, .ld (.tmp 102), none⟩
         (.f ⟨some 104, .bin .neq (.tmp 103) (.const (.int .u64 0)), none⟩
         .done))))))))
         (.cond (.tmp 104)
          (.region [
          ⟨some 105, .mov (.tmp 6), none⟩,
          ⟨some 106, .fad 4 (.tmp 3), none⟩,
          ⟨some 107, .ld (.tmp 106), none⟩,
          ⟨some 108, .bin .add (.tmp 105) (.tmp 107), none⟩,
          ⟨some 6, .mov (.tmp 108), none⟩])
          .skip))
         .skip))))))))))))))))
 (.seq (.region [
 ⟨some 109, .mov (.tmp 6), none⟩,
 ⟨some 4, .mov (.tmp 109), none⟩])
 .ret))))),
 [.tmp 4]⟩
theorem low_sgl_local : lowFn Tryz.prog movers 66 = some ⟨ir_sgl_local.n, strip ir_sgl_local.body, ir_sgl_local.res⟩ := by kernel_rfl
def ir_sgl_transaction_step : IFn := ⟨51,
 (.seq (.region [
 ⟨some 3, .box 69 (.tmp 1), none⟩,
 ⟨some 4, .mov (.const (.bool false)), none⟩])
 (.seq (.region [
 ⟨some 6, .mov (.tmp 0), none⟩,
 ⟨some 7, .nilc (.tmp 6), none⟩,
 ⟨some 8, .fad 15 (.tmp 7), none⟩,
 ⟨some 9, .fad 0 (.tmp 8), none⟩,
 ⟨some 10, .ld (.tmp 9), none⟩,
 ⟨some 11, .bin .add (.tmp 10) (.const (.int .i64 1)), none⟩,
 ⟨some 5, .mov (.tmp 11), none⟩])
 (.seq (.seq (.region [
 ⟨some 12, .fad 0 (.tmp 3), none⟩,
 ⟨some 13, .ld (.tmp 12), none⟩])
 (.block 0
  (.seq (.seq (.region [
  ⟨some 20, .bin .eql (.tmp 13) (.const (.int .i64 10)), none⟩,
  ⟨some 19, .mov (.tmp 20), none⟩])
  (.cond (.tmp 19)
   .skip
   (.region [
   ⟨some 21, .bin .eql (.tmp 13) (.const (.int .i64 11)), none⟩,
   ⟨some 19, .mov (.tmp 21), none⟩])))
  (.cond (.tmp 19)
   (.region [
   ⟨some 22, .mov (.tmp 0), none⟩,
   ⟨some 23, .ldN 5 (.tmp 3), none⟩,
   ⟨some 24, .call 100 [(.tmp 22), (.tmp 23)], none⟩])
   (.seq (.region [
   ⟨some 26, .bin .eql (.tmp 13) (.const (.int .i64 14)), none⟩,
   ⟨some 25, .mov (.tmp 26), none⟩])
   (.cond (.tmp 25)
    (.seq (.region [
    ⟨some 27, .mov (.tmp 0), none⟩,
    ⟨some 28, .ldN 5 (.tmp 3), none⟩,
    ⟨some 29, .call 101 [(.tmp 27), (.tmp 28)], none⟩,
    ⟨some 30, .not (.tmp 29), none⟩])
    (.cond (.tmp 30)
     (.seq (.region [
     ⟨some 4, .mov (.const (.bool false)), none⟩])
     .ret)
     .skip))
    (.seq (.region [
    ⟨some 32, .bin .eql (.tmp 13) (.const (.int .i64 15)), none⟩,
    ⟨some 31, .mov (.tmp 32), none⟩])
    (.cond (.tmp 31)
     (.region [
     ⟨some 33, .mov (.tmp 0), none⟩,
     ⟨some 34, .ldN 5 (.tmp 3), none⟩,
     ⟨some 35, .call 102 [(.tmp 33), (.tmp 34)], none⟩])
     (.seq (.region [
     ⟨some 37, .bin .eql (.tmp 13) (.const (.int .i64 8)), none⟩,
     ⟨some 36, .mov (.tmp 37), none⟩])
     (.cond (.tmp 36)
      (.region [
      ⟨some 38, .mov (.tmp 0), none⟩,
      ⟨some 39, .nilc (.tmp 38), none⟩,
      ⟨some 40, .fad 30 (.tmp 39), none⟩,
      ⟨none, .st (.tmp 40) (.const (.int .i64 1)), none⟩])
      (.seq (.region [
      ⟨some 42, .bin .eql (.tmp 13) (.const (.int .i64 9)), none⟩,
      ⟨some 41, .mov (.tmp 42), none⟩])
      (.cond (.tmp 41)
       (.region [
       ⟨some 43, .mov (.tmp 0), none⟩,
       ⟨some 44, .nilc (.tmp 43), none⟩,
       ⟨some 45, .fad 30 (.tmp 44), none⟩,
       ⟨none, .st (.tmp 45) (.const (.int .i64 2)), none⟩])
       (.draw (.f ⟨some 14, .mov (.tmp 0), none⟩
       (.f ⟨some 15, .nilc (.tmp 14), none⟩
       (.f ⟨some 16, .fad 15 (.tmp 15), none⟩
       (.f ⟨some 17, .ldN 5 (.tmp 3), none⟩
       (.m ⟨some 18, .call 66 [(.tmp 16), (.tmp 17)], none⟩
       (.f ⟨some 5, .mov (.tmp 18), none⟩
       .done)))))))))))))))))))
 (.seq (.region [
 ⟨some 46, .mov (.tmp 0), none⟩,
 ⟨some 47, .mov (.tmp 5), none⟩,
 ⟨some 48, .nilc (.tmp 46), none⟩,
 ⟨some 49, .fad 15 (.tmp 48), none⟩,
 ⟨some 50, .fad 0 (.tmp 49), none⟩,
 ⟨none, .st (.tmp 50) (.tmp 47), none⟩])
 (.seq (.region [
 ⟨some 4, .mov (.const (.bool true)), none⟩])
 .ret))))),
 [.tmp 4]⟩
theorem low_sgl_transaction_step : lowFn Tryz.prog movers 83 = some ⟨ir_sgl_transaction_step.n, strip ir_sgl_transaction_step.body, ir_sgl_transaction_step.res⟩ := by kernel_rfl
def ir_sgl_Global_event : IFn := ⟨19,
 (.seq (.region [
 ⟨some 3, .box 75 (.tmp 1), none⟩])
 (.seq (.region [
 ⟨some 4, .mov (.tmp 0), none⟩,
 ⟨some 5, .nilc (.tmp 4), none⟩,
 ⟨some 6, .fad 19 (.tmp 5), none⟩,
 ⟨some 7, .ld (.tmp 6), none⟩,
 ⟨some 8, .fad 0 (.tmp 3), none⟩,
 ⟨none, .st (.tmp 8) (.tmp 7), none⟩])
 (.draw (.f ⟨some 9, .mov (.tmp 0), none⟩
 (.f ⟨some 10, .mov (.tmp 0), none⟩
 (.f ⟨some 11, .nilc (.tmp 10), none⟩
 (.f ⟨some 12, .fad 17 (.tmp 11), none⟩
 (.f ⟨some 13, .ld (.tmp 12), none⟩
 (.f ⟨some 14, .ldN 6 (.tmp 3), none⟩
 (.m ⟨some 15, .blds 75 1 [(.int .i64 0), (.int .i64 0), (.int .i64 0), (.int .i64 0), (.slice none 0 0), (.slice none 0 0)] [(0, 6, (.tmp 14))], none⟩
 (.m ⟨some 16, .app 75 6 80 [(.int .i64 0), (.int .i64 0), (.int .i64 0), (.int .i64 0), (.slice none 0 0), (.slice none 0 0)] (.tmp 13) (.tmp 15), none⟩
 (.f ⟨some 17, .nilc (.tmp 9), none⟩
 (.f ⟨some 18, .fad 17 (.tmp 17), none⟩
 (.m ⟨none, .st (.tmp 18) (.tmp 16), none⟩
 .done)))))))))))))),
 []⟩
theorem low_sgl_Global_event : lowFn Tryz.prog movers 84 = some ⟨ir_sgl_Global_event.n, strip ir_sgl_Global_event.body, ir_sgl_Global_event.res⟩ := by kernel_rfl
def ir_sgl_address : IFn := ⟨35,
 (.seq (.region [
 ⟨some 3, .box 69 (.tmp 1), none⟩,
 ⟨some 4, .mov (.const (.int .u64 0)), none⟩])
 (.seq (.seq (.region [
 ⟨some 5, .fad 0 (.tmp 3), none⟩,
 ⟨some 6, .ld (.tmp 5), none⟩,
 ⟨some 7, .bin .eql (.tmp 6) (.const (.int .i64 12)), none⟩,
 ⟨some 8, .mov (.tmp 7), none⟩,
 ⟨some 9, .fad 0 (.tmp 3), some (8, false)⟩,
 ⟨some 10, .ld (.tmp 9), some (8, false)⟩,
 ⟨some 11, .bin .eql (.tmp 10) (.const (.int .i64 10)), some (8, false)⟩,
 ⟨some 12, .pick (.tmp 8) (.const (.bool true)) (.tmp 11), none⟩])
 (.cond (.tmp 12)
  (.seq (.draw (.f ⟨some 13, .mov (.tmp 0), none⟩
  (.f ⟨some 14, .fad 2 (.tmp 3), none⟩
  (.f ⟨some 15, .ld (.tmp 14), none⟩
  (.f ⟨some 16, .nilc (.tmp 13), none⟩
  (.f ⟨some 17, .fad 1 (.tmp 16), none⟩
  (.f ⟨some 18, .ixa 8 1 (.tmp 17) (.tmp 15), none⟩
  (.f ⟨some 19, .ld (.tmp 18), none⟩
  (.f ⟨some 20, .fad 4 (.tmp 3), none⟩
  (.f ⟨some 21, .ld (.tmp 20), none⟩
  (.f ⟨some 22, .conv .u64 (.tmp 21), none⟩
  (.f ⟨some 23, .bin .add (.tmp 19) (.tmp 22), none⟩
  (.f ⟨some 4, .mov (.tmp 23), none⟩
  .done)))))))))))))
  .ret)
  .skip))
 (.seq (.draw (.f ⟨some 24, .mov (.tmp 0), none⟩
 (.f ⟨some 25, .fad 1 (.tmp 3), none⟩
 (.f ⟨some 26, .ld (.tmp 25), none⟩
 (.f ⟨some 27, .nilc (.tmp 24), none⟩
 (.f ⟨some 28, .fad 1 (.tmp 27), none⟩
 (.f ⟨some 29, .ixa 8 1 (.tmp 28) (.tmp 26), none⟩
 (.f ⟨some 30, .ld (.tmp 29), none⟩
 (.f ⟨some 31, .fad 4 (.tmp 3), none⟩
 (.f ⟨some 32, .ld (.tmp 31), none⟩
 (.f ⟨some 33, .conv .u64 (.tmp 32), none⟩
 (.f ⟨some 34, .bin .add (.tmp 30) (.tmp 33), none⟩
 (.f ⟨some 4, .mov (.tmp 34), none⟩
 .done)))))))))))))
 .ret))),
 [.tmp 4]⟩
theorem low_sgl_address : lowFn Tryz.prog movers 87 = some ⟨ir_sgl_address.n, strip ir_sgl_address.body, ir_sgl_address.res⟩ := by kernel_rfl
def ir_sgl_Global_access : IFn := ⟨38,
 (.seq (.seq (.region [
 ⟨some 9, .mov (.tmp 0), none⟩,
 ⟨some 10, .nilc (.tmp 9), none⟩,
 ⟨some 11, .fad 2 (.tmp 10), none⟩,
 ⟨some 12, .fad 12 (.tmp 11), none⟩,
 ⟨some 13, .ld (.tmp 12), none⟩,
 ⟨some 14, .not (.tmp 13), none⟩])
 (.cond (.tmp 14)
  (.seq (.region [
  ⟨some 15, .mov (.tmp 0), none⟩,
  ⟨some 16, .mov (.tmp 1), none⟩,
  ⟨some 17, .mov (.tmp 3), none⟩,
  ⟨some 18, .mov (.tmp 2), none⟩,
  ⟨some 19, .bld [(.int .i64 0), (.int .i64 0), (.int .i64 0), (.int .i64 0), (.slice none 0 0), (.slice none 0 0)] [(1, 1, (.tmp 16)), (2, 1, (.tmp 17)), (3, 1, (.tmp 18))], none⟩,
  ⟨some 20, .call 84 [(.tmp 15), (.tmp 19)], none⟩])
  .ret)
  .skip))
 (.seq (.region [
 ⟨some 21, .mov (.tmp 1), none⟩,
 ⟨some 22, .bld [(.int .i64 0), (.int .i64 0), (.int .i64 0), (.int .i64 0), (.slice none 0 0), (.slice none 0 0)] [(1, 1, (.tmp 21)), (2, 1, (.const (.int .i64 4)))], none⟩,
 ⟨some 8, .new 75 (.agg #[.int .i64 0, .int .i64 0, .int .i64 0, .int .i64 0, .slice none 0 0, .slice none 0 0]), none⟩,
 ⟨none, .stN 6 (.tmp 8) (.tmp 22), none⟩])
 (.seq (.seq (.region [
 ⟨some 23, .mov (.tmp 3), none⟩,
 ⟨some 24, .bin .eql (.tmp 23) (.const (.int .i64 1)), none⟩])
 (.cond (.tmp 24)
  (.region [
  ⟨some 25, .mov (.tmp 2), none⟩,
  ⟨some 26, .blds 3 1 [(.int .i64 0)] [(0, 1, (.tmp 25))], none⟩,
  ⟨some 27, .fad 4 (.tmp 8), none⟩,
  ⟨none, .st (.tmp 27) (.tmp 26), none⟩])
  (.region [
  ⟨some 28, .mov (.tmp 2), none⟩,
  ⟨some 29, .blds 3 1 [(.int .i64 0)] [(0, 1, (.tmp 28))], none⟩,
  ⟨some 30, .fad 5 (.tmp 8), none⟩,
  ⟨none, .st (.tmp 30) (.tmp 29), none⟩])))
 (.seq (.region [
 ⟨some 31, .mov (.tmp 0), none⟩,
 ⟨some 32, .mov (.tmp 1), none⟩,
 ⟨some 33, .bld [(.int .i64 0), (.int .i64 0), (.int .i64 0), (.int .i64 0), (.slice none 0 0), (.slice none 0 0)] [(1, 1, (.tmp 32)), (2, 1, (.const (.int .i64 3)))], none⟩,
 ⟨some 34, .call 84 [(.tmp 31), (.tmp 33)], none⟩])
 (.region [
 ⟨some 35, .mov (.tmp 0), none⟩,
 ⟨some 36, .ldN 6 (.tmp 8), none⟩,
 ⟨some 37, .call 84 [(.tmp 35), (.tmp 36)], none⟩]))))),
 []⟩
theorem low_sgl_Global_access : lowFn Tryz.prog movers 88 = some ⟨ir_sgl_Global_access.n, strip ir_sgl_Global_access.body, ir_sgl_Global_access.res⟩ := by kernel_rfl
def ir_sgl_transaction_access : IFn := ⟨76,
 (.seq (.region [
 ⟨some 3, .box 69 (.tmp 1), none⟩])
 (.seq (.draw (.f ⟨some 6, .mov (.tmp 0), none⟩
 (.f ⟨some 7, .nilc (.tmp 6), none⟩
 (.f ⟨some 8, .fad 15 (.tmp 7), none⟩
 (.f ⟨some 9, .ldN 5 (.tmp 3), none⟩
 (.f ⟨some 10, .call 87 [(.tmp 8), (.tmp 9)], none⟩
 (.f ⟨some 4, .mov (.tmp 10), none⟩
 .done)))))))
 (.seq (.seq (.region [
 ⟨some 11, .mov (.tmp 4), none⟩,
 ⟨some 12, .mov (.tmp 0), none⟩,
 ⟨some 13, .nilc (.tmp 12), none⟩,
 ⟨some 14, .fad 2 (.tmp 13), none⟩,
 ⟨some 15, .fad 0 (.tmp 14), none⟩,
 ⟨some 16, .ld (.tmp 15), none⟩,
 ⟨some 17, .conv .u64 (.tmp 16), none⟩,
 ⟨some 18, .bin .geq (.tmp 11) (.tmp 17), none⟩])
 (.cond (.tmp 18)
  (.seq (.region [
  ⟨some 19, .mov (.tmp 0), none⟩,
  ⟨some 20, .nilc (.tmp 19), none⟩,
  ⟨some 21, .fad 30 (.tmp 20), none⟩,
  ⟨none, .st (.tmp 21) (.const (.int .i64 7)), none⟩])
  .ret)
  .skip))
 (.seq (.region [
 ⟨some 22, .mov (.tmp 4), none⟩,
 ⟨some 23, .conv .i64 (.tmp 22), none⟩,
 ⟨some 5, .mov (.tmp 23), none⟩])
 (.seq (.seq (.region [
 ⟨some 24, .fad 0 (.tmp 3), none⟩,
 ⟨some 25, .ld (.tmp 24), none⟩,
 ⟨some 26, .bin .eql (.tmp 25) (.const (.int .i64 11)), none⟩])
 (.cond (.tmp 26)
  (.seq (.draw (.f ⟨some 27, .mov (.tmp 0), none⟩
  (.f ⟨some 28, .mov (.tmp 5), none⟩
  (.f ⟨some 29, .mov (.tmp 0), none⟩
  (.f ⟨some 30, .fad 2 (.tmp 3), none⟩
  (.f ⟨some 31, .ld (.tmp 30), none⟩
  (.f ⟨some 32, .nilc (.tmp 29), none⟩
  (.f ⟨some 33, .fad 15 (.tmp 32), none⟩
  (.f ⟨some 34, .fad 1 (.tmp 33), none⟩
  (.f ⟨some 35, .ixa 8 1 (.tmp 34) (.tmp 31), none⟩
  (.f ⟨some 36, .ld (.tmp 35), none⟩
  (.m ⟨some 37, .call 117 [(.tmp 27), (.tmp 28), (.tmp 36)], none⟩
  .done))))))))))))
  .ret)
  .skip))
 (.seq (.seq (.region [
 ⟨some 38, .mov (.tmp 0), none⟩,
 ⟨some 39, .nilc (.tmp 38), none⟩,
 ⟨some 40, .fad 28 (.tmp 39), none⟩,
 ⟨some 41, .ld (.tmp 40), none⟩,
 ⟨some 42, .mov (.tmp 5), none⟩,
 ⟨some 43, .call 118 [(.tmp 41), (.tmp 42)], none⟩,
 ⟨some 44, .not (.tmp 43), none⟩,
 ⟨some 45, .mov (.tmp 44), none⟩,
 ⟨some 46, .mov (.tmp 0), some (45, true)⟩,
 ⟨some 47, .nilc (.tmp 46), some (45, true)⟩,
 ⟨some 48, .fad 27 (.tmp 47), some (45, true)⟩,
 ⟨some 49, .ld (.tmp 48), some (45, true)⟩,
 ⟨some 50, .mov (.tmp 5), some (45, true)⟩,
 ⟨some 51, .call 118 [(.tmp 49), (.tmp 50)], some (45, true)⟩,
 ⟨some 52, .not (.tmp 51), some (45, true)⟩,
 ⟨some 53, .pick (.tmp 45) (.tmp 52) (.const (.bool false)), none⟩])
 (.cond (.tmp 53)
  (.region [
  ⟨some 54, .mov (.tmp 0), none⟩,
  ⟨some 55, .mov (.tmp 0), none⟩,
  ⟨some 56, .nilc (.tmp 55), none⟩,
  ⟨some 57, .fad 27 (.tmp 56), none⟩,
  ⟨some 58, .ld (.tmp 57), none⟩,
  ⟨some 59, .mov (.tmp 5), none⟩,
  ⟨some 60, .blds 3 1 [(.int .i64 0)] [(0, 1, (.tmp 59))], none⟩,
  ⟨some 61, .app 3 1 8 [(.int .i64 0)] (.tmp 58) (.tmp 60), none⟩,
  ⟨some 62, .nilc (.tmp 54), none⟩,
  ⟨some 63, .fad 27 (.tmp 62), none⟩,
  ⟨none, .st (.tmp 63) (.tmp 61), none⟩])
  .skip))
 (.draw (.f ⟨some 64, .mov (.tmp 0), none⟩
 (.f ⟨some 65, .fad 1 (.tmp 3), none⟩
 (.f ⟨some 66, .ld (.tmp 65), none⟩
 (.f ⟨some 67, .mov (.tmp 0), none⟩
 (.f ⟨some 68, .nilc (.tmp 67), none⟩
 (.f ⟨some 69, .fad 0 (.tmp 68), none⟩
 (.f ⟨some 70, .fad 0 (.tmp 69), none⟩
 (.f ⟨some 71, .ld (.tmp 70), none⟩
 (.f ⟨some 72, .mov (.tmp 5), none⟩
 (.f ⟨some 73, .ixs 1 (.tmp 71) (.tmp 72), none⟩
 (.f ⟨some 74, .ld (.tmp 73), none⟩
 (.m ⟨some 75, .call 119 [(.tmp 64), (.tmp 66), (.const (.int .i64 1)), (.tmp 74)], none⟩
 .done))))))))))))))))))),
 []⟩
theorem low_sgl_transaction_access : lowFn Tryz.prog movers 100 = some ⟨ir_sgl_transaction_access.n, strip ir_sgl_transaction_access.body, ir_sgl_transaction_access.res⟩ := by kernel_rfl
def ir_sgl_transaction_alloc : IFn := ⟨90,
 (.seq (.region [
 ⟨some 3, .box 69 (.tmp 1), none⟩,
 ⟨some 4, .mov (.const (.bool false)), none⟩])
 (.seq (.seq (.region [
 ⟨some 8, .mov (.tmp 0), none⟩,
 ⟨some 9, .nilc (.tmp 8), none⟩,
 ⟨some 10, .fad 26 (.tmp 9), none⟩,
 ⟨some 11, .ld (.tmp 10), none⟩,
 ⟨some 12, .len (.tmp 11), none⟩,
 ⟨some 13, .bin .eql (.tmp 12) (.const (.int .i64 0)), none⟩,
 ⟨some 14, .mov (.tmp 13), none⟩,
 ⟨some 15, .mov (.tmp 0), some (14, false)⟩,
 ⟨some 16, .nilc (.tmp 15), some (14, false)⟩,
 ⟨some 17, .fad 26 (.tmp 16), some (14, false)⟩,
 ⟨some 18, .ld (.tmp 17), some (14, false)⟩,
 ⟨some 19, .ixs 1 (.tmp 18) (.const (.int .i64 0)), some (14, false)⟩,
 ⟨some 20, .ld (.tmp 19), some (14, false)⟩,
 ⟨some 21, .bin .lss (.tmp 20) (.const (.int .i64 0)), some (14, false)⟩,
 ⟨some 22, .pick (.tmp 14) (.const (.bool true)) (.tmp 21), none⟩])
 (.cond (.tmp 22)
  (.seq (.region [
  ⟨some 4, .mov (.const (.bool false)), none⟩])
  .ret)
  .skip))
 (.seq (.region [
 ⟨some 23, .mov (.tmp 0), none⟩,
 ⟨some 24, .nilc (.tmp 23), none⟩,
 ⟨some 25, .fad 26 (.tmp 24), none⟩,
 ⟨some 26, .ld (.tmp 25), none⟩,
 ⟨some 27, .ixs 1 (.tmp 26) (.const (.int .i64 0)), none⟩,
 ⟨some 28, .ld (.tmp 27), none⟩,
 ⟨some 5, .mov (.tmp 28), none⟩])
 (.seq (.region [
 ⟨some 29, .mov (.tmp 0), none⟩,
 ⟨some 30, .mov (.tmp 0), none⟩,
 ⟨some 31, .nilc (.tmp 30), none⟩,
 ⟨some 32, .fad 26 (.tmp 31), none⟩,
 ⟨some 33, .ld (.tmp 32), none⟩,
 ⟨some 34, .sls 1 (.tmp 33) (some (.const (.int .i64 1))) none none, none⟩,
 ⟨some 35, .nilc (.tmp 29), none⟩,
 ⟨some 36, .fad 26 (.tmp 35), none⟩,
 ⟨none, .st (.tmp 36) (.tmp 34), none⟩])
 (.seq (.region [
 ⟨some 37, .mov (.tmp 0), none⟩,
 ⟨some 38, .nilc (.tmp 37), none⟩,
 ⟨some 39, .fad 2 (.tmp 38), none⟩,
 ⟨some 40, .ldN 13 (.tmp 39), none⟩,
 ⟨some 41, .mov (.tmp 5), none⟩,
 ⟨some 42, .conv .u64 (.tmp 41), none⟩,
 ⟨some 43, .call 120 [(.tmp 40), (.tmp 42)], none⟩,
 ⟨some 6, .mov (.tmp 43), none⟩])
 (.seq (.seq (.draw (.f ⟨some 44, .mov (.tmp 6), none⟩
 (.f ⟨some 45, .bin .lss (.tmp 44) (.const (.int .i64 0)), none⟩
 (.f ⟨some 46, .mov (.tmp 45), none⟩
 (.f ⟨some 47, .mov (.tmp 0), some (46, false)⟩
 (.f ⟨some 48, .nilc (.tmp 47), some (46, false)⟩
 (.f ⟨some 49, .fad 2 (.tmp 48), some (46, false)⟩
 (.f ⟨some 50, .ldN 13 (.tmp 49), some (46, false)⟩
 (.f ⟨some 51, .mov (.tmp 6), some (46, false)⟩
 (.f ⟨some 52, .call 121 [(.tmp 50), (.tmp 51)], some (46, false)⟩
 (.f ⟨some 53, .fad 4 (.tmp 3), some (46, false)⟩
 (.f ⟨some 54, .ld (.tmp 53), some (46, false)⟩
 (.f ⟨some 55, .bin .neq (.tmp 52) (.tmp 54), some (46, false)⟩
 (.f ⟨some 56, .pick (.tmp 46) (.const (.bool true)) (.tmp 55), none⟩
 (.f ⟨some 57, .mov (.tmp 56), none⟩
 (.f ⟨some 58, .mov (.tmp 0), some (57, false)⟩
 (.f ⟨some 59, .nilc (.tmp 58), some (57, false)⟩
 (.f ⟨some 60, .fad 0 (.tmp 59), some (57, false)⟩
 (.f ⟨some 61, .fad 1 (.tmp 60), some (57, false)⟩
 (.f ⟨some 62, .ld (.tmp 61), some (57, false)⟩
 (.f ⟨some 63, .mov (.tmp 6), some (57, false)⟩
 (.f ⟨some 64, .mlk 0 (.bool false) false (.tmp 62) (.tmp 63), some (57, false)⟩
 (.f ⟨some 65, .pick (.tmp 57) (.const (.bool true)) (.tmp 64), none⟩
 .done)))))))))))))))))))))))
 (.cond (.tmp 65)
  (.seq (.region [
  ⟨some 4, .mov (.const (.bool false)), none⟩])
  .ret)
  .skip))
 (.seq (.region [
 ⟨some 66, .mov (.tmp 0), none⟩,
 ⟨some 67, .nilc (.tmp 66), none⟩,
 ⟨some 68, .fad 0 (.tmp 67), none⟩,
 ⟨some 69, .fad 1 (.tmp 68), none⟩,
 ⟨some 70, .ld (.tmp 69), none⟩,
 ⟨some 71, .mov (.tmp 6), none⟩,
 ⟨none, .mup 0 (.tmp 70) (.tmp 71) (.const (.bool true)), none⟩])
 (.seq (.seq (.region [
 ⟨some 72, .fad 4 (.tmp 3), none⟩,
 ⟨some 73, .ld (.tmp 72), none⟩,
 ⟨some 74, .bin .shl (.const (.int .i64 1)) (.tmp 73), none⟩,
 ⟨some 75, .mov (.const (.int .i64 0)), none⟩])
 (.block 0
  (.loop 19305034181971109633589376
   (.seq (.region [
   ⟨some 76, .bin .lss (.tmp 75) (.tmp 74), none⟩])
   (.seq (.cond (.tmp 76)
    .skip
    (.exit 0))
   (.seq (.block 1
    (.seq (.region [
    ⟨some 77, .mov (.tmp 75), none⟩,
    ⟨some 7, .mov (.tmp 77), none⟩])
    (.region [
    ⟨some 78, .mov (.tmp 0), none⟩,
    ⟨some 79, .mov (.tmp 5), none⟩,
    ⟨some 80, .mov (.tmp 7), none⟩,
    ⟨some 81, .bin .add (.tmp 79) (.tmp 80), none⟩,
    ⟨some 82, .call 117 [(.tmp 78), (.tmp 81), (.const (.int .u64 0))], none⟩])))
   (.region [
   ⟨some 83, .bin .add (.tmp 75) (.const (.int .i64 1)), none⟩,
   ⟨some 75, .mov (.tmp 83), none⟩])))))))
 (.seq (.region [
 ⟨some 84, .mov (.tmp 0), none⟩,
 ⟨some 85, .fad 1 (.tmp 3), none⟩,
 ⟨some 86, .ld (.tmp 85), none⟩,
 ⟨some 87, .mov (.tmp 5), none⟩,
 ⟨some 88, .conv .u64 (.tmp 87), none⟩,
 ⟨some 89, .call 119 [(.tmp 84), (.tmp 86), (.const (.int .i64 2)), (.tmp 88)], none⟩])
 (.seq (.region [
 ⟨some 4, .mov (.const (.bool true)), none⟩])
 .ret)))))))))),
 [.tmp 4]⟩
theorem low_sgl_transaction_alloc : lowFn Tryz.prog movers 101 = some ⟨ir_sgl_transaction_alloc.n, strip ir_sgl_transaction_alloc.body, ir_sgl_transaction_alloc.res⟩ := by kernel_rfl
def ir_sgl_transaction_free : IFn := ⟨39,
 (.seq (.region [
 ⟨some 3, .box 69 (.tmp 1), none⟩])
 (.seq (.draw (.f ⟨some 5, .mov (.tmp 0), none⟩
 (.f ⟨some 6, .nilc (.tmp 5), none⟩
 (.f ⟨some 7, .fad 2 (.tmp 6), none⟩
 (.f ⟨some 8, .ldN 13 (.tmp 7), none⟩
 (.f ⟨some 9, .mov (.tmp 0), none⟩
 (.f ⟨some 10, .fad 1 (.tmp 3), none⟩
 (.f ⟨some 11, .ld (.tmp 10), none⟩
 (.f ⟨some 12, .nilc (.tmp 9), none⟩
 (.f ⟨some 13, .fad 15 (.tmp 12), none⟩
 (.f ⟨some 14, .fad 1 (.tmp 13), none⟩
 (.f ⟨some 15, .ixa 8 1 (.tmp 14) (.tmp 11), none⟩
 (.f ⟨some 16, .ld (.tmp 15), none⟩
 (.f ⟨some 17, .call 120 [(.tmp 8), (.tmp 16)], none⟩
 (.f ⟨some 4, .mov (.tmp 17), none⟩
 .done)))))))))))))))
 (.seq (.seq (.region [
 ⟨some 18, .mov (.tmp 4), none⟩,
 ⟨some 19, .bin .lss (.tmp 18) (.const (.int .i64 0)), none⟩,
 ⟨some 20, .mov (.tmp 19), none⟩,
 ⟨some 21, .mov (.tmp 0), some (20, false)⟩,
 ⟨some 22, .nilc (.tmp 21), some (20, false)⟩,
 ⟨some 23, .fad 0 (.tmp 22), some (20, false)⟩,
 ⟨some 24, .fad 1 (.tmp 23), some (20, false)⟩,
 ⟨some 25, .ld (.tmp 24), some (20, false)⟩,
 ⟨some 26, .mov (.tmp 4), some (20, false)⟩,
 ⟨some 27, .mlk 0 (.bool false) false (.tmp 25) (.tmp 26), some (20, false)⟩,
 ⟨some 28, .not (.tmp 27), some (20, false)⟩,
 ⟨some 29, .pick (.tmp 20) (.const (.bool true)) (.tmp 28), none⟩])
 (.cond (.tmp 29)
  (.seq (.region [
  ⟨some 30, .mov (.tmp 0), none⟩,
  ⟨some 31, .nilc (.tmp 30), none⟩,
  ⟨some 32, .fad 30 (.tmp 31), none⟩,
  ⟨none, .st (.tmp 32) (.const (.int .i64 8)), none⟩])
  .ret)
  .skip))
 (.region [
 ⟨some 33, .mov (.tmp 0), none⟩,
 ⟨some 34, .nilc (.tmp 33), none⟩,
 ⟨some 35, .fad 0 (.tmp 34), none⟩,
 ⟨some 36, .fad 1 (.tmp 35), none⟩,
 ⟨some 37, .ld (.tmp 36), none⟩,
 ⟨some 38, .mov (.tmp 4), none⟩,
 ⟨none, .mup 0 (.tmp 37) (.tmp 38) (.const (.bool false)), none⟩])))),
 []⟩
theorem low_sgl_transaction_free : lowFn Tryz.prog movers 102 = some ⟨ir_sgl_transaction_free.n, strip ir_sgl_transaction_free.body, ir_sgl_transaction_free.res⟩ := by kernel_rfl
def ir_sgl_transaction_write : IFn := ⟨31,
 (.seq (.region [
 ⟨some 6, .mov (.tmp 0), none⟩,
 ⟨some 7, .nilc (.tmp 6), none⟩,
 ⟨some 8, .fad 0 (.tmp 7), none⟩,
 ⟨some 9, .fad 0 (.tmp 8), none⟩,
 ⟨some 10, .ld (.tmp 9), none⟩,
 ⟨some 11, .mov (.tmp 1), none⟩,
 ⟨some 12, .mov (.tmp 2), none⟩,
 ⟨some 13, .ixs 1 (.tmp 10) (.tmp 11), none⟩,
 ⟨none, .st (.tmp 13) (.tmp 12), none⟩])
 (.seq (.region [
 ⟨some 14, .mov (.tmp 0), none⟩,
 ⟨some 15, .nilc (.tmp 14), none⟩,
 ⟨some 16, .fad 28 (.tmp 15), none⟩,
 ⟨some 17, .ld (.tmp 16), none⟩,
 ⟨some 18, .mov (.tmp 1), none⟩,
 ⟨some 19, .call 118 [(.tmp 17), (.tmp 18)], none⟩,
 ⟨some 20, .not (.tmp 19), none⟩])
 (.cond (.tmp 20)
  (.region [
  ⟨some 21, .mov (.tmp 0), none⟩,
  ⟨some 22, .mov (.tmp 0), none⟩,
  ⟨some 23, .nilc (.tmp 22), none⟩,
  ⟨some 24, .fad 28 (.tmp 23), none⟩,
  ⟨some 25, .ld (.tmp 24), none⟩,
  ⟨some 26, .mov (.tmp 1), none⟩,
  ⟨some 27, .blds 3 1 [(.int .i64 0)] [(0, 1, (.tmp 26))], none⟩,
  ⟨some 28, .app 3 1 8 [(.int .i64 0)] (.tmp 25) (.tmp 27), none⟩,
  ⟨some 29, .nilc (.tmp 21), none⟩,
  ⟨some 30, .fad 28 (.tmp 29), none⟩,
  ⟨none, .st (.tmp 30) (.tmp 28), none⟩])
  .skip))),
 []⟩
theorem low_sgl_transaction_write : lowFn Tryz.prog movers 117 = some ⟨ir_sgl_transaction_write.n, strip ir_sgl_transaction_write.body, ir_sgl_transaction_write.res⟩ := by kernel_rfl
def ir_sgl_transaction_got : IFn := ⟨32,
 (.seq (.region [
 ⟨some 8, .mov (.tmp 0), none⟩,
 ⟨some 9, .mov (.tmp 1), none⟩,
 ⟨some 10, .mov (.tmp 3), none⟩,
 ⟨some 11, .nilc (.tmp 8), none⟩,
 ⟨some 12, .fad 15 (.tmp 11), none⟩,
 ⟨some 13, .fad 1 (.tmp 12), none⟩,
 ⟨some 14, .ixa 8 1 (.tmp 13) (.tmp 9), none⟩,
 ⟨none, .st (.tmp 14) (.tmp 10), none⟩])
 (.draw (.f ⟨some 15, .mov (.tmp 0), none⟩
 (.f ⟨some 16, .mov (.tmp 0), none⟩
 (.f ⟨some 17, .nilc (.tmp 16), none⟩
 (.f ⟨some 18, .fad 29 (.tmp 17), none⟩
 (.f ⟨some 19, .ld (.tmp 18), none⟩
 (.f ⟨some 20, .mov (.tmp 0), none⟩
 (.f ⟨some 21, .nilc (.tmp 20), none⟩
 (.f ⟨some 22, .fad 15 (.tmp 21), none⟩
 (.f ⟨some 23, .fad 0 (.tmp 22), none⟩
 (.f ⟨some 24, .ld (.tmp 23), none⟩
 (.f ⟨some 25, .mov (.tmp 2), none⟩
 (.f ⟨some 26, .mov (.tmp 3), none⟩
 (.f ⟨some 27, .bld [(.int .i64 0), (.int .i64 0), (.int .u64 0)] [(0, 1, (.tmp 24)), (1, 1, (.tmp 25)), (2, 1, (.tmp 26))], none⟩
 (.m ⟨some 28, .blds 106 1 [(.int .i64 0), (.int .i64 0), (.int .u64 0)] [(0, 3, (.tmp 27))], none⟩
 (.m ⟨some 29, .app 106 3 24 [(.int .i64 0), (.int .i64 0), (.int .u64 0)] (.tmp 19) (.tmp 28), none⟩
 (.f ⟨some 30, .nilc (.tmp 15), none⟩
 (.f ⟨some 31, .fad 29 (.tmp 30), none⟩
 (.m ⟨none, .st (.tmp 31) (.tmp 29), none⟩
 .done)))))))))))))))))))),
 []⟩
theorem low_sgl_transaction_got : lowFn Tryz.prog movers 119 = some ⟨ir_sgl_transaction_got.n, strip ir_sgl_transaction_got.body, ir_sgl_transaction_got.res⟩ := by kernel_rfl
end Go.Proofs.YtfompmhncnkcfaaGreatDoor
