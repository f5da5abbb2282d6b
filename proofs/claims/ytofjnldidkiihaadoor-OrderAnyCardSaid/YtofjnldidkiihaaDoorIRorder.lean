/- The lowered code of a package, printed by program; each function is checked against the loaded program by the kernel. No condition. -/
import Derived.Test.YtofjnldidkiihaaDoorIR
namespace Go.Proofs.YtofjnldidkiihaaDoor
open Go
set_option maxRecDepth 100000

/-- strongtx/order.Before -/
def ir_order_Before : IFn := ⟨31,
 (.seq (.region [
 ⟨some 8, .mov (.const (.bool false)), none⟩])
 (.seq (.region [
 ⟨some 10, .mov (.tmp 0), none⟩,
 ⟨some 11, .mov (.tmp 1), none⟩,
 ⟨some 12, .call 49 [(.tmp 10), (.tmp 11)], none⟩,
 ⟨some 9, .mov (.tmp 12), none⟩])
 (.seq (.region [
 ⟨some 13, .mov (.tmp 9), none⟩,
 ⟨some 14, .nilq true 1 (.tmp 13) (.const (.pointer none)), none⟩,
 ⟨some 15, .mov (.tmp 14), none⟩,
 ⟨some 16, .mov (.tmp 9), some (15, true)⟩,
 ⟨some 17, .mov (.tmp 2), some (15, true)⟩,
 ⟨some 18, .call 50 [(.tmp 16), (.tmp 17)], some (15, true)⟩,
 ⟨some 19, .pick (.tmp 15) (.tmp 18) (.const (.bool false)), none⟩,
 ⟨some 20, .mov (.tmp 19), none⟩,
 ⟨some 21, .mov (.tmp 9), some (20, true)⟩,
 ⟨some 22, .mov (.tmp 3), some (20, true)⟩,
 ⟨some 23, .call 50 [(.tmp 21), (.tmp 22)], some (20, true)⟩,
 ⟨some 24, .pick (.tmp 20) (.tmp 23) (.const (.bool false)), none⟩,
 ⟨some 25, .mov (.tmp 24), none⟩,
 ⟨some 26, .mov (.tmp 9), some (25, true)⟩,
 ⟨some 27, .mov (.tmp 2), some (25, true)⟩,
 ⟨some 28, .mov (.tmp 3), some (25, true)⟩,
 ⟨some 29, .call 51 [(.tmp 26), (.tmp 27), (.tmp 28)], some (25, true)⟩,
 ⟨some 30, .pick (.tmp 25) (.tmp 29) (.const (.bool false)), none⟩,
 ⟨some 8, .mov (.tmp 30), none⟩])
 .ret))),
 [.tmp 8]⟩
theorem low_order_Before : lowFn Tryd.prog movers 28 = some ⟨ir_order_Before.n, strip ir_order_Before.body, ir_order_Before.res⟩ := by kernel_rfl

/-- strongtx/order.Races -/
def ir_order_Races : IFn := ⟨43,
 (.seq (.region [
 ⟨some 4, .mov (.const (.slice none 0 0)), none⟩])
 (.seq (.region [
 ⟨some 11, .mov (.tmp 0), none⟩,
 ⟨some 12, .mov (.tmp 1), none⟩,
 ⟨some 13, .call 49 [(.tmp 11), (.tmp 12)], none⟩,
 ⟨some 5, .mov (.tmp 13), none⟩])
 (.seq (.seq (.region [
 ⟨some 14, .mov (.tmp 5), none⟩,
 ⟨some 15, .nilq false 1 (.tmp 14) (.const (.pointer none)), none⟩])
 (.cond (.tmp 15)
  (.seq (.region [
  ⟨some 4, .mov (.const (.slice none 0 0)), none⟩])
  .ret)
  .skip))
 (.seq (.region [
 ⟨some 6, .mov (.const (.slice none 0 0)), none⟩])
 (.seq (.seq (.region [
 ⟨some 16, .mov (.tmp 0), none⟩,
 ⟨some 17, .len (.tmp 16), none⟩,
 ⟨some 18, .mov (.const (.int .i64 0)), none⟩])
 (.block 0
  (.loop 4398046250432
   (.seq (.region [
   ⟨some 19, .bin .lss (.tmp 18) (.tmp 17), none⟩])
   (.seq (.cond (.tmp 19)
    .skip
    (.exit 0))
   (.seq (.block 1
    (.seq (.region [
    ⟨some 20, .mov (.tmp 18), none⟩,
    ⟨some 21, .ixs 6 (.tmp 16) (.tmp 18), none⟩,
    ⟨some 22, .ldN 6 (.tmp 21), none⟩,
    ⟨some 8, .new 42 (.agg #[.int .i64 0, .int .i64 0, .int .i64 0, .int .i64 0, .slice none 0 0, .slice none 0 0]), none⟩,
    ⟨some 7, .mov (.tmp 20), none⟩,
    ⟨none, .stN 6 (.tmp 8) (.tmp 22), none⟩])
    (.seq (.seq (.region [
    ⟨some 23, .fad 2 (.tmp 8), none⟩,
    ⟨some 24, .ld (.tmp 23), none⟩,
    ⟨some 25, .bin .eql (.tmp 24) (.const (.int .i64 3)), none⟩])
    (.cond (.tmp 25)
     (.exit 1)
     .skip))
    (.seq (.region [
    ⟨some 26, .mov (.tmp 5), none⟩,
    ⟨some 27, .mov (.tmp 7), none⟩,
    ⟨some 28, .call 55 [(.tmp 26), (.tmp 27)], none⟩,
    ⟨some 29, .len (.tmp 28), none⟩,
    ⟨some 30, .mov (.const (.int .i64 0)), none⟩])
    (.block 2
     (.loop 2197949514816
      (.seq (.region [
      ⟨some 31, .bin .lss (.tmp 30) (.tmp 29), none⟩])
      (.seq (.cond (.tmp 31)
       .skip
       (.exit 2))
      (.seq (.block 3
       (.seq (.region [
       ⟨some 32, .ixs 1 (.tmp 28) (.tmp 30), none⟩,
       ⟨some 33, .ld (.tmp 32), none⟩,
       ⟨some 10, .mov (.tmp 33), none⟩])
       (.region [
       ⟨some 34, .mov (.tmp 6), none⟩,
       ⟨some 35, .mov (.tmp 5), none⟩,
       ⟨some 36, .mov (.tmp 7), none⟩,
       ⟨some 37, .mov (.tmp 10), none⟩,
       ⟨some 38, .call 56 [(.tmp 35), (.tmp 36), (.tmp 37)], none⟩,
       ⟨some 39, .app 28 3 24 [(.int .i64 0), (.int .i64 0), (.int .i64 0)] (.tmp 34) (.tmp 38), none⟩,
       ⟨some 6, .mov (.tmp 39), none⟩])))
      (.region [
      ⟨some 40, .bin .add (.tmp 30) (.const (.int .i64 1)), none⟩,
      ⟨some 30, .mov (.tmp 40), none⟩]))))))))))
   (.region [
   ⟨some 41, .bin .add (.tmp 18) (.const (.int .i64 1)), none⟩,
   ⟨some 18, .mov (.tmp 41), none⟩])))))))
 (.seq (.region [
 ⟨some 42, .mov (.tmp 6), none⟩,
 ⟨some 4, .mov (.tmp 42), none⟩])
 .ret)))))),
 [.tmp 4]⟩
theorem low_order_Races : lowFn Tryd.prog movers 34 = some ⟨ir_order_Races.n, strip ir_order_Races.body, ir_order_Races.res⟩ := by kernel_rfl

/-- strongtx/order.First -/
def ir_order_First : IFn := ⟨51,
 (.seq (.region [
 ⟨some 4, .new 28 (.agg #[.int .i64 0, .int .i64 0, .int .i64 0]), none⟩])
 (.seq (.region [
 ⟨some 11, .mov (.tmp 0), none⟩,
 ⟨some 12, .mov (.tmp 1), none⟩,
 ⟨some 13, .call 49 [(.tmp 11), (.tmp 12)], none⟩,
 ⟨some 5, .mov (.tmp 13), none⟩])
 (.seq (.seq (.region [
 ⟨some 14, .mov (.tmp 5), none⟩,
 ⟨some 15, .nilq false 1 (.tmp 14) (.const (.pointer none)), none⟩])
 (.cond (.tmp 15)
  (.seq (.region [
  ⟨some 16, .ldN 3 (.global 1), none⟩,
  ⟨none, .stN 3 (.tmp 4) (.tmp 16), none⟩])
  .ret)
  .skip))
 (.seq (.seq (.region [
 ⟨some 17, .mov (.tmp 0), none⟩,
 ⟨some 18, .len (.tmp 17), none⟩,
 ⟨some 19, .mov (.const (.int .i64 0)), none⟩])
 (.block 0
  (.loop 1125899906320064
   (.seq (.region [
   ⟨some 20, .bin .lss (.tmp 19) (.tmp 18), none⟩])
   (.seq (.cond (.tmp 20)
    .skip
    (.exit 0))
   (.seq (.block 1
    (.seq (.region [
    ⟨some 21, .mov (.tmp 19), none⟩,
    ⟨some 22, .ixs 6 (.tmp 17) (.tmp 19), none⟩,
    ⟨some 23, .ldN 6 (.tmp 22), none⟩,
    ⟨some 7, .new 42 (.agg #[.int .i64 0, .int .i64 0, .int .i64 0, .int .i64 0, .slice none 0 0, .slice none 0 0]), none⟩,
    ⟨some 6, .mov (.tmp 21), none⟩,
    ⟨none, .stN 6 (.tmp 7) (.tmp 23), none⟩])
    (.seq (.seq (.region [
    ⟨some 24, .fad 2 (.tmp 7), none⟩,
    ⟨some 25, .ld (.tmp 24), none⟩,
    ⟨some 26, .bin .eql (.tmp 25) (.const (.int .i64 3)), none⟩])
    (.cond (.tmp 26)
     (.exit 1)
     .skip))
    (.seq (.region [
    ⟨some 27, .mov (.tmp 5), none⟩,
    ⟨some 28, .mov (.tmp 6), none⟩,
    ⟨some 29, .call 55 [(.tmp 27), (.tmp 28)], none⟩,
    ⟨some 30, .len (.tmp 29), none⟩,
    ⟨some 31, .mov (.const (.int .i64 0)), none⟩])
    (.block 2
     (.loop 562947805939200
      (.seq (.region [
      ⟨some 32, .bin .lss (.tmp 31) (.tmp 30), none⟩])
      (.seq (.cond (.tmp 32)
       .skip
       (.exit 2))
      (.seq (.block 3
       (.seq (.region [
       ⟨some 33, .ixs 1 (.tmp 29) (.tmp 31), none⟩,
       ⟨some 34, .ld (.tmp 33), none⟩,
       ⟨some 9, .mov (.tmp 34), none⟩])
       (.seq (.region [
       ⟨some 35, .mov (.tmp 5), none⟩,
       ⟨some 36, .mov (.tmp 6), none⟩,
       ⟨some 37, .mov (.tmp 9), none⟩,
       ⟨some 38, .call 56 [(.tmp 35), (.tmp 36), (.tmp 37)], none⟩,
       ⟨some 10, .mov (.tmp 38), none⟩])
       (.seq (.region [
       ⟨some 39, .mov (.tmp 10), none⟩,
       ⟨some 40, .len (.tmp 39), none⟩,
       ⟨some 41, .bin .gtr (.tmp 40) (.const (.int .i64 0)), none⟩])
       (.cond (.tmp 41)
        (.seq (.region [
        ⟨some 42, .mov (.tmp 10), none⟩,
        ⟨some 43, .mov (.tmp 10), none⟩,
        ⟨some 44, .len (.tmp 43), none⟩,
        ⟨some 45, .bin .sub (.tmp 44) (.const (.int .i64 1)), none⟩,
        ⟨some 46, .ixs 3 (.tmp 42) (.tmp 45), none⟩,
        ⟨some 47, .ldN 3 (.tmp 46), none⟩,
        ⟨none, .stN 3 (.tmp 4) (.tmp 47), none⟩])
        .ret)
        .skip)))))
      (.region [
      ⟨some 48, .bin .add (.tmp 31) (.const (.int .i64 1)), none⟩,
      ⟨some 31, .mov (.tmp 48), none⟩]))))))))))
   (.region [
   ⟨some 49, .bin .add (.tmp 19) (.const (.int .i64 1)), none⟩,
   ⟨some 19, .mov (.tmp 49), none⟩])))))))
 (.seq (.region [
 ⟨some 50, .ldN 3 (.global 1), none⟩,
 ⟨none, .stN 3 (.tmp 4) (.tmp 50), none⟩])
 .ret))))),
 [.cellN 4 3]⟩
theorem low_order_First : lowFn Tryd.prog movers 37 = some ⟨ir_order_First.n, strip ir_order_First.body, ir_order_First.res⟩ := by kernel_rfl

/-- strongtx/order.Check -/
def ir_order_Check : IFn := ⟨67,
 (.seq (.region [
 ⟨some 4, .mov (.const (.int .i64 0)), none⟩,
 ⟨some 5, .mov (.const (.int .i64 0)), none⟩])
 (.seq (.seq (.region [
 ⟨some 9, .mov (.tmp 1), none⟩,
 ⟨some 10, .bin .lss (.tmp 9) (.const (.int .i64 1)), none⟩,
 ⟨some 11, .mov (.tmp 10), none⟩,
 ⟨some 12, .mov (.tmp 1), some (11, false)⟩,
 ⟨some 13, .bin .gtr (.tmp 12) (.const (.int .i64 16)), some (11, false)⟩,
 ⟨some 14, .pick (.tmp 11) (.const (.bool true)) (.tmp 13), none⟩])
 (.cond (.tmp 14)
  (.seq (.region [
  ⟨some 4, .mov (.const (.int .i64 0)), none⟩,
  ⟨some 5, .mov (.const (.int .i64 54)), none⟩])
  .ret)
  .skip))
 (.seq (.seq (.region [
 ⟨some 15, .mov (.tmp 0), none⟩,
 ⟨some 16, .len (.tmp 15), none⟩,
 ⟨some 17, .bin .gtr (.tmp 16) (.const (.int .i64 65536)), none⟩])
 (.cond (.tmp 17)
  (.seq (.region [
  ⟨some 4, .mov (.const (.int .i64 0)), none⟩,
  ⟨some 5, .mov (.const (.int .i64 3)), none⟩])
  .ret)
  .skip))
 (.seq (.region [
 ⟨some 18, .mov (.tmp 1), none⟩,
 ⟨some 19, .mk 3 1 8 [(.int .i64 0)] (.tmp 18) (.tmp 18), none⟩,
 ⟨some 6, .mov (.tmp 19), none⟩])
 (.seq (.seq (.region [
 ⟨some 20, .mov (.tmp 0), none⟩,
 ⟨some 21, .len (.tmp 20), none⟩,
 ⟨some 22, .mov (.const (.int .i64 0)), none⟩])
 (.block 0
  (.loop 147573952589672219056
   (.seq (.region [
   ⟨some 23, .bin .lss (.tmp 22) (.tmp 21), none⟩])
   (.seq (.cond (.tmp 23)
    .skip
    (.exit 0))
   (.seq (.block 1
    (.seq (.region [
    ⟨some 24, .mov (.tmp 22), none⟩,
    ⟨some 25, .ixs 6 (.tmp 20) (.tmp 22), none⟩,
    ⟨some 26, .ldN 6 (.tmp 25), none⟩,
    ⟨some 8, .new 42 (.agg #[.int .i64 0, .int .i64 0, .int .i64 0, .int .i64 0, .slice none 0 0, .slice none 0 0]), none⟩,
    ⟨some 7, .mov (.tmp 24), none⟩,
    ⟨none, .stN 6 (.tmp 8) (.tmp 26), none⟩])
    (.seq (.seq (.draw (.f ⟨some 27, .ldN 6 (.tmp 8), none⟩
    (.f ⟨some 28, .mov (.tmp 1), none⟩
    (.f ⟨some 29, .call 67 [(.tmp 27), (.tmp 28)], none⟩
    (.f ⟨some 30, .not (.tmp 29), none⟩
    (.f ⟨some 31, .mov (.tmp 30), none⟩
    (.f ⟨some 32, .mov (.tmp 7), some (31, false)⟩
    (.f ⟨some 33, .bin .gtr (.tmp 32) (.const (.int .i64 0)), some (31, false)⟩
    (.f ⟨some 34, .mov (.tmp 33), some (31, false)⟩
    (.f ⟨some 35, .fad 0 (.tmp 8), some (34, true)⟩
    (.f ⟨some 36, .ld (.tmp 35), some (34, true)⟩
    (.f ⟨some 37, .mov (.tmp 0), some (34, true)⟩
    (.f ⟨some 38, .mov (.tmp 7), some (34, true)⟩
    (.f ⟨some 39, .bin .sub (.tmp 38) (.const (.int .i64 1)), some (34, true)⟩
    (.f ⟨some 40, .ixs 6 (.tmp 37) (.tmp 39), some (34, true)⟩
    (.f ⟨some 41, .fad 0 (.tmp 40), some (34, true)⟩
    (.f ⟨some 42, .ld (.tmp 41), some (34, true)⟩
    (.f ⟨some 43, .bin .lss (.tmp 36) (.tmp 42), some (34, true)⟩
    (.f ⟨some 44, .pick (.tmp 34) (.tmp 43) (.const (.bool false)), some (31, false)⟩
    (.f ⟨some 45, .pick (.tmp 31) (.const (.bool true)) (.tmp 44), none⟩
    (.f ⟨some 46, .mov (.tmp 45), none⟩
    (.f ⟨some 47, .fad 2 (.tmp 8), some (46, false)⟩
    (.f ⟨some 48, .ld (.tmp 47), some (46, false)⟩
    (.f ⟨some 49, .bin .eql (.tmp 48) (.const (.int .i64 4)), some (46, false)⟩
    (.f ⟨some 50, .mov (.tmp 49), some (46, false)⟩
    (.f ⟨some 51, .mov (.tmp 6), some (50, true)⟩
    (.f ⟨some 52, .fad 1 (.tmp 8), some (50, true)⟩
    (.f ⟨some 53, .ld (.tmp 52), some (50, true)⟩
    (.f ⟨some 54, .ixs 1 (.tmp 51) (.tmp 53), some (50, true)⟩
    (.f ⟨some 55, .ld (.tmp 54), some (50, true)⟩
    (.f ⟨some 56, .bin .neq (.tmp 55) (.const (.int .i64 3)), some (50, true)⟩
    (.f ⟨some 57, .pick (.tmp 50) (.tmp 56) (.const (.bool false)), some (46, false)⟩
    (.f ⟨some 58, .pick (.tmp 46) (.const (.bool true)) (.tmp 57), none⟩
    .done)))))))))))))))))))))))))))))))))
    (.cond (.tmp 58)
     (.seq (.region [
     ⟨some 59, .mov (.tmp 7), none⟩,
     ⟨some 4, .mov (.tmp 59), none⟩,
     ⟨some 5, .mov (.const (.int .i64 91)), none⟩])
     .ret)
     .skip))
    (.region [
    ⟨some 60, .mov (.tmp 6), none⟩,
    ⟨some 61, .fad 1 (.tmp 8), none⟩,
    ⟨some 62, .ld (.tmp 61), none⟩,
    ⟨some 63, .fad 2 (.tmp 8), none⟩,
    ⟨some 64, .ld (.tmp 63), none⟩,
    ⟨some 65, .ixs 1 (.tmp 60) (.tmp 62), none⟩,
    ⟨none, .st (.tmp 65) (.tmp 64), none⟩]))))
   (.region [
   ⟨some 66, .bin .add (.tmp 22) (.const (.int .i64 1)), none⟩,
   ⟨some 22, .mov (.tmp 66), none⟩])))))))
 (.seq (.region [
 ⟨some 4, .mov (.const (.int .i64 0)), none⟩,
 ⟨some 5, .mov (.const (.int .i64 0)), none⟩])
 .ret)))))),
 [.tmp 4, .tmp 5]⟩
theorem low_order_Check : lowFn Tryd.prog movers 48 = some ⟨ir_order_Check.n, strip ir_order_Check.body, ir_order_Check.res⟩ := by kernel_rfl

/-- (*strongtx/order.trace).counts -/
def ir_order_trace_counts : IFn := ⟨37,
 (.seq (.region [
 ⟨some 4, .mov (.const (.bool false)), none⟩])
 (.seq (.region [
 ⟨some 5, .mov (.tmp 1), none⟩,
 ⟨some 6, .bin .geq (.tmp 5) (.const (.int .i64 0)), none⟩,
 ⟨some 7, .mov (.tmp 6), none⟩,
 ⟨some 8, .mov (.tmp 1), some (7, true)⟩,
 ⟨some 9, .mov (.tmp 0), some (7, true)⟩,
 ⟨some 10, .nilc (.tmp 9), some (7, true)⟩,
 ⟨some 11, .fad 0 (.tmp 10), some (7, true)⟩,
 ⟨some 12, .ld (.tmp 11), some (7, true)⟩,
 ⟨some 13, .len (.tmp 12), some (7, true)⟩,
 ⟨some 14, .bin .lss (.tmp 8) (.tmp 13), some (7, true)⟩,
 ⟨some 15, .pick (.tmp 7) (.tmp 14) (.const (.bool false)), none⟩,
 ⟨some 16, .mov (.tmp 15), none⟩,
 ⟨some 17, .mov (.tmp 0), some (16, true)⟩,
 ⟨some 18, .nilc (.tmp 17), some (16, true)⟩,
 ⟨some 19, .fad 0 (.tmp 18), some (16, true)⟩,
 ⟨some 20, .ld (.tmp 19), some (16, true)⟩,
 ⟨some 21, .mov (.tmp 1), some (16, true)⟩,
 ⟨some 22, .ixs 6 (.tmp 20) (.tmp 21), some (16, true)⟩,
 ⟨some 23, .fad 2 (.tmp 22), some (16, true)⟩,
 ⟨some 24, .ld (.tmp 23), some (16, true)⟩,
 ⟨some 25, .bin .neq (.tmp 24) (.const (.int .i64 3)), some (16, true)⟩,
 ⟨some 26, .mov (.tmp 25), some (16, true)⟩,
 ⟨some 27, .mov (.tmp 0), some (26, false)⟩,
 ⟨some 28, .nilc (.tmp 27), some (26, false)⟩,
 ⟨some 29, .fad 2 (.tmp 28), some (26, false)⟩,
 ⟨some 30, .ld (.tmp 29), some (26, false)⟩,
 ⟨some 31, .mov (.tmp 1), some (26, false)⟩,
 ⟨some 32, .ixs 1 (.tmp 30) (.tmp 31), some (26, false)⟩,
 ⟨some 33, .ld (.tmp 32), some (26, false)⟩,
 ⟨some 34, .bin .geq (.tmp 33) (.const (.int .i64 0)), some (26, false)⟩,
 ⟨some 35, .pick (.tmp 26) (.const (.bool true)) (.tmp 34), some (16, true)⟩,
 ⟨some 36, .pick (.tmp 16) (.tmp 35) (.const (.bool false)), none⟩,
 ⟨some 4, .mov (.tmp 36), none⟩])
 .ret)),
 [.tmp 4]⟩
theorem low_order_trace_counts : lowFn Tryd.prog movers 50 = some ⟨ir_order_trace_counts.n, strip ir_order_trace_counts.body, ir_order_trace_counts.res⟩ := by kernel_rfl

/-- (*strongtx/order.trace).before -/
def ir_order_trace_before : IFn := ⟨66,
 (.seq (.region [
 ⟨some 6, .mov (.const (.bool false)), none⟩])
 (.seq (.block 0
  (.seq (.region [
  ⟨some 8, .mov (.tmp 1), none⟩,
  ⟨some 9, .mov (.tmp 2), none⟩,
  ⟨some 10, .bin .geq (.tmp 8) (.tmp 9), none⟩,
  ⟨some 7, .mov (.tmp 10), none⟩])
  (.cond (.tmp 7)
   (.seq (.region [
   ⟨some 6, .mov (.const (.bool false)), none⟩])
   .ret)
   (.seq (.draw (.f ⟨some 12, .mov (.tmp 0), none⟩
   (.f ⟨some 13, .nilc (.tmp 12), none⟩
   (.f ⟨some 14, .fad 0 (.tmp 13), none⟩
   (.f ⟨some 15, .ld (.tmp 14), none⟩
   (.f ⟨some 16, .mov (.tmp 1), none⟩
   (.f ⟨some 17, .ixs 6 (.tmp 15) (.tmp 16), none⟩
   (.f ⟨some 18, .fad 1 (.tmp 17), none⟩
   (.f ⟨some 19, .ld (.tmp 18), none⟩
   (.f ⟨some 20, .mov (.tmp 0), none⟩
   (.f ⟨some 21, .nilc (.tmp 20), none⟩
   (.f ⟨some 22, .fad 0 (.tmp 21), none⟩
   (.f ⟨some 23, .ld (.tmp 22), none⟩
   (.f ⟨some 24, .mov (.tmp 2), none⟩
   (.f ⟨some 25, .ixs 6 (.tmp 23) (.tmp 24), none⟩
   (.f ⟨some 26, .fad 1 (.tmp 25), none⟩
   (.f ⟨some 27, .ld (.tmp 26), none⟩
   (.f ⟨some 28, .bin .eql (.tmp 19) (.tmp 27), none⟩
   (.f ⟨some 11, .mov (.tmp 28), none⟩
   .done)))))))))))))))))))
   (.cond (.tmp 11)
    (.seq (.region [
    ⟨some 6, .mov (.const (.bool true)), none⟩])
    .ret)
    (.seq (.region [
    ⟨some 30, .mov (.tmp 0), none⟩,
    ⟨some 31, .nilc (.tmp 30), none⟩,
    ⟨some 32, .fad 3 (.tmp 31), none⟩,
    ⟨some 33, .ld (.tmp 32), none⟩,
    ⟨some 34, .mov (.tmp 1), none⟩,
    ⟨some 35, .ixs 1 (.tmp 33) (.tmp 34), none⟩,
    ⟨some 36, .ld (.tmp 35), none⟩,
    ⟨some 37, .bin .lss (.tmp 36) (.const (.int .i64 0)), none⟩,
    ⟨some 29, .mov (.tmp 37), none⟩])
    (.cond (.tmp 29)
     (.seq (.region [
     ⟨some 6, .mov (.const (.bool false)), none⟩])
     .ret)
     (.seq (.region [
     ⟨some 39, .mov (.tmp 0), none⟩,
     ⟨some 40, .mov (.tmp 2), none⟩,
     ⟨some 41, .call 69 [(.tmp 39), (.tmp 40)], none⟩,
     ⟨some 38, .mov (.tmp 41), none⟩])
     (.cond (.tmp 38)
      (.seq (.draw (.f ⟨some 42, .mov (.tmp 0), none⟩
      (.f ⟨some 43, .nilc (.tmp 42), none⟩
      (.f ⟨some 44, .fad 3 (.tmp 43), none⟩
      (.f ⟨some 45, .ld (.tmp 44), none⟩
      (.f ⟨some 46, .mov (.tmp 1), none⟩
      (.f ⟨some 47, .ixs 1 (.tmp 45) (.tmp 46), none⟩
      (.f ⟨some 48, .ld (.tmp 47), none⟩
      (.f ⟨some 49, .mov (.tmp 0), none⟩
      (.f ⟨some 50, .nilc (.tmp 49), none⟩
      (.f ⟨some 51, .fad 4 (.tmp 50), none⟩
      (.f ⟨some 52, .ld (.tmp 51), none⟩
      (.f ⟨some 53, .mov (.tmp 2), none⟩
      (.f ⟨some 54, .ixs 1 (.tmp 52) (.tmp 53), none⟩
      (.f ⟨some 55, .ld (.tmp 54), none⟩
      (.f ⟨some 56, .bin .lss (.tmp 48) (.tmp 55), none⟩
      (.f ⟨some 6, .mov (.tmp 56), none⟩
      .done)))))))))))))))))
      .ret)
      .skip)))))))))
 (.seq (.region [
 ⟨some 57, .mov (.tmp 0), none⟩,
 ⟨some 58, .nilc (.tmp 57), none⟩,
 ⟨some 59, .fad 3 (.tmp 58), none⟩,
 ⟨some 60, .ld (.tmp 59), none⟩,
 ⟨some 61, .mov (.tmp 1), none⟩,
 ⟨some 62, .ixs 1 (.tmp 60) (.tmp 61), none⟩,
 ⟨some 63, .ld (.tmp 62), none⟩,
 ⟨some 64, .mov (.tmp 2), none⟩,
 ⟨some 65, .bin .lss (.tmp 63) (.tmp 64), none⟩,
 ⟨some 6, .mov (.tmp 65), none⟩])
 .ret))),
 [.tmp 6]⟩
theorem low_order_trace_before : lowFn Tryd.prog movers 51 = some ⟨ir_order_trace_before.n, strip ir_order_trace_before.body, ir_order_trace_before.res⟩ := by kernel_rfl

/-- (*strongtx/order.trace).touched -/
def ir_order_trace_touched : IFn := ⟨30,
 (.seq (.region [
 ⟨some 4, .mov (.const (.slice none 0 0)), none⟩])
 (.seq (.region [
 ⟨some 7, .mov (.tmp 0), none⟩,
 ⟨some 8, .nilc (.tmp 7), none⟩,
 ⟨some 9, .fad 0 (.tmp 8), none⟩,
 ⟨some 10, .ld (.tmp 9), none⟩,
 ⟨some 11, .mov (.tmp 1), none⟩,
 ⟨some 12, .ixs 6 (.tmp 10) (.tmp 11), none⟩,
 ⟨some 13, .ldN 6 (.tmp 12), none⟩,
 ⟨some 5, .new 42 (.agg #[.int .i64 0, .int .i64 0, .int .i64 0, .int .i64 0, .slice none 0 0, .slice none 0 0]), none⟩,
 ⟨none, .stN 6 (.tmp 5) (.tmp 13), none⟩])
 (.seq (.seq (.region [
 ⟨some 14, .mov (.tmp 0), none⟩,
 ⟨some 15, .mov (.tmp 1), none⟩,
 ⟨some 16, .call 69 [(.tmp 14), (.tmp 15)], none⟩])
 (.cond (.tmp 16)
  (.seq (.region [
  ⟨some 17, .fad 3 (.tmp 5), none⟩,
  ⟨some 18, .ld (.tmp 17), none⟩,
  ⟨some 19, .blds 3 1 [(.int .i64 0)] [(0, 1, (.tmp 18))], none⟩,
  ⟨some 4, .mov (.tmp 19), none⟩])
  .ret)
  .skip))
 (.seq (.region [
 ⟨some 20, .fad 4 (.tmp 5), none⟩,
 ⟨some 21, .ld (.tmp 20), none⟩,
 ⟨some 22, .fad 5 (.tmp 5), none⟩,
 ⟨some 23, .ld (.tmp 22), none⟩,
 ⟨some 24, .blds 22 2 [(.slice none 0 0), (.slice none 0 0)] [(0, 1, (.tmp 21)), (1, 1, (.tmp 23))], none⟩,
 ⟨some 25, .call 62 [(.tmp 24)], none⟩,
 ⟨some 6, .mov (.tmp 25), none⟩])
 (.seq (.region [
 ⟨some 26, .mov (.tmp 6), none⟩,
 ⟨some 27, .call 63 [(.tmp 26)], none⟩])
 (.seq (.region [
 ⟨some 28, .mov (.tmp 6), none⟩,
 ⟨some 29, .call 64 [(.tmp 28)], none⟩,
 ⟨some 4, .mov (.tmp 29), none⟩])
 .ret)))))),
 [.tmp 4]⟩
theorem low_order_trace_touched : lowFn Tryd.prog movers 55 = some ⟨ir_order_trace_touched.n, strip ir_order_trace_touched.body, ir_order_trace_touched.res⟩ := by kernel_rfl

/-- (*strongtx/order.trace).races -/
def ir_order_trace_races : IFn := ⟨58,
 (.seq (.region [
 ⟨some 6, .mov (.const (.slice none 0 0)), none⟩])
 (.seq (.region [
 ⟨some 10, .mov (.tmp 1), none⟩,
 ⟨some 7, .mov (.tmp 10), none⟩])
 (.seq (.seq (.region [
 ⟨some 11, .mov (.tmp 0), none⟩,
 ⟨some 12, .mov (.tmp 1), none⟩,
 ⟨some 13, .call 69 [(.tmp 11), (.tmp 12)], none⟩,
 ⟨some 14, .not (.tmp 13), none⟩])
 (.cond (.tmp 14)
  (.region [
  ⟨some 15, .mov (.tmp 0), none⟩,
  ⟨some 16, .nilc (.tmp 15), none⟩,
  ⟨some 17, .fad 1 (.tmp 16), none⟩,
  ⟨some 18, .ld (.tmp 17), none⟩,
  ⟨some 19, .mov (.tmp 1), none⟩,
  ⟨some 20, .ixs 1 (.tmp 18) (.tmp 19), none⟩,
  ⟨some 21, .ld (.tmp 20), none⟩,
  ⟨some 7, .mov (.tmp 21), none⟩])
  .skip))
 (.seq (.region [
 ⟨some 8, .mov (.const (.slice none 0 0)), none⟩])
 (.seq (.seq (.region [
 ⟨some 22, .mov (.tmp 1), none⟩,
 ⟨some 23, .mov (.const (.int .i64 0)), none⟩])
 (.block 0
  (.loop 144115188067468032
   (.seq (.region [
   ⟨some 24, .bin .lss (.tmp 23) (.tmp 22), none⟩])
   (.seq (.cond (.tmp 24)
    .skip
    (.exit 0))
   (.seq (.block 1
    (.seq (.region [
    ⟨some 25, .mov (.tmp 23), none⟩,
    ⟨some 9, .mov (.tmp 25), none⟩])
    (.seq (.region [
    ⟨some 26, .mov (.tmp 0), none⟩,
    ⟨some 27, .nilc (.tmp 26), none⟩,
    ⟨some 28, .fad 0 (.tmp 27), none⟩,
    ⟨some 29, .ld (.tmp 28), none⟩,
    ⟨some 30, .mov (.tmp 9), none⟩,
    ⟨some 31, .ixs 6 (.tmp 29) (.tmp 30), none⟩,
    ⟨some 32, .fad 2 (.tmp 31), none⟩,
    ⟨some 33, .ld (.tmp 32), none⟩,
    ⟨some 34, .bin .neq (.tmp 33) (.const (.int .i64 3)), none⟩,
    ⟨some 35, .mov (.tmp 34), none⟩,
    ⟨some 36, .mov (.tmp 0), some (35, true)⟩,
    ⟨some 37, .mov (.tmp 9), some (35, true)⟩,
    ⟨some 38, .mov (.tmp 1), some (35, true)⟩,
    ⟨some 39, .mov (.tmp 2), some (35, true)⟩,
    ⟨some 40, .call 71 [(.tmp 36), (.tmp 37), (.tmp 38), (.tmp 39)], some (35, true)⟩,
    ⟨some 41, .pick (.tmp 35) (.tmp 40) (.const (.bool false)), none⟩,
    ⟨some 42, .mov (.tmp 41), none⟩,
    ⟨some 43, .mov (.tmp 0), some (42, true)⟩,
    ⟨some 44, .mov (.tmp 9), some (42, true)⟩,
    ⟨some 45, .mov (.tmp 7), some (42, true)⟩,
    ⟨some 46, .call 51 [(.tmp 43), (.tmp 44), (.tmp 45)], some (42, true)⟩,
    ⟨some 47, .not (.tmp 46), some (42, true)⟩,
    ⟨some 48, .pick (.tmp 42) (.tmp 47) (.const (.bool false)), none⟩])
    (.cond (.tmp 48)
     (.region [
     ⟨some 49, .mov (.tmp 8), none⟩,
     ⟨some 50, .mov (.tmp 9), none⟩,
     ⟨some 51, .mov (.tmp 1), none⟩,
     ⟨some 52, .mov (.tmp 2), none⟩,
     ⟨some 53, .bld [(.int .i64 0), (.int .i64 0), (.int .i64 0)] [(0, 1, (.tmp 50)), (1, 1, (.tmp 51)), (2, 1, (.tmp 52))], none⟩,
     ⟨some 54, .blds 28 1 [(.int .i64 0), (.int .i64 0), (.int .i64 0)] [(0, 3, (.tmp 53))], none⟩,
     ⟨some 55, .app 28 3 24 [(.int .i64 0), (.int .i64 0), (.int .i64 0)] (.tmp 49) (.tmp 54), none⟩,
     ⟨some 8, .mov (.tmp 55), none⟩])
     .skip))))
   (.region [
   ⟨some 56, .bin .add (.tmp 23) (.const (.int .i64 1)), none⟩,
   ⟨some 23, .mov (.tmp 56), none⟩])))))))
 (.seq (.region [
 ⟨some 57, .mov (.tmp 8), none⟩,
 ⟨some 6, .mov (.tmp 57), none⟩])
 .ret)))))),
 [.tmp 6]⟩
theorem low_order_trace_races : lowFn Tryd.prog movers 56 = some ⟨ir_order_trace_races.n, strip ir_order_trace_races.body, ir_order_trace_races.res⟩ := by kernel_rfl

/-- strongtx/order.fits -/
def ir_order_fits : IFn := ⟨52,
 (.seq (.region [
 ⟨some 2, .box 42 (.tmp 0), none⟩,
 ⟨some 4, .mov (.const (.bool false)), none⟩])
 (.seq (.seq (.region [
 ⟨some 5, .fad 1 (.tmp 2), none⟩,
 ⟨some 6, .ld (.tmp 5), none⟩,
 ⟨some 7, .bin .lss (.tmp 6) (.const (.int .i64 0)), none⟩,
 ⟨some 8, .mov (.tmp 7), none⟩,
 ⟨some 9, .fad 1 (.tmp 2), some (8, false)⟩,
 ⟨some 10, .ld (.tmp 9), some (8, false)⟩,
 ⟨some 11, .mov (.tmp 1), some (8, false)⟩,
 ⟨some 12, .bin .geq (.tmp 10) (.tmp 11), some (8, false)⟩,
 ⟨some 13, .pick (.tmp 8) (.const (.bool true)) (.tmp 12), none⟩,
 ⟨some 14, .mov (.tmp 13), none⟩,
 ⟨some 15, .fad 2 (.tmp 2), some (14, false)⟩,
 ⟨some 16, .ld (.tmp 15), some (14, false)⟩,
 ⟨some 17, .bin .lss (.tmp 16) (.const (.int .i64 1)), some (14, false)⟩,
 ⟨some 18, .pick (.tmp 14) (.const (.bool true)) (.tmp 17), none⟩,
 ⟨some 19, .mov (.tmp 18), none⟩,
 ⟨some 20, .fad 2 (.tmp 2), some (19, false)⟩,
 ⟨some 21, .ld (.tmp 20), some (19, false)⟩,
 ⟨some 22, .bin .gtr (.tmp 21) (.const (.int .i64 4)), some (19, false)⟩,
 ⟨some 23, .pick (.tmp 19) (.const (.bool true)) (.tmp 22), none⟩,
 ⟨some 24, .mov (.tmp 23), none⟩,
 ⟨some 25, .fad 3 (.tmp 2), some (24, false)⟩,
 ⟨some 26, .ld (.tmp 25), some (24, false)⟩,
 ⟨some 27, .blds 3 1 [(.int .i64 0)] [(0, 1, (.tmp 26))], some (24, false)⟩,
 ⟨some 28, .call 79 [(.tmp 27)], some (24, false)⟩,
 ⟨some 29, .not (.tmp 28), some (24, false)⟩,
 ⟨some 30, .pick (.tmp 24) (.const (.bool true)) (.tmp 29), none⟩])
 (.cond (.tmp 30)
  (.seq (.region [
  ⟨some 4, .mov (.const (.bool false)), none⟩])
  .ret)
  .skip))
 (.seq (.seq (.region [
 ⟨some 31, .fad 2 (.tmp 2), none⟩,
 ⟨some 32, .ld (.tmp 31), none⟩,
 ⟨some 33, .bin .neq (.tmp 32) (.const (.int .i64 4)), none⟩])
 (.cond (.tmp 33)
  (.seq (.region [
  ⟨some 34, .fad 4 (.tmp 2), none⟩,
  ⟨some 35, .ld (.tmp 34), none⟩,
  ⟨some 36, .len (.tmp 35), none⟩,
  ⟨some 37, .bin .eql (.tmp 36) (.const (.int .i64 0)), none⟩,
  ⟨some 38, .mov (.tmp 37), none⟩,
  ⟨some 39, .fad 5 (.tmp 2), some (38, true)⟩,
  ⟨some 40, .ld (.tmp 39), some (38, true)⟩,
  ⟨some 41, .len (.tmp 40), some (38, true)⟩,
  ⟨some 42, .bin .eql (.tmp 41) (.const (.int .i64 0)), some (38, true)⟩,
  ⟨some 43, .pick (.tmp 38) (.tmp 42) (.const (.bool false)), none⟩,
  ⟨some 4, .mov (.tmp 43), none⟩])
  .ret)
  .skip))
 (.seq (.region [
 ⟨some 44, .fad 4 (.tmp 2), none⟩,
 ⟨some 45, .ld (.tmp 44), none⟩,
 ⟨some 46, .call 79 [(.tmp 45)], none⟩,
 ⟨some 47, .mov (.tmp 46), none⟩,
 ⟨some 48, .fad 5 (.tmp 2), some (47, true)⟩,
 ⟨some 49, .ld (.tmp 48), some (47, true)⟩,
 ⟨some 50, .call 79 [(.tmp 49)], some (47, true)⟩,
 ⟨some 51, .pick (.tmp 47) (.tmp 50) (.const (.bool false)), none⟩,
 ⟨some 4, .mov (.tmp 51), none⟩])
 .ret)))),
 [.tmp 4]⟩
theorem low_order_fits : lowFn Tryd.prog movers 67 = some ⟨ir_order_fits.n, strip ir_order_fits.body, ir_order_fits.res⟩ := by kernel_rfl

/-- (*strongtx/order.trace).plain -/
def ir_order_trace_plain : IFn := ⟨25,
 (.seq (.region [
 ⟨some 4, .mov (.const (.bool false)), none⟩])
 (.seq (.region [
 ⟨some 5, .mov (.tmp 0), none⟩,
 ⟨some 6, .nilc (.tmp 5), none⟩,
 ⟨some 7, .fad 0 (.tmp 6), none⟩,
 ⟨some 8, .ld (.tmp 7), none⟩,
 ⟨some 9, .mov (.tmp 1), none⟩,
 ⟨some 10, .ixs 6 (.tmp 8) (.tmp 9), none⟩,
 ⟨some 11, .fad 2 (.tmp 10), none⟩,
 ⟨some 12, .ld (.tmp 11), none⟩,
 ⟨some 13, .bin .eql (.tmp 12) (.const (.int .i64 1)), none⟩,
 ⟨some 14, .mov (.tmp 13), none⟩,
 ⟨some 15, .mov (.tmp 0), some (14, false)⟩,
 ⟨some 16, .nilc (.tmp 15), some (14, false)⟩,
 ⟨some 17, .fad 0 (.tmp 16), some (14, false)⟩,
 ⟨some 18, .ld (.tmp 17), some (14, false)⟩,
 ⟨some 19, .mov (.tmp 1), some (14, false)⟩,
 ⟨some 20, .ixs 6 (.tmp 18) (.tmp 19), some (14, false)⟩,
 ⟨some 21, .fad 2 (.tmp 20), some (14, false)⟩,
 ⟨some 22, .ld (.tmp 21), some (14, false)⟩,
 ⟨some 23, .bin .eql (.tmp 22) (.const (.int .i64 2)), some (14, false)⟩,
 ⟨some 24, .pick (.tmp 14) (.const (.bool true)) (.tmp 23), none⟩,
 ⟨some 4, .mov (.tmp 24), none⟩])
 .ret)),
 [.tmp 4]⟩
theorem low_order_trace_plain : lowFn Tryd.prog movers 69 = some ⟨ir_order_trace_plain.n, strip ir_order_trace_plain.body, ir_order_trace_plain.res⟩ := by kernel_rfl

/-- strongtx/order.words -/
def ir_order_words : IFn := ⟨6,
 (.seq (.region [
 ⟨some 2, .mov (.const (.bool false)), none⟩])
 (.seq (.region [
 ⟨some 3, .mov (.tmp 0), none⟩,
 ⟨some 4, .call 72 [(.tmp 3), (.func 93)], none⟩,
 ⟨some 5, .not (.tmp 4), none⟩,
 ⟨some 2, .mov (.tmp 5), none⟩])
 .ret)),
 [.tmp 2]⟩
theorem low_order_words : lowFn Tryd.prog movers 79 = some ⟨ir_order_words.n, strip ir_order_words.body, ir_order_words.res⟩ := by kernel_rfl

/-- strongtx/order.words$1 -/
def ir_order_words_1 : IFn := ⟨9,
 (.seq (.region [
 ⟨some 2, .mov (.const (.bool false)), none⟩])
 (.seq (.region [
 ⟨some 3, .mov (.tmp 0), none⟩,
 ⟨some 4, .bin .lss (.tmp 3) (.const (.int .i64 0)), none⟩,
 ⟨some 5, .mov (.tmp 4), none⟩,
 ⟨some 6, .mov (.tmp 0), some (5, false)⟩,
 ⟨some 7, .bin .geq (.tmp 6) (.const (.int .i64 64)), some (5, false)⟩,
 ⟨some 8, .pick (.tmp 5) (.const (.bool true)) (.tmp 7), none⟩,
 ⟨some 2, .mov (.tmp 8), none⟩])
 .ret)),
 [.tmp 2]⟩
theorem low_order_words_1 : lowFn Tryd.prog movers 93 = some ⟨ir_order_words_1.n, strip ir_order_words_1.body, ir_order_words_1.res⟩ := by kernel_rfl
end Go.Proofs.YtofjnldidkiihaaDoor
