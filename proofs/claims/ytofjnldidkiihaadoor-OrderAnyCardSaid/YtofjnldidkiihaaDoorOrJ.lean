/- A lowered function with places to sum up, printed by program; checked against the loaded program by the kernel. No condition. -/
import Derived.Test.YtofjnldidkiihaaDoorIR
namespace Go.Proofs.YtofjnldidkiihaaDoor
open Go
set_option maxRecDepth 100000
def irc_order_trace_conflict : IFn := ⟨84,
 (.seq (.region [
 ⟨some 8, .mov (.const (.bool false)), none⟩])
 (.cut (.draw (.f ⟨some 12, .mov (.tmp 0), none⟩
 (.f ⟨some 13, .nilc (.tmp 12), none⟩
 (.f ⟨some 14, .fad 0 (.tmp 13), none⟩
 (.f ⟨some 15, .ld (.tmp 14), none⟩
 (.f ⟨some 16, .mov (.tmp 1), none⟩
 (.f ⟨some 17, .ixs 6 (.tmp 15) (.tmp 16), none⟩
 (.f ⟨some 18, .ldN 6 (.tmp 17), none⟩
 (.f ⟨some 19, .mov (.tmp 0), none⟩
 (.f ⟨some 20, .nilc (.tmp 19), none⟩
 (.f ⟨some 21, .fad 0 (.tmp 20), none⟩
 (.f ⟨some 23, .mov (.tmp 2), none⟩
 (.both (.f ⟨some 22, .ld (.tmp 21), none⟩
  (.f ⟨some 24, .ixs 6 (.tmp 22) (.tmp 23), none⟩
  (.both (.f ⟨some 25, .ldN 6 (.tmp 24), none⟩
   (.both (.m ⟨some 9, .new 42 (.agg #[.int .i64 0, .int .i64 0, .int .i64 0, .int .i64 0, .slice none 0 0, .slice none 0 0]), none⟩
    (.m ⟨some 10, .new 42 (.agg #[.int .i64 0, .int .i64 0, .int .i64 0, .int .i64 0, .slice none 0 0, .slice none 0 0]), none⟩
    (.m ⟨none, .stN 6 (.tmp 9) (.tmp 18), none⟩
    (.m ⟨none, .stN 6 (.tmp 10) (.tmp 25), none⟩
    .done))))
   (.m ⟨some 10, .new 42 (.agg #[.int .i64 0, .int .i64 0, .int .i64 0, .int .i64 0, .slice none 0 0, .slice none 0 0]), none⟩
    (.m ⟨some 9, .new 42 (.agg #[.int .i64 0, .int .i64 0, .int .i64 0, .int .i64 0, .slice none 0 0, .slice none 0 0]), none⟩
    (.m ⟨none, .stN 6 (.tmp 9) (.tmp 18), none⟩
    (.m ⟨none, .stN 6 (.tmp 10) (.tmp 25), none⟩
    .done))))))
  (.both (.m ⟨some 9, .new 42 (.agg #[.int .i64 0, .int .i64 0, .int .i64 0, .int .i64 0, .slice none 0 0, .slice none 0 0]), none⟩
    (.both (.f ⟨some 25, .ldN 6 (.tmp 24), none⟩
     (.m ⟨some 10, .new 42 (.agg #[.int .i64 0, .int .i64 0, .int .i64 0, .int .i64 0, .slice none 0 0, .slice none 0 0]), none⟩
     (.m ⟨none, .stN 6 (.tmp 9) (.tmp 18), none⟩
     (.m ⟨none, .stN 6 (.tmp 10) (.tmp 25), none⟩
     .done))))
    (.m ⟨some 10, .new 42 (.agg #[.int .i64 0, .int .i64 0, .int .i64 0, .int .i64 0, .slice none 0 0, .slice none 0 0]), none⟩
     (.both (.f ⟨some 25, .ldN 6 (.tmp 24), none⟩
      (.m ⟨none, .stN 6 (.tmp 9) (.tmp 18), none⟩
      (.m ⟨none, .stN 6 (.tmp 10) (.tmp 25), none⟩
      .done)))
     (.m ⟨none, .stN 6 (.tmp 9) (.tmp 18), none⟩
      (.f ⟨some 25, .ldN 6 (.tmp 24), none⟩
      (.m ⟨none, .stN 6 (.tmp 10) (.tmp 25), none⟩
      .done)))))))
   (.m ⟨some 10, .new 42 (.agg #[.int .i64 0, .int .i64 0, .int .i64 0, .int .i64 0, .slice none 0 0, .slice none 0 0]), none⟩
    (.both (.f ⟨some 25, .ldN 6 (.tmp 24), none⟩
     (.m ⟨some 9, .new 42 (.agg #[.int .i64 0, .int .i64 0, .int .i64 0, .int .i64 0, .slice none 0 0, .slice none 0 0]), none⟩
     (.m ⟨none, .stN 6 (.tmp 9) (.tmp 18), none⟩
     (.m ⟨none, .stN 6 (.tmp 10) (.tmp 25), none⟩
     .done))))
    (.m ⟨some 9, .new 42 (.agg #[.int .i64 0, .int .i64 0, .int .i64 0, .int .i64 0, .slice none 0 0, .slice none 0 0]), none⟩
     (.both (.f ⟨some 25, .ldN 6 (.tmp 24), none⟩
      (.m ⟨none, .stN 6 (.tmp 9) (.tmp 18), none⟩
      (.m ⟨none, .stN 6 (.tmp 10) (.tmp 25), none⟩
      .done)))
     (.m ⟨none, .stN 6 (.tmp 9) (.tmp 18), none⟩
      (.f ⟨some 25, .ldN 6 (.tmp 24), none⟩
      (.m ⟨none, .stN 6 (.tmp 10) (.tmp 25), none⟩
      .done)))))))))))
 (.both (.m ⟨some 9, .new 42 (.agg #[.int .i64 0, .int .i64 0, .int .i64 0, .int .i64 0, .slice none 0 0, .slice none 0 0]), none⟩
   (.both (.f ⟨some 22, .ld (.tmp 21), none⟩
    (.f ⟨some 24, .ixs 6 (.tmp 22) (.tmp 23), none⟩
    (.both (.f ⟨some 25, .ldN 6 (.tmp 24), none⟩
     (.m ⟨some 10, .new 42 (.agg #[.int .i64 0, .int .i64 0, .int .i64 0, .int .i64 0, .slice none 0 0, .slice none 0 0]), none⟩
     (.m ⟨none, .stN 6 (.tmp 9) (.tmp 18), none⟩
     (.m ⟨none, .stN 6 (.tmp 10) (.tmp 25), none⟩
     .done))))
    (.m ⟨some 10, .new 42 (.agg #[.int .i64 0, .int .i64 0, .int .i64 0, .int .i64 0, .slice none 0 0, .slice none 0 0]), none⟩
     (.both (.f ⟨some 25, .ldN 6 (.tmp 24), none⟩
      (.m ⟨none, .stN 6 (.tmp 9) (.tmp 18), none⟩
      (.m ⟨none, .stN 6 (.tmp 10) (.tmp 25), none⟩
      .done)))
     (.m ⟨none, .stN 6 (.tmp 9) (.tmp 18), none⟩
      (.f ⟨some 25, .ldN 6 (.tmp 24), none⟩
      (.m ⟨none, .stN 6 (.tmp 10) (.tmp 25), none⟩
      .done))))))))
   (.m ⟨some 10, .new 42 (.agg #[.int .i64 0, .int .i64 0, .int .i64 0, .int .i64 0, .slice none 0 0, .slice none 0 0]), none⟩
    (.both (.f ⟨some 22, .ld (.tmp 21), none⟩
     (.f ⟨some 24, .ixs 6 (.tmp 22) (.tmp 23), none⟩
     (.both (.f ⟨some 25, .ldN 6 (.tmp 24), none⟩
      (.m ⟨none, .stN 6 (.tmp 9) (.tmp 18), none⟩
      (.m ⟨none, .stN 6 (.tmp 10) (.tmp 25), none⟩
      .done)))
     (.m ⟨none, .stN 6 (.tmp 9) (.tmp 18), none⟩
      (.f ⟨some 25, .ldN 6 (.tmp 24), none⟩
      (.m ⟨none, .stN 6 (.tmp 10) (.tmp 25), none⟩
      .done))))))
    (.m ⟨none, .stN 6 (.tmp 9) (.tmp 18), none⟩
     (.f ⟨some 22, .ld (.tmp 21), none⟩
     (.f ⟨some 24, .ixs 6 (.tmp 22) (.tmp 23), none⟩
     (.f ⟨some 25, .ldN 6 (.tmp 24), none⟩
     (.m ⟨none, .stN 6 (.tmp 10) (.tmp 25), none⟩
     .done)))))))))
  (.m ⟨some 10, .new 42 (.agg #[.int .i64 0, .int .i64 0, .int .i64 0, .int .i64 0, .slice none 0 0, .slice none 0 0]), none⟩
   (.both (.f ⟨some 22, .ld (.tmp 21), none⟩
    (.f ⟨some 24, .ixs 6 (.tmp 22) (.tmp 23), none⟩
    (.both (.f ⟨some 25, .ldN 6 (.tmp 24), none⟩
     (.m ⟨some 9, .new 42 (.agg #[.int .i64 0, .int .i64 0, .int .i64 0, .int .i64 0, .slice none 0 0, .slice none 0 0]), none⟩
     (.m ⟨none, .stN 6 (.tmp 9) (.tmp 18), none⟩
     (.m ⟨none, .stN 6 (.tmp 10) (.tmp 25), none⟩
     .done))))
    (.m ⟨some 9, .new 42 (.agg #[.int .i64 0, .int .i64 0, .int .i64 0, .int .i64 0, .slice none 0 0, .slice none 0 0]), none⟩
     (.both (.f ⟨some 25, .ldN 6 (.tmp 24), none⟩
      (.m ⟨none, .stN 6 (.tmp 9) (.tmp 18), none⟩
      (.m ⟨none, .stN 6 (.tmp 10) (.tmp 25), none⟩
      .done)))
     (.m ⟨none, .stN 6 (.tmp 9) (.tmp 18), none⟩
      (.f ⟨some 25, .ldN 6 (.tmp 24), none⟩
      (.m ⟨none, .stN 6 (.tmp 10) (.tmp 25), none⟩
      .done))))))))
   (.m ⟨some 9, .new 42 (.agg #[.int .i64 0, .int .i64 0, .int .i64 0, .int .i64 0, .slice none 0 0, .slice none 0 0]), none⟩
    (.both (.f ⟨some 22, .ld (.tmp 21), none⟩
     (.f ⟨some 24, .ixs 6 (.tmp 22) (.tmp 23), none⟩
     (.both (.f ⟨some 25, .ldN 6 (.tmp 24), none⟩
      (.m ⟨none, .stN 6 (.tmp 9) (.tmp 18), none⟩
      (.m ⟨none, .stN 6 (.tmp 10) (.tmp 25), none⟩
      .done)))
     (.m ⟨none, .stN 6 (.tmp 9) (.tmp 18), none⟩
      (.f ⟨some 25, .ldN 6 (.tmp 24), none⟩
      (.m ⟨none, .stN 6 (.tmp 10) (.tmp 25), none⟩
      .done))))))
    (.m ⟨none, .stN 6 (.tmp 9) (.tmp 18), none⟩
     (.f ⟨some 22, .ld (.tmp 21), none⟩
     (.f ⟨some 24, .ixs 6 (.tmp 22) (.tmp 23), none⟩
     (.f ⟨some 25, .ldN 6 (.tmp 24), none⟩
     (.m ⟨none, .stN 6 (.tmp 10) (.tmp 25), none⟩
     .done)))))))))))))))))))))))
 (.seq (.seq (.region [
 ⟨some 26, .fad 1 (.tmp 9), none⟩,
 ⟨some 27, .ld (.tmp 26), none⟩,
 ⟨some 28, .fad 1 (.tmp 10), none⟩,
 ⟨some 29, .ld (.tmp 28), none⟩,
 ⟨some 30, .bin .eql (.tmp 27) (.tmp 29), none⟩,
 ⟨some 31, .mov (.tmp 30), none⟩,
 ⟨some 32, .mov (.tmp 0), some (31, false)⟩,
 ⟨some 33, .mov (.tmp 1), some (31, false)⟩,
 ⟨some 34, .call 69 [(.tmp 32), (.tmp 33)], some (31, false)⟩,
 ⟨some 35, .not (.tmp 34), some (31, false)⟩,
 ⟨some 36, .mov (.tmp 35), some (31, false)⟩,
 ⟨some 37, .mov (.tmp 0), some (36, true)⟩,
 ⟨some 38, .mov (.tmp 2), some (36, true)⟩,
 ⟨some 39, .call 69 [(.tmp 37), (.tmp 38)], some (36, true)⟩,
 ⟨some 40, .not (.tmp 39), some (36, true)⟩,
 ⟨some 41, .pick (.tmp 36) (.tmp 40) (.const (.bool false)), some (31, false)⟩,
 ⟨some 42, .pick (.tmp 31) (.const (.bool true)) (.tmp 41), none⟩])
 (.cond (.tmp 42)
  (.seq (.region [
  ⟨some 8, .mov (.const (.bool false)), none⟩])
  .ret)
  .skip))
 (.seq (.seq (.region [
 ⟨some 43, .mov (.tmp 0), none⟩,
 ⟨some 44, .mov (.tmp 1), none⟩,
 ⟨some 45, .call 69 [(.tmp 43), (.tmp 44)], none⟩,
 ⟨some 46, .not (.tmp 45), none⟩])
 (.cond (.tmp 46)
  (.region [
  ⟨some 47, .ldN 6 (.tmp 10), none⟩,
  ⟨some 48, .ldN 6 (.tmp 9), none⟩,
  ⟨none, .stN 6 (.tmp 9) (.tmp 47), none⟩,
  ⟨none, .stN 6 (.tmp 10) (.tmp 48), none⟩])
  .skip))
 (.seq (.seq (.region [
 ⟨some 49, .fad 3 (.tmp 9), none⟩,
 ⟨some 50, .ld (.tmp 49), none⟩,
 ⟨some 51, .mov (.tmp 3), none⟩,
 ⟨some 52, .bin .neq (.tmp 50) (.tmp 51), none⟩])
 (.cond (.tmp 52)
  (.seq (.region [
  ⟨some 8, .mov (.const (.bool false)), none⟩])
  .ret)
  .skip))
 (.seq (.region [
 ⟨some 53, .fad 2 (.tmp 9), none⟩,
 ⟨some 54, .ld (.tmp 53), none⟩,
 ⟨some 55, .bin .eql (.tmp 54) (.const (.int .i64 2)), none⟩,
 ⟨some 11, .mov (.tmp 55), none⟩])
 (.seq (.seq (.region [
 ⟨some 56, .fad 2 (.tmp 10), none⟩,
 ⟨some 57, .ld (.tmp 56), none⟩,
 ⟨some 58, .bin .eql (.tmp 57) (.const (.int .i64 4)), none⟩])
 (.cond (.tmp 58)
  (.seq (.region [
  ⟨some 59, .fad 5 (.tmp 10), none⟩,
  ⟨some 60, .ld (.tmp 59), none⟩,
  ⟨some 61, .mov (.tmp 3), none⟩,
  ⟨some 62, .call 66 [(.tmp 60), (.tmp 61)], none⟩,
  ⟨some 63, .mov (.tmp 62), none⟩,
  ⟨some 64, .mov (.tmp 11), some (63, false)⟩,
  ⟨some 65, .mov (.tmp 64), some (63, false)⟩,
  ⟨some 66, .fad 4 (.tmp 10), some (65, true)⟩,
  ⟨some 67, .ld (.tmp 66), some (65, true)⟩,
  ⟨some 68, .mov (.tmp 3), some (65, true)⟩,
  ⟨some 69, .call 66 [(.tmp 67), (.tmp 68)], some (65, true)⟩,
  ⟨some 70, .pick (.tmp 65) (.tmp 69) (.const (.bool false)), some (63, false)⟩,
  ⟨some 71, .pick (.tmp 63) (.const (.bool true)) (.tmp 70), none⟩,
  ⟨some 8, .mov (.tmp 71), none⟩])
  .ret)
  .skip))
 (.seq (.region [
 ⟨some 72, .fad 3 (.tmp 10), none⟩,
 ⟨some 73, .ld (.tmp 72), none⟩,
 ⟨some 74, .mov (.tmp 3), none⟩,
 ⟨some 75, .bin .eql (.tmp 73) (.tmp 74), none⟩,
 ⟨some 76, .mov (.tmp 75), none⟩,
 ⟨some 77, .mov (.tmp 11), some (76, true)⟩,
 ⟨some 78, .mov (.tmp 77), some (76, true)⟩,
 ⟨some 79, .fad 2 (.tmp 10), some (78, false)⟩,
 ⟨some 80, .ld (.tmp 79), some (78, false)⟩,
 ⟨some 81, .bin .eql (.tmp 80) (.const (.int .i64 2)), some (78, false)⟩,
 ⟨some 82, .pick (.tmp 78) (.const (.bool true)) (.tmp 81), some (76, true)⟩,
 ⟨some 83, .pick (.tmp 76) (.tmp 82) (.const (.bool false)), none⟩,
 ⟨some 8, .mov (.tmp 83), none⟩])
 .ret)))))))),
 [.tmp 8]⟩
theorem lowc_order_trace_conflict : lowFn Tryd.prog movers 71 = some ⟨irc_order_trace_conflict.n, strip irc_order_trace_conflict.body, irc_order_trace_conflict.res⟩ := by kernel_rfl
end Go.Proofs.YtofjnldidkiihaaDoor
