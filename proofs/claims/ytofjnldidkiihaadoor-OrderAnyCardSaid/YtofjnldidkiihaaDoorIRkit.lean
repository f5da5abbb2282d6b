/- The lowered code of a package, printed by program; each function is checked against the loaded program by the kernel. No condition. -/
import Derived.Test.YtofjnldidkiihaaDoorIR
namespace Go.Proofs.YtofjnldidkiihaaDoor
open Go
set_option maxRecDepth 100000

/-- strongtx/strongtxkit.Place -/
def ir_kit_Place : IFn := ⟨11,
 (.seq (.region [
 ⟨some 4, .mov (.const (.int .i64 0)), none⟩])
 (.seq (.region [
 ⟨some 5, .mov (.tmp 0), none⟩,
 ⟨some 6, .conv .u64 (.tmp 5), none⟩,
 ⟨some 7, .mov (.tmp 1), none⟩,
 ⟨some 8, .conv .u64 (.tmp 7), none⟩,
 ⟨some 9, .bin .rem (.tmp 6) (.tmp 8), none⟩,
 ⟨some 10, .conv .i64 (.tmp 9), none⟩,
 ⟨some 4, .mov (.tmp 10), none⟩])
 .ret)),
 [.tmp 4]⟩
theorem low_kit_Place : lowFn Tryd.prog movers 17 = some ⟨ir_kit_Place.n, strip ir_kit_Place.body, ir_kit_Place.res⟩ := by kernel_rfl

/-- strongtx/strongtxkit.TwinEvents -/
def ir_kit_TwinEvents : IFn := ⟨29,
 (.seq (.region [
 ⟨some 2, .mov (.const (.slice none 0 0)), none⟩])
 (.seq (.region [
 ⟨some 3, .mov (.const (.slice none 0 0)), none⟩])
 (.seq (.seq (.region [
 ⟨some 4, .mov (.const (.int .i64 0)), none⟩])
 (.block 0
  (.loop 268435448
   (.seq (.seq (.region [
   ⟨some 6, .mov (.tmp 4), none⟩,
   ⟨some 7, .mov (.tmp 0), none⟩,
   ⟨some 8, .len (.tmp 7), none⟩,
   ⟨some 9, .bin .lss (.tmp 6) (.tmp 8), none⟩])
   (.cond (.tmp 9)
    .skip
    (.exit 0)))
   (.seq (.block 1
    (.seq (.region [
    ⟨some 12, .mov (.tmp 0), none⟩,
    ⟨some 13, .mov (.tmp 4), none⟩,
    ⟨some 14, .ixs 6 (.tmp 12) (.tmp 13), none⟩,
    ⟨some 15, .ldN 6 (.tmp 14), none⟩,
    ⟨some 5, .new 42 (.agg #[.int .i64 0, .int .i64 0, .int .i64 0, .int .i64 0, .slice none 0 0, .slice none 0 0]), none⟩,
    ⟨none, .stN 6 (.tmp 5) (.tmp 15), none⟩])
    (.seq (.draw (.f ⟨some 16, .fad 4 (.tmp 5), none⟩
    (.f ⟨some 17, .ld (.tmp 16), none⟩
    (.f ⟨some 19, .fad 5 (.tmp 5), none⟩
    (.both (.m ⟨some 18, .call 42 [(.tmp 17)], none⟩
     (.f ⟨some 20, .ld (.tmp 19), none⟩
     (.f ⟨some 22, .fad 4 (.tmp 5), none⟩
     (.m ⟨some 21, .call 42 [(.tmp 20)], none⟩
     (.m ⟨none, .st (.tmp 22) (.tmp 18), none⟩
     (.f ⟨some 23, .fad 5 (.tmp 5), none⟩
     (.m ⟨none, .st (.tmp 23) (.tmp 21), none⟩
     .done)))))))
    (.f ⟨some 20, .ld (.tmp 19), none⟩
     (.m ⟨some 18, .call 42 [(.tmp 17)], none⟩
     (.f ⟨some 22, .fad 4 (.tmp 5), none⟩
     (.m ⟨some 21, .call 42 [(.tmp 20)], none⟩
     (.m ⟨none, .st (.tmp 22) (.tmp 18), none⟩
     (.f ⟨some 23, .fad 5 (.tmp 5), none⟩
     (.m ⟨none, .st (.tmp 23) (.tmp 21), none⟩
     .done))))))))))))
    (.region [
    ⟨some 24, .mov (.tmp 3), none⟩,
    ⟨some 25, .ldN 6 (.tmp 5), none⟩,
    ⟨some 26, .blds 42 1 [(.int .i64 0), (.int .i64 0), (.int .i64 0), (.int .i64 0), (.slice none 0 0), (.slice none 0 0)] [(0, 6, (.tmp 25))], none⟩,
    ⟨some 27, .app 42 6 80 [(.int .i64 0), (.int .i64 0), (.int .i64 0), (.int .i64 0), (.slice none 0 0), (.slice none 0 0)] (.tmp 24) (.tmp 26), none⟩,
    ⟨some 3, .mov (.tmp 27), none⟩]))))
   (.region [
   ⟨some 10, .mov (.tmp 4), none⟩,
   ⟨some 11, .bin .add (.tmp 10) (.const (.int .i64 1)), none⟩,
   ⟨some 4, .mov (.tmp 11), none⟩]))))))
 (.seq (.region [
 ⟨some 28, .mov (.tmp 3), none⟩,
 ⟨some 2, .mov (.tmp 28), none⟩])
 .ret)))),
 [.tmp 2]⟩
theorem low_kit_TwinEvents : lowFn Tryd.prog movers 25 = some ⟨ir_kit_TwinEvents.n, strip ir_kit_TwinEvents.body, ir_kit_TwinEvents.res⟩ := by kernel_rfl

/-- strongtx/strongtxkit.Ints -/
def ir_kit_Ints : IFn := ⟨26,
 (.seq (.region [
 ⟨some 4, .mov (.const (.bool false)), none⟩])
 (.seq (.seq (.region [
 ⟨some 6, .mov (.tmp 0), none⟩,
 ⟨some 7, .len (.tmp 6), none⟩,
 ⟨some 8, .mov (.tmp 1), none⟩,
 ⟨some 9, .len (.tmp 8), none⟩,
 ⟨some 10, .bin .neq (.tmp 7) (.tmp 9), none⟩])
 (.cond (.tmp 10)
  (.seq (.region [
  ⟨some 4, .mov (.const (.bool false)), none⟩])
  .ret)
  .skip))
 (.seq (.seq (.region [
 ⟨some 5, .mov (.const (.int .i64 0)), none⟩])
 (.block 0
  (.loop 67106864
   (.seq (.seq (.region [
   ⟨some 11, .mov (.tmp 5), none⟩,
   ⟨some 12, .mov (.tmp 0), none⟩,
   ⟨some 13, .len (.tmp 12), none⟩,
   ⟨some 14, .bin .lss (.tmp 11) (.tmp 13), none⟩])
   (.cond (.tmp 14)
    .skip
    (.exit 0)))
   (.seq (.block 1
    (.seq (.draw (.f ⟨some 17, .mov (.tmp 0), none⟩
    (.f ⟨some 18, .mov (.tmp 5), none⟩
    (.f ⟨some 19, .ixs 1 (.tmp 17) (.tmp 18), none⟩
    (.f ⟨some 20, .ld (.tmp 19), none⟩
    (.f ⟨some 21, .mov (.tmp 1), none⟩
    (.f ⟨some 22, .mov (.tmp 5), none⟩
    (.f ⟨some 23, .ixs 1 (.tmp 21) (.tmp 22), none⟩
    (.f ⟨some 24, .ld (.tmp 23), none⟩
    (.f ⟨some 25, .bin .neq (.tmp 20) (.tmp 24), none⟩
    .done))))))))))
    (.cond (.tmp 25)
     (.seq (.region [
     ⟨some 4, .mov (.const (.bool false)), none⟩])
     .ret)
     .skip)))
   (.region [
   ⟨some 15, .mov (.tmp 5), none⟩,
   ⟨some 16, .bin .add (.tmp 15) (.const (.int .i64 1)), none⟩,
   ⟨some 5, .mov (.tmp 16), none⟩]))))))
 (.seq (.region [
 ⟨some 4, .mov (.const (.bool true)), none⟩])
 .ret)))),
 [.tmp 4]⟩
theorem low_kit_Ints : lowFn Tryd.prog movers 30 = some ⟨ir_kit_Ints.n, strip ir_kit_Ints.body, ir_kit_Ints.res⟩ := by kernel_rfl

/-- strongtx/strongtxkit.Races -/
def ir_kit_Races : IFn := ⟨26,
 (.seq (.region [
 ⟨some 4, .mov (.const (.bool false)), none⟩])
 (.seq (.seq (.region [
 ⟨some 6, .mov (.tmp 0), none⟩,
 ⟨some 7, .len (.tmp 6), none⟩,
 ⟨some 8, .mov (.tmp 1), none⟩,
 ⟨some 9, .len (.tmp 8), none⟩,
 ⟨some 10, .bin .neq (.tmp 7) (.tmp 9), none⟩])
 (.cond (.tmp 10)
  (.seq (.region [
  ⟨some 4, .mov (.const (.bool false)), none⟩])
  .ret)
  .skip))
 (.seq (.seq (.region [
 ⟨some 5, .mov (.const (.int .i64 0)), none⟩])
 (.block 0
  (.loop 67106864
   (.seq (.seq (.region [
   ⟨some 11, .mov (.tmp 5), none⟩,
   ⟨some 12, .mov (.tmp 0), none⟩,
   ⟨some 13, .len (.tmp 12), none⟩,
   ⟨some 14, .bin .lss (.tmp 11) (.tmp 13), none⟩])
   (.cond (.tmp 14)
    .skip
    (.exit 0)))
   (.seq (.block 1
    (.seq (.draw (.f ⟨some 17, .mov (.tmp 0), none⟩
    (.f ⟨some 18, .mov (.tmp 5), none⟩
    (.f ⟨some 19, .ixs 3 (.tmp 17) (.tmp 18), none⟩
    (.f ⟨some 20, .ldN 3 (.tmp 19), none⟩
    (.f ⟨some 21, .mov (.tmp 1), none⟩
    (.f ⟨some 22, .mov (.tmp 5), none⟩
    (.f ⟨some 23, .ixs 3 (.tmp 21) (.tmp 22), none⟩
    (.f ⟨some 24, .ldN 3 (.tmp 23), none⟩
    (.f ⟨some 25, .ageq true [0, 0, 0] (.tmp 20) (.tmp 24), none⟩
    .done))))))))))
    (.cond (.tmp 25)
     (.seq (.region [
     ⟨some 4, .mov (.const (.bool false)), none⟩])
     .ret)
     .skip)))
   (.region [
   ⟨some 15, .mov (.tmp 5), none⟩,
   ⟨some 16, .bin .add (.tmp 15) (.const (.int .i64 1)), none⟩,
   ⟨some 5, .mov (.tmp 16), none⟩]))))))
 (.seq (.region [
 ⟨some 4, .mov (.const (.bool true)), none⟩])
 .ret)))),
 [.tmp 4]⟩
theorem low_kit_Races : lowFn Tryd.prog movers 38 = some ⟨ir_kit_Races.n, strip ir_kit_Races.body, ir_kit_Races.res⟩ := by kernel_rfl

/-- strongtx/strongtxkit.TwinInts -/
def ir_kit_TwinInts : IFn := ⟨19,
 (.seq (.region [
 ⟨some 2, .mov (.const (.slice none 0 0)), none⟩])
 (.seq (.region [
 ⟨some 3, .mov (.const (.slice none 0 0)), none⟩])
 (.seq (.seq (.region [
 ⟨some 4, .mov (.const (.int .i64 0)), none⟩])
 (.block 0
  (.loop 262136
   (.seq (.seq (.region [
   ⟨some 5, .mov (.tmp 4), none⟩,
   ⟨some 6, .mov (.tmp 0), none⟩,
   ⟨some 7, .len (.tmp 6), none⟩,
   ⟨some 8, .bin .lss (.tmp 5) (.tmp 7), none⟩])
   (.cond (.tmp 8)
    .skip
    (.exit 0)))
   (.seq (.block 1
    (.region [
    ⟨some 11, .mov (.tmp 3), none⟩,
    ⟨some 12, .mov (.tmp 0), none⟩,
    ⟨some 13, .mov (.tmp 4), none⟩,
    ⟨some 14, .ixs 1 (.tmp 12) (.tmp 13), none⟩,
    ⟨some 15, .ld (.tmp 14), none⟩,
    ⟨some 16, .blds 3 1 [(.int .i64 0)] [(0, 1, (.tmp 15))], none⟩,
    ⟨some 17, .app 3 1 8 [(.int .i64 0)] (.tmp 11) (.tmp 16), none⟩,
    ⟨some 3, .mov (.tmp 17), none⟩]))
   (.region [
   ⟨some 9, .mov (.tmp 4), none⟩,
   ⟨some 10, .bin .add (.tmp 9) (.const (.int .i64 1)), none⟩,
   ⟨some 4, .mov (.tmp 10), none⟩]))))))
 (.seq (.region [
 ⟨some 18, .mov (.tmp 3), none⟩,
 ⟨some 2, .mov (.tmp 18), none⟩])
 .ret)))),
 [.tmp 2]⟩
theorem low_kit_TwinInts : lowFn Tryd.prog movers 42 = some ⟨ir_kit_TwinInts.n, strip ir_kit_TwinInts.body, ir_kit_TwinInts.res⟩ := by kernel_rfl

/-- strongtx/strongtxkit.In -/
def ir_kit_In : IFn := ⟨18,
 (.seq (.region [
 ⟨some 4, .mov (.const (.bool false)), none⟩])
 (.seq (.seq (.region [
 ⟨some 5, .mov (.const (.int .i64 0)), none⟩])
 (.block 0
  (.loop 262128
   (.seq (.seq (.region [
   ⟨some 6, .mov (.tmp 5), none⟩,
   ⟨some 7, .mov (.tmp 0), none⟩,
   ⟨some 8, .len (.tmp 7), none⟩,
   ⟨some 9, .bin .lss (.tmp 6) (.tmp 8), none⟩])
   (.cond (.tmp 9)
    .skip
    (.exit 0)))
   (.seq (.block 1
    (.seq (.region [
    ⟨some 12, .mov (.tmp 0), none⟩,
    ⟨some 13, .mov (.tmp 5), none⟩,
    ⟨some 14, .ixs 1 (.tmp 12) (.tmp 13), none⟩,
    ⟨some 15, .ld (.tmp 14), none⟩,
    ⟨some 16, .mov (.tmp 1), none⟩,
    ⟨some 17, .bin .eql (.tmp 15) (.tmp 16), none⟩])
    (.cond (.tmp 17)
     (.seq (.region [
     ⟨some 4, .mov (.const (.bool true)), none⟩])
     .ret)
     .skip)))
   (.region [
   ⟨some 10, .mov (.tmp 5), none⟩,
   ⟨some 11, .bin .add (.tmp 10) (.const (.int .i64 1)), none⟩,
   ⟨some 5, .mov (.tmp 11), none⟩]))))))
 (.seq (.region [
 ⟨some 4, .mov (.const (.bool false)), none⟩])
 .ret))),
 [.tmp 4]⟩
theorem low_kit_In : lowFn Tryd.prog movers 57 = some ⟨ir_kit_In.n, strip ir_kit_In.body, ir_kit_In.res⟩ := by kernel_rfl
end Go.Proofs.YtofjnldidkiihaaDoor
