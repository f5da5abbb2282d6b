/- The lowered code of a package, printed by program; each function is checked against the loaded program by the kernel. No condition. -/
import Derived.Test.YtiimndcifcoofaaDoorIR
namespace Go.Proofs.YtiimndcifcoofaaDoor
open Go
set_option maxRecDepth 100000

/-- strongtx/strongtxlaw03.IsaRound -/
def ir_law03_IsaRound : IFn := ⟨109,
 (.seq (.region [
 ⟨some 6, .box 23 (.tmp 0), none⟩,
 ⟨some 12, .mov (.const (.bool false)), none⟩])
 (.seq (.draw (.f ⟨some 21, .ldN 5 (.tmp 6), none⟩
 (.f ⟨some 22, .mov (.tmp 1), none⟩
 (.f ⟨some 23, .mov (.tmp 2), none⟩
 (.f ⟨some 24, .mov (.tmp 3), none⟩
 (.f ⟨some 25, .mov (.tmp 4), none⟩
 (.f ⟨some 26, .mov (.tmp 5), none⟩
 (.f ⟨some 27, .call 5 [(.tmp 22), (.tmp 23), (.tmp 24), (.tmp 25), (.tmp 26)], none⟩
 (.f ⟨some 28, .mov (.tmp 1), none⟩
 (.f ⟨some 29, .mov (.tmp 2), none⟩
 (.f ⟨some 30, .mov (.tmp 3), none⟩
 (.f ⟨some 31, .mov (.tmp 5), none⟩
 (.f ⟨some 32, .call 5 [(.tmp 28), (.tmp 29), (.tmp 30), (.const (.int .i64 0)), (.tmp 31)], none⟩
 (.f ⟨some 33, .mov (.tmp 1), none⟩
 (.f ⟨some 34, .mov (.tmp 2), none⟩
 (.f ⟨some 35, .mov (.tmp 5), none⟩
 (.f ⟨some 36, .call 5 [(.tmp 33), (.tmp 34), (.const (.int .i64 0)), (.const (.int .i64 0)), (.tmp 35)], none⟩
 (.f ⟨some 37, .mov (.tmp 1), none⟩
 (.f ⟨some 38, .mov (.tmp 5), none⟩
 (.f ⟨some 39, .call 5 [(.tmp 37), (.const (.int .i64 0)), (.const (.int .i64 0)), (.const (.int .i64 0)), (.tmp 38)], none⟩
 (.f ⟨some 40, .mov (.tmp 1), none⟩
 (.f ⟨some 41, .call 6 [(.tmp 40), (.const (.int .i64 18))], none⟩
 (.f ⟨some 42, .bld [(.int .i64 0), (.int .i64 0), (.int .i64 0), (.int .i64 0), (.int .i64 0)] [(0, 1, (.tmp 41))], none⟩
 (.m ⟨some 43, .blds 23 6 [(.int .i64 0), (.int .i64 0), (.int .i64 0), (.int .i64 0), (.int .i64 0), (.int .i64 0), (.int .i64 0), (.int .i64 0), (.int .i64 0), (.int .i64 0), (.int .i64 0), (.int .i64 0), (.int .i64 0), (.int .i64 0), (.int .i64 0), (.int .i64 0), (.int .i64 0), (.int .i64 0), (.int .i64 0), (.int .i64 0), (.int .i64 0), (.int .i64 0), (.int .i64 0), (.int .i64 0), (.int .i64 0), (.int .i64 0), (.int .i64 0), (.int .i64 0), (.int .i64 0), (.int .i64 0)] [(0, 5, (.tmp 21)), (5, 5, (.tmp 27)), (10, 5, (.tmp 32)), (15, 5, (.tmp 36)), (20, 5, (.tmp 39)), (25, 5, (.tmp 42))], none⟩
 (.f ⟨some 13, .mov (.tmp 43), none⟩
 .done)))))))))))))))))))))))))
 (.seq (.seq (.region [
 ⟨some 14, .mov (.const (.int .i64 0)), none⟩])
 (.block 0
  (.loop 324518553658426726765563836616704
   (.seq (.seq (.region [
   ⟨some 44, .mov (.tmp 14), none⟩,
   ⟨some 45, .mov (.tmp 13), none⟩,
   ⟨some 46, .len (.tmp 45), none⟩,
   ⟨some 47, .bin .lss (.tmp 44) (.tmp 46), none⟩])
   (.cond (.tmp 47)
    .skip
    (.exit 0)))
   (.seq (.block 1
    (.seq (.region [
    ⟨some 51, .mov (.tmp 13), none⟩,
    ⟨some 52, .mov (.tmp 14), none⟩,
    ⟨some 53, .ixs 5 (.tmp 51) (.tmp 52), none⟩,
    ⟨some 54, .ldN 5 (.tmp 53), none⟩,
    ⟨some 55, .call 7 [(.tmp 54)], none⟩,
    ⟨some 50, .mov (.tmp 55), none⟩,
    ⟨some 56, .ext (.tmp 50) 0, none⟩,
    ⟨some 57, .ext (.tmp 50) 1, none⟩,
    ⟨some 15, .mov (.tmp 56), none⟩,
    ⟨some 16, .mov (.tmp 57), none⟩])
    (.seq (.seq (.region [
    ⟨some 58, .mov (.tmp 13), none⟩,
    ⟨some 59, .mov (.tmp 14), none⟩,
    ⟨some 60, .ixs 5 (.tmp 58) (.tmp 59), none⟩,
    ⟨some 61, .ldN 5 (.tmp 60), none⟩,
    ⟨some 62, .call 8 [(.tmp 61)], none⟩,
    ⟨some 63, .bin .neq (.tmp 62) (.const (.int .i64 0)), none⟩])
    (.cond (.tmp 63)
     (.seq (.seq (.region [
     ⟨some 64, .mov (.tmp 16), none⟩,
     ⟨some 65, .bin .eql (.tmp 64) (.const (.int .i64 0)), none⟩,
     ⟨some 66, .mov (.tmp 65), none⟩,
     ⟨some 67, .mov (.tmp 15), some (66, false)⟩,
     ⟨some 68, .sbin .neq (.tmp 67) (.const (.string ⟨#[]⟩)), some (66, false)⟩,
     ⟨some 69, .pick (.tmp 66) (.const (.bool true)) (.tmp 68), none⟩])
     (.cond (.tmp 69)
      (.seq (.region [
      ⟨some 12, .mov (.const (.bool false)), none⟩])
      .ret)
      .skip))
     (.exit 1))
     .skip))
    (.seq (.region [
    ⟨some 71, .mov (.tmp 15), none⟩,
    ⟨some 72, .call 9 [(.tmp 71)], none⟩,
    ⟨some 70, .mov (.tmp 72), none⟩,
    ⟨some 73, .ext (.tmp 70) 0, none⟩,
    ⟨some 74, .ext (.tmp 70) 1, none⟩,
    ⟨some 17, .new 23 (.agg #[.int .i64 0, .int .i64 0, .int .i64 0, .int .i64 0, .int .i64 0]), none⟩,
    ⟨none, .stN 5 (.tmp 17) (.tmp 73), none⟩,
    ⟨some 18, .mov (.tmp 74), none⟩])
    (.seq (.region [
    ⟨some 76, .mov (.tmp 15), none⟩,
    ⟨some 77, .scat (.const (.string ⟨#[32, 32]⟩)) (.tmp 76), none⟩,
    ⟨some 78, .scat (.tmp 77) (.const (.string ⟨#[32]⟩)), none⟩,
    ⟨some 79, .call 9 [(.tmp 78)], none⟩,
    ⟨some 75, .mov (.tmp 79), none⟩,
    ⟨some 80, .ext (.tmp 75) 0, none⟩,
    ⟨some 81, .ext (.tmp 75) 1, none⟩,
    ⟨some 19, .new 23 (.agg #[.int .i64 0, .int .i64 0, .int .i64 0, .int .i64 0, .int .i64 0]), none⟩,
    ⟨none, .stN 5 (.tmp 19) (.tmp 80), none⟩,
    ⟨some 20, .mov (.tmp 81), none⟩])
    (.seq (.draw (.f ⟨some 82, .mov (.tmp 16), none⟩
    (.f ⟨some 83, .bin .neq (.tmp 82) (.const (.int .i64 0)), none⟩
    (.f ⟨some 84, .mov (.tmp 83), none⟩
    (.f ⟨some 85, .mov (.tmp 18), some (84, false)⟩
    (.f ⟨some 86, .bin .neq (.tmp 85) (.const (.int .i64 0)), some (84, false)⟩
    (.f ⟨some 87, .pick (.tmp 84) (.const (.bool true)) (.tmp 86), none⟩
    (.f ⟨some 88, .mov (.tmp 87), none⟩
    (.f ⟨some 89, .mov (.tmp 20), some (88, false)⟩
    (.f ⟨some 90, .bin .neq (.tmp 89) (.const (.int .i64 0)), some (88, false)⟩
    (.f ⟨some 91, .pick (.tmp 88) (.const (.bool true)) (.tmp 90), none⟩
    (.f ⟨some 92, .mov (.tmp 91), none⟩
    (.f ⟨some 93, .ldN 5 (.tmp 17), some (92, false)⟩
    (.f ⟨some 94, .mov (.tmp 13), some (92, false)⟩
    (.f ⟨some 95, .mov (.tmp 14), some (92, false)⟩
    (.f ⟨some 96, .ixs 5 (.tmp 94) (.tmp 95), some (92, false)⟩
    (.f ⟨some 97, .ldN 5 (.tmp 96), some (92, false)⟩
    (.f ⟨some 98, .ageq true [0, 0, 0, 0, 0] (.tmp 93) (.tmp 97), some (92, false)⟩
    (.f ⟨some 99, .pick (.tmp 92) (.const (.bool true)) (.tmp 98), none⟩
    (.f ⟨some 100, .mov (.tmp 99), none⟩
    (.f ⟨some 101, .ldN 5 (.tmp 19), some (100, false)⟩
    (.f ⟨some 102, .mov (.tmp 13), some (100, false)⟩
    (.f ⟨some 103, .mov (.tmp 14), some (100, false)⟩
    (.f ⟨some 104, .ixs 5 (.tmp 102) (.tmp 103), some (100, false)⟩
    (.f ⟨some 105, .ldN 5 (.tmp 104), some (100, false)⟩
    (.f ⟨some 106, .ageq true [0, 0, 0, 0, 0] (.tmp 101) (.tmp 105), some (100, false)⟩
    (.f ⟨some 107, .pick (.tmp 100) (.const (.bool true)) (.tmp 106), none⟩
    .done)))))))))))))))))))))))))))
    (.cond (.tmp 107)
     (.seq (.region [
     ⟨some 12, .mov (.const (.bool false)), none⟩])
     .ret)
     .skip)))))))
   (.region [
   ⟨some 48, .mov (.tmp 14), none⟩,
   ⟨some 49, .bin .add (.tmp 48) (.const (.int .i64 1)), none⟩,
   ⟨some 14, .mov (.tmp 49), none⟩]))))))
 (.seq (.region [
 ⟨some 108, .call 10 [], none⟩,
 ⟨some 12, .mov (.tmp 108), none⟩])
 .ret)))),
 [.tmp 12]⟩
theorem low_law03_IsaRound : lowFn Tryd.prog movers 3 = some ⟨ir_law03_IsaRound.n, strip ir_law03_IsaRound.body, ir_law03_IsaRound.res⟩ := by kernel_rfl

/-- strongtx/strongtxlaw03.IsaUses -/
def ir_law03_IsaUses : IFn := ⟨105,
 (.seq (.region [
 ⟨some 10, .mov (.const (.bool false)), none⟩])
 (.seq (.region [
 ⟨some 17, .mov (.tmp 0), none⟩,
 ⟨some 18, .mov (.tmp 1), none⟩,
 ⟨some 19, .mov (.tmp 2), none⟩,
 ⟨some 20, .mov (.tmp 3), none⟩,
 ⟨some 21, .mov (.tmp 4), none⟩,
 ⟨some 22, .call 5 [(.tmp 17), (.tmp 18), (.tmp 19), (.tmp 20), (.tmp 21)], none⟩,
 ⟨some 11, .new 23 (.agg #[.int .i64 0, .int .i64 0, .int .i64 0, .int .i64 0, .int .i64 0]), none⟩,
 ⟨none, .stN 5 (.tmp 11) (.tmp 22), none⟩])
 (.seq (.region [
 ⟨some 23, .ldN 5 (.tmp 11), none⟩,
 ⟨some 24, .call 11 [(.tmp 23)], none⟩,
 ⟨some 12, .mov (.tmp 24), none⟩])
 (.seq (.seq (.region [
 ⟨some 13, .mov (.const (.int .i64 0)), none⟩])
 (.block 0
  (.loop 576460752269878272
   (.seq (.seq (.region [
   ⟨some 25, .mov (.tmp 13), none⟩,
   ⟨some 26, .mov (.tmp 12), none⟩,
   ⟨some 27, .len (.tmp 26), none⟩,
   ⟨some 28, .bin .lss (.tmp 25) (.tmp 27), none⟩])
   (.cond (.tmp 28)
    .skip
    (.exit 0)))
   (.seq (.block 1
    (.seq (.draw (.f ⟨some 31, .mov (.tmp 12), none⟩
    (.f ⟨some 32, .mov (.tmp 13), none⟩
    (.f ⟨some 33, .ixs 1 (.tmp 31) (.tmp 32), none⟩
    (.f ⟨some 34, .ld (.tmp 33), none⟩
    (.f ⟨some 35, .bin .lss (.tmp 34) (.const (.int .i64 0)), none⟩
    (.f ⟨some 36, .mov (.tmp 35), none⟩
    (.f ⟨some 37, .mov (.tmp 12), some (36, false)⟩
    (.f ⟨some 38, .mov (.tmp 13), some (36, false)⟩
    (.f ⟨some 39, .ixs 1 (.tmp 37) (.tmp 38), some (36, false)⟩
    (.f ⟨some 40, .ld (.tmp 39), some (36, false)⟩
    (.f ⟨some 41, .bin .geq (.tmp 40) (.const (.int .i64 8)), some (36, false)⟩
    (.f ⟨some 42, .pick (.tmp 36) (.const (.bool true)) (.tmp 41), none⟩
    (.f ⟨some 43, .mov (.tmp 42), none⟩
    (.f ⟨some 44, .mov (.tmp 13), some (43, false)⟩
    (.f ⟨some 45, .bin .gtr (.tmp 44) (.const (.int .i64 0)), some (43, false)⟩
    (.f ⟨some 46, .mov (.tmp 45), some (43, false)⟩
    (.f ⟨some 47, .mov (.tmp 12), some (46, true)⟩
    (.f ⟨some 48, .mov (.tmp 13), some (46, true)⟩
    (.f ⟨some 49, .ixs 1 (.tmp 47) (.tmp 48), some (46, true)⟩
    (.f ⟨some 50, .ld (.tmp 49), some (46, true)⟩
    (.f ⟨some 51, .mov (.tmp 12), some (46, true)⟩
    (.f ⟨some 52, .mov (.tmp 13), some (46, true)⟩
    (.f ⟨some 53, .bin .sub (.tmp 52) (.const (.int .i64 1)), some (46, true)⟩
    (.f ⟨some 54, .ixs 1 (.tmp 51) (.tmp 53), some (46, true)⟩
    (.f ⟨some 55, .ld (.tmp 54), some (46, true)⟩
    (.f ⟨some 56, .bin .leq (.tmp 50) (.tmp 55), some (46, true)⟩
    (.f ⟨some 57, .pick (.tmp 46) (.tmp 56) (.const (.bool false)), some (43, false)⟩
    (.f ⟨some 58, .pick (.tmp 43) (.const (.bool true)) (.tmp 57), none⟩
    .done)))))))))))))))))))))))))))))
    (.cond (.tmp 58)
     (.seq (.region [
     ⟨some 10, .mov (.const (.bool false)), none⟩])
     .ret)
     .skip)))
   (.region [
   ⟨some 29, .mov (.tmp 13), none⟩,
   ⟨some 30, .bin .add (.tmp 29) (.const (.int .i64 1)), none⟩,
   ⟨some 13, .mov (.tmp 30), none⟩]))))))
 (.seq (.region [
 ⟨some 59, .ldN 5 (.tmp 11), none⟩,
 ⟨some 60, .call 12 [(.tmp 59)], none⟩,
 ⟨some 14, .mov (.tmp 60), none⟩])
 (.seq (.seq (.region [
 ⟨some 61, .mov (.tmp 14), none⟩,
 ⟨some 62, .bin .lss (.tmp 61) (.const (.int .i64 (-1))), none⟩,
 ⟨some 63, .mov (.tmp 62), none⟩,
 ⟨some 64, .mov (.tmp 14), some (63, false)⟩,
 ⟨some 65, .bin .geq (.tmp 64) (.const (.int .i64 8)), some (63, false)⟩,
 ⟨some 66, .pick (.tmp 63) (.const (.bool true)) (.tmp 65), none⟩,
 ⟨some 67, .mov (.tmp 66), none⟩,
 ⟨some 68, .ldN 5 (.tmp 11), some (67, false)⟩,
 ⟨some 69, .call 13 [(.tmp 68)], some (67, false)⟩,
 ⟨some 70, .bin .neq (.tmp 69) (.const (.int .i64 0)), some (67, false)⟩,
 ⟨some 71, .mov (.tmp 70), some (67, false)⟩,
 ⟨some 72, .mov (.tmp 12), some (71, true)⟩,
 ⟨some 73, .len (.tmp 72), some (71, true)⟩,
 ⟨some 74, .bin .gtr (.tmp 73) (.const (.int .i64 0)), some (71, true)⟩,
 ⟨some 75, .mov (.tmp 74), some (71, true)⟩,
 ⟨some 76, .mov (.tmp 14), some (75, false)⟩,
 ⟨some 77, .bin .neq (.tmp 76) (.const (.int .i64 (-1))), some (75, false)⟩,
 ⟨some 78, .pick (.tmp 75) (.const (.bool true)) (.tmp 77), some (71, true)⟩,
 ⟨some 79, .mov (.tmp 78), some (71, true)⟩,
 ⟨some 80, .ldN 5 (.tmp 11), some (79, false)⟩,
 ⟨some 81, .call 14 [(.tmp 80)], some (79, false)⟩,
 ⟨some 82, .bin .neq (.tmp 81) (.const (.int .i64 0)), some (79, false)⟩,
 ⟨some 83, .pick (.tmp 79) (.const (.bool true)) (.tmp 82), some (71, true)⟩,
 ⟨some 84, .pick (.tmp 71) (.tmp 83) (.const (.bool false)), some (67, false)⟩,
 ⟨some 85, .pick (.tmp 67) (.const (.bool true)) (.tmp 84), none⟩])
 (.cond (.tmp 85)
  (.seq (.region [
  ⟨some 10, .mov (.const (.bool false)), none⟩])
  .ret)
  .skip))
 (.seq (.region [
 ⟨some 87, .ldN 5 (.tmp 11), none⟩,
 ⟨some 88, .call 15 [(.tmp 87)], none⟩,
 ⟨some 86, .mov (.tmp 88), none⟩,
 ⟨some 89, .ext (.tmp 86) 0, none⟩,
 ⟨some 90, .ext (.tmp 86) 1, none⟩,
 ⟨some 15, .mov (.tmp 89), none⟩,
 ⟨some 16, .mov (.tmp 90), none⟩])
 (.seq (.region [
 ⟨some 91, .mov (.tmp 16), none⟩,
 ⟨some 92, .not (.tmp 91), none⟩,
 ⟨some 93, .mov (.tmp 92), none⟩,
 ⟨some 94, .ldN 5 (.tmp 11), some (93, false)⟩,
 ⟨some 95, .call 14 [(.tmp 94)], some (93, false)⟩,
 ⟨some 96, .bin .eql (.tmp 95) (.const (.int .i64 0)), some (93, false)⟩,
 ⟨some 97, .mov (.tmp 96), some (93, false)⟩,
 ⟨some 98, .mov (.tmp 14), some (97, true)⟩,
 ⟨some 99, .bin .eql (.tmp 98) (.const (.int .i64 (-1))), some (97, true)⟩,
 ⟨some 100, .pick (.tmp 97) (.tmp 99) (.const (.bool false)), some (93, false)⟩,
 ⟨some 101, .pick (.tmp 93) (.const (.bool true)) (.tmp 100), none⟩,
 ⟨some 102, .mov (.tmp 101), none⟩,
 ⟨some 103, .call 10 [], some (102, true)⟩,
 ⟨some 104, .pick (.tmp 102) (.tmp 103) (.const (.bool false)), none⟩,
 ⟨some 10, .mov (.tmp 104), none⟩])
 .ret)))))))),
 [.tmp 10]⟩
theorem low_law03_IsaUses : lowFn Tryd.prog movers 4 = some ⟨ir_law03_IsaUses.n, strip ir_law03_IsaUses.body, ir_law03_IsaUses.res⟩ := by kernel_rfl

/-- strongtx/strongtxlaw03.near -/
def ir_law03_near : IFn := ⟨23,
 (.seq (.region [
 ⟨some 10, .new 23 (.agg #[.int .i64 0, .int .i64 0, .int .i64 0, .int .i64 0, .int .i64 0]), none⟩])
 (.seq (.region [
 ⟨some 11, .mov (.tmp 0), none⟩,
 ⟨some 12, .call 6 [(.tmp 11), (.const (.int .i64 19))], none⟩,
 ⟨some 13, .mov (.tmp 1), none⟩,
 ⟨some 14, .call 6 [(.tmp 13), (.const (.int .i64 9))], none⟩,
 ⟨some 15, .mov (.tmp 2), none⟩,
 ⟨some 16, .call 6 [(.tmp 15), (.const (.int .i64 9))], none⟩,
 ⟨some 17, .mov (.tmp 3), none⟩,
 ⟨some 18, .call 6 [(.tmp 17), (.const (.int .i64 9))], none⟩,
 ⟨some 19, .mov (.tmp 4), none⟩,
 ⟨some 20, .call 6 [(.tmp 19), (.const (.int .i64 70))], none⟩,
 ⟨some 21, .bin .sub (.tmp 20) (.const (.int .i64 2)), none⟩,
 ⟨some 22, .bld [(.int .i64 0), (.int .i64 0), (.int .i64 0), (.int .i64 0), (.int .i64 0)] [(0, 1, (.tmp 12)), (1, 1, (.tmp 14)), (2, 1, (.tmp 16)), (3, 1, (.tmp 18)), (4, 1, (.tmp 21))], none⟩,
 ⟨none, .stN 5 (.tmp 10) (.tmp 22), none⟩])
 .ret)),
 [.cellN 10 5]⟩
theorem low_law03_near : lowFn Tryd.prog movers 5 = some ⟨ir_law03_near.n, strip ir_law03_near.body, ir_law03_near.res⟩ := by kernel_rfl

/-- strongtx/strongtxlaw03.awake -/
def ir_law03_awake : IFn := ⟨34,
 (.seq (.region [
 ⟨some 0, .mov (.const (.bool false)), none⟩])
 (.seq (.region [
 ⟨some 6, .call 9 [(.const (.string ⟨#[97, 100, 100, 32, 114, 49, 32, 114, 50, 32, 114, 51]⟩))], none⟩,
 ⟨some 5, .mov (.tmp 6), none⟩,
 ⟨some 7, .ext (.tmp 5) 0, none⟩,
 ⟨some 8, .ext (.tmp 5) 1, none⟩,
 ⟨some 1, .new 23 (.agg #[.int .i64 0, .int .i64 0, .int .i64 0, .int .i64 0, .int .i64 0]), none⟩,
 ⟨none, .stN 5 (.tmp 1) (.tmp 7), none⟩,
 ⟨some 2, .mov (.tmp 8), none⟩])
 (.seq (.region [
 ⟨some 10, .bld [(.int .i64 0), (.int .i64 0), (.int .i64 0), (.int .i64 0), (.int .i64 0)] [(0, 1, (.const (.int .i64 7))), (4, 1, (.const (.int .i64 2)))], none⟩,
 ⟨some 11, .call 7 [(.tmp 10)], none⟩,
 ⟨some 9, .mov (.tmp 11), none⟩,
 ⟨some 12, .ext (.tmp 9) 0, none⟩,
 ⟨some 13, .ext (.tmp 9) 1, none⟩,
 ⟨some 3, .mov (.tmp 12), none⟩,
 ⟨some 4, .mov (.tmp 13), none⟩])
 (.seq (.region [
 ⟨some 14, .mov (.tmp 2), none⟩,
 ⟨some 15, .bin .eql (.tmp 14) (.const (.int .i64 0)), none⟩,
 ⟨some 16, .mov (.tmp 15), none⟩,
 ⟨some 17, .ldN 5 (.tmp 1), some (16, true)⟩,
 ⟨some 18, .bld [(.int .i64 0), (.int .i64 0), (.int .i64 0), (.int .i64 0), (.int .i64 0)] [(0, 1, (.const (.int .i64 3))), (1, 1, (.const (.int .i64 1))), (2, 1, (.const (.int .i64 2))), (3, 1, (.const (.int .i64 3))), (4, 1, (.const (.int .i64 0)))], some (16, true)⟩,
 ⟨some 19, .ageq false [0, 0, 0, 0, 0] (.tmp 17) (.tmp 18), some (16, true)⟩,
 ⟨some 20, .pick (.tmp 16) (.tmp 19) (.const (.bool false)), none⟩,
 ⟨some 21, .mov (.tmp 20), none⟩,
 ⟨some 22, .mov (.tmp 4), some (21, true)⟩,
 ⟨some 23, .bin .eql (.tmp 22) (.const (.int .i64 0)), some (21, true)⟩,
 ⟨some 24, .pick (.tmp 21) (.tmp 23) (.const (.bool false)), none⟩,
 ⟨some 25, .mov (.tmp 24), none⟩,
 ⟨some 26, .mov (.tmp 3), some (25, true)⟩,
 ⟨some 27, .sbin .eql (.tmp 26) (.const (.string ⟨#[98, 101, 103, 105, 110, 32, 50]⟩)), some (25, true)⟩,
 ⟨some 28, .pick (.tmp 25) (.tmp 27) (.const (.bool false)), none⟩,
 ⟨some 29, .mov (.tmp 28), none⟩,
 ⟨some 30, .bld [(.int .i64 0), (.int .i64 0), (.int .i64 0), (.int .i64 0), (.int .i64 0)] [(0, 1, (.const (.int .i64 18)))], some (29, true)⟩,
 ⟨some 31, .call 13 [(.tmp 30)], some (29, true)⟩,
 ⟨some 32, .bin .eql (.tmp 31) (.const (.int .i64 10)), some (29, true)⟩,
 ⟨some 33, .pick (.tmp 29) (.tmp 32) (.const (.bool false)), none⟩,
 ⟨some 0, .mov (.tmp 33), none⟩])
 .ret)))),
 [.tmp 0]⟩
theorem low_law03_awake : lowFn Tryd.prog movers 10 = some ⟨ir_law03_awake.n, strip ir_law03_awake.body, ir_law03_awake.res⟩ := by kernel_rfl
end Go.Proofs.YtiimndcifcoofaaDoor
