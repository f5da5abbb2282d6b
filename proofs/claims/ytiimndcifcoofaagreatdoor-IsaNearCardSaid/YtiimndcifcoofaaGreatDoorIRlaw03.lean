/- The lowered code of a package, printed by program; each function is checked against the loaded program by the kernel. No condition. -/
import Derived.Test.YtiimndcifcoofaaGreatDoorIR
namespace Go.Proofs.YtiimndcifcoofaaGreatDoor
open Go
set_option maxRecDepth 100000

/-- strongtx/strongtxlaw03.IsaNear -/
def ir_law03_IsaNear : IFn := ⟨81,
 (.seq (.region [
 ⟨some 12, .mov (.const (.bool false)), none⟩])
 (.seq (.region [
 ⟨some 18, .mov (.tmp 0), none⟩,
 ⟨some 19, .mov (.tmp 1), none⟩,
 ⟨some 20, .mov (.tmp 2), none⟩,
 ⟨some 21, .mov (.tmp 3), none⟩,
 ⟨some 22, .mov (.tmp 4), none⟩,
 ⟨some 23, .call 10 [(.tmp 18), (.tmp 19), (.tmp 20), (.tmp 21), (.tmp 22)], none⟩,
 ⟨some 13, .new 23 (.agg #[.int .i64 0, .int .i64 0, .int .i64 0, .int .i64 0, .int .i64 0]), none⟩,
 ⟨none, .stN 5 (.tmp 13) (.tmp 23), none⟩])
 (.seq (.seq (.region [
 ⟨some 24, .mov (.tmp 5), none⟩,
 ⟨some 25, .bin .rem (.tmp 24) (.const (.int .i64 2)), none⟩,
 ⟨some 26, .bin .eql (.tmp 25) (.const (.int .i64 0)), none⟩])
 (.cond (.tmp 26)
  (.region [
  ⟨some 27, .fad 3 (.tmp 13), none⟩,
  ⟨none, .st (.tmp 27) (.const (.int .i64 0)), none⟩])
  .skip))
 (.seq (.seq (.region [
 ⟨some 28, .mov (.tmp 5), none⟩,
 ⟨some 29, .bin .rem (.tmp 28) (.const (.int .i64 3)), none⟩,
 ⟨some 30, .bin .eql (.tmp 29) (.const (.int .i64 0)), none⟩])
 (.cond (.tmp 30)
  (.region [
  ⟨some 31, .fad 2 (.tmp 13), none⟩,
  ⟨none, .st (.tmp 31) (.const (.int .i64 0)), none⟩])
  .skip))
 (.seq (.region [
 ⟨some 33, .ldN 5 (.tmp 13), none⟩,
 ⟨some 34, .call 11 [(.tmp 33)], none⟩,
 ⟨some 32, .mov (.tmp 34), none⟩,
 ⟨some 35, .ext (.tmp 32) 0, none⟩,
 ⟨some 36, .ext (.tmp 32) 1, none⟩,
 ⟨some 14, .mov (.tmp 35), none⟩,
 ⟨some 15, .mov (.tmp 36), none⟩])
 (.seq (.region [
 ⟨some 38, .ldN 5 (.tmp 13), none⟩,
 ⟨some 39, .call 12 [(.tmp 38)], none⟩,
 ⟨some 37, .mov (.tmp 39), none⟩,
 ⟨some 40, .ext (.tmp 37) 0, none⟩,
 ⟨some 41, .ext (.tmp 37) 1, none⟩,
 ⟨some 16, .mov (.tmp 40), none⟩,
 ⟨some 17, .mov (.tmp 41), none⟩])
 (.seq (.draw (.f ⟨some 44, .ldN 5 (.tmp 13), none⟩
 (.f ⟨some 42, .ldN 5 (.tmp 13), none⟩
 (.f ⟨some 43, .call 13 [(.tmp 42)], none⟩
 (.f ⟨some 45, .call 14 [(.tmp 44)], none⟩
 (.f ⟨some 46, .bin .eql (.tmp 43) (.tmp 45), none⟩
 (.f ⟨some 47, .mov (.tmp 46), none⟩
 (.f ⟨some 48, .ldN 5 (.tmp 13), some (47, true)⟩
 (.both (.m ⟨some 49, .call 16 [(.tmp 48)], some (47, true)⟩
  (.f ⟨some 50, .ldN 5 (.tmp 13), some (47, true)⟩
  (.m ⟨some 51, .call 17 [(.tmp 50)], some (47, true)⟩
  (.f ⟨some 52, .call 15 [(.tmp 49), (.tmp 51)], some (47, true)⟩
  (.f ⟨some 53, .pick (.tmp 47) (.tmp 52) (.const (.bool false)), none⟩
  (.f ⟨some 54, .mov (.tmp 53), none⟩
  (.f ⟨some 55, .ldN 5 (.tmp 13), some (54, true)⟩
  (.f ⟨some 56, .call 18 [(.tmp 55)], some (54, true)⟩
  (.f ⟨some 57, .ldN 5 (.tmp 13), some (54, true)⟩
  (.f ⟨some 58, .call 19 [(.tmp 57)], some (54, true)⟩
  (.f ⟨some 59, .bin .eql (.tmp 56) (.tmp 58), some (54, true)⟩
  (.f ⟨some 60, .pick (.tmp 54) (.tmp 59) (.const (.bool false)), none⟩
  (.f ⟨some 61, .mov (.tmp 60), none⟩
  (.f ⟨some 62, .ldN 5 (.tmp 13), some (61, true)⟩
  (.f ⟨some 63, .call 20 [(.tmp 62)], some (61, true)⟩
  (.f ⟨some 64, .ldN 5 (.tmp 13), some (61, true)⟩
  (.f ⟨some 65, .call 21 [(.tmp 64)], some (61, true)⟩
  (.f ⟨some 66, .bin .eql (.tmp 63) (.tmp 65), some (61, true)⟩
  (.f ⟨some 67, .pick (.tmp 61) (.tmp 66) (.const (.bool false)), none⟩
  (.f ⟨some 68, .mov (.tmp 67), none⟩
  (.f ⟨some 69, .mov (.tmp 14), some (68, true)⟩
  (.f ⟨some 70, .mov (.tmp 16), some (68, true)⟩
  (.f ⟨some 71, .sbin .eql (.tmp 69) (.tmp 70), some (68, true)⟩
  (.f ⟨some 72, .pick (.tmp 68) (.tmp 71) (.const (.bool false)), none⟩
  (.f ⟨some 73, .mov (.tmp 72), none⟩
  (.f ⟨some 74, .mov (.tmp 15), some (73, true)⟩
  (.f ⟨some 75, .mov (.tmp 17), some (73, true)⟩
  (.f ⟨some 76, .bin .eql (.tmp 74) (.tmp 75), some (73, true)⟩
  (.f ⟨some 77, .pick (.tmp 73) (.tmp 76) (.const (.bool false)), none⟩
  (.f ⟨some 78, .mov (.tmp 77), none⟩
  (.f ⟨some 79, .call 22 [], some (78, true)⟩
  (.f ⟨some 80, .pick (.tmp 78) (.tmp 79) (.const (.bool false)), none⟩
  (.f ⟨some 12, .mov (.tmp 80), none⟩
  .done)))))))))))))))))))))))))))))))))
 (.f ⟨some 50, .ldN 5 (.tmp 13), some (47, true)⟩
  (.m ⟨some 49, .call 16 [(.tmp 48)], some (47, true)⟩
  (.m ⟨some 51, .call 17 [(.tmp 50)], some (47, true)⟩
  (.f ⟨some 52, .call 15 [(.tmp 49), (.tmp 51)], some (47, true)⟩
  (.f ⟨some 53, .pick (.tmp 47) (.tmp 52) (.const (.bool false)), none⟩
  (.f ⟨some 54, .mov (.tmp 53), none⟩
  (.f ⟨some 55, .ldN 5 (.tmp 13), some (54, true)⟩
  (.f ⟨some 56, .call 18 [(.tmp 55)], some (54, true)⟩
  (.f ⟨some 57, .ldN 5 (.tmp 13), some (54, true)⟩
  (.f ⟨some 58, .call 19 [(.tmp 57)], some (54, true)⟩
  (.f ⟨some 59, .bin .eql (.tmp 56) (.tmp 58), some (54, true)⟩
  (.f ⟨some 60, .pick (.tmp 54) (.tmp 59) (.const (.bool false)), none⟩
  (.f ⟨some 61, .mov (.tmp 60), none⟩
  (.f ⟨some 62, .ldN 5 (.tmp 13), some (61, true)⟩
  (.f ⟨some 63, .call 20 [(.tmp 62)], some (61, true)⟩
  (.f ⟨some 64, .ldN 5 (.tmp 13), some (61, true)⟩
  (.f ⟨some 65, .call 21 [(.tmp 64)], some (61, true)⟩
  (.f ⟨some 66, .bin .eql (.tmp 63) (.tmp 65), some (61, true)⟩
  (.f ⟨some 67, .pick (.tmp 61) (.tmp 66) (.const (.bool false)), none⟩
  (.f ⟨some 68, .mov (.tmp 67), none⟩
  (.f ⟨some 69, .mov (.tmp 14), some (68, true)⟩
  (.f ⟨some 70, .mov (.tmp 16), some (68, true)⟩
  (.f ⟨some 71, .sbin .eql (.tmp 69) (.tmp 70), some (68, true)⟩
  (.f ⟨some 72, .pick (.tmp 68) (.tmp 71) (.const (.bool false)), none⟩
  (.f ⟨some 73, .mov (.tmp 72), none⟩
  (.f ⟨some 74, .mov (.tmp 15), some (73, true)⟩
  (.f ⟨some 75, .mov (.tmp 17), some (73, true)⟩
  (.f ⟨some 76, .bin .eql (.tmp 74) (.tmp 75), some (73, true)⟩
  (.f ⟨some 77, .pick (.tmp 73) (.tmp 76) (.const (.bool false)), none⟩
  (.f ⟨some 78, .mov (.tmp 77), none⟩
  (.f ⟨some 79, .call 22 [], some (78, true)⟩
  (.f ⟨some 80, .pick (.tmp 78) (.tmp 79) (.const (.bool false)), none⟩
  (.f ⟨some 12, .mov (.tmp 80), none⟩
  .done))))))))))))))))))))))))))))))))))))))))))
 .ret))))))),
 [.tmp 12]⟩
theorem low_law03_IsaNear : lowFn Tryz.prog movers 3 = some ⟨ir_law03_IsaNear.n, strip ir_law03_IsaNear.body, ir_law03_IsaNear.res⟩ := by kernel_rfl

/-- strongtx/strongtxlaw03.near -/
def ir_law03_near : IFn := ⟨23,
 (.seq (.region [
 ⟨some 10, .new 23 (.agg #[.int .i64 0, .int .i64 0, .int .i64 0, .int .i64 0, .int .i64 0]), none⟩])
 (.seq (.region [
 ⟨some 11, .mov (.tmp 0), none⟩,
 ⟨some 12, .call 31 [(.tmp 11), (.const (.int .i64 19))], none⟩,
 ⟨some 13, .mov (.tmp 1), none⟩,
 ⟨some 14, .call 31 [(.tmp 13), (.const (.int .i64 9))], none⟩,
 ⟨some 15, .mov (.tmp 2), none⟩,
 ⟨some 16, .call 31 [(.tmp 15), (.const (.int .i64 9))], none⟩,
 ⟨some 17, .mov (.tmp 3), none⟩,
 ⟨some 18, .call 31 [(.tmp 17), (.const (.int .i64 9))], none⟩,
 ⟨some 19, .mov (.tmp 4), none⟩,
 ⟨some 20, .call 31 [(.tmp 19), (.const (.int .i64 70))], none⟩,
 ⟨some 21, .bin .sub (.tmp 20) (.const (.int .i64 2)), none⟩,
 ⟨some 22, .bld [(.int .i64 0), (.int .i64 0), (.int .i64 0), (.int .i64 0), (.int .i64 0)] [(0, 1, (.tmp 12)), (1, 1, (.tmp 14)), (2, 1, (.tmp 16)), (3, 1, (.tmp 18)), (4, 1, (.tmp 21))], none⟩,
 ⟨none, .stN 5 (.tmp 10) (.tmp 22), none⟩])
 .ret)),
 [.cellN 10 5]⟩
theorem low_law03_near : lowFn Tryz.prog movers 10 = some ⟨ir_law03_near.n, strip ir_law03_near.body, ir_law03_near.res⟩ := by kernel_rfl

/-- strongtx/strongtxlaw03.awake -/
def ir_law03_awake : IFn := ⟨34,
 (.seq (.region [
 ⟨some 0, .mov (.const (.bool false)), none⟩])
 (.seq (.region [
 ⟨some 6, .call 48 [(.const (.string ⟨#[97, 100, 100, 32, 114, 49, 32, 114, 50, 32, 114, 51]⟩))], none⟩,
 ⟨some 5, .mov (.tmp 6), none⟩,
 ⟨some 7, .ext (.tmp 5) 0, none⟩,
 ⟨some 8, .ext (.tmp 5) 1, none⟩,
 ⟨some 1, .new 23 (.agg #[.int .i64 0, .int .i64 0, .int .i64 0, .int .i64 0, .int .i64 0]), none⟩,
 ⟨none, .stN 5 (.tmp 1) (.tmp 7), none⟩,
 ⟨some 2, .mov (.tmp 8), none⟩])
 (.seq (.region [
 ⟨some 10, .bld [(.int .i64 0), (.int .i64 0), (.int .i64 0), (.int .i64 0), (.int .i64 0)] [(0, 1, (.const (.int .i64 7))), (4, 1, (.const (.int .i64 2)))], none⟩,
 ⟨some 11, .call 11 [(.tmp 10)], none⟩,
 ⟨some 9, .mov (.tmp 11), none⟩,
 ⟨some 12, .ext (.tmp 9) 0, none⟩,
 ⟨some 13, .ext (.tmp 9) 1, none⟩,
 ⟨some 3, .mov (.tmp 12), none⟩,
 ⟨some 4, .mov (.tmp 13), none⟩])
 (.seq (.region [
 ⟨some 14, .mov (.tmp 2), none⟩,
 ⟨some 15, .bin .eql (.tmp 14) (.const (.int .i64 0)), none⟩,
 ⟨some 16, .mov (.tmp 15), none⟩,
 ⟨some 17, .ldN 5 (.tmp 1), some (16, true)⟩,
 ⟨some 18, .bld [(.int .i64 0), (.int .i64 0), (.int .i64 0), (.int .i64 0), (.int .i64 0)] [(0, 1, (.const (.int .i64 3))), (1, 1, (.const (.int .i64 1))), (2, 1, (.const (.int .i64 2))), (3, 1, (.const (.int .i64 3))), (4, 1, (.const (.int .i64 0)))], some (16, true)⟩,
 ⟨some 19, .ageq false [0, 0, 0, 0, 0] (.tmp 17) (.tmp 18), some (16, true)⟩,
 ⟨some 20, .pick (.tmp 16) (.tmp 19) (.const (.bool false)), none⟩,
 ⟨some 21, .mov (.tmp 20), none⟩,
 ⟨some 22, .mov (.tmp 4), some (21, true)⟩,
 ⟨some 23, .bin .eql (.tmp 22) (.const (.int .i64 0)), some (21, true)⟩,
 ⟨some 24, .pick (.tmp 21) (.tmp 23) (.const (.bool false)), none⟩,
 ⟨some 25, .mov (.tmp 24), none⟩,
 ⟨some 26, .mov (.tmp 3), some (25, true)⟩,
 ⟨some 27, .sbin .eql (.tmp 26) (.const (.string ⟨#[98, 101, 103, 105, 110, 32, 50]⟩)), some (25, true)⟩,
 ⟨some 28, .pick (.tmp 25) (.tmp 27) (.const (.bool false)), none⟩,
 ⟨some 29, .mov (.tmp 28), none⟩,
 ⟨some 30, .bld [(.int .i64 0), (.int .i64 0), (.int .i64 0), (.int .i64 0), (.int .i64 0)] [(0, 1, (.const (.int .i64 18)))], some (29, true)⟩,
 ⟨some 31, .call 13 [(.tmp 30)], some (29, true)⟩,
 ⟨some 32, .bin .eql (.tmp 31) (.const (.int .i64 10)), some (29, true)⟩,
 ⟨some 33, .pick (.tmp 29) (.tmp 32) (.const (.bool false)), none⟩,
 ⟨some 0, .mov (.tmp 33), none⟩])
 .ret)))),
 [.tmp 0]⟩
theorem low_law03_awake : lowFn Tryz.prog movers 22 = some ⟨ir_law03_awake.n, strip ir_law03_awake.body, ir_law03_awake.res⟩ := by kernel_rfl
end Go.Proofs.YtiimndcifcoofaaGreatDoor
