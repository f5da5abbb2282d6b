/- The lowered code of a package, printed by program; each function is checked against the loaded program by the kernel. No condition. -/
import Derived.Test.YtofjnldidkiihaaDoorIR
namespace Go.Proofs.YtofjnldidkiihaaDoor
open Go
set_option maxRecDepth 100000

/-- strongtx/strongtxmake.Events -/
def ir_make_Events : IFn := ⟨94,
 (.seq (.region [
 ⟨some 4, .mov (.const (.slice none 0 0)), none⟩])
 (.seq (.region [
 ⟨some 5, .mov (.const (.slice none 0 0)), none⟩])
 (.seq (.region [
 ⟨some 14, .mov (.tmp 1), none⟩,
 ⟨some 15, .mk 3 1 8 [(.int .i64 0)] (.tmp 14) (.tmp 14), none⟩,
 ⟨some 6, .mov (.tmp 15), none⟩])
 (.seq (.seq (.region [
 ⟨some 7, .mov (.const (.int .i64 0)), none⟩])
 (.block 0
  (.loop 9903520314283042199192944544
   (.seq (.seq (.region [
   ⟨some 16, .mov (.tmp 7), none⟩,
   ⟨some 17, .mov (.tmp 0), none⟩,
   ⟨some 18, .len (.tmp 17), none⟩,
   ⟨some 19, .bin .lss (.tmp 16) (.tmp 18), none⟩])
   (.cond (.tmp 19)
    .skip
    (.exit 0)))
   (.seq (.block 1
    (.seq (.region [
    ⟨some 22, .mov (.tmp 0), none⟩,
    ⟨some 23, .mov (.tmp 7), none⟩,
    ⟨some 24, .ixs 1 (.tmp 22) (.tmp 23), none⟩,
    ⟨some 25, .ld (.tmp 24), none⟩,
    ⟨some 26, .conv .u64 (.tmp 25), none⟩,
    ⟨some 8, .mov (.tmp 26), none⟩])
    (.seq (.region [
    ⟨some 27, .mov (.tmp 8), none⟩,
    ⟨some 28, .mov (.tmp 1), none⟩,
    ⟨some 29, .conv .u64 (.tmp 28), none⟩,
    ⟨some 30, .bin .rem (.tmp 27) (.tmp 29), none⟩,
    ⟨some 31, .conv .i64 (.tmp 30), none⟩,
    ⟨some 9, .mov (.tmp 31), none⟩])
    (.seq (.region [
    ⟨some 32, .mov (.tmp 8), none⟩,
    ⟨some 33, .mov (.tmp 1), none⟩,
    ⟨some 34, .conv .u64 (.tmp 33), none⟩,
    ⟨some 35, .bin .quo (.tmp 32) (.tmp 34), none⟩,
    ⟨some 8, .mov (.tmp 35), none⟩])
    (.seq (.region [
    ⟨some 36, .mov (.tmp 8), none⟩,
    ⟨some 37, .bin .quo (.tmp 36) (.const (.int .u64 8)), none⟩,
    ⟨some 38, .bin .rem (.tmp 37) (.const (.int .u64 4)), none⟩,
    ⟨some 39, .conv .i64 (.tmp 38), none⟩,
    ⟨some 40, .mov (.tmp 8), none⟩,
    ⟨some 41, .bin .quo (.tmp 40) (.const (.int .u64 32)), none⟩,
    ⟨some 42, .bin .rem (.tmp 41) (.const (.int .u64 4)), none⟩,
    ⟨some 43, .conv .i64 (.tmp 42), none⟩,
    ⟨some 10, .mov (.tmp 39), none⟩,
    ⟨some 11, .mov (.tmp 43), none⟩])
    (.seq (.region [
    ⟨some 44, .mov (.tmp 7), none⟩,
    ⟨some 45, .mov (.tmp 9), none⟩,
    ⟨some 46, .bld [(.int .i64 0), (.int .i64 0), (.int .i64 0), (.int .i64 0), (.slice none 0 0), (.slice none 0 0)] [(0, 1, (.tmp 44)), (1, 1, (.tmp 45))], none⟩,
    ⟨some 12, .new 42 (.agg #[.int .i64 0, .int .i64 0, .int .i64 0, .int .i64 0, .slice none 0 0, .slice none 0 0]), none⟩,
    ⟨none, .stN 6 (.tmp 12) (.tmp 46), none⟩])
    (.seq (.seq (.region [
    ⟨some 47, .mov (.tmp 8), none⟩,
    ⟨some 48, .bin .rem (.tmp 47) (.const (.int .u64 8)), none⟩,
    ⟨some 13, .mov (.tmp 48), none⟩])
    (.block 2
     (.seq (.region [
     ⟨some 51, .mov (.tmp 6), none⟩,
     ⟨some 52, .mov (.tmp 9), none⟩,
     ⟨some 53, .ixs 1 (.tmp 51) (.tmp 52), none⟩,
     ⟨some 54, .ld (.tmp 53), none⟩,
     ⟨some 55, .bin .eql (.tmp 54) (.const (.int .i64 3)), none⟩,
     ⟨some 56, .mov (.tmp 55), none⟩,
     ⟨some 57, .mov (.tmp 13), some (56, true)⟩,
     ⟨some 58, .bin .lss (.tmp 57) (.const (.int .u64 6)), some (56, true)⟩,
     ⟨some 59, .pick (.tmp 56) (.tmp 58) (.const (.bool false)), none⟩,
     ⟨some 50, .mov (.tmp 59), none⟩])
     (.cond (.tmp 50)
      (.seq (.region [
      ⟨some 60, .fad 2 (.tmp 12), none⟩,
      ⟨none, .st (.tmp 60) (.const (.int .i64 4)), none⟩])
      (.seq (.region [
      ⟨some 61, .mov (.tmp 10), none⟩,
      ⟨some 62, .blds 3 1 [(.int .i64 0)] [(0, 1, (.tmp 61))], none⟩,
      ⟨some 63, .fad 4 (.tmp 12), none⟩,
      ⟨none, .st (.tmp 63) (.tmp 62), none⟩])
      (.seq (.seq (.region [
      ⟨some 64, .mov (.tmp 13), none⟩,
      ⟨some 65, .bin .lss (.tmp 64) (.const (.int .u64 4)), none⟩])
      (.cond (.tmp 65)
       (.region [
       ⟨some 66, .mov (.tmp 11), none⟩,
       ⟨some 67, .blds 3 1 [(.int .i64 0)] [(0, 1, (.tmp 66))], none⟩,
       ⟨some 68, .fad 5 (.tmp 12), none⟩,
       ⟨none, .st (.tmp 68) (.tmp 67), none⟩])
       .skip))
      (.seq (.region [
      ⟨some 69, .mov (.tmp 13), none⟩,
      ⟨some 70, .bin .eql (.tmp 69) (.const (.int .u64 5)), none⟩])
      (.cond (.tmp 70)
       (.region [
       ⟨some 71, .fad 4 (.tmp 12), none⟩,
       ⟨none, .st (.tmp 71) (.const (.slice none 0 0)), none⟩])
       .skip)))))
      (.seq (.region [
      ⟨some 73, .mov (.tmp 13), none⟩,
      ⟨some 74, .bin .lss (.tmp 73) (.const (.int .u64 2)), none⟩,
      ⟨some 72, .mov (.tmp 74), none⟩])
      (.cond (.tmp 72)
       (.region [
       ⟨some 75, .mov (.tmp 10), none⟩,
       ⟨some 76, .fad 2 (.tmp 12), none⟩,
       ⟨none, .st (.tmp 76) (.const (.int .i64 1)), none⟩,
       ⟨some 77, .fad 3 (.tmp 12), none⟩,
       ⟨none, .st (.tmp 77) (.tmp 75), none⟩])
       (.seq (.region [
       ⟨some 79, .mov (.tmp 13), none⟩,
       ⟨some 80, .bin .lss (.tmp 79) (.const (.int .u64 4)), none⟩,
       ⟨some 78, .mov (.tmp 80), none⟩])
       (.cond (.tmp 78)
        (.region [
        ⟨some 81, .mov (.tmp 10), none⟩,
        ⟨some 82, .fad 2 (.tmp 12), none⟩,
        ⟨none, .st (.tmp 82) (.const (.int .i64 2)), none⟩,
        ⟨some 83, .fad 3 (.tmp 12), none⟩,
        ⟨none, .st (.tmp 83) (.tmp 81), none⟩])
        (.region [
        ⟨some 49, .fad 2 (.tmp 12), none⟩,
        ⟨none, .st (.tmp 49) (.const (.int .i64 3)), none⟩])))))))))
    (.seq (.region [
    ⟨some 84, .mov (.tmp 6), none⟩,
    ⟨some 85, .mov (.tmp 9), none⟩,
    ⟨some 86, .fad 2 (.tmp 12), none⟩,
    ⟨some 87, .ld (.tmp 86), none⟩,
    ⟨some 88, .ixs 1 (.tmp 84) (.tmp 85), none⟩,
    ⟨none, .st (.tmp 88) (.tmp 87), none⟩])
    (.region [
    ⟨some 89, .mov (.tmp 5), none⟩,
    ⟨some 90, .ldN 6 (.tmp 12), none⟩,
    ⟨some 91, .blds 42 1 [(.int .i64 0), (.int .i64 0), (.int .i64 0), (.int .i64 0), (.slice none 0 0), (.slice none 0 0)] [(0, 6, (.tmp 90))], none⟩,
    ⟨some 92, .app 42 6 80 [(.int .i64 0), (.int .i64 0), (.int .i64 0), (.int .i64 0), (.slice none 0 0), (.slice none 0 0)] (.tmp 89) (.tmp 91), none⟩,
    ⟨some 5, .mov (.tmp 92), none⟩])))))))))
   (.region [
   ⟨some 20, .mov (.tmp 7), none⟩,
   ⟨some 21, .bin .add (.tmp 20) (.const (.int .i64 1)), none⟩,
   ⟨some 7, .mov (.tmp 21), none⟩]))))))
 (.seq (.region [
 ⟨some 93, .mov (.tmp 5), none⟩,
 ⟨some 4, .mov (.tmp 93), none⟩])
 .ret))))),
 [.tmp 4]⟩
theorem low_make_Events : lowFn Tryd.prog movers 18 = some ⟨ir_make_Events.n, strip ir_make_Events.body, ir_make_Events.res⟩ := by kernel_rfl
end Go.Proofs.YtofjnldidkiihaaDoor
