/- The lowered code of a package, printed by program; each function is checked against the loaded program by the kernel. No condition. -/
import Derived.Test.YtofjnldidkiihaaDoorIR
namespace Go.Proofs.YtofjnldidkiihaaDoor
open Go
set_option maxRecDepth 100000

/-- strongtx/strongtxlaw24.OrderPartial -/
def ir_law24_OrderPartial : IFn := ⟨153,
 (.seq (.region [
 ⟨some 4, .mov (.const (.bool false)), none⟩])
 (.seq (.seq (.region [
 ⟨some 14, .mov (.tmp 0), none⟩,
 ⟨some 15, .len (.tmp 14), none⟩,
 ⟨some 16, .bin .gtr (.tmp 15) (.const (.int .i64 24)), none⟩])
 (.cond (.tmp 16)
  (.seq (.region [
  ⟨some 17, .call 27 [], none⟩,
  ⟨some 4, .mov (.tmp 17), none⟩])
  .ret)
  .skip))
 (.seq (.region [
 ⟨some 18, .mov (.tmp 1), none⟩,
 ⟨some 19, .call 17 [(.tmp 18), (.const (.int .i64 3))], none⟩,
 ⟨some 20, .bin .add (.const (.int .i64 2)) (.tmp 19), none⟩,
 ⟨some 5, .mov (.tmp 20), none⟩])
 (.seq (.region [
 ⟨some 21, .mov (.tmp 0), none⟩,
 ⟨some 22, .mov (.tmp 5), none⟩,
 ⟨some 23, .call 18 [(.tmp 21), (.tmp 22)], none⟩,
 ⟨some 6, .mov (.tmp 23), none⟩])
 (.seq (.region [
 ⟨some 7, .new 47 (.agg #[.bool false, .bool false, .bool false, .bool false, .bool false, .bool false, .bool false, .bool false, .bool false, .bool false, .bool false, .bool false, .bool false, .bool false, .bool false, .bool false, .bool false, .bool false, .bool false, .bool false, .bool false, .bool false, .bool false, .bool false, .bool false, .bool false, .bool false, .bool false, .bool false, .bool false, .bool false, .bool false, .bool false, .bool false, .bool false, .bool false, .bool false, .bool false, .bool false, .bool false, .bool false, .bool false, .bool false, .bool false, .bool false, .bool false, .bool false, .bool false, .bool false, .bool false, .bool false, .bool false, .bool false, .bool false, .bool false, .bool false, .bool false, .bool false, .bool false, .bool false, .bool false, .bool false, .bool false, .bool false, .bool false, .bool false, .bool false, .bool false, .bool false, .bool false, .bool false, .bool false, .bool false, .bool false, .bool false, .bool false, .bool false, .bool false, .bool false, .bool false, .bool false, .bool false, .bool false, .bool false, .bool false, .bool false, .bool false, .bool false, .bool false, .bool false, .bool false, .bool false, .bool false, .bool false, .bool false, .bool false, .bool false, .bool false, .bool false, .bool false, .bool false, .bool false, .bool false, .bool false, .bool false, .bool false, .bool false, .bool false, .bool false, .bool false, .bool false, .bool false, .bool false, .bool false, .bool false, .bool false, .bool false, .bool false, .bool false, .bool false, .bool false, .bool false, .bool false, .bool false, .bool false, .bool false, .bool false, .bool false, .bool false, .bool false, .bool false, .bool false, .bool false, .bool false, .bool false, .bool false, .bool false, .bool false, .bool false, .bool false, .bool false, .bool false, .bool false, .bool false, .bool false, .bool false, .bool false, .bool false, .bool false, .bool false, .bool false, .bool false, .bool false, .bool false, .bool false, .bool false, .bool false, .bool false, .bool false, .bool false, .bool false, .bool false, .bool false, .bool false, .bool false, .bool false, .bool false, .bool false, .bool false, .bool false, .bool false, .bool false, .bool false, .bool false, .bool false, .bool false, .bool false, .bool false, .bool false, .bool false, .bool false, .bool false, .bool false, .bool false, .bool false, .bool false, .bool false, .bool false, .bool false, .bool false, .bool false, .bool false, .bool false, .bool false, .bool false, .bool false, .bool false, .bool false, .bool false, .bool false, .bool false, .bool false, .bool false, .bool false, .bool false, .bool false, .bool false, .bool false, .bool false, .bool false, .bool false, .bool false, .bool false, .bool false, .bool false, .bool false, .bool false, .bool false, .bool false, .bool false, .bool false, .bool false, .bool false, .bool false, .bool false, .bool false, .bool false, .bool false, .bool false, .bool false, .bool false, .bool false, .bool false, .bool false, .bool false, .bool false, .bool false, .bool false, .bool false, .bool false, .bool false, .bool false, .bool false, .bool false, .bool false, .bool false, .bool false, .bool false, .bool false, .bool false, .bool false, .bool false, .bool false, .bool false, .bool false, .bool false, .bool false, .bool false, .bool false, .bool false, .bool false, .bool false, .bool false, .bool false, .bool false, .bool false, .bool false, .bool false, .bool false, .bool false, .bool false, .bool false, .bool false, .bool false, .bool false, .bool false, .bool false, .bool false, .bool false, .bool false, .bool false, .bool false, .bool false, .bool false, .bool false, .bool false, .bool false, .bool false, .bool false, .bool false, .bool false, .bool false, .bool false, .bool false, .bool false, .bool false, .bool false, .bool false, .bool false, .bool false, .bool false, .bool false, .bool false, .bool false, .bool false, .bool false, .bool false, .bool false, .bool false, .bool false, .bool false, .bool false, .bool false, .bool false, .bool false, .bool false, .bool false, .bool false, .bool false, .bool false, .bool false, .bool false, .bool false, .bool false, .bool false, .bool false, .bool false, .bool false, .bool false, .bool false, .bool false, .bool false, .bool false, .bool false, .bool false, .bool false, .bool false, .bool false, .bool false, .bool false, .bool false, .bool false, .bool false, .bool false, .bool false, .bool false, .bool false, .bool false, .bool false, .bool false, .bool false, .bool false, .bool false, .bool false, .bool false, .bool false, .bool false, .bool false, .bool false, .bool false, .bool false, .bool false, .bool false, .bool false, .bool false, .bool false, .bool false, .bool false, .bool false, .bool false, .bool false, .bool false, .bool false, .bool false, .bool false, .bool false, .bool false, .bool false, .bool false, .bool false, .bool false, .bool false, .bool false, .bool false, .bool false, .bool false, .bool false, .bool false, .bool false, .bool false, .bool false, .bool false, .bool false, .bool false, .bool false, .bool false, .bool false, .bool false, .bool false, .bool false, .bool false, .bool false, .bool false, .bool false, .bool false, .bool false, .bool false, .bool false, .bool false, .bool false, .bool false, .bool false, .bool false, .bool false, .bool false, .bool false, .bool false, .bool false, .bool false, .bool false, .bool false, .bool false, .bool false, .bool false, .bool false, .bool false, .bool false, .bool false, .bool false, .bool false, .bool false, .bool false, .bool false, .bool false, .bool false, .bool false, .bool false, .bool false, .bool false, .bool false, .bool false, .bool false, .bool false, .bool false, .bool false, .bool false, .bool false, .bool false, .bool false, .bool false, .bool false, .bool false, .bool false, .bool false, .bool false, .bool false, .bool false, .bool false, .bool false, .bool false, .bool false, .bool false, .bool false, .bool false, .bool false, .bool false, .bool false, .bool false, .bool false, .bool false, .bool false, .bool false, .bool false, .bool false, .bool false, .bool false, .bool false, .bool false, .bool false, .bool false, .bool false, .bool false, .bool false, .bool false, .bool false, .bool false, .bool false, .bool false, .bool false, .bool false, .bool false, .bool false, .bool false, .bool false, .bool false, .bool false, .bool false, .bool false, .bool false, .bool false, .bool false, .bool false, .bool false, .bool false, .bool false, .bool false, .bool false, .bool false, .bool false, .bool false, .bool false, .bool false, .bool false, .bool false, .bool false, .bool false, .bool false, .bool false, .bool false, .bool false, .bool false, .bool false, .bool false, .bool false, .bool false, .bool false, .bool false, .bool false, .bool false, .bool false, .bool false, .bool false, .bool false, .bool false, .bool false, .bool false, .bool false, .bool false, .bool false, .bool false, .bool false, .bool false, .bool false, .bool false, .bool false, .bool false, .bool false, .bool false, .bool false, .bool false, .bool false, .bool false, .bool false, .bool false, .bool false, .bool false, .bool false, .bool false, .bool false, .bool false, .bool false, .bool false, .bool false, .bool false, .bool false, .bool false, .bool false, .bool false, .bool false, .bool false, .bool false, .bool false, .bool false, .bool false, .bool false, .bool false]), none⟩])
 (.seq (.seq (.region [
 ⟨some 8, .mov (.const (.int .i64 0)), none⟩])
 (.block 0
  (.loop 5192296858534827628530496312444688
   (.seq (.seq (.region [
   ⟨some 24, .mov (.tmp 8), none⟩,
   ⟨some 25, .mov (.tmp 6), none⟩,
   ⟨some 26, .len (.tmp 25), none⟩,
   ⟨some 27, .bin .lss (.tmp 24) (.tmp 26), none⟩])
   (.cond (.tmp 27)
    .skip
    (.exit 0)))
   (.seq (.block 1
    (.seq (.region [
    ⟨some 9, .mov (.const (.int .i64 0)), none⟩])
    (.block 2
     (.loop 5192296858534827628530495255479824
      (.seq (.seq (.region [
      ⟨some 30, .mov (.tmp 9), none⟩,
      ⟨some 31, .mov (.tmp 6), none⟩,
      ⟨some 32, .len (.tmp 31), none⟩,
      ⟨some 33, .bin .lss (.tmp 30) (.tmp 32), none⟩])
      (.cond (.tmp 33)
       .skip
       (.exit 2)))
      (.seq (.block 3
       (.seq (.draw (.f ⟨some 36, .mov (.tmp 8), none⟩
       (.f ⟨some 37, .mov (.tmp 9), none⟩
       (.f ⟨some 38, .mov (.tmp 6), none⟩
       (.f ⟨some 39, .mov (.tmp 5), none⟩
       (.f ⟨some 40, .mov (.tmp 8), none⟩
       (.f ⟨some 41, .mov (.tmp 9), none⟩
       (.f ⟨some 42, .call 28 [(.tmp 38), (.tmp 39), (.tmp 40), (.tmp 41)], none⟩
       (.f ⟨some 43, .ixa 24 24 (.tmp 7) (.tmp 36), none⟩
       (.f ⟨some 44, .ixa 24 1 (.tmp 43) (.tmp 37), none⟩
       (.m ⟨none, .st (.tmp 44) (.tmp 42), none⟩
       .done)))))))))))
       (.seq (.seq (.region [
       ⟨some 45, .mov (.tmp 8), none⟩,
       ⟨some 46, .mov (.tmp 9), none⟩,
       ⟨some 47, .ixa 24 24 (.tmp 7) (.tmp 45), none⟩,
       ⟨some 48, .ixa 24 1 (.tmp 47) (.tmp 46), none⟩,
       ⟨some 49, .ld (.tmp 48), none⟩,
       ⟨some 50, .mov (.tmp 49), none⟩,
       ⟨some 51, .mov (.tmp 8), some (50, true)⟩,
       ⟨some 52, .mov (.tmp 9), some (50, true)⟩,
       ⟨some 53, .bin .geq (.tmp 51) (.tmp 52), some (50, true)⟩,
       ⟨some 54, .pick (.tmp 50) (.tmp 53) (.const (.bool false)), none⟩])
       (.cond (.tmp 54)
        (.seq (.region [
        ⟨some 4, .mov (.const (.bool false)), none⟩])
        .ret)
        .skip))
       (.seq (.region [
       ⟨some 55, .mov (.tmp 6), none⟩,
       ⟨some 56, .mov (.tmp 8), none⟩,
       ⟨some 57, .ixs 6 (.tmp 55) (.tmp 56), none⟩,
       ⟨some 58, .fad 2 (.tmp 57), none⟩,
       ⟨some 59, .ld (.tmp 58), none⟩,
       ⟨some 60, .bin .neq (.tmp 59) (.const (.int .i64 3)), none⟩,
       ⟨some 61, .mov (.tmp 60), none⟩,
       ⟨some 62, .mov (.tmp 6), some (61, true)⟩,
       ⟨some 63, .mov (.tmp 9), some (61, true)⟩,
       ⟨some 64, .ixs 6 (.tmp 62) (.tmp 63), some (61, true)⟩,
       ⟨some 65, .fad 2 (.tmp 64), some (61, true)⟩,
       ⟨some 66, .ld (.tmp 65), some (61, true)⟩,
       ⟨some 67, .bin .neq (.tmp 66) (.const (.int .i64 3)), some (61, true)⟩,
       ⟨some 68, .pick (.tmp 61) (.tmp 67) (.const (.bool false)), none⟩,
       ⟨some 10, .mov (.tmp 68), none⟩])
       (.seq (.draw (.f ⟨some 69, .mov (.tmp 8), none⟩
       (.f ⟨some 70, .mov (.tmp 9), none⟩
       (.f ⟨some 71, .bin .lss (.tmp 69) (.tmp 70), none⟩
       (.f ⟨some 72, .mov (.tmp 71), none⟩
       (.f ⟨some 73, .mov (.tmp 10), some (72, true)⟩
       (.f ⟨some 74, .pick (.tmp 72) (.tmp 73) (.const (.bool false)), none⟩
       (.f ⟨some 75, .mov (.tmp 74), none⟩
       (.f ⟨some 76, .mov (.tmp 8), some (75, true)⟩
       (.f ⟨some 77, .mov (.tmp 9), some (75, true)⟩
       (.f ⟨some 78, .ixa 24 24 (.tmp 7) (.tmp 76), some (75, true)⟩
       (.f ⟨some 79, .ixa 24 1 (.tmp 78) (.tmp 77), some (75, true)⟩
       (.f ⟨some 80, .ld (.tmp 79), some (75, true)⟩
       (.f ⟨some 81, .not (.tmp 80), some (75, true)⟩
       (.f ⟨some 82, .pick (.tmp 75) (.tmp 81) (.const (.bool false)), none⟩
       (.f ⟨some 83, .mov (.tmp 82), none⟩
       (.f ⟨some 84, .mov (.tmp 6), some (83, true)⟩
       (.f ⟨some 85, .mov (.tmp 8), some (83, true)⟩
       (.f ⟨some 86, .ixs 6 (.tmp 84) (.tmp 85), some (83, true)⟩
       (.f ⟨some 87, .fad 1 (.tmp 86), some (83, true)⟩
       (.f ⟨some 88, .ld (.tmp 87), some (83, true)⟩
       (.f ⟨some 89, .mov (.tmp 6), some (83, true)⟩
       (.f ⟨some 90, .mov (.tmp 9), some (83, true)⟩
       (.f ⟨some 91, .ixs 6 (.tmp 89) (.tmp 90), some (83, true)⟩
       (.f ⟨some 92, .fad 1 (.tmp 91), some (83, true)⟩
       (.f ⟨some 93, .ld (.tmp 92), some (83, true)⟩
       (.f ⟨some 94, .bin .eql (.tmp 88) (.tmp 93), some (83, true)⟩
       (.f ⟨some 95, .mov (.tmp 94), some (83, true)⟩
       (.f ⟨some 96, .mov (.tmp 6), some (95, false)⟩
       (.f ⟨some 97, .mov (.tmp 8), some (95, false)⟩
       (.f ⟨some 98, .ixs 6 (.tmp 96) (.tmp 97), some (95, false)⟩
       (.f ⟨some 99, .fad 2 (.tmp 98), some (95, false)⟩
       (.f ⟨some 100, .ld (.tmp 99), some (95, false)⟩
       (.f ⟨some 101, .bin .eql (.tmp 100) (.const (.int .i64 4)), some (95, false)⟩
       (.f ⟨some 102, .mov (.tmp 101), some (95, false)⟩
       (.f ⟨some 103, .mov (.tmp 6), some (102, true)⟩
       (.f ⟨some 104, .mov (.tmp 9), some (102, true)⟩
       (.f ⟨some 105, .ixs 6 (.tmp 103) (.tmp 104), some (102, true)⟩
       (.f ⟨some 106, .fad 2 (.tmp 105), some (102, true)⟩
       (.f ⟨some 107, .ld (.tmp 106), some (102, true)⟩
       (.f ⟨some 108, .bin .eql (.tmp 107) (.const (.int .i64 4)), some (102, true)⟩
       (.f ⟨some 109, .pick (.tmp 102) (.tmp 108) (.const (.bool false)), some (95, false)⟩
       (.f ⟨some 110, .pick (.tmp 95) (.const (.bool true)) (.tmp 109), some (83, true)⟩
       (.f ⟨some 111, .pick (.tmp 83) (.tmp 110) (.const (.bool false)), none⟩
       .done))))))))))))))))))))))))))))))))))))))))))))
       (.cond (.tmp 111)
        (.seq (.region [
        ⟨some 4, .mov (.const (.bool false)), none⟩])
        .ret)
        .skip))))))
      (.region [
      ⟨some 34, .mov (.tmp 9), none⟩,
      ⟨some 35, .bin .add (.tmp 34) (.const (.int .i64 1)), none⟩,
      ⟨some 9, .mov (.tmp 35), none⟩])))))))
   (.region [
   ⟨some 28, .mov (.tmp 8), none⟩,
   ⟨some 29, .bin .add (.tmp 28) (.const (.int .i64 1)), none⟩,
   ⟨some 8, .mov (.tmp 29), none⟩]))))))
 (.seq (.seq (.region [
 ⟨some 11, .mov (.const (.int .i64 0)), none⟩])
 (.block 4
  (.loop 5708990770818647227374609050169450049201780752
   (.seq (.seq (.region [
   ⟨some 112, .mov (.tmp 11), none⟩,
   ⟨some 113, .mov (.tmp 6), none⟩,
   ⟨some 114, .len (.tmp 113), none⟩,
   ⟨some 115, .bin .lss (.tmp 112) (.tmp 114), none⟩])
   (.cond (.tmp 115)
    .skip
    (.exit 4)))
   (.seq (.block 5
    (.seq (.region [
    ⟨some 118, .mov (.tmp 11), none⟩,
    ⟨some 12, .mov (.tmp 118), none⟩])
    (.block 6
     (.loop 5708990770159225526340685941346077015390826512
      (.seq (.seq (.region [
      ⟨some 119, .mov (.tmp 12), none⟩,
      ⟨some 120, .mov (.tmp 6), none⟩,
      ⟨some 121, .len (.tmp 120), none⟩,
      ⟨some 122, .bin .lss (.tmp 119) (.tmp 121), none⟩])
      (.cond (.tmp 122)
       .skip
       (.exit 6)))
      (.seq (.block 7
       (.seq (.region [
       ⟨some 125, .mov (.tmp 12), none⟩,
       ⟨some 13, .mov (.tmp 125), none⟩])
       (.block 8
        (.loop 5708990685753247793998528011954328687588941840
         (.seq (.seq (.region [
         ⟨some 126, .mov (.tmp 13), none⟩,
         ⟨some 127, .mov (.tmp 6), none⟩,
         ⟨some 128, .len (.tmp 127), none⟩,
         ⟨some 129, .bin .lss (.tmp 126) (.tmp 128), none⟩])
         (.cond (.tmp 129)
          .skip
          (.exit 8)))
         (.seq (.block 9
          (.seq (.region [
          ⟨some 132, .mov (.tmp 11), none⟩,
          ⟨some 133, .mov (.tmp 12), none⟩,
          ⟨some 134, .ixa 24 24 (.tmp 7) (.tmp 132), none⟩,
          ⟨some 135, .ixa 24 1 (.tmp 134) (.tmp 133), none⟩,
          ⟨some 136, .ld (.tmp 135), none⟩,
          ⟨some 137, .mov (.tmp 136), none⟩,
          ⟨some 138, .mov (.tmp 12), some (137, true)⟩,
          ⟨some 139, .mov (.tmp 13), some (137, true)⟩,
          ⟨some 140, .ixa 24 24 (.tmp 7) (.tmp 138), some (137, true)⟩,
          ⟨some 141, .ixa 24 1 (.tmp 140) (.tmp 139), some (137, true)⟩,
          ⟨some 142, .ld (.tmp 141), some (137, true)⟩,
          ⟨some 143, .pick (.tmp 137) (.tmp 142) (.const (.bool false)), none⟩,
          ⟨some 144, .mov (.tmp 143), none⟩,
          ⟨some 145, .mov (.tmp 11), some (144, true)⟩,
          ⟨some 146, .mov (.tmp 13), some (144, true)⟩,
          ⟨some 147, .ixa 24 24 (.tmp 7) (.tmp 145), some (144, true)⟩,
          ⟨some 148, .ixa 24 1 (.tmp 147) (.tmp 146), some (144, true)⟩,
          ⟨some 149, .ld (.tmp 148), some (144, true)⟩,
          ⟨some 150, .not (.tmp 149), some (144, true)⟩,
          ⟨some 151, .pick (.tmp 144) (.tmp 150) (.const (.bool false)), none⟩])
          (.cond (.tmp 151)
           (.seq (.region [
           ⟨some 4, .mov (.const (.bool false)), none⟩])
           .ret)
           .skip)))
         (.region [
         ⟨some 130, .mov (.tmp 13), none⟩,
         ⟨some 131, .bin .add (.tmp 130) (.const (.int .i64 1)), none⟩,
         ⟨some 13, .mov (.tmp 131), none⟩])))))))
      (.region [
      ⟨some 123, .mov (.tmp 12), none⟩,
      ⟨some 124, .bin .add (.tmp 123) (.const (.int .i64 1)), none⟩,
      ⟨some 12, .mov (.tmp 124), none⟩])))))))
   (.region [
   ⟨some 116, .mov (.tmp 11), none⟩,
   ⟨some 117, .bin .add (.tmp 116) (.const (.int .i64 1)), none⟩,
   ⟨some 11, .mov (.tmp 117), none⟩]))))))
 (.seq (.region [
 ⟨some 152, .call 27 [], none⟩,
 ⟨some 4, .mov (.tmp 152), none⟩])
 .ret)))))))),
 [.tmp 4]⟩
theorem low_law24_OrderPartial : lowFn Tryd.prog movers 7 = some ⟨ir_law24_OrderPartial.n, strip ir_law24_OrderPartial.body, ir_law24_OrderPartial.res⟩ := by kernel_rfl

/-- strongtx/strongtxlaw24.OrderPublishes -/
def ir_law24_OrderPublishes : IFn := ⟨109,
 (.seq (.region [
 ⟨some 4, .mov (.const (.bool false)), none⟩])
 (.seq (.seq (.region [
 ⟨some 11, .mov (.tmp 0), none⟩,
 ⟨some 12, .len (.tmp 11), none⟩,
 ⟨some 13, .bin .gtr (.tmp 12) (.const (.int .i64 30)), none⟩])
 (.cond (.tmp 13)
  (.seq (.region [
  ⟨some 14, .call 27 [], none⟩,
  ⟨some 4, .mov (.tmp 14), none⟩])
  .ret)
  .skip))
 (.seq (.region [
 ⟨some 15, .mov (.tmp 1), none⟩,
 ⟨some 16, .call 17 [(.tmp 15), (.const (.int .i64 3))], none⟩,
 ⟨some 17, .bin .add (.const (.int .i64 2)) (.tmp 16), none⟩,
 ⟨some 5, .mov (.tmp 17), none⟩])
 (.seq (.region [
 ⟨some 18, .mov (.tmp 0), none⟩,
 ⟨some 19, .mov (.tmp 5), none⟩,
 ⟨some 20, .call 18 [(.tmp 18), (.tmp 19)], none⟩,
 ⟨some 6, .mov (.tmp 20), none⟩])
 (.seq (.seq (.region [
 ⟨some 7, .mov (.const (.int .i64 0)), none⟩])
 (.block 0
  (.loop 324518553658426726783156018481040
   (.seq (.seq (.region [
   ⟨some 21, .mov (.tmp 7), none⟩,
   ⟨some 22, .mov (.tmp 6), none⟩,
   ⟨some 23, .len (.tmp 22), none⟩,
   ⟨some 24, .bin .lss (.tmp 21) (.tmp 23), none⟩])
   (.cond (.tmp 24)
    .skip
    (.exit 0)))
   (.seq (.block 1
    (.seq (.seq (.region [
    ⟨some 27, .mov (.tmp 6), none⟩,
    ⟨some 28, .mov (.tmp 7), none⟩,
    ⟨some 29, .ixs 6 (.tmp 27) (.tmp 28), none⟩,
    ⟨some 30, .fad 2 (.tmp 29), none⟩,
    ⟨some 31, .ld (.tmp 30), none⟩,
    ⟨some 32, .bin .neq (.tmp 31) (.const (.int .i64 4)), none⟩])
    (.cond (.tmp 32)
     (.exit 1)
     .skip))
    (.seq (.region [
    ⟨some 33, .mov (.tmp 7), none⟩,
    ⟨some 34, .bin .add (.tmp 33) (.const (.int .i64 1)), none⟩,
    ⟨some 8, .mov (.tmp 34), none⟩])
    (.block 2
     (.loop 324518553658426726783121660839696
      (.seq (.seq (.region [
      ⟨some 35, .mov (.tmp 8), none⟩,
      ⟨some 36, .mov (.tmp 6), none⟩,
      ⟨some 37, .len (.tmp 36), none⟩,
      ⟨some 38, .bin .lss (.tmp 35) (.tmp 37), none⟩])
      (.cond (.tmp 38)
       .skip
       (.exit 2)))
      (.seq (.block 3
       (.seq (.seq (.region [
       ⟨some 41, .mov (.tmp 6), none⟩,
       ⟨some 42, .mov (.tmp 8), none⟩,
       ⟨some 43, .ixs 6 (.tmp 41) (.tmp 42), none⟩,
       ⟨some 44, .fad 2 (.tmp 43), none⟩,
       ⟨some 45, .ld (.tmp 44), none⟩,
       ⟨some 46, .bin .neq (.tmp 45) (.const (.int .i64 4)), none⟩])
       (.cond (.tmp 46)
        (.exit 3)
        .skip))
       (.seq (.region [
       ⟨some 9, .mov (.const (.int .i64 0)), none⟩])
       (.block 4
        (.loop 324518553658426726642418532222480
         (.seq (.seq (.region [
         ⟨some 47, .mov (.tmp 9), none⟩,
         ⟨some 48, .mov (.tmp 7), none⟩,
         ⟨some 49, .bin .lss (.tmp 47) (.tmp 48), none⟩])
         (.cond (.tmp 49)
          .skip
          (.exit 4)))
         (.seq (.block 5
          (.seq (.region [
          ⟨some 52, .mov (.tmp 8), none⟩,
          ⟨some 53, .bin .add (.tmp 52) (.const (.int .i64 1)), none⟩,
          ⟨some 10, .mov (.tmp 53), none⟩])
          (.block 6
           (.loop 324518553658426708768757511095312
            (.seq (.seq (.region [
            ⟨some 54, .mov (.tmp 10), none⟩,
            ⟨some 55, .mov (.tmp 6), none⟩,
            ⟨some 56, .len (.tmp 55), none⟩,
            ⟨some 57, .bin .lss (.tmp 54) (.tmp 56), none⟩])
            (.cond (.tmp 57)
             .skip
             (.exit 6)))
            (.seq (.block 7
             (.seq (.draw (.f ⟨some 60, .mov (.tmp 6), none⟩
             (.f ⟨some 61, .mov (.tmp 9), none⟩
             (.f ⟨some 62, .ixs 6 (.tmp 60) (.tmp 61), none⟩
             (.f ⟨some 63, .fad 2 (.tmp 62), none⟩
             (.f ⟨some 64, .ld (.tmp 63), none⟩
             (.f ⟨some 65, .bin .leq (.tmp 64) (.const (.int .i64 2)), none⟩
             (.f ⟨some 66, .mov (.tmp 65), none⟩
             (.f ⟨some 67, .mov (.tmp 6), some (66, true)⟩
             (.f ⟨some 68, .mov (.tmp 9), some (66, true)⟩
             (.f ⟨some 69, .ixs 6 (.tmp 67) (.tmp 68), some (66, true)⟩
             (.f ⟨some 70, .fad 1 (.tmp 69), some (66, true)⟩
             (.f ⟨some 71, .ld (.tmp 70), some (66, true)⟩
             (.f ⟨some 72, .mov (.tmp 6), some (66, true)⟩
             (.f ⟨some 73, .mov (.tmp 7), some (66, true)⟩
             (.f ⟨some 74, .ixs 6 (.tmp 72) (.tmp 73), some (66, true)⟩
             (.f ⟨some 75, .fad 1 (.tmp 74), some (66, true)⟩
             (.f ⟨some 76, .ld (.tmp 75), some (66, true)⟩
             (.f ⟨some 77, .bin .eql (.tmp 71) (.tmp 76), some (66, true)⟩
             (.f ⟨some 78, .pick (.tmp 66) (.tmp 77) (.const (.bool false)), none⟩
             (.f ⟨some 79, .mov (.tmp 78), none⟩
             (.f ⟨some 80, .mov (.tmp 6), some (79, true)⟩
             (.f ⟨some 81, .mov (.tmp 10), some (79, true)⟩
             (.f ⟨some 82, .ixs 6 (.tmp 80) (.tmp 81), some (79, true)⟩
             (.f ⟨some 83, .fad 2 (.tmp 82), some (79, true)⟩
             (.f ⟨some 84, .ld (.tmp 83), some (79, true)⟩
             (.f ⟨some 85, .bin .leq (.tmp 84) (.const (.int .i64 2)), some (79, true)⟩
             (.f ⟨some 86, .pick (.tmp 79) (.tmp 85) (.const (.bool false)), none⟩
             (.f ⟨some 87, .mov (.tmp 86), none⟩
             (.f ⟨some 88, .mov (.tmp 6), some (87, true)⟩
             (.f ⟨some 89, .mov (.tmp 10), some (87, true)⟩
             (.f ⟨some 90, .ixs 6 (.tmp 88) (.tmp 89), some (87, true)⟩
             (.f ⟨some 91, .fad 1 (.tmp 90), some (87, true)⟩
             (.f ⟨some 92, .ld (.tmp 91), some (87, true)⟩
             (.f ⟨some 93, .mov (.tmp 6), some (87, true)⟩
             (.f ⟨some 94, .mov (.tmp 8), some (87, true)⟩
             (.f ⟨some 95, .ixs 6 (.tmp 93) (.tmp 94), some (87, true)⟩
             (.f ⟨some 96, .fad 1 (.tmp 95), some (87, true)⟩
             (.f ⟨some 97, .ld (.tmp 96), some (87, true)⟩
             (.f ⟨some 98, .bin .eql (.tmp 92) (.tmp 97), some (87, true)⟩
             (.f ⟨some 99, .pick (.tmp 87) (.tmp 98) (.const (.bool false)), none⟩
             (.f ⟨some 100, .mov (.tmp 99), none⟩
             (.f ⟨some 101, .mov (.tmp 6), some (100, true)⟩
             (.f ⟨some 102, .mov (.tmp 5), some (100, true)⟩
             (.f ⟨some 103, .mov (.tmp 9), some (100, true)⟩
             (.f ⟨some 104, .mov (.tmp 10), some (100, true)⟩
             (.f ⟨some 105, .call 28 [(.tmp 101), (.tmp 102), (.tmp 103), (.tmp 104)], some (100, true)⟩
             (.f ⟨some 106, .not (.tmp 105), some (100, true)⟩
             (.f ⟨some 107, .pick (.tmp 100) (.tmp 106) (.const (.bool false)), none⟩
             .done)))))))))))))))))))))))))))))))))))))))))))))))))
             (.cond (.tmp 107)
              (.seq (.region [
              ⟨some 4, .mov (.const (.bool false)), none⟩])
              .ret)
              .skip)))
            (.region [
            ⟨some 58, .mov (.tmp 10), none⟩,
            ⟨some 59, .bin .add (.tmp 58) (.const (.int .i64 1)), none⟩,
            ⟨some 10, .mov (.tmp 59), none⟩])))))))
         (.region [
         ⟨some 50, .mov (.tmp 9), none⟩,
         ⟨some 51, .bin .add (.tmp 50) (.const (.int .i64 1)), none⟩,
         ⟨some 9, .mov (.tmp 51), none⟩]))))))))
      (.region [
      ⟨some 39, .mov (.tmp 8), none⟩,
      ⟨some 40, .bin .add (.tmp 39) (.const (.int .i64 1)), none⟩,
      ⟨some 8, .mov (.tmp 40), none⟩]))))))))
   (.region [
   ⟨some 25, .mov (.tmp 7), none⟩,
   ⟨some 26, .bin .add (.tmp 25) (.const (.int .i64 1)), none⟩,
   ⟨some 7, .mov (.tmp 26), none⟩]))))))
 (.seq (.region [
 ⟨some 108, .call 27 [], none⟩,
 ⟨some 4, .mov (.tmp 108), none⟩])
 .ret)))))),
 [.tmp 4]⟩
theorem low_law24_OrderPublishes : lowFn Tryd.prog movers 8 = some ⟨ir_law24_OrderPublishes.n, strip ir_law24_OrderPublishes.body, ir_law24_OrderPublishes.res⟩ := by kernel_rfl

/-- strongtx/strongtxlaw24.OrderAny -/
def ir_law24_OrderAny : IFn := ⟨30,
 (.seq (.region [
 ⟨some 8, .mov (.const (.bool false)), none⟩])
 (.seq (.seq (.region [
 ⟨some 9, .mov (.tmp 0), none⟩,
 ⟨some 10, .len (.tmp 9), none⟩,
 ⟨some 11, .bin .gtr (.tmp 10) (.const (.int .i64 30)), none⟩])
 (.cond (.tmp 11)
  (.seq (.region [
  ⟨some 12, .call 27 [], none⟩,
  ⟨some 8, .mov (.tmp 12), none⟩])
  .ret)
  .skip))
 (.seq (.region [
 ⟨some 13, .mov (.tmp 0), none⟩,
 ⟨some 14, .mov (.tmp 1), none⟩,
 ⟨some 15, .mov (.tmp 2), none⟩,
 ⟨some 16, .mov (.tmp 3), none⟩,
 ⟨some 17, .call 33 [(.tmp 13), (.tmp 14), (.tmp 15), (.tmp 16)], none⟩,
 ⟨some 18, .mov (.tmp 17), none⟩,
 ⟨some 19, .mov (.tmp 0), some (18, true)⟩,
 ⟨some 20, .mov (.tmp 1), some (18, true)⟩,
 ⟨some 21, .call 17 [(.tmp 20), (.const (.int .i64 17))], some (18, true)⟩,
 ⟨some 22, .bin .add (.const (.int .i64 1)) (.tmp 21), some (18, true)⟩,
 ⟨some 23, .mov (.tmp 2), some (18, true)⟩,
 ⟨some 24, .mov (.tmp 3), some (18, true)⟩,
 ⟨some 25, .call 33 [(.tmp 19), (.tmp 22), (.tmp 23), (.tmp 24)], some (18, true)⟩,
 ⟨some 26, .pick (.tmp 18) (.tmp 25) (.const (.bool false)), none⟩,
 ⟨some 27, .mov (.tmp 26), none⟩,
 ⟨some 28, .call 27 [], some (27, true)⟩,
 ⟨some 29, .pick (.tmp 27) (.tmp 28) (.const (.bool false)), none⟩,
 ⟨some 8, .mov (.tmp 29), none⟩])
 .ret))),
 [.tmp 8]⟩
theorem low_law24_OrderAny : lowFn Tryd.prog movers 11 = some ⟨ir_law24_OrderAny.n, strip ir_law24_OrderAny.body, ir_law24_OrderAny.res⟩ := by kernel_rfl

/-- strongtx/strongtxlaw24.OrderMade -/
def ir_law24_OrderMade : IFn := ⟨39,
 (.seq (.region [
 ⟨some 8, .mov (.const (.bool false)), none⟩])
 (.seq (.seq (.region [
 ⟨some 11, .mov (.tmp 0), none⟩,
 ⟨some 12, .len (.tmp 11), none⟩,
 ⟨some 13, .bin .gtr (.tmp 12) (.const (.int .i64 40)), none⟩])
 (.cond (.tmp 13)
  (.seq (.region [
  ⟨some 14, .call 27 [], none⟩,
  ⟨some 8, .mov (.tmp 14), none⟩])
  .ret)
  .skip))
 (.seq (.region [
 ⟨some 15, .mov (.tmp 1), none⟩,
 ⟨some 16, .call 17 [(.tmp 15), (.const (.int .i64 3))], none⟩,
 ⟨some 17, .bin .add (.const (.int .i64 2)) (.tmp 16), none⟩,
 ⟨some 9, .mov (.tmp 17), none⟩])
 (.seq (.region [
 ⟨some 18, .mov (.tmp 0), none⟩,
 ⟨some 19, .mov (.tmp 9), none⟩,
 ⟨some 20, .call 18 [(.tmp 18), (.tmp 19)], none⟩,
 ⟨some 10, .mov (.tmp 20), none⟩])
 (.seq (.region [
 ⟨some 21, .mov (.tmp 10), none⟩,
 ⟨some 22, .mov (.tmp 9), none⟩,
 ⟨some 23, .mov (.tmp 2), none⟩,
 ⟨some 24, .mov (.tmp 10), none⟩,
 ⟨some 25, .len (.tmp 24), none⟩,
 ⟨some 26, .bin .add (.tmp 25) (.const (.int .i64 2)), none⟩,
 ⟨some 27, .call 17 [(.tmp 23), (.tmp 26)], none⟩,
 ⟨some 28, .bin .sub (.tmp 27) (.const (.int .i64 1)), none⟩,
 ⟨some 29, .mov (.tmp 3), none⟩,
 ⟨some 30, .mov (.tmp 10), none⟩,
 ⟨some 31, .len (.tmp 30), none⟩,
 ⟨some 32, .bin .add (.tmp 31) (.const (.int .i64 2)), none⟩,
 ⟨some 33, .call 17 [(.tmp 29), (.tmp 32)], none⟩,
 ⟨some 34, .bin .sub (.tmp 33) (.const (.int .i64 1)), none⟩,
 ⟨some 35, .call 33 [(.tmp 21), (.tmp 22), (.tmp 28), (.tmp 34)], none⟩,
 ⟨some 36, .mov (.tmp 35), none⟩,
 ⟨some 37, .call 27 [], some (36, true)⟩,
 ⟨some 38, .pick (.tmp 36) (.tmp 37) (.const (.bool false)), none⟩,
 ⟨some 8, .mov (.tmp 38), none⟩])
 .ret))))),
 [.tmp 8]⟩
theorem low_law24_OrderMade : lowFn Tryd.prog movers 12 = some ⟨ir_law24_OrderMade.n, strip ir_law24_OrderMade.body, ir_law24_OrderMade.res⟩ := by kernel_rfl

/-- strongtx/strongtxlaw24.OrderSpoiled -/
def ir_law24_OrderSpoiled : IFn := ⟨94,
 (.seq (.region [
 ⟨some 10, .mov (.const (.bool false)), none⟩])
 (.seq (.seq (.region [
 ⟨some 14, .mov (.tmp 0), none⟩,
 ⟨some 15, .len (.tmp 14), none⟩,
 ⟨some 16, .bin .eql (.tmp 15) (.const (.int .i64 0)), none⟩,
 ⟨some 17, .mov (.tmp 16), none⟩,
 ⟨some 18, .mov (.tmp 0), some (17, false)⟩,
 ⟨some 19, .len (.tmp 18), some (17, false)⟩,
 ⟨some 20, .bin .gtr (.tmp 19) (.const (.int .i64 30)), some (17, false)⟩,
 ⟨some 21, .pick (.tmp 17) (.const (.bool true)) (.tmp 20), none⟩])
 (.cond (.tmp 21)
  (.seq (.region [
  ⟨some 22, .call 27 [], none⟩,
  ⟨some 10, .mov (.tmp 22), none⟩])
  .ret)
  .skip))
 (.seq (.region [
 ⟨some 23, .mov (.tmp 1), none⟩,
 ⟨some 24, .call 17 [(.tmp 23), (.const (.int .i64 3))], none⟩,
 ⟨some 25, .bin .add (.const (.int .i64 2)) (.tmp 24), none⟩,
 ⟨some 11, .mov (.tmp 25), none⟩])
 (.seq (.region [
 ⟨some 26, .mov (.tmp 0), none⟩,
 ⟨some 27, .mov (.tmp 11), none⟩,
 ⟨some 28, .call 18 [(.tmp 26), (.tmp 27)], none⟩,
 ⟨some 12, .mov (.tmp 28), none⟩])
 (.seq (.region [
 ⟨some 29, .mov (.tmp 12), none⟩,
 ⟨some 30, .mov (.tmp 2), none⟩,
 ⟨some 31, .mov (.tmp 12), none⟩,
 ⟨some 32, .len (.tmp 31), none⟩,
 ⟨some 33, .call 17 [(.tmp 30), (.tmp 32)], none⟩,
 ⟨some 34, .ixs 6 (.tmp 29) (.tmp 33), none⟩,
 ⟨some 13, .mov (.tmp 34), none⟩])
 (.seq (.seq (.region [
 ⟨some 35, .mov (.tmp 3), none⟩,
 ⟨some 36, .call 17 [(.tmp 35), (.const (.int .i64 6))], none⟩])
 (.block 0
  (.seq (.region [
  ⟨some 42, .bin .eql (.tmp 36) (.const (.int .i64 0)), none⟩,
  ⟨some 41, .mov (.tmp 42), none⟩])
  (.cond (.tmp 41)
   (.region [
   ⟨some 43, .mov (.tmp 13), none⟩,
   ⟨some 44, .mov (.tmp 4), none⟩,
   ⟨some 45, .nilc (.tmp 43), none⟩,
   ⟨some 46, .fad 1 (.tmp 45), none⟩,
   ⟨none, .st (.tmp 46) (.tmp 44), none⟩])
   (.seq (.region [
   ⟨some 48, .bin .eql (.tmp 36) (.const (.int .i64 1)), none⟩,
   ⟨some 47, .mov (.tmp 48), none⟩])
   (.cond (.tmp 47)
    (.region [
    ⟨some 49, .mov (.tmp 13), none⟩,
    ⟨some 50, .mov (.tmp 4), none⟩,
    ⟨some 51, .call 17 [(.tmp 50), (.const (.int .i64 7))], none⟩,
    ⟨some 52, .nilc (.tmp 49), none⟩,
    ⟨some 53, .fad 2 (.tmp 52), none⟩,
    ⟨none, .st (.tmp 53) (.tmp 51), none⟩])
    (.seq (.region [
    ⟨some 55, .bin .eql (.tmp 36) (.const (.int .i64 2)), none⟩,
    ⟨some 54, .mov (.tmp 55), none⟩])
    (.cond (.tmp 54)
     (.region [
     ⟨some 56, .mov (.tmp 13), none⟩,
     ⟨some 57, .mov (.tmp 4), none⟩,
     ⟨some 58, .nilc (.tmp 56), none⟩,
     ⟨some 59, .fad 3 (.tmp 58), none⟩,
     ⟨none, .st (.tmp 59) (.tmp 57), none⟩])
     (.seq (.region [
     ⟨some 61, .bin .eql (.tmp 36) (.const (.int .i64 3)), none⟩,
     ⟨some 60, .mov (.tmp 61), none⟩])
     (.cond (.tmp 60)
      (.region [
      ⟨some 62, .mov (.tmp 13), none⟩,
      ⟨some 63, .mov (.tmp 13), none⟩,
      ⟨some 64, .nilc (.tmp 63), none⟩,
      ⟨some 65, .fad 4 (.tmp 64), none⟩,
      ⟨some 66, .ld (.tmp 65), none⟩,
      ⟨some 67, .mov (.tmp 4), none⟩,
      ⟨some 68, .blds 3 1 [(.int .i64 0)] [(0, 1, (.tmp 67))], none⟩,
      ⟨some 69, .app 3 1 8 [(.int .i64 0)] (.tmp 66) (.tmp 68), none⟩,
      ⟨some 70, .nilc (.tmp 62), none⟩,
      ⟨some 71, .fad 4 (.tmp 70), none⟩,
      ⟨none, .st (.tmp 71) (.tmp 69), none⟩])
      (.seq (.region [
      ⟨some 73, .bin .eql (.tmp 36) (.const (.int .i64 4)), none⟩,
      ⟨some 72, .mov (.tmp 73), none⟩])
      (.cond (.tmp 72)
       (.draw (.f ⟨some 74, .mov (.tmp 13), none⟩
       (.f ⟨some 75, .mov (.tmp 13), none⟩
       (.f ⟨some 76, .nilc (.tmp 75), none⟩
       (.f ⟨some 77, .fad 5 (.tmp 76), none⟩
       (.f ⟨some 78, .ld (.tmp 77), none⟩
       (.f ⟨some 79, .mov (.tmp 4), none⟩
       (.f ⟨some 80, .call 17 [(.tmp 79), (.const (.int .i64 70))], none⟩
       (.m ⟨some 81, .blds 3 1 [(.int .i64 0)] [(0, 1, (.tmp 80))], none⟩
       (.m ⟨some 82, .app 3 1 8 [(.int .i64 0)] (.tmp 78) (.tmp 81), none⟩
       (.f ⟨some 83, .nilc (.tmp 74), none⟩
       (.f ⟨some 84, .fad 5 (.tmp 83), none⟩
       (.m ⟨none, .st (.tmp 84) (.tmp 82), none⟩
       .done)))))))))))))
       (.region [
       ⟨some 37, .mov (.tmp 13), none⟩,
       ⟨some 38, .mov (.tmp 4), none⟩,
       ⟨some 39, .nilc (.tmp 37), none⟩,
       ⟨some 40, .fad 0 (.tmp 39), none⟩,
       ⟨none, .st (.tmp 40) (.tmp 38), none⟩])))))))))))))
 (.seq (.region [
 ⟨some 85, .mov (.tmp 12), none⟩,
 ⟨some 86, .mov (.tmp 11), none⟩,
 ⟨some 87, .mov (.tmp 12), none⟩,
 ⟨some 88, .len (.tmp 87), none⟩,
 ⟨some 89, .bin .sub (.tmp 88) (.const (.int .i64 1)), none⟩,
 ⟨some 90, .call 33 [(.tmp 85), (.tmp 86), (.const (.int .i64 0)), (.tmp 89)], none⟩,
 ⟨some 91, .mov (.tmp 90), none⟩,
 ⟨some 92, .call 27 [], some (91, true)⟩,
 ⟨some 93, .pick (.tmp 91) (.tmp 92) (.const (.bool false)), none⟩,
 ⟨some 10, .mov (.tmp 93), none⟩])
 .ret))))))),
 [.tmp 10]⟩
theorem low_law24_OrderSpoiled : lowFn Tryd.prog movers 13 = some ⟨ir_law24_OrderSpoiled.n, strip ir_law24_OrderSpoiled.body, ir_law24_OrderSpoiled.res⟩ := by kernel_rfl

/-- strongtx/strongtxlaw24.OrderRaces -/
def ir_law24_OrderRaces : IFn := ⟨152,
 (.seq (.region [
 ⟨some 4, .mov (.const (.bool false)), none⟩])
 (.seq (.seq (.region [
 ⟨some 12, .mov (.tmp 0), none⟩,
 ⟨some 13, .len (.tmp 12), none⟩,
 ⟨some 14, .bin .gtr (.tmp 13) (.const (.int .i64 40)), none⟩])
 (.cond (.tmp 14)
  (.seq (.region [
  ⟨some 15, .call 27 [], none⟩,
  ⟨some 4, .mov (.tmp 15), none⟩])
  .ret)
  .skip))
 (.seq (.region [
 ⟨some 16, .mov (.tmp 1), none⟩,
 ⟨some 17, .call 17 [(.tmp 16), (.const (.int .i64 3))], none⟩,
 ⟨some 18, .bin .add (.const (.int .i64 2)) (.tmp 17), none⟩,
 ⟨some 5, .mov (.tmp 18), none⟩])
 (.seq (.region [
 ⟨some 19, .mov (.tmp 0), none⟩,
 ⟨some 20, .mov (.tmp 5), none⟩,
 ⟨some 21, .call 18 [(.tmp 19), (.tmp 20)], none⟩,
 ⟨some 6, .mov (.tmp 21), none⟩])
 (.seq (.region [
 ⟨some 22, .mov (.tmp 6), none⟩,
 ⟨some 23, .mov (.tmp 5), none⟩,
 ⟨some 24, .call 34 [(.tmp 22), (.tmp 23)], none⟩,
 ⟨some 7, .mov (.tmp 24), none⟩])
 (.seq (.seq (.region [
 ⟨some 8, .mov (.const (.int .i64 0)), none⟩])
 (.block 0
  (.loop 1393796574908163946345982392040522560573200
   (.seq (.seq (.region [
   ⟨some 25, .mov (.tmp 8), none⟩,
   ⟨some 26, .mov (.tmp 7), none⟩,
   ⟨some 27, .len (.tmp 26), none⟩,
   ⟨some 28, .bin .lss (.tmp 25) (.tmp 27), none⟩])
   (.cond (.tmp 28)
    .skip
    (.exit 0)))
   (.seq (.block 1
    (.seq (.region [
    ⟨some 31, .mov (.tmp 7), none⟩,
    ⟨some 32, .mov (.tmp 8), none⟩,
    ⟨some 33, .ixs 3 (.tmp 31) (.tmp 32), none⟩,
    ⟨some 34, .ldN 3 (.tmp 33), none⟩,
    ⟨some 9, .new 28 (.agg #[.int .i64 0, .int .i64 0, .int .i64 0]), none⟩,
    ⟨none, .stN 3 (.tmp 9) (.tmp 34), none⟩])
    (.seq (.seq (.region [
    ⟨some 35, .fad 0 (.tmp 9), none⟩,
    ⟨some 36, .ld (.tmp 35), none⟩,
    ⟨some 37, .bin .lss (.tmp 36) (.const (.int .i64 0)), none⟩,
    ⟨some 38, .mov (.tmp 37), none⟩,
    ⟨some 39, .fad 0 (.tmp 9), some (38, false)⟩,
    ⟨some 40, .ld (.tmp 39), some (38, false)⟩,
    ⟨some 41, .fad 1 (.tmp 9), some (38, false)⟩,
    ⟨some 42, .ld (.tmp 41), some (38, false)⟩,
    ⟨some 43, .bin .geq (.tmp 40) (.tmp 42), some (38, false)⟩,
    ⟨some 44, .pick (.tmp 38) (.const (.bool true)) (.tmp 43), none⟩,
    ⟨some 45, .mov (.tmp 44), none⟩,
    ⟨some 46, .fad 1 (.tmp 9), some (45, false)⟩,
    ⟨some 47, .ld (.tmp 46), some (45, false)⟩,
    ⟨some 48, .mov (.tmp 6), some (45, false)⟩,
    ⟨some 49, .len (.tmp 48), some (45, false)⟩,
    ⟨some 50, .bin .geq (.tmp 47) (.tmp 49), some (45, false)⟩,
    ⟨some 51, .pick (.tmp 45) (.const (.bool true)) (.tmp 50), none⟩])
    (.cond (.tmp 51)
     (.seq (.region [
     ⟨some 4, .mov (.const (.bool false)), none⟩])
     .ret)
     .skip))
    (.seq (.draw (.f ⟨some 52, .mov (.tmp 6), none⟩
    (.f ⟨some 53, .fad 0 (.tmp 9), none⟩
    (.f ⟨some 54, .ld (.tmp 53), none⟩
    (.f ⟨some 55, .ixs 6 (.tmp 52) (.tmp 54), none⟩
    (.f ⟨some 56, .ldN 6 (.tmp 55), none⟩
    (.f ⟨some 57, .mov (.tmp 6), none⟩
    (.f ⟨some 58, .fad 1 (.tmp 9), none⟩
    (.both (.f ⟨some 59, .ld (.tmp 58), none⟩
     (.f ⟨some 60, .ixs 6 (.tmp 57) (.tmp 59), none⟩
     (.both (.f ⟨some 61, .ldN 6 (.tmp 60), none⟩
      (.both (.m ⟨some 10, .new 42 (.agg #[.int .i64 0, .int .i64 0, .int .i64 0, .int .i64 0, .slice none 0 0, .slice none 0 0]), none⟩
       (.m ⟨some 11, .new 42 (.agg #[.int .i64 0, .int .i64 0, .int .i64 0, .int .i64 0, .slice none 0 0, .slice none 0 0]), none⟩
       (.m ⟨none, .stN 6 (.tmp 10) (.tmp 56), none⟩
       (.m ⟨none, .stN 6 (.tmp 11) (.tmp 61), none⟩
       .done))))
      (.m ⟨some 11, .new 42 (.agg #[.int .i64 0, .int .i64 0, .int .i64 0, .int .i64 0, .slice none 0 0, .slice none 0 0]), none⟩
       (.m ⟨some 10, .new 42 (.agg #[.int .i64 0, .int .i64 0, .int .i64 0, .int .i64 0, .slice none 0 0, .slice none 0 0]), none⟩
       (.m ⟨none, .stN 6 (.tmp 10) (.tmp 56), none⟩
       (.m ⟨none, .stN 6 (.tmp 11) (.tmp 61), none⟩
       .done))))))
     (.both (.m ⟨some 10, .new 42 (.agg #[.int .i64 0, .int .i64 0, .int .i64 0, .int .i64 0, .slice none 0 0, .slice none 0 0]), none⟩
       (.both (.f ⟨some 61, .ldN 6 (.tmp 60), none⟩
        (.m ⟨some 11, .new 42 (.agg #[.int .i64 0, .int .i64 0, .int .i64 0, .int .i64 0, .slice none 0 0, .slice none 0 0]), none⟩
        (.m ⟨none, .stN 6 (.tmp 10) (.tmp 56), none⟩
        (.m ⟨none, .stN 6 (.tmp 11) (.tmp 61), none⟩
        .done))))
       (.m ⟨some 11, .new 42 (.agg #[.int .i64 0, .int .i64 0, .int .i64 0, .int .i64 0, .slice none 0 0, .slice none 0 0]), none⟩
        (.both (.f ⟨some 61, .ldN 6 (.tmp 60), none⟩
         (.m ⟨none, .stN 6 (.tmp 10) (.tmp 56), none⟩
         (.m ⟨none, .stN 6 (.tmp 11) (.tmp 61), none⟩
         .done)))
        (.m ⟨none, .stN 6 (.tmp 10) (.tmp 56), none⟩
         (.f ⟨some 61, .ldN 6 (.tmp 60), none⟩
         (.m ⟨none, .stN 6 (.tmp 11) (.tmp 61), none⟩
         .done)))))))
      (.m ⟨some 11, .new 42 (.agg #[.int .i64 0, .int .i64 0, .int .i64 0, .int .i64 0, .slice none 0 0, .slice none 0 0]), none⟩
       (.both (.f ⟨some 61, .ldN 6 (.tmp 60), none⟩
        (.m ⟨some 10, .new 42 (.agg #[.int .i64 0, .int .i64 0, .int .i64 0, .int .i64 0, .slice none 0 0, .slice none 0 0]), none⟩
        (.m ⟨none, .stN 6 (.tmp 10) (.tmp 56), none⟩
        (.m ⟨none, .stN 6 (.tmp 11) (.tmp 61), none⟩
        .done))))
       (.m ⟨some 10, .new 42 (.agg #[.int .i64 0, .int .i64 0, .int .i64 0, .int .i64 0, .slice none 0 0, .slice none 0 0]), none⟩
        (.both (.f ⟨some 61, .ldN 6 (.tmp 60), none⟩
         (.m ⟨none, .stN 6 (.tmp 10) (.tmp 56), none⟩
         (.m ⟨none, .stN 6 (.tmp 11) (.tmp 61), none⟩
         .done)))
        (.m ⟨none, .stN 6 (.tmp 10) (.tmp 56), none⟩
         (.f ⟨some 61, .ldN 6 (.tmp 60), none⟩
         (.m ⟨none, .stN 6 (.tmp 11) (.tmp 61), none⟩
         .done)))))))))))
    (.both (.m ⟨some 10, .new 42 (.agg #[.int .i64 0, .int .i64 0, .int .i64 0, .int .i64 0, .slice none 0 0, .slice none 0 0]), none⟩
      (.both (.f ⟨some 59, .ld (.tmp 58), none⟩
       (.f ⟨some 60, .ixs 6 (.tmp 57) (.tmp 59), none⟩
       (.both (.f ⟨some 61, .ldN 6 (.tmp 60), none⟩
        (.m ⟨some 11, .new 42 (.agg #[.int .i64 0, .int .i64 0, .int .i64 0, .int .i64 0, .slice none 0 0, .slice none 0 0]), none⟩
        (.m ⟨none, .stN 6 (.tmp 10) (.tmp 56), none⟩
        (.m ⟨none, .stN 6 (.tmp 11) (.tmp 61), none⟩
        .done))))
       (.m ⟨some 11, .new 42 (.agg #[.int .i64 0, .int .i64 0, .int .i64 0, .int .i64 0, .slice none 0 0, .slice none 0 0]), none⟩
        (.both (.f ⟨some 61, .ldN 6 (.tmp 60), none⟩
         (.m ⟨none, .stN 6 (.tmp 10) (.tmp 56), none⟩
         (.m ⟨none, .stN 6 (.tmp 11) (.tmp 61), none⟩
         .done)))
        (.m ⟨none, .stN 6 (.tmp 10) (.tmp 56), none⟩
         (.f ⟨some 61, .ldN 6 (.tmp 60), none⟩
         (.m ⟨none, .stN 6 (.tmp 11) (.tmp 61), none⟩
         .done))))))))
      (.m ⟨some 11, .new 42 (.agg #[.int .i64 0, .int .i64 0, .int .i64 0, .int .i64 0, .slice none 0 0, .slice none 0 0]), none⟩
       (.both (.f ⟨some 59, .ld (.tmp 58), none⟩
        (.f ⟨some 60, .ixs 6 (.tmp 57) (.tmp 59), none⟩
        (.both (.f ⟨some 61, .ldN 6 (.tmp 60), none⟩
         (.m ⟨none, .stN 6 (.tmp 10) (.tmp 56), none⟩
         (.m ⟨none, .stN 6 (.tmp 11) (.tmp 61), none⟩
         .done)))
        (.m ⟨none, .stN 6 (.tmp 10) (.tmp 56), none⟩
         (.f ⟨some 61, .ldN 6 (.tmp 60), none⟩
         (.m ⟨none, .stN 6 (.tmp 11) (.tmp 61), none⟩
         .done))))))
       (.m ⟨none, .stN 6 (.tmp 10) (.tmp 56), none⟩
        (.f ⟨some 59, .ld (.tmp 58), none⟩
        (.f ⟨some 60, .ixs 6 (.tmp 57) (.tmp 59), none⟩
        (.f ⟨some 61, .ldN 6 (.tmp 60), none⟩
        (.m ⟨none, .stN 6 (.tmp 11) (.tmp 61), none⟩
        .done)))))))))
     (.m ⟨some 11, .new 42 (.agg #[.int .i64 0, .int .i64 0, .int .i64 0, .int .i64 0, .slice none 0 0, .slice none 0 0]), none⟩
      (.both (.f ⟨some 59, .ld (.tmp 58), none⟩
       (.f ⟨some 60, .ixs 6 (.tmp 57) (.tmp 59), none⟩
       (.both (.f ⟨some 61, .ldN 6 (.tmp 60), none⟩
        (.m ⟨some 10, .new 42 (.agg #[.int .i64 0, .int .i64 0, .int .i64 0, .int .i64 0, .slice none 0 0, .slice none 0 0]), none⟩
        (.m ⟨none, .stN 6 (.tmp 10) (.tmp 56), none⟩
        (.m ⟨none, .stN 6 (.tmp 11) (.tmp 61), none⟩
        .done))))
       (.m ⟨some 10, .new 42 (.agg #[.int .i64 0, .int .i64 0, .int .i64 0, .int .i64 0, .slice none 0 0, .slice none 0 0]), none⟩
        (.both (.f ⟨some 61, .ldN 6 (.tmp 60), none⟩
         (.m ⟨none, .stN 6 (.tmp 10) (.tmp 56), none⟩
         (.m ⟨none, .stN 6 (.tmp 11) (.tmp 61), none⟩
         .done)))
        (.m ⟨none, .stN 6 (.tmp 10) (.tmp 56), none⟩
         (.f ⟨some 61, .ldN 6 (.tmp 60), none⟩
         (.m ⟨none, .stN 6 (.tmp 11) (.tmp 61), none⟩
         .done))))))))
      (.m ⟨some 10, .new 42 (.agg #[.int .i64 0, .int .i64 0, .int .i64 0, .int .i64 0, .slice none 0 0, .slice none 0 0]), none⟩
       (.both (.f ⟨some 59, .ld (.tmp 58), none⟩
        (.f ⟨some 60, .ixs 6 (.tmp 57) (.tmp 59), none⟩
        (.both (.f ⟨some 61, .ldN 6 (.tmp 60), none⟩
         (.m ⟨none, .stN 6 (.tmp 10) (.tmp 56), none⟩
         (.m ⟨none, .stN 6 (.tmp 11) (.tmp 61), none⟩
         .done)))
        (.m ⟨none, .stN 6 (.tmp 10) (.tmp 56), none⟩
         (.f ⟨some 61, .ldN 6 (.tmp 60), none⟩
         (.m ⟨none, .stN 6 (.tmp 11) (.tmp 61), none⟩
         .done))))))
       (.m ⟨none, .stN 6 (.tmp 10) (.tmp 56), none⟩
        (.f ⟨some 59, .ld (.tmp 58), none⟩
        (.f ⟨some 60, .ixs 6 (.tmp 57) (.tmp 59), none⟩
        (.f ⟨some 61, .ldN 6 (.tmp 60), none⟩
        (.m ⟨none, .stN 6 (.tmp 11) (.tmp 61), none⟩
        .done)))))))))))))))))))
    (.seq (.seq (.region [
    ⟨some 62, .fad 1 (.tmp 10), none⟩,
    ⟨some 63, .ld (.tmp 62), none⟩,
    ⟨some 64, .fad 1 (.tmp 11), none⟩,
    ⟨some 65, .ld (.tmp 64), none⟩,
    ⟨some 66, .bin .eql (.tmp 63) (.tmp 65), none⟩,
    ⟨some 67, .mov (.tmp 66), none⟩,
    ⟨some 68, .fad 2 (.tmp 10), some (67, false)⟩,
    ⟨some 69, .ld (.tmp 68), some (67, false)⟩,
    ⟨some 70, .bin .eql (.tmp 69) (.const (.int .i64 4)), some (67, false)⟩,
    ⟨some 71, .mov (.tmp 70), some (67, false)⟩,
    ⟨some 72, .fad 2 (.tmp 11), some (71, true)⟩,
    ⟨some 73, .ld (.tmp 72), some (71, true)⟩,
    ⟨some 74, .bin .eql (.tmp 73) (.const (.int .i64 4)), some (71, true)⟩,
    ⟨some 75, .pick (.tmp 71) (.tmp 74) (.const (.bool false)), some (67, false)⟩,
    ⟨some 76, .pick (.tmp 67) (.const (.bool true)) (.tmp 75), none⟩,
    ⟨some 77, .mov (.tmp 76), none⟩,
    ⟨some 78, .ldN 6 (.tmp 10), some (77, false)⟩,
    ⟨some 79, .fad 2 (.tmp 9), some (77, false)⟩,
    ⟨some 80, .ld (.tmp 79), some (77, false)⟩,
    ⟨some 81, .call 35 [(.tmp 78), (.tmp 80)], some (77, false)⟩,
    ⟨some 82, .not (.tmp 81), some (77, false)⟩,
    ⟨some 83, .pick (.tmp 77) (.const (.bool true)) (.tmp 82), none⟩,
    ⟨some 84, .mov (.tmp 83), none⟩,
    ⟨some 85, .ldN 6 (.tmp 11), some (84, false)⟩,
    ⟨some 86, .fad 2 (.tmp 9), some (84, false)⟩,
    ⟨some 87, .ld (.tmp 86), some (84, false)⟩,
    ⟨some 88, .call 35 [(.tmp 85), (.tmp 87)], some (84, false)⟩,
    ⟨some 89, .not (.tmp 88), some (84, false)⟩,
    ⟨some 90, .pick (.tmp 84) (.const (.bool true)) (.tmp 89), none⟩,
    ⟨some 91, .mov (.tmp 90), none⟩,
    ⟨some 92, .ldN 6 (.tmp 10), some (91, false)⟩,
    ⟨some 93, .fad 2 (.tmp 9), some (91, false)⟩,
    ⟨some 94, .ld (.tmp 93), some (91, false)⟩,
    ⟨some 95, .call 36 [(.tmp 92), (.tmp 94)], some (91, false)⟩,
    ⟨some 96, .not (.tmp 95), some (91, false)⟩,
    ⟨some 97, .mov (.tmp 96), some (91, false)⟩,
    ⟨some 98, .ldN 6 (.tmp 11), some (97, true)⟩,
    ⟨some 99, .fad 2 (.tmp 9), some (97, true)⟩,
    ⟨some 100, .ld (.tmp 99), some (97, true)⟩,
    ⟨some 101, .call 36 [(.tmp 98), (.tmp 100)], some (97, true)⟩,
    ⟨some 102, .not (.tmp 101), some (97, true)⟩,
    ⟨some 103, .pick (.tmp 97) (.tmp 102) (.const (.bool false)), some (91, false)⟩,
    ⟨some 104, .pick (.tmp 91) (.const (.bool true)) (.tmp 103), none⟩])
    (.cond (.tmp 104)
     (.seq (.region [
     ⟨some 4, .mov (.const (.bool false)), none⟩])
     .ret)
     .skip))
    (.seq (.draw (.f ⟨some 105, .mov (.tmp 8), none⟩
    (.f ⟨some 106, .bin .gtr (.tmp 105) (.const (.int .i64 0)), none⟩
    (.f ⟨some 107, .mov (.tmp 106), none⟩
    (.f ⟨some 108, .mov (.tmp 7), some (107, true)⟩
    (.f ⟨some 109, .mov (.tmp 8), some (107, true)⟩
    (.f ⟨some 110, .bin .sub (.tmp 109) (.const (.int .i64 1)), some (107, true)⟩
    (.f ⟨some 111, .ixs 3 (.tmp 108) (.tmp 110), some (107, true)⟩
    (.f ⟨some 112, .fad 1 (.tmp 111), some (107, true)⟩
    (.f ⟨some 113, .ld (.tmp 112), some (107, true)⟩
    (.f ⟨some 114, .fad 1 (.tmp 9), some (107, true)⟩
    (.f ⟨some 115, .ld (.tmp 114), some (107, true)⟩
    (.f ⟨some 116, .bin .gtr (.tmp 113) (.tmp 115), some (107, true)⟩
    (.f ⟨some 117, .mov (.tmp 116), some (107, true)⟩
    (.f ⟨some 118, .mov (.tmp 7), some (117, false)⟩
    (.f ⟨some 119, .mov (.tmp 8), some (117, false)⟩
    (.f ⟨some 120, .bin .sub (.tmp 119) (.const (.int .i64 1)), some (117, false)⟩
    (.f ⟨some 121, .ixs 3 (.tmp 118) (.tmp 120), some (117, false)⟩
    (.f ⟨some 122, .fad 1 (.tmp 121), some (117, false)⟩
    (.f ⟨some 123, .ld (.tmp 122), some (117, false)⟩
    (.f ⟨some 124, .fad 1 (.tmp 9), some (117, false)⟩
    (.f ⟨some 125, .ld (.tmp 124), some (117, false)⟩
    (.f ⟨some 126, .bin .eql (.tmp 123) (.tmp 125), some (117, false)⟩
    (.f ⟨some 127, .mov (.tmp 126), some (117, false)⟩
    (.f ⟨some 128, .mov (.tmp 7), some (127, true)⟩
    (.f ⟨some 129, .mov (.tmp 8), some (127, true)⟩
    (.f ⟨some 130, .bin .sub (.tmp 129) (.const (.int .i64 1)), some (127, true)⟩
    (.f ⟨some 131, .ixs 3 (.tmp 128) (.tmp 130), some (127, true)⟩
    (.f ⟨some 132, .fad 2 (.tmp 131), some (127, true)⟩
    (.f ⟨some 133, .ld (.tmp 132), some (127, true)⟩
    (.f ⟨some 134, .fad 2 (.tmp 9), some (127, true)⟩
    (.f ⟨some 135, .ld (.tmp 134), some (127, true)⟩
    (.f ⟨some 136, .bin .gtr (.tmp 133) (.tmp 135), some (127, true)⟩
    (.f ⟨some 137, .pick (.tmp 127) (.tmp 136) (.const (.bool false)), some (117, false)⟩
    (.f ⟨some 138, .pick (.tmp 117) (.const (.bool true)) (.tmp 137), some (107, true)⟩
    (.f ⟨some 139, .pick (.tmp 107) (.tmp 138) (.const (.bool false)), none⟩
    .done))))))))))))))))))))))))))))))))))))
    (.cond (.tmp 139)
     (.seq (.region [
     ⟨some 4, .mov (.const (.bool false)), none⟩])
     .ret)
     .skip)))))))
   (.region [
   ⟨some 29, .mov (.tmp 8), none⟩,
   ⟨some 30, .bin .add (.tmp 29) (.const (.int .i64 1)), none⟩,
   ⟨some 8, .mov (.tmp 30), none⟩]))))))
 (.seq (.region [
 ⟨some 140, .mov (.tmp 7), none⟩,
 ⟨some 141, .len (.tmp 140), none⟩,
 ⟨some 142, .bin .gtr (.tmp 141) (.const (.int .i64 0)), none⟩,
 ⟨some 143, .mov (.tmp 6), none⟩,
 ⟨some 144, .mov (.tmp 5), none⟩,
 ⟨some 145, .call 37 [(.tmp 143), (.tmp 144)], none⟩,
 ⟨some 146, .fld 1 (.tmp 145), none⟩,
 ⟨some 147, .bin .geq (.tmp 146) (.const (.int .i64 0)), none⟩,
 ⟨some 148, .beq false (.tmp 142) (.tmp 147), none⟩,
 ⟨some 149, .mov (.tmp 148), none⟩,
 ⟨some 150, .call 27 [], some (149, true)⟩,
 ⟨some 151, .pick (.tmp 149) (.tmp 150) (.const (.bool false)), none⟩,
 ⟨some 4, .mov (.tmp 151), none⟩])
 .ret))))))),
 [.tmp 4]⟩
theorem low_law24_OrderRaces : lowFn Tryd.prog movers 14 = some ⟨ir_law24_OrderRaces.n, strip ir_law24_OrderRaces.body, ir_law24_OrderRaces.res⟩ := by kernel_rfl

/-- strongtx/strongtxlaw24.OrderGrows -/
def ir_law24_OrderGrows : IFn := ⟨67,
 (.seq (.region [
 ⟨some 4, .mov (.const (.bool false)), none⟩])
 (.seq (.seq (.region [
 ⟨some 11, .mov (.tmp 0), none⟩,
 ⟨some 12, .len (.tmp 11), none⟩,
 ⟨some 13, .bin .eql (.tmp 12) (.const (.int .i64 0)), none⟩,
 ⟨some 14, .mov (.tmp 13), none⟩,
 ⟨some 15, .mov (.tmp 0), some (14, false)⟩,
 ⟨some 16, .len (.tmp 15), some (14, false)⟩,
 ⟨some 17, .bin .gtr (.tmp 16) (.const (.int .i64 30)), some (14, false)⟩,
 ⟨some 18, .pick (.tmp 14) (.const (.bool true)) (.tmp 17), none⟩])
 (.cond (.tmp 18)
  (.seq (.region [
  ⟨some 19, .call 27 [], none⟩,
  ⟨some 4, .mov (.tmp 19), none⟩])
  .ret)
  .skip))
 (.seq (.region [
 ⟨some 20, .mov (.tmp 1), none⟩,
 ⟨some 21, .call 17 [(.tmp 20), (.const (.int .i64 3))], none⟩,
 ⟨some 22, .bin .add (.const (.int .i64 2)) (.tmp 21), none⟩,
 ⟨some 5, .mov (.tmp 22), none⟩])
 (.seq (.region [
 ⟨some 23, .mov (.tmp 0), none⟩,
 ⟨some 24, .mov (.tmp 5), none⟩,
 ⟨some 25, .call 18 [(.tmp 23), (.tmp 24)], none⟩,
 ⟨some 6, .mov (.tmp 25), none⟩])
 (.seq (.region [
 ⟨some 26, .mov (.tmp 6), none⟩,
 ⟨some 27, .len (.tmp 26), none⟩,
 ⟨some 28, .bin .sub (.tmp 27) (.const (.int .i64 1)), none⟩,
 ⟨some 7, .mov (.tmp 28), none⟩])
 (.seq (.region [
 ⟨some 29, .mov (.tmp 6), none⟩,
 ⟨some 30, .mov (.tmp 7), none⟩,
 ⟨some 31, .sls 6 (.tmp 29) none (some (.tmp 30)) none, none⟩,
 ⟨some 32, .mov (.tmp 5), none⟩,
 ⟨some 33, .call 34 [(.tmp 31), (.tmp 32)], none⟩,
 ⟨some 34, .mov (.tmp 6), none⟩,
 ⟨some 35, .mov (.tmp 5), none⟩,
 ⟨some 36, .call 34 [(.tmp 34), (.tmp 35)], none⟩,
 ⟨some 8, .mov (.tmp 33), none⟩,
 ⟨some 9, .mov (.tmp 36), none⟩])
 (.seq (.seq (.region [
 ⟨some 37, .mov (.tmp 8), none⟩,
 ⟨some 38, .len (.tmp 37), none⟩,
 ⟨some 39, .mov (.tmp 9), none⟩,
 ⟨some 40, .len (.tmp 39), none⟩,
 ⟨some 41, .bin .gtr (.tmp 38) (.tmp 40), none⟩,
 ⟨some 42, .mov (.tmp 41), none⟩,
 ⟨some 43, .mov (.tmp 8), some (42, false)⟩,
 ⟨some 44, .mov (.tmp 9), some (42, false)⟩,
 ⟨some 45, .mov (.tmp 8), some (42, false)⟩,
 ⟨some 46, .len (.tmp 45), some (42, false)⟩,
 ⟨some 47, .sls 3 (.tmp 44) none (some (.tmp 46)) none, some (42, false)⟩,
 ⟨some 48, .call 38 [(.tmp 43), (.tmp 47)], some (42, false)⟩,
 ⟨some 49, .not (.tmp 48), some (42, false)⟩,
 ⟨some 50, .pick (.tmp 42) (.const (.bool true)) (.tmp 49), none⟩])
 (.cond (.tmp 50)
  (.seq (.region [
  ⟨some 4, .mov (.const (.bool false)), none⟩])
  .ret)
  .skip))
 (.seq (.seq (.region [
 ⟨some 51, .mov (.tmp 8), none⟩,
 ⟨some 52, .len (.tmp 51), none⟩,
 ⟨some 10, .mov (.tmp 52), none⟩])
 (.block 0
  (.loop 73777969095583466512
   (.seq (.seq (.region [
   ⟨some 53, .mov (.tmp 10), none⟩,
   ⟨some 54, .mov (.tmp 9), none⟩,
   ⟨some 55, .len (.tmp 54), none⟩,
   ⟨some 56, .bin .lss (.tmp 53) (.tmp 55), none⟩])
   (.cond (.tmp 56)
    .skip
    (.exit 0)))
   (.seq (.block 1
    (.seq (.region [
    ⟨some 59, .mov (.tmp 9), none⟩,
    ⟨some 60, .mov (.tmp 10), none⟩,
    ⟨some 61, .ixs 3 (.tmp 59) (.tmp 60), none⟩,
    ⟨some 62, .fad 1 (.tmp 61), none⟩,
    ⟨some 63, .ld (.tmp 62), none⟩,
    ⟨some 64, .mov (.tmp 7), none⟩,
    ⟨some 65, .bin .neq (.tmp 63) (.tmp 64), none⟩])
    (.cond (.tmp 65)
     (.seq (.region [
     ⟨some 4, .mov (.const (.bool false)), none⟩])
     .ret)
     .skip)))
   (.region [
   ⟨some 57, .mov (.tmp 10), none⟩,
   ⟨some 58, .bin .add (.tmp 57) (.const (.int .i64 1)), none⟩,
   ⟨some 10, .mov (.tmp 58), none⟩]))))))
 (.seq (.region [
 ⟨some 66, .call 27 [], none⟩,
 ⟨some 4, .mov (.tmp 66), none⟩])
 .ret))))))))),
 [.tmp 4]⟩
theorem low_law24_OrderGrows : lowFn Tryd.prog movers 15 = some ⟨ir_law24_OrderGrows.n, strip ir_law24_OrderGrows.body, ir_law24_OrderGrows.res⟩ := by kernel_rfl

/-- strongtx/strongtxlaw24.awake -/
def ir_law24_awake : IFn := ⟨43,
 (.seq (.region [
 ⟨some 0, .mov (.const (.bool false)), none⟩])
 (.seq (.region [
 ⟨some 4, .call 47 [], none⟩,
 ⟨some 1, .mov (.tmp 4), none⟩])
 (.seq (.region [
 ⟨some 6, .mov (.tmp 1), none⟩,
 ⟨some 7, .call 48 [(.tmp 6), (.const (.int .i64 2))], none⟩,
 ⟨some 5, .mov (.tmp 7), none⟩,
 ⟨some 8, .ext (.tmp 5) 0, none⟩,
 ⟨some 9, .ext (.tmp 5) 1, none⟩,
 ⟨some 2, .mov (.tmp 8), none⟩,
 ⟨some 3, .mov (.tmp 9), none⟩])
 (.seq (.draw (.f ⟨some 10, .mov (.tmp 2), none⟩
 (.f ⟨some 11, .bin .eql (.tmp 10) (.const (.int .i64 0)), none⟩
 (.f ⟨some 12, .mov (.tmp 11), none⟩
 (.f ⟨some 13, .mov (.tmp 3), some (12, true)⟩
 (.f ⟨some 14, .bin .eql (.tmp 13) (.const (.int .i64 0)), some (12, true)⟩
 (.f ⟨some 15, .pick (.tmp 12) (.tmp 14) (.const (.bool false)), none⟩
 (.f ⟨some 16, .mov (.tmp 15), none⟩
 (.f ⟨some 17, .mov (.tmp 1), some (16, true)⟩
 (.f ⟨some 18, .call 37 [(.tmp 17), (.const (.int .i64 2))], some (16, true)⟩
 (.f ⟨some 19, .bld [(.int .i64 0), (.int .i64 0), (.int .i64 0)] [(0, 1, (.const (.int .i64 1))), (1, 1, (.const (.int .i64 2))), (2, 1, (.const (.int .i64 3)))], some (16, true)⟩
 (.f ⟨some 20, .ageq false [0, 0, 0] (.tmp 18) (.tmp 19), some (16, true)⟩
 (.f ⟨some 21, .pick (.tmp 16) (.tmp 20) (.const (.bool false)), none⟩
 (.f ⟨some 22, .mov (.tmp 21), none⟩
 (.f ⟨some 23, .mov (.tmp 1), some (22, true)⟩
 (.f ⟨some 24, .ixs 6 (.tmp 23) (.const (.int .i64 0)), some (22, true)⟩
 (.f ⟨some 25, .ldN 6 (.tmp 24), some (22, true)⟩
 (.f ⟨some 26, .mov (.tmp 1), some (22, true)⟩
 (.f ⟨some 27, .ixs 6 (.tmp 26) (.const (.int .i64 2)), some (22, true)⟩
 (.f ⟨some 28, .ldN 6 (.tmp 27), some (22, true)⟩
 (.m ⟨some 29, .blds 42 2 [(.int .i64 0), (.int .i64 0), (.int .i64 0), (.int .i64 0), (.slice none 0 0), (.slice none 0 0), (.int .i64 0), (.int .i64 0), (.int .i64 0), (.int .i64 0), (.slice none 0 0), (.slice none 0 0)] [(0, 6, (.tmp 25)), (6, 6, (.tmp 28))], some (22, true)⟩
 (.f ⟨some 30, .call 37 [(.tmp 29), (.const (.int .i64 2))], some (22, true)⟩
 (.f ⟨some 31, .fld 1 (.tmp 30), some (22, true)⟩
 (.f ⟨some 32, .bin .eql (.tmp 31) (.const (.int .i64 (-1))), some (22, true)⟩
 (.f ⟨some 33, .pick (.tmp 22) (.tmp 32) (.const (.bool false)), none⟩
 (.f ⟨some 34, .mov (.tmp 33), none⟩
 (.f ⟨some 35, .mov (.tmp 1), some (34, true)⟩
 (.f ⟨some 36, .call 28 [(.tmp 35), (.const (.int .i64 2)), (.const (.int .i64 0)), (.const (.int .i64 2))], some (34, true)⟩
 (.f ⟨some 37, .pick (.tmp 34) (.tmp 36) (.const (.bool false)), none⟩
 (.f ⟨some 38, .mov (.tmp 37), none⟩
 (.f ⟨some 39, .mov (.tmp 1), some (38, true)⟩
 (.f ⟨some 40, .call 28 [(.tmp 39), (.const (.int .i64 2)), (.const (.int .i64 1)), (.const (.int .i64 2))], some (38, true)⟩
 (.f ⟨some 41, .not (.tmp 40), some (38, true)⟩
 (.f ⟨some 42, .pick (.tmp 38) (.tmp 41) (.const (.bool false)), none⟩
 (.f ⟨some 0, .mov (.tmp 42), none⟩
 .done)))))))))))))))))))))))))))))))))))
 .ret)))),
 [.tmp 0]⟩
theorem low_law24_awake : lowFn Tryd.prog movers 27 = some ⟨ir_law24_awake.n, strip ir_law24_awake.body, ir_law24_awake.res⟩ := by kernel_rfl

/-- strongtx/strongtxlaw24.agrees -/
def ir_law24_agrees : IFn := ⟨64,
 (.seq (.region [
 ⟨some 8, .mov (.const (.bool false)), none⟩])
 (.seq (.region [
 ⟨some 14, .mov (.tmp 0), none⟩,
 ⟨some 15, .mov (.tmp 1), none⟩,
 ⟨some 16, .call 48 [(.tmp 14), (.tmp 15)], none⟩,
 ⟨some 13, .mov (.tmp 16), none⟩,
 ⟨some 17, .ext (.tmp 13) 0, none⟩,
 ⟨some 18, .ext (.tmp 13) 1, none⟩,
 ⟨some 9, .mov (.tmp 17), none⟩,
 ⟨some 10, .mov (.tmp 18), none⟩])
 (.seq (.region [
 ⟨some 20, .mov (.tmp 0), none⟩,
 ⟨some 21, .mov (.tmp 1), none⟩,
 ⟨some 22, .call 21 [(.tmp 20), (.tmp 21)], none⟩,
 ⟨some 19, .mov (.tmp 22), none⟩,
 ⟨some 23, .ext (.tmp 19) 0, none⟩,
 ⟨some 24, .ext (.tmp 19) 1, none⟩,
 ⟨some 11, .mov (.tmp 23), none⟩,
 ⟨some 12, .mov (.tmp 24), none⟩])
 (.seq (.region [
 ⟨some 25, .mov (.tmp 9), none⟩,
 ⟨some 26, .mov (.tmp 11), none⟩,
 ⟨some 27, .bin .eql (.tmp 25) (.tmp 26), none⟩,
 ⟨some 28, .mov (.tmp 27), none⟩,
 ⟨some 29, .mov (.tmp 10), some (28, true)⟩,
 ⟨some 30, .mov (.tmp 12), some (28, true)⟩,
 ⟨some 31, .bin .eql (.tmp 29) (.tmp 30), some (28, true)⟩,
 ⟨some 32, .pick (.tmp 28) (.tmp 31) (.const (.bool false)), none⟩,
 ⟨some 33, .mov (.tmp 32), none⟩,
 ⟨some 34, .mov (.tmp 0), some (33, true)⟩,
 ⟨some 35, .mov (.tmp 1), some (33, true)⟩,
 ⟨some 36, .mov (.tmp 2), some (33, true)⟩,
 ⟨some 37, .mov (.tmp 3), some (33, true)⟩,
 ⟨some 38, .call 28 [(.tmp 34), (.tmp 35), (.tmp 36), (.tmp 37)], some (33, true)⟩,
 ⟨some 39, .mov (.tmp 0), some (33, true)⟩,
 ⟨some 40, .mov (.tmp 1), some (33, true)⟩,
 ⟨some 41, .mov (.tmp 2), some (33, true)⟩,
 ⟨some 42, .mov (.tmp 3), some (33, true)⟩,
 ⟨some 43, .call 54 [(.tmp 39), (.tmp 40), (.tmp 41), (.tmp 42)], some (33, true)⟩,
 ⟨some 44, .beq false (.tmp 38) (.tmp 43), some (33, true)⟩,
 ⟨some 45, .pick (.tmp 33) (.tmp 44) (.const (.bool false)), none⟩,
 ⟨some 46, .mov (.tmp 45), none⟩,
 ⟨some 47, .mov (.tmp 0), some (46, true)⟩,
 ⟨some 48, .mov (.tmp 1), some (46, true)⟩,
 ⟨some 49, .call 34 [(.tmp 47), (.tmp 48)], some (46, true)⟩,
 ⟨some 50, .mov (.tmp 0), some (46, true)⟩,
 ⟨some 51, .mov (.tmp 1), some (46, true)⟩,
 ⟨some 52, .call 39 [(.tmp 50), (.tmp 51)], some (46, true)⟩,
 ⟨some 53, .call 38 [(.tmp 49), (.tmp 52)], some (46, true)⟩,
 ⟨some 54, .pick (.tmp 46) (.tmp 53) (.const (.bool false)), none⟩,
 ⟨some 55, .mov (.tmp 54), none⟩,
 ⟨some 56, .mov (.tmp 0), some (55, true)⟩,
 ⟨some 57, .mov (.tmp 1), some (55, true)⟩,
 ⟨some 58, .call 37 [(.tmp 56), (.tmp 57)], some (55, true)⟩,
 ⟨some 59, .mov (.tmp 0), some (55, true)⟩,
 ⟨some 60, .mov (.tmp 1), some (55, true)⟩,
 ⟨some 61, .call 20 [(.tmp 59), (.tmp 60)], some (55, true)⟩,
 ⟨some 62, .ageq false [0, 0, 0] (.tmp 58) (.tmp 61), some (55, true)⟩,
 ⟨some 63, .pick (.tmp 55) (.tmp 62) (.const (.bool false)), none⟩,
 ⟨some 8, .mov (.tmp 63), none⟩])
 .ret)))),
 [.tmp 8]⟩
theorem low_law24_agrees : lowFn Tryd.prog movers 33 = some ⟨ir_law24_agrees.n, strip ir_law24_agrees.body, ir_law24_agrees.res⟩ := by kernel_rfl

/-- strongtx/strongtxlaw24.touches -/
def ir_law24_touches : IFn := ⟨30,
 (.seq (.region [
 ⟨some 2, .box 42 (.tmp 0), none⟩,
 ⟨some 4, .mov (.const (.bool false)), none⟩])
 (.seq (.region [
 ⟨some 5, .ldN 6 (.tmp 2), none⟩,
 ⟨some 6, .mov (.tmp 1), none⟩,
 ⟨some 7, .call 36 [(.tmp 5), (.tmp 6)], none⟩,
 ⟨some 8, .mov (.tmp 7), none⟩,
 ⟨some 9, .fad 2 (.tmp 2), some (8, false)⟩,
 ⟨some 10, .ld (.tmp 9), some (8, false)⟩,
 ⟨some 11, .bin .eql (.tmp 10) (.const (.int .i64 1)), some (8, false)⟩,
 ⟨some 12, .mov (.tmp 11), some (8, false)⟩,
 ⟨some 13, .fad 3 (.tmp 2), some (12, true)⟩,
 ⟨some 14, .ld (.tmp 13), some (12, true)⟩,
 ⟨some 15, .mov (.tmp 1), some (12, true)⟩,
 ⟨some 16, .bin .eql (.tmp 14) (.tmp 15), some (12, true)⟩,
 ⟨some 17, .pick (.tmp 12) (.tmp 16) (.const (.bool false)), some (8, false)⟩,
 ⟨some 18, .pick (.tmp 8) (.const (.bool true)) (.tmp 17), none⟩,
 ⟨some 19, .mov (.tmp 18), none⟩,
 ⟨some 20, .fad 2 (.tmp 2), some (19, false)⟩,
 ⟨some 21, .ld (.tmp 20), some (19, false)⟩,
 ⟨some 22, .bin .eql (.tmp 21) (.const (.int .i64 4)), some (19, false)⟩,
 ⟨some 23, .mov (.tmp 22), some (19, false)⟩,
 ⟨some 24, .fad 4 (.tmp 2), some (23, true)⟩,
 ⟨some 25, .ld (.tmp 24), some (23, true)⟩,
 ⟨some 26, .mov (.tmp 1), some (23, true)⟩,
 ⟨some 27, .call 57 [(.tmp 25), (.tmp 26)], some (23, true)⟩,
 ⟨some 28, .pick (.tmp 23) (.tmp 27) (.const (.bool false)), some (19, false)⟩,
 ⟨some 29, .pick (.tmp 19) (.const (.bool true)) (.tmp 28), none⟩,
 ⟨some 4, .mov (.tmp 29), none⟩])
 .ret)),
 [.tmp 4]⟩
theorem low_law24_touches : lowFn Tryd.prog movers 35 = some ⟨ir_law24_touches.n, strip ir_law24_touches.body, ir_law24_touches.res⟩ := by kernel_rfl

/-- strongtx/strongtxlaw24.writes -/
def ir_law24_writes : IFn := ⟨25,
 (.seq (.region [
 ⟨some 2, .box 42 (.tmp 0), none⟩,
 ⟨some 4, .mov (.const (.bool false)), none⟩])
 (.seq (.region [
 ⟨some 5, .fad 2 (.tmp 2), none⟩,
 ⟨some 6, .ld (.tmp 5), none⟩,
 ⟨some 7, .bin .eql (.tmp 6) (.const (.int .i64 2)), none⟩,
 ⟨some 8, .mov (.tmp 7), none⟩,
 ⟨some 9, .fad 3 (.tmp 2), some (8, true)⟩,
 ⟨some 10, .ld (.tmp 9), some (8, true)⟩,
 ⟨some 11, .mov (.tmp 1), some (8, true)⟩,
 ⟨some 12, .bin .eql (.tmp 10) (.tmp 11), some (8, true)⟩,
 ⟨some 13, .pick (.tmp 8) (.tmp 12) (.const (.bool false)), none⟩,
 ⟨some 14, .mov (.tmp 13), none⟩,
 ⟨some 15, .fad 2 (.tmp 2), some (14, false)⟩,
 ⟨some 16, .ld (.tmp 15), some (14, false)⟩,
 ⟨some 17, .bin .eql (.tmp 16) (.const (.int .i64 4)), some (14, false)⟩,
 ⟨some 18, .mov (.tmp 17), some (14, false)⟩,
 ⟨some 19, .fad 5 (.tmp 2), some (18, true)⟩,
 ⟨some 20, .ld (.tmp 19), some (18, true)⟩,
 ⟨some 21, .mov (.tmp 1), some (18, true)⟩,
 ⟨some 22, .call 57 [(.tmp 20), (.tmp 21)], some (18, true)⟩,
 ⟨some 23, .pick (.tmp 18) (.tmp 22) (.const (.bool false)), some (14, false)⟩,
 ⟨some 24, .pick (.tmp 14) (.const (.bool true)) (.tmp 23), none⟩,
 ⟨some 4, .mov (.tmp 24), none⟩])
 .ret)),
 [.tmp 4]⟩
theorem low_law24_writes : lowFn Tryd.prog movers 36 = some ⟨ir_law24_writes.n, strip ir_law24_writes.body, ir_law24_writes.res⟩ := by kernel_rfl

/-- strongtx/strongtxlaw24.example -/
def ir_law24_example : IFn := ⟨6,
 (.seq (.region [
 ⟨some 0, .mov (.const (.slice none 0 0)), none⟩])
 (.seq (.region [
 ⟨some 1, .bld [(.int .i64 0), (.int .i64 0), (.int .i64 0), (.int .i64 0), (.slice none 0 0), (.slice none 0 0)] [(1, 1, (.const (.int .i64 1))), (2, 1, (.const (.int .i64 3)))], none⟩,
 ⟨some 2, .bld [(.int .i64 0), (.int .i64 0), (.int .i64 0), (.int .i64 0), (.slice none 0 0), (.slice none 0 0)] [(1, 1, (.const (.int .i64 0))), (2, 1, (.const (.int .i64 2))), (3, 1, (.const (.int .i64 3)))], none⟩,
 ⟨some 3, .blds 3 1 [(.int .i64 0)] [(0, 1, (.const (.int .i64 3)))], none⟩,
 ⟨some 4, .bld [(.int .i64 0), (.int .i64 0), (.int .i64 0), (.int .i64 0), (.slice none 0 0), (.slice none 0 0)] [(1, 1, (.const (.int .i64 1))), (2, 1, (.const (.int .i64 4))), (4, 1, (.tmp 3))], none⟩,
 ⟨some 5, .blds 42 3 [(.int .i64 0), (.int .i64 0), (.int .i64 0), (.int .i64 0), (.slice none 0 0), (.slice none 0 0), (.int .i64 0), (.int .i64 0), (.int .i64 0), (.int .i64 0), (.slice none 0 0), (.slice none 0 0), (.int .i64 0), (.int .i64 0), (.int .i64 0), (.int .i64 0), (.slice none 0 0), (.slice none 0 0)] [(0, 6, (.tmp 1)), (6, 6, (.tmp 2)), (12, 6, (.tmp 4))], none⟩,
 ⟨some 0, .mov (.tmp 5), none⟩])
 .ret)),
 [.tmp 0]⟩
theorem low_law24_example : lowFn Tryd.prog movers 47 = some ⟨ir_law24_example.n, strip ir_law24_example.body, ir_law24_example.res⟩ := by kernel_rfl
end Go.Proofs.YtofjnldidkiihaaDoor
