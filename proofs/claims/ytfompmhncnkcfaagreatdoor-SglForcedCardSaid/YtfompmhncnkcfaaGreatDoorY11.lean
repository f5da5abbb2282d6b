/- What the laws share, part 11. No condition. -/
import Derived.Test.YtfompmhncnkcfaaGreatDoorY10
namespace Go.Proofs.YtfompmhncnkcfaaGreatDoor
open Go
set_option maxRecDepth 100000
def irc_sgl_Global_plain : IFn := ⟨158,
 (.seq (.region [
 ⟨some 4, .box 43 (.tmp 1), none⟩,
 ⟨some 5, .box 69 (.tmp 2), none⟩,
 ⟨some 6, .mov (.const (.bool false)), none⟩])
 (.seq (.draw (.f ⟨some 10, .mov (.tmp 0), none⟩
 (.f ⟨some 11, .nilc (.tmp 10), none⟩
 (.f ⟨some 12, .fad 16 (.tmp 11), none⟩
 (.f ⟨some 13, .ld (.tmp 12), none⟩
 (.f ⟨some 14, .fad 0 (.tmp 4), none⟩
 (.f ⟨some 15, .ld (.tmp 14), none⟩
 (.f ⟨some 16, .ixs 11 (.tmp 13) (.tmp 15), none⟩
 (.f ⟨some 7, .mov (.tmp 16), none⟩
 .done)))))))))
 (.seq (.region [
 ⟨some 17, .mov (.tmp 7), none⟩,
 ⟨some 18, .ldN 5 (.tmp 5), none⟩,
 ⟨some 19, .call 87 [(.tmp 17), (.tmp 18)], none⟩,
 ⟨some 8, .mov (.tmp 19), none⟩])
 (.seq (.region [
 ⟨some 9, .mov (.const (.int .i64 0)), none⟩])
 (.seq (.seq (.region [
 ⟨some 20, .mov (.tmp 8), none⟩,
 ⟨some 21, .mov (.tmp 0), none⟩,
 ⟨some 22, .nilc (.tmp 21), none⟩,
 ⟨some 23, .fad 2 (.tmp 22), none⟩,
 ⟨some 24, .fad 0 (.tmp 23), none⟩,
 ⟨some 25, .ld (.tmp 24), none⟩,
 ⟨some 26, .conv .u64 (.tmp 25), none⟩,
 ⟨some 27, .bin .geq (.tmp 20) (.tmp 26), none⟩])
 (.cond (.tmp 27)
  (.region [
  ⟨some 9, .mov (.const (.int .i64 7)), none⟩])
  .skip))
 (.seq (.seq (.region [
 ⟨some 28, .fad 1 (.tmp 4), none⟩,
 ⟨some 29, .ld (.tmp 28), none⟩,
 ⟨some 30, .bin .neq (.tmp 29) (.const (.int .i64 0)), none⟩])
 (.cond (.tmp 30)
  (.seq (.seq (.region [
  ⟨some 31, .fad 1 (.tmp 4), none⟩,
  ⟨some 32, .ld (.tmp 31), none⟩,
  ⟨some 33, .bin .neq (.tmp 32) (.const (.int .i64 6)), none⟩,
  ⟨some 34, .mov (.tmp 33), none⟩,
  ⟨some 35, .mov (.tmp 0), some (34, false)⟩,
  ⟨some 36, .nilc (.tmp 35), some (34, false)⟩,
  ⟨some 37, .fad 2 (.tmp 36), some (34, false)⟩,
  ⟨some 38, .fad 12 (.tmp 37), some (34, false)⟩,
  ⟨some 39, .ld (.tmp 38), some (34, false)⟩,
  ⟨some 40, .not (.tmp 39), some (34, false)⟩,
  ⟨some 41, .pick (.tmp 34) (.const (.bool true)) (.tmp 40), none⟩,
  ⟨some 42, .mov (.tmp 41), none⟩,
  ⟨some 43, .fad 0 (.tmp 5), some (42, false)⟩,
  ⟨some 44, .ld (.tmp 43), some (42, false)⟩,
  ⟨some 45, .bin .neq (.tmp 44) (.const (.int .i64 13)), some (42, false)⟩,
  ⟨some 46, .pick (.tmp 42) (.const (.bool true)) (.tmp 45), none⟩,
  ⟨some 47, .mov (.tmp 46), none⟩,
  ⟨some 48, .mov (.tmp 9), some (47, false)⟩,
  ⟨some 49, .bin .neq (.tmp 48) (.const (.int .i64 0)), some (47, false)⟩,
  ⟨some 50, .pick (.tmp 47) (.const (.bool true)) (.tmp 49), none⟩])
  (.cond (.tmp 50)
   (.seq (.region [
   ⟨some 6, .mov (.const (.bool false)), none⟩])
   .ret)
   .skip))
  (.region [
  ⟨some 9, .mov (.const (.int .i64 6)), none⟩]))
  .skip))
 (.cut (.block 0
  (.seq (.region [
  ⟨some 88, .mov (.tmp 9), none⟩,
  ⟨some 89, .bin .neq (.tmp 88) (.const (.int .i64 0)), none⟩,
  ⟨some 87, .mov (.tmp 89), none⟩])
  (.cond (.tmp 87)
   (.seq (.seq (.region [
   ⟨some 90, .fad 0 (.tmp 5), none⟩,
   ⟨some 91, .ld (.tmp 90), none⟩,
   ⟨some 92, .bin .eql (.tmp 91) (.const (.int .i64 12)), none⟩])
   (.cond (.tmp 92)
    (.draw (.f ⟨some 93, .mov (.tmp 7), none⟩
    (.f ⟨some 94, .fad 1 (.tmp 5), none⟩
    (.f ⟨some 95, .ld (.tmp 94), none⟩
    (.f ⟨some 96, .nilc (.tmp 93), none⟩
    (.f ⟨some 97, .fad 1 (.tmp 96), none⟩
    (.f ⟨some 98, .ixa 8 1 (.tmp 97) (.tmp 95), none⟩
    (.m ⟨none, .st (.tmp 98) (.const (.int .u64 0)), none⟩
    .done))))))))
    .skip))
   (.draw (.f ⟨some 99, .mov (.tmp 0), none⟩
   (.f ⟨some 100, .fad 0 (.tmp 4), none⟩
   (.f ⟨some 101, .ld (.tmp 100), none⟩
   (.f ⟨some 102, .mov (.tmp 7), none⟩
   (.f ⟨some 103, .nilc (.tmp 102), none⟩
   (.f ⟨some 104, .fad 0 (.tmp 103), none⟩
   (.f ⟨some 105, .ld (.tmp 104), none⟩
   (.f ⟨some 106, .mov (.tmp 9), none⟩
   (.f ⟨some 107, .conv .u64 (.tmp 106), none⟩
   (.m ⟨some 108, .call 62 [(.tmp 99), (.tmp 101), (.tmp 105), (.const (.int .i64 7)), (.tmp 107)], none⟩
   .done))))))))))))
   (.seq (.region [
   ⟨some 110, .fad 0 (.tmp 5), none⟩,
   ⟨some 111, .ld (.tmp 110), none⟩,
   ⟨some 112, .bin .eql (.tmp 111) (.const (.int .i64 12)), none⟩,
   ⟨some 109, .mov (.tmp 112), none⟩])
   (.cond (.tmp 109)
    (.seq (.region [
    ⟨some 113, .mov (.tmp 0), none⟩,
    ⟨some 114, .fad 0 (.tmp 4), none⟩,
    ⟨some 115, .ld (.tmp 114), none⟩,
    ⟨some 116, .mov (.tmp 8), none⟩,
    ⟨some 117, .conv .i64 (.tmp 116), none⟩,
    ⟨some 118, .call 88 [(.tmp 113), (.tmp 115), (.tmp 117), (.const (.int .i64 1))], none⟩])
    (.seq (.draw (.f ⟨some 119, .mov (.tmp 7), none⟩
    (.f ⟨some 120, .fad 1 (.tmp 5), none⟩
    (.f ⟨some 121, .ld (.tmp 120), none⟩
    (.f ⟨some 122, .mov (.tmp 0), none⟩
    (.f ⟨some 123, .nilc (.tmp 122), none⟩
    (.f ⟨some 124, .fad 0 (.tmp 123), none⟩
    (.f ⟨some 125, .fad 0 (.tmp 124), none⟩
    (.f ⟨some 126, .ld (.tmp 125), none⟩
    (.f ⟨some 127, .mov (.tmp 8), none⟩
    (.f ⟨some 128, .ixs 1 (.tmp 126) (.tmp 127), none⟩
    (.f ⟨some 129, .ld (.tmp 128), none⟩
    (.f ⟨some 130, .nilc (.tmp 119), none⟩
    (.f ⟨some 131, .fad 1 (.tmp 130), none⟩
    (.f ⟨some 132, .ixa 8 1 (.tmp 131) (.tmp 121), none⟩
    (.m ⟨none, .st (.tmp 132) (.tmp 129), none⟩
    .done))))))))))))))))
    (.draw (.f ⟨some 133, .mov (.tmp 0), none⟩
    (.f ⟨some 134, .fad 0 (.tmp 4), none⟩
    (.f ⟨some 135, .ld (.tmp 134), none⟩
    (.f ⟨some 136, .mov (.tmp 7), none⟩
    (.f ⟨some 137, .nilc (.tmp 136), none⟩
    (.f ⟨some 138, .fad 0 (.tmp 137), none⟩
    (.f ⟨some 139, .ld (.tmp 138), none⟩
    (.f ⟨some 140, .mov (.tmp 0), none⟩
    (.f ⟨some 141, .nilc (.tmp 140), none⟩
    (.f ⟨some 142, .fad 0 (.tmp 141), none⟩
    (.f ⟨some 143, .fad 0 (.tmp 142), none⟩
    (.f ⟨some 144, .ld (.tmp 143), none⟩
    (.f ⟨some 145, .mov (.tmp 8), none⟩
    (.f ⟨some 146, .ixs 1 (.tmp 144) (.tmp 145), none⟩
    (.f ⟨some 147, .ld (.tmp 146), none⟩
    (.m ⟨some 148, .call 62 [(.tmp 133), (.tmp 135), (.tmp 139), (.const (.int .i64 4)), (.tmp 147)], none⟩
    .done)))))))))))))))))))
    (.seq (.region [
    ⟨some 51, .mov (.tmp 0), none⟩,
    ⟨some 52, .fad 0 (.tmp 4), none⟩,
    ⟨some 53, .ld (.tmp 52), none⟩,
    ⟨some 54, .mov (.tmp 8), none⟩,
    ⟨some 55, .conv .i64 (.tmp 54), none⟩,
    ⟨some 56, .call 88 [(.tmp 51), (.tmp 53), (.tmp 55), (.const (.int .i64 2))], none⟩])
    (.seq (.draw (.f ⟨some 57, .mov (.tmp 0), none⟩
    (.f ⟨some 58, .nilc (.tmp 57), none⟩
    (.f ⟨some 59, .fad 0 (.tmp 58), none⟩
    (.f ⟨some 60, .fad 0 (.tmp 59), none⟩
    (.f ⟨some 61, .ld (.tmp 60), none⟩
    (.f ⟨some 62, .mov (.tmp 8), none⟩
    (.f ⟨some 63, .mov (.tmp 7), none⟩
    (.f ⟨some 64, .fad 2 (.tmp 5), none⟩
    (.f ⟨some 65, .ld (.tmp 64), none⟩
    (.f ⟨some 66, .nilc (.tmp 63), none⟩
    (.f ⟨some 67, .fad 1 (.tmp 66), none⟩
    (.f ⟨some 68, .ixa 8 1 (.tmp 67) (.tmp 65), none⟩
    (.f ⟨some 69, .ld (.tmp 68), none⟩
    (.f ⟨some 70, .ixs 1 (.tmp 61) (.tmp 62), none⟩
    (.m ⟨none, .st (.tmp 70) (.tmp 69), none⟩
    .done))))))))))))))))
    (.draw (.f ⟨some 71, .mov (.tmp 0), none⟩
    (.f ⟨some 72, .fad 0 (.tmp 4), none⟩
    (.f ⟨some 73, .ld (.tmp 72), none⟩
    (.f ⟨some 74, .mov (.tmp 7), none⟩
    (.f ⟨some 75, .nilc (.tmp 74), none⟩
    (.f ⟨some 76, .fad 0 (.tmp 75), none⟩
    (.f ⟨some 77, .ld (.tmp 76), none⟩
    (.f ⟨some 78, .mov (.tmp 0), none⟩
    (.f ⟨some 79, .nilc (.tmp 78), none⟩
    (.f ⟨some 80, .fad 0 (.tmp 79), none⟩
    (.f ⟨some 81, .fad 0 (.tmp 80), none⟩
    (.f ⟨some 82, .ld (.tmp 81), none⟩
    (.f ⟨some 83, .mov (.tmp 8), none⟩
    (.f ⟨some 84, .ixs 1 (.tmp 82) (.tmp 83), none⟩
    (.f ⟨some 85, .ld (.tmp 84), none⟩
    (.m ⟨some 86, .call 62 [(.tmp 71), (.tmp 73), (.tmp 77), (.const (.int .i64 5)), (.tmp 85)], none⟩
    .done))))))))))))))))))))))))
 (.seq (.draw (.f ⟨some 149, .mov (.tmp 0), none⟩
 (.f ⟨some 150, .fad 0 (.tmp 4), none⟩
 (.f ⟨some 151, .ld (.tmp 150), none⟩
 (.f ⟨some 152, .mov (.tmp 7), none⟩
 (.f ⟨some 153, .nilc (.tmp 152), none⟩
 (.f ⟨some 154, .fad 0 (.tmp 153), none⟩
 (.f ⟨some 155, .ld (.tmp 154), none⟩
 (.f ⟨some 156, .bin .add (.tmp 155) (.const (.int .i64 1)), none⟩
 (.m ⟨some 157, .call 63 [(.tmp 149), (.tmp 151), (.tmp 156)], none⟩
 .done))))))))))
 (.seq (.region [
 ⟨some 6, .mov (.const (.bool true)), none⟩])
 .ret))))))))),
 [.tmp 6]⟩
theorem lowc_sgl_Global_plain : lowFn Tryz.prog movers 65 = some ⟨irc_sgl_Global_plain.n, strip irc_sgl_Global_plain.body, irc_sgl_Global_plain.res⟩ := by kernel_rfl
end Go.Proofs.YtfompmhncnkcfaaGreatDoor
namespace Go.Proofs.YtfompmhncnkcfaaGreatDoor
open Go
set_option maxRecDepth 100000
def irc_sgl_Global_begin : IFn := ⟨101,
 (.seq (.region [
 ⟨some 3, .box 43 (.tmp 1), none⟩,
 ⟨some 4, .mov (.const (.bool false)), none⟩])
 (.seq (.draw (.f ⟨some 8, .mov (.tmp 0), none⟩
 (.f ⟨some 9, .nilc (.tmp 8), none⟩
 (.f ⟨some 10, .fad 16 (.tmp 9), none⟩
 (.f ⟨some 11, .ld (.tmp 10), none⟩
 (.f ⟨some 12, .fad 0 (.tmp 3), none⟩
 (.f ⟨some 13, .ld (.tmp 12), none⟩
 (.f ⟨some 14, .ixs 11 (.tmp 11) (.tmp 13), none⟩
 (.f ⟨some 5, .mov (.tmp 14), none⟩
 .done)))))))))
 (.seq (.region [
 ⟨some 15, .mov (.tmp 5), none⟩,
 ⟨some 16, .nilc (.tmp 15), none⟩,
 ⟨some 17, .fad 0 (.tmp 16), none⟩,
 ⟨some 18, .ld (.tmp 17), none⟩,
 ⟨some 6, .mov (.tmp 18), none⟩])
 (.cut (.seq (.region [
 ⟨some 19, .fad 1 (.tmp 3), none⟩,
 ⟨some 20, .ld (.tmp 19), none⟩])
 (.block 0
  (.seq (.region [
  ⟨some 22, .bin .eql (.tmp 20) (.const (.int .i64 0)), none⟩,
  ⟨some 21, .mov (.tmp 22), none⟩])
  (.cond (.tmp 21)
   (.cut (.draw (.f ⟨some 23, .mov (.tmp 0), none⟩
   (.f ⟨some 24, .nilc (.tmp 23), none⟩
   (.f ⟨some 25, .fad 0 (.tmp 24), none⟩
   (.f ⟨some 26, .ldN 2 (.tmp 25), none⟩
   (.f ⟨some 28, .mov (.tmp 0), none⟩
   (.f ⟨some 29, .nilc (.tmp 28), none⟩
   (.f ⟨some 30, .fad 2 (.tmp 29), none⟩
   (.f ⟨some 32, .mov (.tmp 5), none⟩
   (.f ⟨some 33, .nilc (.tmp 32), none⟩
   (.f ⟨some 35, .fad 2 (.tmp 3), none⟩
   (.both (.m ⟨some 27, .call 59 [(.tmp 26)], none⟩
    (.f ⟨some 31, .ldN 13 (.tmp 30), none⟩
    (.f ⟨some 34, .ldN 11 (.tmp 33), none⟩
    (.f ⟨some 36, .ld (.tmp 35), none⟩
    (.f ⟨some 37, .bld [(.slice none 0 0), (.map none), (.int .i64 0), (.int .i64 0), (.int .i64 0), (.int .i64 0), (.int .i64 0), (.int .i64 0), (.int .i64 0), (.int .i64 0), (.int .i64 0), (.int .i64 0), (.int .i64 0), (.int .i64 0), (.bool false), (.int .i64 0), (.int .u64 0), (.int .u64 0), (.int .u64 0), (.int .u64 0), (.int .u64 0), (.int .u64 0), (.int .u64 0), (.int .u64 0), (.int .i64 0), (.bool false), (.slice none 0 0), (.slice none 0 0), (.slice none 0 0), (.slice none 0 0), (.int .i64 0)] [(0, 2, (.tmp 27)), (2, 13, (.tmp 31)), (15, 11, (.tmp 34)), (26, 1, (.tmp 36))], none⟩
    (.m ⟨some 38, .box 119 (.tmp 37), none⟩
    (.f ⟨some 7, .mov (.tmp 38), none⟩
    .done)))))))
   (.both (.f ⟨some 31, .ldN 13 (.tmp 30), none⟩
     (.both (.m ⟨some 27, .call 59 [(.tmp 26)], none⟩
      (.f ⟨some 34, .ldN 11 (.tmp 33), none⟩
      (.f ⟨some 36, .ld (.tmp 35), none⟩
      (.f ⟨some 37, .bld [(.slice none 0 0), (.map none), (.int .i64 0), (.int .i64 0), (.int .i64 0), (.int .i64 0), (.int .i64 0), (.int .i64 0), (.int .i64 0), (.int .i64 0), (.int .i64 0), (.int .i64 0), (.int .i64 0), (.int .i64 0), (.bool false), (.int .i64 0), (.int .u64 0), (.int .u64 0), (.int .u64 0), (.int .u64 0), (.int .u64 0), (.int .u64 0), (.int .u64 0), (.int .u64 0), (.int .i64 0), (.bool false), (.slice none 0 0), (.slice none 0 0), (.slice none 0 0), (.slice none 0 0), (.int .i64 0)] [(0, 2, (.tmp 27)), (2, 13, (.tmp 31)), (15, 11, (.tmp 34)), (26, 1, (.tmp 36))], none⟩
      (.m ⟨some 38, .box 119 (.tmp 37), none⟩
      (.f ⟨some 7, .mov (.tmp 38), none⟩
      .done))))))
     (.both (.f ⟨some 34, .ldN 11 (.tmp 33), none⟩
       (.both (.m ⟨some 27, .call 59 [(.tmp 26)], none⟩
        (.f ⟨some 36, .ld (.tmp 35), none⟩
        (.f ⟨some 37, .bld [(.slice none 0 0), (.map none), (.int .i64 0), (.int .i64 0), (.int .i64 0), (.int .i64 0), (.int .i64 0), (.int .i64 0), (.int .i64 0), (.int .i64 0), (.int .i64 0), (.int .i64 0), (.int .i64 0), (.int .i64 0), (.bool false), (.int .i64 0), (.int .u64 0), (.int .u64 0), (.int .u64 0), (.int .u64 0), (.int .u64 0), (.int .u64 0), (.int .u64 0), (.int .u64 0), (.int .i64 0), (.bool false), (.slice none 0 0), (.slice none 0 0), (.slice none 0 0), (.slice none 0 0), (.int .i64 0)] [(0, 2, (.tmp 27)), (2, 13, (.tmp 31)), (15, 11, (.tmp 34)), (26, 1, (.tmp 36))], none⟩
        (.m ⟨some 38, .box 119 (.tmp 37), none⟩
        (.f ⟨some 7, .mov (.tmp 38), none⟩
        .done)))))
       (.f ⟨some 36, .ld (.tmp 35), none⟩
        (.m ⟨some 27, .call 59 [(.tmp 26)], none⟩
        (.f ⟨some 37, .bld [(.slice none 0 0), (.map none), (.int .i64 0), (.int .i64 0), (.int .i64 0), (.int .i64 0), (.int .i64 0), (.int .i64 0), (.int .i64 0), (.int .i64 0), (.int .i64 0), (.int .i64 0), (.int .i64 0), (.int .i64 0), (.bool false), (.int .i64 0), (.int .u64 0), (.int .u64 0), (.int .u64 0), (.int .u64 0), (.int .u64 0), (.int .u64 0), (.int .u64 0), (.int .u64 0), (.int .i64 0), (.bool false), (.slice none 0 0), (.slice none 0 0), (.slice none 0 0), (.slice none 0 0), (.int .i64 0)] [(0, 2, (.tmp 27)), (2, 13, (.tmp 31)), (15, 11, (.tmp 34)), (26, 1, (.tmp 36))], none⟩
        (.m ⟨some 38, .box 119 (.tmp 37), none⟩
        (.f ⟨some 7, .mov (.tmp 38), none⟩
        .done)))))))
      (.f ⟨some 36, .ld (.tmp 35), none⟩
       (.both (.m ⟨some 27, .call 59 [(.tmp 26)], none⟩
        (.f ⟨some 34, .ldN 11 (.tmp 33), none⟩
        (.f ⟨some 37, .bld [(.slice none 0 0), (.map none), (.int .i64 0), (.int .i64 0), (.int .i64 0), (.int .i64 0), (.int .i64 0), (.int .i64 0), (.int .i64 0), (.int .i64 0), (.int .i64 0), (.int .i64 0), (.int .i64 0), (.int .i64 0), (.bool false), (.int .i64 0), (.int .u64 0), (.int .u64 0), (.int .u64 0), (.int .u64 0), (.int .u64 0), (.int .u64 0), (.int .u64 0), (.int .u64 0), (.int .i64 0), (.bool false), (.slice none 0 0), (.slice none 0 0), (.slice none 0 0), (.slice none 0 0), (.int .i64 0)] [(0, 2, (.tmp 27)), (2, 13, (.tmp 31)), (15, 11, (.tmp 34)), (26, 1, (.tmp 36))], none⟩
        (.m ⟨some 38, .box 119 (.tmp 37), none⟩
        (.f ⟨some 7, .mov (.tmp 38), none⟩
        .done)))))
       (.f ⟨some 34, .ldN 11 (.tmp 33), none⟩
        (.m ⟨some 27, .call 59 [(.tmp 26)], none⟩
        (.f ⟨some 37, .bld [(.slice none 0 0), (.map none), (.int .i64 0), (.int .i64 0), (.int .i64 0), (.int .i64 0), (.int .i64 0), (.int .i64 0), (.int .i64 0), (.int .i64 0), (.int .i64 0), (.int .i64 0), (.int .i64 0), (.int .i64 0), (.bool false), (.int .i64 0), (.int .u64 0), (.int .u64 0), (.int .u64 0), (.int .u64 0), (.int .u64 0), (.int .u64 0), (.int .u64 0), (.int .u64 0), (.int .i64 0), (.bool false), (.slice none 0 0), (.slice none 0 0), (.slice none 0 0), (.slice none 0 0), (.int .i64 0)] [(0, 2, (.tmp 27)), (2, 13, (.tmp 31)), (15, 11, (.tmp 34)), (26, 1, (.tmp 36))], none⟩
        (.m ⟨some 38, .box 119 (.tmp 37), none⟩
        (.f ⟨some 7, .mov (.tmp 38), none⟩
        .done))))))))))
    (.both (.f ⟨some 34, .ldN 11 (.tmp 33), none⟩
      (.both (.m ⟨some 27, .call 59 [(.tmp 26)], none⟩
       (.f ⟨some 31, .ldN 13 (.tmp 30), none⟩
       (.f ⟨some 36, .ld (.tmp 35), none⟩
       (.f ⟨some 37, .bld [(.slice none 0 0), (.map none), (.int .i64 0), (.int .i64 0), (.int .i64 0), (.int .i64 0), (.int .i64 0), (.int .i64 0), (.int .i64 0), (.int .i64 0), (.int .i64 0), (.int .i64 0), (.int .i64 0), (.int .i64 0), (.bool false), (.int .i64 0), (.int .u64 0), (.int .u64 0), (.int .u64 0), (.int .u64 0), (.int .u64 0), (.int .u64 0), (.int .u64 0), (.int .u64 0), (.int .i64 0), (.bool false), (.slice none 0 0), (.slice none 0 0), (.slice none 0 0), (.slice none 0 0), (.int .i64 0)] [(0, 2, (.tmp 27)), (2, 13, (.tmp 31)), (15, 11, (.tmp 34)), (26, 1, (.tmp 36))], none⟩
       (.m ⟨some 38, .box 119 (.tmp 37), none⟩
       (.f ⟨some 7, .mov (.tmp 38), none⟩
       .done))))))
      (.both (.f ⟨some 31, .ldN 13 (.tmp 30), none⟩
        (.both (.m ⟨some 27, .call 59 [(.tmp 26)], none⟩
         (.f ⟨some 36, .ld (.tmp 35), none⟩
         (.f ⟨some 37, .bld [(.slice none 0 0), (.map none), (.int .i64 0), (.int .i64 0), (.int .i64 0), (.int .i64 0), (.int .i64 0), (.int .i64 0), (.int .i64 0), (.int .i64 0), (.int .i64 0), (.int .i64 0), (.int .i64 0), (.int .i64 0), (.bool false), (.int .i64 0), (.int .u64 0), (.int .u64 0), (.int .u64 0), (.int .u64 0), (.int .u64 0), (.int .u64 0), (.int .u64 0), (.int .u64 0), (.int .i64 0), (.bool false), (.slice none 0 0), (.slice none 0 0), (.slice none 0 0), (.slice none 0 0), (.int .i64 0)] [(0, 2, (.tmp 27)), (2, 13, (.tmp 31)), (15, 11, (.tmp 34)), (26, 1, (.tmp 36))], none⟩
         (.m ⟨some 38, .box 119 (.tmp 37), none⟩
         (.f ⟨some 7, .mov (.tmp 38), none⟩
         .done)))))
        (.f ⟨some 36, .ld (.tmp 35), none⟩
         (.m ⟨some 27, .call 59 [(.tmp 26)], none⟩
         (.f ⟨some 37, .bld [(.slice none 0 0), (.map none), (.int .i64 0), (.int .i64 0), (.int .i64 0), (.int .i64 0), (.int .i64 0), (.int .i64 0), (.int .i64 0), (.int .i64 0), (.int .i64 0), (.int .i64 0), (.int .i64 0), (.int .i64 0), (.bool false), (.int .i64 0), (.int .u64 0), (.int .u64 0), (.int .u64 0), (.int .u64 0), (.int .u64 0), (.int .u64 0), (.int .u64 0), (.int .u64 0), (.int .i64 0), (.bool false), (.slice none 0 0), (.slice none 0 0), (.slice none 0 0), (.slice none 0 0), (.int .i64 0)] [(0, 2, (.tmp 27)), (2, 13, (.tmp 31)), (15, 11, (.tmp 34)), (26, 1, (.tmp 36))], none⟩
         (.m ⟨some 38, .box 119 (.tmp 37), none⟩
         (.f ⟨some 7, .mov (.tmp 38), none⟩
         .done)))))))
       (.f ⟨some 36, .ld (.tmp 35), none⟩
        (.both (.m ⟨some 27, .call 59 [(.tmp 26)], none⟩
         (.f ⟨some 31, .ldN 13 (.tmp 30), none⟩
         (.f ⟨some 37, .bld [(.slice none 0 0), (.map none), (.int .i64 0), (.int .i64 0), (.int .i64 0), (.int .i64 0), (.int .i64 0), (.int .i64 0), (.int .i64 0), (.int .i64 0), (.int .i64 0), (.int .i64 0), (.int .i64 0), (.int .i64 0), (.bool false), (.int .i64 0), (.int .u64 0), (.int .u64 0), (.int .u64 0), (.int .u64 0), (.int .u64 0), (.int .u64 0), (.int .u64 0), (.int .u64 0), (.int .i64 0), (.bool false), (.slice none 0 0), (.slice none 0 0), (.slice none 0 0), (.slice none 0 0), (.int .i64 0)] [(0, 2, (.tmp 27)), (2, 13, (.tmp 31)), (15, 11, (.tmp 34)), (26, 1, (.tmp 36))], none⟩
         (.m ⟨some 38, .box 119 (.tmp 37), none⟩
         (.f ⟨some 7, .mov (.tmp 38), none⟩
         .done)))))
        (.f ⟨some 31, .ldN 13 (.tmp 30), none⟩
         (.m ⟨some 27, .call 59 [(.tmp 26)], none⟩
         (.f ⟨some 37, .bld [(.slice none 0 0), (.map none), (.int .i64 0), (.int .i64 0), (.int .i64 0), (.int .i64 0), (.int .i64 0), (.int .i64 0), (.int .i64 0), (.int .i64 0), (.int .i64 0), (.int .i64 0), (.int .i64 0), (.int .i64 0), (.bool false), (.int .i64 0), (.int .u64 0), (.int .u64 0), (.int .u64 0), (.int .u64 0), (.int .u64 0), (.int .u64 0), (.int .u64 0), (.int .u64 0), (.int .i64 0), (.bool false), (.slice none 0 0), (.slice none 0 0), (.slice none 0 0), (.slice none 0 0), (.int .i64 0)] [(0, 2, (.tmp 27)), (2, 13, (.tmp 31)), (15, 11, (.tmp 34)), (26, 1, (.tmp 36))], none⟩
         (.m ⟨some 38, .box 119 (.tmp 37), none⟩
         (.f ⟨some 7, .mov (.tmp 38), none⟩
         .done))))))))))
     (.f ⟨some 36, .ld (.tmp 35), none⟩
      (.both (.m ⟨some 27, .call 59 [(.tmp 26)], none⟩
       (.f ⟨some 31, .ldN 13 (.tmp 30), none⟩
       (.f ⟨some 34, .ldN 11 (.tmp 33), none⟩
       (.f ⟨some 37, .bld [(.slice none 0 0), (.map none), (.int .i64 0), (.int .i64 0), (.int .i64 0), (.int .i64 0), (.int .i64 0), (.int .i64 0), (.int .i64 0), (.int .i64 0), (.int .i64 0), (.int .i64 0), (.int .i64 0), (.int .i64 0), (.bool false), (.int .i64 0), (.int .u64 0), (.int .u64 0), (.int .u64 0), (.int .u64 0), (.int .u64 0), (.int .u64 0), (.int .u64 0), (.int .u64 0), (.int .i64 0), (.bool false), (.slice none 0 0), (.slice none 0 0), (.slice none 0 0), (.slice none 0 0), (.int .i64 0)] [(0, 2, (.tmp 27)), (2, 13, (.tmp 31)), (15, 11, (.tmp 34)), (26, 1, (.tmp 36))], none⟩
       (.m ⟨some 38, .box 119 (.tmp 37), none⟩
       (.f ⟨some 7, .mov (.tmp 38), none⟩
       .done))))))
      (.both (.f ⟨some 31, .ldN 13 (.tmp 30), none⟩
        (.both (.m ⟨some 27, .call 59 [(.tmp 26)], none⟩
         (.f ⟨some 34, .ldN 11 (.tmp 33), none⟩
         (.f ⟨some 37, .bld [(.slice none 0 0), (.map none), (.int .i64 0), (.int .i64 0), (.int .i64 0), (.int .i64 0), (.int .i64 0), (.int .i64 0), (.int .i64 0), (.int .i64 0), (.int .i64 0), (.int .i64 0), (.int .i64 0), (.int .i64 0), (.bool false), (.int .i64 0), (.int .u64 0), (.int .u64 0), (.int .u64 0), (.int .u64 0), (.int .u64 0), (.int .u64 0), (.int .u64 0), (.int .u64 0), (.int .i64 0), (.bool false), (.slice none 0 0), (.slice none 0 0), (.slice none 0 0), (.slice none 0 0), (.int .i64 0)] [(0, 2, (.tmp 27)), (2, 13, (.tmp 31)), (15, 11, (.tmp 34)), (26, 1, (.tmp 36))], none⟩
         (.m ⟨some 38, .box 119 (.tmp 37), none⟩
         (.f ⟨some 7, .mov (.tmp 38), none⟩
         .done)))))
        (.f ⟨some 34, .ldN 11 (.tmp 33), none⟩
         (.m ⟨some 27, .call 59 [(.tmp 26)], none⟩
         (.f ⟨some 37, .bld [(.slice none 0 0), (.map none), (.int .i64 0), (.int .i64 0), (.int .i64 0), (.int .i64 0), (.int .i64 0), (.int .i64 0), (.int .i64 0), (.int .i64 0), (.int .i64 0), (.int .i64 0), (.int .i64 0), (.int .i64 0), (.bool false), (.int .i64 0), (.int .u64 0), (.int .u64 0), (.int .u64 0), (.int .u64 0), (.int .u64 0), (.int .u64 0), (.int .u64 0), (.int .u64 0), (.int .i64 0), (.bool false), (.slice none 0 0), (.slice none 0 0), (.slice none 0 0), (.slice none 0 0), (.int .i64 0)] [(0, 2, (.tmp 27)), (2, 13, (.tmp 31)), (15, 11, (.tmp 34)), (26, 1, (.tmp 36))], none⟩
         (.m ⟨some 38, .box 119 (.tmp 37), none⟩
         (.f ⟨some 7, .mov (.tmp 38), none⟩
         .done)))))))
       (.f ⟨some 34, .ldN 11 (.tmp 33), none⟩
        (.both (.m ⟨some 27, .call 59 [(.tmp 26)], none⟩
         (.f ⟨some 31, .ldN 13 (.tmp 30), none⟩
         (.f ⟨some 37, .bld [(.slice none 0 0), (.map none), (.int .i64 0), (.int .i64 0), (.int .i64 0), (.int .i64 0), (.int .i64 0), (.int .i64 0), (.int .i64 0), (.int .i64 0), (.int .i64 0), (.int .i64 0), (.int .i64 0), (.int .i64 0), (.bool false), (.int .i64 0), (.int .u64 0), (.int .u64 0), (.int .u64 0), (.int .u64 0), (.int .u64 0), (.int .u64 0), (.int .u64 0), (.int .u64 0), (.int .i64 0), (.bool false), (.slice none 0 0), (.slice none 0 0), (.slice none 0 0), (.slice none 0 0), (.int .i64 0)] [(0, 2, (.tmp 27)), (2, 13, (.tmp 31)), (15, 11, (.tmp 34)), (26, 1, (.tmp 36))], none⟩
         (.m ⟨some 38, .box 119 (.tmp 37), none⟩
         (.f ⟨some 7, .mov (.tmp 38), none⟩
         .done)))))
        (.f ⟨some 31, .ldN 13 (.tmp 30), none⟩
         (.m ⟨some 27, .call 59 [(.tmp 26)], none⟩
         (.f ⟨some 37, .bld [(.slice none 0 0), (.map none), (.int .i64 0), (.int .i64 0), (.int .i64 0), (.int .i64 0), (.int .i64 0), (.int .i64 0), (.int .i64 0), (.int .i64 0), (.int .i64 0), (.int .i64 0), (.int .i64 0), (.int .i64 0), (.bool false), (.int .i64 0), (.int .u64 0), (.int .u64 0), (.int .u64 0), (.int .u64 0), (.int .u64 0), (.int .u64 0), (.int .u64 0), (.int .u64 0), (.int .i64 0), (.bool false), (.slice none 0 0), (.slice none 0 0), (.slice none 0 0), (.slice none 0 0), (.int .i64 0)] [(0, 2, (.tmp 27)), (2, 13, (.tmp 31)), (15, 11, (.tmp 34)), (26, 1, (.tmp 36))], none⟩
         (.m ⟨some 38, .box 119 (.tmp 37), none⟩
         (.f ⟨some 7, .mov (.tmp 38), none⟩
         .done))))))))))))))))))))))))
   (.seq (.seq (.draw (.f ⟨some 39, .mov (.tmp 7), none⟩
   (.f ⟨some 40, .mov (.tmp 0), none⟩
   (.f ⟨some 41, .nilc (.tmp 40), none⟩
   (.f ⟨some 42, .fad 15 (.tmp 41), none⟩
   (.f ⟨some 43, .ld (.tmp 42), none⟩
   (.f ⟨some 44, .fad 0 (.tmp 3), none⟩
   (.f ⟨some 45, .ld (.tmp 44), none⟩
   (.f ⟨some 46, .ixs 1 (.tmp 43) (.tmp 45), none⟩
   (.f ⟨some 47, .ld (.tmp 46), none⟩
   (.m ⟨some 48, .call 60 [(.tmp 39), (.tmp 47)], none⟩
   (.f ⟨some 49, .not (.tmp 48), none⟩
   .done))))))))))))
   (.cond (.tmp 49)
    (.seq (.region [
    ⟨some 4, .mov (.const (.bool false)), none⟩])
    .ret)
    .skip))
   (.seq (.region [
   ⟨some 50, .mov (.tmp 0), none⟩,
   ⟨some 51, .fad 0 (.tmp 3), none⟩,
   ⟨some 52, .ld (.tmp 51), none⟩,
   ⟨some 53, .mov (.tmp 7), none⟩,
   ⟨some 54, .call 61 [(.tmp 50), (.tmp 52), (.tmp 53)], none⟩])
   (.region [
   ⟨some 55, .mov (.tmp 5), none⟩,
   ⟨some 56, .mov (.tmp 7), none⟩,
   ⟨some 57, .nilc (.tmp 56), none⟩,
   ⟨some 58, .fad 30 (.tmp 57), none⟩,
   ⟨some 59, .ld (.tmp 58), none⟩,
   ⟨some 60, .nilc (.tmp 55), none⟩,
   ⟨some 61, .fad 9 (.tmp 60), none⟩,
   ⟨none, .st (.tmp 61) (.tmp 59), none⟩]))))
   (.seq (.seq (.region [
   ⟨some 63, .bin .eql (.tmp 20) (.const (.int .i64 3)), none⟩,
   ⟨some 62, .mov (.tmp 63), none⟩])
   (.cond (.tmp 62)
    .skip
    (.seq (.region [
    ⟨some 64, .bin .eql (.tmp 20) (.const (.int .i64 4)), none⟩,
    ⟨some 62, .mov (.tmp 64), none⟩])
    (.cond (.tmp 62)
     .skip
     (.seq (.region [
     ⟨some 65, .bin .eql (.tmp 20) (.const (.int .i64 5)), none⟩,
     ⟨some 62, .mov (.tmp 65), none⟩])
     (.cond (.tmp 62)
      .skip
      (.region [
      ⟨some 66, .bin .eql (.tmp 20) (.const (.int .i64 6)), none⟩,
      ⟨some 62, .mov (.tmp 66), none⟩])))))))
   (.cond (.tmp 62)
    (.seq (.seq (.region [
    ⟨some 67, .fad 2 (.tmp 3), none⟩,
    ⟨some 68, .ld (.tmp 67), none⟩,
    ⟨some 69, .len (.tmp 68), none⟩,
    ⟨some 70, .bin .gtr (.tmp 69) (.const (.int .i64 0)), none⟩])
    (.cond (.tmp 70)
     (.seq (.region [
     ⟨some 4, .mov (.const (.bool false)), none⟩])
     .ret)
     .skip))
    (.region [
    ⟨some 71, .mov (.tmp 5), none⟩,
    ⟨some 72, .fad 1 (.tmp 3), none⟩,
    ⟨some 73, .ld (.tmp 72), none⟩,
    ⟨some 74, .nilc (.tmp 71), none⟩,
    ⟨some 75, .fad 9 (.tmp 74), none⟩,
    ⟨none, .st (.tmp 75) (.tmp 73), none⟩]))
    (.seq (.region [
    ⟨some 4, .mov (.const (.bool false)), none⟩])
    .ret)))))))
 (.seq (.draw (.f ⟨some 76, .mov (.tmp 0), none⟩
 (.f ⟨some 77, .fad 0 (.tmp 3), none⟩
 (.f ⟨some 78, .ld (.tmp 77), none⟩
 (.f ⟨some 79, .mov (.tmp 6), none⟩
 (.f ⟨some 80, .mov (.tmp 5), none⟩
 (.f ⟨some 81, .nilc (.tmp 80), none⟩
 (.f ⟨some 82, .fad 9 (.tmp 81), none⟩
 (.f ⟨some 83, .ld (.tmp 82), none⟩
 (.f ⟨some 84, .conv .u64 (.tmp 83), none⟩
 (.m ⟨some 85, .call 62 [(.tmp 76), (.tmp 78), (.tmp 79), (.const (.int .i64 3)), (.tmp 84)], none⟩
 .done)))))))))))
 (.seq (.draw (.f ⟨some 86, .mov (.tmp 0), none⟩
 (.f ⟨some 87, .fad 0 (.tmp 3), none⟩
 (.f ⟨some 88, .ld (.tmp 87), none⟩
 (.f ⟨some 89, .mov (.tmp 0), none⟩
 (.f ⟨some 90, .nilc (.tmp 89), none⟩
 (.f ⟨some 91, .fad 15 (.tmp 90), none⟩
 (.f ⟨some 93, .fad 0 (.tmp 3), none⟩
 (.f ⟨some 97, .mov (.tmp 6), none⟩
 (.both (.f ⟨some 92, .ld (.tmp 91), none⟩
  (.f ⟨some 94, .ld (.tmp 93), none⟩
  (.f ⟨some 95, .ixs 1 (.tmp 92) (.tmp 94), none⟩
  (.f ⟨some 96, .ld (.tmp 95), none⟩
  (.f ⟨some 98, .call 64 [(.tmp 96), (.tmp 97)], none⟩
  (.f ⟨some 99, .bin .add (.tmp 98) (.const (.int .i64 1)), none⟩
  (.m ⟨some 100, .call 63 [(.tmp 86), (.tmp 88), (.tmp 99)], none⟩
  .done)))))))
 (.f ⟨some 94, .ld (.tmp 93), none⟩
  (.f ⟨some 92, .ld (.tmp 91), none⟩
  (.f ⟨some 95, .ixs 1 (.tmp 92) (.tmp 94), none⟩
  (.f ⟨some 96, .ld (.tmp 95), none⟩
  (.f ⟨some 98, .call 64 [(.tmp 96), (.tmp 97)], none⟩
  (.f ⟨some 99, .bin .add (.tmp 98) (.const (.int .i64 1)), none⟩
  (.m ⟨some 100, .call 63 [(.tmp 86), (.tmp 88), (.tmp 99)], none⟩
  .done)))))))))))))))))
 (.seq (.region [
 ⟨some 4, .mov (.const (.bool true)), none⟩])
 .ret))))))),
 [.tmp 4]⟩
theorem lowc_sgl_Global_begin : lowFn Tryz.prog movers 41 = some ⟨irc_sgl_Global_begin.n, strip irc_sgl_Global_begin.body, irc_sgl_Global_begin.res⟩ := by kernel_rfl
end Go.Proofs.YtfompmhncnkcfaaGreatDoor
namespace Go.Proofs.YtfompmhncnkcfaaGreatDoor
open Go
set_option maxRecDepth 100000
def irc_sgl_Global_Result : IFn := ⟨65,
 (.seq (.region [
 ⟨some 2, .new 52 (.agg #[.slice none 0 0, .slice none 0 0, .slice none 0 0, .slice none 0 0]), none⟩])
 (.seq (.seq (.region [
 ⟨some 8, .mov (.tmp 0), none⟩,
 ⟨some 9, .nilq false 1 (.tmp 8) (.const (.pointer none)), none⟩])
 (.cond (.tmp 9)
  (.seq (.region [
  ⟨some 10, .bld [(.slice none 0 0), (.slice none 0 0), (.slice none 0 0), (.slice none 0 0)] [], none⟩,
  ⟨none, .stN 4 (.tmp 2) (.tmp 10), none⟩])
  .ret)
  .skip))
 (.cut (.draw (.f ⟨some 11, .mov (.tmp 0), none⟩
 (.f ⟨some 12, .nilc (.tmp 11), none⟩
 (.f ⟨some 13, .fad 0 (.tmp 12), none⟩
 (.f ⟨some 14, .fad 0 (.tmp 13), none⟩
 (.f ⟨some 15, .ld (.tmp 14), none⟩
 (.f ⟨some 17, .mov (.tmp 0), none⟩
 (.f ⟨some 18, .nilc (.tmp 17), none⟩
 (.f ⟨some 19, .fad 16 (.tmp 18), none⟩
 (.both (.m ⟨some 16, .call 31 [(.tmp 15)], none⟩
  (.f ⟨some 20, .ld (.tmp 19), none⟩
  (.both (.m ⟨some 21, .call 45 [(.tmp 20)], none⟩
   (.f ⟨some 22, .bld [(.slice none 0 0), (.slice none 0 0), (.slice none 0 0), (.slice none 0 0)] [(0, 1, (.tmp 16)), (1, 1, (.tmp 21))], none⟩
   (.m ⟨some 3, .new 52 (.agg #[.slice none 0 0, .slice none 0 0, .slice none 0 0, .slice none 0 0]), none⟩
   (.m ⟨none, .stN 4 (.tmp 3) (.tmp 22), none⟩
   .done))))
  (.m ⟨some 3, .new 52 (.agg #[.slice none 0 0, .slice none 0 0, .slice none 0 0, .slice none 0 0]), none⟩
   (.m ⟨some 21, .call 45 [(.tmp 20)], none⟩
   (.f ⟨some 22, .bld [(.slice none 0 0), (.slice none 0 0), (.slice none 0 0), (.slice none 0 0)] [(0, 1, (.tmp 16)), (1, 1, (.tmp 21))], none⟩
   (.m ⟨none, .stN 4 (.tmp 3) (.tmp 22), none⟩
   .done)))))))
 (.both (.f ⟨some 20, .ld (.tmp 19), none⟩
   (.both (.m ⟨some 16, .call 31 [(.tmp 15)], none⟩
    (.both (.m ⟨some 21, .call 45 [(.tmp 20)], none⟩
     (.f ⟨some 22, .bld [(.slice none 0 0), (.slice none 0 0), (.slice none 0 0), (.slice none 0 0)] [(0, 1, (.tmp 16)), (1, 1, (.tmp 21))], none⟩
     (.m ⟨some 3, .new 52 (.agg #[.slice none 0 0, .slice none 0 0, .slice none 0 0, .slice none 0 0]), none⟩
     (.m ⟨none, .stN 4 (.tmp 3) (.tmp 22), none⟩
     .done))))
    (.m ⟨some 3, .new 52 (.agg #[.slice none 0 0, .slice none 0 0, .slice none 0 0, .slice none 0 0]), none⟩
     (.m ⟨some 21, .call 45 [(.tmp 20)], none⟩
     (.f ⟨some 22, .bld [(.slice none 0 0), (.slice none 0 0), (.slice none 0 0), (.slice none 0 0)] [(0, 1, (.tmp 16)), (1, 1, (.tmp 21))], none⟩
     (.m ⟨none, .stN 4 (.tmp 3) (.tmp 22), none⟩
     .done))))))
   (.m ⟨some 3, .new 52 (.agg #[.slice none 0 0, .slice none 0 0, .slice none 0 0, .slice none 0 0]), none⟩
    (.m ⟨some 16, .call 31 [(.tmp 15)], none⟩
    (.m ⟨some 21, .call 45 [(.tmp 20)], none⟩
    (.f ⟨some 22, .bld [(.slice none 0 0), (.slice none 0 0), (.slice none 0 0), (.slice none 0 0)] [(0, 1, (.tmp 16)), (1, 1, (.tmp 21))], none⟩
    (.m ⟨none, .stN 4 (.tmp 3) (.tmp 22), none⟩
    .done)))))))
  (.m ⟨some 3, .new 52 (.agg #[.slice none 0 0, .slice none 0 0, .slice none 0 0, .slice none 0 0]), none⟩
   (.both (.m ⟨some 16, .call 31 [(.tmp 15)], none⟩
    (.f ⟨some 20, .ld (.tmp 19), none⟩
    (.m ⟨some 21, .call 45 [(.tmp 20)], none⟩
    (.f ⟨some 22, .bld [(.slice none 0 0), (.slice none 0 0), (.slice none 0 0), (.slice none 0 0)] [(0, 1, (.tmp 16)), (1, 1, (.tmp 21))], none⟩
    (.m ⟨none, .stN 4 (.tmp 3) (.tmp 22), none⟩
    .done)))))
   (.f ⟨some 20, .ld (.tmp 19), none⟩
    (.m ⟨some 16, .call 31 [(.tmp 15)], none⟩
    (.m ⟨some 21, .call 45 [(.tmp 20)], none⟩
    (.f ⟨some 22, .bld [(.slice none 0 0), (.slice none 0 0), (.slice none 0 0), (.slice none 0 0)] [(0, 1, (.tmp 16)), (1, 1, (.tmp 21))], none⟩
    (.m ⟨none, .stN 4 (.tmp 3) (.tmp 22), none⟩
    .done))))))))))))))))))
 (.seq (.seq (.region [
 ⟨some 23, .mov (.tmp 0), none⟩,
 ⟨some 24, .nilc (.tmp 23), none⟩,
 ⟨some 25, .fad 17 (.tmp 24), none⟩,
 ⟨some 26, .ld (.tmp 25), none⟩,
 ⟨some 27, .len (.tmp 26), none⟩,
 ⟨some 28, .mov (.const (.int .i64 0)), none⟩])
 (.block 0
  (.loop 140737219919904
   (.seq (.region [
   ⟨some 29, .bin .lss (.tmp 28) (.tmp 27), none⟩])
   (.seq (.cond (.tmp 29)
    .skip
    (.exit 0))
   (.seq (.block 1
    (.seq (.region [
    ⟨some 30, .ixs 6 (.tmp 26) (.tmp 28), none⟩,
    ⟨some 31, .ldN 6 (.tmp 30), none⟩,
    ⟨some 5, .new 75 (.agg #[.int .i64 0, .int .i64 0, .int .i64 0, .int .i64 0, .slice none 0 0, .slice none 0 0]), none⟩,
    ⟨none, .stN 6 (.tmp 5) (.tmp 31), none⟩])
    (.seq (.draw (.f ⟨some 32, .fad 4 (.tmp 5), none⟩
    (.f ⟨some 33, .ld (.tmp 32), none⟩
    (.f ⟨some 35, .fad 5 (.tmp 5), none⟩
    (.both (.m ⟨some 34, .call 46 [(.tmp 33)], none⟩
     (.f ⟨some 36, .ld (.tmp 35), none⟩
     (.f ⟨some 38, .fad 4 (.tmp 5), none⟩
     (.m ⟨some 37, .call 46 [(.tmp 36)], none⟩
     (.m ⟨none, .st (.tmp 38) (.tmp 34), none⟩
     (.f ⟨some 39, .fad 5 (.tmp 5), none⟩
     (.m ⟨none, .st (.tmp 39) (.tmp 37), none⟩
     .done)))))))
    (.f ⟨some 36, .ld (.tmp 35), none⟩
     (.m ⟨some 34, .call 46 [(.tmp 33)], none⟩
     (.f ⟨some 38, .fad 4 (.tmp 5), none⟩
     (.m ⟨some 37, .call 46 [(.tmp 36)], none⟩
     (.m ⟨none, .st (.tmp 38) (.tmp 34), none⟩
     (.f ⟨some 39, .fad 5 (.tmp 5), none⟩
     (.m ⟨none, .st (.tmp 39) (.tmp 37), none⟩
     .done))))))))))))
    (.region [
    ⟨some 40, .fad 2 (.tmp 3), none⟩,
    ⟨some 41, .ld (.tmp 40), none⟩,
    ⟨some 42, .ldN 6 (.tmp 5), none⟩,
    ⟨some 43, .blds 75 1 [(.int .i64 0), (.int .i64 0), (.int .i64 0), (.int .i64 0), (.slice none 0 0), (.slice none 0 0)] [(0, 6, (.tmp 42))], none⟩,
    ⟨some 44, .app 75 6 80 [(.int .i64 0), (.int .i64 0), (.int .i64 0), (.int .i64 0), (.slice none 0 0), (.slice none 0 0)] (.tmp 41) (.tmp 43), none⟩,
    ⟨some 45, .fad 2 (.tmp 3), none⟩,
    ⟨none, .st (.tmp 45) (.tmp 44), none⟩]))))
   (.region [
   ⟨some 46, .bin .add (.tmp 28) (.const (.int .i64 1)), none⟩,
   ⟨some 28, .mov (.tmp 46), none⟩])))))))
 (.seq (.seq (.region [
 ⟨some 47, .mov (.tmp 0), none⟩,
 ⟨some 48, .nilc (.tmp 47), none⟩,
 ⟨some 49, .fad 18 (.tmp 48), none⟩,
 ⟨some 50, .ld (.tmp 49), none⟩,
 ⟨some 51, .len (.tmp 50), none⟩,
 ⟨some 52, .mov (.const (.int .i64 0)), none⟩])
 (.block 2
  (.loop 18442240474082181248
   (.seq (.region [
   ⟨some 53, .bin .lss (.tmp 52) (.tmp 51), none⟩])
   (.seq (.cond (.tmp 53)
    .skip
    (.exit 2))
   (.seq (.block 3
    (.seq (.region [
    ⟨some 54, .ixs 1 (.tmp 50) (.tmp 52), none⟩,
    ⟨some 55, .ld (.tmp 54), none⟩,
    ⟨some 7, .mov (.tmp 55), none⟩])
    (.draw (.f ⟨some 56, .fad 3 (.tmp 3), none⟩
    (.f ⟨some 58, .mov (.tmp 7), none⟩
    (.both (.f ⟨some 57, .ld (.tmp 56), none⟩
     (.m ⟨some 59, .call 47 [(.tmp 58)], none⟩
     (.m ⟨some 60, .blds 72 1 [(.slice none 0 0)] [(0, 1, (.tmp 59))], none⟩
     (.m ⟨some 61, .app 72 1 24 [(.slice none 0 0)] (.tmp 57) (.tmp 60), none⟩
     (.f ⟨some 62, .fad 3 (.tmp 3), none⟩
     (.m ⟨none, .st (.tmp 62) (.tmp 61), none⟩
     .done))))))
    (.m ⟨some 59, .call 47 [(.tmp 58)], none⟩
     (.f ⟨some 57, .ld (.tmp 56), none⟩
     (.m ⟨some 60, .blds 72 1 [(.slice none 0 0)] [(0, 1, (.tmp 59))], none⟩
     (.m ⟨some 61, .app 72 1 24 [(.slice none 0 0)] (.tmp 57) (.tmp 60), none⟩
     (.f ⟨some 62, .fad 3 (.tmp 3), none⟩
     (.m ⟨none, .st (.tmp 62) (.tmp 61), none⟩
     .done))))))))))))
   (.region [
   ⟨some 63, .bin .add (.tmp 52) (.const (.int .i64 1)), none⟩,
   ⟨some 52, .mov (.tmp 63), none⟩])))))))
 (.seq (.region [
 ⟨some 64, .ldN 4 (.tmp 3), none⟩,
 ⟨none, .stN 4 (.tmp 2) (.tmp 64), none⟩])
 .ret)))))),
 [.cellN 2 4]⟩
theorem lowc_sgl_Global_Result : lowFn Tryz.prog movers 17 = some ⟨irc_sgl_Global_Result.n, strip irc_sgl_Global_Result.body, irc_sgl_Global_Result.res⟩ := by kernel_rfl
end Go.Proofs.YtfompmhncnkcfaaGreatDoor
namespace Go.Proofs.YtfompmhncnkcfaaGreatDoor
open Go
set_option maxRecDepth 100000
def irc_sgl_New : IFn := ⟨71,
 (.seq (.region [
 ⟨some 1, .box 32 (.tmp 0), none⟩,
 ⟨some 2, .mov (.const (.pointer none)), none⟩,
 ⟨some 3, .mov (.const (.int .i64 0)), none⟩,
 ⟨some 4, .mov (.const (.int .i64 0)), none⟩,
 ⟨some 5, .mov (.const (.int .i64 0)), none⟩])
 (.seq (.region [
 ⟨some 8, .fad 15 (.tmp 1), none⟩,
 ⟨none, .st (.tmp 8) (.const (.slice none 0 0)), none⟩])
 (.seq (.seq (.region [
 ⟨some 10, .ldN 16 (.tmp 1), none⟩,
 ⟨some 11, .call 30 [(.tmp 10)], none⟩,
 ⟨some 9, .mov (.tmp 11), none⟩,
 ⟨some 12, .ext (.tmp 9) 0, none⟩,
 ⟨some 13, .ext (.tmp 9) 1, none⟩,
 ⟨some 14, .ext (.tmp 9) 2, none⟩,
 ⟨some 3, .mov (.tmp 12), none⟩,
 ⟨some 4, .mov (.tmp 13), none⟩,
 ⟨some 5, .mov (.tmp 14), none⟩])
 (.seq (.region [
 ⟨some 15, .mov (.tmp 5), none⟩,
 ⟨some 16, .bin .neq (.tmp 15) (.const (.int .i64 0)), none⟩])
 (.cond (.tmp 16)
  (.seq (.region [
  ⟨some 17, .mov (.tmp 3), none⟩,
  ⟨some 18, .mov (.tmp 4), none⟩,
  ⟨some 19, .mov (.tmp 5), none⟩,
  ⟨some 2, .mov (.const (.pointer none)), none⟩,
  ⟨some 3, .mov (.tmp 17), none⟩,
  ⟨some 4, .mov (.tmp 18), none⟩,
  ⟨some 5, .mov (.tmp 19), none⟩])
  .ret)
  .skip)))
 (.cut (.draw (.f ⟨some 20, .fad 13 (.tmp 1), none⟩
 (.f ⟨some 21, .ld (.tmp 20), none⟩
 (.f ⟨some 25, .fad 0 (.tmp 1), none⟩
 (.both (.m ⟨some 22, .call 31 [(.tmp 21)], none⟩
  (.f ⟨some 26, .ldN 13 (.tmp 25), none⟩
  (.m ⟨some 23, .mkm, none⟩
  (.f ⟨some 24, .bld [(.slice none 0 0), (.map none)] [(0, 1, (.tmp 22)), (1, 1, (.tmp 23))], none⟩
  (.f ⟨some 27, .bld [(.slice none 0 0), (.map none), (.int .i64 0), (.int .i64 0), (.int .i64 0), (.int .i64 0), (.int .i64 0), (.int .i64 0), (.int .i64 0), (.int .i64 0), (.int .i64 0), (.int .i64 0), (.int .i64 0), (.int .i64 0), (.bool false), (.slice none 0 0), (.slice none 0 0), (.slice none 0 0), (.slice none 0 0), (.int .i64 0)] [(0, 2, (.tmp 24)), (2, 13, (.tmp 26))], none⟩
  (.m ⟨some 28, .box 91 (.tmp 27), none⟩
  (.f ⟨some 2, .mov (.tmp 28), none⟩
  .done)))))))
 (.both (.m ⟨some 23, .mkm, none⟩
   (.both (.m ⟨some 22, .call 31 [(.tmp 21)], none⟩
    (.f ⟨some 24, .bld [(.slice none 0 0), (.map none)] [(0, 1, (.tmp 22)), (1, 1, (.tmp 23))], none⟩
    (.f ⟨some 26, .ldN 13 (.tmp 25), none⟩
    (.f ⟨some 27, .bld [(.slice none 0 0), (.map none), (.int .i64 0), (.int .i64 0), (.int .i64 0), (.int .i64 0), (.int .i64 0), (.int .i64 0), (.int .i64 0), (.int .i64 0), (.int .i64 0), (.int .i64 0), (.int .i64 0), (.int .i64 0), (.bool false), (.slice none 0 0), (.slice none 0 0), (.slice none 0 0), (.slice none 0 0), (.int .i64 0)] [(0, 2, (.tmp 24)), (2, 13, (.tmp 26))], none⟩
    (.m ⟨some 28, .box 91 (.tmp 27), none⟩
    (.f ⟨some 2, .mov (.tmp 28), none⟩
    .done))))))
   (.f ⟨some 26, .ldN 13 (.tmp 25), none⟩
    (.m ⟨some 22, .call 31 [(.tmp 21)], none⟩
    (.f ⟨some 24, .bld [(.slice none 0 0), (.map none)] [(0, 1, (.tmp 22)), (1, 1, (.tmp 23))], none⟩
    (.f ⟨some 27, .bld [(.slice none 0 0), (.map none), (.int .i64 0), (.int .i64 0), (.int .i64 0), (.int .i64 0), (.int .i64 0), (.int .i64 0), (.int .i64 0), (.int .i64 0), (.int .i64 0), (.int .i64 0), (.int .i64 0), (.int .i64 0), (.bool false), (.slice none 0 0), (.slice none 0 0), (.slice none 0 0), (.slice none 0 0), (.int .i64 0)] [(0, 2, (.tmp 24)), (2, 13, (.tmp 26))], none⟩
    (.m ⟨some 28, .box 91 (.tmp 27), none⟩
    (.f ⟨some 2, .mov (.tmp 28), none⟩
    .done))))))))
  (.f ⟨some 26, .ldN 13 (.tmp 25), none⟩
   (.both (.m ⟨some 22, .call 31 [(.tmp 21)], none⟩
    (.m ⟨some 23, .mkm, none⟩
    (.f ⟨some 24, .bld [(.slice none 0 0), (.map none)] [(0, 1, (.tmp 22)), (1, 1, (.tmp 23))], none⟩
    (.f ⟨some 27, .bld [(.slice none 0 0), (.map none), (.int .i64 0), (.int .i64 0), (.int .i64 0), (.int .i64 0), (.int .i64 0), (.int .i64 0), (.int .i64 0), (.int .i64 0), (.int .i64 0), (.int .i64 0), (.int .i64 0), (.int .i64 0), (.bool false), (.slice none 0 0), (.slice none 0 0), (.slice none 0 0), (.slice none 0 0), (.int .i64 0)] [(0, 2, (.tmp 24)), (2, 13, (.tmp 26))], none⟩
    (.m ⟨some 28, .box 91 (.tmp 27), none⟩
    (.f ⟨some 2, .mov (.tmp 28), none⟩
    .done))))))
   (.m ⟨some 23, .mkm, none⟩
    (.m ⟨some 22, .call 31 [(.tmp 21)], none⟩
    (.f ⟨some 24, .bld [(.slice none 0 0), (.map none)] [(0, 1, (.tmp 22)), (1, 1, (.tmp 23))], none⟩
    (.f ⟨some 27, .bld [(.slice none 0 0), (.map none), (.int .i64 0), (.int .i64 0), (.int .i64 0), (.int .i64 0), (.int .i64 0), (.int .i64 0), (.int .i64 0), (.int .i64 0), (.int .i64 0), (.int .i64 0), (.int .i64 0), (.int .i64 0), (.bool false), (.slice none 0 0), (.slice none 0 0), (.slice none 0 0), (.slice none 0 0), (.int .i64 0)] [(0, 2, (.tmp 24)), (2, 13, (.tmp 26))], none⟩
    (.m ⟨some 28, .box 91 (.tmp 27), none⟩
    (.f ⟨some 2, .mov (.tmp 28), none⟩
    .done))))))))))))))
 (.seq (.seq (.region [
 ⟨some 29, .fad 14 (.tmp 1), none⟩,
 ⟨some 30, .ld (.tmp 29), none⟩,
 ⟨some 31, .len (.tmp 30), none⟩,
 ⟨some 32, .mov (.const (.int .i64 0)), none⟩])
 (.block 0
  (.loop 2305843004918726784
   (.seq (.region [
   ⟨some 33, .bin .lss (.tmp 32) (.tmp 31), none⟩])
   (.seq (.cond (.tmp 33)
    .skip
    (.exit 0))
   (.seq (.block 1
    (.seq (.region [
    ⟨some 34, .ixs 1 (.tmp 30) (.tmp 32), none⟩,
    ⟨some 35, .ld (.tmp 34), none⟩,
    ⟨some 7, .mov (.tmp 35), none⟩])
    (.seq (.draw (.f ⟨some 36, .mov (.tmp 2), none⟩
    (.f ⟨some 37, .mov (.tmp 2), none⟩
    (.f ⟨some 38, .nilc (.tmp 37), none⟩
    (.f ⟨some 39, .fad 15 (.tmp 38), none⟩
    (.f ⟨some 41, .mov (.tmp 7), none⟩
    (.both (.f ⟨some 40, .ld (.tmp 39), none⟩
     (.m ⟨some 42, .call 32 [(.tmp 41)], none⟩
     (.m ⟨some 43, .blds 67 1 [(.slice none 0 0)] [(0, 1, (.tmp 42))], none⟩
     (.m ⟨some 44, .app 67 1 24 [(.slice none 0 0)] (.tmp 40) (.tmp 43), none⟩
     (.f ⟨some 45, .nilc (.tmp 36), none⟩
     (.f ⟨some 46, .fad 15 (.tmp 45), none⟩
     (.m ⟨none, .st (.tmp 46) (.tmp 44), none⟩
     .done)))))))
    (.m ⟨some 42, .call 32 [(.tmp 41)], none⟩
     (.f ⟨some 40, .ld (.tmp 39), none⟩
     (.m ⟨some 43, .blds 67 1 [(.slice none 0 0)] [(0, 1, (.tmp 42))], none⟩
     (.m ⟨some 44, .app 67 1 24 [(.slice none 0 0)] (.tmp 40) (.tmp 43), none⟩
     (.f ⟨some 45, .nilc (.tmp 36), none⟩
     (.f ⟨some 46, .fad 15 (.tmp 45), none⟩
     (.m ⟨none, .st (.tmp 46) (.tmp 44), none⟩
     .done))))))))))))))
    (.region [
    ⟨some 47, .mov (.tmp 2), none⟩,
    ⟨some 48, .mov (.tmp 2), none⟩,
    ⟨some 49, .nilc (.tmp 48), none⟩,
    ⟨some 50, .fad 16 (.tmp 49), none⟩,
    ⟨some 51, .ld (.tmp 50), none⟩,
    ⟨some 52, .mov (.tmp 7), none⟩,
    ⟨some 53, .len (.tmp 52), none⟩,
    ⟨some 54, .bin .eql (.tmp 53) (.const (.int .i64 0)), none⟩,
    ⟨some 55, .bld [(.int .i64 0), (.int .u64 0), (.int .u64 0), (.int .u64 0), (.int .u64 0), (.int .u64 0), (.int .u64 0), (.int .u64 0), (.int .u64 0), (.int .i64 0), (.bool false)] [(10, 1, (.tmp 54))], none⟩,
    ⟨some 56, .blds 66 1 [(.int .i64 0), (.int .u64 0), (.int .u64 0), (.int .u64 0), (.int .u64 0), (.int .u64 0), (.int .u64 0), (.int .u64 0), (.int .u64 0), (.int .i64 0), (.bool false)] [(0, 11, (.tmp 55))], none⟩,
    ⟨some 57, .app 66 11 88 [(.int .i64 0), (.int .u64 0), (.int .u64 0), (.int .u64 0), (.int .u64 0), (.int .u64 0), (.int .u64 0), (.int .u64 0), (.int .u64 0), (.int .i64 0), (.bool false)] (.tmp 51) (.tmp 56), none⟩,
    ⟨some 58, .nilc (.tmp 47), none⟩,
    ⟨some 59, .fad 16 (.tmp 58), none⟩,
    ⟨none, .st (.tmp 59) (.tmp 57), none⟩]))))
   (.region [
   ⟨some 60, .bin .add (.tmp 32) (.const (.int .i64 1)), none⟩,
   ⟨some 32, .mov (.tmp 60), none⟩])))))))
 (.seq (.region [
 ⟨some 61, .mov (.tmp 2), none⟩,
 ⟨some 62, .mov (.tmp 2), none⟩,
 ⟨some 63, .nilc (.tmp 62), none⟩,
 ⟨some 64, .fad 15 (.tmp 63), none⟩,
 ⟨some 65, .ld (.tmp 64), none⟩,
 ⟨some 66, .len (.tmp 65), none⟩,
 ⟨some 67, .mk 72 1 24 [(.slice none 0 0)] (.tmp 66) (.tmp 66), none⟩,
 ⟨some 68, .nilc (.tmp 61), none⟩,
 ⟨some 69, .fad 18 (.tmp 68), none⟩,
 ⟨none, .st (.tmp 69) (.tmp 67), none⟩])
 (.seq (.region [
 ⟨some 70, .mov (.tmp 2), none⟩,
 ⟨some 2, .mov (.tmp 70), none⟩,
 ⟨some 3, .mov (.const (.int .i64 0)), none⟩,
 ⟨some 4, .mov (.const (.int .i64 0)), none⟩,
 ⟨some 5, .mov (.const (.int .i64 0)), none⟩])
 .ret))))))),
 [.tmp 2, .tmp 3, .tmp 4, .tmp 5]⟩
theorem lowc_sgl_New : lowFn Tryz.prog movers 11 = some ⟨irc_sgl_New.n, strip irc_sgl_New.body, irc_sgl_New.res⟩ := by kernel_rfl
end Go.Proofs.YtfompmhncnkcfaaGreatDoor
