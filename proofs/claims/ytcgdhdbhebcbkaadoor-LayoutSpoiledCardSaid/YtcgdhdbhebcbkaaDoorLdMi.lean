/- LayoutSpoiled, lowered, with cuts (printed by tools/ircut.py). No condition. -/
import Derived.Test.YtcgdhdbhebcbkaaDoorLdL
namespace Go.Proofs.YtcgdhdbhebcbkaaDoor
open Go
set_option maxRecDepth 100000
def irc_law07_LayoutSpoiled : IFn := ⟨192,
 (.seq (.region [
 ⟨some 6, .box 51 (.tmp 0), none⟩,
 ⟨some 12, .mov (.const (.bool false)), none⟩])
 (.seq (.seq (.region [
 ⟨some 23, .mov (.tmp 1), none⟩,
 ⟨some 24, .len (.tmp 23), none⟩,
 ⟨some 25, .bin .gtr (.tmp 24) (.const (.int .i64 4)), none⟩,
 ⟨some 26, .mov (.tmp 25), none⟩,
 ⟨some 27, .mov (.tmp 2), some (26, false)⟩,
 ⟨some 28, .len (.tmp 27), some (26, false)⟩,
 ⟨some 29, .bin .gtr (.tmp 28) (.const (.int .i64 60)), some (26, false)⟩,
 ⟨some 30, .pick (.tmp 26) (.const (.bool true)) (.tmp 29), none⟩])
 (.cond (.tmp 30)
  (.seq (.region [
  ⟨some 31, .call 16 [], none⟩,
  ⟨some 12, .mov (.tmp 31), none⟩])
  .ret)
  .skip))
 (.seq (.seq (.region [
 ⟨some 13, .mov (.const (.int .i64 0)), none⟩])
 (.block 0
  (.loop 35180077133824
   (.seq (.seq (.region [
   ⟨some 32, .mov (.tmp 13), none⟩,
   ⟨some 33, .mov (.tmp 1), none⟩,
   ⟨some 34, .len (.tmp 33), none⟩,
   ⟨some 35, .bin .lss (.tmp 32) (.tmp 34), none⟩])
   (.cond (.tmp 35)
    .skip
    (.exit 0)))
   (.seq (.block 1
    (.seq (.region [
    ⟨some 38, .mov (.tmp 1), none⟩,
    ⟨some 39, .mov (.tmp 13), none⟩,
    ⟨some 40, .ixs 1 (.tmp 38) (.tmp 39), none⟩,
    ⟨some 41, .ld (.tmp 40), none⟩,
    ⟨some 42, .len (.tmp 41), none⟩,
    ⟨some 43, .bin .gtr (.tmp 42) (.const (.int .i64 30)), none⟩])
    (.cond (.tmp 43)
     (.seq (.region [
     ⟨some 44, .call 16 [], none⟩,
     ⟨some 12, .mov (.tmp 44), none⟩])
     .ret)
     .skip)))
   (.region [
   ⟨some 36, .mov (.tmp 13), none⟩,
   ⟨some 37, .bin .add (.tmp 36) (.const (.int .i64 1)), none⟩,
   ⟨some 13, .mov (.tmp 37), none⟩]))))))
 (.seq (.region [
 ⟨some 45, .ixa 5 1 (.tmp 6) (.const (.int .i64 0)), none⟩,
 ⟨some 46, .ld (.tmp 45), none⟩,
 ⟨some 47, .ixa 5 1 (.tmp 6) (.const (.int .i64 1)), none⟩,
 ⟨some 48, .ld (.tmp 47), none⟩,
 ⟨some 49, .ixa 5 1 (.tmp 6) (.const (.int .i64 2)), none⟩,
 ⟨some 50, .ld (.tmp 49), none⟩,
 ⟨some 51, .ixa 5 1 (.tmp 6) (.const (.int .i64 3)), none⟩,
 ⟨some 52, .ld (.tmp 51), none⟩,
 ⟨some 53, .ixa 5 1 (.tmp 6) (.const (.int .i64 4)), none⟩,
 ⟨some 54, .ld (.tmp 53), none⟩,
 ⟨some 55, .call 19 [(.tmp 46), (.tmp 48), (.tmp 50), (.tmp 52), (.tmp 54)], none⟩,
 ⟨some 14, .new 43 (.agg #[.int .i64 0, .int .i64 0, .int .i64 0, .int .i64 0, .int .i64 0, .int .i64 0, .int .i64 0, .int .i64 0, .int .i64 0, .int .i64 0, .int .i64 0, .int .i64 0, .bool false]), none⟩,
 ⟨none, .stN 13 (.tmp 14) (.tmp 55), none⟩])
 (.cut (.draw (.f ⟨some 56, .ldN 13 (.tmp 14), none⟩
 (.f ⟨some 57, .mov (.tmp 3), none⟩
 (.f ⟨some 58, .call 13 [(.tmp 57), (.const (.int .i64 3))], none⟩
 (.f ⟨some 59, .bin .add (.const (.int .i64 1)) (.tmp 58), none⟩
 (.f ⟨some 60, .mov (.tmp 1), none⟩
 (.f ⟨some 61, .mov (.tmp 2), none⟩
 (.both (.m ⟨some 62, .call 20 [(.tmp 56), (.tmp 59), (.tmp 60), (.const (.int .i64 20)), (.const (.bool true)), (.const (.bool true)), (.tmp 61)], none⟩
  (.m ⟨some 15, .new 47 (.agg #[.int .i64 0, .int .i64 0, .int .i64 0, .int .i64 0, .int .i64 0, .int .i64 0, .int .i64 0, .int .i64 0, .int .i64 0, .int .i64 0, .int .i64 0, .int .i64 0, .bool false, .slice none 0 0, .slice none 0 0, .slice none 0 0]), none⟩
  (.m ⟨none, .stN 16 (.tmp 15) (.tmp 62), none⟩
  .done)))
 (.m ⟨some 15, .new 47 (.agg #[.int .i64 0, .int .i64 0, .int .i64 0, .int .i64 0, .int .i64 0, .int .i64 0, .int .i64 0, .int .i64 0, .int .i64 0, .int .i64 0, .int .i64 0, .int .i64 0, .bool false, .slice none 0 0, .slice none 0 0, .slice none 0 0]), none⟩
  (.m ⟨some 62, .call 20 [(.tmp 56), (.tmp 59), (.tmp 60), (.const (.int .i64 20)), (.const (.bool true)), (.const (.bool true)), (.tmp 61)], none⟩
  (.m ⟨none, .stN 16 (.tmp 15) (.tmp 62), none⟩
  .done)))))))))))
 (.seq (.region [
 ⟨some 64, .ldN 16 (.tmp 15), none⟩,
 ⟨some 65, .call 17 [(.tmp 64)], none⟩,
 ⟨some 63, .mov (.tmp 65), none⟩,
 ⟨some 66, .ext (.tmp 63) 0, none⟩,
 ⟨some 67, .ext (.tmp 63) 1, none⟩,
 ⟨some 68, .ext (.tmp 63) 2, none⟩,
 ⟨some 16, .mov (.tmp 66), none⟩,
 ⟨some 17, .mov (.tmp 67), none⟩,
 ⟨some 18, .mov (.tmp 68), none⟩])
 (.seq (.seq (.region [
 ⟨some 69, .mov (.tmp 18), none⟩,
 ⟨some 70, .bin .neq (.tmp 69) (.const (.int .i64 0)), none⟩,
 ⟨some 71, .mov (.tmp 70), none⟩,
 ⟨some 72, .mov (.tmp 16), some (71, false)⟩,
 ⟨some 73, .bin .neq (.tmp 72) (.const (.int .i64 0)), some (71, false)⟩,
 ⟨some 74, .pick (.tmp 71) (.const (.bool true)) (.tmp 73), none⟩,
 ⟨some 75, .mov (.tmp 74), none⟩,
 ⟨some 76, .mov (.tmp 17), some (75, false)⟩,
 ⟨some 77, .bin .neq (.tmp 76) (.const (.int .i64 0)), some (75, false)⟩,
 ⟨some 78, .pick (.tmp 75) (.const (.bool true)) (.tmp 77), none⟩])
 (.cond (.tmp 78)
  (.seq (.region [
  ⟨some 12, .mov (.const (.bool false)), none⟩])
  .ret)
  .skip))
 (.cut (.seq (.region [
 ⟨some 79, .mov (.tmp 3), none⟩,
 ⟨some 80, .call 13 [(.tmp 79), (.const (.int .i64 7))], none⟩])
 (.block 2
  (.seq (.region [
  ⟨some 94, .bin .eql (.tmp 80) (.const (.int .i64 0)), none⟩,
  ⟨some 93, .mov (.tmp 94), none⟩])
  (.cond (.tmp 93)
   (.region [
   ⟨some 95, .fad 0 (.tmp 15), none⟩,
   ⟨some 96, .ldN 13 (.tmp 95), none⟩,
   ⟨some 97, .mov (.tmp 4), none⟩,
   ⟨some 98, .mov (.tmp 5), none⟩,
   ⟨some 99, .call 21 [(.tmp 96), (.tmp 97), (.tmp 98)], none⟩,
   ⟨some 100, .fad 0 (.tmp 15), none⟩,
   ⟨none, .stN 13 (.tmp 100) (.tmp 99), none⟩])
   (.seq (.region [
   ⟨some 102, .bin .eql (.tmp 80) (.const (.int .i64 1)), none⟩,
   ⟨some 101, .mov (.tmp 102), none⟩])
   (.cond (.tmp 101)
    (.region [
    ⟨some 103, .fad 13 (.tmp 15), none⟩,
    ⟨some 104, .ld (.tmp 103), none⟩,
    ⟨some 105, .blds 56 1 [(.int .u64 0)] [(0, 1, (.const (.int .u64 0)))], none⟩,
    ⟨some 106, .app 56 1 8 [(.int .u64 0)] (.tmp 104) (.tmp 105), none⟩,
    ⟨some 107, .fad 13 (.tmp 15), none⟩,
    ⟨none, .st (.tmp 107) (.tmp 106), none⟩])
    (.seq (.region [
    ⟨some 109, .bin .eql (.tmp 80) (.const (.int .i64 2)), none⟩,
    ⟨some 108, .mov (.tmp 109), none⟩])
    (.cond (.tmp 108)
     (.region [
     ⟨some 110, .fad 14 (.tmp 15), none⟩,
     ⟨none, .st (.tmp 110) (.const (.slice none 0 0)), none⟩])
     (.seq (.region [
     ⟨some 112, .bin .eql (.tmp 80) (.const (.int .i64 3)), none⟩,
     ⟨some 111, .mov (.tmp 112), none⟩])
     (.cond (.tmp 111)
      (.seq (.region [
      ⟨some 113, .mov (.tmp 4), none⟩,
      ⟨some 114, .fad 14 (.tmp 15), none⟩,
      ⟨some 115, .ld (.tmp 114), none⟩,
      ⟨some 116, .len (.tmp 115), none⟩,
      ⟨some 117, .call 13 [(.tmp 113), (.tmp 116)], none⟩,
      ⟨some 19, .mov (.tmp 117), none⟩])
      (.seq (.region [
      ⟨some 118, .fad 14 (.tmp 15), none⟩,
      ⟨some 119, .ld (.tmp 118), none⟩,
      ⟨some 120, .mov (.tmp 19), none⟩,
      ⟨some 121, .ixs 1 (.tmp 119) (.tmp 120), none⟩,
      ⟨some 122, .ld (.tmp 121), none⟩,
      ⟨some 123, .len (.tmp 122), none⟩,
      ⟨some 124, .bin .gtr (.tmp 123) (.const (.int .i64 0)), none⟩])
      (.cond (.tmp 124)
       (.draw (.f ⟨some 125, .fad 14 (.tmp 15), none⟩
       (.f ⟨some 126, .ld (.tmp 125), none⟩
       (.f ⟨some 127, .mov (.tmp 19), none⟩
       (.f ⟨some 128, .ixs 1 (.tmp 126) (.tmp 127), none⟩
       (.f ⟨some 129, .ld (.tmp 128), none⟩
       (.f ⟨some 130, .mov (.tmp 5), none⟩
       (.f ⟨some 131, .fad 14 (.tmp 15), none⟩
       (.f ⟨some 132, .ld (.tmp 131), none⟩
       (.f ⟨some 133, .mov (.tmp 19), none⟩
       (.f ⟨some 134, .ixs 1 (.tmp 132) (.tmp 133), none⟩
       (.f ⟨some 135, .ld (.tmp 134), none⟩
       (.f ⟨some 136, .len (.tmp 135), none⟩
       (.f ⟨some 137, .call 13 [(.tmp 130), (.tmp 136)], none⟩
       (.f ⟨some 138, .mov (.tmp 4), none⟩
       (.f ⟨some 139, .call 13 [(.tmp 138), (.const (.int .i64 20))], none⟩
       (.f ⟨some 140, .bld [(.int .i64 0), (.int .i64 0), (.int .i64 0), (.int .i64 0), (.int .i64 0)] [(0, 1, (.tmp 139))], none⟩
       (.f ⟨some 141, .ixs 5 (.tmp 129) (.tmp 137), none⟩
       (.m ⟨none, .stN 5 (.tmp 141) (.tmp 140), none⟩
       .done)))))))))))))))))))
       .skip)))
      (.seq (.region [
      ⟨some 143, .bin .eql (.tmp 80) (.const (.int .i64 4)), none⟩,
      ⟨some 142, .mov (.tmp 143), none⟩])
      (.cond (.tmp 142)
       (.seq (.region [
       ⟨some 144, .fad 15 (.tmp 15), none⟩,
       ⟨some 145, .ld (.tmp 144), none⟩,
       ⟨some 146, .len (.tmp 145), none⟩,
       ⟨some 147, .bin .gtr (.tmp 146) (.const (.int .i64 0)), none⟩])
       (.cond (.tmp 147)
        (.draw (.f ⟨some 148, .fad 15 (.tmp 15), none⟩
        (.f ⟨some 149, .ld (.tmp 148), none⟩
        (.f ⟨some 150, .mov (.tmp 4), none⟩
        (.f ⟨some 151, .fad 15 (.tmp 15), none⟩
        (.f ⟨some 152, .ld (.tmp 151), none⟩
        (.f ⟨some 153, .len (.tmp 152), none⟩
        (.f ⟨some 154, .call 13 [(.tmp 150), (.tmp 153)], none⟩
        (.f ⟨some 155, .mov (.tmp 5), none⟩
        (.f ⟨some 156, .ixs 1 (.tmp 149) (.tmp 154), none⟩
        (.m ⟨none, .st (.tmp 156) (.tmp 155), none⟩
        .done)))))))))))
        .skip))
       (.seq (.region [
       ⟨some 158, .bin .eql (.tmp 80) (.const (.int .i64 5)), none⟩,
       ⟨some 157, .mov (.tmp 158), none⟩])
       (.cond (.tmp 157)
        (.region [
        ⟨some 159, .mov (.tmp 5), none⟩,
        ⟨some 160, .call 13 [(.tmp 159), (.const (.int .i64 2))], none⟩,
        ⟨some 161, .bin .add (.const (.int .i64 65536)) (.tmp 160), none⟩,
        ⟨some 162, .mk 3 1 8 [(.int .i64 0)] (.tmp 161) (.tmp 161), none⟩,
        ⟨some 163, .fad 15 (.tmp 15), none⟩,
        ⟨none, .st (.tmp 163) (.tmp 162), none⟩])
        (.block 3
         (.loop 9901102462643812940843581440
          (.seq (.seq (.draw (.f ⟨some 81, .fad 14 (.tmp 15), none⟩
          (.f ⟨some 82, .ld (.tmp 81), none⟩
          (.f ⟨some 83, .len (.tmp 82), none⟩
          (.f ⟨some 84, .mov (.tmp 5), none⟩
          (.f ⟨some 85, .call 13 [(.tmp 84), (.const (.int .i64 2))], none⟩
          (.f ⟨some 86, .bin .add (.const (.int .i64 16)) (.tmp 85), none⟩
          (.f ⟨some 87, .bin .lss (.tmp 83) (.tmp 86), none⟩
          .done))))))))
          (.cond (.tmp 87)
           .skip
           (.exit 3)))
          (.block 4
           (.region [
           ⟨some 88, .fad 14 (.tmp 15), none⟩,
           ⟨some 89, .ld (.tmp 88), none⟩,
           ⟨some 90, .blds 24 1 [(.slice none 0 0)] [(0, 1, (.const (.slice none 0 0)))], none⟩,
           ⟨some 91, .app 24 1 24 [(.slice none 0 0)] (.tmp 89) (.tmp 90), none⟩,
           ⟨some 92, .fad 14 (.tmp 15), none⟩,
           ⟨none, .st (.tmp 92) (.tmp 91), none⟩])))))))))))))))))))
 (.seq (.region [
 ⟨some 165, .ldN 16 (.tmp 15), none⟩,
 ⟨some 166, .call 17 [(.tmp 165)], none⟩,
 ⟨some 164, .mov (.tmp 166), none⟩,
 ⟨some 167, .ext (.tmp 164) 0, none⟩,
 ⟨some 168, .ext (.tmp 164) 1, none⟩,
 ⟨some 169, .ext (.tmp 164) 2, none⟩,
 ⟨some 16, .mov (.tmp 167), none⟩,
 ⟨some 17, .mov (.tmp 168), none⟩,
 ⟨some 18, .mov (.tmp 169), none⟩])
 (.seq (.region [
 ⟨some 171, .ldN 16 (.tmp 15), none⟩,
 ⟨some 172, .call 18 [(.tmp 171)], none⟩,
 ⟨some 170, .mov (.tmp 172), none⟩,
 ⟨some 173, .ext (.tmp 170) 0, none⟩,
 ⟨some 174, .ext (.tmp 170) 1, none⟩,
 ⟨some 175, .ext (.tmp 170) 2, none⟩,
 ⟨some 20, .mov (.tmp 173), none⟩,
 ⟨some 21, .mov (.tmp 174), none⟩,
 ⟨some 22, .mov (.tmp 175), none⟩])
 (.seq (.region [
 ⟨some 176, .mov (.tmp 16), none⟩,
 ⟨some 177, .mov (.tmp 20), none⟩,
 ⟨some 178, .bin .eql (.tmp 176) (.tmp 177), none⟩,
 ⟨some 179, .mov (.tmp 178), none⟩,
 ⟨some 180, .mov (.tmp 17), some (179, true)⟩,
 ⟨some 181, .mov (.tmp 21), some (179, true)⟩,
 ⟨some 182, .bin .eql (.tmp 180) (.tmp 181), some (179, true)⟩,
 ⟨some 183, .pick (.tmp 179) (.tmp 182) (.const (.bool false)), none⟩,
 ⟨some 184, .mov (.tmp 183), none⟩,
 ⟨some 185, .mov (.tmp 18), some (184, true)⟩,
 ⟨some 186, .mov (.tmp 22), some (184, true)⟩,
 ⟨some 187, .bin .eql (.tmp 185) (.tmp 186), some (184, true)⟩,
 ⟨some 188, .pick (.tmp 184) (.tmp 187) (.const (.bool false)), none⟩,
 ⟨some 189, .mov (.tmp 188), none⟩,
 ⟨some 190, .call 16 [], some (189, true)⟩,
 ⟨some 191, .pick (.tmp 189) (.tmp 190) (.const (.bool false)), none⟩,
 ⟨some 12, .mov (.tmp 191), none⟩])
 .ret))))))))))),
 [.tmp 12]⟩
theorem lowc_law07_LayoutSpoiled : lowFn Tryd.prog movers 7 = some ⟨irc_law07_LayoutSpoiled.n, strip irc_law07_LayoutSpoiled.body, irc_law07_LayoutSpoiled.res⟩ := by kernel_rfl
end Go.Proofs.YtcgdhdbhebcbkaaDoor
