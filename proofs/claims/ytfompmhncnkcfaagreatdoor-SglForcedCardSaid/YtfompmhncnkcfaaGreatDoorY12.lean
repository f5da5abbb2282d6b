/- What the laws share, part 12. No condition. -/
import Derived.Test.YtfompmhncnkcfaaGreatDoorY11
namespace Go.Proofs.YtfompmhncnkcfaaGreatDoor
open Go
set_option maxRecDepth 100000
def ir_law22_SglForced : IFn := ⟨227,
 (.seq (.region [
 ⟨some 3, .box 22 (.tmp 0), none⟩,
 ⟨some 6, .mov (.const (.bool false)), none⟩])
 (.seq (.region [
 ⟨some 20, .ldN 5 (.tmp 3), none⟩,
 ⟨some 21, .mov (.tmp 1), none⟩,
 ⟨some 22, .call 9 [(.tmp 20), (.tmp 21), (.const (.bool false))], none⟩,
 ⟨some 19, .mov (.tmp 22), none⟩,
 ⟨some 23, .ext (.tmp 19) 0, none⟩,
 ⟨some 24, .ext (.tmp 19) 1, none⟩,
 ⟨some 7, .new 32 (.agg #[.int .i64 0, .int .i64 0, .int .i64 0, .int .i64 0, .int .i64 0, .int .i64 0, .int .i64 0, .int .i64 0, .int .i64 0, .int .i64 0, .int .i64 0, .int .i64 0, .bool false, .slice none 0 0, .slice none 0 0, .slice none 0 0]), none⟩,
 ⟨none, .stN 16 (.tmp 7) (.tmp 23), none⟩,
 ⟨some 8, .mov (.tmp 24), none⟩])
 (.seq (.seq (.region [
 ⟨some 25, .mov (.tmp 8), none⟩,
 ⟨some 26, .not (.tmp 25), none⟩])
 (.cond (.tmp 26)
  (.seq (.region [
  ⟨some 27, .call 10 [], none⟩,
  ⟨some 6, .mov (.tmp 27), none⟩])
  .ret)
  .skip))
 (.seq (.region [
 ⟨some 29, .ldN 16 (.tmp 7), none⟩,
 ⟨some 30, .call 11 [(.tmp 29)], none⟩,
 ⟨some 28, .mov (.tmp 30), none⟩,
 ⟨some 31, .ext (.tmp 28) 0, none⟩,
 ⟨some 32, .ext (.tmp 28) 1, none⟩,
 ⟨some 33, .ext (.tmp 28) 2, none⟩,
 ⟨some 34, .ext (.tmp 28) 3, none⟩,
 ⟨some 9, .mov (.tmp 31), none⟩,
 ⟨some 10, .mov (.tmp 32), none⟩,
 ⟨some 11, .mov (.tmp 33), none⟩,
 ⟨some 12, .mov (.tmp 34), none⟩])
 (.seq (.seq (.region [
 ⟨some 35, .mov (.tmp 12), none⟩,
 ⟨some 36, .bin .neq (.tmp 35) (.const (.int .i64 0)), none⟩,
 ⟨some 37, .mov (.tmp 36), none⟩,
 ⟨some 38, .mov (.tmp 9), some (37, false)⟩,
 ⟨some 39, .nilq false 1 (.tmp 38) (.const (.pointer none)), some (37, false)⟩,
 ⟨some 40, .pick (.tmp 37) (.const (.bool true)) (.tmp 39), none⟩])
 (.cond (.tmp 40)
  (.seq (.region [
  ⟨some 6, .mov (.const (.bool false)), none⟩])
  .ret)
  .skip))
 (.seq (.region [
 ⟨some 41, .blds 3 4 [(.int .i64 0), (.int .i64 0), (.int .i64 0), (.int .i64 0)] [(0, 1, (.const (.int .i64 3))), (1, 1, (.const (.int .i64 4))), (2, 1, (.const (.int .i64 5))), (3, 1, (.const (.int .i64 6)))], none⟩,
 ⟨some 42, .mov (.tmp 2), none⟩,
 ⟨some 43, .call 23 [(.tmp 42), (.const (.int .i64 4))], none⟩,
 ⟨some 44, .ixs 1 (.tmp 41) (.tmp 43), none⟩,
 ⟨some 45, .ld (.tmp 44), none⟩,
 ⟨some 13, .mov (.tmp 45), none⟩])
 (.seq (.seq (.region [
 ⟨some 14, .mov (.const (.int .i64 0)), none⟩])
 (.block 0
  (.loop 107839786668602559178668060348078522694548577690162289854045697327168
   (.seq (.seq (.region [
   ⟨some 46, .mov (.tmp 14), none⟩,
   ⟨some 47, .bin .lss (.tmp 46) (.const (.int .i64 40)), none⟩])
   (.cond (.tmp 47)
    .skip
    (.exit 0)))
   (.seq (.block 1
    (.seq (.region [
    ⟨some 50, .mov (.tmp 14), none⟩,
    ⟨some 51, .fad 14 (.tmp 7), none⟩,
    ⟨some 52, .ld (.tmp 51), none⟩,
    ⟨some 53, .len (.tmp 52), none⟩,
    ⟨some 54, .bin .rem (.tmp 50) (.tmp 53), none⟩,
    ⟨some 15, .mov (.tmp 54), none⟩])
    (.seq (.region [
    ⟨some 55, .mov (.tmp 9), none⟩,
    ⟨some 56, .call 17 [(.tmp 55)], none⟩,
    ⟨some 16, .new 52 (.agg #[.slice none 0 0, .slice none 0 0, .slice none 0 0, .slice none 0 0]), none⟩,
    ⟨none, .stN 4 (.tmp 16) (.tmp 56), none⟩])
    (.seq (.seq (.draw (.f ⟨some 57, .fad 1 (.tmp 16), none⟩
    (.f ⟨some 58, .ld (.tmp 57), none⟩
    (.f ⟨some 59, .len (.tmp 58), none⟩
    (.f ⟨some 60, .fad 14 (.tmp 7), none⟩
    (.f ⟨some 61, .ld (.tmp 60), none⟩
    (.f ⟨some 62, .len (.tmp 61), none⟩
    (.f ⟨some 63, .bin .neq (.tmp 59) (.tmp 62), none⟩
    (.f ⟨some 64, .mov (.tmp 63), none⟩
    (.f ⟨some 65, .fad 1 (.tmp 16), some (64, false)⟩
    (.f ⟨some 66, .ld (.tmp 65), some (64, false)⟩
    (.f ⟨some 67, .mov (.tmp 15), some (64, false)⟩
    (.f ⟨some 68, .ixs 11 (.tmp 66) (.tmp 67), some (64, false)⟩
    (.f ⟨some 69, .fad 0 (.tmp 68), some (64, false)⟩
    (.f ⟨some 70, .ld (.tmp 69), some (64, false)⟩
    (.f ⟨some 71, .bin .lss (.tmp 70) (.const (.int .i64 0)), some (64, false)⟩
    (.f ⟨some 72, .pick (.tmp 64) (.const (.bool true)) (.tmp 71), none⟩
    (.f ⟨some 73, .mov (.tmp 72), none⟩
    (.f ⟨some 74, .fad 1 (.tmp 16), some (73, false)⟩
    (.f ⟨some 75, .ld (.tmp 74), some (73, false)⟩
    (.f ⟨some 76, .mov (.tmp 15), some (73, false)⟩
    (.f ⟨some 77, .ixs 11 (.tmp 75) (.tmp 76), some (73, false)⟩
    (.f ⟨some 78, .fad 0 (.tmp 77), some (73, false)⟩
    (.f ⟨some 79, .ld (.tmp 78), some (73, false)⟩
    (.f ⟨some 80, .fad 14 (.tmp 7), some (73, false)⟩
    (.f ⟨some 81, .ld (.tmp 80), some (73, false)⟩
    (.f ⟨some 82, .mov (.tmp 15), some (73, false)⟩
    (.f ⟨some 83, .ixs 1 (.tmp 81) (.tmp 82), some (73, false)⟩
    (.f ⟨some 84, .ld (.tmp 83), some (73, false)⟩
    (.f ⟨some 85, .len (.tmp 84), some (73, false)⟩
    (.f ⟨some 86, .bin .gtr (.tmp 79) (.tmp 85), some (73, false)⟩
    (.f ⟨some 87, .pick (.tmp 73) (.const (.bool true)) (.tmp 86), none⟩
    .done))))))))))))))))))))))))))))))))
    (.cond (.tmp 87)
     (.seq (.region [
     ⟨some 6, .mov (.const (.bool false)), none⟩])
     .ret)
     .skip))
    (.seq (.seq (.region [
    ⟨some 88, .fad 1 (.tmp 16), none⟩,
    ⟨some 89, .ld (.tmp 88), none⟩,
    ⟨some 90, .mov (.tmp 15), none⟩,
    ⟨some 91, .ixs 11 (.tmp 89) (.tmp 90), none⟩,
    ⟨some 92, .fad 10 (.tmp 91), none⟩,
    ⟨some 93, .ld (.tmp 92), none⟩])
    (.cond (.tmp 93)
     (.exit 1)
     .skip))
    (.seq (.draw (.f ⟨some 94, .fad 14 (.tmp 7), none⟩
    (.f ⟨some 95, .ld (.tmp 94), none⟩
    (.f ⟨some 96, .mov (.tmp 15), none⟩
    (.f ⟨some 97, .ixs 1 (.tmp 95) (.tmp 96), none⟩
    (.f ⟨some 98, .ld (.tmp 97), none⟩
    (.f ⟨some 99, .fad 1 (.tmp 16), none⟩
    (.f ⟨some 100, .ld (.tmp 99), none⟩
    (.f ⟨some 101, .mov (.tmp 15), none⟩
    (.f ⟨some 102, .ixs 11 (.tmp 100) (.tmp 101), none⟩
    (.f ⟨some 103, .fad 0 (.tmp 102), none⟩
    (.f ⟨some 104, .ld (.tmp 103), none⟩
    (.f ⟨some 105, .ixs 5 (.tmp 98) (.tmp 104), none⟩
    (.f ⟨some 106, .ldN 5 (.tmp 105), none⟩
    (.m ⟨some 17, .new 69 (.agg #[.int .i64 0, .int .i64 0, .int .i64 0, .int .i64 0, .int .i64 0]), none⟩
    (.m ⟨none, .stN 5 (.tmp 17) (.tmp 106), none⟩
    .done))))))))))))))))
    (.seq (.seq (.region [
    ⟨some 107, .fad 0 (.tmp 17), none⟩,
    ⟨some 108, .ld (.tmp 107), none⟩,
    ⟨some 109, .bin .neq (.tmp 108) (.const (.int .i64 7)), none⟩])
    (.cond (.tmp 109)
     (.seq (.seq (.draw (.f ⟨some 110, .mov (.tmp 9), none⟩
     (.f ⟨some 111, .mov (.tmp 15), none⟩
     (.f ⟨some 112, .mov (.tmp 13), none⟩
     (.f ⟨some 113, .bld [(.int .i64 0), (.int .i64 0), (.slice none 0 0)] [(0, 1, (.tmp 111)), (1, 1, (.tmp 112))], none⟩
     (.m ⟨some 114, .call 14 [(.tmp 110), (.tmp 113)], none⟩
     (.f ⟨some 115, .bin .neq (.tmp 114) (.const (.int .i64 70)), none⟩
     (.f ⟨some 116, .mov (.tmp 115), none⟩
     (.f ⟨some 118, .mov (.tmp 9), some (116, false)⟩
     (.both (.f ⟨some 117, .ldN 4 (.tmp 16), some (116, false)⟩
      (.m ⟨some 119, .call 17 [(.tmp 118)], some (116, false)⟩
      (.f ⟨some 120, .call 16 [(.tmp 117), (.tmp 119)], some (116, false)⟩
      (.f ⟨some 121, .not (.tmp 120), some (116, false)⟩
      (.f ⟨some 122, .pick (.tmp 116) (.const (.bool true)) (.tmp 121), none⟩
      (.f ⟨some 123, .mov (.tmp 122), none⟩
      (.f ⟨some 124, .mov (.tmp 9), some (123, false)⟩
      (.f ⟨some 125, .mov (.tmp 15), some (123, false)⟩
      (.f ⟨some 126, .bld [(.int .i64 0), (.int .i64 0), (.slice none 0 0)] [(0, 1, (.tmp 125))], some (123, false)⟩
      (.m ⟨some 127, .call 14 [(.tmp 124), (.tmp 126)], some (123, false)⟩
      (.f ⟨some 128, .bin .neq (.tmp 127) (.const (.int .i64 0)), some (123, false)⟩
      (.f ⟨some 129, .pick (.tmp 123) (.const (.bool true)) (.tmp 128), none⟩
      .done))))))))))))
     (.m ⟨some 119, .call 17 [(.tmp 118)], some (116, false)⟩
      (.f ⟨some 117, .ldN 4 (.tmp 16), some (116, false)⟩
      (.f ⟨some 120, .call 16 [(.tmp 117), (.tmp 119)], some (116, false)⟩
      (.f ⟨some 121, .not (.tmp 120), some (116, false)⟩
      (.f ⟨some 122, .pick (.tmp 116) (.const (.bool true)) (.tmp 121), none⟩
      (.f ⟨some 123, .mov (.tmp 122), none⟩
      (.f ⟨some 124, .mov (.tmp 9), some (123, false)⟩
      (.f ⟨some 125, .mov (.tmp 15), some (123, false)⟩
      (.f ⟨some 126, .bld [(.int .i64 0), (.int .i64 0), (.slice none 0 0)] [(0, 1, (.tmp 125))], some (123, false)⟩
      (.m ⟨some 127, .call 14 [(.tmp 124), (.tmp 126)], some (123, false)⟩
      (.f ⟨some 128, .bin .neq (.tmp 127) (.const (.int .i64 0)), some (123, false)⟩
      (.f ⟨some 129, .pick (.tmp 123) (.const (.bool true)) (.tmp 128), none⟩
      .done))))))))))))))))))))))
     (.cond (.tmp 129)
      (.seq (.region [
      ⟨some 6, .mov (.const (.bool false)), none⟩])
      .ret)
      .skip))
     (.exit 1))
     .skip))
    (.seq (.seq (.region [
    ⟨some 130, .mov (.tmp 9), none⟩,
    ⟨some 131, .mov (.tmp 15), none⟩,
    ⟨some 132, .mov (.tmp 13), none⟩,
    ⟨some 133, .bld [(.int .i64 0), (.int .i64 0), (.slice none 0 0)] [(0, 1, (.tmp 131)), (1, 1, (.tmp 132))], none⟩,
    ⟨some 134, .call 14 [(.tmp 130), (.tmp 133)], none⟩,
    ⟨some 135, .bin .neq (.tmp 134) (.const (.int .i64 0)), none⟩])
    (.cond (.tmp 135)
     (.seq (.region [
     ⟨some 6, .mov (.const (.bool false)), none⟩])
     .ret)
     .skip))
    (.seq (.region [
    ⟨some 136, .mov (.tmp 9), none⟩,
    ⟨some 137, .call 17 [(.tmp 136)], none⟩,
    ⟨some 18, .new 52 (.agg #[.slice none 0 0, .slice none 0 0, .slice none 0 0, .slice none 0 0]), none⟩,
    ⟨none, .stN 4 (.tmp 18) (.tmp 137), none⟩])
    (.seq (.draw (.f ⟨some 138, .fad 0 (.tmp 16), none⟩
    (.f ⟨some 139, .ld (.tmp 138), none⟩
    (.f ⟨some 140, .fad 0 (.tmp 18), none⟩
    (.f ⟨some 141, .ld (.tmp 140), none⟩
    (.f ⟨some 142, .call 24 [(.tmp 139), (.tmp 141)], none⟩
    (.f ⟨some 143, .not (.tmp 142), none⟩
    (.f ⟨some 144, .mov (.tmp 143), none⟩
    (.f ⟨some 145, .fad 2 (.tmp 16), some (144, false)⟩
    (.f ⟨some 146, .ld (.tmp 145), some (144, false)⟩
    (.f ⟨some 147, .fad 2 (.tmp 18), some (144, false)⟩
    (.f ⟨some 148, .ld (.tmp 147), some (144, false)⟩
    (.f ⟨some 149, .call 25 [(.tmp 146), (.tmp 148)], some (144, false)⟩
    (.f ⟨some 150, .not (.tmp 149), some (144, false)⟩
    (.f ⟨some 151, .pick (.tmp 144) (.const (.bool true)) (.tmp 150), none⟩
    (.f ⟨some 152, .mov (.tmp 151), none⟩
    (.f ⟨some 153, .fad 1 (.tmp 18), some (152, false)⟩
    (.f ⟨some 154, .ld (.tmp 153), some (152, false)⟩
    (.f ⟨some 155, .len (.tmp 154), some (152, false)⟩
    (.f ⟨some 156, .fad 14 (.tmp 7), some (152, false)⟩
    (.f ⟨some 157, .ld (.tmp 156), some (152, false)⟩
    (.f ⟨some 158, .len (.tmp 157), some (152, false)⟩
    (.f ⟨some 159, .bin .neq (.tmp 155) (.tmp 158), some (152, false)⟩
    (.f ⟨some 160, .pick (.tmp 152) (.const (.bool true)) (.tmp 159), none⟩
    (.f ⟨some 161, .mov (.tmp 160), none⟩
    (.f ⟨some 162, .fad 1 (.tmp 18), some (161, false)⟩
    (.f ⟨some 163, .ld (.tmp 162), some (161, false)⟩
    (.f ⟨some 164, .mov (.tmp 15), some (161, false)⟩
    (.f ⟨some 165, .ixs 11 (.tmp 163) (.tmp 164), some (161, false)⟩
    (.f ⟨some 166, .fad 1 (.tmp 165), some (161, false)⟩
    (.f ⟨some 167, .ldN 8 (.tmp 166), some (161, false)⟩
    (.f ⟨some 168, .fad 1 (.tmp 16), some (161, false)⟩
    (.f ⟨some 169, .ld (.tmp 168), some (161, false)⟩
    (.f ⟨some 170, .mov (.tmp 15), some (161, false)⟩
    (.f ⟨some 171, .ixs 11 (.tmp 169) (.tmp 170), some (161, false)⟩
    (.f ⟨some 172, .fad 1 (.tmp 171), some (161, false)⟩
    (.f ⟨some 173, .ldN 8 (.tmp 172), some (161, false)⟩
    (.f ⟨some 174, .ageq true [0, 0, 0, 0, 0, 0, 0, 0] (.tmp 167) (.tmp 173), some (161, false)⟩
    (.f ⟨some 175, .pick (.tmp 161) (.const (.bool true)) (.tmp 174), none⟩
    (.f ⟨some 176, .mov (.tmp 175), none⟩
    (.f ⟨some 177, .fad 1 (.tmp 18), some (176, false)⟩
    (.f ⟨some 178, .ld (.tmp 177), some (176, false)⟩
    (.f ⟨some 179, .mov (.tmp 15), some (176, false)⟩
    (.f ⟨some 180, .ixs 11 (.tmp 178) (.tmp 179), some (176, false)⟩
    (.f ⟨some 181, .fad 9 (.tmp 180), some (176, false)⟩
    (.f ⟨some 182, .ld (.tmp 181), some (176, false)⟩
    (.f ⟨some 183, .mov (.tmp 13), some (176, false)⟩
    (.f ⟨some 184, .bin .neq (.tmp 182) (.tmp 183), some (176, false)⟩
    (.f ⟨some 185, .pick (.tmp 176) (.const (.bool true)) (.tmp 184), none⟩
    (.f ⟨some 186, .mov (.tmp 185), none⟩
    (.f ⟨some 187, .fad 1 (.tmp 18), some (186, false)⟩
    (.f ⟨some 188, .ld (.tmp 187), some (186, false)⟩
    (.f ⟨some 189, .mov (.tmp 15), some (186, false)⟩
    (.f ⟨some 190, .ixs 11 (.tmp 188) (.tmp 189), some (186, false)⟩
    (.f ⟨some 191, .fad 0 (.tmp 190), some (186, false)⟩
    (.f ⟨some 192, .ld (.tmp 191), some (186, false)⟩
    (.f ⟨some 193, .fad 1 (.tmp 16), some (186, false)⟩
    (.f ⟨some 194, .ld (.tmp 193), some (186, false)⟩
    (.f ⟨some 195, .mov (.tmp 15), some (186, false)⟩
    (.f ⟨some 196, .ixs 11 (.tmp 194) (.tmp 195), some (186, false)⟩
    (.f ⟨some 197, .fad 0 (.tmp 196), some (186, false)⟩
    (.f ⟨some 198, .ld (.tmp 197), some (186, false)⟩
    (.f ⟨some 199, .bin .leq (.tmp 192) (.tmp 198), some (186, false)⟩
    (.f ⟨some 200, .pick (.tmp 186) (.const (.bool true)) (.tmp 199), none⟩
    (.f ⟨some 201, .mov (.tmp 200), none⟩
    (.f ⟨some 202, .fad 3 (.tmp 18), some (201, false)⟩
    (.f ⟨some 203, .ld (.tmp 202), some (201, false)⟩
    (.f ⟨some 204, .len (.tmp 203), some (201, false)⟩
    (.f ⟨some 205, .fad 14 (.tmp 7), some (201, false)⟩
    (.f ⟨some 206, .ld (.tmp 205), some (201, false)⟩
    (.f ⟨some 207, .len (.tmp 206), some (201, false)⟩
    (.f ⟨some 208, .bin .neq (.tmp 204) (.tmp 207), some (201, false)⟩
    (.f ⟨some 209, .pick (.tmp 201) (.const (.bool true)) (.tmp 208), none⟩
    (.f ⟨some 210, .mov (.tmp 209), none⟩
    (.f ⟨some 211, .fad 3 (.tmp 18), some (210, false)⟩
    (.f ⟨some 212, .ld (.tmp 211), some (210, false)⟩
    (.f ⟨some 213, .mov (.tmp 15), some (210, false)⟩
    (.f ⟨some 214, .ixs 1 (.tmp 212) (.tmp 213), some (210, false)⟩
    (.f ⟨some 215, .ld (.tmp 214), some (210, false)⟩
    (.f ⟨some 216, .len (.tmp 215), some (210, false)⟩
    (.f ⟨some 217, .fad 3 (.tmp 16), some (210, false)⟩
    (.f ⟨some 218, .ld (.tmp 217), some (210, false)⟩
    (.f ⟨some 219, .mov (.tmp 15), some (210, false)⟩
    (.f ⟨some 220, .ixs 1 (.tmp 218) (.tmp 219), some (210, false)⟩
    (.f ⟨some 221, .ld (.tmp 220), some (210, false)⟩
    (.f ⟨some 222, .len (.tmp 221), some (210, false)⟩
    (.f ⟨some 223, .bin .add (.tmp 222) (.const (.int .i64 1)), some (210, false)⟩
    (.f ⟨some 224, .bin .neq (.tmp 216) (.tmp 223), some (210, false)⟩
    (.f ⟨some 225, .pick (.tmp 210) (.const (.bool true)) (.tmp 224), none⟩
    .done)))))))))))))))))))))))))))))))))))))))))))))))))))))))))))))))))))))))))))))))))))))))))
    (.cond (.tmp 225)
     (.seq (.region [
     ⟨some 6, .mov (.const (.bool false)), none⟩])
     .ret)
     .skip)))))))))))
   (.region [
   ⟨some 48, .mov (.tmp 14), none⟩,
   ⟨some 49, .bin .add (.tmp 48) (.const (.int .i64 1)), none⟩,
   ⟨some 14, .mov (.tmp 49), none⟩]))))))
 (.seq (.region [
 ⟨some 226, .call 10 [], none⟩,
 ⟨some 6, .mov (.tmp 226), none⟩])
 .ret)))))))),
 [.tmp 6]⟩
theorem low_law22_SglForced : lowFn Tryz.prog movers 5 = some ⟨ir_law22_SglForced.n, strip ir_law22_SglForced.body, ir_law22_SglForced.res⟩ := by kernel_rfl
def ir_law22_SglNil : IFn := ⟨109,
 (.seq (.region [
 ⟨some 2, .box 22 (.tmp 0), none⟩,
 ⟨some 4, .mov (.const (.bool false)), none⟩])
 (.seq (.region [
 ⟨some 16, .ldN 5 (.tmp 2), none⟩,
 ⟨some 17, .mov (.tmp 1), none⟩,
 ⟨some 18, .call 9 [(.tmp 16), (.tmp 17), (.const (.bool false))], none⟩,
 ⟨some 15, .mov (.tmp 18), none⟩,
 ⟨some 19, .ext (.tmp 15) 0, none⟩,
 ⟨some 20, .ext (.tmp 15) 1, none⟩,
 ⟨some 5, .new 32 (.agg #[.int .i64 0, .int .i64 0, .int .i64 0, .int .i64 0, .int .i64 0, .int .i64 0, .int .i64 0, .int .i64 0, .int .i64 0, .int .i64 0, .int .i64 0, .int .i64 0, .bool false, .slice none 0 0, .slice none 0 0, .slice none 0 0]), none⟩,
 ⟨none, .stN 16 (.tmp 5) (.tmp 19), none⟩,
 ⟨some 6, .mov (.tmp 20), none⟩])
 (.seq (.seq (.region [
 ⟨some 21, .mov (.tmp 6), none⟩,
 ⟨some 22, .not (.tmp 21), none⟩])
 (.cond (.tmp 22)
  (.seq (.region [
  ⟨some 23, .call 10 [], none⟩,
  ⟨some 4, .mov (.tmp 23), none⟩])
  .ret)
  .skip))
 (.seq (.region [
 ⟨some 7, .mov (.const (.pointer none)), none⟩])
 (.seq (.region [
 ⟨some 25, .ldN 16 (.tmp 5), none⟩,
 ⟨some 26, .call 11 [(.tmp 25)], none⟩,
 ⟨some 24, .mov (.tmp 26), none⟩,
 ⟨some 27, .ext (.tmp 24) 0, none⟩,
 ⟨some 28, .ext (.tmp 24) 1, none⟩,
 ⟨some 29, .ext (.tmp 24) 2, none⟩,
 ⟨some 30, .ext (.tmp 24) 3, none⟩,
 ⟨some 8, .mov (.tmp 27), none⟩,
 ⟨some 9, .mov (.tmp 28), none⟩,
 ⟨some 10, .mov (.tmp 29), none⟩,
 ⟨some 11, .mov (.tmp 30), none⟩])
 (.seq (.seq (.region [
 ⟨some 31, .mov (.tmp 11), none⟩,
 ⟨some 32, .bin .neq (.tmp 31) (.const (.int .i64 0)), none⟩,
 ⟨some 33, .mov (.tmp 32), none⟩,
 ⟨some 34, .mov (.tmp 8), some (33, false)⟩,
 ⟨some 35, .nilq false 1 (.tmp 34) (.const (.pointer none)), some (33, false)⟩,
 ⟨some 36, .pick (.tmp 33) (.const (.bool true)) (.tmp 35), none⟩,
 ⟨some 37, .mov (.tmp 36), none⟩,
 ⟨some 38, .mov (.tmp 7), some (37, false)⟩,
 ⟨some 39, .bld [(.int .i64 0), (.int .i64 0), (.slice none 0 0)] [], some (37, false)⟩,
 ⟨some 40, .call 14 [(.tmp 38), (.tmp 39)], some (37, false)⟩,
 ⟨some 41, .bin .neq (.tmp 40) (.const (.int .i64 1)), some (37, false)⟩,
 ⟨some 42, .pick (.tmp 37) (.const (.bool true)) (.tmp 41), none⟩,
 ⟨some 43, .mov (.tmp 42), none⟩,
 ⟨some 44, .mov (.tmp 7), some (43, false)⟩,
 ⟨some 45, .call 17 [(.tmp 44)], some (43, false)⟩,
 ⟨some 46, .fld 1 (.tmp 45), some (43, false)⟩,
 ⟨some 47, .len (.tmp 46), some (43, false)⟩,
 ⟨some 48, .bin .neq (.tmp 47) (.const (.int .i64 0)), some (43, false)⟩,
 ⟨some 49, .pick (.tmp 43) (.const (.bool true)) (.tmp 48), none⟩])
 (.cond (.tmp 49)
  (.seq (.region [
  ⟨some 4, .mov (.const (.bool false)), none⟩])
  .ret)
  .skip))
 (.seq (.region [
 ⟨some 50, .mov (.tmp 8), none⟩,
 ⟨some 51, .call 17 [(.tmp 50)], none⟩,
 ⟨some 12, .new 52 (.agg #[.slice none 0 0, .slice none 0 0, .slice none 0 0, .slice none 0 0]), none⟩,
 ⟨none, .stN 4 (.tmp 12) (.tmp 51), none⟩])
 (.seq (.seq (.region [
 ⟨some 13, .mov (.const (.int .i64 0)), none⟩])
 (.block 0
  (.loop 73782472695210844160
   (.seq (.seq (.region [
   ⟨some 52, .mov (.tmp 13), none⟩,
   ⟨some 53, .fad 13 (.tmp 5), none⟩,
   ⟨some 54, .ld (.tmp 53), none⟩,
   ⟨some 55, .len (.tmp 54), none⟩,
   ⟨some 56, .bin .lss (.tmp 52) (.tmp 55), none⟩])
   (.cond (.tmp 56)
    .skip
    (.exit 0)))
   (.seq (.block 1
    (.region [
    ⟨some 59, .fad 13 (.tmp 5), none⟩,
    ⟨some 60, .ld (.tmp 59), none⟩,
    ⟨some 61, .mov (.tmp 13), none⟩,
    ⟨some 62, .ixs 1 (.tmp 60) (.tmp 61), none⟩,
    ⟨some 63, .ld (.tmp 62), none⟩,
    ⟨some 64, .bin .add (.tmp 63) (.const (.int .u64 1)), none⟩,
    ⟨some 65, .ixs 1 (.tmp 60) (.tmp 61), none⟩,
    ⟨none, .st (.tmp 65) (.tmp 64), none⟩]))
   (.region [
   ⟨some 57, .mov (.tmp 13), none⟩,
   ⟨some 58, .bin .add (.tmp 57) (.const (.int .i64 1)), none⟩,
   ⟨some 13, .mov (.tmp 58), none⟩]))))))
 (.seq (.region [
 ⟨some 66, .mov (.tmp 8), none⟩,
 ⟨some 67, .call 17 [(.tmp 66)], none⟩,
 ⟨some 14, .new 52 (.agg #[.slice none 0 0, .slice none 0 0, .slice none 0 0, .slice none 0 0]), none⟩,
 ⟨none, .stN 4 (.tmp 14) (.tmp 67), none⟩])
 (.seq (.seq (.region [
 ⟨some 68, .fad 0 (.tmp 14), none⟩,
 ⟨some 69, .ld (.tmp 68), none⟩,
 ⟨some 70, .len (.tmp 69), none⟩,
 ⟨some 71, .fad 13 (.tmp 5), none⟩,
 ⟨some 72, .ld (.tmp 71), none⟩,
 ⟨some 73, .len (.tmp 72), none⟩,
 ⟨some 74, .bin .neq (.tmp 70) (.tmp 73), none⟩])
 (.cond (.tmp 74)
  (.seq (.region [
  ⟨some 4, .mov (.const (.bool false)), none⟩])
  .ret)
  .skip))
 (.seq (.region [
 ⟨some 75, .fad 0 (.tmp 14), none⟩,
 ⟨some 76, .ld (.tmp 75), none⟩,
 ⟨some 77, .ixs 1 (.tmp 76) (.const (.int .i64 0)), none⟩,
 ⟨some 78, .ld (.tmp 77), none⟩,
 ⟨some 79, .bin .add (.tmp 78) (.const (.int .u64 1)), none⟩,
 ⟨some 80, .ixs 1 (.tmp 76) (.const (.int .i64 0)), none⟩,
 ⟨none, .st (.tmp 80) (.tmp 79), none⟩])
 (.seq (.draw (.f ⟨some 82, .mov (.tmp 8), none⟩
 (.both (.f ⟨some 81, .ldN 4 (.tmp 12), none⟩
  (.m ⟨some 83, .call 17 [(.tmp 82)], none⟩
  (.f ⟨some 84, .call 16 [(.tmp 81), (.tmp 83)], none⟩
  (.f ⟨some 85, .mov (.tmp 84), none⟩
  (.f ⟨some 86, .fad 0 (.tmp 12), some (85, true)⟩
  (.f ⟨some 87, .ld (.tmp 86), some (85, true)⟩
  (.f ⟨some 88, .len (.tmp 87), some (85, true)⟩
  (.f ⟨some 89, .fad 13 (.tmp 5), some (85, true)⟩
  (.f ⟨some 90, .ld (.tmp 89), some (85, true)⟩
  (.f ⟨some 91, .len (.tmp 90), some (85, true)⟩
  (.f ⟨some 92, .bin .eql (.tmp 88) (.tmp 91), some (85, true)⟩
  (.f ⟨some 93, .pick (.tmp 85) (.tmp 92) (.const (.bool false)), none⟩
  (.f ⟨some 94, .mov (.tmp 93), none⟩
  (.f ⟨some 95, .fad 0 (.tmp 12), some (94, true)⟩
  (.f ⟨some 96, .ld (.tmp 95), some (94, true)⟩
  (.f ⟨some 97, .ixs 1 (.tmp 96) (.const (.int .i64 0)), some (94, true)⟩
  (.f ⟨some 98, .ld (.tmp 97), some (94, true)⟩
  (.f ⟨some 99, .bin .add (.tmp 98) (.const (.int .u64 1)), some (94, true)⟩
  (.f ⟨some 100, .fad 13 (.tmp 5), some (94, true)⟩
  (.f ⟨some 101, .ld (.tmp 100), some (94, true)⟩
  (.f ⟨some 102, .ixs 1 (.tmp 101) (.const (.int .i64 0)), some (94, true)⟩
  (.f ⟨some 103, .ld (.tmp 102), some (94, true)⟩
  (.f ⟨some 104, .bin .eql (.tmp 99) (.tmp 103), some (94, true)⟩
  (.f ⟨some 105, .pick (.tmp 94) (.tmp 104) (.const (.bool false)), none⟩
  (.f ⟨some 106, .mov (.tmp 105), none⟩
  (.f ⟨some 107, .call 10 [], some (106, true)⟩
  (.f ⟨some 108, .pick (.tmp 106) (.tmp 107) (.const (.bool false)), none⟩
  (.f ⟨some 4, .mov (.tmp 108), none⟩
  .done))))))))))))))))))))))))))))
 (.m ⟨some 83, .call 17 [(.tmp 82)], none⟩
  (.f ⟨some 81, .ldN 4 (.tmp 12), none⟩
  (.f ⟨some 84, .call 16 [(.tmp 81), (.tmp 83)], none⟩
  (.f ⟨some 85, .mov (.tmp 84), none⟩
  (.f ⟨some 86, .fad 0 (.tmp 12), some (85, true)⟩
  (.f ⟨some 87, .ld (.tmp 86), some (85, true)⟩
  (.f ⟨some 88, .len (.tmp 87), some (85, true)⟩
  (.f ⟨some 89, .fad 13 (.tmp 5), some (85, true)⟩
  (.f ⟨some 90, .ld (.tmp 89), some (85, true)⟩
  (.f ⟨some 91, .len (.tmp 90), some (85, true)⟩
  (.f ⟨some 92, .bin .eql (.tmp 88) (.tmp 91), some (85, true)⟩
  (.f ⟨some 93, .pick (.tmp 85) (.tmp 92) (.const (.bool false)), none⟩
  (.f ⟨some 94, .mov (.tmp 93), none⟩
  (.f ⟨some 95, .fad 0 (.tmp 12), some (94, true)⟩
  (.f ⟨some 96, .ld (.tmp 95), some (94, true)⟩
  (.f ⟨some 97, .ixs 1 (.tmp 96) (.const (.int .i64 0)), some (94, true)⟩
  (.f ⟨some 98, .ld (.tmp 97), some (94, true)⟩
  (.f ⟨some 99, .bin .add (.tmp 98) (.const (.int .u64 1)), some (94, true)⟩
  (.f ⟨some 100, .fad 13 (.tmp 5), some (94, true)⟩
  (.f ⟨some 101, .ld (.tmp 100), some (94, true)⟩
  (.f ⟨some 102, .ixs 1 (.tmp 101) (.const (.int .i64 0)), some (94, true)⟩
  (.f ⟨some 103, .ld (.tmp 102), some (94, true)⟩
  (.f ⟨some 104, .bin .eql (.tmp 99) (.tmp 103), some (94, true)⟩
  (.f ⟨some 105, .pick (.tmp 94) (.tmp 104) (.const (.bool false)), none⟩
  (.f ⟨some 106, .mov (.tmp 105), none⟩
  (.f ⟨some 107, .call 10 [], some (106, true)⟩
  (.f ⟨some 108, .pick (.tmp 106) (.tmp 107) (.const (.bool false)), none⟩
  (.f ⟨some 4, .mov (.tmp 108), none⟩
  .done)))))))))))))))))))))))))))))))
 .ret)))))))))))),
 [.tmp 4]⟩
theorem low_law22_SglNil : lowFn Tryz.prog movers 8 = some ⟨ir_law22_SglNil.n, strip ir_law22_SglNil.body, ir_law22_SglNil.res⟩ := by kernel_rfl
def ir_law22_script : IFn := ⟨52,
 (.seq (.region [
 ⟨some 3, .box 22 (.tmp 0), none⟩,
 ⟨some 6, .new 32 (.agg #[.int .i64 0, .int .i64 0, .int .i64 0, .int .i64 0, .int .i64 0, .int .i64 0, .int .i64 0, .int .i64 0, .int .i64 0, .int .i64 0, .int .i64 0, .int .i64 0, .bool false, .slice none 0 0, .slice none 0 0, .slice none 0 0]), none⟩,
 ⟨some 7, .mov (.const (.bool false)), none⟩])
 (.seq (.region [
 ⟨some 8, .mov (.const (.int .i64 0)), none⟩])
 (.seq (.seq (.region [
 ⟨some 9, .mov (.const (.int .i64 0)), none⟩])
 (.block 0
  (.loop 16775936
   (.seq (.seq (.region [
   ⟨some 11, .mov (.tmp 9), none⟩,
   ⟨some 12, .mov (.tmp 1), none⟩,
   ⟨some 13, .len (.tmp 12), none⟩,
   ⟨some 14, .bin .lss (.tmp 11) (.tmp 13), none⟩])
   (.cond (.tmp 14)
    .skip
    (.exit 0)))
   (.seq (.block 1
    (.region [
    ⟨some 17, .mov (.tmp 8), none⟩,
    ⟨some 18, .mov (.tmp 1), none⟩,
    ⟨some 19, .mov (.tmp 9), none⟩,
    ⟨some 20, .ixs 1 (.tmp 18) (.tmp 19), none⟩,
    ⟨some 21, .ld (.tmp 20), none⟩,
    ⟨some 22, .len (.tmp 21), none⟩,
    ⟨some 23, .bin .add (.tmp 17) (.tmp 22), none⟩,
    ⟨some 8, .mov (.tmp 23), none⟩]))
   (.region [
   ⟨some 15, .mov (.tmp 9), none⟩,
   ⟨some 16, .bin .add (.tmp 15) (.const (.int .i64 1)), none⟩,
   ⟨some 9, .mov (.tmp 16), none⟩]))))))
 (.seq (.seq (.region [
 ⟨some 24, .mov (.tmp 1), none⟩,
 ⟨some 25, .len (.tmp 24), none⟩,
 ⟨some 26, .bin .gtr (.tmp 25) (.const (.int .i64 3)), none⟩,
 ⟨some 27, .mov (.tmp 26), none⟩,
 ⟨some 28, .mov (.tmp 8), some (27, false)⟩,
 ⟨some 29, .bin .gtr (.tmp 28) (.const (.int .i64 80)), some (27, false)⟩,
 ⟨some 30, .pick (.tmp 27) (.const (.bool true)) (.tmp 29), none⟩])
 (.cond (.tmp 30)
  (.seq (.region [
  ⟨some 31, .bld [(.int .i64 0), (.int .i64 0), (.int .i64 0), (.int .i64 0), (.int .i64 0), (.int .i64 0), (.int .i64 0), (.int .i64 0), (.int .i64 0), (.int .i64 0), (.int .i64 0), (.int .i64 0), (.bool false), (.slice none 0 0), (.slice none 0 0), (.slice none 0 0)] [], none⟩,
  ⟨none, .stN 16 (.tmp 6) (.tmp 31), none⟩,
  ⟨some 7, .mov (.const (.bool false)), none⟩])
  .ret)
  .skip))
 (.seq (.region [
 ⟨some 32, .ixa 5 1 (.tmp 3) (.const (.int .i64 0)), none⟩,
 ⟨some 33, .ld (.tmp 32), none⟩,
 ⟨some 34, .ixa 5 1 (.tmp 3) (.const (.int .i64 1)), none⟩,
 ⟨some 35, .ld (.tmp 34), none⟩,
 ⟨some 36, .ixa 5 1 (.tmp 3) (.const (.int .i64 2)), none⟩,
 ⟨some 37, .ld (.tmp 36), none⟩,
 ⟨some 38, .ixa 5 1 (.tmp 3) (.const (.int .i64 3)), none⟩,
 ⟨some 39, .ld (.tmp 38), none⟩,
 ⟨some 40, .ixa 5 1 (.tmp 3) (.const (.int .i64 4)), none⟩,
 ⟨some 41, .ld (.tmp 40), none⟩,
 ⟨some 42, .call 28 [(.tmp 33), (.tmp 35), (.tmp 37), (.tmp 39), (.tmp 41)], none⟩,
 ⟨some 10, .new 27 (.agg #[.int .i64 0, .int .i64 0, .int .i64 0, .int .i64 0, .int .i64 0, .int .i64 0, .int .i64 0, .int .i64 0, .int .i64 0, .int .i64 0, .int .i64 0, .int .i64 0, .bool false]), none⟩,
 ⟨none, .stN 13 (.tmp 10) (.tmp 42), none⟩])
 (.seq (.region [
 ⟨some 43, .mov (.tmp 2), none⟩,
 ⟨some 44, .fad 12 (.tmp 10), none⟩,
 ⟨none, .st (.tmp 44) (.tmp 43), none⟩])
 (.seq (.region [
 ⟨some 45, .ldN 13 (.tmp 10), none⟩,
 ⟨some 46, .mov (.tmp 1), none⟩,
 ⟨some 47, .len (.tmp 46), none⟩,
 ⟨some 48, .bin .rem (.tmp 47) (.const (.int .i64 2)), none⟩,
 ⟨some 49, .bin .add (.const (.int .i64 2)) (.tmp 48), none⟩,
 ⟨some 50, .mov (.tmp 1), none⟩,
 ⟨some 51, .call 29 [(.tmp 45), (.tmp 49), (.tmp 50), (.const (.int .i64 14)), (.const (.bool true)), (.const (.bool true)), (.const (.slice none 0 0))], none⟩,
 ⟨none, .stN 16 (.tmp 6) (.tmp 51), none⟩,
 ⟨some 7, .mov (.const (.bool true)), none⟩])
 .ret))))))),
 [.cellN 6 16, .tmp 7]⟩
theorem low_law22_script : lowFn Tryz.prog movers 9 = some ⟨ir_law22_script.n, strip ir_law22_script.body, ir_law22_script.res⟩ := by kernel_rfl
def ir_law22_awake : IFn := ⟨79,
 (.seq (.region [
 ⟨some 0, .mov (.const (.bool false)), none⟩])
 (.seq (.region [
 ⟨some 6, .bld [(.int .i64 0), (.int .i64 0), (.int .i64 0), (.int .i64 0), (.int .i64 0)] [(0, 1, (.const (.int .i64 7))), (4, 1, (.const (.int .i64 1)))], none⟩,
 ⟨some 7, .bld [(.int .i64 0), (.int .i64 0), (.int .i64 0), (.int .i64 0), (.int .i64 0)] [(0, 1, (.const (.int .i64 11))), (1, 1, (.const (.int .i64 0))), (2, 1, (.const (.int .i64 1))), (4, 1, (.const (.int .i64 1)))], none⟩,
 ⟨some 8, .bld [(.int .i64 0), (.int .i64 0), (.int .i64 0), (.int .i64 0), (.int .i64 0)] [(0, 1, (.const (.int .i64 8)))], none⟩,
 ⟨some 9, .blds 69 3 [(.int .i64 0), (.int .i64 0), (.int .i64 0), (.int .i64 0), (.int .i64 0), (.int .i64 0), (.int .i64 0), (.int .i64 0), (.int .i64 0), (.int .i64 0), (.int .i64 0), (.int .i64 0), (.int .i64 0), (.int .i64 0), (.int .i64 0)] [(0, 5, (.tmp 6)), (5, 5, (.tmp 7)), (10, 5, (.tmp 8))], none⟩,
 ⟨some 1, .mov (.tmp 9), none⟩])
 (.seq (.region [
 ⟨some 10, .bld [(.int .i64 0), (.int .i64 0), (.int .i64 0), (.int .i64 0), (.int .i64 0), (.int .i64 0), (.int .i64 0), (.int .i64 0), (.int .i64 0), (.int .i64 0), (.int .i64 0), (.int .i64 0), (.bool false)] [(0, 1, (.const (.int .i64 2))), (1, 1, (.const (.int .i64 1))), (7, 1, (.const (.int .i64 1))), (8, 1, (.const (.int .i64 1)))], none⟩,
 ⟨some 11, .blds 63 2 [(.int .u64 0), (.int .u64 0)] [(0, 1, (.const (.int .u64 5))), (1, 1, (.const (.int .u64 6)))], none⟩,
 ⟨some 12, .mov (.tmp 1), none⟩,
 ⟨some 13, .mov (.tmp 1), none⟩,
 ⟨some 14, .blds 67 2 [(.slice none 0 0), (.slice none 0 0)] [(0, 1, (.tmp 12)), (1, 1, (.tmp 13))], none⟩,
 ⟨some 15, .bld [(.int .i64 0), (.int .i64 0), (.int .i64 0), (.int .i64 0), (.int .i64 0), (.int .i64 0), (.int .i64 0), (.int .i64 0), (.int .i64 0), (.int .i64 0), (.int .i64 0), (.int .i64 0), (.bool false), (.slice none 0 0), (.slice none 0 0), (.slice none 0 0)] [(0, 13, (.tmp 10)), (13, 1, (.tmp 11)), (14, 1, (.tmp 14))], none⟩,
 ⟨some 2, .new 32 (.agg #[.int .i64 0, .int .i64 0, .int .i64 0, .int .i64 0, .int .i64 0, .int .i64 0, .int .i64 0, .int .i64 0, .int .i64 0, .int .i64 0, .int .i64 0, .int .i64 0, .bool false, .slice none 0 0, .slice none 0 0, .slice none 0 0]), none⟩,
 ⟨none, .stN 16 (.tmp 2) (.tmp 15), none⟩])
 (.seq (.region [
 ⟨some 17, .ldN 16 (.tmp 2), none⟩,
 ⟨some 18, .bld [(.int .i64 0), (.int .i64 0), (.slice none 0 0)] [(0, 1, (.const (.int .i64 1))), (1, 1, (.const (.int .i64 5)))], none⟩,
 ⟨some 19, .bld [(.int .i64 0), (.int .i64 0), (.slice none 0 0)] [(0, 1, (.const (.int .i64 0)))], none⟩,
 ⟨some 20, .blds 43 2 [(.int .i64 0), (.int .i64 0), (.slice none 0 0), (.int .i64 0), (.int .i64 0), (.slice none 0 0)] [(0, 3, (.tmp 18)), (3, 3, (.tmp 19))], none⟩,
 ⟨some 21, .call 19 [(.tmp 17), (.tmp 20)], none⟩,
 ⟨some 16, .mov (.tmp 21), none⟩,
 ⟨some 22, .ext (.tmp 16) 0, none⟩,
 ⟨some 23, .ext (.tmp 16) 1, none⟩,
 ⟨some 24, .ext (.tmp 16) 2, none⟩,
 ⟨some 3, .new 52 (.agg #[.slice none 0 0, .slice none 0 0, .slice none 0 0, .slice none 0 0]), none⟩,
 ⟨none, .stN 4 (.tmp 3) (.tmp 22), none⟩,
 ⟨some 4, .mov (.tmp 23), none⟩,
 ⟨some 5, .mov (.tmp 24), none⟩])
 (.seq (.region [
 ⟨some 25, .mov (.tmp 5), none⟩,
 ⟨some 26, .bin .eql (.tmp 25) (.const (.int .i64 0)), none⟩,
 ⟨some 27, .mov (.tmp 26), none⟩,
 ⟨some 28, .mov (.tmp 4), some (27, true)⟩,
 ⟨some 29, .bin .eql (.tmp 28) (.const (.int .i64 0)), some (27, true)⟩,
 ⟨some 30, .pick (.tmp 27) (.tmp 29) (.const (.bool false)), none⟩,
 ⟨some 31, .mov (.tmp 30), none⟩,
 ⟨some 32, .fad 0 (.tmp 3), some (31, true)⟩,
 ⟨some 33, .ld (.tmp 32), some (31, true)⟩,
 ⟨some 34, .len (.tmp 33), some (31, true)⟩,
 ⟨some 35, .bin .eql (.tmp 34) (.const (.int .i64 2)), some (31, true)⟩,
 ⟨some 36, .pick (.tmp 31) (.tmp 35) (.const (.bool false)), none⟩,
 ⟨some 37, .mov (.tmp 36), none⟩,
 ⟨some 38, .fad 0 (.tmp 3), some (37, true)⟩,
 ⟨some 39, .ld (.tmp 38), some (37, true)⟩,
 ⟨some 40, .ixs 1 (.tmp 39) (.const (.int .i64 0)), some (37, true)⟩,
 ⟨some 41, .ld (.tmp 40), some (37, true)⟩,
 ⟨some 42, .bin .eql (.tmp 41) (.const (.int .u64 5)), some (37, true)⟩,
 ⟨some 43, .pick (.tmp 37) (.tmp 42) (.const (.bool false)), none⟩,
 ⟨some 44, .mov (.tmp 43), none⟩,
 ⟨some 45, .fad 0 (.tmp 3), some (44, true)⟩,
 ⟨some 46, .ld (.tmp 45), some (44, true)⟩,
 ⟨some 47, .ixs 1 (.tmp 46) (.const (.int .i64 1)), some (44, true)⟩,
 ⟨some 48, .ld (.tmp 47), some (44, true)⟩,
 ⟨some 49, .bin .eql (.tmp 48) (.const (.int .u64 0)), some (44, true)⟩,
 ⟨some 50, .pick (.tmp 44) (.tmp 49) (.const (.bool false)), none⟩,
 ⟨some 51, .mov (.tmp 50), none⟩,
 ⟨some 52, .fad 2 (.tmp 3), some (51, true)⟩,
 ⟨some 53, .ld (.tmp 52), some (51, true)⟩,
 ⟨some 54, .len (.tmp 53), some (51, true)⟩,
 ⟨some 55, .bin .eql (.tmp 54) (.const (.int .i64 2)), some (51, true)⟩,
 ⟨some 56, .pick (.tmp 51) (.tmp 55) (.const (.bool false)), none⟩,
 ⟨some 57, .mov (.tmp 56), none⟩,
 ⟨some 58, .fad 1 (.tmp 3), some (57, true)⟩,
 ⟨some 59, .ld (.tmp 58), some (57, true)⟩,
 ⟨some 60, .len (.tmp 59), some (57, true)⟩,
 ⟨some 61, .bin .eql (.tmp 60) (.const (.int .i64 2)), some (57, true)⟩,
 ⟨some 62, .pick (.tmp 57) (.tmp 61) (.const (.bool false)), none⟩,
 ⟨some 63, .mov (.tmp 62), none⟩,
 ⟨some 64, .fad 1 (.tmp 3), some (63, true)⟩,
 ⟨some 65, .ld (.tmp 64), some (63, true)⟩,
 ⟨some 66, .ixs 11 (.tmp 65) (.const (.int .i64 1)), some (63, true)⟩,
 ⟨some 67, .fad 9 (.tmp 66), some (63, true)⟩,
 ⟨some 68, .ld (.tmp 67), some (63, true)⟩,
 ⟨some 69, .bin .eql (.tmp 68) (.const (.int .i64 5)), some (63, true)⟩,
 ⟨some 70, .pick (.tmp 63) (.tmp 69) (.const (.bool false)), none⟩,
 ⟨some 71, .mov (.tmp 70), none⟩,
 ⟨some 72, .fad 1 (.tmp 3), some (71, true)⟩,
 ⟨some 73, .ld (.tmp 72), some (71, true)⟩,
 ⟨some 74, .ixs 11 (.tmp 73) (.const (.int .i64 0)), some (71, true)⟩,
 ⟨some 75, .fad 9 (.tmp 74), some (71, true)⟩,
 ⟨some 76, .ld (.tmp 75), some (71, true)⟩,
 ⟨some 77, .bin .eql (.tmp 76) (.const (.int .i64 1)), some (71, true)⟩,
 ⟨some 78, .pick (.tmp 71) (.tmp 77) (.const (.bool false)), none⟩,
 ⟨some 0, .mov (.tmp 78), none⟩])
 .ret))))),
 [.tmp 0]⟩
theorem low_law22_awake : lowFn Tryz.prog movers 10 = some ⟨ir_law22_awake.n, strip ir_law22_awake.body, ir_law22_awake.res⟩ := by kernel_rfl
end Go.Proofs.YtfompmhncnkcfaaGreatDoor
