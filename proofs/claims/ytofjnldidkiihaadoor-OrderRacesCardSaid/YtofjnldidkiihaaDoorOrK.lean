/- A lowered function with places to sum up, printed by program; checked against the loaded program by the kernel. No condition. -/
import Derived.Test.YtofjnldidkiihaaDoorIR
namespace Go.Proofs.YtofjnldidkiihaaDoor
open Go
set_option maxRecDepth 100000
def irc_law24_OrderRaces : IFn := ⟨152,
 (.seq (.region [
 ⟨some 4, .mov (.const (.bool false)), none⟩])
 (.seq (.seq (.region [
 ⟨some 12, .mov (.tmp 0), none⟩,
 ⟨some 13, .len (.tmp 12), none⟩,
 ⟨some 14, .bin .gtr (.tmp 13) (.const (.int .i64 40)), none⟩])
 (.cond (.tmp 14)
  (.seq (.region [
  ⟨some 15, .call 27 [], none⟩,
  ⟨some 4, .mov (.tmp 15), none⟩])
  .ret)
  .skip))
 (.seq (.region [
 ⟨some 16, .mov (.tmp 1), none⟩,
 ⟨some 17, .call 17 [(.tmp 16), (.const (.int .i64 3))], none⟩,
 ⟨some 18, .bin .add (.const (.int .i64 2)) (.tmp 17), none⟩,
 ⟨some 5, .mov (.tmp 18), none⟩])
 (.seq (.region [
 ⟨some 19, .mov (.tmp 0), none⟩,
 ⟨some 20, .mov (.tmp 5), none⟩,
 ⟨some 21, .call 18 [(.tmp 19), (.tmp 20)], none⟩,
 ⟨some 6, .mov (.tmp 21), none⟩])
 (.seq (.region [
 ⟨some 22, .mov (.tmp 6), none⟩,
 ⟨some 23, .mov (.tmp 5), none⟩,
 ⟨some 24, .call 34 [(.tmp 22), (.tmp 23)], none⟩,
 ⟨some 7, .mov (.tmp 24), none⟩])
 (.seq (.seq (.region [
 ⟨some 8, .mov (.const (.int .i64 0)), none⟩])
 (.block 0
  (.loop 1393796574908163946345982392040522560573200
   (.seq (.seq (.region [
   ⟨some 25, .mov (.tmp 8), none⟩,
   ⟨some 26, .mov (.tmp 7), none⟩,
   ⟨some 27, .len (.tmp 26), none⟩,
   ⟨some 28, .bin .lss (.tmp 25) (.tmp 27), none⟩])
   (.cond (.tmp 28)
    .skip
    (.exit 0)))
   (.seq (.block 1
    (.seq (.region [
    ⟨some 31, .mov (.tmp 7), none⟩,
    ⟨some 32, .mov (.tmp 8), none⟩,
    ⟨some 33, .ixs 3 (.tmp 31) (.tmp 32), none⟩,
    ⟨some 34, .ldN 3 (.tmp 33), none⟩,
    ⟨some 9, .new 28 (.agg #[.int .i64 0, .int .i64 0, .int .i64 0]), none⟩,
    ⟨none, .stN 3 (.tmp 9) (.tmp 34), none⟩])
    (.seq (.seq (.region [
    ⟨some 35, .fad 0 (.tmp 9), none⟩,
    ⟨some 36, .ld (.tmp 35), none⟩,
    ⟨some 37, .bin .lss (.tmp 36) (.const (.int .i64 0)), none⟩,
    ⟨some 38, .mov (.tmp 37), none⟩,
    ⟨some 39, .fad 0 (.tmp 9), some (38, false)⟩,
    ⟨some 40, .ld (.tmp 39), some (38, false)⟩,
    ⟨some 41, .fad 1 (.tmp 9), some (38, false)⟩,
    ⟨some 42, .ld (.tmp 41), some (38, false)⟩,
    ⟨some 43, .bin .geq (.tmp 40) (.tmp 42), some (38, false)⟩,
    ⟨some 44, .pick (.tmp 38) (.const (.bool true)) (.tmp 43), none⟩,
    ⟨some 45, .mov (.tmp 44), none⟩,
    ⟨some 46, .fad 1 (.tmp 9), some (45, false)⟩,
    ⟨some 47, .ld (.tmp 46), some (45, false)⟩,
    ⟨some 48, .mov (.tmp 6), some (45, false)⟩,
    ⟨some 49, .len (.tmp 48), some (45, false)⟩,
    ⟨some 50, .bin .geq (.tmp 47) (.tmp 49), some (45, false)⟩,
    ⟨some 51, .pick (.tmp 45) (.const (.bool true)) (.tmp 50), none⟩])
    (.cond (.tmp 51)
     (.seq (.region [
     ⟨some 4, .mov (.const (.bool false)), none⟩])
     .ret)
     .skip))
    (.cut (.draw (.f ⟨some 52, .mov (.tmp 6), none⟩
    (.f ⟨some 53, .fad 0 (.tmp 9), none⟩
    (.f ⟨some 54, .ld (.tmp 53), none⟩
    (.f ⟨some 55, .ixs 6 (.tmp 52) (.tmp 54), none⟩
    (.f ⟨some 56, .ldN 6 (.tmp 55), none⟩
    (.f ⟨some 57, .mov (.tmp 6), none⟩
    (.f ⟨some 58, .fad 1 (.tmp 9), none⟩
    (.both (.f ⟨some 59, .ld (.tmp 58), none⟩
     (.f ⟨some 60, .ixs 6 (.tmp 57) (.tmp 59), none⟩
     (.both (.f ⟨some 61, .ldN 6 (.tmp 60), none⟩
      (.both (.m ⟨some 10, .new 42 (.agg #[.int .i64 0, .int .i64 0, .int .i64 0, .int .i64 0, .slice none 0 0, .slice none 0 0]), none⟩
       (.m ⟨some 11, .new 42 (.agg #[.int .i64 0, .int .i64 0, .int .i64 0, .int .i64 0, .slice none 0 0, .slice none 0 0]), none⟩
       (.m ⟨none, .stN 6 (.tmp 10) (.tmp 56), none⟩
       (.m ⟨none, .stN 6 (.tmp 11) (.tmp 61), none⟩
       .done))))
      (.m ⟨some 11, .new 42 (.agg #[.int .i64 0, .int .i64 0, .int .i64 0, .int .i64 0, .slice none 0 0, .slice none 0 0]), none⟩
       (.m ⟨some 10, .new 42 (.agg #[.int .i64 0, .int .i64 0, .int .i64 0, .int .i64 0, .slice none 0 0, .slice none 0 0]), none⟩
       (.m ⟨none, .stN 6 (.tmp 10) (.tmp 56), none⟩
       (.m ⟨none, .stN 6 (.tmp 11) (.tmp 61), none⟩
       .done))))))
     (.both (.m ⟨some 10, .new 42 (.agg #[.int .i64 0, .int .i64 0, .int .i64 0, .int .i64 0, .slice none 0 0, .slice none 0 0]), none⟩
       (.both (.f ⟨some 61, .ldN 6 (.tmp 60), none⟩
        (.m ⟨some 11, .new 42 (.agg #[.int .i64 0, .int .i64 0, .int .i64 0, .int .i64 0, .slice none 0 0, .slice none 0 0]), none⟩
        (.m ⟨none, .stN 6 (.tmp 10) (.tmp 56), none⟩
        (.m ⟨none, .stN 6 (.tmp 11) (.tmp 61), none⟩
        .done))))
       (.m ⟨some 11, .new 42 (.agg #[.int .i64 0, .int .i64 0, .int .i64 0, .int .i64 0, .slice none 0 0, .slice none 0 0]), none⟩
        (.both (.f ⟨some 61, .ldN 6 (.tmp 60), none⟩
         (.m ⟨none, .stN 6 (.tmp 10) (.tmp 56), none⟩
         (.m ⟨none, .stN 6 (.tmp 11) (.tmp 61), none⟩
         .done)))
        (.m ⟨none, .stN 6 (.tmp 10) (.tmp 56), none⟩
         (.f ⟨some 61, .ldN 6 (.tmp 60), none⟩
         (.m ⟨none, .stN 6 (.tmp 11) (.tmp 61), none⟩
         .done)))))))
      (.m ⟨some 11, .new 42 (.agg #[.int .i64 0, .int .i64 0, .int .i64 0, .int .i64 0, .slice none 0 0, .slice none 0 0]), none⟩
       (.both (.f ⟨some 61, .ldN 6 (.tmp 60), none⟩
        (.m ⟨some 10, .new 42 (.agg #[.int .i64 0, .int .i64 0, .int .i64 0, .int .i64 0, .slice none 0 0, .slice none 0 0]), none⟩
        (.m ⟨none, .stN 6 (.tmp 10) (.tmp 56), none⟩
        (.m ⟨none, .stN 6 (.tmp 11) (.tmp 61), none⟩
        .done))))
       (.m ⟨some 10, .new 42 (.agg #[.int .i64 0, .int .i64 0, .int .i64 0, .int .i64 0, .slice none 0 0, .slice none 0 0]), none⟩
        (.both (.f ⟨some 61, .ldN 6 (.tmp 60), none⟩
         (.m ⟨none, .stN 6 (.tmp 10) (.tmp 56), none⟩
         (.m ⟨none, .stN 6 (.tmp 11) (.tmp 61), none⟩
         .done)))
        (.m ⟨none, .stN 6 (.tmp 10) (.tmp 56), none⟩
         (.f ⟨some 61, .ldN 6 (.tmp 60), none⟩
         (.m ⟨none, .stN 6 (.tmp 11) (.tmp 61), none⟩
         .done)))))))))))
    (.both (.m ⟨some 10, .new 42 (.agg #[.int .i64 0, .int .i64 0, .int .i64 0, .int .i64 0, .slice none 0 0, .slice none 0 0]), none⟩
      (.both (.f ⟨some 59, .ld (.tmp 58), none⟩
       (.f ⟨some 60, .ixs 6 (.tmp 57) (.tmp 59), none⟩
       (.both (.f ⟨some 61, .ldN 6 (.tmp 60), none⟩
        (.m ⟨some 11, .new 42 (.agg #[.int .i64 0, .int .i64 0, .int .i64 0, .int .i64 0, .slice none 0 0, .slice none 0 0]), none⟩
        (.m ⟨none, .stN 6 (.tmp 10) (.tmp 56), none⟩
        (.m ⟨none, .stN 6 (.tmp 11) (.tmp 61), none⟩
        .done))))
       (.m ⟨some 11, .new 42 (.agg #[.int .i64 0, .int .i64 0, .int .i64 0, .int .i64 0, .slice none 0 0, .slice none 0 0]), none⟩
        (.both (.f ⟨some 61, .ldN 6 (.tmp 60), none⟩
         (.m ⟨none, .stN 6 (.tmp 10) (.tmp 56), none⟩
         (.m ⟨none, .stN 6 (.tmp 11) (.tmp 61), none⟩
         .done)))
        (.m ⟨none, .stN 6 (.tmp 10) (.tmp 56), none⟩
         (.f ⟨some 61, .ldN 6 (.tmp 60), none⟩
         (.m ⟨none, .stN 6 (.tmp 11) (.tmp 61), none⟩
         .done))))))))
      (.m ⟨some 11, .new 42 (.agg #[.int .i64 0, .int .i64 0, .int .i64 0, .int .i64 0, .slice none 0 0, .slice none 0 0]), none⟩
       (.both (.f ⟨some 59, .ld (.tmp 58), none⟩
        (.f ⟨some 60, .ixs 6 (.tmp 57) (.tmp 59), none⟩
        (.both (.f ⟨some 61, .ldN 6 (.tmp 60), none⟩
         (.m ⟨none, .stN 6 (.tmp 10) (.tmp 56), none⟩
         (.m ⟨none, .stN 6 (.tmp 11) (.tmp 61), none⟩
         .done)))
        (.m ⟨none, .stN 6 (.tmp 10) (.tmp 56), none⟩
         (.f ⟨some 61, .ldN 6 (.tmp 60), none⟩
         (.m ⟨none, .stN 6 (.tmp 11) (.tmp 61), none⟩
         .done))))))
       (.m ⟨none, .stN 6 (.tmp 10) (.tmp 56), none⟩
        (.f ⟨some 59, .ld (.tmp 58), none⟩
        (.f ⟨some 60, .ixs 6 (.tmp 57) (.tmp 59), none⟩
        (.f ⟨some 61, .ldN 6 (.tmp 60), none⟩
        (.m ⟨none, .stN 6 (.tmp 11) (.tmp 61), none⟩
        .done)))))))))
     (.m ⟨some 11, .new 42 (.agg #[.int .i64 0, .int .i64 0, .int .i64 0, .int .i64 0, .slice none 0 0, .slice none 0 0]), none⟩
      (.both (.f ⟨some 59, .ld (.tmp 58), none⟩
       (.f ⟨some 60, .ixs 6 (.tmp 57) (.tmp 59), none⟩
       (.both (.f ⟨some 61, .ldN 6 (.tmp 60), none⟩
        (.m ⟨some 10, .new 42 (.agg #[.int .i64 0, .int .i64 0, .int .i64 0, .int .i64 0, .slice none 0 0, .slice none 0 0]), none⟩
        (.m ⟨none, .stN 6 (.tmp 10) (.tmp 56), none⟩
        (.m ⟨none, .stN 6 (.tmp 11) (.tmp 61), none⟩
        .done))))
       (.m ⟨some 10, .new 42 (.agg #[.int .i64 0, .int .i64 0, .int .i64 0, .int .i64 0, .slice none 0 0, .slice none 0 0]), none⟩
        (.both (.f ⟨some 61, .ldN 6 (.tmp 60), none⟩
         (.m ⟨none, .stN 6 (.tmp 10) (.tmp 56), none⟩
         (.m ⟨none, .stN 6 (.tmp 11) (.tmp 61), none⟩
         .done)))
        (.m ⟨none, .stN 6 (.tmp 10) (.tmp 56), none⟩
         (.f ⟨some 61, .ldN 6 (.tmp 60), none⟩
         (.m ⟨none, .stN 6 (.tmp 11) (.tmp 61), none⟩
         .done))))))))
      (.m ⟨some 10, .new 42 (.agg #[.int .i64 0, .int .i64 0, .int .i64 0, .int .i64 0, .slice none 0 0, .slice none 0 0]), none⟩
       (.both (.f ⟨some 59, .ld (.tmp 58), none⟩
        (.f ⟨some 60, .ixs 6 (.tmp 57) (.tmp 59), none⟩
        (.both (.f ⟨some 61, .ldN 6 (.tmp 60), none⟩
         (.m ⟨none, .stN 6 (.tmp 10) (.tmp 56), none⟩
         (.m ⟨none, .stN 6 (.tmp 11) (.tmp 61), none⟩
         .done)))
        (.m ⟨none, .stN 6 (.tmp 10) (.tmp 56), none⟩
         (.f ⟨some 61, .ldN 6 (.tmp 60), none⟩
         (.m ⟨none, .stN 6 (.tmp 11) (.tmp 61), none⟩
         .done))))))
       (.m ⟨none, .stN 6 (.tmp 10) (.tmp 56), none⟩
        (.f ⟨some 59, .ld (.tmp 58), none⟩
        (.f ⟨some 60, .ixs 6 (.tmp 57) (.tmp 59), none⟩
        (.f ⟨some 61, .ldN 6 (.tmp 60), none⟩
        (.m ⟨none, .stN 6 (.tmp 11) (.tmp 61), none⟩
        .done)))))))))))))))))))
    (.seq (.seq (.region [
    ⟨some 62, .fad 1 (.tmp 10), none⟩,
    ⟨some 63, .ld (.tmp 62), none⟩,
    ⟨some 64, .fad 1 (.tmp 11), none⟩,
    ⟨some 65, .ld (.tmp 64), none⟩,
    ⟨some 66, .bin .eql (.tmp 63) (.tmp 65), none⟩,
    ⟨some 67, .mov (.tmp 66), none⟩,
    ⟨some 68, .fad 2 (.tmp 10), some (67, false)⟩,
    ⟨some 69, .ld (.tmp 68), some (67, false)⟩,
    ⟨some 70, .bin .eql (.tmp 69) (.const (.int .i64 4)), some (67, false)⟩,
    ⟨some 71, .mov (.tmp 70), some (67, false)⟩,
    ⟨some 72, .fad 2 (.tmp 11), some (71, true)⟩,
    ⟨some 73, .ld (.tmp 72), some (71, true)⟩,
    ⟨some 74, .bin .eql (.tmp 73) (.const (.int .i64 4)), some (71, true)⟩,
    ⟨some 75, .pick (.tmp 71) (.tmp 74) (.const (.bool false)), some (67, false)⟩,
    ⟨some 76, .pick (.tmp 67) (.const (.bool true)) (.tmp 75), none⟩,
    ⟨some 77, .mov (.tmp 76), none⟩,
    ⟨some 78, .ldN 6 (.tmp 10), some (77, false)⟩,
    ⟨some 79, .fad 2 (.tmp 9), some (77, false)⟩,
    ⟨some 80, .ld (.tmp 79), some (77, false)⟩,
    ⟨some 81, .call 35 [(.tmp 78), (.tmp 80)], some (77, false)⟩,
    ⟨some 82, .not (.tmp 81), some (77, false)⟩,
    ⟨some 83, .pick (.tmp 77) (.const (.bool true)) (.tmp 82), none⟩,
    ⟨some 84, .mov (.tmp 83), none⟩,
    ⟨some 85, .ldN 6 (.tmp 11), some (84, false)⟩,
    ⟨some 86, .fad 2 (.tmp 9), some (84, false)⟩,
    ⟨some 87, .ld (.tmp 86), some (84, false)⟩,
    ⟨some 88, .call 35 [(.tmp 85), (.tmp 87)], some (84, false)⟩,
    ⟨some 89, .not (.tmp 88), some (84, false)⟩,
    ⟨some 90, .pick (.tmp 84) (.const (.bool true)) (.tmp 89), none⟩,
    ⟨some 91, .mov (.tmp 90), none⟩,
    ⟨some 92, .ldN 6 (.tmp 10), some (91, false)⟩,
    ⟨some 93, .fad 2 (.tmp 9), some (91, false)⟩,
    ⟨some 94, .ld (.tmp 93), some (91, false)⟩,
    ⟨some 95, .call 36 [(.tmp 92), (.tmp 94)], some (91, false)⟩,
    ⟨some 96, .not (.tmp 95), some (91, false)⟩,
    ⟨some 97, .mov (.tmp 96), some (91, false)⟩,
    ⟨some 98, .ldN 6 (.tmp 11), some (97, true)⟩,
    ⟨some 99, .fad 2 (.tmp 9), some (97, true)⟩,
    ⟨some 100, .ld (.tmp 99), some (97, true)⟩,
    ⟨some 101, .call 36 [(.tmp 98), (.tmp 100)], some (97, true)⟩,
    ⟨some 102, .not (.tmp 101), some (97, true)⟩,
    ⟨some 103, .pick (.tmp 97) (.tmp 102) (.const (.bool false)), some (91, false)⟩,
    ⟨some 104, .pick (.tmp 91) (.const (.bool true)) (.tmp 103), none⟩])
    (.cond (.tmp 104)
     (.seq (.region [
     ⟨some 4, .mov (.const (.bool false)), none⟩])
     .ret)
     .skip))
    (.seq (.draw (.f ⟨some 105, .mov (.tmp 8), none⟩
    (.f ⟨some 106, .bin .gtr (.tmp 105) (.const (.int .i64 0)), none⟩
    (.f ⟨some 107, .mov (.tmp 106), none⟩
    (.f ⟨some 108, .mov (.tmp 7), some (107, true)⟩
    (.f ⟨some 109, .mov (.tmp 8), some (107, true)⟩
    (.f ⟨some 110, .bin .sub (.tmp 109) (.const (.int .i64 1)), some (107, true)⟩
    (.f ⟨some 111, .ixs 3 (.tmp 108) (.tmp 110), some (107, true)⟩
    (.f ⟨some 112, .fad 1 (.tmp 111), some (107, true)⟩
    (.f ⟨some 113, .ld (.tmp 112), some (107, true)⟩
    (.f ⟨some 114, .fad 1 (.tmp 9), some (107, true)⟩
    (.f ⟨some 115, .ld (.tmp 114), some (107, true)⟩
    (.f ⟨some 116, .bin .gtr (.tmp 113) (.tmp 115), some (107, true)⟩
    (.f ⟨some 117, .mov (.tmp 116), some (107, true)⟩
    (.f ⟨some 118, .mov (.tmp 7), some (117, false)⟩
    (.f ⟨some 119, .mov (.tmp 8), some (117, false)⟩
    (.f ⟨some 120, .bin .sub (.tmp 119) (.const (.int .i64 1)), some (117, false)⟩
    (.f ⟨some 121, .ixs 3 (.tmp 118) (.tmp 120), some (117, false)⟩
    (.f ⟨some 122, .fad 1 (.tmp 121), some (117, false)⟩
    (.f ⟨some 123, .ld (.tmp 122), some (117, false)⟩
    (.f ⟨some 124, .fad 1 (.tmp 9), some (117, false)⟩
    (.f ⟨some 125, .ld (.tmp 124), some (117, false)⟩
    (.f ⟨some 126, .bin .eql (.tmp 123) (.tmp 125), some (117, false)⟩
    (.f ⟨some 127, .mov (.tmp 126), some (117, false)⟩
    (.f ⟨some 128, .mov (.tmp 7), some (127, true)⟩
    (.f ⟨some 129, .mov (.tmp 8), some (127, true)⟩
    (.f ⟨some 130, .bin .sub (.tmp 129) (.const (.int .i64 1)), some (127, true)⟩
    (.f ⟨some 131, .ixs 3 (.tmp 128) (.tmp 130), some (127, true)⟩
    (.f ⟨some 132, .fad 2 (.tmp 131), some (127, true)⟩
    (.f ⟨some 133, .ld (.tmp 132), some (127, true)⟩
    (.f ⟨some 134, .fad 2 (.tmp 9), some (127, true)⟩
    (.f ⟨some 135, .ld (.tmp 134), some (127, true)⟩
    (.f ⟨some 136, .bin .gtr (.tmp 133) (.tmp 135), some (127, true)⟩
    (.f ⟨some 137, .pick (.tmp 127) (.tmp 136) (.const (.bool false)), some (117, false)⟩
    (.f ⟨some 138, .pick (.tmp 117) (.const (.bool true)) (.tmp 137), some (107, true)⟩
    (.f ⟨some 139, .pick (.tmp 107) (.tmp 138) (.const (.bool false)), none⟩
    .done))))))))))))))))))))))))))))))))))))
    (.cond (.tmp 139)
     (.seq (.region [
     ⟨some 4, .mov (.const (.bool false)), none⟩])
     .ret)
     .skip)))))))
   (.region [
   ⟨some 29, .mov (.tmp 8), none⟩,
   ⟨some 30, .bin .add (.tmp 29) (.const (.int .i64 1)), none⟩,
   ⟨some 8, .mov (.tmp 30), none⟩]))))))
 (.seq (.region [
 ⟨some 140, .mov (.tmp 7), none⟩,
 ⟨some 141, .len (.tmp 140), none⟩,
 ⟨some 142, .bin .gtr (.tmp 141) (.const (.int .i64 0)), none⟩,
 ⟨some 143, .mov (.tmp 6), none⟩,
 ⟨some 144, .mov (.tmp 5), none⟩,
 ⟨some 145, .call 37 [(.tmp 143), (.tmp 144)], none⟩,
 ⟨some 146, .fld 1 (.tmp 145), none⟩,
 ⟨some 147, .bin .geq (.tmp 146) (.const (.int .i64 0)), none⟩,
 ⟨some 148, .beq false (.tmp 142) (.tmp 147), none⟩,
 ⟨some 149, .mov (.tmp 148), none⟩,
 ⟨some 150, .call 27 [], some (149, true)⟩,
 ⟨some 151, .pick (.tmp 149) (.tmp 150) (.const (.bool false)), none⟩,
 ⟨some 4, .mov (.tmp 151), none⟩])
 .ret))))))),
 [.tmp 4]⟩
theorem lowc_law24_OrderRaces : lowFn Tryd.prog movers 14 = some ⟨irc_law24_OrderRaces.n, strip irc_law24_OrderRaces.body, irc_law24_OrderRaces.res⟩ := by kernel_rfl
end Go.Proofs.YtofjnldidkiihaaDoor
