/- What the laws of this seat share, part 8: contracts of the functions, plain laws, and the rules of their proofs. No condition. -/
import Derived.Test.YtofjnldidkiihaaDoorM7
namespace Go.Proofs.YtofjnldidkiihaaDoor
open Go
set_option maxRecDepth 100000
def irc_tdrf_Checker_end : IFn := ⟨125,
 (.seq (.region [
 ⟨some 3, .box 42 (.tmp 1), none⟩])
 (.seq (.region [
 ⟨some 12, .fad 4 (.tmp 3), none⟩,
 ⟨some 13, .ld (.tmp 12), none⟩,
 ⟨some 14, .fad 5 (.tmp 3), none⟩,
 ⟨some 15, .ld (.tmp 14), none⟩,
 ⟨some 16, .blds 22 2 [(.slice none 0 0), (.slice none 0 0)] [(0, 1, (.tmp 13)), (1, 1, (.tmp 15))], none⟩,
 ⟨some 17, .call 62 [(.tmp 16)], none⟩,
 ⟨some 4, .mov (.tmp 17), none⟩])
 (.seq (.region [
 ⟨some 18, .mov (.tmp 4), none⟩,
 ⟨some 19, .call 63 [(.tmp 18)], none⟩])
 (.cut (.seq (.region [
 ⟨some 20, .mov (.tmp 4), none⟩,
 ⟨some 21, .call 64 [(.tmp 20)], none⟩,
 ⟨some 22, .len (.tmp 21), none⟩,
 ⟨some 23, .mov (.const (.int .i64 0)), none⟩])
 (.block 0
  (.loop 4503599618981952
   (.seq (.region [
   ⟨some 24, .bin .lss (.tmp 23) (.tmp 22), none⟩])
   (.seq (.cond (.tmp 24)
    .skip
    (.exit 0))
   (.seq (.block 1
    (.seq (.region [
    ⟨some 25, .ixs 1 (.tmp 21) (.tmp 23), none⟩,
    ⟨some 26, .ld (.tmp 25), none⟩,
    ⟨some 6, .mov (.tmp 26), none⟩])
    (.seq (.draw (.f ⟨some 27, .mov (.tmp 0), none⟩
    (.f ⟨some 28, .nilc (.tmp 27), none⟩
    (.f ⟨some 29, .fad 261 (.tmp 28), none⟩
    (.f ⟨some 30, .ldN 3 (.tmp 29), none⟩
    (.f ⟨some 31, .ldN 3 (.global 0), none⟩
    (.f ⟨some 32, .ageq false [0, 0, 0] (.tmp 30) (.tmp 31), none⟩
    (.f ⟨some 33, .mov (.tmp 32), none⟩
    (.f ⟨some 34, .mov (.tmp 0), some (33, true)⟩
    (.f ⟨some 35, .ldN 6 (.tmp 3), some (33, true)⟩
    (.f ⟨some 36, .mov (.tmp 6), some (33, true)⟩
    (.f ⟨some 37, .fad 5 (.tmp 3), some (33, true)⟩
    (.f ⟨some 38, .ld (.tmp 37), some (33, true)⟩
    (.f ⟨some 39, .mov (.tmp 6), some (33, true)⟩
    (.f ⟨some 40, .call 66 [(.tmp 38), (.tmp 39)], some (33, true)⟩
    (.f ⟨some 41, .mov (.tmp 0), some (33, true)⟩
    (.f ⟨some 42, .nilc (.tmp 41), some (33, true)⟩
    (.f ⟨some 43, .fad 4 (.tmp 42), some (33, true)⟩
    (.f ⟨some 44, .ld (.tmp 43), some (33, true)⟩
    (.f ⟨some 45, .fad 1 (.tmp 3), some (33, true)⟩
    (.f ⟨some 46, .ld (.tmp 45), some (33, true)⟩
    (.f ⟨some 47, .ixs 1 (.tmp 44) (.tmp 46), some (33, true)⟩
    (.f ⟨some 48, .ld (.tmp 47), some (33, true)⟩
    (.m ⟨some 49, .call 65 [(.tmp 34), (.tmp 35), (.tmp 36), (.tmp 40), (.tmp 48)], some (33, true)⟩
    (.f ⟨some 50, .pick (.tmp 33) (.tmp 49) (.const (.bool false)), none⟩
    .done)))))))))))))))))))))))))
    (.cond (.tmp 50)
     (.exit 0)
     .skip))))
   (.region [
   ⟨some 51, .bin .add (.tmp 23) (.const (.int .i64 1)), none⟩,
   ⟨some 23, .mov (.tmp 51), none⟩])))))))
 (.seq (.draw (.f ⟨some 52, .mov (.tmp 0), none⟩
 (.f ⟨some 53, .nilc (.tmp 52), none⟩
 (.f ⟨some 54, .fad 2 (.tmp 53), none⟩
 (.f ⟨some 55, .ld (.tmp 54), none⟩
 (.f ⟨some 56, .fad 1 (.tmp 3), none⟩
 (.f ⟨some 57, .ld (.tmp 56), none⟩
 (.f ⟨some 58, .ixs 1 (.tmp 55) (.tmp 57), none⟩
 (.f ⟨some 59, .ld (.tmp 58), none⟩
 (.f ⟨some 60, .bin .add (.tmp 59) (.const (.int .i64 1)), none⟩
 (.f ⟨some 61, .ixs 1 (.tmp 55) (.tmp 57), none⟩
 (.m ⟨none, .st (.tmp 61) (.tmp 60), none⟩
 .done))))))))))))
 (.cut (.draw (.f ⟨some 62, .mov (.tmp 0), none⟩
 (.f ⟨some 63, .nilc (.tmp 62), none⟩
 (.f ⟨some 64, .fad 3 (.tmp 63), none⟩
 (.f ⟨some 66, .fad 1 (.tmp 3), none⟩
 (.f ⟨some 68, .mov (.tmp 0), none⟩
 (.f ⟨some 69, .nilc (.tmp 68), none⟩
 (.f ⟨some 70, .fad 2 (.tmp 69), none⟩
 (.f ⟨some 71, .ld (.tmp 70), none⟩
 (.both (.f ⟨some 65, .ld (.tmp 64), none⟩
  (.both (.f ⟨some 67, .ld (.tmp 66), none⟩
   (.m ⟨some 72, .call 44 [(.tmp 71)], none⟩
   (.f ⟨some 73, .ixs 1 (.tmp 65) (.tmp 67), none⟩
   (.m ⟨none, .st (.tmp 73) (.tmp 72), none⟩
   .done))))
  (.m ⟨some 72, .call 44 [(.tmp 71)], none⟩
   (.f ⟨some 67, .ld (.tmp 66), none⟩
   (.f ⟨some 73, .ixs 1 (.tmp 65) (.tmp 67), none⟩
   (.m ⟨none, .st (.tmp 73) (.tmp 72), none⟩
   .done))))))
 (.both (.f ⟨some 67, .ld (.tmp 66), none⟩
   (.both (.f ⟨some 65, .ld (.tmp 64), none⟩
    (.m ⟨some 72, .call 44 [(.tmp 71)], none⟩
    (.f ⟨some 73, .ixs 1 (.tmp 65) (.tmp 67), none⟩
    (.m ⟨none, .st (.tmp 73) (.tmp 72), none⟩
    .done))))
   (.m ⟨some 72, .call 44 [(.tmp 71)], none⟩
    (.f ⟨some 65, .ld (.tmp 64), none⟩
    (.f ⟨some 73, .ixs 1 (.tmp 65) (.tmp 67), none⟩
    (.m ⟨none, .st (.tmp 73) (.tmp 72), none⟩
    .done))))))
  (.m ⟨some 72, .call 44 [(.tmp 71)], none⟩
   (.both (.f ⟨some 65, .ld (.tmp 64), none⟩
    (.f ⟨some 67, .ld (.tmp 66), none⟩
    (.f ⟨some 73, .ixs 1 (.tmp 65) (.tmp 67), none⟩
    (.m ⟨none, .st (.tmp 73) (.tmp 72), none⟩
    .done))))
   (.f ⟨some 67, .ld (.tmp 66), none⟩
    (.f ⟨some 65, .ld (.tmp 64), none⟩
    (.f ⟨some 73, .ixs 1 (.tmp 65) (.tmp 67), none⟩
    (.m ⟨none, .st (.tmp 73) (.tmp 72), none⟩
    .done)))))))))))))))))
 (.seq (.draw (.f ⟨some 74, .mov (.tmp 0), none⟩
 (.f ⟨some 75, .nilc (.tmp 74), none⟩
 (.f ⟨some 76, .fad 0 (.tmp 75), none⟩
 (.f ⟨some 77, .ld (.tmp 76), none⟩
 (.f ⟨some 78, .mov (.tmp 0), none⟩
 (.f ⟨some 79, .nilc (.tmp 78), none⟩
 (.f ⟨some 80, .fad 2 (.tmp 79), none⟩
 (.f ⟨some 81, .ld (.tmp 80), none⟩
 (.f ⟨some 82, .fad 1 (.tmp 3), none⟩
 (.f ⟨some 83, .ld (.tmp 82), none⟩
 (.f ⟨some 84, .ixs 1 (.tmp 81) (.tmp 83), none⟩
 (.f ⟨some 85, .ld (.tmp 84), none⟩
 (.f ⟨some 86, .bld [(.int .i64 0), (.int .i64 0)] [(0, 1, (.tmp 77)), (1, 1, (.tmp 85))], none⟩
 (.m ⟨some 7, .new 91 (.agg #[.int .i64 0, .int .i64 0]), none⟩
 (.m ⟨none, .stN 2 (.tmp 7) (.tmp 86), none⟩
 .done))))))))))))))))
 (.seq (.seq (.region [
 ⟨some 87, .fad 4 (.tmp 3), none⟩,
 ⟨some 88, .ld (.tmp 87), none⟩,
 ⟨some 89, .len (.tmp 88), none⟩,
 ⟨some 90, .mov (.const (.int .i64 0)), none⟩])
 (.block 2
  (.loop 81128400474567396315514106020352
   (.seq (.region [
   ⟨some 91, .bin .lss (.tmp 90) (.tmp 89), none⟩])
   (.seq (.cond (.tmp 91)
    .skip
    (.exit 2))
   (.seq (.block 3
    (.seq (.region [
    ⟨some 92, .ixs 1 (.tmp 88) (.tmp 90), none⟩,
    ⟨some 93, .ld (.tmp 92), none⟩,
    ⟨some 9, .mov (.tmp 93), none⟩])
    (.draw (.f ⟨some 94, .mov (.tmp 0), none⟩
    (.f ⟨some 95, .mov (.tmp 9), none⟩
    (.f ⟨some 96, .nilc (.tmp 94), none⟩
    (.f ⟨some 97, .fad 5 (.tmp 96), none⟩
    (.f ⟨some 98, .ixa 64 4 (.tmp 97) (.tmp 95), none⟩
    (.f ⟨some 99, .fad 2 (.tmp 98), none⟩
    (.f ⟨some 100, .ld (.tmp 99), none⟩
    (.f ⟨some 101, .fad 1 (.tmp 3), none⟩
    (.f ⟨some 102, .ld (.tmp 101), none⟩
    (.f ⟨some 103, .ldN 2 (.tmp 7), none⟩
    (.f ⟨some 104, .ixs 2 (.tmp 100) (.tmp 102), none⟩
    (.m ⟨none, .stN 2 (.tmp 104) (.tmp 103), none⟩
    .done)))))))))))))))
   (.region [
   ⟨some 105, .bin .add (.tmp 90) (.const (.int .i64 1)), none⟩,
   ⟨some 90, .mov (.tmp 105), none⟩])))))))
 (.seq (.region [
 ⟨some 106, .fad 5 (.tmp 3), none⟩,
 ⟨some 107, .ld (.tmp 106), none⟩,
 ⟨some 108, .len (.tmp 107), none⟩,
 ⟨some 109, .mov (.const (.int .i64 0)), none⟩])
 (.block 4
  (.loop 42534646828009991079468259616929875968
   (.seq (.region [
   ⟨some 110, .bin .lss (.tmp 109) (.tmp 108), none⟩])
   (.seq (.cond (.tmp 110)
    .skip
    (.exit 4))
   (.seq (.block 5
    (.seq (.region [
    ⟨some 111, .ixs 1 (.tmp 107) (.tmp 109), none⟩,
    ⟨some 112, .ld (.tmp 111), none⟩,
    ⟨some 11, .mov (.tmp 112), none⟩])
    (.draw (.f ⟨some 113, .mov (.tmp 0), none⟩
    (.f ⟨some 114, .mov (.tmp 11), none⟩
    (.f ⟨some 115, .nilc (.tmp 113), none⟩
    (.f ⟨some 116, .fad 5 (.tmp 115), none⟩
    (.f ⟨some 117, .ixa 64 4 (.tmp 116) (.tmp 114), none⟩
    (.f ⟨some 118, .fad 3 (.tmp 117), none⟩
    (.f ⟨some 119, .ld (.tmp 118), none⟩
    (.f ⟨some 120, .fad 1 (.tmp 3), none⟩
    (.f ⟨some 121, .ld (.tmp 120), none⟩
    (.f ⟨some 122, .ldN 2 (.tmp 7), none⟩
    (.f ⟨some 123, .ixs 2 (.tmp 119) (.tmp 121), none⟩
    (.m ⟨none, .stN 2 (.tmp 123) (.tmp 122), none⟩
    .done)))))))))))))))
   (.region [
   ⟨some 124, .bin .add (.tmp 109) (.const (.int .i64 1)), none⟩,
   ⟨some 109, .mov (.tmp 124), none⟩]))))))))))))))),
 []⟩
theorem lowc_tdrf_Checker_end : lowFn Tryd.prog movers 45 = some ⟨irc_tdrf_Checker_end.n, strip irc_tdrf_Checker_end.body, irc_tdrf_Checker_end.res⟩ := by kernel_rfl
def irc_tdrf_Checker_Add : IFn := ⟨77,
 (.seq (.region [
 ⟨some 3, .box 42 (.tmp 1), none⟩,
 ⟨some 4, .new 28 (.agg #[.int .i64 0, .int .i64 0, .int .i64 0]), none⟩,
 ⟨some 5, .mov (.const (.int .i64 0)), none⟩])
 (.seq (.block 0
  (.seq (.region [
  ⟨some 7, .mov (.tmp 0), none⟩,
  ⟨some 8, .nilq false 1 (.tmp 7) (.const (.pointer none)), none⟩,
  ⟨some 6, .mov (.tmp 8), none⟩])
  (.cond (.tmp 6)
   (.seq (.region [
   ⟨some 9, .ldN 3 (.global 0), none⟩,
   ⟨none, .stN 3 (.tmp 4) (.tmp 9), none⟩,
   ⟨some 5, .mov (.const (.int .i64 1)), none⟩])
   .ret)
   (.seq (.region [
   ⟨some 11, .mov (.tmp 0), none⟩,
   ⟨some 12, .nilc (.tmp 11), none⟩,
   ⟨some 13, .fad 0 (.tmp 12), none⟩,
   ⟨some 14, .ld (.tmp 13), none⟩,
   ⟨some 15, .bin .eql (.tmp 14) (.const (.int .i64 65536)), none⟩,
   ⟨some 10, .mov (.tmp 15), none⟩])
   (.cond (.tmp 10)
    (.seq (.region [
    ⟨some 16, .ldN 3 (.global 0), none⟩,
    ⟨none, .stN 3 (.tmp 4) (.tmp 16), none⟩,
    ⟨some 5, .mov (.const (.int .i64 3)), none⟩])
    .ret)
    (.seq (.region [
    ⟨some 18, .mov (.tmp 0), none⟩,
    ⟨some 19, .ldN 6 (.tmp 3), none⟩,
    ⟨some 20, .call 43 [(.tmp 18), (.tmp 19)], none⟩,
    ⟨some 21, .not (.tmp 20), none⟩,
    ⟨some 17, .mov (.tmp 21), none⟩])
    (.cond (.tmp 17)
     (.seq (.region [
     ⟨some 22, .ldN 3 (.global 0), none⟩,
     ⟨none, .stN 3 (.tmp 4) (.tmp 22), none⟩,
     ⟨some 5, .mov (.const (.int .i64 91)), none⟩])
     .ret)
     .skip)))))))
 (.cut (.seq (.region [
 ⟨some 23, .fad 2 (.tmp 3), none⟩,
 ⟨some 24, .ld (.tmp 23), none⟩])
 (.block 1
  (.seq (.region [
  ⟨some 36, .bin .eql (.tmp 24) (.const (.int .i64 3)), none⟩,
  ⟨some 35, .mov (.tmp 36), none⟩])
  (.cond (.tmp 35)
   (.draw (.f ⟨some 37, .mov (.tmp 0), none⟩
   (.f ⟨some 38, .nilc (.tmp 37), none⟩
   (.f ⟨some 39, .fad 4 (.tmp 38), none⟩
   (.f ⟨some 41, .fad 1 (.tmp 3), none⟩
   (.f ⟨some 43, .mov (.tmp 0), none⟩
   (.f ⟨some 44, .nilc (.tmp 43), none⟩
   (.f ⟨some 45, .fad 2 (.tmp 44), none⟩
   (.f ⟨some 46, .ld (.tmp 45), none⟩
   (.both (.f ⟨some 40, .ld (.tmp 39), none⟩
    (.both (.f ⟨some 42, .ld (.tmp 41), none⟩
     (.m ⟨some 47, .call 44 [(.tmp 46)], none⟩
     (.f ⟨some 48, .ixs 1 (.tmp 40) (.tmp 42), none⟩
     (.m ⟨none, .st (.tmp 48) (.tmp 47), none⟩
     .done))))
    (.m ⟨some 47, .call 44 [(.tmp 46)], none⟩
     (.f ⟨some 42, .ld (.tmp 41), none⟩
     (.f ⟨some 48, .ixs 1 (.tmp 40) (.tmp 42), none⟩
     (.m ⟨none, .st (.tmp 48) (.tmp 47), none⟩
     .done))))))
   (.both (.f ⟨some 42, .ld (.tmp 41), none⟩
     (.both (.f ⟨some 40, .ld (.tmp 39), none⟩
      (.m ⟨some 47, .call 44 [(.tmp 46)], none⟩
      (.f ⟨some 48, .ixs 1 (.tmp 40) (.tmp 42), none⟩
      (.m ⟨none, .st (.tmp 48) (.tmp 47), none⟩
      .done))))
     (.m ⟨some 47, .call 44 [(.tmp 46)], none⟩
      (.f ⟨some 40, .ld (.tmp 39), none⟩
      (.f ⟨some 48, .ixs 1 (.tmp 40) (.tmp 42), none⟩
      (.m ⟨none, .st (.tmp 48) (.tmp 47), none⟩
      .done))))))
    (.m ⟨some 47, .call 44 [(.tmp 46)], none⟩
     (.both (.f ⟨some 40, .ld (.tmp 39), none⟩
      (.f ⟨some 42, .ld (.tmp 41), none⟩
      (.f ⟨some 48, .ixs 1 (.tmp 40) (.tmp 42), none⟩
      (.m ⟨none, .st (.tmp 48) (.tmp 47), none⟩
      .done))))
     (.f ⟨some 42, .ld (.tmp 41), none⟩
      (.f ⟨some 40, .ld (.tmp 39), none⟩
      (.f ⟨some 48, .ixs 1 (.tmp 40) (.tmp 42), none⟩
      (.m ⟨none, .st (.tmp 48) (.tmp 47), none⟩
      .done)))))))))))))))))
   (.seq (.region [
   ⟨some 50, .bin .eql (.tmp 24) (.const (.int .i64 4)), none⟩,
   ⟨some 49, .mov (.tmp 50), none⟩])
   (.cond (.tmp 49)
    (.seq (.region [
    ⟨some 51, .mov (.tmp 0), none⟩,
    ⟨some 52, .ldN 6 (.tmp 3), none⟩,
    ⟨some 53, .call 45 [(.tmp 51), (.tmp 52)], none⟩])
    (.draw (.f ⟨some 54, .mov (.tmp 0), none⟩
    (.f ⟨some 55, .nilc (.tmp 54), none⟩
    (.f ⟨some 56, .fad 4 (.tmp 55), none⟩
    (.f ⟨some 57, .ld (.tmp 56), none⟩
    (.f ⟨some 58, .fad 1 (.tmp 3), none⟩
    (.f ⟨some 59, .ld (.tmp 58), none⟩
    (.f ⟨some 60, .ixs 1 (.tmp 57) (.tmp 59), none⟩
    (.m ⟨none, .st (.tmp 60) (.const (.slice none 0 0)), none⟩
    .done))))))))))
    (.seq (.region [
    ⟨some 25, .mov (.tmp 0), none⟩,
    ⟨some 26, .ldN 6 (.tmp 3), none⟩,
    ⟨some 27, .call 46 [(.tmp 25), (.tmp 26)], none⟩])
    (.draw (.f ⟨some 28, .mov (.tmp 0), none⟩
    (.f ⟨some 29, .nilc (.tmp 28), none⟩
    (.f ⟨some 30, .fad 4 (.tmp 29), none⟩
    (.f ⟨some 31, .ld (.tmp 30), none⟩
    (.f ⟨some 32, .fad 1 (.tmp 3), none⟩
    (.f ⟨some 33, .ld (.tmp 32), none⟩
    (.f ⟨some 34, .ixs 1 (.tmp 31) (.tmp 33), none⟩
    (.m ⟨none, .st (.tmp 34) (.const (.slice none 0 0)), none⟩
    .done))))))))))))))))
 (.seq (.region [
 ⟨some 61, .mov (.tmp 0), none⟩,
 ⟨some 62, .fad 0 (.tmp 3), none⟩,
 ⟨some 63, .ld (.tmp 62), none⟩,
 ⟨some 64, .nilc (.tmp 61), none⟩,
 ⟨some 65, .fad 1 (.tmp 64), none⟩,
 ⟨none, .st (.tmp 65) (.tmp 63), none⟩])
 (.seq (.region [
 ⟨some 66, .mov (.tmp 0), none⟩,
 ⟨some 67, .nilc (.tmp 66), none⟩,
 ⟨some 68, .fad 0 (.tmp 67), none⟩,
 ⟨some 69, .ld (.tmp 68), none⟩,
 ⟨some 70, .bin .add (.tmp 69) (.const (.int .i64 1)), none⟩,
 ⟨some 71, .nilc (.tmp 66), none⟩,
 ⟨some 72, .fad 0 (.tmp 71), none⟩,
 ⟨none, .st (.tmp 72) (.tmp 70), none⟩])
 (.seq (.region [
 ⟨some 73, .mov (.tmp 0), none⟩,
 ⟨some 74, .nilc (.tmp 73), none⟩,
 ⟨some 75, .fad 261 (.tmp 74), none⟩,
 ⟨some 76, .ldN 3 (.tmp 75), none⟩,
 ⟨none, .stN 3 (.tmp 4) (.tmp 76), none⟩,
 ⟨some 5, .mov (.const (.int .i64 0)), none⟩])
 .ret)))))),
 [.cellN 4 3, .tmp 5]⟩
theorem lowc_tdrf_Checker_Add : lowFn Tryd.prog movers 26 = some ⟨irc_tdrf_Checker_Add.n, strip irc_tdrf_Checker_Add.body, irc_tdrf_Checker_Add.res⟩ := by kernel_rfl
end Go.Proofs.YtofjnldidkiihaaDoor
namespace Go.Proofs.YtofjnldidkiihaaDoor
open Go
set_option maxRecDepth 100000
def irc_tdrf_New : IFn := ⟨55,
 (.seq (.region [
 ⟨some 1, .box 3 (.tmp 0), none⟩,
 ⟨some 2, .mov (.const (.pointer none)), none⟩,
 ⟨some 3, .mov (.const (.int .i64 0)), none⟩])
 (.seq (.seq (.region [
 ⟨some 7, .ld (.tmp 1), none⟩,
 ⟨some 8, .bin .lss (.tmp 7) (.const (.int .i64 1)), none⟩,
 ⟨some 9, .mov (.tmp 8), none⟩,
 ⟨some 10, .ld (.tmp 1), some (9, false)⟩,
 ⟨some 11, .bin .gtr (.tmp 10) (.const (.int .i64 16)), some (9, false)⟩,
 ⟨some 12, .pick (.tmp 9) (.const (.bool true)) (.tmp 11), none⟩])
 (.cond (.tmp 12)
  (.seq (.region [
  ⟨some 2, .mov (.const (.pointer none)), none⟩,
  ⟨some 3, .mov (.const (.int .i64 54)), none⟩])
  .ret)
  .skip))
 (.cut (.draw (.f ⟨some 13, .ld (.tmp 1), none⟩
 (.f ⟨some 15, .ld (.tmp 1), none⟩
 (.f ⟨some 17, .ldN 3 (.global 0), none⟩
 (.both (.m ⟨some 14, .mk 3 1 8 [(.int .i64 0)] (.tmp 13) (.tmp 13), none⟩
  (.m ⟨some 16, .mk 22 1 24 [(.slice none 0 0)] (.tmp 15) (.tmp 15), none⟩
  (.f ⟨some 18, .bld [(.int .i64 0), (.int .i64 0), (.slice none 0 0), (.slice none 0 0), (.slice none 0 0), (.slice none 0 0), (.slice none 0 0), (.slice none 0 0), (.slice none 0 0), (.slice none 0 0), (.slice none 0 0), (.slice none 0 0), (.slice none 0 0), (.slice none 0 0), (.slice none 0 0), (.slice none 0 0), (.slice none 0 0), (.slice none 0 0), (.slice none 0 0), (.slice none 0 0), (.slice none 0 0), (.slice none 0 0), (.slice none 0 0), (.slice none 0 0), (.slice none 0 0), (.slice none 0 0), (.slice none 0 0), (.slice none 0 0), (.slice none 0 0), (.slice none 0 0), (.slice none 0 0), (.slice none 0 0), (.slice none 0 0), (.slice none 0 0), (.slice none 0 0), (.slice none 0 0), (.slice none 0 0), (.slice none 0 0), (.slice none 0 0), (.slice none 0 0), (.slice none 0 0), (.slice none 0 0), (.slice none 0 0), (.slice none 0 0), (.slice none 0 0), (.slice none 0 0), (.slice none 0 0), (.slice none 0 0), (.slice none 0 0), (.slice none 0 0), (.slice none 0 0), (.slice none 0 0), (.slice none 0 0), (.slice none 0 0), (.slice none 0 0), (.slice none 0 0), (.slice none 0 0), (.slice none 0 0), (.slice none 0 0), (.slice none 0 0), (.slice none 0 0), (.slice none 0 0), (.slice none 0 0), (.slice none 0 0), (.slice none 0 0), (.slice none 0 0), (.slice none 0 0), (.slice none 0 0), (.slice none 0 0), (.slice none 0 0), (.slice none 0 0), (.slice none 0 0), (.slice none 0 0), (.slice none 0 0), (.slice none 0 0), (.slice none 0 0), (.slice none 0 0), (.slice none 0 0), (.slice none 0 0), (.slice none 0 0), (.slice none 0 0), (.slice none 0 0), (.slice none 0 0), (.slice none 0 0), (.slice none 0 0), (.slice none 0 0), (.slice none 0 0), (.slice none 0 0), (.slice none 0 0), (.slice none 0 0), (.slice none 0 0), (.slice none 0 0), (.slice none 0 0), (.slice none 0 0), (.slice none 0 0), (.slice none 0 0), (.slice none 0 0), (.slice none 0 0), (.slice none 0 0), (.slice none 0 0), (.slice none 0 0), (.slice none 0 0), (.slice none 0 0), (.slice none 0 0), (.slice none 0 0), (.slice none 0 0), (.slice none 0 0), (.slice none 0 0), (.slice none 0 0), (.slice none 0 0), (.slice none 0 0), (.slice none 0 0), (.slice none 0 0), (.slice none 0 0), (.slice none 0 0), (.slice none 0 0), (.slice none 0 0), (.slice none 0 0), (.slice none 0 0), (.slice none 0 0), (.slice none 0 0), (.slice none 0 0), (.slice none 0 0), (.slice none 0 0), (.slice none 0 0), (.slice none 0 0), (.slice none 0 0), (.slice none 0 0), (.slice none 0 0), (.slice none 0 0), (.slice none 0 0), (.slice none 0 0), (.slice none 0 0), (.slice none 0 0), (.slice none 0 0), (.slice none 0 0), (.slice none 0 0), (.slice none 0 0), (.slice none 0 0), (.slice none 0 0), (.slice none 0 0), (.slice none 0 0), (.slice none 0 0), (.slice none 0 0), (.slice none 0 0), (.slice none 0 0), (.slice none 0 0), (.slice none 0 0), (.slice none 0 0), (.slice none 0 0), (.slice none 0 0), (.slice none 0 0), (.slice none 0 0), (.slice none 0 0), (.slice none 0 0), (.slice none 0 0), (.slice none 0 0), (.slice none 0 0), (.slice none 0 0), (.slice none 0 0), (.slice none 0 0), (.slice none 0 0), (.slice none 0 0), (.slice none 0 0), (.slice none 0 0), (.slice none 0 0), (.slice none 0 0), (.slice none 0 0), (.slice none 0 0), (.slice none 0 0), (.slice none 0 0), (.slice none 0 0), (.slice none 0 0), (.slice none 0 0), (.slice none 0 0), (.slice none 0 0), (.slice none 0 0), (.slice none 0 0), (.slice none 0 0), (.slice none 0 0), (.slice none 0 0), (.slice none 0 0), (.slice none 0 0), (.slice none 0 0), (.slice none 0 0), (.slice none 0 0), (.slice none 0 0), (.slice none 0 0), (.slice none 0 0), (.slice none 0 0), (.slice none 0 0), (.slice none 0 0), (.slice none 0 0), (.slice none 0 0), (.slice none 0 0), (.slice none 0 0), (.slice none 0 0), (.slice none 0 0), (.slice none 0 0), (.slice none 0 0), (.slice none 0 0), (.slice none 0 0), (.slice none 0 0), (.slice none 0 0), (.slice none 0 0), (.slice none 0 0), (.slice none 0 0), (.slice none 0 0), (.slice none 0 0), (.slice none 0 0), (.slice none 0 0), (.slice none 0 0), (.slice none 0 0), (.slice none 0 0), (.slice none 0 0), (.slice none 0 0), (.slice none 0 0), (.slice none 0 0), (.slice none 0 0), (.slice none 0 0), (.slice none 0 0), (.slice none 0 0), (.slice none 0 0), (.slice none 0 0), (.slice none 0 0), (.slice none 0 0), (.slice none 0 0), (.slice none 0 0), (.slice none 0 0), (.slice none 0 0), (.slice none 0 0), (.slice none 0 0), (.slice none 0 0), (.slice none 0 0), (.slice none 0 0), (.slice none 0 0), (.slice none 0 0), (.slice none 0 0), (.slice none 0 0), (.slice none 0 0), (.slice none 0 0), (.slice none 0 0), (.slice none 0 0), (.slice none 0 0), (.slice none 0 0), (.slice none 0 0), (.slice none 0 0), (.slice none 0 0), (.slice none 0 0), (.slice none 0 0), (.slice none 0 0), (.slice none 0 0), (.slice none 0 0), (.slice none 0 0), (.slice none 0 0), (.slice none 0 0), (.slice none 0 0), (.slice none 0 0), (.slice none 0 0), (.slice none 0 0), (.slice none 0 0), (.int .i64 0), (.int .i64 0), (.int .i64 0)] [(2, 1, (.tmp 14)), (4, 1, (.tmp 16)), (261, 3, (.tmp 17))], none⟩
  (.m ⟨some 19, .box 68 (.tmp 18), none⟩
  (.f ⟨some 4, .mov (.tmp 19), none⟩
  .done)))))
 (.m ⟨some 16, .mk 22 1 24 [(.slice none 0 0)] (.tmp 15) (.tmp 15), none⟩
  (.m ⟨some 14, .mk 3 1 8 [(.int .i64 0)] (.tmp 13) (.tmp 13), none⟩
  (.f ⟨some 18, .bld [(.int .i64 0), (.int .i64 0), (.slice none 0 0), (.slice none 0 0), (.slice none 0 0), (.slice none 0 0), (.slice none 0 0), (.slice none 0 0), (.slice none 0 0), (.slice none 0 0), (.slice none 0 0), (.slice none 0 0), (.slice none 0 0), (.slice none 0 0), (.slice none 0 0), (.slice none 0 0), (.slice none 0 0), (.slice none 0 0), (.slice none 0 0), (.slice none 0 0), (.slice none 0 0), (.slice none 0 0), (.slice none 0 0), (.slice none 0 0), (.slice none 0 0), (.slice none 0 0), (.slice none 0 0), (.slice none 0 0), (.slice none 0 0), (.slice none 0 0), (.slice none 0 0), (.slice none 0 0), (.slice none 0 0), (.slice none 0 0), (.slice none 0 0), (.slice none 0 0), (.slice none 0 0), (.slice none 0 0), (.slice none 0 0), (.slice none 0 0), (.slice none 0 0), (.slice none 0 0), (.slice none 0 0), (.slice none 0 0), (.slice none 0 0), (.slice none 0 0), (.slice none 0 0), (.slice none 0 0), (.slice none 0 0), (.slice none 0 0), (.slice none 0 0), (.slice none 0 0), (.slice none 0 0), (.slice none 0 0), (.slice none 0 0), (.slice none 0 0), (.slice none 0 0), (.slice none 0 0), (.slice none 0 0), (.slice none 0 0), (.slice none 0 0), (.slice none 0 0), (.slice none 0 0), (.slice none 0 0), (.slice none 0 0), (.slice none 0 0), (.slice none 0 0), (.slice none 0 0), (.slice none 0 0), (.slice none 0 0), (.slice none 0 0), (.slice none 0 0), (.slice none 0 0), (.slice none 0 0), (.slice none 0 0), (.slice none 0 0), (.slice none 0 0), (.slice none 0 0), (.slice none 0 0), (.slice none 0 0), (.slice none 0 0), (.slice none 0 0), (.slice none 0 0), (.slice none 0 0), (.slice none 0 0), (.slice none 0 0), (.slice none 0 0), (.slice none 0 0), (.slice none 0 0), (.slice none 0 0), (.slice none 0 0), (.slice none 0 0), (.slice none 0 0), (.slice none 0 0), (.slice none 0 0), (.slice none 0 0), (.slice none 0 0), (.slice none 0 0), (.slice none 0 0), (.slice none 0 0), (.slice none 0 0), (.slice none 0 0), (.slice none 0 0), (.slice none 0 0), (.slice none 0 0), (.slice none 0 0), (.slice none 0 0), (.slice none 0 0), (.slice none 0 0), (.slice none 0 0), (.slice none 0 0), (.slice none 0 0), (.slice none 0 0), (.slice none 0 0), (.slice none 0 0), (.slice none 0 0), (.slice none 0 0), (.slice none 0 0), (.slice none 0 0), (.slice none 0 0), (.slice none 0 0), (.slice none 0 0), (.slice none 0 0), (.slice none 0 0), (.slice none 0 0), (.slice none 0 0), (.slice none 0 0), (.slice none 0 0), (.slice none 0 0), (.slice none 0 0), (.slice none 0 0), (.slice none 0 0), (.slice none 0 0), (.slice none 0 0), (.slice none 0 0), (.slice none 0 0), (.slice none 0 0), (.slice none 0 0), (.slice none 0 0), (.slice none 0 0), (.slice none 0 0), (.slice none 0 0), (.slice none 0 0), (.slice none 0 0), (.slice none 0 0), (.slice none 0 0), (.slice none 0 0), (.slice none 0 0), (.slice none 0 0), (.slice none 0 0), (.slice none 0 0), (.slice none 0 0), (.slice none 0 0), (.slice none 0 0), (.slice none 0 0), (.slice none 0 0), (.slice none 0 0), (.slice none 0 0), (.slice none 0 0), (.slice none 0 0), (.slice none 0 0), (.slice none 0 0), (.slice none 0 0), (.slice none 0 0), (.slice none 0 0), (.slice none 0 0), (.slice none 0 0), (.slice none 0 0), (.slice none 0 0), (.slice none 0 0), (.slice none 0 0), (.slice none 0 0), (.slice none 0 0), (.slice none 0 0), (.slice none 0 0), (.slice none 0 0), (.slice none 0 0), (.slice none 0 0), (.slice none 0 0), (.slice none 0 0), (.slice none 0 0), (.slice none 0 0), (.slice none 0 0), (.slice none 0 0), (.slice none 0 0), (.slice none 0 0), (.slice none 0 0), (.slice none 0 0), (.slice none 0 0), (.slice none 0 0), (.slice none 0 0), (.slice none 0 0), (.slice none 0 0), (.slice none 0 0), (.slice none 0 0), (.slice none 0 0), (.slice none 0 0), (.slice none 0 0), (.slice none 0 0), (.slice none 0 0), (.slice none 0 0), (.slice none 0 0), (.slice none 0 0), (.slice none 0 0), (.slice none 0 0), (.slice none 0 0), (.slice none 0 0), (.slice none 0 0), (.slice none 0 0), (.slice none 0 0), (.slice none 0 0), (.slice none 0 0), (.slice none 0 0), (.slice none 0 0), (.slice none 0 0), (.slice none 0 0), (.slice none 0 0), (.slice none 0 0), (.slice none 0 0), (.slice none 0 0), (.slice none 0 0), (.slice none 0 0), (.slice none 0 0), (.slice none 0 0), (.slice none 0 0), (.slice none 0 0), (.slice none 0 0), (.slice none 0 0), (.slice none 0 0), (.slice none 0 0), (.slice none 0 0), (.slice none 0 0), (.slice none 0 0), (.slice none 0 0), (.slice none 0 0), (.slice none 0 0), (.slice none 0 0), (.slice none 0 0), (.slice none 0 0), (.slice none 0 0), (.slice none 0 0), (.slice none 0 0), (.slice none 0 0), (.slice none 0 0), (.slice none 0 0), (.slice none 0 0), (.slice none 0 0), (.slice none 0 0), (.slice none 0 0), (.slice none 0 0), (.slice none 0 0), (.slice none 0 0), (.slice none 0 0), (.slice none 0 0), (.slice none 0 0), (.slice none 0 0), (.slice none 0 0), (.slice none 0 0), (.slice none 0 0), (.slice none 0 0), (.slice none 0 0), (.int .i64 0), (.int .i64 0), (.int .i64 0)] [(2, 1, (.tmp 14)), (4, 1, (.tmp 16)), (261, 3, (.tmp 17))], none⟩
  (.m ⟨some 19, .box 68 (.tmp 18), none⟩
  (.f ⟨some 4, .mov (.tmp 19), none⟩
  .done))))))))))
 (.seq (.seq (.region [
 ⟨some 20, .ld (.tmp 1), none⟩,
 ⟨some 21, .mov (.const (.int .i64 0)), none⟩])
 (.block 0
  (.loop 34357641216
   (.seq (.region [
   ⟨some 22, .bin .lss (.tmp 21) (.tmp 20), none⟩])
   (.seq (.cond (.tmp 22)
    .skip
    (.exit 0))
   (.seq (.block 1
    (.draw (.f ⟨some 23, .mov (.tmp 4), none⟩
    (.f ⟨some 24, .mov (.tmp 4), none⟩
    (.f ⟨some 25, .nilc (.tmp 24), none⟩
    (.f ⟨some 26, .fad 3 (.tmp 25), none⟩
    (.f ⟨some 27, .ld (.tmp 26), none⟩
    (.f ⟨some 28, .ld (.tmp 1), none⟩
    (.m ⟨some 29, .mk 3 1 8 [(.int .i64 0)] (.tmp 28) (.tmp 28), none⟩
    (.m ⟨some 30, .blds 22 1 [(.slice none 0 0)] [(0, 1, (.tmp 29))], none⟩
    (.m ⟨some 31, .app 22 1 24 [(.slice none 0 0)] (.tmp 27) (.tmp 30), none⟩
    (.f ⟨some 32, .nilc (.tmp 23), none⟩
    (.f ⟨some 33, .fad 3 (.tmp 32), none⟩
    (.m ⟨none, .st (.tmp 33) (.tmp 31), none⟩
    .done))))))))))))))
   (.region [
   ⟨some 34, .bin .add (.tmp 21) (.const (.int .i64 1)), none⟩,
   ⟨some 21, .mov (.tmp 34), none⟩])))))))
 (.seq (.seq (.region [
 ⟨some 35, .mov (.const (.int .i64 0)), none⟩])
 (.block 2
  (.loop 18014364149743712
   (.seq (.region [
   ⟨some 36, .bin .lss (.tmp 35) (.const (.int .i64 64)), none⟩])
   (.seq (.cond (.tmp 36)
    .skip
    (.exit 2))
   (.seq (.block 3
    (.seq (.region [
    ⟨some 37, .mov (.tmp 35), none⟩,
    ⟨some 5, .mov (.tmp 37), none⟩])
    (.seq (.region [
    ⟨some 38, .mkf 41 [(.tmp 1)], none⟩,
    ⟨some 6, .mov (.tmp 38), none⟩])
    (.draw (.f ⟨some 39, .mov (.tmp 4), none⟩
    (.f ⟨some 40, .mov (.tmp 5), none⟩
    (.f ⟨some 41, .mov (.tmp 6), none⟩
    (.f ⟨some 43, .mov (.tmp 6), none⟩
    (.f ⟨some 45, .mov (.tmp 6), none⟩
    (.f ⟨some 47, .mov (.tmp 6), none⟩
    (.f ⟨some 50, .nilc (.tmp 39), none⟩
    (.f ⟨some 51, .fad 5 (.tmp 50), none⟩
    (.m ⟨some 42, .callv (.tmp 41) [], none⟩
    (.m ⟨some 44, .callv (.tmp 43) [], none⟩
    (.m ⟨some 46, .callv (.tmp 45) [], none⟩
    (.m ⟨some 48, .callv (.tmp 47) [], none⟩
    (.f ⟨some 49, .bld [(.slice none 0 0), (.slice none 0 0), (.slice none 0 0), (.slice none 0 0)] [(0, 1, (.tmp 42)), (1, 1, (.tmp 44)), (2, 1, (.tmp 46)), (3, 1, (.tmp 48))], none⟩
    (.f ⟨some 52, .ixa 64 4 (.tmp 51) (.tmp 40), none⟩
    (.m ⟨none, .stN 4 (.tmp 52) (.tmp 49), none⟩
    .done)))))))))))))))))))
   (.region [
   ⟨some 53, .bin .add (.tmp 35) (.const (.int .i64 1)), none⟩,
   ⟨some 35, .mov (.tmp 53), none⟩])))))))
 (.seq (.region [
 ⟨some 54, .mov (.tmp 4), none⟩,
 ⟨some 2, .mov (.tmp 54), none⟩,
 ⟨some 3, .mov (.const (.int .i64 0)), none⟩])
 .ret)))))),
 [.tmp 2, .tmp 3]⟩
theorem lowc_tdrf_New : lowFn Tryd.prog movers 23 = some ⟨irc_tdrf_New.n, strip irc_tdrf_New.body, irc_tdrf_New.res⟩ := by kernel_rfl
end Go.Proofs.YtofjnldidkiihaaDoor
namespace Go.Proofs.YtofjnldidkiihaaDoor
open Go
set_option maxRecDepth 100000
/-- strongtx/strongtxlaw25.TdrfFinds -/
def ir_law25_TdrfFinds : IFn := ⟨37,
 (.seq (.region [
 ⟨some 4, .mov (.const (.bool false)), none⟩])
 (.seq (.seq (.region [
 ⟨some 9, .mov (.tmp 0), none⟩,
 ⟨some 10, .len (.tmp 9), none⟩,
 ⟨some 11, .bin .gtr (.tmp 10) (.const (.int .i64 50)), none⟩])
 (.cond (.tmp 11)
  (.seq (.region [
  ⟨some 12, .call 16 [], none⟩,
  ⟨some 4, .mov (.tmp 12), none⟩])
  .ret)
  .skip))
 (.seq (.region [
 ⟨some 13, .mov (.tmp 1), none⟩,
 ⟨some 14, .call 17 [(.tmp 13), (.const (.int .i64 3))], none⟩,
 ⟨some 15, .bin .add (.const (.int .i64 2)) (.tmp 14), none⟩,
 ⟨some 5, .mov (.tmp 15), none⟩])
 (.seq (.region [
 ⟨some 16, .mov (.tmp 0), none⟩,
 ⟨some 17, .mov (.tmp 5), none⟩,
 ⟨some 18, .call 18 [(.tmp 16), (.tmp 17)], none⟩,
 ⟨some 6, .mov (.tmp 18), none⟩])
 (.seq (.region [
 ⟨some 20, .mov (.tmp 6), none⟩,
 ⟨some 21, .mov (.tmp 5), none⟩,
 ⟨some 22, .call 19 [(.tmp 20), (.tmp 21)], none⟩,
 ⟨some 19, .mov (.tmp 22), none⟩,
 ⟨some 23, .ext (.tmp 19) 0, none⟩,
 ⟨some 24, .ext (.tmp 19) 1, none⟩,
 ⟨some 7, .new 28 (.agg #[.int .i64 0, .int .i64 0, .int .i64 0]), none⟩,
 ⟨none, .stN 3 (.tmp 7) (.tmp 23), none⟩,
 ⟨some 8, .mov (.tmp 24), none⟩])
 (.seq (.draw (.f ⟨some 25, .mov (.tmp 8), none⟩
 (.f ⟨some 26, .bin .eql (.tmp 25) (.const (.int .i64 0)), none⟩
 (.f ⟨some 27, .mov (.tmp 26), none⟩
 (.f ⟨some 28, .ldN 3 (.tmp 7), some (27, true)⟩
 (.f ⟨some 29, .mov (.tmp 6), some (27, true)⟩
 (.f ⟨some 30, .mov (.tmp 5), some (27, true)⟩
 (.f ⟨some 31, .call 20 [(.tmp 29), (.tmp 30)], some (27, true)⟩
 (.f ⟨some 32, .ageq false [0, 0, 0] (.tmp 28) (.tmp 31), some (27, true)⟩
 (.f ⟨some 33, .pick (.tmp 27) (.tmp 32) (.const (.bool false)), none⟩
 (.f ⟨some 34, .mov (.tmp 33), none⟩
 (.f ⟨some 35, .call 16 [], some (34, true)⟩
 (.f ⟨some 36, .pick (.tmp 34) (.tmp 35) (.const (.bool false)), none⟩
 (.f ⟨some 4, .mov (.tmp 36), none⟩
 .done))))))))))))))
 .ret)))))),
 [.tmp 4]⟩
theorem low_law25_TdrfFinds : lowFn Tryd.prog movers 3 = some ⟨ir_law25_TdrfFinds.n, strip ir_law25_TdrfFinds.body, ir_law25_TdrfFinds.res⟩ := by kernel_rfl
/-- strongtx/strongtxlaw25.TdrfAny -/
def ir_law25_TdrfAny : IFn := ⟨50,
 (.seq (.region [
 ⟨some 4, .mov (.const (.bool false)), none⟩])
 (.seq (.seq (.region [
 ⟨some 9, .mov (.tmp 0), none⟩,
 ⟨some 10, .len (.tmp 9), none⟩,
 ⟨some 11, .bin .gtr (.tmp 10) (.const (.int .i64 30)), none⟩])
 (.cond (.tmp 11)
  (.seq (.region [
  ⟨some 12, .call 16 [], none⟩,
  ⟨some 4, .mov (.tmp 12), none⟩])
  .ret)
  .skip))
 (.seq (.region [
 ⟨some 14, .mov (.tmp 0), none⟩,
 ⟨some 15, .mov (.tmp 1), none⟩,
 ⟨some 16, .call 19 [(.tmp 14), (.tmp 15)], none⟩,
 ⟨some 13, .mov (.tmp 16), none⟩,
 ⟨some 17, .ext (.tmp 13) 0, none⟩,
 ⟨some 18, .ext (.tmp 13) 1, none⟩,
 ⟨some 5, .new 28 (.agg #[.int .i64 0, .int .i64 0, .int .i64 0]), none⟩,
 ⟨none, .stN 3 (.tmp 5) (.tmp 17), none⟩,
 ⟨some 6, .mov (.tmp 18), none⟩])
 (.seq (.region [
 ⟨some 20, .mov (.tmp 0), none⟩,
 ⟨some 21, .mov (.tmp 1), none⟩,
 ⟨some 22, .call 21 [(.tmp 20), (.tmp 21)], none⟩,
 ⟨some 19, .mov (.tmp 22), none⟩,
 ⟨some 23, .ext (.tmp 19) 0, none⟩,
 ⟨some 24, .ext (.tmp 19) 1, none⟩,
 ⟨some 7, .mov (.tmp 23), none⟩,
 ⟨some 8, .mov (.tmp 24), none⟩])
 (.seq (.seq (.region [
 ⟨some 25, .mov (.tmp 8), none⟩,
 ⟨some 26, .bin .neq (.tmp 25) (.const (.int .i64 0)), none⟩])
 (.cond (.tmp 26)
  (.seq (.draw (.f ⟨some 27, .mov (.tmp 6), none⟩
  (.f ⟨some 28, .mov (.tmp 8), none⟩
  (.f ⟨some 29, .bin .eql (.tmp 27) (.tmp 28), none⟩
  (.f ⟨some 30, .mov (.tmp 29), none⟩
  (.f ⟨some 31, .ldN 3 (.tmp 5), some (30, true)⟩
  (.f ⟨some 32, .call 22 [], some (30, true)⟩
  (.f ⟨some 33, .ageq false [0, 0, 0] (.tmp 31) (.tmp 32), some (30, true)⟩
  (.f ⟨some 34, .pick (.tmp 30) (.tmp 33) (.const (.bool false)), none⟩
  (.f ⟨some 35, .mov (.tmp 34), none⟩
  (.f ⟨some 36, .call 16 [], some (35, true)⟩
  (.f ⟨some 37, .pick (.tmp 35) (.tmp 36) (.const (.bool false)), none⟩
  (.f ⟨some 4, .mov (.tmp 37), none⟩
  .done)))))))))))))
  .ret)
  .skip))
 (.seq (.draw (.f ⟨some 38, .mov (.tmp 6), none⟩
 (.f ⟨some 39, .bin .eql (.tmp 38) (.const (.int .i64 0)), none⟩
 (.f ⟨some 40, .mov (.tmp 39), none⟩
 (.f ⟨some 41, .ldN 3 (.tmp 5), some (40, true)⟩
 (.f ⟨some 42, .mov (.tmp 0), some (40, true)⟩
 (.f ⟨some 43, .mov (.tmp 1), some (40, true)⟩
 (.f ⟨some 44, .call 20 [(.tmp 42), (.tmp 43)], some (40, true)⟩
 (.f ⟨some 45, .ageq false [0, 0, 0] (.tmp 41) (.tmp 44), some (40, true)⟩
 (.f ⟨some 46, .pick (.tmp 40) (.tmp 45) (.const (.bool false)), none⟩
 (.f ⟨some 47, .mov (.tmp 46), none⟩
 (.f ⟨some 48, .call 16 [], some (47, true)⟩
 (.f ⟨some 49, .pick (.tmp 47) (.tmp 48) (.const (.bool false)), none⟩
 (.f ⟨some 4, .mov (.tmp 49), none⟩
 .done))))))))))))))
 .ret)))))),
 [.tmp 4]⟩
theorem low_law25_TdrfAny : lowFn Tryd.prog movers 4 = some ⟨ir_law25_TdrfAny.n, strip ir_law25_TdrfAny.body, ir_law25_TdrfAny.res⟩ := by kernel_rfl
/-- strongtx/strongtxlaw25.TdrfRefuses -/
def ir_law25_TdrfRefuses : IFn := ⟨74,
 (.seq (.region [
 ⟨some 3, .box 42 (.tmp 1), none⟩,
 ⟨some 4, .mov (.const (.bool false)), none⟩])
 (.seq (.region [
 ⟨some 14, .mov (.tmp 0), none⟩,
 ⟨some 15, .call 23 [(.tmp 14)], none⟩,
 ⟨some 13, .mov (.tmp 15), none⟩,
 ⟨some 16, .ext (.tmp 13) 0, none⟩,
 ⟨some 17, .ext (.tmp 13) 1, none⟩,
 ⟨some 5, .mov (.tmp 16), none⟩,
 ⟨some 6, .mov (.tmp 17), none⟩])
 (.seq (.region [
 ⟨some 7, .mov (.const (.int .i64 0)), none⟩])
 (.seq (.seq (.region [
 ⟨some 18, .mov (.tmp 0), none⟩,
 ⟨some 19, .bin .lss (.tmp 18) (.const (.int .i64 1)), none⟩,
 ⟨some 20, .mov (.tmp 19), none⟩,
 ⟨some 21, .mov (.tmp 0), some (20, false)⟩,
 ⟨some 22, .bin .gtr (.tmp 21) (.const (.int .i64 16)), some (20, false)⟩,
 ⟨some 23, .pick (.tmp 20) (.const (.bool true)) (.tmp 22), none⟩])
 (.cond (.tmp 23)
  (.region [
  ⟨some 7, .mov (.const (.int .i64 54)), none⟩])
  .skip))
 (.seq (.region [
 ⟨some 8, .mov (.const (.pointer none)), none⟩])
 (.seq (.region [
 ⟨some 25, .mov (.tmp 8), none⟩,
 ⟨some 26, .ldN 6 (.tmp 3), none⟩,
 ⟨some 27, .call 26 [(.tmp 25), (.tmp 26)], none⟩,
 ⟨some 24, .mov (.tmp 27), none⟩,
 ⟨some 28, .ext (.tmp 24) 0, none⟩,
 ⟨some 29, .ext (.tmp 24) 1, none⟩,
 ⟨some 9, .new 28 (.agg #[.int .i64 0, .int .i64 0, .int .i64 0]), none⟩,
 ⟨none, .stN 3 (.tmp 9) (.tmp 28), none⟩,
 ⟨some 10, .mov (.tmp 29), none⟩])
 (.seq (.region [
 ⟨some 31, .mov (.tmp 0), none⟩,
 ⟨some 32, .call 19 [(.const (.slice none 0 0)), (.tmp 31)], none⟩,
 ⟨some 30, .mov (.tmp 32), none⟩,
 ⟨some 33, .ext (.tmp 30) 0, none⟩,
 ⟨some 34, .ext (.tmp 30) 1, none⟩,
 ⟨some 11, .new 28 (.agg #[.int .i64 0, .int .i64 0, .int .i64 0]), none⟩,
 ⟨none, .stN 3 (.tmp 11) (.tmp 33), none⟩,
 ⟨some 12, .mov (.tmp 34), none⟩])
 (.seq (.draw (.f ⟨some 35, .mov (.tmp 6), none⟩
 (.f ⟨some 36, .mov (.tmp 7), none⟩
 (.f ⟨some 37, .bin .eql (.tmp 35) (.tmp 36), none⟩
 (.f ⟨some 38, .mov (.tmp 37), none⟩
 (.f ⟨some 39, .mov (.tmp 5), some (38, true)⟩
 (.f ⟨some 40, .nilq true 1 (.tmp 39) (.const (.pointer none)), some (38, true)⟩
 (.f ⟨some 41, .mov (.tmp 7), some (38, true)⟩
 (.f ⟨some 42, .bin .eql (.tmp 41) (.const (.int .i64 0)), some (38, true)⟩
 (.f ⟨some 43, .beq false (.tmp 40) (.tmp 42), some (38, true)⟩
 (.f ⟨some 44, .pick (.tmp 38) (.tmp 43) (.const (.bool false)), none⟩
 (.f ⟨some 45, .mov (.tmp 44), none⟩
 (.f ⟨some 46, .mov (.tmp 12), some (45, true)⟩
 (.f ⟨some 47, .mov (.tmp 7), some (45, true)⟩
 (.f ⟨some 48, .bin .eql (.tmp 46) (.tmp 47), some (45, true)⟩
 (.f ⟨some 49, .pick (.tmp 45) (.tmp 48) (.const (.bool false)), none⟩
 (.f ⟨some 50, .mov (.tmp 49), none⟩
 (.f ⟨some 51, .mov (.tmp 10), some (50, true)⟩
 (.f ⟨some 52, .bin .eql (.tmp 51) (.const (.int .i64 1)), some (50, true)⟩
 (.f ⟨some 53, .pick (.tmp 50) (.tmp 52) (.const (.bool false)), none⟩
 (.f ⟨some 54, .mov (.tmp 53), none⟩
 (.both (.f ⟨some 55, .ldN 3 (.tmp 9), some (54, true)⟩
  (.f ⟨some 56, .call 22 [], some (54, true)⟩
  (.f ⟨some 57, .ageq false [0, 0, 0] (.tmp 55) (.tmp 56), some (54, true)⟩
  (.f ⟨some 58, .pick (.tmp 54) (.tmp 57) (.const (.bool false)), none⟩
  (.f ⟨some 59, .mov (.tmp 58), none⟩
  (.f ⟨some 60, .mov (.tmp 8), some (59, true)⟩
  (.f ⟨some 61, .call 24 [(.tmp 60)], some (59, true)⟩
  (.f ⟨some 62, .call 22 [], some (59, true)⟩
  (.f ⟨some 63, .ageq false [0, 0, 0] (.tmp 61) (.tmp 62), some (59, true)⟩
  (.f ⟨some 64, .pick (.tmp 59) (.tmp 63) (.const (.bool false)), none⟩
  (.f ⟨some 65, .mov (.tmp 64), none⟩
  (.f ⟨some 66, .mov (.tmp 8), some (65, true)⟩
  (.m ⟨some 67, .call 29 [(.tmp 66), (.const (.int .i64 0))], some (65, true)⟩
  (.f ⟨some 68, .len (.tmp 67), some (65, true)⟩
  (.f ⟨some 69, .bin .eql (.tmp 68) (.const (.int .i64 0)), some (65, true)⟩
  (.f ⟨some 70, .pick (.tmp 65) (.tmp 69) (.const (.bool false)), none⟩
  (.f ⟨some 71, .mov (.tmp 70), none⟩
  (.f ⟨some 72, .call 16 [], some (71, true)⟩
  (.f ⟨some 73, .pick (.tmp 71) (.tmp 72) (.const (.bool false)), none⟩
  (.f ⟨some 4, .mov (.tmp 73), none⟩
  .done))))))))))))))))))))
 (.f ⟨some 56, .call 22 [], some (54, true)⟩
  (.f ⟨some 55, .ldN 3 (.tmp 9), some (54, true)⟩
  (.f ⟨some 57, .ageq false [0, 0, 0] (.tmp 55) (.tmp 56), some (54, true)⟩
  (.f ⟨some 58, .pick (.tmp 54) (.tmp 57) (.const (.bool false)), none⟩
  (.f ⟨some 59, .mov (.tmp 58), none⟩
  (.f ⟨some 60, .mov (.tmp 8), some (59, true)⟩
  (.f ⟨some 61, .call 24 [(.tmp 60)], some (59, true)⟩
  (.f ⟨some 62, .call 22 [], some (59, true)⟩
  (.f ⟨some 63, .ageq false [0, 0, 0] (.tmp 61) (.tmp 62), some (59, true)⟩
  (.f ⟨some 64, .pick (.tmp 59) (.tmp 63) (.const (.bool false)), none⟩
  (.f ⟨some 65, .mov (.tmp 64), none⟩
  (.f ⟨some 66, .mov (.tmp 8), some (65, true)⟩
  (.m ⟨some 67, .call 29 [(.tmp 66), (.const (.int .i64 0))], some (65, true)⟩
  (.f ⟨some 68, .len (.tmp 67), some (65, true)⟩
  (.f ⟨some 69, .bin .eql (.tmp 68) (.const (.int .i64 0)), some (65, true)⟩
  (.f ⟨some 70, .pick (.tmp 65) (.tmp 69) (.const (.bool false)), none⟩
  (.f ⟨some 71, .mov (.tmp 70), none⟩
  (.f ⟨some 72, .call 16 [], some (71, true)⟩
  (.f ⟨some 73, .pick (.tmp 71) (.tmp 72) (.const (.bool false)), none⟩
  (.f ⟨some 4, .mov (.tmp 73), none⟩
  .done))))))))))))))))))))))))))))))))))))))))))
 .ret)))))))),
 [.tmp 4]⟩
theorem low_law25_TdrfRefuses : lowFn Tryd.prog movers 9 = some ⟨ir_law25_TdrfRefuses.n, strip ir_law25_TdrfRefuses.body, ir_law25_TdrfRefuses.res⟩ := by kernel_rfl
/-- strongtx/strongtxlaw25.awake -/
def ir_law25_awake : IFn := ⟨38,
 (.seq (.region [
 ⟨some 0, .mov (.const (.bool false)), none⟩])
 (.seq (.region [
 ⟨some 6, .bld [(.int .i64 0), (.int .i64 0), (.int .i64 0), (.int .i64 0), (.slice none 0 0), (.slice none 0 0)] [(1, 1, (.const (.int .i64 1))), (2, 1, (.const (.int .i64 3)))], none⟩,
 ⟨some 7, .bld [(.int .i64 0), (.int .i64 0), (.int .i64 0), (.int .i64 0), (.slice none 0 0), (.slice none 0 0)] [(1, 1, (.const (.int .i64 0))), (2, 1, (.const (.int .i64 2))), (3, 1, (.const (.int .i64 3)))], none⟩,
 ⟨some 8, .blds 3 1 [(.int .i64 0)] [(0, 1, (.const (.int .i64 3)))], none⟩,
 ⟨some 9, .bld [(.int .i64 0), (.int .i64 0), (.int .i64 0), (.int .i64 0), (.slice none 0 0), (.slice none 0 0)] [(1, 1, (.const (.int .i64 1))), (2, 1, (.const (.int .i64 4))), (4, 1, (.tmp 8))], none⟩,
 ⟨some 10, .blds 42 3 [(.int .i64 0), (.int .i64 0), (.int .i64 0), (.int .i64 0), (.slice none 0 0), (.slice none 0 0), (.int .i64 0), (.int .i64 0), (.int .i64 0), (.int .i64 0), (.slice none 0 0), (.slice none 0 0), (.int .i64 0), (.int .i64 0), (.int .i64 0), (.int .i64 0), (.slice none 0 0), (.slice none 0 0)] [(0, 6, (.tmp 6)), (6, 6, (.tmp 7)), (12, 6, (.tmp 9))], none⟩,
 ⟨some 1, .mov (.tmp 10), none⟩])
 (.seq (.region [
 ⟨some 12, .mov (.tmp 1), none⟩,
 ⟨some 13, .call 19 [(.tmp 12), (.const (.int .i64 2))], none⟩,
 ⟨some 11, .mov (.tmp 13), none⟩,
 ⟨some 14, .ext (.tmp 11) 0, none⟩,
 ⟨some 15, .ext (.tmp 11) 1, none⟩,
 ⟨some 2, .new 28 (.agg #[.int .i64 0, .int .i64 0, .int .i64 0]), none⟩,
 ⟨none, .stN 3 (.tmp 2) (.tmp 14), none⟩,
 ⟨some 3, .mov (.tmp 15), none⟩])
 (.seq (.region [
 ⟨some 17, .mov (.tmp 1), none⟩,
 ⟨some 18, .sls 6 (.tmp 17) none (some (.const (.int .i64 2))) none, none⟩,
 ⟨some 19, .call 19 [(.tmp 18), (.const (.int .i64 2))], none⟩,
 ⟨some 16, .mov (.tmp 19), none⟩,
 ⟨some 20, .ext (.tmp 16) 0, none⟩,
 ⟨some 21, .ext (.tmp 16) 1, none⟩,
 ⟨some 4, .new 28 (.agg #[.int .i64 0, .int .i64 0, .int .i64 0]), none⟩,
 ⟨none, .stN 3 (.tmp 4) (.tmp 20), none⟩,
 ⟨some 5, .mov (.tmp 21), none⟩])
 (.seq (.region [
 ⟨some 22, .mov (.tmp 3), none⟩,
 ⟨some 23, .bin .eql (.tmp 22) (.const (.int .i64 0)), none⟩,
 ⟨some 24, .mov (.tmp 23), none⟩,
 ⟨some 25, .ldN 3 (.tmp 2), some (24, true)⟩,
 ⟨some 26, .bld [(.int .i64 0), (.int .i64 0), (.int .i64 0)] [(0, 1, (.const (.int .i64 1))), (1, 1, (.const (.int .i64 2))), (2, 1, (.const (.int .i64 3)))], some (24, true)⟩,
 ⟨some 27, .ageq false [0, 0, 0] (.tmp 25) (.tmp 26), some (24, true)⟩,
 ⟨some 28, .pick (.tmp 24) (.tmp 27) (.const (.bool false)), none⟩,
 ⟨some 29, .mov (.tmp 28), none⟩,
 ⟨some 30, .mov (.tmp 5), some (29, true)⟩,
 ⟨some 31, .bin .eql (.tmp 30) (.const (.int .i64 0)), some (29, true)⟩,
 ⟨some 32, .pick (.tmp 29) (.tmp 31) (.const (.bool false)), none⟩,
 ⟨some 33, .mov (.tmp 32), none⟩,
 ⟨some 34, .ldN 3 (.tmp 4), some (33, true)⟩,
 ⟨some 35, .bld [(.int .i64 0), (.int .i64 0), (.int .i64 0)] [(0, 1, (.const (.int .i64 (-1)))), (1, 1, (.const (.int .i64 (-1)))), (2, 1, (.const (.int .i64 (-1))))], some (33, true)⟩,
 ⟨some 36, .ageq false [0, 0, 0] (.tmp 34) (.tmp 35), some (33, true)⟩,
 ⟨some 37, .pick (.tmp 33) (.tmp 36) (.const (.bool false)), none⟩,
 ⟨some 0, .mov (.tmp 37), none⟩])
 .ret))))),
 [.tmp 0]⟩
theorem low_law25_awake : lowFn Tryd.prog movers 16 = some ⟨ir_law25_awake.n, strip ir_law25_awake.body, ir_law25_awake.res⟩ := by kernel_rfl
end Go.Proofs.YtofjnldidkiihaaDoor
