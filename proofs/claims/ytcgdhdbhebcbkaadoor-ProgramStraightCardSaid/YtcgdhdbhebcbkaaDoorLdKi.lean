/- The maker of programs, lowered, with cuts (printed by tools/ircut.py). No condition. -/
import Derived.Test.YtcgdhdbhebcbkaaDoorLdJ
namespace Go.Proofs.YtcgdhdbhebcbkaaDoor
open Go
set_option maxRecDepth 100000
def irc_make_Program : IFn := ⟨191,
 (.seq (.region [
 ⟨some 8, .mov (.const (.slice none 0 0)), none⟩])
 (.seq (.region [
 ⟨some 9, .mov (.const (.slice none 0 0)), none⟩])
 (.seq (.region [
 ⟨some 10, .mov (.const (.bool false)), none⟩])
 (.seq (.region [
 ⟨some 11, .mov (.const (.slice none 0 0)), none⟩])
 (.seq (.seq (.region [
 ⟨some 12, .mov (.const (.int .i64 0)), none⟩])
 (.block 0
  (.loop 365375409332725729550921208179070754913982217728
   (.seq (.seq (.region [
   ⟨some 20, .mov (.tmp 12), none⟩,
   ⟨some 21, .mov (.tmp 0), none⟩,
   ⟨some 22, .len (.tmp 21), none⟩,
   ⟨some 23, .bin .lss (.tmp 20) (.tmp 22), none⟩,
   ⟨some 24, .mov (.tmp 23), none⟩,
   ⟨some 25, .mov (.tmp 9), some (24, true)⟩,
   ⟨some 26, .len (.tmp 25), some (24, true)⟩,
   ⟨some 27, .mov (.tmp 1), some (24, true)⟩,
   ⟨some 28, .bin .sub (.tmp 27) (.const (.int .i64 1)), some (24, true)⟩,
   ⟨some 29, .bin .lss (.tmp 26) (.tmp 28), some (24, true)⟩,
   ⟨some 30, .pick (.tmp 24) (.tmp 29) (.const (.bool false)), none⟩])
   (.cond (.tmp 30)
    .skip
    (.exit 0)))
   (.seq (.block 1
    (.seq (.region [
    ⟨some 33, .mov (.tmp 0), none⟩,
    ⟨some 34, .mov (.tmp 12), none⟩,
    ⟨some 35, .ixs 1 (.tmp 33) (.tmp 34), none⟩,
    ⟨some 36, .ld (.tmp 35), none⟩,
    ⟨some 37, .conv .u64 (.tmp 36), none⟩,
    ⟨some 13, .mov (.tmp 37), none⟩])
    (.seq (.region [
    ⟨some 38, .mov (.tmp 13), none⟩,
    ⟨some 39, .bin .rem (.tmp 38) (.const (.int .u64 16)), none⟩,
    ⟨some 40, .conv .i64 (.tmp 39), none⟩,
    ⟨some 14, .mov (.tmp 40), none⟩])
    (.seq (.region [
    ⟨some 41, .mov (.tmp 13), none⟩,
    ⟨some 42, .bin .quo (.tmp 41) (.const (.int .u64 16)), none⟩,
    ⟨some 13, .mov (.tmp 42), none⟩])
    (.seq (.region [
    ⟨some 15, .mov (.const (.int .i64 0)), none⟩])
    (.cut (.block 2
     (.seq (.region [
     ⟨some 44, .mov (.tmp 14), none⟩,
     ⟨some 45, .bin .lss (.tmp 44) (.const (.int .i64 2)), none⟩,
     ⟨some 43, .mov (.tmp 45), none⟩])
     (.cond (.tmp 43)
      (.seq (.region [
      ⟨some 46, .blds 3 3 [(.int .i64 0), (.int .i64 0), (.int .i64 0)] [(0, 1, (.const (.int .i64 1))), (1, 1, (.const (.int .i64 3))), (2, 1, (.const (.int .i64 2)))], none⟩,
      ⟨some 47, .mov (.tmp 13), none⟩,
      ⟨some 48, .bin .rem (.tmp 47) (.const (.int .u64 3)), none⟩,
      ⟨some 49, .ixs 1 (.tmp 46) (.tmp 48), none⟩,
      ⟨some 50, .ld (.tmp 49), none⟩,
      ⟨some 15, .mov (.tmp 50), none⟩])
      (.region [
      ⟨some 51, .mov (.tmp 13), none⟩,
      ⟨some 52, .bin .quo (.tmp 51) (.const (.int .u64 3)), none⟩,
      ⟨some 13, .mov (.tmp 52), none⟩]))
      (.seq (.region [
      ⟨some 54, .mov (.tmp 14), none⟩,
      ⟨some 55, .bin .eql (.tmp 54) (.const (.int .i64 2)), none⟩,
      ⟨some 56, .mov (.tmp 55), none⟩,
      ⟨some 57, .mov (.tmp 9), some (56, true)⟩,
      ⟨some 58, .len (.tmp 57), some (56, true)⟩,
      ⟨some 59, .bin .gtr (.tmp 58) (.const (.int .i64 0)), some (56, true)⟩,
      ⟨some 60, .pick (.tmp 56) (.tmp 59) (.const (.bool false)), none⟩,
      ⟨some 53, .mov (.tmp 60), none⟩])
      (.cond (.tmp 53)
       (.seq (.region [
       ⟨some 61, .blds 3 3 [(.int .i64 0), (.int .i64 0), (.int .i64 0)] [(0, 1, (.const (.int .i64 5))), (1, 1, (.const (.int .i64 6))), (2, 1, (.const (.int .i64 4)))], none⟩,
       ⟨some 62, .mov (.tmp 13), none⟩,
       ⟨some 63, .bin .rem (.tmp 62) (.const (.int .u64 3)), none⟩,
       ⟨some 64, .ixs 1 (.tmp 61) (.tmp 63), none⟩,
       ⟨some 65, .ld (.tmp 64), none⟩,
       ⟨some 15, .mov (.tmp 65), none⟩])
       (.region [
       ⟨some 66, .mov (.tmp 13), none⟩,
       ⟨some 67, .bin .quo (.tmp 66) (.const (.int .u64 3)), none⟩,
       ⟨some 13, .mov (.tmp 67), none⟩]))
       (.seq (.region [
       ⟨some 69, .mov (.tmp 10), none⟩,
       ⟨some 70, .not (.tmp 69), none⟩,
       ⟨some 71, .mov (.tmp 70), none⟩,
       ⟨some 72, .mov (.tmp 14), some (71, true)⟩,
       ⟨some 73, .bin .lss (.tmp 72) (.const (.int .i64 7)), some (71, true)⟩,
       ⟨some 74, .pick (.tmp 71) (.tmp 73) (.const (.bool false)), none⟩,
       ⟨some 75, .mov (.tmp 74), none⟩,
       ⟨some 76, .mov (.tmp 3), some (75, true)⟩,
       ⟨some 77, .pick (.tmp 75) (.tmp 76) (.const (.bool false)), none⟩,
       ⟨some 68, .mov (.tmp 77), none⟩])
       (.cond (.tmp 68)
        (.seq (.region [
        ⟨some 78, .blds 3 5 [(.int .i64 0), (.int .i64 0), (.int .i64 0), (.int .i64 0), (.int .i64 0)] [(0, 1, (.const (.int .i64 12))), (1, 1, (.const (.int .i64 13))), (2, 1, (.const (.int .i64 12))), (3, 1, (.const (.int .i64 13))), (4, 1, (.const (.int .i64 16)))], none⟩,
        ⟨some 79, .mov (.tmp 13), none⟩,
        ⟨some 80, .bin .rem (.tmp 79) (.const (.int .u64 5)), none⟩,
        ⟨some 81, .ixs 1 (.tmp 78) (.tmp 80), none⟩,
        ⟨some 82, .ld (.tmp 81), none⟩,
        ⟨some 15, .mov (.tmp 82), none⟩])
        (.region [
        ⟨some 83, .mov (.tmp 13), none⟩,
        ⟨some 84, .bin .quo (.tmp 83) (.const (.int .u64 5)), none⟩,
        ⟨some 13, .mov (.tmp 84), none⟩]))
        (.seq (.region [
        ⟨some 86, .mov (.tmp 10), none⟩,
        ⟨some 87, .not (.tmp 86), none⟩,
        ⟨some 88, .mov (.tmp 87), none⟩,
        ⟨some 89, .mov (.tmp 14), some (88, true)⟩,
        ⟨some 90, .bin .eql (.tmp 89) (.const (.int .i64 7)), some (88, true)⟩,
        ⟨some 91, .pick (.tmp 88) (.tmp 90) (.const (.bool false)), none⟩,
        ⟨some 85, .mov (.tmp 91), none⟩])
        (.cond (.tmp 85)
         (.region [
         ⟨some 15, .mov (.const (.int .i64 17)), none⟩])
         (.seq (.region [
         ⟨some 93, .mov (.tmp 10), none⟩,
         ⟨some 94, .not (.tmp 93), none⟩,
         ⟨some 92, .mov (.tmp 94), none⟩])
         (.cond (.tmp 92)
          (.region [
          ⟨some 15, .mov (.const (.int .i64 7)), none⟩])
          (.seq (.region [
          ⟨some 96, .mov (.tmp 14), none⟩,
          ⟨some 97, .bin .lss (.tmp 96) (.const (.int .i64 8)), none⟩,
          ⟨some 95, .mov (.tmp 97), none⟩])
          (.cond (.tmp 95)
           (.region [
           ⟨some 15, .mov (.const (.int .i64 10)), none⟩])
           (.seq (.region [
           ⟨some 99, .mov (.tmp 14), none⟩,
           ⟨some 100, .bin .lss (.tmp 99) (.const (.int .i64 12)), none⟩,
           ⟨some 98, .mov (.tmp 100), none⟩])
           (.cond (.tmp 98)
            (.region [
            ⟨some 15, .mov (.const (.int .i64 11)), none⟩])
            (.seq (.region [
            ⟨some 102, .mov (.tmp 14), none⟩,
            ⟨some 103, .bin .eql (.tmp 102) (.const (.int .i64 12)), none⟩,
            ⟨some 104, .mov (.tmp 103), none⟩,
            ⟨some 105, .mov (.tmp 2), some (104, true)⟩,
            ⟨some 106, .pick (.tmp 104) (.tmp 105) (.const (.bool false)), none⟩,
            ⟨some 101, .mov (.tmp 106), none⟩])
            (.cond (.tmp 101)
             (.region [
             ⟨some 15, .mov (.const (.int .i64 14)), none⟩])
             (.seq (.region [
             ⟨some 108, .mov (.tmp 14), none⟩,
             ⟨some 109, .bin .eql (.tmp 108) (.const (.int .i64 13)), none⟩,
             ⟨some 110, .mov (.tmp 109), none⟩,
             ⟨some 111, .mov (.tmp 2), some (110, true)⟩,
             ⟨some 112, .pick (.tmp 110) (.tmp 111) (.const (.bool false)), none⟩,
             ⟨some 107, .mov (.tmp 112), none⟩])
             (.cond (.tmp 107)
              (.region [
              ⟨some 15, .mov (.const (.int .i64 15)), none⟩])
              (.seq (.region [
              ⟨some 114, .mov (.tmp 14), none⟩,
              ⟨some 115, .bin .eql (.tmp 114) (.const (.int .i64 14)), none⟩,
              ⟨some 116, .mov (.tmp 115), none⟩,
              ⟨some 117, .mov (.tmp 13), some (116, true)⟩,
              ⟨some 118, .bin .rem (.tmp 117) (.const (.int .u64 4)), some (116, true)⟩,
              ⟨some 119, .bin .eql (.tmp 118) (.const (.int .u64 0)), some (116, true)⟩,
              ⟨some 120, .pick (.tmp 116) (.tmp 119) (.const (.bool false)), none⟩,
              ⟨some 113, .mov (.tmp 120), none⟩])
              (.cond (.tmp 113)
               (.region [
               ⟨some 15, .mov (.const (.int .i64 9)), none⟩])
               (.region [
               ⟨some 15, .mov (.const (.int .i64 8)), none⟩]))))))))))))))))))))))
    (.seq (.region [
    ⟨some 121, .mov (.tmp 15), none⟩,
    ⟨some 122, .mov (.tmp 13), none⟩,
    ⟨some 123, .call 23 [(.tmp 121), (.tmp 122)], none⟩,
    ⟨some 16, .new 31 (.agg #[.int .i64 0, .int .i64 0, .int .i64 0, .int .i64 0, .int .i64 0]), none⟩,
    ⟨none, .stN 5 (.tmp 16) (.tmp 123), none⟩])
    (.cut (.seq (.region [
    ⟨some 124, .mov (.tmp 15), none⟩,
    ⟨some 125, .bin .eql (.tmp 124) (.const (.int .i64 5)), none⟩,
    ⟨some 126, .mov (.tmp 125), none⟩,
    ⟨some 127, .mov (.tmp 15), some (126, false)⟩,
    ⟨some 128, .bin .eql (.tmp 127) (.const (.int .i64 6)), some (126, false)⟩,
    ⟨some 129, .pick (.tmp 126) (.const (.bool true)) (.tmp 128), none⟩])
    (.cond (.tmp 129)
     (.region [
     ⟨some 130, .mov (.tmp 13), none⟩,
     ⟨some 131, .bin .rem (.tmp 130) (.const (.int .u64 4)), none⟩,
     ⟨some 132, .conv .i64 (.tmp 131), none⟩,
     ⟨some 133, .fad 1 (.tmp 16), none⟩,
     ⟨none, .st (.tmp 133) (.tmp 132), none⟩])
     .skip))
    (.cut (.seq (.region [
    ⟨some 134, .mov (.tmp 15), none⟩,
    ⟨some 135, .bin .eql (.tmp 134) (.const (.int .i64 5)), none⟩,
    ⟨some 136, .mov (.tmp 135), none⟩,
    ⟨some 137, .mov (.tmp 15), some (136, false)⟩,
    ⟨some 138, .bin .eql (.tmp 137) (.const (.int .i64 6)), some (136, false)⟩,
    ⟨some 139, .pick (.tmp 136) (.const (.bool true)) (.tmp 138), none⟩,
    ⟨some 140, .mov (.tmp 139), none⟩,
    ⟨some 141, .mov (.tmp 15), some (140, false)⟩,
    ⟨some 142, .bin .eql (.tmp 141) (.const (.int .i64 4)), some (140, false)⟩,
    ⟨some 143, .pick (.tmp 140) (.const (.bool true)) (.tmp 142), none⟩])
    (.cond (.tmp 143)
     (.region [
     ⟨some 144, .mov (.tmp 11), none⟩,
     ⟨some 145, .mov (.tmp 9), none⟩,
     ⟨some 146, .len (.tmp 145), none⟩,
     ⟨some 147, .blds 3 1 [(.int .i64 0)] [(0, 1, (.tmp 146))], none⟩,
     ⟨some 148, .app 3 1 8 [(.int .i64 0)] (.tmp 144) (.tmp 147), none⟩,
     ⟨some 11, .mov (.tmp 148), none⟩])
     .skip))
    (.seq (.region [
    ⟨some 149, .mov (.tmp 9), none⟩,
    ⟨some 150, .ldN 5 (.tmp 16), none⟩,
    ⟨some 151, .blds 31 1 [(.int .i64 0), (.int .i64 0), (.int .i64 0), (.int .i64 0), (.int .i64 0)] [(0, 5, (.tmp 150))], none⟩,
    ⟨some 152, .app 31 5 40 [(.int .i64 0), (.int .i64 0), (.int .i64 0), (.int .i64 0), (.int .i64 0)] (.tmp 149) (.tmp 151), none⟩,
    ⟨some 9, .mov (.tmp 152), none⟩])
    (.seq (.region [
    ⟨some 153, .mov (.tmp 15), none⟩])
    (.block 3
     (.seq (.region [
     ⟨some 155, .bin .eql (.tmp 153) (.const (.int .i64 7)), none⟩,
     ⟨some 154, .mov (.tmp 155), none⟩])
     (.cond (.tmp 154)
      (.region [
      ⟨some 10, .mov (.const (.bool true)), none⟩])
      (.seq (.region [
      ⟨some 157, .bin .eql (.tmp 153) (.const (.int .i64 8)), none⟩,
      ⟨some 156, .mov (.tmp 157), none⟩])
      (.cond (.tmp 156)
       (.region [
       ⟨some 10, .mov (.const (.bool false)), none⟩])
       .skip))))))))))))))))
   (.region [
   ⟨some 31, .mov (.tmp 12), none⟩,
   ⟨some 32, .bin .add (.tmp 31) (.const (.int .i64 1)), none⟩,
   ⟨some 12, .mov (.tmp 32), none⟩]))))))
 (.cut (.seq (.region [
 ⟨some 158, .mov (.tmp 10), none⟩])
 (.cond (.tmp 158)
  (.region [
  ⟨some 159, .mov (.tmp 9), none⟩,
  ⟨some 160, .bld [(.int .i64 0), (.int .i64 0), (.int .i64 0), (.int .i64 0), (.int .i64 0)] [(0, 1, (.const (.int .i64 8)))], none⟩,
  ⟨some 161, .blds 31 1 [(.int .i64 0), (.int .i64 0), (.int .i64 0), (.int .i64 0), (.int .i64 0)] [(0, 5, (.tmp 160))], none⟩,
  ⟨some 162, .app 31 5 40 [(.int .i64 0), (.int .i64 0), (.int .i64 0), (.int .i64 0), (.int .i64 0)] (.tmp 159) (.tmp 161), none⟩,
  ⟨some 9, .mov (.tmp 162), none⟩])
  .skip))
 (.seq (.seq (.region [
 ⟨some 17, .mov (.const (.int .i64 0)), none⟩])
 (.block 4
  (.loop 1569275422154657092311724010172437942295324703868549201920
   (.seq (.seq (.region [
   ⟨some 163, .mov (.tmp 17), none⟩,
   ⟨some 164, .mov (.tmp 11), none⟩,
   ⟨some 165, .len (.tmp 164), none⟩,
   ⟨some 166, .bin .lss (.tmp 163) (.tmp 165), none⟩])
   (.cond (.tmp 166)
    .skip
    (.exit 4)))
   (.seq (.block 5
    (.seq (.region [
    ⟨some 169, .mov (.tmp 9), none⟩,
    ⟨some 170, .mov (.tmp 11), none⟩,
    ⟨some 171, .mov (.tmp 17), none⟩,
    ⟨some 172, .ixs 1 (.tmp 170) (.tmp 171), none⟩,
    ⟨some 173, .ld (.tmp 172), none⟩,
    ⟨some 174, .ixs 5 (.tmp 169) (.tmp 173), none⟩,
    ⟨some 175, .fad 4 (.tmp 174), none⟩,
    ⟨none, .st (.tmp 175) (.const (.int .i64 1)), none⟩])
    (.seq (.region [
    ⟨some 177, .mov (.tmp 9), none⟩,
    ⟨some 178, .call 24 [(.tmp 177)], none⟩,
    ⟨some 176, .mov (.tmp 178), none⟩,
    ⟨some 179, .ext (.tmp 176) 0, none⟩,
    ⟨some 180, .ext (.tmp 176) 1, none⟩,
    ⟨some 18, .mov (.tmp 179), none⟩,
    ⟨some 19, .mov (.tmp 180), none⟩])
    (.seq (.region [
    ⟨some 181, .mov (.tmp 19), none⟩,
    ⟨some 182, .bin .neq (.tmp 181) (.const (.int .i64 0)), none⟩])
    (.cond (.tmp 182)
     (.region [
     ⟨some 183, .mov (.tmp 9), none⟩,
     ⟨some 184, .mov (.tmp 11), none⟩,
     ⟨some 185, .mov (.tmp 17), none⟩,
     ⟨some 186, .ixs 1 (.tmp 184) (.tmp 185), none⟩,
     ⟨some 187, .ld (.tmp 186), none⟩,
     ⟨some 188, .ixs 5 (.tmp 183) (.tmp 187), none⟩,
     ⟨some 189, .fad 4 (.tmp 188), none⟩,
     ⟨none, .st (.tmp 189) (.const (.int .i64 0)), none⟩])
     .skip)))))
   (.region [
   ⟨some 167, .mov (.tmp 17), none⟩,
   ⟨some 168, .bin .add (.tmp 167) (.const (.int .i64 1)), none⟩,
   ⟨some 17, .mov (.tmp 168), none⟩]))))))
 (.seq (.region [
 ⟨some 190, .mov (.tmp 9), none⟩,
 ⟨some 8, .mov (.tmp 190), none⟩])
 .ret)))))))),
 [.tmp 8]⟩
theorem lowc_make_Program : lowFn Tryd.prog movers 9 = some ⟨irc_make_Program.n, strip irc_make_Program.body, irc_make_Program.res⟩ := by kernel_rfl
end Go.Proofs.YtcgdhdbhebcbkaaDoor
