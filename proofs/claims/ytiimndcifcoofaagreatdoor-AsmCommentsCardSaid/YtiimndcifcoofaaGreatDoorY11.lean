/- What the laws share, part 11. No condition. -/
import Derived.Test.YtiimndcifcoofaaGreatDoorY10
namespace Go.Proofs.YtiimndcifcoofaaGreatDoor
open Go
set_option maxRecDepth 100000
def irc_ref04_Disassemble : IFn := ⟨166,
 (.seq (.region [
 ⟨some 2, .mov (.const (.string ⟨#[]⟩)), none⟩,
 ⟨some 3, .mov (.const (.int .i64 0)), none⟩])
 (.seq (.seq (.region [
 ⟨some 19, .mov (.tmp 0), none⟩,
 ⟨some 20, .len (.tmp 19), none⟩,
 ⟨some 21, .bin .gtr (.tmp 20) (.const (.int .i64 64)), none⟩])
 (.cond (.tmp 21)
  (.seq (.region [
  ⟨some 2, .mov (.const (.string ⟨#[]⟩)), none⟩,
  ⟨some 3, .mov (.const (.int .i64 3)), none⟩])
  .ret)
  .skip))
 (.seq (.region [
 ⟨some 22, .mov (.tmp 0), none⟩,
 ⟨some 23, .len (.tmp 22), none⟩,
 ⟨some 24, .bin .add (.tmp 23) (.const (.int .i64 1)), none⟩,
 ⟨some 25, .mk 3 1 8 [(.int .i64 0)] (.tmp 24) (.tmp 24), none⟩,
 ⟨some 4, .mov (.tmp 25), none⟩])
 (.seq (.seq (.region [
 ⟨some 5, .mov (.const (.int .i64 0)), none⟩])
 (.block 0
  (.loop 18446744073642443244
   (.seq (.seq (.region [
   ⟨some 26, .mov (.tmp 5), none⟩,
   ⟨some 27, .mov (.tmp 0), none⟩,
   ⟨some 28, .len (.tmp 27), none⟩,
   ⟨some 29, .bin .lss (.tmp 26) (.tmp 28), none⟩])
   (.cond (.tmp 29)
    .skip
    (.exit 0)))
   (.seq (.block 1
    (.seq (.seq (.region [
    ⟨some 32, .mov (.tmp 0), none⟩,
    ⟨some 33, .mov (.tmp 5), none⟩,
    ⟨some 34, .ixs 5 (.tmp 32) (.tmp 33), none⟩,
    ⟨some 35, .ldN 5 (.tmp 34), none⟩,
    ⟨some 36, .call 14 [(.tmp 35)], none⟩,
    ⟨some 6, .mov (.tmp 36), none⟩])
    (.seq (.region [
    ⟨some 37, .mov (.tmp 6), none⟩,
    ⟨some 38, .bin .neq (.tmp 37) (.const (.int .i64 0)), none⟩])
    (.cond (.tmp 38)
     (.seq (.region [
     ⟨some 39, .mov (.tmp 6), none⟩,
     ⟨some 2, .mov (.const (.string ⟨#[]⟩)), none⟩,
     ⟨some 3, .mov (.tmp 39), none⟩])
     .ret)
     .skip)))
    (.seq (.region [
    ⟨some 41, .mov (.tmp 0), none⟩,
    ⟨some 42, .mov (.tmp 5), none⟩,
    ⟨some 43, .ixs 5 (.tmp 41) (.tmp 42), none⟩,
    ⟨some 44, .ldN 5 (.tmp 43), none⟩,
    ⟨some 45, .call 30 [(.tmp 44)], none⟩,
    ⟨some 40, .mov (.tmp 45), none⟩,
    ⟨some 46, .ext (.tmp 40) 0, none⟩,
    ⟨some 47, .ext (.tmp 40) 1, none⟩,
    ⟨some 7, .mov (.tmp 46), none⟩,
    ⟨some 8, .mov (.tmp 47), none⟩])
    (.seq (.region [
    ⟨some 48, .mov (.tmp 8), none⟩,
    ⟨some 49, .mov (.tmp 48), none⟩,
    ⟨some 50, .mov (.tmp 5), some (49, true)⟩,
    ⟨some 51, .bin .add (.tmp 50) (.const (.int .i64 1)), some (49, true)⟩,
    ⟨some 52, .mov (.tmp 7), some (49, true)⟩,
    ⟨some 53, .bin .add (.tmp 51) (.tmp 52), some (49, true)⟩,
    ⟨some 54, .mov (.tmp 0), some (49, true)⟩,
    ⟨some 55, .len (.tmp 54), some (49, true)⟩,
    ⟨some 56, .bin .leq (.tmp 53) (.tmp 55), some (49, true)⟩,
    ⟨some 57, .pick (.tmp 49) (.tmp 56) (.const (.bool false)), none⟩])
    (.cond (.tmp 57)
     (.region [
     ⟨some 58, .mov (.tmp 4), none⟩,
     ⟨some 59, .mov (.tmp 5), none⟩,
     ⟨some 60, .bin .add (.tmp 59) (.const (.int .i64 1)), none⟩,
     ⟨some 61, .mov (.tmp 7), none⟩,
     ⟨some 62, .bin .add (.tmp 60) (.tmp 61), none⟩,
     ⟨some 63, .ixs 1 (.tmp 58) (.tmp 62), none⟩,
     ⟨none, .st (.tmp 63) (.const (.int .i64 1)), none⟩])
     .skip)))))
   (.region [
   ⟨some 30, .mov (.tmp 5), none⟩,
   ⟨some 31, .bin .add (.tmp 30) (.const (.int .i64 1)), none⟩,
   ⟨some 5, .mov (.tmp 31), none⟩]))))))
 (.seq (.region [
 ⟨some 9, .mov (.const (.int .i64 0)), none⟩])
 (.seq (.seq (.region [
 ⟨some 10, .mov (.const (.int .i64 0)), none⟩])
 (.block 2
  (.loop 2417833192485184639862272
   (.seq (.seq (.region [
   ⟨some 64, .mov (.tmp 10), none⟩,
   ⟨some 65, .mov (.tmp 0), none⟩,
   ⟨some 66, .len (.tmp 65), none⟩,
   ⟨some 67, .bin .leq (.tmp 64) (.tmp 66), none⟩])
   (.cond (.tmp 67)
    .skip
    (.exit 2)))
   (.seq (.block 3
    (.seq (.region [
    ⟨some 70, .mov (.tmp 4), none⟩,
    ⟨some 71, .mov (.tmp 10), none⟩,
    ⟨some 72, .ixs 1 (.tmp 70) (.tmp 71), none⟩,
    ⟨some 73, .ld (.tmp 72), none⟩,
    ⟨some 74, .bin .gtr (.tmp 73) (.const (.int .i64 0)), none⟩])
    (.cond (.tmp 74)
     (.seq (.region [
     ⟨some 75, .mov (.tmp 9), none⟩,
     ⟨some 76, .bin .add (.tmp 75) (.const (.int .i64 1)), none⟩,
     ⟨some 9, .mov (.tmp 76), none⟩])
     (.region [
     ⟨some 77, .mov (.tmp 4), none⟩,
     ⟨some 78, .mov (.tmp 10), none⟩,
     ⟨some 79, .mov (.tmp 9), none⟩,
     ⟨some 80, .ixs 1 (.tmp 77) (.tmp 78), none⟩,
     ⟨none, .st (.tmp 80) (.tmp 79), none⟩]))
     .skip)))
   (.region [
   ⟨some 68, .mov (.tmp 10), none⟩,
   ⟨some 69, .bin .add (.tmp 68) (.const (.int .i64 1)), none⟩,
   ⟨some 10, .mov (.tmp 69), none⟩]))))))
 (.seq (.region [
 ⟨some 11, .mov (.const (.string ⟨#[]⟩)), none⟩])
 (.seq (.seq (.region [
 ⟨some 12, .mov (.const (.int .i64 0)), none⟩])
 (.block 4
  (.loop 46768052394588893382517912229069417399731492485120
   (.seq (.seq (.region [
   ⟨some 81, .mov (.tmp 12), none⟩,
   ⟨some 82, .mov (.tmp 0), none⟩,
   ⟨some 83, .len (.tmp 82), none⟩,
   ⟨some 84, .bin .leq (.tmp 81) (.tmp 83), none⟩])
   (.cond (.tmp 84)
    .skip
    (.exit 4)))
   (.seq (.block 5
    (.cut (.seq (.region [
    ⟨some 87, .mov (.tmp 4), none⟩,
    ⟨some 88, .mov (.tmp 12), none⟩,
    ⟨some 89, .ixs 1 (.tmp 87) (.tmp 88), none⟩,
    ⟨some 90, .ld (.tmp 89), none⟩,
    ⟨some 91, .bin .gtr (.tmp 90) (.const (.int .i64 0)), none⟩])
    (.cond (.tmp 91)
     (.region [
     ⟨some 92, .mov (.tmp 11), none⟩,
     ⟨some 93, .scat (.tmp 92) (.const (.string ⟨#[108]⟩)), none⟩,
     ⟨some 94, .mov (.tmp 4), none⟩,
     ⟨some 95, .mov (.tmp 12), none⟩,
     ⟨some 96, .ixs 1 (.tmp 94) (.tmp 95), none⟩,
     ⟨some 97, .ld (.tmp 96), none⟩,
     ⟨some 98, .call 36 [(.tmp 97)], none⟩,
     ⟨some 99, .scat (.tmp 93) (.tmp 98), none⟩,
     ⟨some 100, .scat (.tmp 99) (.const (.string ⟨#[58, 10]⟩)), none⟩,
     ⟨some 11, .mov (.tmp 100), none⟩])
     .skip))
    (.seq (.seq (.region [
    ⟨some 101, .mov (.tmp 12), none⟩,
    ⟨some 102, .mov (.tmp 0), none⟩,
    ⟨some 103, .len (.tmp 102), none⟩,
    ⟨some 104, .bin .eql (.tmp 101) (.tmp 103), none⟩])
    (.cond (.tmp 104)
     (.exit 4)
     .skip))
    (.seq (.region [
    ⟨some 106, .mov (.tmp 0), none⟩,
    ⟨some 107, .mov (.tmp 12), none⟩,
    ⟨some 108, .ixs 5 (.tmp 106) (.tmp 107), none⟩,
    ⟨some 109, .ldN 5 (.tmp 108), none⟩,
    ⟨some 110, .call 12 [(.tmp 109)], none⟩,
    ⟨some 105, .mov (.tmp 110), none⟩,
    ⟨some 111, .ext (.tmp 105) 0, none⟩,
    ⟨some 112, .ext (.tmp 105) 1, none⟩,
    ⟨some 13, .mov (.tmp 111), none⟩,
    ⟨some 14, .mov (.tmp 112), none⟩])
    (.seq (.seq (.region [
    ⟨some 114, .mov (.tmp 0), none⟩,
    ⟨some 115, .mov (.tmp 12), none⟩,
    ⟨some 116, .ixs 5 (.tmp 114) (.tmp 115), none⟩,
    ⟨some 117, .ldN 5 (.tmp 116), none⟩,
    ⟨some 118, .call 30 [(.tmp 117)], none⟩,
    ⟨some 113, .mov (.tmp 118), none⟩,
    ⟨some 119, .ext (.tmp 113) 0, none⟩,
    ⟨some 120, .ext (.tmp 113) 1, none⟩,
    ⟨some 15, .mov (.tmp 119), none⟩,
    ⟨some 16, .mov (.tmp 120), none⟩])
    (.seq (.region [
    ⟨some 121, .mov (.tmp 16), none⟩,
    ⟨some 122, .mov (.tmp 121), none⟩,
    ⟨some 123, .mov (.tmp 12), some (122, true)⟩,
    ⟨some 124, .bin .add (.tmp 123) (.const (.int .i64 1)), some (122, true)⟩,
    ⟨some 125, .mov (.tmp 15), some (122, true)⟩,
    ⟨some 126, .bin .add (.tmp 124) (.tmp 125), some (122, true)⟩,
    ⟨some 127, .mov (.tmp 0), some (122, true)⟩,
    ⟨some 128, .len (.tmp 127), some (122, true)⟩,
    ⟨some 129, .bin .leq (.tmp 126) (.tmp 128), some (122, true)⟩,
    ⟨some 130, .pick (.tmp 122) (.tmp 129) (.const (.bool false)), none⟩])
    (.cond (.tmp 130)
     (.seq (.region [
     ⟨some 131, .mov (.tmp 13), none⟩,
     ⟨some 132, .call 52 [(.tmp 131)], none⟩,
     ⟨some 17, .mov (.tmp 132), none⟩])
     (.seq (.region [
     ⟨some 133, .mov (.tmp 17), none⟩,
     ⟨some 134, .ixs 1 (.tmp 133) (.const (.int .i64 0)), none⟩,
     ⟨some 135, .ld (.tmp 134), none⟩,
     ⟨some 13, .mov (.tmp 135), none⟩])
     (.seq (.seq (.region [
     ⟨some 18, .mov (.const (.int .i64 1)), none⟩])
     (.block 6
      (.loop 1427160580420028120811639345549992603720884224
       (.seq (.seq (.region [
       ⟨some 136, .mov (.tmp 18), none⟩,
       ⟨some 137, .bin .add (.tmp 136) (.const (.int .i64 1)), none⟩,
       ⟨some 138, .mov (.tmp 17), none⟩,
       ⟨some 139, .len (.tmp 138), none⟩,
       ⟨some 140, .bin .lss (.tmp 137) (.tmp 139), none⟩])
       (.cond (.tmp 140)
        .skip
        (.exit 6)))
       (.seq (.block 7
        (.region [
        ⟨some 143, .mov (.tmp 13), none⟩,
        ⟨some 144, .scat (.tmp 143) (.const (.string ⟨#[32]⟩)), none⟩,
        ⟨some 145, .mov (.tmp 17), none⟩,
        ⟨some 146, .mov (.tmp 18), none⟩,
        ⟨some 147, .ixs 1 (.tmp 145) (.tmp 146), none⟩,
        ⟨some 148, .ld (.tmp 147), none⟩,
        ⟨some 149, .scat (.tmp 144) (.tmp 148), none⟩,
        ⟨some 13, .mov (.tmp 149), none⟩]))
       (.region [
       ⟨some 141, .mov (.tmp 18), none⟩,
       ⟨some 142, .bin .add (.tmp 141) (.const (.int .i64 1)), none⟩,
       ⟨some 18, .mov (.tmp 142), none⟩]))))))
     (.region [
     ⟨some 150, .mov (.tmp 13), none⟩,
     ⟨some 151, .scat (.tmp 150) (.const (.string ⟨#[32, 108]⟩)), none⟩,
     ⟨some 152, .mov (.tmp 4), none⟩,
     ⟨some 153, .mov (.tmp 12), none⟩,
     ⟨some 154, .bin .add (.tmp 153) (.const (.int .i64 1)), none⟩,
     ⟨some 155, .mov (.tmp 15), none⟩,
     ⟨some 156, .bin .add (.tmp 154) (.tmp 155), none⟩,
     ⟨some 157, .ixs 1 (.tmp 152) (.tmp 156), none⟩,
     ⟨some 158, .ld (.tmp 157), none⟩,
     ⟨some 159, .call 36 [(.tmp 158)], none⟩,
     ⟨some 160, .scat (.tmp 151) (.tmp 159), none⟩,
     ⟨some 13, .mov (.tmp 160), none⟩]))))
     .skip)))
    (.region [
    ⟨some 161, .mov (.tmp 11), none⟩,
    ⟨some 162, .mov (.tmp 13), none⟩,
    ⟨some 163, .scat (.tmp 161) (.tmp 162), none⟩,
    ⟨some 164, .scat (.tmp 163) (.const (.string ⟨#[10]⟩)), none⟩,
    ⟨some 11, .mov (.tmp 164), none⟩]))))))
   (.region [
   ⟨some 85, .mov (.tmp 12), none⟩,
   ⟨some 86, .bin .add (.tmp 85) (.const (.int .i64 1)), none⟩,
   ⟨some 12, .mov (.tmp 86), none⟩]))))))
 (.seq (.region [
 ⟨some 165, .mov (.tmp 11), none⟩,
 ⟨some 2, .mov (.tmp 165), none⟩,
 ⟨some 3, .mov (.const (.int .i64 0)), none⟩])
 .ret))))))))),
 [.tmp 2, .tmp 3]⟩
theorem lowc_ref04_Disassemble : lowFn Tryz.prog movers 28 = some ⟨irc_ref04_Disassemble.n, strip irc_ref04_Disassemble.body, irc_ref04_Disassemble.res⟩ := by kernel_rfl
end Go.Proofs.YtiimndcifcoofaaGreatDoor
namespace Go.Proofs.YtiimndcifcoofaaGreatDoor
open Go Go.RowKit
set_option maxRecDepth 100000
def irc_make_Program : IFn := ⟨191,
 (.seq (.region [
 ⟨some 8, .mov (.const (.slice none 0 0)), none⟩])
 (.seq (.region [
 ⟨some 9, .mov (.const (.slice none 0 0)), none⟩])
 (.seq (.region [
 ⟨some 10, .mov (.const (.bool false)), none⟩])
 (.seq (.region [
 ⟨some 11, .mov (.const (.slice none 0 0)), none⟩])
 (.seq (.seq (.region [
 ⟨some 12, .mov (.const (.int .i64 0)), none⟩])
 (.block 0
  (.loop 365375409332725729550921208179070754913982217728
   (.seq (.seq (.region [
   ⟨some 20, .mov (.tmp 12), none⟩,
   ⟨some 21, .mov (.tmp 0), none⟩,
   ⟨some 22, .len (.tmp 21), none⟩,
   ⟨some 23, .bin .lss (.tmp 20) (.tmp 22), none⟩,
   ⟨some 24, .mov (.tmp 23), none⟩,
   ⟨some 25, .mov (.tmp 9), some (24, true)⟩,
   ⟨some 26, .len (.tmp 25), some (24, true)⟩,
   ⟨some 27, .mov (.tmp 1), some (24, true)⟩,
   ⟨some 28, .bin .sub (.tmp 27) (.const (.int .i64 1)), some (24, true)⟩,
   ⟨some 29, .bin .lss (.tmp 26) (.tmp 28), some (24, true)⟩,
   ⟨some 30, .pick (.tmp 24) (.tmp 29) (.const (.bool false)), none⟩])
   (.cond (.tmp 30)
    .skip
    (.exit 0)))
   (.seq (.block 1
    (.seq (.region [
    ⟨some 33, .mov (.tmp 0), none⟩,
    ⟨some 34, .mov (.tmp 12), none⟩,
    ⟨some 35, .ixs 1 (.tmp 33) (.tmp 34), none⟩,
    ⟨some 36, .ld (.tmp 35), none⟩,
    ⟨some 37, .conv .u64 (.tmp 36), none⟩,
    ⟨some 13, .mov (.tmp 37), none⟩])
    (.seq (.region [
    ⟨some 38, .mov (.tmp 13), none⟩,
    ⟨some 39, .bin .rem (.tmp 38) (.const (.int .u64 16)), none⟩,
    ⟨some 40, .conv .i64 (.tmp 39), none⟩,
    ⟨some 14, .mov (.tmp 40), none⟩])
    (.seq (.region [
    ⟨some 41, .mov (.tmp 13), none⟩,
    ⟨some 42, .bin .quo (.tmp 41) (.const (.int .u64 16)), none⟩,
    ⟨some 13, .mov (.tmp 42), none⟩])
    (.seq (.region [
    ⟨some 15, .mov (.const (.int .i64 0)), none⟩])
    (.cut (.block 2
     (.seq (.region [
     ⟨some 44, .mov (.tmp 14), none⟩,
     ⟨some 45, .bin .lss (.tmp 44) (.const (.int .i64 2)), none⟩,
     ⟨some 43, .mov (.tmp 45), none⟩])
     (.cond (.tmp 43)
      (.seq (.region [
      ⟨some 46, .blds 3 3 [(.int .i64 0), (.int .i64 0), (.int .i64 0)] [(0, 1, (.const (.int .i64 1))), (1, 1, (.const (.int .i64 3))), (2, 1, (.const (.int .i64 2)))], none⟩,
      ⟨some 47, .mov (.tmp 13), none⟩,
      ⟨some 48, .bin .rem (.tmp 47) (.const (.int .u64 3)), none⟩,
      ⟨some 49, .ixs 1 (.tmp 46) (.tmp 48), none⟩,
      ⟨some 50, .ld (.tmp 49), none⟩,
      ⟨some 15, .mov (.tmp 50), none⟩])
      (.region [
      ⟨some 51, .mov (.tmp 13), none⟩,
      ⟨some 52, .bin .quo (.tmp 51) (.const (.int .u64 3)), none⟩,
      ⟨some 13, .mov (.tmp 52), none⟩]))
      (.seq (.region [
      ⟨some 54, .mov (.tmp 14), none⟩,
      ⟨some 55, .bin .eql (.tmp 54) (.const (.int .i64 2)), none⟩,
      ⟨some 56, .mov (.tmp 55), none⟩,
      ⟨some 57, .mov (.tmp 9), some (56, true)⟩,
      ⟨some 58, .len (.tmp 57), some (56, true)⟩,
      ⟨some 59, .bin .gtr (.tmp 58) (.const (.int .i64 0)), some (56, true)⟩,
      ⟨some 60, .pick (.tmp 56) (.tmp 59) (.const (.bool false)), none⟩,
      ⟨some 53, .mov (.tmp 60), none⟩])
      (.cond (.tmp 53)
       (.seq (.region [
       ⟨some 61, .blds 3 3 [(.int .i64 0), (.int .i64 0), (.int .i64 0)] [(0, 1, (.const (.int .i64 5))), (1, 1, (.const (.int .i64 6))), (2, 1, (.const (.int .i64 4)))], none⟩,
       ⟨some 62, .mov (.tmp 13), none⟩,
       ⟨some 63, .bin .rem (.tmp 62) (.const (.int .u64 3)), none⟩,
       ⟨some 64, .ixs 1 (.tmp 61) (.tmp 63), none⟩,
       ⟨some 65, .ld (.tmp 64), none⟩,
       ⟨some 15, .mov (.tmp 65), none⟩])
       (.region [
       ⟨some 66, .mov (.tmp 13), none⟩,
       ⟨some 67, .bin .quo (.tmp 66) (.const (.int .u64 3)), none⟩,
       ⟨some 13, .mov (.tmp 67), none⟩]))
       (.seq (.region [
       ⟨some 69, .mov (.tmp 10), none⟩,
       ⟨some 70, .not (.tmp 69), none⟩,
       ⟨some 71, .mov (.tmp 70), none⟩,
       ⟨some 72, .mov (.tmp 14), some (71, true)⟩,
       ⟨some 73, .bin .lss (.tmp 72) (.const (.int .i64 7)), some (71, true)⟩,
       ⟨some 74, .pick (.tmp 71) (.tmp 73) (.const (.bool false)), none⟩,
       ⟨some 75, .mov (.tmp 74), none⟩,
       ⟨some 76, .mov (.tmp 3), some (75, true)⟩,
       ⟨some 77, .pick (.tmp 75) (.tmp 76) (.const (.bool false)), none⟩,
       ⟨some 68, .mov (.tmp 77), none⟩])
       (.cond (.tmp 68)
        (.seq (.region [
        ⟨some 78, .blds 3 5 [(.int .i64 0), (.int .i64 0), (.int .i64 0), (.int .i64 0), (.int .i64 0)] [(0, 1, (.const (.int .i64 12))), (1, 1, (.const (.int .i64 13))), (2, 1, (.const (.int .i64 12))), (3, 1, (.const (.int .i64 13))), (4, 1, (.const (.int .i64 16)))], none⟩,
        ⟨some 79, .mov (.tmp 13), none⟩,
        ⟨some 80, .bin .rem (.tmp 79) (.const (.int .u64 5)), none⟩,
        ⟨some 81, .ixs 1 (.tmp 78) (.tmp 80), none⟩,
        ⟨some 82, .ld (.tmp 81), none⟩,
        ⟨some 15, .mov (.tmp 82), none⟩])
        (.region [
        ⟨some 83, .mov (.tmp 13), none⟩,
        ⟨some 84, .bin .quo (.tmp 83) (.const (.int .u64 5)), none⟩,
        ⟨some 13, .mov (.tmp 84), none⟩]))
        (.seq (.region [
        ⟨some 86, .mov (.tmp 10), none⟩,
        ⟨some 87, .not (.tmp 86), none⟩,
        ⟨some 88, .mov (.tmp 87), none⟩,
        ⟨some 89, .mov (.tmp 14), some (88, true)⟩,
        ⟨some 90, .bin .eql (.tmp 89) (.const (.int .i64 7)), some (88, true)⟩,
        ⟨some 91, .pick (.tmp 88) (.tmp 90) (.const (.bool false)), none⟩,
        ⟨some 85, .mov (.tmp 91), none⟩])
        (.cond (.tmp 85)
         (.region [
         ⟨some 15, .mov (.const (.int .i64 17)), none⟩])
         (.seq (.region [
         ⟨some 93, .mov (.tmp 10), none⟩,
         ⟨some 94, .not (.tmp 93), none⟩,
         ⟨some 92, .mov (.tmp 94), none⟩])
         (.cond (.tmp 92)
          (.region [
          ⟨some 15, .mov (.const (.int .i64 7)), none⟩])
          (.seq (.region [
          ⟨some 96, .mov (.tmp 14), none⟩,
          ⟨some 97, .bin .lss (.tmp 96) (.const (.int .i64 8)), none⟩,
          ⟨some 95, .mov (.tmp 97), none⟩])
          (.cond (.tmp 95)
           (.region [
           ⟨some 15, .mov (.const (.int .i64 10)), none⟩])
           (.seq (.region [
           ⟨some 99, .mov (.tmp 14), none⟩,
           ⟨some 100, .bin .lss (.tmp 99) (.const (.int .i64 12)), none⟩,
           ⟨some 98, .mov (.tmp 100), none⟩])
           (.cond (.tmp 98)
            (.region [
            ⟨some 15, .mov (.const (.int .i64 11)), none⟩])
            (.seq (.region [
            ⟨some 102, .mov (.tmp 14), none⟩,
            ⟨some 103, .bin .eql (.tmp 102) (.const (.int .i64 12)), none⟩,
            ⟨some 104, .mov (.tmp 103), none⟩,
            ⟨some 105, .mov (.tmp 2), some (104, true)⟩,
            ⟨some 106, .pick (.tmp 104) (.tmp 105) (.const (.bool false)), none⟩,
            ⟨some 101, .mov (.tmp 106), none⟩])
            (.cond (.tmp 101)
             (.region [
             ⟨some 15, .mov (.const (.int .i64 14)), none⟩])
             (.seq (.region [
             ⟨some 108, .mov (.tmp 14), none⟩,
             ⟨some 109, .bin .eql (.tmp 108) (.const (.int .i64 13)), none⟩,
             ⟨some 110, .mov (.tmp 109), none⟩,
             ⟨some 111, .mov (.tmp 2), some (110, true)⟩,
             ⟨some 112, .pick (.tmp 110) (.tmp 111) (.const (.bool false)), none⟩,
             ⟨some 107, .mov (.tmp 112), none⟩])
             (.cond (.tmp 107)
              (.region [
              ⟨some 15, .mov (.const (.int .i64 15)), none⟩])
              (.seq (.region [
              ⟨some 114, .mov (.tmp 14), none⟩,
              ⟨some 115, .bin .eql (.tmp 114) (.const (.int .i64 14)), none⟩,
              ⟨some 116, .mov (.tmp 115), none⟩,
              ⟨some 117, .mov (.tmp 13), some (116, true)⟩,
              ⟨some 118, .bin .rem (.tmp 117) (.const (.int .u64 4)), some (116, true)⟩,
              ⟨some 119, .bin .eql (.tmp 118) (.const (.int .u64 0)), some (116, true)⟩,
              ⟨some 120, .pick (.tmp 116) (.tmp 119) (.const (.bool false)), none⟩,
              ⟨some 113, .mov (.tmp 120), none⟩])
              (.cond (.tmp 113)
               (.region [
               ⟨some 15, .mov (.const (.int .i64 9)), none⟩])
               (.region [
               ⟨some 15, .mov (.const (.int .i64 8)), none⟩]))))))))))))))))))))))
    (.seq (.region [
    ⟨some 121, .mov (.tmp 15), none⟩,
    ⟨some 122, .mov (.tmp 13), none⟩,
    ⟨some 123, .call 62 [(.tmp 121), (.tmp 122)], none⟩,
    ⟨some 16, .new 23 (.agg #[.int .i64 0, .int .i64 0, .int .i64 0, .int .i64 0, .int .i64 0]), none⟩,
    ⟨none, .stN 5 (.tmp 16) (.tmp 123), none⟩])
    (.cut (.seq (.region [
    ⟨some 124, .mov (.tmp 15), none⟩,
    ⟨some 125, .bin .eql (.tmp 124) (.const (.int .i64 5)), none⟩,
    ⟨some 126, .mov (.tmp 125), none⟩,
    ⟨some 127, .mov (.tmp 15), some (126, false)⟩,
    ⟨some 128, .bin .eql (.tmp 127) (.const (.int .i64 6)), some (126, false)⟩,
    ⟨some 129, .pick (.tmp 126) (.const (.bool true)) (.tmp 128), none⟩])
    (.cond (.tmp 129)
     (.region [
     ⟨some 130, .mov (.tmp 13), none⟩,
     ⟨some 131, .bin .rem (.tmp 130) (.const (.int .u64 4)), none⟩,
     ⟨some 132, .conv .i64 (.tmp 131), none⟩,
     ⟨some 133, .fad 1 (.tmp 16), none⟩,
     ⟨none, .st (.tmp 133) (.tmp 132), none⟩])
     .skip))
    (.cut (.seq (.region [
    ⟨some 134, .mov (.tmp 15), none⟩,
    ⟨some 135, .bin .eql (.tmp 134) (.const (.int .i64 5)), none⟩,
    ⟨some 136, .mov (.tmp 135), none⟩,
    ⟨some 137, .mov (.tmp 15), some (136, false)⟩,
    ⟨some 138, .bin .eql (.tmp 137) (.const (.int .i64 6)), some (136, false)⟩,
    ⟨some 139, .pick (.tmp 136) (.const (.bool true)) (.tmp 138), none⟩,
    ⟨some 140, .mov (.tmp 139), none⟩,
    ⟨some 141, .mov (.tmp 15), some (140, false)⟩,
    ⟨some 142, .bin .eql (.tmp 141) (.const (.int .i64 4)), some (140, false)⟩,
    ⟨some 143, .pick (.tmp 140) (.const (.bool true)) (.tmp 142), none⟩])
    (.cond (.tmp 143)
     (.region [
     ⟨some 144, .mov (.tmp 11), none⟩,
     ⟨some 145, .mov (.tmp 9), none⟩,
     ⟨some 146, .len (.tmp 145), none⟩,
     ⟨some 147, .blds 3 1 [(.int .i64 0)] [(0, 1, (.tmp 146))], none⟩,
     ⟨some 148, .app 3 1 8 [(.int .i64 0)] (.tmp 144) (.tmp 147), none⟩,
     ⟨some 11, .mov (.tmp 148), none⟩])
     .skip))
    (.seq (.region [
    ⟨some 149, .mov (.tmp 9), none⟩,
    ⟨some 150, .ldN 5 (.tmp 16), none⟩,
    ⟨some 151, .blds 23 1 [(.int .i64 0), (.int .i64 0), (.int .i64 0), (.int .i64 0), (.int .i64 0)] [(0, 5, (.tmp 150))], none⟩,
    ⟨some 152, .app 23 5 40 [(.int .i64 0), (.int .i64 0), (.int .i64 0), (.int .i64 0), (.int .i64 0)] (.tmp 149) (.tmp 151), none⟩,
    ⟨some 9, .mov (.tmp 152), none⟩])
    (.seq (.region [
    ⟨some 153, .mov (.tmp 15), none⟩])
    (.block 3
     (.seq (.region [
     ⟨some 155, .bin .eql (.tmp 153) (.const (.int .i64 7)), none⟩,
     ⟨some 154, .mov (.tmp 155), none⟩])
     (.cond (.tmp 154)
      (.region [
      ⟨some 10, .mov (.const (.bool true)), none⟩])
      (.seq (.region [
      ⟨some 157, .bin .eql (.tmp 153) (.const (.int .i64 8)), none⟩,
      ⟨some 156, .mov (.tmp 157), none⟩])
      (.cond (.tmp 156)
       (.region [
       ⟨some 10, .mov (.const (.bool false)), none⟩])
       .skip))))))))))))))))
   (.region [
   ⟨some 31, .mov (.tmp 12), none⟩,
   ⟨some 32, .bin .add (.tmp 31) (.const (.int .i64 1)), none⟩,
   ⟨some 12, .mov (.tmp 32), none⟩]))))))
 (.cut (.seq (.region [
 ⟨some 158, .mov (.tmp 10), none⟩])
 (.cond (.tmp 158)
  (.region [
  ⟨some 159, .mov (.tmp 9), none⟩,
  ⟨some 160, .bld [(.int .i64 0), (.int .i64 0), (.int .i64 0), (.int .i64 0), (.int .i64 0)] [(0, 1, (.const (.int .i64 8)))], none⟩,
  ⟨some 161, .blds 23 1 [(.int .i64 0), (.int .i64 0), (.int .i64 0), (.int .i64 0), (.int .i64 0)] [(0, 5, (.tmp 160))], none⟩,
  ⟨some 162, .app 23 5 40 [(.int .i64 0), (.int .i64 0), (.int .i64 0), (.int .i64 0), (.int .i64 0)] (.tmp 159) (.tmp 161), none⟩,
  ⟨some 9, .mov (.tmp 162), none⟩])
  .skip))
 (.seq (.seq (.region [
 ⟨some 17, .mov (.const (.int .i64 0)), none⟩])
 (.block 4
  (.loop 1569275422154657092311724010172437942295324703868549201920
   (.seq (.seq (.region [
   ⟨some 163, .mov (.tmp 17), none⟩,
   ⟨some 164, .mov (.tmp 11), none⟩,
   ⟨some 165, .len (.tmp 164), none⟩,
   ⟨some 166, .bin .lss (.tmp 163) (.tmp 165), none⟩])
   (.cond (.tmp 166)
    .skip
    (.exit 4)))
   (.seq (.block 5
    (.seq (.region [
    ⟨some 169, .mov (.tmp 9), none⟩,
    ⟨some 170, .mov (.tmp 11), none⟩,
    ⟨some 171, .mov (.tmp 17), none⟩,
    ⟨some 172, .ixs 1 (.tmp 170) (.tmp 171), none⟩,
    ⟨some 173, .ld (.tmp 172), none⟩,
    ⟨some 174, .ixs 5 (.tmp 169) (.tmp 173), none⟩,
    ⟨some 175, .fad 4 (.tmp 174), none⟩,
    ⟨none, .st (.tmp 175) (.const (.int .i64 1)), none⟩])
    (.seq (.region [
    ⟨some 177, .mov (.tmp 9), none⟩,
    ⟨some 178, .call 63 [(.tmp 177)], none⟩,
    ⟨some 176, .mov (.tmp 178), none⟩,
    ⟨some 179, .ext (.tmp 176) 0, none⟩,
    ⟨some 180, .ext (.tmp 176) 1, none⟩,
    ⟨some 18, .mov (.tmp 179), none⟩,
    ⟨some 19, .mov (.tmp 180), none⟩])
    (.seq (.region [
    ⟨some 181, .mov (.tmp 19), none⟩,
    ⟨some 182, .bin .neq (.tmp 181) (.const (.int .i64 0)), none⟩])
    (.cond (.tmp 182)
     (.region [
     ⟨some 183, .mov (.tmp 9), none⟩,
     ⟨some 184, .mov (.tmp 11), none⟩,
     ⟨some 185, .mov (.tmp 17), none⟩,
     ⟨some 186, .ixs 1 (.tmp 184) (.tmp 185), none⟩,
     ⟨some 187, .ld (.tmp 186), none⟩,
     ⟨some 188, .ixs 5 (.tmp 183) (.tmp 187), none⟩,
     ⟨some 189, .fad 4 (.tmp 188), none⟩,
     ⟨none, .st (.tmp 189) (.const (.int .i64 0)), none⟩])
     .skip)))))
   (.region [
   ⟨some 167, .mov (.tmp 17), none⟩,
   ⟨some 168, .bin .add (.tmp 167) (.const (.int .i64 1)), none⟩,
   ⟨some 17, .mov (.tmp 168), none⟩]))))))
 (.seq (.region [
 ⟨some 190, .mov (.tmp 9), none⟩,
 ⟨some 8, .mov (.tmp 190), none⟩])
 .ret)))))))),
 [.tmp 8]⟩
theorem lowc_make_Program : lowFn Tryz.prog movers 29 = some ⟨irc_make_Program.n, strip irc_make_Program.body, irc_make_Program.res⟩ := by kernel_rfl
end Go.Proofs.YtiimndcifcoofaaGreatDoor
namespace Go.Proofs.YtiimndcifcoofaaGreatDoor
open Go
set_option maxRecDepth 100000
def ir_ref06_Check : IFn := ⟨91,
 (.seq (.region [
 ⟨some 2, .mov (.const (.int .i64 0)), none⟩,
 ⟨some 3, .mov (.const (.int .i64 0)), none⟩])
 (.seq (.seq (.region [
 ⟨some 11, .mov (.tmp 0), none⟩,
 ⟨some 12, .len (.tmp 11), none⟩,
 ⟨some 13, .bin .gtr (.tmp 12) (.const (.int .i64 64)), none⟩])
 (.cond (.tmp 13)
  (.seq (.region [
  ⟨some 2, .mov (.const (.int .i64 0)), none⟩,
  ⟨some 3, .mov (.const (.int .i64 3)), none⟩])
  .ret)
  .skip))
 (.seq (.region [
 ⟨some 4, .mov (.const (.int .i64 (-1))), none⟩])
 (.seq (.seq (.region [
 ⟨some 5, .mov (.const (.int .i64 0)), none⟩])
 (.block 0
  (.loop 309485009821345068724766716
   (.seq (.seq (.region [
   ⟨some 14, .mov (.tmp 5), none⟩,
   ⟨some 15, .mov (.tmp 0), none⟩,
   ⟨some 16, .len (.tmp 15), none⟩,
   ⟨some 17, .bin .lss (.tmp 14) (.tmp 16), none⟩])
   (.cond (.tmp 17)
    .skip
    (.exit 0)))
   (.seq (.block 1
    (.seq (.region [
    ⟨some 20, .mov (.tmp 0), none⟩,
    ⟨some 21, .mov (.tmp 5), none⟩,
    ⟨some 22, .ixs 5 (.tmp 20) (.tmp 21), none⟩,
    ⟨some 23, .ldN 5 (.tmp 22), none⟩,
    ⟨some 6, .new 23 (.agg #[.int .i64 0, .int .i64 0, .int .i64 0, .int .i64 0, .int .i64 0]), none⟩,
    ⟨none, .stN 5 (.tmp 6) (.tmp 23), none⟩])
    (.seq (.seq (.region [
    ⟨some 24, .ldN 5 (.tmp 6), none⟩,
    ⟨some 25, .call 14 [(.tmp 24)], none⟩,
    ⟨some 7, .mov (.tmp 25), none⟩])
    (.seq (.region [
    ⟨some 26, .mov (.tmp 7), none⟩,
    ⟨some 27, .bin .neq (.tmp 26) (.const (.int .i64 0)), none⟩])
    (.cond (.tmp 27)
     (.seq (.region [
     ⟨some 28, .mov (.tmp 5), none⟩,
     ⟨some 29, .mov (.tmp 7), none⟩,
     ⟨some 2, .mov (.tmp 28), none⟩,
     ⟨some 3, .mov (.tmp 29), none⟩])
     .ret)
     .skip)))
    (.seq (.seq (.region [
    ⟨some 30, .fad 0 (.tmp 6), none⟩,
    ⟨some 31, .ld (.tmp 30), none⟩,
    ⟨some 32, .bin .eql (.tmp 31) (.const (.int .i64 7)), none⟩,
    ⟨some 33, .mov (.tmp 32), none⟩,
    ⟨some 34, .mov (.tmp 4), some (33, true)⟩,
    ⟨some 35, .bin .geq (.tmp 34) (.const (.int .i64 0)), some (33, true)⟩,
    ⟨some 36, .pick (.tmp 33) (.tmp 35) (.const (.bool false)), none⟩,
    ⟨some 37, .mov (.tmp 36), none⟩,
    ⟨some 38, .fad 0 (.tmp 6), some (37, false)⟩,
    ⟨some 39, .ld (.tmp 38), some (37, false)⟩,
    ⟨some 40, .bin .eql (.tmp 39) (.const (.int .i64 8)), some (37, false)⟩,
    ⟨some 41, .mov (.tmp 40), some (37, false)⟩,
    ⟨some 42, .mov (.tmp 4), some (41, true)⟩,
    ⟨some 43, .bin .lss (.tmp 42) (.const (.int .i64 0)), some (41, true)⟩,
    ⟨some 44, .pick (.tmp 41) (.tmp 43) (.const (.bool false)), some (37, false)⟩,
    ⟨some 45, .pick (.tmp 37) (.const (.bool true)) (.tmp 44), none⟩])
    (.cond (.tmp 45)
     (.seq (.region [
     ⟨some 46, .mov (.tmp 5), none⟩,
     ⟨some 2, .mov (.tmp 46), none⟩,
     ⟨some 3, .mov (.const (.int .i64 40)), none⟩])
     .ret)
     .skip))
    (.seq (.seq (.region [
    ⟨some 47, .ldN 5 (.tmp 6), none⟩,
    ⟨some 48, .call 21 [(.tmp 47)], none⟩,
    ⟨some 8, .mov (.tmp 48), none⟩])
    (.seq (.region [
    ⟨some 49, .mov (.tmp 8), none⟩,
    ⟨some 50, .bin .eql (.tmp 49) (.const (.int .i64 1)), none⟩,
    ⟨some 51, .mov (.tmp 50), none⟩,
    ⟨some 52, .mov (.tmp 4), some (51, true)⟩,
    ⟨some 53, .bin .lss (.tmp 52) (.const (.int .i64 0)), some (51, true)⟩,
    ⟨some 54, .pick (.tmp 51) (.tmp 53) (.const (.bool false)), none⟩,
    ⟨some 55, .mov (.tmp 54), none⟩,
    ⟨some 56, .mov (.tmp 8), some (55, false)⟩,
    ⟨some 57, .bin .eql (.tmp 56) (.const (.int .i64 2)), some (55, false)⟩,
    ⟨some 58, .mov (.tmp 57), some (55, false)⟩,
    ⟨some 59, .mov (.tmp 4), some (58, true)⟩,
    ⟨some 60, .bin .geq (.tmp 59) (.const (.int .i64 0)), some (58, true)⟩,
    ⟨some 61, .pick (.tmp 58) (.tmp 60) (.const (.bool false)), some (55, false)⟩,
    ⟨some 62, .pick (.tmp 55) (.const (.bool true)) (.tmp 61), none⟩])
    (.cond (.tmp 62)
     (.seq (.region [
     ⟨some 63, .mov (.tmp 5), none⟩,
     ⟨some 2, .mov (.tmp 63), none⟩,
     ⟨some 3, .mov (.const (.int .i64 41)), none⟩])
     .ret)
     .skip)))
    (.seq (.seq (.region [
    ⟨some 65, .ldN 5 (.tmp 6), none⟩,
    ⟨some 66, .call 30 [(.tmp 65)], none⟩,
    ⟨some 64, .mov (.tmp 66), none⟩,
    ⟨some 67, .ext (.tmp 64) 0, none⟩,
    ⟨some 68, .ext (.tmp 64) 1, none⟩,
    ⟨some 9, .mov (.tmp 67), none⟩,
    ⟨some 10, .mov (.tmp 68), none⟩])
    (.seq (.region [
    ⟨some 69, .mov (.tmp 10), none⟩,
    ⟨some 70, .mov (.tmp 69), none⟩,
    ⟨some 71, .mov (.tmp 0), some (70, true)⟩,
    ⟨some 72, .mov (.tmp 5), some (70, true)⟩,
    ⟨some 73, .mov (.tmp 5), some (70, true)⟩,
    ⟨some 74, .bin .add (.tmp 73) (.const (.int .i64 1)), some (70, true)⟩,
    ⟨some 75, .mov (.tmp 9), some (70, true)⟩,
    ⟨some 76, .bin .add (.tmp 74) (.tmp 75), some (70, true)⟩,
    ⟨some 77, .call 87 [(.tmp 71), (.tmp 72), (.tmp 76)], some (70, true)⟩,
    ⟨some 78, .not (.tmp 77), some (70, true)⟩,
    ⟨some 79, .pick (.tmp 70) (.tmp 78) (.const (.bool false)), none⟩])
    (.cond (.tmp 79)
     (.seq (.region [
     ⟨some 80, .mov (.tmp 5), none⟩,
     ⟨some 2, .mov (.tmp 80), none⟩,
     ⟨some 3, .mov (.const (.int .i64 42)), none⟩])
     .ret)
     .skip)))
    (.seq (.region [
    ⟨some 81, .fad 0 (.tmp 6), none⟩,
    ⟨some 82, .ld (.tmp 81), none⟩])
    (.block 2
     (.seq (.region [
     ⟨some 84, .bin .eql (.tmp 82) (.const (.int .i64 7)), none⟩,
     ⟨some 83, .mov (.tmp 84), none⟩])
     (.cond (.tmp 83)
      (.region [
      ⟨some 85, .mov (.tmp 5), none⟩,
      ⟨some 4, .mov (.tmp 85), none⟩])
      (.seq (.region [
      ⟨some 87, .bin .eql (.tmp 82) (.const (.int .i64 8)), none⟩,
      ⟨some 86, .mov (.tmp 87), none⟩])
      (.cond (.tmp 86)
       (.region [
       ⟨some 4, .mov (.const (.int .i64 (-1))), none⟩])
       .skip))))))))))))
   (.region [
   ⟨some 18, .mov (.tmp 5), none⟩,
   ⟨some 19, .bin .add (.tmp 18) (.const (.int .i64 1)), none⟩,
   ⟨some 5, .mov (.tmp 19), none⟩]))))))
 (.seq (.seq (.region [
 ⟨some 88, .mov (.tmp 4), none⟩,
 ⟨some 89, .bin .geq (.tmp 88) (.const (.int .i64 0)), none⟩])
 (.cond (.tmp 89)
  (.seq (.region [
  ⟨some 90, .mov (.tmp 4), none⟩,
  ⟨some 2, .mov (.tmp 90), none⟩,
  ⟨some 3, .mov (.const (.int .i64 43)), none⟩])
  .ret)
  .skip))
 (.seq (.region [
 ⟨some 2, .mov (.const (.int .i64 0)), none⟩,
 ⟨some 3, .mov (.const (.int .i64 0)), none⟩])
 .ret)))))),
 [.tmp 2, .tmp 3]⟩
theorem low_ref06_Check : lowFn Tryz.prog movers 63 = some ⟨ir_ref06_Check.n, strip ir_ref06_Check.body, ir_ref06_Check.res⟩ := by kernel_rfl
def ir_ref06_reaches : IFn := ⟨37,
 (.seq (.region [
 ⟨some 6, .mov (.const (.bool false)), none⟩])
 (.seq (.seq (.region [
 ⟨some 9, .mov (.tmp 2), none⟩,
 ⟨some 10, .mov (.tmp 0), none⟩,
 ⟨some 11, .len (.tmp 10), none⟩,
 ⟨some 12, .bin .gtr (.tmp 9) (.tmp 11), none⟩])
 (.cond (.tmp 12)
  (.seq (.region [
  ⟨some 6, .mov (.const (.bool false)), none⟩])
  .ret)
  .skip))
 (.seq (.region [
 ⟨some 14, .mov (.tmp 0), none⟩,
 ⟨some 15, .mov (.tmp 1), none⟩,
 ⟨some 16, .call 125 [(.tmp 14), (.tmp 15)], none⟩,
 ⟨some 13, .mov (.tmp 16), none⟩,
 ⟨some 17, .ext (.tmp 13) 0, none⟩,
 ⟨some 18, .ext (.tmp 13) 1, none⟩,
 ⟨some 7, .mov (.tmp 17), none⟩,
 ⟨some 8, .mov (.tmp 18), none⟩])
 (.seq (.seq (.region [
 ⟨some 19, .mov (.tmp 7), none⟩,
 ⟨some 20, .bin .geq (.tmp 19) (.const (.int .i64 0)), none⟩])
 (.cond (.tmp 20)
  (.seq (.region [
  ⟨some 21, .mov (.tmp 2), none⟩,
  ⟨some 22, .mov (.tmp 8), none⟩,
  ⟨some 23, .bin .leq (.tmp 21) (.tmp 22), none⟩,
  ⟨some 6, .mov (.tmp 23), none⟩])
  .ret)
  .skip))
 (.seq (.region [
 ⟨some 25, .mov (.tmp 0), none⟩,
 ⟨some 26, .mov (.tmp 2), none⟩,
 ⟨some 27, .call 125 [(.tmp 25), (.tmp 26)], none⟩,
 ⟨some 24, .mov (.tmp 27), none⟩,
 ⟨some 28, .ext (.tmp 24) 0, none⟩,
 ⟨some 29, .ext (.tmp 24) 1, none⟩,
 ⟨some 7, .mov (.tmp 28), none⟩])
 (.seq (.region [
 ⟨some 30, .mov (.tmp 7), none⟩,
 ⟨some 31, .bin .lss (.tmp 30) (.const (.int .i64 0)), none⟩,
 ⟨some 32, .mov (.tmp 31), none⟩,
 ⟨some 33, .mov (.tmp 7), some (32, false)⟩,
 ⟨some 34, .mov (.tmp 2), some (32, false)⟩,
 ⟨some 35, .bin .eql (.tmp 33) (.tmp 34), some (32, false)⟩,
 ⟨some 36, .pick (.tmp 32) (.const (.bool true)) (.tmp 35), none⟩,
 ⟨some 6, .mov (.tmp 36), none⟩])
 .ret)))))),
 [.tmp 6]⟩
theorem low_ref06_reaches : lowFn Tryz.prog movers 87 = some ⟨ir_ref06_reaches.n, strip ir_ref06_reaches.body, ir_ref06_reaches.res⟩ := by kernel_rfl
def ir_ref06_Span : IFn := ⟨61,
 (.seq (.region [
 ⟨some 4, .mov (.const (.int .i64 0)), none⟩,
 ⟨some 5, .mov (.const (.int .i64 0)), none⟩])
 (.seq (.region [
 ⟨some 6, .mov (.const (.int .i64 (-1))), none⟩])
 (.seq (.seq (.region [
 ⟨some 7, .mov (.const (.int .i64 0)), none⟩])
 (.block 0
  (.loop 35184372088816
   (.seq (.seq (.region [
   ⟨some 8, .mov (.tmp 7), none⟩,
   ⟨some 9, .mov (.tmp 0), none⟩,
   ⟨some 10, .len (.tmp 9), none⟩,
   ⟨some 11, .bin .lss (.tmp 8) (.tmp 10), none⟩])
   (.cond (.tmp 11)
    .skip
    (.exit 0)))
   (.seq (.block 1
    (.seq (.region [
    ⟨some 14, .mov (.tmp 6), none⟩,
    ⟨some 15, .bin .lss (.tmp 14) (.const (.int .i64 0)), none⟩,
    ⟨some 16, .mov (.tmp 15), none⟩,
    ⟨some 17, .mov (.tmp 0), some (16, true)⟩,
    ⟨some 18, .mov (.tmp 7), some (16, true)⟩,
    ⟨some 19, .ixs 5 (.tmp 17) (.tmp 18), some (16, true)⟩,
    ⟨some 20, .fad 0 (.tmp 19), some (16, true)⟩,
    ⟨some 21, .ld (.tmp 20), some (16, true)⟩,
    ⟨some 22, .bin .eql (.tmp 21) (.const (.int .i64 7)), some (16, true)⟩,
    ⟨some 23, .pick (.tmp 16) (.tmp 22) (.const (.bool false)), none⟩])
    (.cond (.tmp 23)
     (.region [
     ⟨some 24, .mov (.tmp 7), none⟩,
     ⟨some 6, .mov (.tmp 24), none⟩])
     (.seq (.region [
     ⟨some 25, .mov (.tmp 6), none⟩,
     ⟨some 26, .bin .geq (.tmp 25) (.const (.int .i64 0)), none⟩,
     ⟨some 27, .mov (.tmp 26), none⟩,
     ⟨some 28, .mov (.tmp 0), some (27, true)⟩,
     ⟨some 29, .mov (.tmp 7), some (27, true)⟩,
     ⟨some 30, .ixs 5 (.tmp 28) (.tmp 29), some (27, true)⟩,
     ⟨some 31, .fad 0 (.tmp 30), some (27, true)⟩,
     ⟨some 32, .ld (.tmp 31), some (27, true)⟩,
     ⟨some 33, .bin .eql (.tmp 32) (.const (.int .i64 8)), some (27, true)⟩,
     ⟨some 34, .pick (.tmp 27) (.tmp 33) (.const (.bool false)), none⟩])
     (.cond (.tmp 34)
      (.seq (.seq (.region [
      ⟨some 35, .mov (.tmp 6), none⟩,
      ⟨some 36, .mov (.tmp 1), none⟩,
      ⟨some 37, .bin .leq (.tmp 35) (.tmp 36), none⟩,
      ⟨some 38, .mov (.tmp 37), none⟩,
      ⟨some 39, .mov (.tmp 1), some (38, true)⟩,
      ⟨some 40, .mov (.tmp 7), some (38, true)⟩,
      ⟨some 41, .bin .leq (.tmp 39) (.tmp 40), some (38, true)⟩,
      ⟨some 42, .pick (.tmp 38) (.tmp 41) (.const (.bool false)), none⟩])
      (.cond (.tmp 42)
       (.seq (.region [
       ⟨some 43, .mov (.tmp 6), none⟩,
       ⟨some 44, .mov (.tmp 7), none⟩,
       ⟨some 4, .mov (.tmp 43), none⟩,
       ⟨some 5, .mov (.tmp 44), none⟩])
       .ret)
       .skip))
      (.region [
      ⟨some 6, .mov (.const (.int .i64 (-1))), none⟩]))
      .skip)))))
   (.region [
   ⟨some 12, .mov (.tmp 7), none⟩,
   ⟨some 13, .bin .add (.tmp 12) (.const (.int .i64 1)), none⟩,
   ⟨some 7, .mov (.tmp 13), none⟩]))))))
 (.seq (.seq (.region [
 ⟨some 45, .mov (.tmp 6), none⟩,
 ⟨some 46, .bin .geq (.tmp 45) (.const (.int .i64 0)), none⟩,
 ⟨some 47, .mov (.tmp 46), none⟩,
 ⟨some 48, .mov (.tmp 6), some (47, true)⟩,
 ⟨some 49, .mov (.tmp 1), some (47, true)⟩,
 ⟨some 50, .bin .leq (.tmp 48) (.tmp 49), some (47, true)⟩,
 ⟨some 51, .pick (.tmp 47) (.tmp 50) (.const (.bool false)), none⟩,
 ⟨some 52, .mov (.tmp 51), none⟩,
 ⟨some 53, .mov (.tmp 1), some (52, true)⟩,
 ⟨some 54, .mov (.tmp 0), some (52, true)⟩,
 ⟨some 55, .len (.tmp 54), some (52, true)⟩,
 ⟨some 56, .bin .lss (.tmp 53) (.tmp 55), some (52, true)⟩,
 ⟨some 57, .pick (.tmp 52) (.tmp 56) (.const (.bool false)), none⟩])
 (.cond (.tmp 57)
  (.seq (.region [
  ⟨some 58, .mov (.tmp 6), none⟩,
  ⟨some 59, .mov (.tmp 0), none⟩,
  ⟨some 60, .len (.tmp 59), none⟩,
  ⟨some 4, .mov (.tmp 58), none⟩,
  ⟨some 5, .mov (.tmp 60), none⟩])
  .ret)
  .skip))
 (.seq (.region [
 ⟨some 4, .mov (.const (.int .i64 (-1))), none⟩,
 ⟨some 5, .mov (.const (.int .i64 (-1))), none⟩])
 .ret))))),
 [.tmp 4, .tmp 5]⟩
theorem low_ref06_Span : lowFn Tryz.prog movers 125 = some ⟨ir_ref06_Span.n, strip ir_ref06_Span.body, ir_ref06_Span.res⟩ := by kernel_rfl
end Go.Proofs.YtiimndcifcoofaaGreatDoor
namespace Go.Proofs.YtiimndcifcoofaaGreatDoor
open Go
set_option maxRecDepth 100000
def ir_make_instruction : IFn := ⟨84,
 (.seq (.region [
 ⟨some 4, .new 23 (.agg #[.int .i64 0, .int .i64 0, .int .i64 0, .int .i64 0, .int .i64 0]), none⟩])
 (.seq (.region [
 ⟨some 9, .mov (.tmp 1), none⟩,
 ⟨some 10, .bin .rem (.tmp 9) (.const (.int .u64 4)), none⟩,
 ⟨some 11, .conv .i64 (.tmp 10), none⟩,
 ⟨some 12, .mov (.tmp 1), none⟩,
 ⟨some 13, .bin .quo (.tmp 12) (.const (.int .u64 4)), none⟩,
 ⟨some 14, .bin .rem (.tmp 13) (.const (.int .u64 4)), none⟩,
 ⟨some 15, .conv .i64 (.tmp 14), none⟩,
 ⟨some 16, .mov (.tmp 1), none⟩,
 ⟨some 17, .bin .quo (.tmp 16) (.const (.int .u64 16)), none⟩,
 ⟨some 18, .bin .rem (.tmp 17) (.const (.int .u64 4)), none⟩,
 ⟨some 19, .conv .i64 (.tmp 18), none⟩,
 ⟨some 5, .mov (.tmp 11), none⟩,
 ⟨some 6, .mov (.tmp 15), none⟩,
 ⟨some 7, .mov (.tmp 19), none⟩])
 (.seq (.region [
 ⟨some 20, .mov (.tmp 1), none⟩,
 ⟨some 21, .bin .quo (.tmp 20) (.const (.int .u64 64)), none⟩,
 ⟨some 22, .bin .rem (.tmp 21) (.const (.int .u64 1024)), none⟩,
 ⟨some 23, .conv .i64 (.tmp 22), none⟩,
 ⟨some 8, .mov (.tmp 23), none⟩])
 (.seq (.seq (.region [
 ⟨some 24, .mov (.tmp 0), none⟩])
 (.block 0
  (.seq (.region [
  ⟨some 26, .bin .eql (.tmp 24) (.const (.int .i64 1)), none⟩,
  ⟨some 25, .mov (.tmp 26), none⟩])
  (.cond (.tmp 25)
   (.seq (.region [
   ⟨some 27, .mov (.tmp 0), none⟩,
   ⟨some 28, .mov (.tmp 5), none⟩,
   ⟨some 29, .mov (.tmp 8), none⟩,
   ⟨some 30, .bin .rem (.tmp 29) (.const (.int .i64 7)), none⟩,
   ⟨some 31, .bld [(.int .i64 0), (.int .i64 0), (.int .i64 0), (.int .i64 0), (.int .i64 0)] [(0, 1, (.tmp 27)), (1, 1, (.tmp 28)), (4, 1, (.tmp 30))], none⟩,
   ⟨none, .stN 5 (.tmp 4) (.tmp 31), none⟩])
   .ret)
   (.seq (.region [
   ⟨some 33, .bin .eql (.tmp 24) (.const (.int .i64 2)), none⟩,
   ⟨some 32, .mov (.tmp 33), none⟩])
   (.cond (.tmp 32)
    (.seq (.region [
    ⟨some 34, .mov (.tmp 0), none⟩,
    ⟨some 35, .mov (.tmp 5), none⟩,
    ⟨some 36, .mov (.tmp 6), none⟩,
    ⟨some 37, .bld [(.int .i64 0), (.int .i64 0), (.int .i64 0), (.int .i64 0), (.int .i64 0)] [(0, 1, (.tmp 34)), (1, 1, (.tmp 35)), (2, 1, (.tmp 36))], none⟩,
    ⟨none, .stN 5 (.tmp 4) (.tmp 37), none⟩])
    .ret)
    (.seq (.region [
    ⟨some 39, .bin .eql (.tmp 24) (.const (.int .i64 3)), none⟩,
    ⟨some 38, .mov (.tmp 39), none⟩])
    (.cond (.tmp 38)
     (.seq (.region [
     ⟨some 40, .mov (.tmp 0), none⟩,
     ⟨some 41, .mov (.tmp 5), none⟩,
     ⟨some 42, .mov (.tmp 6), none⟩,
     ⟨some 43, .mov (.tmp 7), none⟩,
     ⟨some 44, .blds 3 6 [(.int .i64 0), (.int .i64 0), (.int .i64 0), (.int .i64 0), (.int .i64 0), (.int .i64 0)] [(0, 1, (.const (.int .i64 0))), (1, 1, (.const (.int .i64 1))), (2, 1, (.const (.int .i64 5))), (3, 1, (.const (.int .i64 8))), (4, 1, (.const (.int .i64 11))), (5, 1, (.const (.int .i64 12)))], none⟩,
     ⟨some 45, .mov (.tmp 8), none⟩,
     ⟨some 46, .bin .rem (.tmp 45) (.const (.int .i64 6)), none⟩,
     ⟨some 47, .ixs 1 (.tmp 44) (.tmp 46), none⟩,
     ⟨some 48, .ld (.tmp 47), none⟩,
     ⟨some 49, .bld [(.int .i64 0), (.int .i64 0), (.int .i64 0), (.int .i64 0), (.int .i64 0)] [(0, 1, (.tmp 40)), (1, 1, (.tmp 41)), (2, 1, (.tmp 42)), (3, 1, (.tmp 43)), (4, 1, (.tmp 48))], none⟩,
     ⟨none, .stN 5 (.tmp 4) (.tmp 49), none⟩])
     .ret)
     (.seq (.seq (.region [
     ⟨some 51, .bin .eql (.tmp 24) (.const (.int .i64 10)), none⟩,
     ⟨some 50, .mov (.tmp 51), none⟩])
     (.cond (.tmp 50)
      .skip
      (.seq (.region [
      ⟨some 52, .bin .eql (.tmp 24) (.const (.int .i64 11)), none⟩,
      ⟨some 50, .mov (.tmp 52), none⟩])
      (.cond (.tmp 50)
       .skip
       (.seq (.region [
       ⟨some 53, .bin .eql (.tmp 24) (.const (.int .i64 12)), none⟩,
       ⟨some 50, .mov (.tmp 53), none⟩])
       (.cond (.tmp 50)
        .skip
        (.region [
        ⟨some 54, .bin .eql (.tmp 24) (.const (.int .i64 13)), none⟩,
        ⟨some 50, .mov (.tmp 54), none⟩])))))))
     (.cond (.tmp 50)
      (.seq (.region [
      ⟨some 55, .mov (.tmp 0), none⟩,
      ⟨some 56, .mov (.tmp 5), none⟩,
      ⟨some 57, .mov (.tmp 6), none⟩,
      ⟨some 58, .mov (.tmp 8), none⟩,
      ⟨some 59, .bin .rem (.tmp 58) (.const (.int .i64 5)), none⟩,
      ⟨some 60, .bld [(.int .i64 0), (.int .i64 0), (.int .i64 0), (.int .i64 0), (.int .i64 0)] [(0, 1, (.tmp 55)), (1, 1, (.tmp 56)), (2, 1, (.tmp 57)), (4, 1, (.tmp 59))], none⟩,
      ⟨none, .stN 5 (.tmp 4) (.tmp 60), none⟩])
      .ret)
      (.seq (.region [
      ⟨some 62, .bin .eql (.tmp 24) (.const (.int .i64 14)), none⟩,
      ⟨some 61, .mov (.tmp 62), none⟩])
      (.cond (.tmp 61)
       (.seq (.region [
       ⟨some 63, .mov (.tmp 0), none⟩,
       ⟨some 64, .mov (.tmp 5), none⟩,
       ⟨some 65, .mov (.tmp 8), none⟩,
       ⟨some 66, .bin .rem (.tmp 65) (.const (.int .i64 3)), none⟩,
       ⟨some 67, .bin .rem (.tmp 66) (.const (.int .i64 2)), none⟩,
       ⟨some 68, .bld [(.int .i64 0), (.int .i64 0), (.int .i64 0), (.int .i64 0), (.int .i64 0)] [(0, 1, (.tmp 63)), (1, 1, (.tmp 64)), (4, 1, (.tmp 67))], none⟩,
       ⟨none, .stN 5 (.tmp 4) (.tmp 68), none⟩])
       .ret)
       (.seq (.seq (.region [
       ⟨some 70, .bin .eql (.tmp 24) (.const (.int .i64 15)), none⟩,
       ⟨some 69, .mov (.tmp 70), none⟩])
       (.cond (.tmp 69)
        .skip
        (.region [
        ⟨some 71, .bin .eql (.tmp 24) (.const (.int .i64 17)), none⟩,
        ⟨some 69, .mov (.tmp 71), none⟩])))
       (.cond (.tmp 69)
        (.seq (.region [
        ⟨some 72, .mov (.tmp 0), none⟩,
        ⟨some 73, .mov (.tmp 5), none⟩,
        ⟨some 74, .bld [(.int .i64 0), (.int .i64 0), (.int .i64 0), (.int .i64 0), (.int .i64 0)] [(0, 1, (.tmp 72)), (1, 1, (.tmp 73))], none⟩,
        ⟨none, .stN 5 (.tmp 4) (.tmp 74), none⟩])
        .ret)
        (.seq (.region [
        ⟨some 76, .bin .eql (.tmp 24) (.const (.int .i64 7)), none⟩,
        ⟨some 75, .mov (.tmp 76), none⟩])
        (.cond (.tmp 75)
         (.seq (.region [
         ⟨some 77, .mov (.tmp 0), none⟩,
         ⟨some 78, .mov (.tmp 8), none⟩,
         ⟨some 79, .bin .rem (.tmp 78) (.const (.int .i64 3)), none⟩,
         ⟨some 80, .bin .add (.const (.int .i64 1)) (.tmp 79), none⟩,
         ⟨some 81, .bld [(.int .i64 0), (.int .i64 0), (.int .i64 0), (.int .i64 0), (.int .i64 0)] [(0, 1, (.tmp 77)), (4, 1, (.tmp 80))], none⟩,
         ⟨none, .stN 5 (.tmp 4) (.tmp 81), none⟩])
         .ret)
         .skip))))))))))))))))
 (.seq (.region [
 ⟨some 82, .mov (.tmp 0), none⟩,
 ⟨some 83, .bld [(.int .i64 0), (.int .i64 0), (.int .i64 0), (.int .i64 0), (.int .i64 0)] [(0, 1, (.tmp 82))], none⟩,
 ⟨none, .stN 5 (.tmp 4) (.tmp 83), none⟩])
 .ret))))),
 [.cellN 4 5]⟩
theorem low_make_instruction : lowFn Tryz.prog movers 62 = some ⟨ir_make_instruction.n, strip ir_make_instruction.body, ir_make_instruction.res⟩ := by kernel_rfl
end Go.Proofs.YtiimndcifcoofaaGreatDoor
