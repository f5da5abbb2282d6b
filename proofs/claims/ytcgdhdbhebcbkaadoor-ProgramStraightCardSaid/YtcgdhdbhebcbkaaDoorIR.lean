/- The lowered code of this seat's functions, printed by program; each is checked against the loaded program by the kernel. No condition. -/
import Derived.Test.YtcgdhdbhebcbkaaDoorVj
import Derived.Test.YtcgdhdbhebcbkaaDoorRows
namespace Go.Proofs.YtcgdhdbhebcbkaaDoor
open Go
set_option maxRecDepth 100000
theorem mixed : Tryd.prog.follows .mixedOrders = true := by kernel_rfl
/-- Functions that do not leave the class alone. -/
def movers : List Nat := [9, 20, 23, 29]

/-- strongtx/strongtxlaw06.ProgramSplits -/
def ir_law06_ProgramSplits : IFn := ⟨88,
 (.seq (.region [
 ⟨some 2, .mov (.const (.bool false)), none⟩])
 (.seq (.seq (.region [
 ⟨some 10, .mov (.tmp 0), none⟩,
 ⟨some 11, .len (.tmp 10), none⟩,
 ⟨some 12, .bin .gtr (.tmp 11) (.const (.int .i64 80)), none⟩])
 (.cond (.tmp 12)
  (.seq (.region [
  ⟨some 13, .call 8 [], none⟩,
  ⟨some 2, .mov (.tmp 13), none⟩])
  .ret)
  .skip))
 (.seq (.region [
 ⟨some 14, .mov (.tmp 0), none⟩,
 ⟨some 15, .call 9 [(.tmp 14), (.const (.int .i64 50)), (.const (.bool true)), (.const (.bool true))], none⟩,
 ⟨some 3, .mov (.tmp 15), none⟩])
 (.seq (.seq (.region [
 ⟨some 17, .mov (.tmp 3), none⟩,
 ⟨some 18, .call 10 [(.tmp 17)], none⟩,
 ⟨some 16, .mov (.tmp 18), none⟩,
 ⟨some 19, .ext (.tmp 16) 0, none⟩,
 ⟨some 20, .ext (.tmp 16) 1, none⟩,
 ⟨some 4, .mov (.tmp 19), none⟩,
 ⟨some 5, .mov (.tmp 20), none⟩])
 (.seq (.region [
 ⟨some 21, .mov (.tmp 5), none⟩,
 ⟨some 22, .bin .neq (.tmp 21) (.const (.int .i64 0)), none⟩])
 (.cond (.tmp 22)
  (.seq (.region [
  ⟨some 2, .mov (.const (.bool false)), none⟩])
  .ret)
  .skip)))
 (.seq (.region [
 ⟨some 6, .mov (.const (.int .i64 (-1))), none⟩])
 (.seq (.seq (.region [
 ⟨some 7, .mov (.const (.int .i64 0)), none⟩])
 (.block 0
  (.loop 154742504910672534354002884
   (.seq (.seq (.region [
   ⟨some 23, .mov (.tmp 7), none⟩,
   ⟨some 24, .mov (.tmp 3), none⟩,
   ⟨some 25, .len (.tmp 24), none⟩,
   ⟨some 26, .bin .lss (.tmp 23) (.tmp 25), none⟩])
   (.cond (.tmp 26)
    .skip
    (.exit 0)))
   (.seq (.block 1
    (.seq (.region [
    ⟨some 29, .mov (.tmp 3), none⟩,
    ⟨some 30, .mov (.tmp 7), none⟩,
    ⟨some 31, .call 11 [(.tmp 29), (.tmp 30)], none⟩,
    ⟨some 8, .mov (.tmp 31), none⟩])
    (.seq (.seq (.region [
    ⟨some 32, .mov (.tmp 8), none⟩,
    ⟨some 33, .bin .geq (.tmp 32) (.const (.int .i64 0)), none⟩,
    ⟨some 34, .mov (.tmp 3), none⟩,
    ⟨some 35, .mov (.tmp 7), none⟩,
    ⟨some 36, .ixs 5 (.tmp 34) (.tmp 35), none⟩,
    ⟨some 37, .fad 0 (.tmp 36), none⟩,
    ⟨some 38, .ld (.tmp 37), none⟩,
    ⟨some 39, .bin .eql (.tmp 38) (.const (.int .i64 7)), none⟩,
    ⟨some 40, .beq true (.tmp 33) (.tmp 39), none⟩])
    (.cond (.tmp 40)
     (.seq (.region [
     ⟨some 2, .mov (.const (.bool false)), none⟩])
     .ret)
     .skip))
    (.seq (.seq (.region [
    ⟨some 41, .mov (.tmp 8), none⟩,
    ⟨some 42, .bin .lss (.tmp 41) (.const (.int .i64 0)), none⟩])
    (.cond (.tmp 42)
     (.exit 1)
     .skip))
    (.seq (.seq (.region [
    ⟨some 43, .mov (.tmp 7), none⟩,
    ⟨some 44, .mov (.tmp 6), none⟩,
    ⟨some 45, .bin .leq (.tmp 43) (.tmp 44), none⟩,
    ⟨some 46, .mov (.tmp 45), none⟩,
    ⟨some 47, .mov (.tmp 8), some (46, false)⟩,
    ⟨some 48, .mov (.tmp 7), some (46, false)⟩,
    ⟨some 49, .bin .leq (.tmp 47) (.tmp 48), some (46, false)⟩,
    ⟨some 50, .pick (.tmp 46) (.const (.bool true)) (.tmp 49), none⟩,
    ⟨some 51, .mov (.tmp 50), none⟩,
    ⟨some 52, .mov (.tmp 8), some (51, false)⟩,
    ⟨some 53, .mov (.tmp 3), some (51, false)⟩,
    ⟨some 54, .len (.tmp 53), some (51, false)⟩,
    ⟨some 55, .bin .geq (.tmp 52) (.tmp 54), some (51, false)⟩,
    ⟨some 56, .pick (.tmp 51) (.const (.bool true)) (.tmp 55), none⟩,
    ⟨some 57, .mov (.tmp 56), none⟩,
    ⟨some 58, .mov (.tmp 3), some (57, false)⟩,
    ⟨some 59, .mov (.tmp 8), some (57, false)⟩,
    ⟨some 60, .ixs 5 (.tmp 58) (.tmp 59), some (57, false)⟩,
    ⟨some 61, .fad 0 (.tmp 60), some (57, false)⟩,
    ⟨some 62, .ld (.tmp 61), some (57, false)⟩,
    ⟨some 63, .bin .neq (.tmp 62) (.const (.int .i64 8)), some (57, false)⟩,
    ⟨some 64, .pick (.tmp 57) (.const (.bool true)) (.tmp 63), none⟩])
    (.cond (.tmp 64)
     (.seq (.region [
     ⟨some 2, .mov (.const (.bool false)), none⟩])
     .ret)
     .skip))
    (.seq (.seq (.region [
    ⟨some 65, .mov (.tmp 7), none⟩,
    ⟨some 66, .bin .add (.tmp 65) (.const (.int .i64 1)), none⟩,
    ⟨some 9, .mov (.tmp 66), none⟩])
    (.block 2
     (.loop 77371104881383677504782852
      (.seq (.seq (.region [
      ⟨some 67, .mov (.tmp 9), none⟩,
      ⟨some 68, .mov (.tmp 8), none⟩,
      ⟨some 69, .bin .lss (.tmp 67) (.tmp 68), none⟩])
      (.cond (.tmp 69)
       .skip
       (.exit 2)))
      (.seq (.block 3
       (.seq (.region [
       ⟨some 72, .mov (.tmp 3), none⟩,
       ⟨some 73, .mov (.tmp 9), none⟩,
       ⟨some 74, .ixs 5 (.tmp 72) (.tmp 73), none⟩,
       ⟨some 75, .fad 0 (.tmp 74), none⟩,
       ⟨some 76, .ld (.tmp 75), none⟩,
       ⟨some 77, .bin .eql (.tmp 76) (.const (.int .i64 7)), none⟩,
       ⟨some 78, .mov (.tmp 77), none⟩,
       ⟨some 79, .mov (.tmp 3), some (78, false)⟩,
       ⟨some 80, .mov (.tmp 9), some (78, false)⟩,
       ⟨some 81, .ixs 5 (.tmp 79) (.tmp 80), some (78, false)⟩,
       ⟨some 82, .fad 0 (.tmp 81), some (78, false)⟩,
       ⟨some 83, .ld (.tmp 82), some (78, false)⟩,
       ⟨some 84, .bin .eql (.tmp 83) (.const (.int .i64 8)), some (78, false)⟩,
       ⟨some 85, .pick (.tmp 78) (.const (.bool true)) (.tmp 84), none⟩])
       (.cond (.tmp 85)
        (.seq (.region [
        ⟨some 2, .mov (.const (.bool false)), none⟩])
        .ret)
        .skip)))
      (.region [
      ⟨some 70, .mov (.tmp 9), none⟩,
      ⟨some 71, .bin .add (.tmp 70) (.const (.int .i64 1)), none⟩,
      ⟨some 9, .mov (.tmp 71), none⟩]))))))
    (.region [
    ⟨some 86, .mov (.tmp 8), none⟩,
    ⟨some 6, .mov (.tmp 86), none⟩])))))))
   (.region [
   ⟨some 27, .mov (.tmp 7), none⟩,
   ⟨some 28, .bin .add (.tmp 27) (.const (.int .i64 1)), none⟩,
   ⟨some 7, .mov (.tmp 28), none⟩]))))))
 (.seq (.region [
 ⟨some 87, .call 8 [], none⟩,
 ⟨some 2, .mov (.tmp 87), none⟩])
 .ret))))))),
 [.tmp 2]⟩
theorem low_law06_ProgramSplits : lowFn Tryd.prog movers 3 = some ⟨ir_law06_ProgramSplits.n, strip ir_law06_ProgramSplits.body, ir_law06_ProgramSplits.res⟩ := by kernel_rfl

/-- strongtx/strongtxlaw06.ProgramPaths -/
def ir_law06_ProgramPaths : IFn := ⟨73,
 (.seq (.region [
 ⟨some 6, .mov (.const (.bool false)), none⟩])
 (.seq (.seq (.region [
 ⟨some 15, .mov (.tmp 0), none⟩,
 ⟨some 16, .len (.tmp 15), none⟩,
 ⟨some 17, .bin .gtr (.tmp 16) (.const (.int .i64 80)), none⟩])
 (.cond (.tmp 17)
  (.seq (.region [
  ⟨some 18, .call 8 [], none⟩,
  ⟨some 6, .mov (.tmp 18), none⟩])
  .ret)
  .skip))
 (.seq (.region [
 ⟨some 19, .mov (.tmp 0), none⟩,
 ⟨some 20, .call 9 [(.tmp 19), (.const (.int .i64 50)), (.const (.bool true)), (.const (.bool true))], none⟩,
 ⟨some 7, .mov (.tmp 20), none⟩])
 (.seq (.seq (.region [
 ⟨some 21, .mov (.tmp 7), none⟩,
 ⟨some 22, .len (.tmp 21), none⟩,
 ⟨some 23, .bin .eql (.tmp 22) (.const (.int .i64 0)), none⟩])
 (.cond (.tmp 23)
  (.seq (.region [
  ⟨some 24, .mov (.tmp 7), none⟩,
  ⟨some 25, .call 12 [(.tmp 24)], none⟩,
  ⟨some 26, .bin .eql (.tmp 25) (.const (.int .i64 0)), none⟩,
  ⟨some 27, .mov (.tmp 26), none⟩,
  ⟨some 28, .call 8 [], some (27, true)⟩,
  ⟨some 29, .pick (.tmp 27) (.tmp 28) (.const (.bool false)), none⟩,
  ⟨some 6, .mov (.tmp 29), none⟩])
  .ret)
  .skip))
 (.seq (.region [
 ⟨some 30, .mov (.tmp 2), none⟩,
 ⟨some 31, .mov (.tmp 7), none⟩,
 ⟨some 32, .len (.tmp 31), none⟩,
 ⟨some 33, .call 13 [(.tmp 30), (.tmp 32)], none⟩,
 ⟨some 2, .mov (.tmp 33), none⟩])
 (.seq (.seq (.region [
 ⟨some 34, .mov (.tmp 7), none⟩,
 ⟨some 35, .mov (.tmp 2), none⟩,
 ⟨some 36, .ixs 5 (.tmp 34) (.tmp 35), none⟩,
 ⟨some 37, .fad 0 (.tmp 36), none⟩,
 ⟨some 38, .ld (.tmp 37), none⟩,
 ⟨some 39, .bin .neq (.tmp 38) (.const (.int .i64 7)), none⟩])
 (.cond (.tmp 39)
  (.region [
  ⟨some 2, .mov (.const (.int .i64 (-1))), none⟩])
  .skip))
 (.seq (.region [
 ⟨some 41, .mov (.tmp 7), none⟩,
 ⟨some 42, .mov (.tmp 1), none⟩,
 ⟨some 43, .mov (.tmp 2), none⟩,
 ⟨some 44, .call 14 [(.tmp 41), (.tmp 42), (.tmp 43)], none⟩,
 ⟨some 40, .mov (.tmp 44), none⟩,
 ⟨some 45, .ext (.tmp 40) 0, none⟩,
 ⟨some 46, .ext (.tmp 40) 1, none⟩,
 ⟨some 47, .ext (.tmp 40) 2, none⟩,
 ⟨some 8, .mov (.tmp 45), none⟩,
 ⟨some 9, .mov (.tmp 46), none⟩,
 ⟨some 10, .mov (.tmp 47), none⟩])
 (.seq (.region [
 ⟨some 49, .mov (.tmp 7), none⟩,
 ⟨some 50, .mov (.tmp 2), none⟩,
 ⟨some 51, .call 15 [(.tmp 49), (.tmp 50)], none⟩,
 ⟨some 48, .mov (.tmp 51), none⟩,
 ⟨some 52, .ext (.tmp 48) 0, none⟩,
 ⟨some 53, .ext (.tmp 48) 1, none⟩,
 ⟨some 54, .ext (.tmp 48) 2, none⟩,
 ⟨some 55, .ext (.tmp 48) 3, none⟩,
 ⟨some 11, .mov (.tmp 52), none⟩,
 ⟨some 12, .mov (.tmp 53), none⟩,
 ⟨some 13, .mov (.tmp 54), none⟩,
 ⟨some 14, .mov (.tmp 55), none⟩])
 (.seq (.region [
 ⟨some 56, .mov (.tmp 8), none⟩,
 ⟨some 57, .mov (.tmp 7), none⟩,
 ⟨some 58, .call 12 [(.tmp 57)], none⟩,
 ⟨some 59, .bin .leq (.tmp 56) (.tmp 58), none⟩,
 ⟨some 60, .mov (.tmp 59), none⟩,
 ⟨some 61, .mov (.tmp 9), some (60, true)⟩,
 ⟨some 62, .mov (.tmp 11), some (60, true)⟩,
 ⟨some 63, .bin .leq (.tmp 61) (.tmp 62), some (60, true)⟩,
 ⟨some 64, .pick (.tmp 60) (.tmp 63) (.const (.bool false)), none⟩,
 ⟨some 65, .mov (.tmp 64), none⟩,
 ⟨some 66, .mov (.tmp 10), some (65, true)⟩,
 ⟨some 67, .mov (.tmp 12), some (65, true)⟩,
 ⟨some 68, .bin .leq (.tmp 66) (.tmp 67), some (65, true)⟩,
 ⟨some 69, .pick (.tmp 65) (.tmp 68) (.const (.bool false)), none⟩,
 ⟨some 70, .mov (.tmp 69), none⟩,
 ⟨some 71, .call 8 [], some (70, true)⟩,
 ⟨some 72, .pick (.tmp 70) (.tmp 71) (.const (.bool false)), none⟩,
 ⟨some 6, .mov (.tmp 72), none⟩])
 .ret))))))))),
 [.tmp 6]⟩
theorem low_law06_ProgramPaths : lowFn Tryd.prog movers 4 = some ⟨ir_law06_ProgramPaths.n, strip ir_law06_ProgramPaths.body, ir_law06_ProgramPaths.res⟩ := by kernel_rfl

/-- strongtx/strongtxlaw06.ProgramStraight -/
def ir_law06_ProgramStraight : IFn := ⟨143,
 (.seq (.region [
 ⟨some 2, .mov (.const (.bool false)), none⟩])
 (.seq (.seq (.region [
 ⟨some 17, .mov (.tmp 0), none⟩,
 ⟨some 18, .len (.tmp 17), none⟩,
 ⟨some 19, .bin .gtr (.tmp 18) (.const (.int .i64 60)), none⟩])
 (.cond (.tmp 19)
  (.seq (.region [
  ⟨some 20, .call 8 [], none⟩,
  ⟨some 2, .mov (.tmp 20), none⟩])
  .ret)
  .skip))
 (.seq (.region [
 ⟨some 21, .mov (.tmp 0), none⟩,
 ⟨some 22, .call 9 [(.tmp 21), (.const (.int .i64 40)), (.const (.bool true)), (.const (.bool true))], none⟩,
 ⟨some 3, .mov (.tmp 22), none⟩])
 (.seq (.region [
 ⟨some 4, .mov (.const (.slice none 0 0)), none⟩])
 (.seq (.seq (.region [
 ⟨some 5, .mov (.const (.int .i64 0)), none⟩])
 (.block 0
  (.loop 36028797010575472
   (.seq (.seq (.region [
   ⟨some 23, .mov (.tmp 5), none⟩,
   ⟨some 24, .mov (.tmp 3), none⟩,
   ⟨some 25, .len (.tmp 24), none⟩,
   ⟨some 26, .bin .lss (.tmp 23) (.tmp 25), none⟩])
   (.cond (.tmp 26)
    .skip
    (.exit 0)))
   (.seq (.block 1
    (.seq (.region [
    ⟨some 29, .mov (.tmp 3), none⟩,
    ⟨some 30, .mov (.tmp 5), none⟩,
    ⟨some 31, .ixs 5 (.tmp 29) (.tmp 30), none⟩,
    ⟨some 32, .fad 0 (.tmp 31), none⟩,
    ⟨some 33, .ld (.tmp 32), none⟩,
    ⟨some 6, .mov (.tmp 33), none⟩])
    (.seq (.region [
    ⟨some 34, .mov (.tmp 6), none⟩,
    ⟨some 35, .bin .neq (.tmp 34) (.const (.int .i64 4)), none⟩,
    ⟨some 36, .mov (.tmp 35), none⟩,
    ⟨some 37, .mov (.tmp 6), some (36, true)⟩,
    ⟨some 38, .bin .neq (.tmp 37) (.const (.int .i64 5)), some (36, true)⟩,
    ⟨some 39, .pick (.tmp 36) (.tmp 38) (.const (.bool false)), none⟩,
    ⟨some 40, .mov (.tmp 39), none⟩,
    ⟨some 41, .mov (.tmp 6), some (40, true)⟩,
    ⟨some 42, .bin .neq (.tmp 41) (.const (.int .i64 6)), some (40, true)⟩,
    ⟨some 43, .pick (.tmp 40) (.tmp 42) (.const (.bool false)), none⟩,
    ⟨some 44, .mov (.tmp 43), none⟩,
    ⟨some 45, .mov (.tmp 6), some (44, true)⟩,
    ⟨some 46, .bin .neq (.tmp 45) (.const (.int .i64 9)), some (44, true)⟩,
    ⟨some 47, .pick (.tmp 44) (.tmp 46) (.const (.bool false)), none⟩])
    (.cond (.tmp 47)
     (.region [
     ⟨some 48, .mov (.tmp 4), none⟩,
     ⟨some 49, .mov (.tmp 3), none⟩,
     ⟨some 50, .mov (.tmp 5), none⟩,
     ⟨some 51, .ixs 5 (.tmp 49) (.tmp 50), none⟩,
     ⟨some 52, .ldN 5 (.tmp 51), none⟩,
     ⟨some 53, .blds 31 1 [(.int .i64 0), (.int .i64 0), (.int .i64 0), (.int .i64 0), (.int .i64 0)] [(0, 5, (.tmp 52))], none⟩,
     ⟨some 54, .app 31 5 40 [(.int .i64 0), (.int .i64 0), (.int .i64 0), (.int .i64 0), (.int .i64 0)] (.tmp 48) (.tmp 53), none⟩,
     ⟨some 4, .mov (.tmp 54), none⟩])
     .skip))))
   (.region [
   ⟨some 27, .mov (.tmp 5), none⟩,
   ⟨some 28, .bin .add (.tmp 27) (.const (.int .i64 1)), none⟩,
   ⟨some 5, .mov (.tmp 28), none⟩]))))))
 (.seq (.seq (.region [
 ⟨some 55, .mov (.tmp 4), none⟩,
 ⟨some 56, .call 12 [(.tmp 55)], none⟩,
 ⟨some 57, .mov (.tmp 4), none⟩,
 ⟨some 58, .len (.tmp 57), none⟩,
 ⟨some 59, .bin .neq (.tmp 56) (.tmp 58), none⟩])
 (.cond (.tmp 59)
  (.seq (.region [
  ⟨some 2, .mov (.const (.bool false)), none⟩])
  .ret)
  .skip))
 (.seq (.seq (.region [
 ⟨some 7, .mov (.const (.int .i64 0)), none⟩])
 (.block 2
  (.loop 5575186299632655785383928415240585769779076
   (.seq (.seq (.region [
   ⟨some 60, .mov (.tmp 7), none⟩,
   ⟨some 61, .mov (.tmp 4), none⟩,
   ⟨some 62, .len (.tmp 61), none⟩,
   ⟨some 63, .bin .lss (.tmp 60) (.tmp 62), none⟩])
   (.cond (.tmp 63)
    .skip
    (.exit 2)))
   (.seq (.block 3
    (.seq (.seq (.region [
    ⟨some 66, .mov (.tmp 4), none⟩,
    ⟨some 67, .mov (.tmp 7), none⟩,
    ⟨some 68, .ixs 5 (.tmp 66) (.tmp 67), none⟩,
    ⟨some 69, .fad 0 (.tmp 68), none⟩,
    ⟨some 70, .ld (.tmp 69), none⟩,
    ⟨some 71, .bin .neq (.tmp 70) (.const (.int .i64 7)), none⟩])
    (.cond (.tmp 71)
     (.exit 3)
     .skip))
    (.seq (.region [
    ⟨some 8, .mov (.const (.int .i64 0)), none⟩,
    ⟨some 9, .mov (.const (.int .i64 0)), none⟩,
    ⟨some 10, .mov (.const (.int .i64 0)), none⟩,
    ⟨some 11, .mov (.const (.int .i64 0)), none⟩])
    (.seq (.seq (.region [
    ⟨some 72, .mov (.tmp 7), none⟩,
    ⟨some 73, .bin .add (.tmp 72) (.const (.int .i64 1)), none⟩,
    ⟨some 12, .mov (.tmp 73), none⟩])
    (.block 4
     (.loop 83076749736538352590556462686674688
      (.seq (.seq (.region [
      ⟨some 74, .mov (.tmp 4), none⟩,
      ⟨some 75, .mov (.tmp 12), none⟩,
      ⟨some 76, .ixs 5 (.tmp 74) (.tmp 75), none⟩,
      ⟨some 77, .fad 0 (.tmp 76), none⟩,
      ⟨some 78, .ld (.tmp 77), none⟩,
      ⟨some 79, .bin .neq (.tmp 78) (.const (.int .i64 8)), none⟩])
      (.cond (.tmp 79)
       .skip
       (.exit 4)))
      (.seq (.block 5
       (.seq (.region [
       ⟨some 82, .mov (.tmp 4), none⟩,
       ⟨some 83, .mov (.tmp 12), none⟩,
       ⟨some 84, .ixs 5 (.tmp 82) (.tmp 83), none⟩,
       ⟨some 85, .fad 0 (.tmp 84), none⟩,
       ⟨some 86, .ld (.tmp 85), none⟩])
       (.block 6
        (.seq (.region [
        ⟨some 88, .bin .eql (.tmp 86) (.const (.int .i64 10)), none⟩,
        ⟨some 87, .mov (.tmp 88), none⟩])
        (.cond (.tmp 87)
         (.region [
         ⟨some 89, .mov (.tmp 8), none⟩,
         ⟨some 90, .bin .add (.tmp 89) (.const (.int .i64 1)), none⟩,
         ⟨some 8, .mov (.tmp 90), none⟩])
         (.seq (.region [
         ⟨some 92, .bin .eql (.tmp 86) (.const (.int .i64 11)), none⟩,
         ⟨some 91, .mov (.tmp 92), none⟩])
         (.cond (.tmp 91)
          (.region [
          ⟨some 93, .mov (.tmp 9), none⟩,
          ⟨some 94, .bin .add (.tmp 93) (.const (.int .i64 1)), none⟩,
          ⟨some 9, .mov (.tmp 94), none⟩])
          (.seq (.region [
          ⟨some 96, .bin .eql (.tmp 86) (.const (.int .i64 14)), none⟩,
          ⟨some 95, .mov (.tmp 96), none⟩])
          (.cond (.tmp 95)
           (.region [
           ⟨some 97, .mov (.tmp 9), none⟩,
           ⟨some 98, .bin .add (.tmp 97) (.const (.int .i64 1)), none⟩,
           ⟨some 99, .mov (.tmp 4), none⟩,
           ⟨some 100, .mov (.tmp 12), none⟩,
           ⟨some 101, .ixs 5 (.tmp 99) (.tmp 100), none⟩,
           ⟨some 102, .fad 4 (.tmp 101), none⟩,
           ⟨some 103, .ld (.tmp 102), none⟩,
           ⟨some 104, .bin .shl (.const (.int .i64 1)) (.tmp 103), none⟩,
           ⟨some 105, .bin .add (.tmp 98) (.tmp 104), none⟩,
           ⟨some 106, .mov (.tmp 10), none⟩,
           ⟨some 107, .bin .add (.tmp 106) (.const (.int .i64 1)), none⟩,
           ⟨some 9, .mov (.tmp 105), none⟩,
           ⟨some 10, .mov (.tmp 107), none⟩])
           (.seq (.region [
           ⟨some 109, .bin .eql (.tmp 86) (.const (.int .i64 15)), none⟩,
           ⟨some 108, .mov (.tmp 109), none⟩])
           (.cond (.tmp 108)
            (.region [
            ⟨some 110, .mov (.tmp 8), none⟩,
            ⟨some 111, .bin .add (.tmp 110) (.const (.int .i64 1)), none⟩,
            ⟨some 112, .mov (.tmp 9), none⟩,
            ⟨some 113, .bin .add (.tmp 112) (.const (.int .i64 1)), none⟩,
            ⟨some 114, .mov (.tmp 11), none⟩,
            ⟨some 115, .bin .add (.tmp 114) (.const (.int .i64 1)), none⟩,
            ⟨some 8, .mov (.tmp 111), none⟩,
            ⟨some 9, .mov (.tmp 113), none⟩,
            ⟨some 11, .mov (.tmp 115), none⟩])
            .skip)))))))))))
      (.region [
      ⟨some 80, .mov (.tmp 12), none⟩,
      ⟨some 81, .bin .add (.tmp 80) (.const (.int .i64 1)), none⟩,
      ⟨some 12, .mov (.tmp 81), none⟩]))))))
    (.seq (.region [
    ⟨some 117, .mov (.tmp 4), none⟩,
    ⟨some 118, .mov (.tmp 7), none⟩,
    ⟨some 119, .call 15 [(.tmp 117), (.tmp 118)], none⟩,
    ⟨some 116, .mov (.tmp 119), none⟩,
    ⟨some 120, .ext (.tmp 116) 0, none⟩,
    ⟨some 121, .ext (.tmp 116) 1, none⟩,
    ⟨some 122, .ext (.tmp 116) 2, none⟩,
    ⟨some 123, .ext (.tmp 116) 3, none⟩,
    ⟨some 13, .mov (.tmp 120), none⟩,
    ⟨some 14, .mov (.tmp 121), none⟩,
    ⟨some 15, .mov (.tmp 122), none⟩,
    ⟨some 16, .mov (.tmp 123), none⟩])
    (.seq (.region [
    ⟨some 124, .mov (.tmp 13), none⟩,
    ⟨some 125, .mov (.tmp 8), none⟩,
    ⟨some 126, .bin .neq (.tmp 124) (.tmp 125), none⟩,
    ⟨some 127, .mov (.tmp 126), none⟩,
    ⟨some 128, .mov (.tmp 14), some (127, false)⟩,
    ⟨some 129, .mov (.tmp 9), some (127, false)⟩,
    ⟨some 130, .bin .neq (.tmp 128) (.tmp 129), some (127, false)⟩,
    ⟨some 131, .pick (.tmp 127) (.const (.bool true)) (.tmp 130), none⟩,
    ⟨some 132, .mov (.tmp 131), none⟩,
    ⟨some 133, .mov (.tmp 15), some (132, false)⟩,
    ⟨some 134, .mov (.tmp 10), some (132, false)⟩,
    ⟨some 135, .bin .neq (.tmp 133) (.tmp 134), some (132, false)⟩,
    ⟨some 136, .pick (.tmp 132) (.const (.bool true)) (.tmp 135), none⟩,
    ⟨some 137, .mov (.tmp 136), none⟩,
    ⟨some 138, .mov (.tmp 16), some (137, false)⟩,
    ⟨some 139, .mov (.tmp 11), some (137, false)⟩,
    ⟨some 140, .bin .neq (.tmp 138) (.tmp 139), some (137, false)⟩,
    ⟨some 141, .pick (.tmp 137) (.const (.bool true)) (.tmp 140), none⟩])
    (.cond (.tmp 141)
     (.seq (.region [
     ⟨some 2, .mov (.const (.bool false)), none⟩])
     .ret)
     .skip)))))))
   (.region [
   ⟨some 64, .mov (.tmp 7), none⟩,
   ⟨some 65, .bin .add (.tmp 64) (.const (.int .i64 1)), none⟩,
   ⟨some 7, .mov (.tmp 65), none⟩]))))))
 (.seq (.region [
 ⟨some 142, .call 8 [], none⟩,
 ⟨some 2, .mov (.tmp 142), none⟩])
 .ret)))))))),
 [.tmp 2]⟩
theorem low_law06_ProgramStraight : lowFn Tryd.prog movers 5 = some ⟨ir_law06_ProgramStraight.n, strip ir_law06_ProgramStraight.body, ir_law06_ProgramStraight.res⟩ := by kernel_rfl

/-- strongtx/strongtxlaw07.LayoutScripts -/
def ir_law07_LayoutScripts : IFn := ⟨54,
 (.seq (.region [
 ⟨some 1, .box 47 (.tmp 0), none⟩,
 ⟨some 2, .mov (.const (.bool false)), none⟩])
 (.seq (.seq (.region [
 ⟨some 9, .fad 14 (.tmp 1), none⟩,
 ⟨some 10, .ld (.tmp 9), none⟩,
 ⟨some 11, .len (.tmp 10), none⟩,
 ⟨some 12, .bin .gtr (.tmp 11) (.const (.int .i64 20)), none⟩,
 ⟨some 13, .mov (.tmp 12), none⟩,
 ⟨some 14, .fad 13 (.tmp 1), some (13, false)⟩,
 ⟨some 15, .ld (.tmp 14), some (13, false)⟩,
 ⟨some 16, .len (.tmp 15), some (13, false)⟩,
 ⟨some 17, .bin .gtr (.tmp 16) (.const (.int .i64 80)), some (13, false)⟩,
 ⟨some 18, .pick (.tmp 13) (.const (.bool true)) (.tmp 17), none⟩,
 ⟨some 19, .mov (.tmp 18), none⟩,
 ⟨some 20, .fad 15 (.tmp 1), some (19, false)⟩,
 ⟨some 21, .ld (.tmp 20), some (19, false)⟩,
 ⟨some 22, .len (.tmp 21), some (19, false)⟩,
 ⟨some 23, .bin .gtr (.tmp 22) (.const (.int .i64 80)), some (19, false)⟩,
 ⟨some 24, .pick (.tmp 19) (.const (.bool true)) (.tmp 23), none⟩])
 (.cond (.tmp 24)
  (.seq (.region [
  ⟨some 25, .call 16 [], none⟩,
  ⟨some 2, .mov (.tmp 25), none⟩])
  .ret)
  .skip))
 (.seq (.region [
 ⟨some 27, .ldN 16 (.tmp 1), none⟩,
 ⟨some 28, .call 17 [(.tmp 27)], none⟩,
 ⟨some 26, .mov (.tmp 28), none⟩,
 ⟨some 29, .ext (.tmp 26) 0, none⟩,
 ⟨some 30, .ext (.tmp 26) 1, none⟩,
 ⟨some 31, .ext (.tmp 26) 2, none⟩,
 ⟨some 3, .mov (.tmp 29), none⟩,
 ⟨some 4, .mov (.tmp 30), none⟩,
 ⟨some 5, .mov (.tmp 31), none⟩])
 (.seq (.region [
 ⟨some 33, .ldN 16 (.tmp 1), none⟩,
 ⟨some 34, .call 18 [(.tmp 33)], none⟩,
 ⟨some 32, .mov (.tmp 34), none⟩,
 ⟨some 35, .ext (.tmp 32) 0, none⟩,
 ⟨some 36, .ext (.tmp 32) 1, none⟩,
 ⟨some 37, .ext (.tmp 32) 2, none⟩,
 ⟨some 6, .mov (.tmp 35), none⟩,
 ⟨some 7, .mov (.tmp 36), none⟩,
 ⟨some 8, .mov (.tmp 37), none⟩])
 (.seq (.region [
 ⟨some 38, .mov (.tmp 3), none⟩,
 ⟨some 39, .mov (.tmp 6), none⟩,
 ⟨some 40, .bin .eql (.tmp 38) (.tmp 39), none⟩,
 ⟨some 41, .mov (.tmp 40), none⟩,
 ⟨some 42, .mov (.tmp 4), some (41, true)⟩,
 ⟨some 43, .mov (.tmp 7), some (41, true)⟩,
 ⟨some 44, .bin .eql (.tmp 42) (.tmp 43), some (41, true)⟩,
 ⟨some 45, .pick (.tmp 41) (.tmp 44) (.const (.bool false)), none⟩,
 ⟨some 46, .mov (.tmp 45), none⟩,
 ⟨some 47, .mov (.tmp 5), some (46, true)⟩,
 ⟨some 48, .mov (.tmp 8), some (46, true)⟩,
 ⟨some 49, .bin .eql (.tmp 47) (.tmp 48), some (46, true)⟩,
 ⟨some 50, .pick (.tmp 46) (.tmp 49) (.const (.bool false)), none⟩,
 ⟨some 51, .mov (.tmp 50), none⟩,
 ⟨some 52, .call 16 [], some (51, true)⟩,
 ⟨some 53, .pick (.tmp 51) (.tmp 52) (.const (.bool false)), none⟩,
 ⟨some 2, .mov (.tmp 53), none⟩])
 .ret))))),
 [.tmp 2]⟩
theorem low_law07_LayoutScripts : lowFn Tryd.prog movers 6 = some ⟨ir_law07_LayoutScripts.n, strip ir_law07_LayoutScripts.body, ir_law07_LayoutScripts.res⟩ := by kernel_rfl

/-- strongtx/strongtxlaw07.LayoutSpoiled -/
def ir_law07_LayoutSpoiled : IFn := ⟨192,
 (.seq (.region [
 ⟨some 6, .box 51 (.tmp 0), none⟩,
 ⟨some 12, .mov (.const (.bool false)), none⟩])
 (.seq (.seq (.region [
 ⟨some 23, .mov (.tmp 1), none⟩,
 ⟨some 24, .len (.tmp 23), none⟩,
 ⟨some 25, .bin .gtr (.tmp 24) (.const (.int .i64 4)), none⟩,
 ⟨some 26, .mov (.tmp 25), none⟩,
 ⟨some 27, .mov (.tmp 2), some (26, false)⟩,
 ⟨some 28, .len (.tmp 27), some (26, false)⟩,
 ⟨some 29, .bin .gtr (.tmp 28) (.const (.int .i64 60)), some (26, false)⟩,
 ⟨some 30, .pick (.tmp 26) (.const (.bool true)) (.tmp 29), none⟩])
 (.cond (.tmp 30)
  (.seq (.region [
  ⟨some 31, .call 16 [], none⟩,
  ⟨some 12, .mov (.tmp 31), none⟩])
  .ret)
  .skip))
 (.seq (.seq (.region [
 ⟨some 13, .mov (.const (.int .i64 0)), none⟩])
 (.block 0
  (.loop 35180077133824
   (.seq (.seq (.region [
   ⟨some 32, .mov (.tmp 13), none⟩,
   ⟨some 33, .mov (.tmp 1), none⟩,
   ⟨some 34, .len (.tmp 33), none⟩,
   ⟨some 35, .bin .lss (.tmp 32) (.tmp 34), none⟩])
   (.cond (.tmp 35)
    .skip
    (.exit 0)))
   (.seq (.block 1
    (.seq (.region [
    ⟨some 38, .mov (.tmp 1), none⟩,
    ⟨some 39, .mov (.tmp 13), none⟩,
    ⟨some 40, .ixs 1 (.tmp 38) (.tmp 39), none⟩,
    ⟨some 41, .ld (.tmp 40), none⟩,
    ⟨some 42, .len (.tmp 41), none⟩,
    ⟨some 43, .bin .gtr (.tmp 42) (.const (.int .i64 30)), none⟩])
    (.cond (.tmp 43)
     (.seq (.region [
     ⟨some 44, .call 16 [], none⟩,
     ⟨some 12, .mov (.tmp 44), none⟩])
     .ret)
     .skip)))
   (.region [
   ⟨some 36, .mov (.tmp 13), none⟩,
   ⟨some 37, .bin .add (.tmp 36) (.const (.int .i64 1)), none⟩,
   ⟨some 13, .mov (.tmp 37), none⟩]))))))
 (.seq (.region [
 ⟨some 45, .ixa 5 1 (.tmp 6) (.const (.int .i64 0)), none⟩,
 ⟨some 46, .ld (.tmp 45), none⟩,
 ⟨some 47, .ixa 5 1 (.tmp 6) (.const (.int .i64 1)), none⟩,
 ⟨some 48, .ld (.tmp 47), none⟩,
 ⟨some 49, .ixa 5 1 (.tmp 6) (.const (.int .i64 2)), none⟩,
 ⟨some 50, .ld (.tmp 49), none⟩,
 ⟨some 51, .ixa 5 1 (.tmp 6) (.const (.int .i64 3)), none⟩,
 ⟨some 52, .ld (.tmp 51), none⟩,
 ⟨some 53, .ixa 5 1 (.tmp 6) (.const (.int .i64 4)), none⟩,
 ⟨some 54, .ld (.tmp 53), none⟩,
 ⟨some 55, .call 19 [(.tmp 46), (.tmp 48), (.tmp 50), (.tmp 52), (.tmp 54)], none⟩,
 ⟨some 14, .new 43 (.agg #[.int .i64 0, .int .i64 0, .int .i64 0, .int .i64 0, .int .i64 0, .int .i64 0, .int .i64 0, .int .i64 0, .int .i64 0, .int .i64 0, .int .i64 0, .int .i64 0, .bool false]), none⟩,
 ⟨none, .stN 13 (.tmp 14) (.tmp 55), none⟩])
 (.seq (.draw (.f ⟨some 56, .ldN 13 (.tmp 14), none⟩
 (.f ⟨some 57, .mov (.tmp 3), none⟩
 (.f ⟨some 58, .call 13 [(.tmp 57), (.const (.int .i64 3))], none⟩
 (.f ⟨some 59, .bin .add (.const (.int .i64 1)) (.tmp 58), none⟩
 (.f ⟨some 60, .mov (.tmp 1), none⟩
 (.f ⟨some 61, .mov (.tmp 2), none⟩
 (.both (.m ⟨some 62, .call 20 [(.tmp 56), (.tmp 59), (.tmp 60), (.const (.int .i64 20)), (.const (.bool true)), (.const (.bool true)), (.tmp 61)], none⟩
  (.m ⟨some 15, .new 47 (.agg #[.int .i64 0, .int .i64 0, .int .i64 0, .int .i64 0, .int .i64 0, .int .i64 0, .int .i64 0, .int .i64 0, .int .i64 0, .int .i64 0, .int .i64 0, .int .i64 0, .bool false, .slice none 0 0, .slice none 0 0, .slice none 0 0]), none⟩
  (.m ⟨none, .stN 16 (.tmp 15) (.tmp 62), none⟩
  .done)))
 (.m ⟨some 15, .new 47 (.agg #[.int .i64 0, .int .i64 0, .int .i64 0, .int .i64 0, .int .i64 0, .int .i64 0, .int .i64 0, .int .i64 0, .int .i64 0, .int .i64 0, .int .i64 0, .int .i64 0, .bool false, .slice none 0 0, .slice none 0 0, .slice none 0 0]), none⟩
  (.m ⟨some 62, .call 20 [(.tmp 56), (.tmp 59), (.tmp 60), (.const (.int .i64 20)), (.const (.bool true)), (.const (.bool true)), (.tmp 61)], none⟩
  (.m ⟨none, .stN 16 (.tmp 15) (.tmp 62), none⟩
  .done)))))))))))
 (.seq (.region [
 ⟨some 64, .ldN 16 (.tmp 15), none⟩,
 ⟨some 65, .call 17 [(.tmp 64)], none⟩,
 ⟨some 63, .mov (.tmp 65), none⟩,
 ⟨some 66, .ext (.tmp 63) 0, none⟩,
 ⟨some 67, .ext (.tmp 63) 1, none⟩,
 ⟨some 68, .ext (.tmp 63) 2, none⟩,
 ⟨some 16, .mov (.tmp 66), none⟩,
 ⟨some 17, .mov (.tmp 67), none⟩,
 ⟨some 18, .mov (.tmp 68), none⟩])
 (.seq (.seq (.region [
 ⟨some 69, .mov (.tmp 18), none⟩,
 ⟨some 70, .bin .neq (.tmp 69) (.const (.int .i64 0)), none⟩,
 ⟨some 71, .mov (.tmp 70), none⟩,
 ⟨some 72, .mov (.tmp 16), some (71, false)⟩,
 ⟨some 73, .bin .neq (.tmp 72) (.const (.int .i64 0)), some (71, false)⟩,
 ⟨some 74, .pick (.tmp 71) (.const (.bool true)) (.tmp 73), none⟩,
 ⟨some 75, .mov (.tmp 74), none⟩,
 ⟨some 76, .mov (.tmp 17), some (75, false)⟩,
 ⟨some 77, .bin .neq (.tmp 76) (.const (.int .i64 0)), some (75, false)⟩,
 ⟨some 78, .pick (.tmp 75) (.const (.bool true)) (.tmp 77), none⟩])
 (.cond (.tmp 78)
  (.seq (.region [
  ⟨some 12, .mov (.const (.bool false)), none⟩])
  .ret)
  .skip))
 (.seq (.seq (.region [
 ⟨some 79, .mov (.tmp 3), none⟩,
 ⟨some 80, .call 13 [(.tmp 79), (.const (.int .i64 7))], none⟩])
 (.block 2
  (.seq (.region [
  ⟨some 94, .bin .eql (.tmp 80) (.const (.int .i64 0)), none⟩,
  ⟨some 93, .mov (.tmp 94), none⟩])
  (.cond (.tmp 93)
   (.region [
   ⟨some 95, .fad 0 (.tmp 15), none⟩,
   ⟨some 96, .ldN 13 (.tmp 95), none⟩,
   ⟨some 97, .mov (.tmp 4), none⟩,
   ⟨some 98, .mov (.tmp 5), none⟩,
   ⟨some 99, .call 21 [(.tmp 96), (.tmp 97), (.tmp 98)], none⟩,
   ⟨some 100, .fad 0 (.tmp 15), none⟩,
   ⟨none, .stN 13 (.tmp 100) (.tmp 99), none⟩])
   (.seq (.region [
   ⟨some 102, .bin .eql (.tmp 80) (.const (.int .i64 1)), none⟩,
   ⟨some 101, .mov (.tmp 102), none⟩])
   (.cond (.tmp 101)
    (.region [
    ⟨some 103, .fad 13 (.tmp 15), none⟩,
    ⟨some 104, .ld (.tmp 103), none⟩,
    ⟨some 105, .blds 56 1 [(.int .u64 0)] [(0, 1, (.const (.int .u64 0)))], none⟩,
    ⟨some 106, .app 56 1 8 [(.int .u64 0)] (.tmp 104) (.tmp 105), none⟩,
    ⟨some 107, .fad 13 (.tmp 15), none⟩,
    ⟨none, .st (.tmp 107) (.tmp 106), none⟩])
    (.seq (.region [
    ⟨some 109, .bin .eql (.tmp 80) (.const (.int .i64 2)), none⟩,
    ⟨some 108, .mov (.tmp 109), none⟩])
    (.cond (.tmp 108)
     (.region [
     ⟨some 110, .fad 14 (.tmp 15), none⟩,
     ⟨none, .st (.tmp 110) (.const (.slice none 0 0)), none⟩])
     (.seq (.region [
     ⟨some 112, .bin .eql (.tmp 80) (.const (.int .i64 3)), none⟩,
     ⟨some 111, .mov (.tmp 112), none⟩])
     (.cond (.tmp 111)
      (.seq (.region [
      ⟨some 113, .mov (.tmp 4), none⟩,
      ⟨some 114, .fad 14 (.tmp 15), none⟩,
      ⟨some 115, .ld (.tmp 114), none⟩,
      ⟨some 116, .len (.tmp 115), none⟩,
      ⟨some 117, .call 13 [(.tmp 113), (.tmp 116)], none⟩,
      ⟨some 19, .mov (.tmp 117), none⟩])
      (.seq (.region [
      ⟨some 118, .fad 14 (.tmp 15), none⟩,
      ⟨some 119, .ld (.tmp 118), none⟩,
      ⟨some 120, .mov (.tmp 19), none⟩,
      ⟨some 121, .ixs 1 (.tmp 119) (.tmp 120), none⟩,
      ⟨some 122, .ld (.tmp 121), none⟩,
      ⟨some 123, .len (.tmp 122), none⟩,
      ⟨some 124, .bin .gtr (.tmp 123) (.const (.int .i64 0)), none⟩])
      (.cond (.tmp 124)
       (.draw (.f ⟨some 125, .fad 14 (.tmp 15), none⟩
       (.f ⟨some 126, .ld (.tmp 125), none⟩
       (.f ⟨some 127, .mov (.tmp 19), none⟩
       (.f ⟨some 128, .ixs 1 (.tmp 126) (.tmp 127), none⟩
       (.f ⟨some 129, .ld (.tmp 128), none⟩
       (.f ⟨some 130, .mov (.tmp 5), none⟩
       (.f ⟨some 131, .fad 14 (.tmp 15), none⟩
       (.f ⟨some 132, .ld (.tmp 131), none⟩
       (.f ⟨some 133, .mov (.tmp 19), none⟩
       (.f ⟨some 134, .ixs 1 (.tmp 132) (.tmp 133), none⟩
       (.f ⟨some 135, .ld (.tmp 134), none⟩
       (.f ⟨some 136, .len (.tmp 135), none⟩
       (.f ⟨some 137, .call 13 [(.tmp 130), (.tmp 136)], none⟩
       (.f ⟨some 138, .mov (.tmp 4), none⟩
       (.f ⟨some 139, .call 13 [(.tmp 138), (.const (.int .i64 20))], none⟩
       (.f ⟨some 140, .bld [(.int .i64 0), (.int .i64 0), (.int .i64 0), (.int .i64 0), (.int .i64 0)] [(0, 1, (.tmp 139))], none⟩
       (.f ⟨some 141, .ixs 5 (.tmp 129) (.tmp 137), none⟩
       (.m ⟨none, .stN 5 (.tmp 141) (.tmp 140), none⟩
       .done)))))))))))))))))))
       .skip)))
      (.seq (.region [
      ⟨some 143, .bin .eql (.tmp 80) (.const (.int .i64 4)), none⟩,
      ⟨some 142, .mov (.tmp 143), none⟩])
      (.cond (.tmp 142)
       (.seq (.region [
       ⟨some 144, .fad 15 (.tmp 15), none⟩,
       ⟨some 145, .ld (.tmp 144), none⟩,
       ⟨some 146, .len (.tmp 145), none⟩,
       ⟨some 147, .bin .gtr (.tmp 146) (.const (.int .i64 0)), none⟩])
       (.cond (.tmp 147)
        (.draw (.f ⟨some 148, .fad 15 (.tmp 15), none⟩
        (.f ⟨some 149, .ld (.tmp 148), none⟩
        (.f ⟨some 150, .mov (.tmp 4), none⟩
        (.f ⟨some 151, .fad 15 (.tmp 15), none⟩
        (.f ⟨some 152, .ld (.tmp 151), none⟩
        (.f ⟨some 153, .len (.tmp 152), none⟩
        (.f ⟨some 154, .call 13 [(.tmp 150), (.tmp 153)], none⟩
        (.f ⟨some 155, .mov (.tmp 5), none⟩
        (.f ⟨some 156, .ixs 1 (.tmp 149) (.tmp 154), none⟩
        (.m ⟨none, .st (.tmp 156) (.tmp 155), none⟩
        .done)))))))))))
        .skip))
       (.seq (.region [
       ⟨some 158, .bin .eql (.tmp 80) (.const (.int .i64 5)), none⟩,
       ⟨some 157, .mov (.tmp 158), none⟩])
       (.cond (.tmp 157)
        (.region [
        ⟨some 159, .mov (.tmp 5), none⟩,
        ⟨some 160, .call 13 [(.tmp 159), (.const (.int .i64 2))], none⟩,
        ⟨some 161, .bin .add (.const (.int .i64 65536)) (.tmp 160), none⟩,
        ⟨some 162, .mk 3 1 8 [(.int .i64 0)] (.tmp 161) (.tmp 161), none⟩,
        ⟨some 163, .fad 15 (.tmp 15), none⟩,
        ⟨none, .st (.tmp 163) (.tmp 162), none⟩])
        (.block 3
         (.loop 9901102462643812940843581440
          (.seq (.seq (.draw (.f ⟨some 81, .fad 14 (.tmp 15), none⟩
          (.f ⟨some 82, .ld (.tmp 81), none⟩
          (.f ⟨some 83, .len (.tmp 82), none⟩
          (.f ⟨some 84, .mov (.tmp 5), none⟩
          (.f ⟨some 85, .call 13 [(.tmp 84), (.const (.int .i64 2))], none⟩
          (.f ⟨some 86, .bin .add (.const (.int .i64 16)) (.tmp 85), none⟩
          (.f ⟨some 87, .bin .lss (.tmp 83) (.tmp 86), none⟩
          .done))))))))
          (.cond (.tmp 87)
           .skip
           (.exit 3)))
          (.block 4
           (.region [
           ⟨some 88, .fad 14 (.tmp 15), none⟩,
           ⟨some 89, .ld (.tmp 88), none⟩,
           ⟨some 90, .blds 24 1 [(.slice none 0 0)] [(0, 1, (.const (.slice none 0 0)))], none⟩,
           ⟨some 91, .app 24 1 24 [(.slice none 0 0)] (.tmp 89) (.tmp 90), none⟩,
           ⟨some 92, .fad 14 (.tmp 15), none⟩,
           ⟨none, .st (.tmp 92) (.tmp 91), none⟩])))))))))))))))))))
 (.seq (.region [
 ⟨some 165, .ldN 16 (.tmp 15), none⟩,
 ⟨some 166, .call 17 [(.tmp 165)], none⟩,
 ⟨some 164, .mov (.tmp 166), none⟩,
 ⟨some 167, .ext (.tmp 164) 0, none⟩,
 ⟨some 168, .ext (.tmp 164) 1, none⟩,
 ⟨some 169, .ext (.tmp 164) 2, none⟩,
 ⟨some 16, .mov (.tmp 167), none⟩,
 ⟨some 17, .mov (.tmp 168), none⟩,
 ⟨some 18, .mov (.tmp 169), none⟩])
 (.seq (.region [
 ⟨some 171, .ldN 16 (.tmp 15), none⟩,
 ⟨some 172, .call 18 [(.tmp 171)], none⟩,
 ⟨some 170, .mov (.tmp 172), none⟩,
 ⟨some 173, .ext (.tmp 170) 0, none⟩,
 ⟨some 174, .ext (.tmp 170) 1, none⟩,
 ⟨some 175, .ext (.tmp 170) 2, none⟩,
 ⟨some 20, .mov (.tmp 173), none⟩,
 ⟨some 21, .mov (.tmp 174), none⟩,
 ⟨some 22, .mov (.tmp 175), none⟩])
 (.seq (.region [
 ⟨some 176, .mov (.tmp 16), none⟩,
 ⟨some 177, .mov (.tmp 20), none⟩,
 ⟨some 178, .bin .eql (.tmp 176) (.tmp 177), none⟩,
 ⟨some 179, .mov (.tmp 178), none⟩,
 ⟨some 180, .mov (.tmp 17), some (179, true)⟩,
 ⟨some 181, .mov (.tmp 21), some (179, true)⟩,
 ⟨some 182, .bin .eql (.tmp 180) (.tmp 181), some (179, true)⟩,
 ⟨some 183, .pick (.tmp 179) (.tmp 182) (.const (.bool false)), none⟩,
 ⟨some 184, .mov (.tmp 183), none⟩,
 ⟨some 185, .mov (.tmp 18), some (184, true)⟩,
 ⟨some 186, .mov (.tmp 22), some (184, true)⟩,
 ⟨some 187, .bin .eql (.tmp 185) (.tmp 186), some (184, true)⟩,
 ⟨some 188, .pick (.tmp 184) (.tmp 187) (.const (.bool false)), none⟩,
 ⟨some 189, .mov (.tmp 188), none⟩,
 ⟨some 190, .call 16 [], some (189, true)⟩,
 ⟨some 191, .pick (.tmp 189) (.tmp 190) (.const (.bool false)), none⟩,
 ⟨some 12, .mov (.tmp 191), none⟩])
 .ret))))))))))),
 [.tmp 12]⟩
theorem low_law07_LayoutSpoiled : lowFn Tryd.prog movers 7 = some ⟨ir_law07_LayoutSpoiled.n, strip ir_law07_LayoutSpoiled.body, ir_law07_LayoutSpoiled.res⟩ := by kernel_rfl

/-- strongtx/strongtxlaw06.awake -/
def ir_law06_awake : IFn := ⟨63,
 (.seq (.region [
 ⟨some 0, .mov (.const (.bool false)), none⟩])
 (.seq (.region [
 ⟨some 10, .call 22 [], none⟩,
 ⟨some 11, .call 10 [(.tmp 10)], none⟩,
 ⟨some 9, .mov (.tmp 11), none⟩,
 ⟨some 12, .ext (.tmp 9) 0, none⟩,
 ⟨some 13, .ext (.tmp 9) 1, none⟩,
 ⟨some 1, .mov (.tmp 12), none⟩,
 ⟨some 2, .mov (.tmp 13), none⟩])
 (.seq (.region [
 ⟨some 15, .call 22 [], none⟩,
 ⟨some 16, .call 15 [(.tmp 15), (.const (.int .i64 0))], none⟩,
 ⟨some 14, .mov (.tmp 16), none⟩,
 ⟨some 17, .ext (.tmp 14) 0, none⟩,
 ⟨some 18, .ext (.tmp 14) 1, none⟩,
 ⟨some 19, .ext (.tmp 14) 2, none⟩,
 ⟨some 20, .ext (.tmp 14) 3, none⟩,
 ⟨some 3, .mov (.tmp 17), none⟩,
 ⟨some 4, .mov (.tmp 18), none⟩,
 ⟨some 5, .mov (.tmp 19), none⟩,
 ⟨some 6, .mov (.tmp 20), none⟩])
 (.seq (.region [
 ⟨some 22, .bld [(.int .i64 0), (.int .i64 0), (.int .i64 0), (.int .i64 0), (.int .i64 0)] [], none⟩,
 ⟨some 23, .bld [(.int .i64 0), (.int .i64 0), (.int .i64 0), (.int .i64 0), (.int .i64 0)] [(0, 1, (.const (.int .i64 8)))], none⟩,
 ⟨some 24, .blds 31 2 [(.int .i64 0), (.int .i64 0), (.int .i64 0), (.int .i64 0), (.int .i64 0), (.int .i64 0), (.int .i64 0), (.int .i64 0), (.int .i64 0), (.int .i64 0)] [(0, 5, (.tmp 22)), (5, 5, (.tmp 23))], none⟩,
 ⟨some 25, .call 10 [(.tmp 24)], none⟩,
 ⟨some 21, .mov (.tmp 25), none⟩,
 ⟨some 26, .ext (.tmp 21) 0, none⟩,
 ⟨some 27, .ext (.tmp 21) 1, none⟩,
 ⟨some 7, .mov (.tmp 26), none⟩,
 ⟨some 8, .mov (.tmp 27), none⟩])
 (.seq (.region [
 ⟨some 28, .mov (.tmp 1), none⟩,
 ⟨some 29, .bin .eql (.tmp 28) (.const (.int .i64 0)), none⟩,
 ⟨some 30, .mov (.tmp 29), none⟩,
 ⟨some 31, .mov (.tmp 2), some (30, true)⟩,
 ⟨some 32, .bin .eql (.tmp 31) (.const (.int .i64 0)), some (30, true)⟩,
 ⟨some 33, .pick (.tmp 30) (.tmp 32) (.const (.bool false)), none⟩,
 ⟨some 34, .mov (.tmp 33), none⟩,
 ⟨some 35, .call 22 [], some (34, true)⟩,
 ⟨some 36, .call 12 [(.tmp 35)], some (34, true)⟩,
 ⟨some 37, .bin .eql (.tmp 36) (.const (.int .i64 5)), some (34, true)⟩,
 ⟨some 38, .pick (.tmp 34) (.tmp 37) (.const (.bool false)), none⟩,
 ⟨some 39, .mov (.tmp 38), none⟩,
 ⟨some 40, .mov (.tmp 3), some (39, true)⟩,
 ⟨some 41, .bin .eql (.tmp 40) (.const (.int .i64 1)), some (39, true)⟩,
 ⟨some 42, .pick (.tmp 39) (.tmp 41) (.const (.bool false)), none⟩,
 ⟨some 43, .mov (.tmp 42), none⟩,
 ⟨some 44, .mov (.tmp 4), some (43, true)⟩,
 ⟨some 45, .bin .eql (.tmp 44) (.const (.int .i64 1)), some (43, true)⟩,
 ⟨some 46, .pick (.tmp 43) (.tmp 45) (.const (.bool false)), none⟩,
 ⟨some 47, .mov (.tmp 46), none⟩,
 ⟨some 48, .mov (.tmp 5), some (47, true)⟩,
 ⟨some 49, .bin .eql (.tmp 48) (.const (.int .i64 0)), some (47, true)⟩,
 ⟨some 50, .pick (.tmp 47) (.tmp 49) (.const (.bool false)), none⟩,
 ⟨some 51, .mov (.tmp 50), none⟩,
 ⟨some 52, .mov (.tmp 6), some (51, true)⟩,
 ⟨some 53, .bin .eql (.tmp 52) (.const (.int .i64 0)), some (51, true)⟩,
 ⟨some 54, .pick (.tmp 51) (.tmp 53) (.const (.bool false)), none⟩,
 ⟨some 55, .mov (.tmp 54), none⟩,
 ⟨some 56, .mov (.tmp 7), some (55, true)⟩,
 ⟨some 57, .bin .eql (.tmp 56) (.const (.int .i64 1)), some (55, true)⟩,
 ⟨some 58, .pick (.tmp 55) (.tmp 57) (.const (.bool false)), none⟩,
 ⟨some 59, .mov (.tmp 58), none⟩,
 ⟨some 60, .mov (.tmp 8), some (59, true)⟩,
 ⟨some 61, .bin .eql (.tmp 60) (.const (.int .i64 40)), some (59, true)⟩,
 ⟨some 62, .pick (.tmp 59) (.tmp 61) (.const (.bool false)), none⟩,
 ⟨some 0, .mov (.tmp 62), none⟩])
 .ret))))),
 [.tmp 0]⟩
theorem low_law06_awake : lowFn Tryd.prog movers 8 = some ⟨ir_law06_awake.n, strip ir_law06_awake.body, ir_law06_awake.res⟩ := by kernel_rfl

/-- strongtx/strongtxmake.Program -/
def ir_make_Program : IFn := ⟨191,
 (.seq (.region [
 ⟨some 8, .mov (.const (.slice none 0 0)), none⟩])
 (.seq (.region [
 ⟨some 9, .mov (.const (.slice none 0 0)), none⟩])
 (.seq (.region [
 ⟨some 10, .mov (.const (.bool false)), none⟩])
 (.seq (.region [
 ⟨some 11, .mov (.const (.slice none 0 0)), none⟩])
 (.seq (.seq (.region [
 ⟨some 12, .mov (.const (.int .i64 0)), none⟩])
 (.block 0
  (.loop 365375409332725729550921208179070754913982217728
   (.seq (.seq (.region [
   ⟨some 20, .mov (.tmp 12), none⟩,
   ⟨some 21, .mov (.tmp 0), none⟩,
   ⟨some 22, .len (.tmp 21), none⟩,
   ⟨some 23, .bin .lss (.tmp 20) (.tmp 22), none⟩,
   ⟨some 24, .mov (.tmp 23), none⟩,
   ⟨some 25, .mov (.tmp 9), some (24, true)⟩,
   ⟨some 26, .len (.tmp 25), some (24, true)⟩,
   ⟨some 27, .mov (.tmp 1), some (24, true)⟩,
   ⟨some 28, .bin .sub (.tmp 27) (.const (.int .i64 1)), some (24, true)⟩,
   ⟨some 29, .bin .lss (.tmp 26) (.tmp 28), some (24, true)⟩,
   ⟨some 30, .pick (.tmp 24) (.tmp 29) (.const (.bool false)), none⟩])
   (.cond (.tmp 30)
    .skip
    (.exit 0)))
   (.seq (.block 1
    (.seq (.region [
    ⟨some 33, .mov (.tmp 0), none⟩,
    ⟨some 34, .mov (.tmp 12), none⟩,
    ⟨some 35, .ixs 1 (.tmp 33) (.tmp 34), none⟩,
    ⟨some 36, .ld (.tmp 35), none⟩,
    ⟨some 37, .conv .u64 (.tmp 36), none⟩,
    ⟨some 13, .mov (.tmp 37), none⟩])
    (.seq (.region [
    ⟨some 38, .mov (.tmp 13), none⟩,
    ⟨some 39, .bin .rem (.tmp 38) (.const (.int .u64 16)), none⟩,
    ⟨some 40, .conv .i64 (.tmp 39), none⟩,
    ⟨some 14, .mov (.tmp 40), none⟩])
    (.seq (.region [
    ⟨some 41, .mov (.tmp 13), none⟩,
    ⟨some 42, .bin .quo (.tmp 41) (.const (.int .u64 16)), none⟩,
    ⟨some 13, .mov (.tmp 42), none⟩])
    (.seq (.region [
    ⟨some 15, .mov (.const (.int .i64 0)), none⟩])
    (.seq (.block 2
     (.seq (.region [
     ⟨some 44, .mov (.tmp 14), none⟩,
     ⟨some 45, .bin .lss (.tmp 44) (.const (.int .i64 2)), none⟩,
     ⟨some 43, .mov (.tmp 45), none⟩])
     (.cond (.tmp 43)
      (.seq (.region [
      ⟨some 46, .blds 3 3 [(.int .i64 0), (.int .i64 0), (.int .i64 0)] [(0, 1, (.const (.int .i64 1))), (1, 1, (.const (.int .i64 3))), (2, 1, (.const (.int .i64 2)))], none⟩,
      ⟨some 47, .mov (.tmp 13), none⟩,
      ⟨some 48, .bin .rem (.tmp 47) (.const (.int .u64 3)), none⟩,
      ⟨some 49, .ixs 1 (.tmp 46) (.tmp 48), none⟩,
      ⟨some 50, .ld (.tmp 49), none⟩,
      ⟨some 15, .mov (.tmp 50), none⟩])
      (.region [
      ⟨some 51, .mov (.tmp 13), none⟩,
      ⟨some 52, .bin .quo (.tmp 51) (.const (.int .u64 3)), none⟩,
      ⟨some 13, .mov (.tmp 52), none⟩]))
      (.seq (.region [
      ⟨some 54, .mov (.tmp 14), none⟩,
      ⟨some 55, .bin .eql (.tmp 54) (.const (.int .i64 2)), none⟩,
      ⟨some 56, .mov (.tmp 55), none⟩,
      ⟨some 57, .mov (.tmp 9), some (56, true)⟩,
      ⟨some 58, .len (.tmp 57), some (56, true)⟩,
      ⟨some 59, .bin .gtr (.tmp 58) (.const (.int .i64 0)), some (56, true)⟩,
      ⟨some 60, .pick (.tmp 56) (.tmp 59) (.const (.bool false)), none⟩,
      ⟨some 53, .mov (.tmp 60), none⟩])
      (.cond (.tmp 53)
       (.seq (.region [
       ⟨some 61, .blds 3 3 [(.int .i64 0), (.int .i64 0), (.int .i64 0)] [(0, 1, (.const (.int .i64 5))), (1, 1, (.const (.int .i64 6))), (2, 1, (.const (.int .i64 4)))], none⟩,
       ⟨some 62, .mov (.tmp 13), none⟩,
       ⟨some 63, .bin .rem (.tmp 62) (.const (.int .u64 3)), none⟩,
       ⟨some 64, .ixs 1 (.tmp 61) (.tmp 63), none⟩,
       ⟨some 65, .ld (.tmp 64), none⟩,
       ⟨some 15, .mov (.tmp 65), none⟩])
       (.region [
       ⟨some 66, .mov (.tmp 13), none⟩,
       ⟨some 67, .bin .quo (.tmp 66) (.const (.int .u64 3)), none⟩,
       ⟨some 13, .mov (.tmp 67), none⟩]))
       (.seq (.region [
       ⟨some 69, .mov (.tmp 10), none⟩,
       ⟨some 70, .not (.tmp 69), none⟩,
       ⟨some 71, .mov (.tmp 70), none⟩,
       ⟨some 72, .mov (.tmp 14), some (71, true)⟩,
       ⟨some 73, .bin .lss (.tmp 72) (.const (.int .i64 7)), some (71, true)⟩,
       ⟨some 74, .pick (.tmp 71) (.tmp 73) (.const (.bool false)), none⟩,
       ⟨some 75, .mov (.tmp 74), none⟩,
       ⟨some 76, .mov (.tmp 3), some (75, true)⟩,
       ⟨some 77, .pick (.tmp 75) (.tmp 76) (.const (.bool false)), none⟩,
       ⟨some 68, .mov (.tmp 77), none⟩])
       (.cond (.tmp 68)
        (.seq (.region [
        ⟨some 78, .blds 3 5 [(.int .i64 0), (.int .i64 0), (.int .i64 0), (.int .i64 0), (.int .i64 0)] [(0, 1, (.const (.int .i64 12))), (1, 1, (.const (.int .i64 13))), (2, 1, (.const (.int .i64 12))), (3, 1, (.const (.int .i64 13))), (4, 1, (.const (.int .i64 16)))], none⟩,
        ⟨some 79, .mov (.tmp 13), none⟩,
        ⟨some 80, .bin .rem (.tmp 79) (.const (.int .u64 5)), none⟩,
        ⟨some 81, .ixs 1 (.tmp 78) (.tmp 80), none⟩,
        ⟨some 82, .ld (.tmp 81), none⟩,
        ⟨some 15, .mov (.tmp 82), none⟩])
        (.region [
        ⟨some 83, .mov (.tmp 13), none⟩,
        ⟨some 84, .bin .quo (.tmp 83) (.const (.int .u64 5)), none⟩,
        ⟨some 13, .mov (.tmp 84), none⟩]))
        (.seq (.region [
        ⟨some 86, .mov (.tmp 10), none⟩,
        ⟨some 87, .not (.tmp 86), none⟩,
        ⟨some 88, .mov (.tmp 87), none⟩,
        ⟨some 89, .mov (.tmp 14), some (88, true)⟩,
        ⟨some 90, .bin .eql (.tmp 89) (.const (.int .i64 7)), some (88, true)⟩,
        ⟨some 91, .pick (.tmp 88) (.tmp 90) (.const (.bool false)), none⟩,
        ⟨some 85, .mov (.tmp 91), none⟩])
        (.cond (.tmp 85)
         (.region [
         ⟨some 15, .mov (.const (.int .i64 17)), none⟩])
         (.seq (.region [
         ⟨some 93, .mov (.tmp 10), none⟩,
         ⟨some 94, .not (.tmp 93), none⟩,
         ⟨some 92, .mov (.tmp 94), none⟩])
         (.cond (.tmp 92)
          (.region [
          ⟨some 15, .mov (.const (.int .i64 7)), none⟩])
          (.seq (.region [
          ⟨some 96, .mov (.tmp 14), none⟩,
          ⟨some 97, .bin .lss (.tmp 96) (.const (.int .i64 8)), none⟩,
          ⟨some 95, .mov (.tmp 97), none⟩])
          (.cond (.tmp 95)
           (.region [
           ⟨some 15, .mov (.const (.int .i64 10)), none⟩])
           (.seq (.region [
           ⟨some 99, .mov (.tmp 14), none⟩,
           ⟨some 100, .bin .lss (.tmp 99) (.const (.int .i64 12)), none⟩,
           ⟨some 98, .mov (.tmp 100), none⟩])
           (.cond (.tmp 98)
            (.region [
            ⟨some 15, .mov (.const (.int .i64 11)), none⟩])
            (.seq (.region [
            ⟨some 102, .mov (.tmp 14), none⟩,
            ⟨some 103, .bin .eql (.tmp 102) (.const (.int .i64 12)), none⟩,
            ⟨some 104, .mov (.tmp 103), none⟩,
            ⟨some 105, .mov (.tmp 2), some (104, true)⟩,
            ⟨some 106, .pick (.tmp 104) (.tmp 105) (.const (.bool false)), none⟩,
            ⟨some 101, .mov (.tmp 106), none⟩])
            (.cond (.tmp 101)
             (.region [
             ⟨some 15, .mov (.const (.int .i64 14)), none⟩])
             (.seq (.region [
             ⟨some 108, .mov (.tmp 14), none⟩,
             ⟨some 109, .bin .eql (.tmp 108) (.const (.int .i64 13)), none⟩,
             ⟨some 110, .mov (.tmp 109), none⟩,
             ⟨some 111, .mov (.tmp 2), some (110, true)⟩,
             ⟨some 112, .pick (.tmp 110) (.tmp 111) (.const (.bool false)), none⟩,
             ⟨some 107, .mov (.tmp 112), none⟩])
             (.cond (.tmp 107)
              (.region [
              ⟨some 15, .mov (.const (.int .i64 15)), none⟩])
              (.seq (.region [
              ⟨some 114, .mov (.tmp 14), none⟩,
              ⟨some 115, .bin .eql (.tmp 114) (.const (.int .i64 14)), none⟩,
              ⟨some 116, .mov (.tmp 115), none⟩,
              ⟨some 117, .mov (.tmp 13), some (116, true)⟩,
              ⟨some 118, .bin .rem (.tmp 117) (.const (.int .u64 4)), some (116, true)⟩,
              ⟨some 119, .bin .eql (.tmp 118) (.const (.int .u64 0)), some (116, true)⟩,
              ⟨some 120, .pick (.tmp 116) (.tmp 119) (.const (.bool false)), none⟩,
              ⟨some 113, .mov (.tmp 120), none⟩])
              (.cond (.tmp 113)
               (.region [
               ⟨some 15, .mov (.const (.int .i64 9)), none⟩])
               (.region [
               ⟨some 15, .mov (.const (.int .i64 8)), none⟩]))))))))))))))))))))))
    (.seq (.region [
    ⟨some 121, .mov (.tmp 15), none⟩,
    ⟨some 122, .mov (.tmp 13), none⟩,
    ⟨some 123, .call 23 [(.tmp 121), (.tmp 122)], none⟩,
    ⟨some 16, .new 31 (.agg #[.int .i64 0, .int .i64 0, .int .i64 0, .int .i64 0, .int .i64 0]), none⟩,
    ⟨none, .stN 5 (.tmp 16) (.tmp 123), none⟩])
    (.seq (.seq (.region [
    ⟨some 124, .mov (.tmp 15), none⟩,
    ⟨some 125, .bin .eql (.tmp 124) (.const (.int .i64 5)), none⟩,
    ⟨some 126, .mov (.tmp 125), none⟩,
    ⟨some 127, .mov (.tmp 15), some (126, false)⟩,
    ⟨some 128, .bin .eql (.tmp 127) (.const (.int .i64 6)), some (126, false)⟩,
    ⟨some 129, .pick (.tmp 126) (.const (.bool true)) (.tmp 128), none⟩])
    (.cond (.tmp 129)
     (.region [
     ⟨some 130, .mov (.tmp 13), none⟩,
     ⟨some 131, .bin .rem (.tmp 130) (.const (.int .u64 4)), none⟩,
     ⟨some 132, .conv .i64 (.tmp 131), none⟩,
     ⟨some 133, .fad 1 (.tmp 16), none⟩,
     ⟨none, .st (.tmp 133) (.tmp 132), none⟩])
     .skip))
    (.seq (.seq (.region [
    ⟨some 134, .mov (.tmp 15), none⟩,
    ⟨some 135, .bin .eql (.tmp 134) (.const (.int .i64 5)), none⟩,
    ⟨some 136, .mov (.tmp 135), none⟩,
    ⟨some 137, .mov (.tmp 15), some (136, false)⟩,
    ⟨some 138, .bin .eql (.tmp 137) (.const (.int .i64 6)), some (136, false)⟩,
    ⟨some 139, .pick (.tmp 136) (.const (.bool true)) (.tmp 138), none⟩,
    ⟨some 140, .mov (.tmp 139), none⟩,
    ⟨some 141, .mov (.tmp 15), some (140, false)⟩,
    ⟨some 142, .bin .eql (.tmp 141) (.const (.int .i64 4)), some (140, false)⟩,
    ⟨some 143, .pick (.tmp 140) (.const (.bool true)) (.tmp 142), none⟩])
    (.cond (.tmp 143)
     (.region [
     ⟨some 144, .mov (.tmp 11), none⟩,
     ⟨some 145, .mov (.tmp 9), none⟩,
     ⟨some 146, .len (.tmp 145), none⟩,
     ⟨some 147, .blds 3 1 [(.int .i64 0)] [(0, 1, (.tmp 146))], none⟩,
     ⟨some 148, .app 3 1 8 [(.int .i64 0)] (.tmp 144) (.tmp 147), none⟩,
     ⟨some 11, .mov (.tmp 148), none⟩])
     .skip))
    (.seq (.region [
    ⟨some 149, .mov (.tmp 9), none⟩,
    ⟨some 150, .ldN 5 (.tmp 16), none⟩,
    ⟨some 151, .blds 31 1 [(.int .i64 0), (.int .i64 0), (.int .i64 0), (.int .i64 0), (.int .i64 0)] [(0, 5, (.tmp 150))], none⟩,
    ⟨some 152, .app 31 5 40 [(.int .i64 0), (.int .i64 0), (.int .i64 0), (.int .i64 0), (.int .i64 0)] (.tmp 149) (.tmp 151), none⟩,
    ⟨some 9, .mov (.tmp 152), none⟩])
    (.seq (.region [
    ⟨some 153, .mov (.tmp 15), none⟩])
    (.block 3
     (.seq (.region [
     ⟨some 155, .bin .eql (.tmp 153) (.const (.int .i64 7)), none⟩,
     ⟨some 154, .mov (.tmp 155), none⟩])
     (.cond (.tmp 154)
      (.region [
      ⟨some 10, .mov (.const (.bool true)), none⟩])
      (.seq (.region [
      ⟨some 157, .bin .eql (.tmp 153) (.const (.int .i64 8)), none⟩,
      ⟨some 156, .mov (.tmp 157), none⟩])
      (.cond (.tmp 156)
       (.region [
       ⟨some 10, .mov (.const (.bool false)), none⟩])
       .skip))))))))))))))))
   (.region [
   ⟨some 31, .mov (.tmp 12), none⟩,
   ⟨some 32, .bin .add (.tmp 31) (.const (.int .i64 1)), none⟩,
   ⟨some 12, .mov (.tmp 32), none⟩]))))))
 (.seq (.seq (.region [
 ⟨some 158, .mov (.tmp 10), none⟩])
 (.cond (.tmp 158)
  (.region [
  ⟨some 159, .mov (.tmp 9), none⟩,
  ⟨some 160, .bld [(.int .i64 0), (.int .i64 0), (.int .i64 0), (.int .i64 0), (.int .i64 0)] [(0, 1, (.const (.int .i64 8)))], none⟩,
  ⟨some 161, .blds 31 1 [(.int .i64 0), (.int .i64 0), (.int .i64 0), (.int .i64 0), (.int .i64 0)] [(0, 5, (.tmp 160))], none⟩,
  ⟨some 162, .app 31 5 40 [(.int .i64 0), (.int .i64 0), (.int .i64 0), (.int .i64 0), (.int .i64 0)] (.tmp 159) (.tmp 161), none⟩,
  ⟨some 9, .mov (.tmp 162), none⟩])
  .skip))
 (.seq (.seq (.region [
 ⟨some 17, .mov (.const (.int .i64 0)), none⟩])
 (.block 4
  (.loop 1569275422154657092311724010172437942295324703868549201920
   (.seq (.seq (.region [
   ⟨some 163, .mov (.tmp 17), none⟩,
   ⟨some 164, .mov (.tmp 11), none⟩,
   ⟨some 165, .len (.tmp 164), none⟩,
   ⟨some 166, .bin .lss (.tmp 163) (.tmp 165), none⟩])
   (.cond (.tmp 166)
    .skip
    (.exit 4)))
   (.seq (.block 5
    (.seq (.region [
    ⟨some 169, .mov (.tmp 9), none⟩,
    ⟨some 170, .mov (.tmp 11), none⟩,
    ⟨some 171, .mov (.tmp 17), none⟩,
    ⟨some 172, .ixs 1 (.tmp 170) (.tmp 171), none⟩,
    ⟨some 173, .ld (.tmp 172), none⟩,
    ⟨some 174, .ixs 5 (.tmp 169) (.tmp 173), none⟩,
    ⟨some 175, .fad 4 (.tmp 174), none⟩,
    ⟨none, .st (.tmp 175) (.const (.int .i64 1)), none⟩])
    (.seq (.region [
    ⟨some 177, .mov (.tmp 9), none⟩,
    ⟨some 178, .call 24 [(.tmp 177)], none⟩,
    ⟨some 176, .mov (.tmp 178), none⟩,
    ⟨some 179, .ext (.tmp 176) 0, none⟩,
    ⟨some 180, .ext (.tmp 176) 1, none⟩,
    ⟨some 18, .mov (.tmp 179), none⟩,
    ⟨some 19, .mov (.tmp 180), none⟩])
    (.seq (.region [
    ⟨some 181, .mov (.tmp 19), none⟩,
    ⟨some 182, .bin .neq (.tmp 181) (.const (.int .i64 0)), none⟩])
    (.cond (.tmp 182)
     (.region [
     ⟨some 183, .mov (.tmp 9), none⟩,
     ⟨some 184, .mov (.tmp 11), none⟩,
     ⟨some 185, .mov (.tmp 17), none⟩,
     ⟨some 186, .ixs 1 (.tmp 184) (.tmp 185), none⟩,
     ⟨some 187, .ld (.tmp 186), none⟩,
     ⟨some 188, .ixs 5 (.tmp 183) (.tmp 187), none⟩,
     ⟨some 189, .fad 4 (.tmp 188), none⟩,
     ⟨none, .st (.tmp 189) (.const (.int .i64 0)), none⟩])
     .skip)))))
   (.region [
   ⟨some 167, .mov (.tmp 17), none⟩,
   ⟨some 168, .bin .add (.tmp 167) (.const (.int .i64 1)), none⟩,
   ⟨some 17, .mov (.tmp 168), none⟩]))))))
 (.seq (.region [
 ⟨some 190, .mov (.tmp 9), none⟩,
 ⟨some 8, .mov (.tmp 190), none⟩])
 .ret)))))))),
 [.tmp 8]⟩
theorem low_make_Program : lowFn Tryd.prog movers 9 = some ⟨ir_make_Program.n, strip ir_make_Program.body, ir_make_Program.res⟩ := by kernel_rfl

/-- strongtx/program.Check -/
def ir_program_Check : IFn := ⟨37,
 (.seq (.region [
 ⟨some 2, .mov (.const (.int .i64 0)), none⟩,
 ⟨some 3, .mov (.const (.int .i64 0)), none⟩])
 (.seq (.seq (.region [
 ⟨some 8, .mov (.tmp 0), none⟩,
 ⟨some 9, .len (.tmp 8), none⟩,
 ⟨some 10, .bin .gtr (.tmp 9) (.const (.int .i64 64)), none⟩])
 (.cond (.tmp 10)
  (.seq (.region [
  ⟨some 2, .mov (.const (.int .i64 0)), none⟩,
  ⟨some 3, .mov (.const (.int .i64 3)), none⟩])
  .ret)
  .skip))
 (.seq (.region [
 ⟨some 4, .mov (.const (.int .i64 (-1))), none⟩])
 (.seq (.seq (.region [
 ⟨some 11, .mov (.tmp 0), none⟩,
 ⟨some 12, .len (.tmp 11), none⟩,
 ⟨some 13, .mov (.const (.int .i64 0)), none⟩])
 (.block 0
  (.loop 17179861244
   (.seq (.region [
   ⟨some 14, .bin .lss (.tmp 13) (.tmp 12), none⟩])
   (.seq (.cond (.tmp 14)
    .skip
    (.exit 0))
   (.seq (.block 1
    (.seq (.region [
    ⟨some 15, .mov (.tmp 13), none⟩,
    ⟨some 16, .ixs 5 (.tmp 11) (.tmp 13), none⟩,
    ⟨some 17, .ldN 5 (.tmp 16), none⟩,
    ⟨some 6, .new 31 (.agg #[.int .i64 0, .int .i64 0, .int .i64 0, .int .i64 0, .int .i64 0]), none⟩,
    ⟨some 5, .mov (.tmp 15), none⟩,
    ⟨none, .stN 5 (.tmp 6) (.tmp 17), none⟩])
    (.seq (.seq (.region [
    ⟨some 18, .mov (.tmp 0), none⟩,
    ⟨some 19, .mov (.tmp 5), none⟩,
    ⟨some 20, .mov (.tmp 4), none⟩,
    ⟨some 21, .call 25 [(.tmp 18), (.tmp 19), (.tmp 20)], none⟩,
    ⟨some 7, .mov (.tmp 21), none⟩])
    (.seq (.region [
    ⟨some 22, .mov (.tmp 7), none⟩,
    ⟨some 23, .bin .neq (.tmp 22) (.const (.int .i64 0)), none⟩])
    (.cond (.tmp 23)
     (.seq (.region [
     ⟨some 24, .mov (.tmp 5), none⟩,
     ⟨some 25, .mov (.tmp 7), none⟩,
     ⟨some 2, .mov (.tmp 24), none⟩,
     ⟨some 3, .mov (.tmp 25), none⟩])
     .ret)
     .skip)))
    (.seq (.region [
    ⟨some 26, .fad 0 (.tmp 6), none⟩,
    ⟨some 27, .ld (.tmp 26), none⟩])
    (.block 2
     (.seq (.region [
     ⟨some 29, .bin .eql (.tmp 27) (.const (.int .i64 7)), none⟩,
     ⟨some 28, .mov (.tmp 29), none⟩])
     (.cond (.tmp 28)
      (.region [
      ⟨some 30, .mov (.tmp 5), none⟩,
      ⟨some 4, .mov (.tmp 30), none⟩])
      (.seq (.region [
      ⟨some 32, .bin .eql (.tmp 27) (.const (.int .i64 8)), none⟩,
      ⟨some 31, .mov (.tmp 32), none⟩])
      (.cond (.tmp 31)
       (.region [
       ⟨some 4, .mov (.const (.int .i64 (-1))), none⟩])
       .skip)))))))))
   (.region [
   ⟨some 33, .bin .add (.tmp 13) (.const (.int .i64 1)), none⟩,
   ⟨some 13, .mov (.tmp 33), none⟩])))))))
 (.seq (.seq (.region [
 ⟨some 34, .mov (.tmp 4), none⟩,
 ⟨some 35, .bin .geq (.tmp 34) (.const (.int .i64 0)), none⟩])
 (.cond (.tmp 35)
  (.seq (.region [
  ⟨some 36, .mov (.tmp 4), none⟩,
  ⟨some 2, .mov (.tmp 36), none⟩,
  ⟨some 3, .mov (.const (.int .i64 43)), none⟩])
  .ret)
  .skip))
 (.seq (.region [
 ⟨some 2, .mov (.const (.int .i64 0)), none⟩,
 ⟨some 3, .mov (.const (.int .i64 0)), none⟩])
 .ret)))))),
 [.tmp 2, .tmp 3]⟩
theorem low_program_Check : lowFn Tryd.prog movers 10 = some ⟨ir_program_Check.n, strip ir_program_Check.body, ir_program_Check.res⟩ := by kernel_rfl

/-- strongtx/program.Commit -/
def ir_program_Commit : IFn := ⟨29,
 (.seq (.region [
 ⟨some 4, .mov (.const (.int .i64 0)), none⟩])
 (.seq (.seq (.region [
 ⟨some 5, .mov (.tmp 0), none⟩,
 ⟨some 6, .call 26 [(.tmp 5)], none⟩,
 ⟨some 7, .not (.tmp 6), none⟩,
 ⟨some 8, .mov (.tmp 7), none⟩,
 ⟨some 9, .mov (.tmp 1), some (8, false)⟩,
 ⟨some 10, .bin .lss (.tmp 9) (.const (.int .i64 0)), some (8, false)⟩,
 ⟨some 11, .pick (.tmp 8) (.const (.bool true)) (.tmp 10), none⟩,
 ⟨some 12, .mov (.tmp 11), none⟩,
 ⟨some 13, .mov (.tmp 1), some (12, false)⟩,
 ⟨some 14, .mov (.tmp 0), some (12, false)⟩,
 ⟨some 15, .len (.tmp 14), some (12, false)⟩,
 ⟨some 16, .bin .geq (.tmp 13) (.tmp 15), some (12, false)⟩,
 ⟨some 17, .pick (.tmp 12) (.const (.bool true)) (.tmp 16), none⟩,
 ⟨some 18, .mov (.tmp 17), none⟩,
 ⟨some 19, .mov (.tmp 0), some (18, false)⟩,
 ⟨some 20, .mov (.tmp 1), some (18, false)⟩,
 ⟨some 21, .ixs 5 (.tmp 19) (.tmp 20), some (18, false)⟩,
 ⟨some 22, .fad 0 (.tmp 21), some (18, false)⟩,
 ⟨some 23, .ld (.tmp 22), some (18, false)⟩,
 ⟨some 24, .bin .neq (.tmp 23) (.const (.int .i64 7)), some (18, false)⟩,
 ⟨some 25, .pick (.tmp 18) (.const (.bool true)) (.tmp 24), none⟩])
 (.cond (.tmp 25)
  (.seq (.region [
  ⟨some 4, .mov (.const (.int .i64 (-1))), none⟩])
  .ret)
  .skip))
 (.seq (.region [
 ⟨some 26, .mov (.tmp 0), none⟩,
 ⟨some 27, .mov (.tmp 1), none⟩,
 ⟨some 28, .call 27 [(.tmp 26), (.tmp 27)], none⟩,
 ⟨some 4, .mov (.tmp 28), none⟩])
 .ret))),
 [.tmp 4]⟩
theorem low_program_Commit : lowFn Tryd.prog movers 11 = some ⟨ir_program_Commit.n, strip ir_program_Commit.body, ir_program_Commit.res⟩ := by kernel_rfl

/-- strongtx/program.Longest -/
def irt_program_Longest : IFnT := ⟨43,
 (.seq (.region [
 ⟨some 1, .box 24 (.tmp 0), none⟩,
 ⟨some 2, .mov (.const (.int .i64 0)), none⟩])
 (.seq (.seq (.region [
 ⟨some 7, .ld (.tmp 1), none⟩,
 ⟨some 8, .call 26 [(.tmp 7)], none⟩,
 ⟨some 9, .not (.tmp 8), none⟩])
 (.cond (.tmp 9)
  (.seq (.region [
  ⟨some 2, .mov (.const (.int .i64 (-1))), none⟩])
  .ret)
  .skip))
 (.seq (.region [
 ⟨some 10, .ld (.tmp 1), none⟩,
 ⟨some 11, .len (.tmp 10), none⟩,
 ⟨some 12, .bin .add (.tmp 11) (.const (.int .i64 1)), none⟩,
 ⟨some 13, .mk 3 1 8 [(.int .i64 0)] (.tmp 12) (.tmp 12), none⟩,
 ⟨some 3, .new 22 (.slice none 0 0), none⟩,
 ⟨none, .st (.tmp 3) (.tmp 13), none⟩])
 (.seq (.region [
 ⟨some 14, .ld (.tmp 1), none⟩,
 ⟨some 15, .call 28 [(.tmp 14)], none⟩])
 (.rng (.tmp 15) [16, 17]
  (.region [
  ⟨some 4, .mov (.tmp 16), none⟩])
  (.block 1
   (.seq (.region [
   ⟨some 18, .ld (.tmp 1), none⟩,
   ⟨some 19, .mov (.tmp 4), none⟩,
   ⟨some 20, .call 29 [(.tmp 18), (.tmp 19)], none⟩,
   ⟨some 21, .len (.tmp 20), none⟩,
   ⟨some 22, .mov (.const (.int .i64 0)), none⟩])
   (.block 2
    (.loop 1099507433536
     (.seq (.region [
     ⟨some 23, .bin .lss (.tmp 22) (.tmp 21), none⟩])
     (.seq (.cond (.tmp 23)
      .skip
      (.exit 2))
     (.seq (.block 3
      (.seq (.region [
      ⟨some 24, .ixs 1 (.tmp 20) (.tmp 22), none⟩,
      ⟨some 25, .ld (.tmp 24), none⟩,
      ⟨some 6, .mov (.tmp 25), none⟩])
      (.draw (.f ⟨some 26, .ld (.tmp 3), none⟩
      (.f ⟨some 27, .mov (.tmp 4), none⟩
      (.f ⟨some 28, .ld (.tmp 3), none⟩
      (.f ⟨some 29, .mov (.tmp 4), none⟩
      (.f ⟨some 30, .ixs 1 (.tmp 28) (.tmp 29), none⟩
      (.f ⟨some 31, .ld (.tmp 30), none⟩
      (.f ⟨some 32, .ld (.tmp 3), none⟩
      (.f ⟨some 33, .mov (.tmp 6), none⟩
      (.f ⟨some 34, .ixs 1 (.tmp 32) (.tmp 33), none⟩
      (.f ⟨some 35, .ld (.tmp 34), none⟩
      (.f ⟨some 36, .bin .add (.tmp 35) (.const (.int .i64 1)), none⟩
      (.f ⟨some 37, .mm true (.tmp 31) (.tmp 36), none⟩
      (.f ⟨some 38, .ixs 1 (.tmp 26) (.tmp 27), none⟩
      (.m ⟨none, .st (.tmp 38) (.tmp 37), none⟩
      .done)))))))))))))))))
     (.region [
     ⟨some 39, .bin .add (.tmp 22) (.const (.int .i64 1)), none⟩,
     ⟨some 22, .mov (.tmp 39), none⟩]))))))))
 (.seq (.region [
 ⟨some 40, .ld (.tmp 3), none⟩,
 ⟨some 41, .ixs 1 (.tmp 40) (.const (.int .i64 0)), none⟩,
 ⟨some 42, .ld (.tmp 41), none⟩,
 ⟨some 2, .mov (.tmp 42), none⟩])
 .ret)))))),
 [.tmp 2]⟩
theorem lowt_program_Longest : lowFnT Tryd.prog movers 12 = some ⟨irt_program_Longest.n, stripT irt_program_Longest.body, irt_program_Longest.res⟩ := by kernel_rfl

/-- strongtx/strongtxkit.Place -/
def ir_kit_Place : IFn := ⟨11,
 (.seq (.region [
 ⟨some 4, .mov (.const (.int .i64 0)), none⟩])
 (.seq (.region [
 ⟨some 5, .mov (.tmp 0), none⟩,
 ⟨some 6, .conv .u64 (.tmp 5), none⟩,
 ⟨some 7, .mov (.tmp 1), none⟩,
 ⟨some 8, .conv .u64 (.tmp 7), none⟩,
 ⟨some 9, .bin .rem (.tmp 6) (.tmp 8), none⟩,
 ⟨some 10, .conv .i64 (.tmp 9), none⟩,
 ⟨some 4, .mov (.tmp 10), none⟩])
 .ret)),
 [.tmp 4]⟩
theorem low_kit_Place : lowFn Tryd.prog movers 13 = some ⟨ir_kit_Place.n, strip ir_kit_Place.body, ir_kit_Place.res⟩ := by kernel_rfl

/-- strongtx/strongtxlaw06.walk -/
def ir_law06_walk : IFn := ⟨118,
 (.seq (.region [
 ⟨some 6, .mov (.const (.int .i64 0)), none⟩,
 ⟨some 7, .mov (.const (.int .i64 0)), none⟩,
 ⟨some 8, .mov (.const (.int .i64 0)), none⟩])
 (.seq (.region [
 ⟨some 9, .mov (.const (.int .i64 0)), none⟩,
 ⟨some 10, .mov (.const (.int .i64 0)), none⟩,
 ⟨some 11, .mov (.const (.int .i64 0)), none⟩,
 ⟨some 12, .mov (.const (.int .i64 0)), none⟩,
 ⟨some 13, .mov (.const (.int .i64 0)), none⟩])
 (.seq (.region [
 ⟨some 14, .mov (.const (.bool false)), none⟩])
 (.seq (.block 0
  (.loop 41538374868278621028243970633760256
   (.seq (.seq (.region [
   ⟨some 18, .mov (.tmp 12), none⟩,
   ⟨some 19, .mov (.tmp 0), none⟩,
   ⟨some 20, .len (.tmp 19), none⟩,
   ⟨some 21, .bin .lss (.tmp 18) (.tmp 20), none⟩,
   ⟨some 22, .mov (.tmp 21), none⟩,
   ⟨some 23, .mov (.tmp 9), some (22, true)⟩,
   ⟨some 24, .mov (.tmp 0), some (22, true)⟩,
   ⟨some 25, .len (.tmp 24), some (22, true)⟩,
   ⟨some 26, .bin .leq (.tmp 23) (.tmp 25), some (22, true)⟩,
   ⟨some 27, .pick (.tmp 22) (.tmp 26) (.const (.bool false)), none⟩])
   (.cond (.tmp 27)
    .skip
    (.exit 0)))
   (.block 1
    (.seq (.region [
    ⟨some 28, .mov (.tmp 0), none⟩,
    ⟨some 29, .mov (.tmp 12), none⟩,
    ⟨some 30, .ixs 5 (.tmp 28) (.tmp 29), none⟩,
    ⟨some 31, .ldN 5 (.tmp 30), none⟩,
    ⟨some 15, .new 31 (.agg #[.int .i64 0, .int .i64 0, .int .i64 0, .int .i64 0, .int .i64 0]), none⟩,
    ⟨none, .stN 5 (.tmp 15) (.tmp 31), none⟩])
    (.seq (.region [
    ⟨some 32, .mov (.tmp 9), none⟩,
    ⟨some 33, .bin .add (.tmp 32) (.const (.int .i64 1)), none⟩,
    ⟨some 9, .mov (.tmp 33), none⟩])
    (.seq (.region [
    ⟨some 34, .mov (.tmp 14), none⟩,
    ⟨some 35, .mov (.tmp 34), none⟩,
    ⟨some 36, .fad 0 (.tmp 15), some (35, true)⟩,
    ⟨some 37, .ld (.tmp 36), some (35, true)⟩,
    ⟨some 38, .bin .neq (.tmp 37) (.const (.int .i64 8)), some (35, true)⟩,
    ⟨some 39, .pick (.tmp 35) (.tmp 38) (.const (.bool false)), none⟩,
    ⟨some 40, .mov (.tmp 39), none⟩,
    ⟨some 41, .mov (.tmp 12), some (40, false)⟩,
    ⟨some 42, .mov (.tmp 2), some (40, false)⟩,
    ⟨some 43, .bin .eql (.tmp 41) (.tmp 42), some (40, false)⟩,
    ⟨some 44, .pick (.tmp 40) (.const (.bool true)) (.tmp 43), none⟩,
    ⟨some 14, .mov (.tmp 44), none⟩])
    (.seq (.seq (.region [
    ⟨some 45, .mov (.tmp 14), none⟩,
    ⟨some 46, .mov (.tmp 45), none⟩,
    ⟨some 47, .fad 0 (.tmp 15), some (46, true)⟩,
    ⟨some 48, .ld (.tmp 47), some (46, true)⟩,
    ⟨some 49, .bin .eql (.tmp 48) (.const (.int .i64 10)), some (46, true)⟩,
    ⟨some 50, .mov (.tmp 49), some (46, true)⟩,
    ⟨some 51, .fad 0 (.tmp 15), some (50, false)⟩,
    ⟨some 52, .ld (.tmp 51), some (50, false)⟩,
    ⟨some 53, .bin .eql (.tmp 52) (.const (.int .i64 15)), some (50, false)⟩,
    ⟨some 54, .pick (.tmp 50) (.const (.bool true)) (.tmp 53), some (46, true)⟩,
    ⟨some 55, .pick (.tmp 46) (.tmp 54) (.const (.bool false)), none⟩])
    (.cond (.tmp 55)
     (.region [
     ⟨some 56, .mov (.tmp 10), none⟩,
     ⟨some 57, .bin .add (.tmp 56) (.const (.int .i64 1)), none⟩,
     ⟨some 10, .mov (.tmp 57), none⟩])
     .skip))
    (.seq (.seq (.region [
    ⟨some 58, .mov (.tmp 14), none⟩,
    ⟨some 59, .mov (.tmp 58), none⟩,
    ⟨some 60, .fad 0 (.tmp 15), some (59, true)⟩,
    ⟨some 61, .ld (.tmp 60), some (59, true)⟩,
    ⟨some 62, .bin .eql (.tmp 61) (.const (.int .i64 11)), some (59, true)⟩,
    ⟨some 63, .mov (.tmp 62), some (59, true)⟩,
    ⟨some 64, .fad 0 (.tmp 15), some (63, false)⟩,
    ⟨some 65, .ld (.tmp 64), some (63, false)⟩,
    ⟨some 66, .bin .eql (.tmp 65) (.const (.int .i64 15)), some (63, false)⟩,
    ⟨some 67, .pick (.tmp 63) (.const (.bool true)) (.tmp 66), some (59, true)⟩,
    ⟨some 68, .pick (.tmp 59) (.tmp 67) (.const (.bool false)), none⟩])
    (.cond (.tmp 68)
     (.region [
     ⟨some 69, .mov (.tmp 11), none⟩,
     ⟨some 70, .bin .add (.tmp 69) (.const (.int .i64 1)), none⟩,
     ⟨some 11, .mov (.tmp 70), none⟩])
     .skip))
    (.seq (.region [
    ⟨some 71, .mov (.tmp 12), none⟩,
    ⟨some 72, .bin .add (.tmp 71) (.const (.int .i64 1)), none⟩,
    ⟨some 16, .mov (.tmp 72), none⟩])
    (.seq (.region [
    ⟨some 73, .fad 0 (.tmp 15), none⟩,
    ⟨some 74, .ld (.tmp 73), none⟩,
    ⟨some 75, .bin .eql (.tmp 74) (.const (.int .i64 4)), none⟩,
    ⟨some 17, .mov (.tmp 75), none⟩])
    (.seq (.seq (.region [
    ⟨some 76, .fad 0 (.tmp 15), none⟩,
    ⟨some 77, .ld (.tmp 76), none⟩,
    ⟨some 78, .bin .eql (.tmp 77) (.const (.int .i64 5)), none⟩,
    ⟨some 79, .mov (.tmp 78), none⟩,
    ⟨some 80, .fad 0 (.tmp 15), some (79, false)⟩,
    ⟨some 81, .ld (.tmp 80), some (79, false)⟩,
    ⟨some 82, .bin .eql (.tmp 81) (.const (.int .i64 6)), some (79, false)⟩,
    ⟨some 83, .pick (.tmp 79) (.const (.bool true)) (.tmp 82), none⟩])
    (.cond (.tmp 83)
     (.seq (.region [
     ⟨some 84, .mov (.tmp 13), none⟩,
     ⟨some 85, .mov (.tmp 1), none⟩,
     ⟨some 86, .len (.tmp 85), none⟩,
     ⟨some 87, .bin .lss (.tmp 84) (.tmp 86), none⟩,
     ⟨some 88, .mov (.tmp 87), none⟩,
     ⟨some 89, .mov (.tmp 1), some (88, true)⟩,
     ⟨some 90, .mov (.tmp 13), some (88, true)⟩,
     ⟨some 91, .ixs 1 (.tmp 89) (.tmp 90), some (88, true)⟩,
     ⟨some 92, .ld (.tmp 91), some (88, true)⟩,
     ⟨some 93, .pick (.tmp 88) (.tmp 92) (.const (.bool false)), none⟩,
     ⟨some 17, .mov (.tmp 93), none⟩])
     (.region [
     ⟨some 94, .mov (.tmp 13), none⟩,
     ⟨some 95, .bin .add (.tmp 94) (.const (.int .i64 1)), none⟩,
     ⟨some 13, .mov (.tmp 95), none⟩]))
     .skip))
    (.seq (.seq (.region [
    ⟨some 96, .mov (.tmp 17), none⟩])
    (.cond (.tmp 96)
     (.region [
     ⟨some 97, .mov (.tmp 12), none⟩,
     ⟨some 98, .bin .add (.tmp 97) (.const (.int .i64 1)), none⟩,
     ⟨some 99, .fad 4 (.tmp 15), none⟩,
     ⟨some 100, .ld (.tmp 99), none⟩,
     ⟨some 101, .bin .add (.tmp 98) (.tmp 100), none⟩,
     ⟨some 16, .mov (.tmp 101), none⟩])
     .skip))
    (.seq (.seq (.region [
    ⟨some 102, .fad 0 (.tmp 15), none⟩,
    ⟨some 103, .ld (.tmp 102), none⟩,
    ⟨some 104, .bin .eql (.tmp 103) (.const (.int .i64 9)), none⟩])
    (.cond (.tmp 104)
     (.seq (.block 2
      (.loop 20728622614932007173274090814373888
       (.seq (.seq (.region [
       ⟨some 105, .mov (.tmp 0), none⟩,
       ⟨some 106, .mov (.tmp 16), none⟩,
       ⟨some 107, .bin .sub (.tmp 106) (.const (.int .i64 1)), none⟩,
       ⟨some 108, .ixs 5 (.tmp 105) (.tmp 107), none⟩,
       ⟨some 109, .fad 0 (.tmp 108), none⟩,
       ⟨some 110, .ld (.tmp 109), none⟩,
       ⟨some 111, .bin .neq (.tmp 110) (.const (.int .i64 8)), none⟩])
       (.cond (.tmp 111)
        .skip
        (.exit 2)))
       (.block 3
        (.region [
        ⟨some 112, .mov (.tmp 16), none⟩,
        ⟨some 113, .bin .add (.tmp 112) (.const (.int .i64 1)), none⟩,
        ⟨some 16, .mov (.tmp 113), none⟩])))))
     (.region [
     ⟨some 14, .mov (.const (.bool false)), none⟩]))
     .skip))
    (.region [
    ⟨some 114, .mov (.tmp 16), none⟩,
    ⟨some 12, .mov (.tmp 114), none⟩])))))))))))))))
 (.seq (.region [
 ⟨some 115, .mov (.tmp 9), none⟩,
 ⟨some 116, .mov (.tmp 10), none⟩,
 ⟨some 117, .mov (.tmp 11), none⟩,
 ⟨some 6, .mov (.tmp 115), none⟩,
 ⟨some 7, .mov (.tmp 116), none⟩,
 ⟨some 8, .mov (.tmp 117), none⟩])
 .ret))))),
 [.tmp 6, .tmp 7, .tmp 8]⟩
theorem low_law06_walk : lowFn Tryd.prog movers 14 = some ⟨ir_law06_walk.n, strip ir_law06_walk.body, ir_law06_walk.res⟩ := by kernel_rfl

/-- strongtx/program.Needs -/
def ir_program_Needs : IFn := ⟨84,
 (.seq (.region [
 ⟨some 4, .mov (.const (.int .i64 0)), none⟩,
 ⟨some 5, .mov (.const (.int .i64 0)), none⟩,
 ⟨some 6, .mov (.const (.int .i64 0)), none⟩,
 ⟨some 7, .mov (.const (.int .i64 0)), none⟩])
 (.seq (.region [
 ⟨some 16, .mov (.tmp 0), none⟩,
 ⟨some 17, .mov (.tmp 1), none⟩,
 ⟨some 18, .call 11 [(.tmp 16), (.tmp 17)], none⟩,
 ⟨some 8, .mov (.tmp 18), none⟩])
 (.seq (.seq (.region [
 ⟨some 19, .mov (.tmp 8), none⟩,
 ⟨some 20, .bin .lss (.tmp 19) (.const (.int .i64 0)), none⟩])
 (.cond (.tmp 20)
  (.seq (.region [
  ⟨some 4, .mov (.const (.int .i64 0)), none⟩,
  ⟨some 5, .mov (.const (.int .i64 0)), none⟩,
  ⟨some 6, .mov (.const (.int .i64 0)), none⟩,
  ⟨some 7, .mov (.const (.int .i64 0)), none⟩])
  .ret)
  .skip))
 (.seq (.region [
 ⟨some 21, .mov (.tmp 8), none⟩,
 ⟨some 22, .bin .add (.tmp 21) (.const (.int .i64 2)), none⟩,
 ⟨some 23, .mk 68 4 32 [(.int .i64 0), (.int .i64 0), (.int .i64 0), (.int .i64 0)] (.tmp 22) (.tmp 22), none⟩,
 ⟨some 9, .mov (.tmp 23), none⟩])
 (.seq (.seq (.region [
 ⟨some 24, .mov (.tmp 8), none⟩,
 ⟨some 25, .bin .sub (.tmp 24) (.const (.int .i64 1)), none⟩,
 ⟨some 10, .mov (.tmp 25), none⟩])
 (.block 0
  (.loop 2361183241434755525632
   (.seq (.seq (.region [
   ⟨some 26, .mov (.tmp 10), none⟩,
   ⟨some 27, .mov (.tmp 1), none⟩,
   ⟨some 28, .bin .gtr (.tmp 26) (.tmp 27), none⟩])
   (.cond (.tmp 28)
    .skip
    (.exit 0)))
   (.seq (.block 1
    (.seq (.region [
    ⟨some 31, .mov (.tmp 0), none⟩,
    ⟨some 32, .mov (.tmp 10), none⟩,
    ⟨some 33, .ixs 5 (.tmp 31) (.tmp 32), none⟩,
    ⟨some 34, .ldN 5 (.tmp 33), none⟩,
    ⟨some 35, .call 30 [(.tmp 34)], none⟩,
    ⟨some 11, .new 68 (.agg #[.int .i64 0, .int .i64 0, .int .i64 0, .int .i64 0]), none⟩,
    ⟨none, .stN 4 (.tmp 11) (.tmp 35), none⟩])
    (.seq (.region [
    ⟨some 36, .mov (.tmp 0), none⟩,
    ⟨some 37, .mov (.tmp 10), none⟩,
    ⟨some 38, .call 29 [(.tmp 36), (.tmp 37)], none⟩,
    ⟨some 39, .len (.tmp 38), none⟩,
    ⟨some 40, .mov (.const (.int .i64 0)), none⟩])
    (.block 2
     (.loop 2361183240335311003648
      (.seq (.region [
      ⟨some 41, .bin .lss (.tmp 40) (.tmp 39), none⟩])
      (.seq (.cond (.tmp 41)
       .skip
       (.exit 2))
      (.seq (.block 3
       (.seq (.region [
       ⟨some 42, .ixs 1 (.tmp 38) (.tmp 40), none⟩,
       ⟨some 43, .ld (.tmp 42), none⟩,
       ⟨some 13, .mov (.tmp 43), none⟩])
       (.seq (.region [
       ⟨some 44, .mov (.const (.int .i64 0)), none⟩])
       (.block 4
        (.loop 1180591603125225275392
         (.seq (.region [
         ⟨some 45, .bin .lss (.tmp 44) (.const (.int .i64 4)), none⟩])
         (.seq (.cond (.tmp 45)
          .skip
          (.exit 4))
         (.seq (.block 5
          (.seq (.region [
          ⟨some 46, .mov (.tmp 44), none⟩,
          ⟨some 14, .mov (.tmp 46), none⟩])
          (.draw (.f ⟨some 47, .mov (.tmp 9), none⟩
          (.f ⟨some 48, .mov (.tmp 10), none⟩
          (.f ⟨some 49, .mov (.tmp 14), none⟩
          (.f ⟨some 50, .mov (.tmp 9), none⟩
          (.f ⟨some 51, .mov (.tmp 10), none⟩
          (.f ⟨some 52, .mov (.tmp 14), none⟩
          (.f ⟨some 53, .ixs 4 (.tmp 50) (.tmp 51), none⟩
          (.f ⟨some 54, .ixa 4 1 (.tmp 53) (.tmp 52), none⟩
          (.f ⟨some 55, .ld (.tmp 54), none⟩
          (.f ⟨some 56, .mov (.tmp 14), none⟩
          (.f ⟨some 57, .ixa 4 1 (.tmp 11) (.tmp 56), none⟩
          (.f ⟨some 58, .ld (.tmp 57), none⟩
          (.f ⟨some 59, .mov (.tmp 9), none⟩
          (.f ⟨some 60, .mov (.tmp 13), none⟩
          (.f ⟨some 61, .mov (.tmp 14), none⟩
          (.f ⟨some 62, .ixs 4 (.tmp 59) (.tmp 60), none⟩
          (.f ⟨some 63, .ixa 4 1 (.tmp 62) (.tmp 61), none⟩
          (.f ⟨some 64, .ld (.tmp 63), none⟩
          (.f ⟨some 65, .bin .add (.tmp 58) (.tmp 64), none⟩
          (.f ⟨some 66, .mm true (.tmp 55) (.tmp 65), none⟩
          (.f ⟨some 67, .ixs 4 (.tmp 47) (.tmp 48), none⟩
          (.f ⟨some 68, .ixa 4 1 (.tmp 67) (.tmp 49), none⟩
          (.m ⟨none, .st (.tmp 68) (.tmp 66), none⟩
          .done))))))))))))))))))))))))))
         (.region [
         ⟨some 69, .bin .add (.tmp 44) (.const (.int .i64 1)), none⟩,
         ⟨some 44, .mov (.tmp 69), none⟩])))))))))
      (.region [
      ⟨some 70, .bin .add (.tmp 40) (.const (.int .i64 1)), none⟩,
      ⟨some 40, .mov (.tmp 70), none⟩])))))))))
   (.region [
   ⟨some 29, .mov (.tmp 10), none⟩,
   ⟨some 30, .bin .sub (.tmp 29) (.const (.int .i64 1)), none⟩,
   ⟨some 10, .mov (.tmp 30), none⟩]))))))
 (.seq (.region [
 ⟨some 71, .mov (.tmp 9), none⟩,
 ⟨some 72, .mov (.tmp 1), none⟩,
 ⟨some 73, .bin .add (.tmp 72) (.const (.int .i64 1)), none⟩,
 ⟨some 74, .ixs 4 (.tmp 71) (.tmp 73), none⟩,
 ⟨some 75, .ldN 4 (.tmp 74), none⟩,
 ⟨some 15, .new 68 (.agg #[.int .i64 0, .int .i64 0, .int .i64 0, .int .i64 0]), none⟩,
 ⟨none, .stN 4 (.tmp 15) (.tmp 75), none⟩])
 (.seq (.draw (.f ⟨some 76, .ixa 4 1 (.tmp 15) (.const (.int .i64 0)), none⟩
 (.f ⟨some 77, .ld (.tmp 76), none⟩
 (.f ⟨some 78, .ixa 4 1 (.tmp 15) (.const (.int .i64 1)), none⟩
 (.f ⟨some 79, .ld (.tmp 78), none⟩
 (.f ⟨some 80, .ixa 4 1 (.tmp 15) (.const (.int .i64 2)), none⟩
 (.f ⟨some 81, .ld (.tmp 80), none⟩
 (.f ⟨some 82, .ixa 4 1 (.tmp 15) (.const (.int .i64 3)), none⟩
 (.f ⟨some 83, .ld (.tmp 82), none⟩
 (.f ⟨some 4, .mov (.tmp 77), none⟩
 (.f ⟨some 5, .mov (.tmp 79), none⟩
 (.f ⟨some 6, .mov (.tmp 81), none⟩
 (.f ⟨some 7, .mov (.tmp 83), none⟩
 .done)))))))))))))
 .ret))))))),
 [.tmp 4, .tmp 5, .tmp 6, .tmp 7]⟩
theorem low_program_Needs : lowFn Tryd.prog movers 15 = some ⟨ir_program_Needs.n, strip ir_program_Needs.body, ir_program_Needs.res⟩ := by kernel_rfl

/-- strongtx/strongtxlaw07.awake -/
def ir_law07_awake : IFn := ⟨36,
 (.seq (.region [
 ⟨some 0, .mov (.const (.bool false)), none⟩])
 (.seq (.region [
 ⟨some 2, .call 31 [], none⟩,
 ⟨some 1, .new 43 (.agg #[.int .i64 0, .int .i64 0, .int .i64 0, .int .i64 0, .int .i64 0, .int .i64 0, .int .i64 0, .int .i64 0, .int .i64 0, .int .i64 0, .int .i64 0, .int .i64 0, .bool false]), none⟩,
 ⟨none, .stN 13 (.tmp 1) (.tmp 2), none⟩])
 (.seq (.region [
 ⟨some 3, .ldN 13 (.tmp 1), none⟩,
 ⟨some 4, .call 32 [(.tmp 3)], none⟩,
 ⟨some 5, .bin .eql (.tmp 4) (.const (.int .i64 0)), none⟩,
 ⟨some 6, .mov (.tmp 5), none⟩,
 ⟨some 7, .ldN 13 (.tmp 1), some (6, true)⟩,
 ⟨some 8, .call 33 [(.tmp 7)], some (6, true)⟩,
 ⟨some 9, .bin .eql (.tmp 8) (.const (.int .i64 3)), some (6, true)⟩,
 ⟨some 10, .pick (.tmp 6) (.tmp 9) (.const (.bool false)), none⟩,
 ⟨some 11, .mov (.tmp 10), none⟩,
 ⟨some 12, .ldN 13 (.tmp 1), some (11, true)⟩,
 ⟨some 13, .call 34 [(.tmp 12), (.const (.int .i64 2))], some (11, true)⟩,
 ⟨some 14, .bin .eql (.tmp 13) (.const (.int .i64 6)), some (11, true)⟩,
 ⟨some 15, .pick (.tmp 11) (.tmp 14) (.const (.bool false)), none⟩,
 ⟨some 16, .mov (.tmp 15), none⟩,
 ⟨some 17, .ldN 13 (.tmp 1), some (16, true)⟩,
 ⟨some 18, .call 35 [(.tmp 17), (.const (.int .i64 2))], some (16, true)⟩,
 ⟨some 19, .bin .eql (.tmp 18) (.const (.int .i64 1)), some (16, true)⟩,
 ⟨some 20, .pick (.tmp 16) (.tmp 19) (.const (.bool false)), none⟩,
 ⟨some 21, .mov (.tmp 20), none⟩,
 ⟨some 22, .ldN 13 (.tmp 1), some (21, true)⟩,
 ⟨some 23, .call 36 [(.tmp 22), (.const (.int .u64 5))], some (21, true)⟩,
 ⟨some 24, .bin .eql (.tmp 23) (.const (.int .i64 1)), some (21, true)⟩,
 ⟨some 25, .pick (.tmp 21) (.tmp 24) (.const (.bool false)), none⟩,
 ⟨some 26, .mov (.tmp 25), none⟩,
 ⟨some 27, .ldN 13 (.tmp 1), some (26, true)⟩,
 ⟨some 28, .call 37 [(.tmp 27), (.const (.int .i64 18))], some (26, true)⟩,
 ⟨some 29, .bin .eql (.tmp 28) (.const (.int .i64 0)), some (26, true)⟩,
 ⟨some 30, .pick (.tmp 26) (.tmp 29) (.const (.bool false)), none⟩,
 ⟨some 31, .mov (.tmp 30), none⟩,
 ⟨some 32, .bld [(.int .i64 0), (.int .i64 0), (.int .i64 0), (.int .i64 0), (.int .i64 0), (.int .i64 0), (.int .i64 0), (.int .i64 0), (.int .i64 0), (.int .i64 0), (.int .i64 0), (.int .i64 0), (.bool false)] [], some (31, true)⟩,
 ⟨some 33, .call 32 [(.tmp 32)], some (31, true)⟩,
 ⟨some 34, .bin .eql (.tmp 33) (.const (.int .i64 50)), some (31, true)⟩,
 ⟨some 35, .pick (.tmp 31) (.tmp 34) (.const (.bool false)), none⟩,
 ⟨some 0, .mov (.tmp 35), none⟩])
 .ret))),
 [.tmp 0]⟩
theorem low_law07_awake : lowFn Tryd.prog movers 16 = some ⟨ir_law07_awake.n, strip ir_law07_awake.body, ir_law07_awake.res⟩ := by kernel_rfl

/-- strongtx/layout.CheckScript -/
def ir_layout_CheckScript : IFn := ⟨72,
 (.seq (.region [
 ⟨some 1, .box 47 (.tmp 0), none⟩,
 ⟨some 2, .mov (.const (.int .i64 0)), none⟩,
 ⟨some 3, .mov (.const (.int .i64 0)), none⟩,
 ⟨some 4, .mov (.const (.int .i64 0)), none⟩])
 (.seq (.seq (.region [
 ⟨some 12, .fad 0 (.tmp 1), none⟩,
 ⟨some 13, .ldN 13 (.tmp 12), none⟩,
 ⟨some 14, .call 32 [(.tmp 13)], none⟩,
 ⟨some 5, .mov (.tmp 14), none⟩])
 (.seq (.region [
 ⟨some 15, .mov (.tmp 5), none⟩,
 ⟨some 16, .bin .neq (.tmp 15) (.const (.int .i64 0)), none⟩])
 (.cond (.tmp 16)
  (.seq (.region [
  ⟨some 17, .mov (.tmp 5), none⟩,
  ⟨some 2, .mov (.const (.int .i64 0)), none⟩,
  ⟨some 3, .mov (.const (.int .i64 0)), none⟩,
  ⟨some 4, .mov (.tmp 17), none⟩])
  .ret)
  .skip)))
 (.seq (.seq (.region [
 ⟨some 18, .fad 14 (.tmp 1), none⟩,
 ⟨some 19, .ld (.tmp 18), none⟩,
 ⟨some 20, .len (.tmp 19), none⟩,
 ⟨some 21, .call 38 [(.tmp 20), (.const (.int .i64 1)), (.const (.int .i64 16))], none⟩,
 ⟨some 22, .not (.tmp 21), none⟩])
 (.cond (.tmp 22)
  (.seq (.region [
  ⟨some 2, .mov (.const (.int .i64 0)), none⟩,
  ⟨some 3, .mov (.const (.int .i64 0)), none⟩,
  ⟨some 4, .mov (.const (.int .i64 54)), none⟩])
  .ret)
  .skip))
 (.seq (.seq (.region [
 ⟨some 23, .fad 13 (.tmp 1), none⟩,
 ⟨some 24, .ld (.tmp 23), none⟩,
 ⟨some 25, .len (.tmp 24), none⟩,
 ⟨some 26, .fad 0 (.tmp 1), none⟩,
 ⟨some 27, .fad 0 (.tmp 26), none⟩,
 ⟨some 28, .ld (.tmp 27), none⟩,
 ⟨some 29, .bin .neq (.tmp 25) (.tmp 28), none⟩])
 (.cond (.tmp 29)
  (.seq (.region [
  ⟨some 2, .mov (.const (.int .i64 0)), none⟩,
  ⟨some 3, .mov (.const (.int .i64 0)), none⟩,
  ⟨some 4, .mov (.const (.int .i64 55)), none⟩])
  .ret)
  .skip))
 (.seq (.seq (.region [
 ⟨some 30, .fad 14 (.tmp 1), none⟩,
 ⟨some 31, .ld (.tmp 30), none⟩,
 ⟨some 32, .len (.tmp 31), none⟩,
 ⟨some 33, .mov (.const (.int .i64 0)), none⟩])
 (.block 0
  (.loop 562941363487708
   (.seq (.region [
   ⟨some 34, .bin .lss (.tmp 33) (.tmp 32), none⟩])
   (.seq (.cond (.tmp 34)
    .skip
    (.exit 0))
   (.seq (.block 1
    (.seq (.region [
    ⟨some 35, .mov (.tmp 33), none⟩,
    ⟨some 36, .ixs 1 (.tmp 31) (.tmp 33), none⟩,
    ⟨some 37, .ld (.tmp 36), none⟩,
    ⟨some 6, .mov (.tmp 35), none⟩,
    ⟨some 7, .mov (.tmp 37), none⟩])
    (.seq (.region [
    ⟨some 39, .mov (.tmp 7), none⟩,
    ⟨some 40, .call 10 [(.tmp 39)], none⟩,
    ⟨some 38, .mov (.tmp 40), none⟩,
    ⟨some 41, .ext (.tmp 38) 0, none⟩,
    ⟨some 42, .ext (.tmp 38) 1, none⟩,
    ⟨some 8, .mov (.tmp 41), none⟩,
    ⟨some 9, .mov (.tmp 42), none⟩])
    (.seq (.region [
    ⟨some 43, .mov (.tmp 9), none⟩,
    ⟨some 44, .bin .neq (.tmp 43) (.const (.int .i64 0)), none⟩])
    (.cond (.tmp 44)
     (.seq (.region [
     ⟨some 45, .mov (.tmp 6), none⟩,
     ⟨some 46, .mov (.tmp 8), none⟩,
     ⟨some 47, .mov (.tmp 9), none⟩,
     ⟨some 2, .mov (.tmp 45), none⟩,
     ⟨some 3, .mov (.tmp 46), none⟩,
     ⟨some 4, .mov (.tmp 47), none⟩])
     .ret)
     .skip)))))
   (.region [
   ⟨some 48, .bin .add (.tmp 33) (.const (.int .i64 1)), none⟩,
   ⟨some 33, .mov (.tmp 48), none⟩])))))))
 (.seq (.seq (.region [
 ⟨some 49, .fad 15 (.tmp 1), none⟩,
 ⟨some 50, .ld (.tmp 49), none⟩,
 ⟨some 51, .len (.tmp 50), none⟩,
 ⟨some 52, .bin .gtr (.tmp 51) (.const (.int .i64 65536)), none⟩])
 (.cond (.tmp 52)
  (.seq (.region [
  ⟨some 2, .mov (.const (.int .i64 0)), none⟩,
  ⟨some 3, .mov (.const (.int .i64 0)), none⟩,
  ⟨some 4, .mov (.const (.int .i64 56)), none⟩])
  .ret)
  .skip))
 (.seq (.seq (.region [
 ⟨some 53, .fad 15 (.tmp 1), none⟩,
 ⟨some 54, .ld (.tmp 53), none⟩,
 ⟨some 55, .len (.tmp 54), none⟩,
 ⟨some 56, .mov (.const (.int .i64 0)), none⟩])
 (.block 2
  (.loop 4722294425275607288860
   (.seq (.region [
   ⟨some 57, .bin .lss (.tmp 56) (.tmp 55), none⟩])
   (.seq (.cond (.tmp 57)
    .skip
    (.exit 2))
   (.seq (.block 3
    (.seq (.region [
    ⟨some 58, .mov (.tmp 56), none⟩,
    ⟨some 59, .ixs 1 (.tmp 54) (.tmp 56), none⟩,
    ⟨some 60, .ld (.tmp 59), none⟩,
    ⟨some 10, .mov (.tmp 58), none⟩,
    ⟨some 11, .mov (.tmp 60), none⟩])
    (.seq (.region [
    ⟨some 61, .mov (.tmp 11), none⟩,
    ⟨some 62, .bin .lss (.tmp 61) (.const (.int .i64 0)), none⟩,
    ⟨some 63, .mov (.tmp 62), none⟩,
    ⟨some 64, .mov (.tmp 11), some (63, false)⟩,
    ⟨some 65, .fad 14 (.tmp 1), some (63, false)⟩,
    ⟨some 66, .ld (.tmp 65), some (63, false)⟩,
    ⟨some 67, .len (.tmp 66), some (63, false)⟩,
    ⟨some 68, .bin .geq (.tmp 64) (.tmp 67), some (63, false)⟩,
    ⟨some 69, .pick (.tmp 63) (.const (.bool true)) (.tmp 68), none⟩])
    (.cond (.tmp 69)
     (.seq (.region [
     ⟨some 70, .mov (.tmp 10), none⟩,
     ⟨some 2, .mov (.const (.int .i64 0)), none⟩,
     ⟨some 3, .mov (.tmp 70), none⟩,
     ⟨some 4, .mov (.const (.int .i64 56)), none⟩])
     .ret)
     .skip))))
   (.region [
   ⟨some 71, .bin .add (.tmp 56) (.const (.int .i64 1)), none⟩,
   ⟨some 56, .mov (.tmp 71), none⟩])))))))
 (.seq (.region [
 ⟨some 2, .mov (.const (.int .i64 0)), none⟩,
 ⟨some 3, .mov (.const (.int .i64 0)), none⟩,
 ⟨some 4, .mov (.const (.int .i64 0)), none⟩])
 .ret)))))))),
 [.tmp 2, .tmp 3, .tmp 4]⟩
theorem low_layout_CheckScript : lowFn Tryd.prog movers 17 = some ⟨ir_layout_CheckScript.n, strip ir_layout_CheckScript.body, ir_layout_CheckScript.res⟩ := by kernel_rfl

/-- strongtx/strongtxref07.CheckScript -/
def ir_ref07_CheckScript : IFn := ⟨83,
 (.seq (.region [
 ⟨some 1, .box 47 (.tmp 0), none⟩,
 ⟨some 2, .mov (.const (.int .i64 0)), none⟩,
 ⟨some 3, .mov (.const (.int .i64 0)), none⟩,
 ⟨some 4, .mov (.const (.int .i64 0)), none⟩])
 (.seq (.seq (.region [
 ⟨some 10, .fad 0 (.tmp 1), none⟩,
 ⟨some 11, .ldN 13 (.tmp 10), none⟩,
 ⟨some 12, .call 39 [(.tmp 11)], none⟩,
 ⟨some 5, .mov (.tmp 12), none⟩])
 (.seq (.region [
 ⟨some 13, .mov (.tmp 5), none⟩,
 ⟨some 14, .bin .neq (.tmp 13) (.const (.int .i64 0)), none⟩])
 (.cond (.tmp 14)
  (.seq (.region [
  ⟨some 15, .mov (.tmp 5), none⟩,
  ⟨some 2, .mov (.const (.int .i64 0)), none⟩,
  ⟨some 3, .mov (.const (.int .i64 0)), none⟩,
  ⟨some 4, .mov (.tmp 15), none⟩])
  .ret)
  .skip)))
 (.seq (.seq (.region [
 ⟨some 16, .fad 14 (.tmp 1), none⟩,
 ⟨some 17, .ld (.tmp 16), none⟩,
 ⟨some 18, .len (.tmp 17), none⟩,
 ⟨some 19, .bin .lss (.tmp 18) (.const (.int .i64 1)), none⟩,
 ⟨some 20, .mov (.tmp 19), none⟩,
 ⟨some 21, .fad 14 (.tmp 1), some (20, false)⟩,
 ⟨some 22, .ld (.tmp 21), some (20, false)⟩,
 ⟨some 23, .len (.tmp 22), some (20, false)⟩,
 ⟨some 24, .bin .gtr (.tmp 23) (.const (.int .i64 16)), some (20, false)⟩,
 ⟨some 25, .pick (.tmp 20) (.const (.bool true)) (.tmp 24), none⟩])
 (.cond (.tmp 25)
  (.seq (.region [
  ⟨some 2, .mov (.const (.int .i64 0)), none⟩,
  ⟨some 3, .mov (.const (.int .i64 0)), none⟩,
  ⟨some 4, .mov (.const (.int .i64 54)), none⟩])
  .ret)
  .skip))
 (.seq (.seq (.region [
 ⟨some 26, .fad 13 (.tmp 1), none⟩,
 ⟨some 27, .ld (.tmp 26), none⟩,
 ⟨some 28, .len (.tmp 27), none⟩,
 ⟨some 29, .fad 0 (.tmp 1), none⟩,
 ⟨some 30, .fad 0 (.tmp 29), none⟩,
 ⟨some 31, .ld (.tmp 30), none⟩,
 ⟨some 32, .bin .neq (.tmp 28) (.tmp 31), none⟩])
 (.cond (.tmp 32)
  (.seq (.region [
  ⟨some 2, .mov (.const (.int .i64 0)), none⟩,
  ⟨some 3, .mov (.const (.int .i64 0)), none⟩,
  ⟨some 4, .mov (.const (.int .i64 55)), none⟩])
  .ret)
  .skip))
 (.seq (.seq (.region [
 ⟨some 6, .mov (.const (.int .i64 0)), none⟩])
 (.block 0
  (.loop 18014389919547868
   (.seq (.seq (.region [
   ⟨some 33, .mov (.tmp 6), none⟩,
   ⟨some 34, .fad 14 (.tmp 1), none⟩,
   ⟨some 35, .ld (.tmp 34), none⟩,
   ⟨some 36, .len (.tmp 35), none⟩,
   ⟨some 37, .bin .lss (.tmp 33) (.tmp 36), none⟩])
   (.cond (.tmp 37)
    .skip
    (.exit 0)))
   (.seq (.block 1
    (.seq (.region [
    ⟨some 41, .fad 14 (.tmp 1), none⟩,
    ⟨some 42, .ld (.tmp 41), none⟩,
    ⟨some 43, .mov (.tmp 6), none⟩,
    ⟨some 44, .ixs 1 (.tmp 42) (.tmp 43), none⟩,
    ⟨some 45, .ld (.tmp 44), none⟩,
    ⟨some 46, .call 24 [(.tmp 45)], none⟩,
    ⟨some 40, .mov (.tmp 46), none⟩,
    ⟨some 47, .ext (.tmp 40) 0, none⟩,
    ⟨some 48, .ext (.tmp 40) 1, none⟩,
    ⟨some 7, .mov (.tmp 47), none⟩,
    ⟨some 8, .mov (.tmp 48), none⟩])
    (.seq (.region [
    ⟨some 49, .mov (.tmp 8), none⟩,
    ⟨some 50, .bin .neq (.tmp 49) (.const (.int .i64 0)), none⟩])
    (.cond (.tmp 50)
     (.seq (.region [
     ⟨some 51, .mov (.tmp 6), none⟩,
     ⟨some 52, .mov (.tmp 7), none⟩,
     ⟨some 53, .mov (.tmp 8), none⟩,
     ⟨some 2, .mov (.tmp 51), none⟩,
     ⟨some 3, .mov (.tmp 52), none⟩,
     ⟨some 4, .mov (.tmp 53), none⟩])
     .ret)
     .skip))))
   (.region [
   ⟨some 38, .mov (.tmp 6), none⟩,
   ⟨some 39, .bin .add (.tmp 38) (.const (.int .i64 1)), none⟩,
   ⟨some 6, .mov (.tmp 39), none⟩]))))))
 (.seq (.seq (.region [
 ⟨some 54, .fad 15 (.tmp 1), none⟩,
 ⟨some 55, .ld (.tmp 54), none⟩,
 ⟨some 56, .len (.tmp 55), none⟩,
 ⟨some 57, .bin .gtr (.tmp 56) (.const (.int .i64 65536)), none⟩])
 (.cond (.tmp 57)
  (.seq (.region [
  ⟨some 2, .mov (.const (.int .i64 0)), none⟩,
  ⟨some 3, .mov (.const (.int .i64 0)), none⟩,
  ⟨some 4, .mov (.const (.int .i64 56)), none⟩])
  .ret)
  .skip))
 (.seq (.seq (.region [
 ⟨some 9, .mov (.const (.int .i64 0)), none⟩])
 (.block 2
  (.loop 9671406268686657245938204
   (.seq (.seq (.region [
   ⟨some 58, .mov (.tmp 9), none⟩,
   ⟨some 59, .fad 15 (.tmp 1), none⟩,
   ⟨some 60, .ld (.tmp 59), none⟩,
   ⟨some 61, .len (.tmp 60), none⟩,
   ⟨some 62, .bin .lss (.tmp 58) (.tmp 61), none⟩])
   (.cond (.tmp 62)
    .skip
    (.exit 2)))
   (.seq (.block 3
    (.seq (.draw (.f ⟨some 65, .fad 15 (.tmp 1), none⟩
    (.f ⟨some 66, .ld (.tmp 65), none⟩
    (.f ⟨some 67, .mov (.tmp 9), none⟩
    (.f ⟨some 68, .ixs 1 (.tmp 66) (.tmp 67), none⟩
    (.f ⟨some 69, .ld (.tmp 68), none⟩
    (.f ⟨some 70, .bin .lss (.tmp 69) (.const (.int .i64 0)), none⟩
    (.f ⟨some 71, .mov (.tmp 70), none⟩
    (.f ⟨some 72, .fad 15 (.tmp 1), some (71, false)⟩
    (.f ⟨some 73, .ld (.tmp 72), some (71, false)⟩
    (.f ⟨some 74, .mov (.tmp 9), some (71, false)⟩
    (.f ⟨some 75, .ixs 1 (.tmp 73) (.tmp 74), some (71, false)⟩
    (.f ⟨some 76, .ld (.tmp 75), some (71, false)⟩
    (.f ⟨some 77, .fad 14 (.tmp 1), some (71, false)⟩
    (.f ⟨some 78, .ld (.tmp 77), some (71, false)⟩
    (.f ⟨some 79, .len (.tmp 78), some (71, false)⟩
    (.f ⟨some 80, .bin .geq (.tmp 76) (.tmp 79), some (71, false)⟩
    (.f ⟨some 81, .pick (.tmp 71) (.const (.bool true)) (.tmp 80), none⟩
    .done))))))))))))))))))
    (.cond (.tmp 81)
     (.seq (.region [
     ⟨some 82, .mov (.tmp 9), none⟩,
     ⟨some 2, .mov (.const (.int .i64 0)), none⟩,
     ⟨some 3, .mov (.tmp 82), none⟩,
     ⟨some 4, .mov (.const (.int .i64 56)), none⟩])
     .ret)
     .skip)))
   (.region [
   ⟨some 63, .mov (.tmp 9), none⟩,
   ⟨some 64, .bin .add (.tmp 63) (.const (.int .i64 1)), none⟩,
   ⟨some 9, .mov (.tmp 64), none⟩]))))))
 (.seq (.region [
 ⟨some 2, .mov (.const (.int .i64 0)), none⟩,
 ⟨some 3, .mov (.const (.int .i64 0)), none⟩,
 ⟨some 4, .mov (.const (.int .i64 0)), none⟩])
 .ret)))))))),
 [.tmp 2, .tmp 3, .tmp 4]⟩
theorem low_ref07_CheckScript : lowFn Tryd.prog movers 18 = some ⟨ir_ref07_CheckScript.n, strip ir_ref07_CheckScript.body, ir_ref07_CheckScript.res⟩ := by kernel_rfl

/-- strongtx/strongtxmake.Config -/
def ir_make_Config : IFn := ⟨78,
 (.seq (.region [
 ⟨some 10, .new 43 (.agg #[.int .i64 0, .int .i64 0, .int .i64 0, .int .i64 0, .int .i64 0, .int .i64 0, .int .i64 0, .int .i64 0, .int .i64 0, .int .i64 0, .int .i64 0, .int .i64 0, .bool false]), none⟩])
 (.seq (.region [
 ⟨some 15, .mov (.tmp 0), none⟩,
 ⟨some 16, .call 13 [(.tmp 15), (.const (.int .i64 9))], none⟩,
 ⟨some 17, .bin .add (.const (.int .i64 4)) (.tmp 16), none⟩,
 ⟨some 18, .mov (.tmp 1), none⟩,
 ⟨some 19, .call 13 [(.tmp 18), (.const (.int .i64 8))], none⟩,
 ⟨some 20, .bin .add (.const (.int .i64 1)) (.tmp 19), none⟩,
 ⟨some 21, .bld [(.int .i64 0), (.int .i64 0), (.int .i64 0), (.int .i64 0), (.int .i64 0), (.int .i64 0), (.int .i64 0), (.int .i64 0), (.int .i64 0), (.int .i64 0), (.int .i64 0), (.int .i64 0), (.bool false)] [(0, 1, (.tmp 17)), (1, 1, (.tmp 20))], none⟩,
 ⟨some 11, .new 43 (.agg #[.int .i64 0, .int .i64 0, .int .i64 0, .int .i64 0, .int .i64 0, .int .i64 0, .int .i64 0, .int .i64 0, .int .i64 0, .int .i64 0, .int .i64 0, .int .i64 0, .bool false]), none⟩,
 ⟨none, .stN 13 (.tmp 11) (.tmp 21), none⟩])
 (.seq (.region [
 ⟨some 22, .mov (.tmp 2), none⟩,
 ⟨some 23, .call 13 [(.tmp 22), (.const (.int .i64 6))], none⟩,
 ⟨some 24, .bin .add (.const (.int .i64 1)) (.tmp 23), none⟩,
 ⟨some 25, .fad 7 (.tmp 11), none⟩,
 ⟨none, .st (.tmp 25) (.tmp 24), none⟩])
 (.seq (.region [
 ⟨some 26, .mov (.tmp 2), none⟩,
 ⟨some 27, .bin .quo (.tmp 26) (.const (.int .i64 7)), none⟩,
 ⟨some 28, .call 13 [(.tmp 27), (.const (.int .i64 8))], none⟩,
 ⟨some 29, .bin .add (.const (.int .i64 1)) (.tmp 28), none⟩,
 ⟨some 30, .fad 8 (.tmp 11), none⟩,
 ⟨none, .st (.tmp 30) (.tmp 29), none⟩])
 (.seq (.region [
 ⟨some 31, .mov (.tmp 3), none⟩,
 ⟨some 32, .call 13 [(.tmp 31), (.const (.int .i64 3))], none⟩,
 ⟨some 33, .fad 9 (.tmp 11), none⟩,
 ⟨none, .st (.tmp 33) (.tmp 32), none⟩])
 (.seq (.region [
 ⟨some 34, .mov (.tmp 3), none⟩,
 ⟨some 35, .bin .quo (.tmp 34) (.const (.int .i64 3)), none⟩,
 ⟨some 36, .call 13 [(.tmp 35), (.const (.int .i64 3))], none⟩,
 ⟨some 37, .fad 10 (.tmp 11), none⟩,
 ⟨none, .st (.tmp 37) (.tmp 36), none⟩])
 (.seq (.region [
 ⟨some 38, .fad 11 (.tmp 11), none⟩,
 ⟨none, .st (.tmp 38) (.const (.int .i64 50)), none⟩])
 (.seq (.seq (.region [
 ⟨some 39, .mov (.tmp 4), none⟩,
 ⟨some 40, .call 13 [(.tmp 39), (.const (.int .i64 5))], none⟩,
 ⟨some 41, .bin .eql (.tmp 40) (.const (.int .i64 0)), none⟩])
 (.cond (.tmp 41)
  (.region [
  ⟨some 42, .mov (.tmp 4), none⟩,
  ⟨some 43, .bin .quo (.tmp 42) (.const (.int .i64 5)), none⟩,
  ⟨some 44, .call 13 [(.tmp 43), (.const (.int .i64 4))], none⟩,
  ⟨some 45, .fad 11 (.tmp 11), none⟩,
  ⟨none, .st (.tmp 45) (.tmp 44), none⟩])
  .skip))
 (.seq (.region [
 ⟨some 46, .fad 2 (.tmp 11), none⟩,
 ⟨none, .st (.tmp 46) (.const (.int .i64 2)), none⟩])
 (.seq (.region [
 ⟨some 47, .fad 0 (.tmp 11), none⟩,
 ⟨some 48, .ld (.tmp 47), none⟩,
 ⟨some 49, .bin .sub (.tmp 48) (.const (.int .i64 2)), none⟩,
 ⟨some 12, .mov (.tmp 49), none⟩])
 (.seq (.seq (.region [
 ⟨some 13, .mov (.const (.int .i64 0)), none⟩])
 (.block 0
  (.loop 151115726325928740024320
   (.seq (.seq (.region [
   ⟨some 50, .mov (.tmp 13), none⟩,
   ⟨some 51, .bin .lss (.tmp 50) (.const (.int .i64 2)), none⟩])
   (.cond (.tmp 51)
    .skip
    (.exit 0)))
   (.seq (.block 1
    (.seq (.draw (.f ⟨some 54, .mov (.tmp 3), none⟩
    (.f ⟨some 55, .mov (.tmp 13), none⟩
    (.f ⟨some 56, .bin .mul (.const (.int .i64 20)) (.tmp 55), none⟩
    (.f ⟨some 57, .bin .add (.const (.int .i64 9)) (.tmp 56), none⟩
    (.f ⟨some 58, .bin .quo (.tmp 54) (.tmp 57), none⟩
    (.f ⟨some 59, .mov (.tmp 12), none⟩
    (.f ⟨some 60, .mov (.tmp 13), none⟩
    (.f ⟨some 61, .bin .shr (.tmp 59) (.tmp 60), none⟩
    (.f ⟨some 62, .bin .add (.tmp 61) (.const (.int .i64 1)), none⟩
    (.f ⟨some 63, .call 13 [(.tmp 58), (.tmp 62)], none⟩
    (.f ⟨some 14, .mov (.tmp 63), none⟩
    .done))))))))))))
    (.seq (.region [
    ⟨some 64, .mov (.tmp 13), none⟩,
    ⟨some 65, .mov (.tmp 14), none⟩,
    ⟨some 66, .mm false (.tmp 65) (.const (.int .i64 2)), none⟩,
    ⟨some 67, .fad 3 (.tmp 11), none⟩,
    ⟨some 68, .ixa 4 1 (.tmp 67) (.tmp 64), none⟩,
    ⟨none, .st (.tmp 68) (.tmp 66), none⟩])
    (.region [
    ⟨some 69, .mov (.tmp 12), none⟩,
    ⟨some 70, .mov (.tmp 13), none⟩,
    ⟨some 71, .fad 3 (.tmp 11), none⟩,
    ⟨some 72, .ixa 4 1 (.tmp 71) (.tmp 70), none⟩,
    ⟨some 73, .ld (.tmp 72), none⟩,
    ⟨some 74, .mov (.tmp 13), none⟩,
    ⟨some 75, .bin .shl (.tmp 73) (.tmp 74), none⟩,
    ⟨some 76, .bin .sub (.tmp 69) (.tmp 75), none⟩,
    ⟨some 12, .mov (.tmp 76), none⟩]))))
   (.region [
   ⟨some 52, .mov (.tmp 13), none⟩,
   ⟨some 53, .bin .add (.tmp 52) (.const (.int .i64 1)), none⟩,
   ⟨some 13, .mov (.tmp 53), none⟩]))))))
 (.seq (.region [
 ⟨some 77, .ldN 13 (.tmp 11), none⟩,
 ⟨none, .stN 13 (.tmp 10) (.tmp 77), none⟩])
 .ret)))))))))))),
 [.cellN 10 13]⟩
theorem low_make_Config : lowFn Tryd.prog movers 19 = some ⟨ir_make_Config.n, strip ir_make_Config.body, ir_make_Config.res⟩ := by kernel_rfl

/-- strongtx/strongtxmake.Script -/
def ir_make_Script : IFn := ⟨82,
 (.seq (.region [
 ⟨some 7, .box 43 (.tmp 0), none⟩,
 ⟨some 14, .new 47 (.agg #[.int .i64 0, .int .i64 0, .int .i64 0, .int .i64 0, .int .i64 0, .int .i64 0, .int .i64 0, .int .i64 0, .int .i64 0, .int .i64 0, .int .i64 0, .int .i64 0, .bool false, .slice none 0 0, .slice none 0 0, .slice none 0 0]), none⟩])
 (.seq (.region [
 ⟨some 20, .ldN 13 (.tmp 7), none⟩,
 ⟨some 21, .bld [(.int .i64 0), (.int .i64 0), (.int .i64 0), (.int .i64 0), (.int .i64 0), (.int .i64 0), (.int .i64 0), (.int .i64 0), (.int .i64 0), (.int .i64 0), (.int .i64 0), (.int .i64 0), (.bool false), (.slice none 0 0), (.slice none 0 0), (.slice none 0 0)] [(0, 13, (.tmp 20))], none⟩,
 ⟨some 15, .new 47 (.agg #[.int .i64 0, .int .i64 0, .int .i64 0, .int .i64 0, .int .i64 0, .int .i64 0, .int .i64 0, .int .i64 0, .int .i64 0, .int .i64 0, .int .i64 0, .int .i64 0, .bool false, .slice none 0 0, .slice none 0 0, .slice none 0 0]), none⟩,
 ⟨none, .stN 16 (.tmp 15) (.tmp 21), none⟩])
 (.seq (.seq (.region [
 ⟨some 16, .mov (.const (.int .i64 0)), none⟩])
 (.block 0
  (.loop 68715347968
   (.seq (.seq (.region [
   ⟨some 22, .mov (.tmp 16), none⟩,
   ⟨some 23, .fad 0 (.tmp 7), none⟩,
   ⟨some 24, .ld (.tmp 23), none⟩,
   ⟨some 25, .bin .lss (.tmp 22) (.tmp 24), none⟩])
   (.cond (.tmp 25)
    .skip
    (.exit 0)))
   (.seq (.block 1
    (.region [
    ⟨some 28, .fad 13 (.tmp 15), none⟩,
    ⟨some 29, .ld (.tmp 28), none⟩,
    ⟨some 30, .mov (.tmp 16), none⟩,
    ⟨some 31, .bin .rem (.tmp 30) (.const (.int .i64 4)), none⟩,
    ⟨some 32, .conv .u64 (.tmp 31), none⟩,
    ⟨some 33, .blds 56 1 [(.int .u64 0)] [(0, 1, (.tmp 32))], none⟩,
    ⟨some 34, .app 56 1 8 [(.int .u64 0)] (.tmp 29) (.tmp 33), none⟩,
    ⟨some 35, .fad 13 (.tmp 15), none⟩,
    ⟨none, .st (.tmp 35) (.tmp 34), none⟩]))
   (.region [
   ⟨some 26, .mov (.tmp 16), none⟩,
   ⟨some 27, .bin .add (.tmp 26) (.const (.int .i64 1)), none⟩,
   ⟨some 16, .mov (.tmp 27), none⟩]))))))
 (.seq (.seq (.region [
 ⟨some 17, .mov (.const (.int .i64 0)), none⟩])
 (.block 2
  (.loop 18446744004990468096
   (.seq (.seq (.region [
   ⟨some 36, .mov (.tmp 17), none⟩,
   ⟨some 37, .mov (.tmp 1), none⟩,
   ⟨some 38, .bin .lss (.tmp 36) (.tmp 37), none⟩])
   (.cond (.tmp 38)
    .skip
    (.exit 2)))
   (.seq (.block 3
    (.seq (.region [
    ⟨some 18, .mov (.const (.slice none 0 0)), none⟩])
    (.seq (.seq (.region [
    ⟨some 41, .mov (.tmp 17), none⟩,
    ⟨some 42, .mov (.tmp 2), none⟩,
    ⟨some 43, .len (.tmp 42), none⟩,
    ⟨some 44, .bin .lss (.tmp 41) (.tmp 43), none⟩])
    (.cond (.tmp 44)
     (.region [
     ⟨some 45, .mov (.tmp 2), none⟩,
     ⟨some 46, .mov (.tmp 17), none⟩,
     ⟨some 47, .ixs 1 (.tmp 45) (.tmp 46), none⟩,
     ⟨some 48, .ld (.tmp 47), none⟩,
     ⟨some 18, .mov (.tmp 48), none⟩])
     .skip))
    (.draw (.f ⟨some 49, .fad 14 (.tmp 15), none⟩
    (.f ⟨some 51, .mov (.tmp 18), none⟩
    (.f ⟨some 52, .mov (.tmp 3), none⟩
    (.f ⟨some 53, .mov (.tmp 4), none⟩
    (.f ⟨some 54, .mov (.tmp 53), none⟩
    (.f ⟨some 55, .ldN 13 (.tmp 7), some (54, true)⟩
    (.f ⟨some 56, .call 40 [(.tmp 55)], some (54, true)⟩
    (.f ⟨some 57, .bin .gtr (.tmp 56) (.const (.int .i64 0)), some (54, true)⟩
    (.f ⟨some 58, .pick (.tmp 54) (.tmp 57) (.const (.bool false)), none⟩
    (.f ⟨some 59, .mov (.tmp 5), none⟩
    (.both (.f ⟨some 50, .ld (.tmp 49), none⟩
     (.m ⟨some 60, .call 9 [(.tmp 51), (.tmp 52), (.tmp 58), (.tmp 59)], none⟩
     (.m ⟨some 61, .blds 24 1 [(.slice none 0 0)] [(0, 1, (.tmp 60))], none⟩
     (.m ⟨some 62, .app 24 1 24 [(.slice none 0 0)] (.tmp 50) (.tmp 61), none⟩
     (.f ⟨some 63, .fad 14 (.tmp 15), none⟩
     (.m ⟨none, .st (.tmp 63) (.tmp 62), none⟩
     .done))))))
    (.m ⟨some 60, .call 9 [(.tmp 51), (.tmp 52), (.tmp 58), (.tmp 59)], none⟩
     (.both (.f ⟨some 50, .ld (.tmp 49), none⟩
      (.m ⟨some 61, .blds 24 1 [(.slice none 0 0)] [(0, 1, (.tmp 60))], none⟩
      (.m ⟨some 62, .app 24 1 24 [(.slice none 0 0)] (.tmp 50) (.tmp 61), none⟩
      (.f ⟨some 63, .fad 14 (.tmp 15), none⟩
      (.m ⟨none, .st (.tmp 63) (.tmp 62), none⟩
      .done)))))
     (.m ⟨some 61, .blds 24 1 [(.slice none 0 0)] [(0, 1, (.tmp 60))], none⟩
      (.f ⟨some 50, .ld (.tmp 49), none⟩
      (.m ⟨some 62, .app 24 1 24 [(.slice none 0 0)] (.tmp 50) (.tmp 61), none⟩
      (.f ⟨some 63, .fad 14 (.tmp 15), none⟩
      (.m ⟨none, .st (.tmp 63) (.tmp 62), none⟩
      .done))))))))))))))))))))))
   (.region [
   ⟨some 39, .mov (.tmp 17), none⟩,
   ⟨some 40, .bin .add (.tmp 39) (.const (.int .i64 1)), none⟩,
   ⟨some 17, .mov (.tmp 40), none⟩]))))))
 (.seq (.seq (.region [
 ⟨some 19, .mov (.const (.int .i64 0)), none⟩])
 (.block 4
  (.loop 2417833192485184640385024
   (.seq (.seq (.region [
   ⟨some 64, .mov (.tmp 19), none⟩,
   ⟨some 65, .mov (.tmp 6), none⟩,
   ⟨some 66, .len (.tmp 65), none⟩,
   ⟨some 67, .bin .lss (.tmp 64) (.tmp 66), none⟩])
   (.cond (.tmp 67)
    .skip
    (.exit 4)))
   (.seq (.block 5
    (.draw (.f ⟨some 70, .fad 15 (.tmp 15), none⟩
    (.f ⟨some 71, .ld (.tmp 70), none⟩
    (.f ⟨some 72, .mov (.tmp 6), none⟩
    (.f ⟨some 73, .mov (.tmp 19), none⟩
    (.f ⟨some 74, .ixs 1 (.tmp 72) (.tmp 73), none⟩
    (.f ⟨some 75, .ld (.tmp 74), none⟩
    (.f ⟨some 76, .mov (.tmp 1), none⟩
    (.f ⟨some 77, .call 13 [(.tmp 75), (.tmp 76)], none⟩
    (.m ⟨some 78, .blds 3 1 [(.int .i64 0)] [(0, 1, (.tmp 77))], none⟩
    (.m ⟨some 79, .app 3 1 8 [(.int .i64 0)] (.tmp 71) (.tmp 78), none⟩
    (.f ⟨some 80, .fad 15 (.tmp 15), none⟩
    (.m ⟨none, .st (.tmp 80) (.tmp 79), none⟩
    .done))))))))))))))
   (.region [
   ⟨some 68, .mov (.tmp 19), none⟩,
   ⟨some 69, .bin .add (.tmp 68) (.const (.int .i64 1)), none⟩,
   ⟨some 19, .mov (.tmp 69), none⟩]))))))
 (.seq (.region [
 ⟨some 81, .ldN 16 (.tmp 15), none⟩,
 ⟨none, .stN 16 (.tmp 14) (.tmp 81), none⟩])
 .ret)))))),
 [.cellN 14 16]⟩
theorem low_make_Script : lowFn Tryd.prog movers 20 = some ⟨ir_make_Script.n, strip ir_make_Script.body, ir_make_Script.res⟩ := by kernel_rfl

/-- strongtx/strongtxlaw07.spoil -/
def ir_law07_spoil : IFn := ⟨51,
 (.seq (.region [
 ⟨some 3, .box 43 (.tmp 0), none⟩,
 ⟨some 6, .new 43 (.agg #[.int .i64 0, .int .i64 0, .int .i64 0, .int .i64 0, .int .i64 0, .int .i64 0, .int .i64 0, .int .i64 0, .int .i64 0, .int .i64 0, .int .i64 0, .int .i64 0, .bool false]), none⟩])
 (.seq (.seq (.region [
 ⟨some 7, .mov (.tmp 1), none⟩,
 ⟨some 8, .call 13 [(.tmp 7), (.const (.int .i64 12))], none⟩])
 (.block 0
  (.seq (.region [
  ⟨some 12, .bin .eql (.tmp 8) (.const (.int .i64 0)), none⟩,
  ⟨some 11, .mov (.tmp 12), none⟩])
  (.cond (.tmp 11)
   (.region [
   ⟨some 13, .mov (.tmp 2), none⟩,
   ⟨some 14, .fad 0 (.tmp 3), none⟩,
   ⟨none, .st (.tmp 14) (.tmp 13), none⟩])
   (.seq (.region [
   ⟨some 16, .bin .eql (.tmp 8) (.const (.int .i64 1)), none⟩,
   ⟨some 15, .mov (.tmp 16), none⟩])
   (.cond (.tmp 15)
    (.region [
    ⟨some 17, .mov (.tmp 2), none⟩,
    ⟨some 18, .fad 1 (.tmp 3), none⟩,
    ⟨none, .st (.tmp 18) (.tmp 17), none⟩])
    (.seq (.region [
    ⟨some 20, .bin .eql (.tmp 8) (.const (.int .i64 2)), none⟩,
    ⟨some 19, .mov (.tmp 20), none⟩])
    (.cond (.tmp 19)
     (.region [
     ⟨some 21, .mov (.tmp 2), none⟩,
     ⟨some 22, .fad 2 (.tmp 3), none⟩,
     ⟨none, .st (.tmp 22) (.tmp 21), none⟩])
     (.seq (.seq (.region [
     ⟨some 24, .bin .eql (.tmp 8) (.const (.int .i64 3)), none⟩,
     ⟨some 23, .mov (.tmp 24), none⟩])
     (.cond (.tmp 23)
      .skip
      (.seq (.region [
      ⟨some 25, .bin .eql (.tmp 8) (.const (.int .i64 4)), none⟩,
      ⟨some 23, .mov (.tmp 25), none⟩])
      (.cond (.tmp 23)
       .skip
       (.seq (.region [
       ⟨some 26, .bin .eql (.tmp 8) (.const (.int .i64 5)), none⟩,
       ⟨some 23, .mov (.tmp 26), none⟩])
       (.cond (.tmp 23)
        .skip
        (.region [
        ⟨some 27, .bin .eql (.tmp 8) (.const (.int .i64 6)), none⟩,
        ⟨some 23, .mov (.tmp 27), none⟩])))))))
     (.cond (.tmp 23)
      (.region [
      ⟨some 28, .mov (.tmp 1), none⟩,
      ⟨some 29, .call 13 [(.tmp 28), (.const (.int .i64 12))], none⟩,
      ⟨some 30, .bin .sub (.tmp 29) (.const (.int .i64 3)), none⟩,
      ⟨some 31, .mov (.tmp 2), none⟩,
      ⟨some 32, .fad 3 (.tmp 3), none⟩,
      ⟨some 33, .ixa 4 1 (.tmp 32) (.tmp 30), none⟩,
      ⟨none, .st (.tmp 33) (.tmp 31), none⟩])
      (.seq (.region [
      ⟨some 35, .bin .eql (.tmp 8) (.const (.int .i64 7)), none⟩,
      ⟨some 34, .mov (.tmp 35), none⟩])
      (.cond (.tmp 34)
       (.region [
       ⟨some 36, .mov (.tmp 2), none⟩,
       ⟨some 37, .fad 7 (.tmp 3), none⟩,
       ⟨none, .st (.tmp 37) (.tmp 36), none⟩])
       (.seq (.region [
       ⟨some 39, .bin .eql (.tmp 8) (.const (.int .i64 8)), none⟩,
       ⟨some 38, .mov (.tmp 39), none⟩])
       (.cond (.tmp 38)
        (.region [
        ⟨some 40, .mov (.tmp 2), none⟩,
        ⟨some 41, .fad 8 (.tmp 3), none⟩,
        ⟨none, .st (.tmp 41) (.tmp 40), none⟩])
        (.seq (.region [
        ⟨some 43, .bin .eql (.tmp 8) (.const (.int .i64 9)), none⟩,
        ⟨some 42, .mov (.tmp 43), none⟩])
        (.cond (.tmp 42)
         (.region [
         ⟨some 44, .mov (.tmp 2), none⟩,
         ⟨some 45, .fad 9 (.tmp 3), none⟩,
         ⟨none, .st (.tmp 45) (.tmp 44), none⟩])
         (.seq (.region [
         ⟨some 47, .bin .eql (.tmp 8) (.const (.int .i64 10)), none⟩,
         ⟨some 46, .mov (.tmp 47), none⟩])
         (.cond (.tmp 46)
          (.region [
          ⟨some 48, .mov (.tmp 2), none⟩,
          ⟨some 49, .fad 10 (.tmp 3), none⟩,
          ⟨none, .st (.tmp 49) (.tmp 48), none⟩])
          (.region [
          ⟨some 9, .mov (.tmp 2), none⟩,
          ⟨some 10, .fad 11 (.tmp 3), none⟩,
          ⟨none, .st (.tmp 10) (.tmp 9), none⟩])))))))))))))))))))
 (.seq (.region [
 ⟨some 50, .ldN 13 (.tmp 3), none⟩,
 ⟨none, .stN 13 (.tmp 6) (.tmp 50), none⟩])
 .ret))),
 [.cellN 6 13]⟩
theorem low_law07_spoil : lowFn Tryd.prog movers 21 = some ⟨ir_law07_spoil.n, strip ir_law07_spoil.body, ir_law07_spoil.res⟩ := by kernel_rfl

/-- strongtx/strongtxlaw06.example -/
def ir_law06_example : IFn := ⟨8,
 (.seq (.region [
 ⟨some 0, .mov (.const (.slice none 0 0)), none⟩])
 (.seq (.region [
 ⟨some 1, .bld [(.int .i64 0), (.int .i64 0), (.int .i64 0), (.int .i64 0), (.int .i64 0)] [(0, 1, (.const (.int .i64 7))), (4, 1, (.const (.int .i64 2)))], none⟩,
 ⟨some 2, .bld [(.int .i64 0), (.int .i64 0), (.int .i64 0), (.int .i64 0), (.int .i64 0)] [(0, 1, (.const (.int .i64 10))), (2, 1, (.const (.int .i64 1)))], none⟩,
 ⟨some 3, .bld [(.int .i64 0), (.int .i64 0), (.int .i64 0), (.int .i64 0), (.int .i64 0)] [(0, 1, (.const (.int .i64 5))), (4, 1, (.const (.int .i64 1)))], none⟩,
 ⟨some 4, .bld [(.int .i64 0), (.int .i64 0), (.int .i64 0), (.int .i64 0), (.int .i64 0)] [(0, 1, (.const (.int .i64 9)))], none⟩,
 ⟨some 5, .bld [(.int .i64 0), (.int .i64 0), (.int .i64 0), (.int .i64 0), (.int .i64 0)] [(0, 1, (.const (.int .i64 11))), (1, 1, (.const (.int .i64 1)))], none⟩,
 ⟨some 6, .bld [(.int .i64 0), (.int .i64 0), (.int .i64 0), (.int .i64 0), (.int .i64 0)] [(0, 1, (.const (.int .i64 8)))], none⟩,
 ⟨some 7, .blds 31 6 [(.int .i64 0), (.int .i64 0), (.int .i64 0), (.int .i64 0), (.int .i64 0), (.int .i64 0), (.int .i64 0), (.int .i64 0), (.int .i64 0), (.int .i64 0), (.int .i64 0), (.int .i64 0), (.int .i64 0), (.int .i64 0), (.int .i64 0), (.int .i64 0), (.int .i64 0), (.int .i64 0), (.int .i64 0), (.int .i64 0), (.int .i64 0), (.int .i64 0), (.int .i64 0), (.int .i64 0), (.int .i64 0), (.int .i64 0), (.int .i64 0), (.int .i64 0), (.int .i64 0), (.int .i64 0)] [(0, 5, (.tmp 1)), (5, 5, (.tmp 2)), (10, 5, (.tmp 3)), (15, 5, (.tmp 4)), (20, 5, (.tmp 5)), (25, 5, (.tmp 6))], none⟩,
 ⟨some 0, .mov (.tmp 7), none⟩])
 .ret)),
 [.tmp 0]⟩
theorem low_law06_example : lowFn Tryd.prog movers 22 = some ⟨ir_law06_example.n, strip ir_law06_example.body, ir_law06_example.res⟩ := by kernel_rfl

/-- strongtx/strongtxmake.instruction -/
def ir_make_instruction : IFn := ⟨84,
 (.seq (.region [
 ⟨some 4, .new 31 (.agg #[.int .i64 0, .int .i64 0, .int .i64 0, .int .i64 0, .int .i64 0]), none⟩])
 (.seq (.region [
 ⟨some 9, .mov (.tmp 1), none⟩,
 ⟨some 10, .bin .rem (.tmp 9) (.const (.int .u64 4)), none⟩,
 ⟨some 11, .conv .i64 (.tmp 10), none⟩,
 ⟨some 12, .mov (.tmp 1), none⟩,
 ⟨some 13, .bin .quo (.tmp 12) (.const (.int .u64 4)), none⟩,
 ⟨some 14, .bin .rem (.tmp 13) (.const (.int .u64 4)), none⟩,
 ⟨some 15, .conv .i64 (.tmp 14), none⟩,
 ⟨some 16, .mov (.tmp 1), none⟩,
 ⟨some 17, .bin .quo (.tmp 16) (.const (.int .u64 16)), none⟩,
 ⟨some 18, .bin .rem (.tmp 17) (.const (.int .u64 4)), none⟩,
 ⟨some 19, .conv .i64 (.tmp 18), none⟩,
 ⟨some 5, .mov (.tmp 11), none⟩,
 ⟨some 6, .mov (.tmp 15), none⟩,
 ⟨some 7, .mov (.tmp 19), none⟩])
 (.seq (.region [
 ⟨some 20, .mov (.tmp 1), none⟩,
 ⟨some 21, .bin .quo (.tmp 20) (.const (.int .u64 64)), none⟩,
 ⟨some 22, .bin .rem (.tmp 21) (.const (.int .u64 1024)), none⟩,
 ⟨some 23, .conv .i64 (.tmp 22), none⟩,
 ⟨some 8, .mov (.tmp 23), none⟩])
 (.seq (.seq (.region [
 ⟨some 24, .mov (.tmp 0), none⟩])
 (.block 0
  (.seq (.region [
  ⟨some 26, .bin .eql (.tmp 24) (.const (.int .i64 1)), none⟩,
  ⟨some 25, .mov (.tmp 26), none⟩])
  (.cond (.tmp 25)
   (.seq (.region [
   ⟨some 27, .mov (.tmp 0), none⟩,
   ⟨some 28, .mov (.tmp 5), none⟩,
   ⟨some 29, .mov (.tmp 8), none⟩,
   ⟨some 30, .bin .rem (.tmp 29) (.const (.int .i64 7)), none⟩,
   ⟨some 31, .bld [(.int .i64 0), (.int .i64 0), (.int .i64 0), (.int .i64 0), (.int .i64 0)] [(0, 1, (.tmp 27)), (1, 1, (.tmp 28)), (4, 1, (.tmp 30))], none⟩,
   ⟨none, .stN 5 (.tmp 4) (.tmp 31), none⟩])
   .ret)
   (.seq (.region [
   ⟨some 33, .bin .eql (.tmp 24) (.const (.int .i64 2)), none⟩,
   ⟨some 32, .mov (.tmp 33), none⟩])
   (.cond (.tmp 32)
    (.seq (.region [
    ⟨some 34, .mov (.tmp 0), none⟩,
    ⟨some 35, .mov (.tmp 5), none⟩,
    ⟨some 36, .mov (.tmp 6), none⟩,
    ⟨some 37, .bld [(.int .i64 0), (.int .i64 0), (.int .i64 0), (.int .i64 0), (.int .i64 0)] [(0, 1, (.tmp 34)), (1, 1, (.tmp 35)), (2, 1, (.tmp 36))], none⟩,
    ⟨none, .stN 5 (.tmp 4) (.tmp 37), none⟩])
    .ret)
    (.seq (.region [
    ⟨some 39, .bin .eql (.tmp 24) (.const (.int .i64 3)), none⟩,
    ⟨some 38, .mov (.tmp 39), none⟩])
    (.cond (.tmp 38)
     (.seq (.region [
     ⟨some 40, .mov (.tmp 0), none⟩,
     ⟨some 41, .mov (.tmp 5), none⟩,
     ⟨some 42, .mov (.tmp 6), none⟩,
     ⟨some 43, .mov (.tmp 7), none⟩,
     ⟨some 44, .blds 3 6 [(.int .i64 0), (.int .i64 0), (.int .i64 0), (.int .i64 0), (.int .i64 0), (.int .i64 0)] [(0, 1, (.const (.int .i64 0))), (1, 1, (.const (.int .i64 1))), (2, 1, (.const (.int .i64 5))), (3, 1, (.const (.int .i64 8))), (4, 1, (.const (.int .i64 11))), (5, 1, (.const (.int .i64 12)))], none⟩,
     ⟨some 45, .mov (.tmp 8), none⟩,
     ⟨some 46, .bin .rem (.tmp 45) (.const (.int .i64 6)), none⟩,
     ⟨some 47, .ixs 1 (.tmp 44) (.tmp 46), none⟩,
     ⟨some 48, .ld (.tmp 47), none⟩,
     ⟨some 49, .bld [(.int .i64 0), (.int .i64 0), (.int .i64 0), (.int .i64 0), (.int .i64 0)] [(0, 1, (.tmp 40)), (1, 1, (.tmp 41)), (2, 1, (.tmp 42)), (3, 1, (.tmp 43)), (4, 1, (.tmp 48))], none⟩,
     ⟨none, .stN 5 (.tmp 4) (.tmp 49), none⟩])
     .ret)
     (.seq (.seq (.region [
     ⟨some 51, .bin .eql (.tmp 24) (.const (.int .i64 10)), none⟩,
     ⟨some 50, .mov (.tmp 51), none⟩])
     (.cond (.tmp 50)
      .skip
      (.seq (.region [
      ⟨some 52, .bin .eql (.tmp 24) (.const (.int .i64 11)), none⟩,
      ⟨some 50, .mov (.tmp 52), none⟩])
      (.cond (.tmp 50)
       .skip
       (.seq (.region [
       ⟨some 53, .bin .eql (.tmp 24) (.const (.int .i64 12)), none⟩,
       ⟨some 50, .mov (.tmp 53), none⟩])
       (.cond (.tmp 50)
        .skip
        (.region [
        ⟨some 54, .bin .eql (.tmp 24) (.const (.int .i64 13)), none⟩,
        ⟨some 50, .mov (.tmp 54), none⟩])))))))
     (.cond (.tmp 50)
      (.seq (.region [
      ⟨some 55, .mov (.tmp 0), none⟩,
      ⟨some 56, .mov (.tmp 5), none⟩,
      ⟨some 57, .mov (.tmp 6), none⟩,
      ⟨some 58, .mov (.tmp 8), none⟩,
      ⟨some 59, .bin .rem (.tmp 58) (.const (.int .i64 5)), none⟩,
      ⟨some 60, .bld [(.int .i64 0), (.int .i64 0), (.int .i64 0), (.int .i64 0), (.int .i64 0)] [(0, 1, (.tmp 55)), (1, 1, (.tmp 56)), (2, 1, (.tmp 57)), (4, 1, (.tmp 59))], none⟩,
      ⟨none, .stN 5 (.tmp 4) (.tmp 60), none⟩])
      .ret)
      (.seq (.region [
      ⟨some 62, .bin .eql (.tmp 24) (.const (.int .i64 14)), none⟩,
      ⟨some 61, .mov (.tmp 62), none⟩])
      (.cond (.tmp 61)
       (.seq (.region [
       ⟨some 63, .mov (.tmp 0), none⟩,
       ⟨some 64, .mov (.tmp 5), none⟩,
       ⟨some 65, .mov (.tmp 8), none⟩,
       ⟨some 66, .bin .rem (.tmp 65) (.const (.int .i64 3)), none⟩,
       ⟨some 67, .bin .rem (.tmp 66) (.const (.int .i64 2)), none⟩,
       ⟨some 68, .bld [(.int .i64 0), (.int .i64 0), (.int .i64 0), (.int .i64 0), (.int .i64 0)] [(0, 1, (.tmp 63)), (1, 1, (.tmp 64)), (4, 1, (.tmp 67))], none⟩,
       ⟨none, .stN 5 (.tmp 4) (.tmp 68), none⟩])
       .ret)
       (.seq (.seq (.region [
       ⟨some 70, .bin .eql (.tmp 24) (.const (.int .i64 15)), none⟩,
       ⟨some 69, .mov (.tmp 70), none⟩])
       (.cond (.tmp 69)
        .skip
        (.region [
        ⟨some 71, .bin .eql (.tmp 24) (.const (.int .i64 17)), none⟩,
        ⟨some 69, .mov (.tmp 71), none⟩])))
       (.cond (.tmp 69)
        (.seq (.region [
        ⟨some 72, .mov (.tmp 0), none⟩,
        ⟨some 73, .mov (.tmp 5), none⟩,
        ⟨some 74, .bld [(.int .i64 0), (.int .i64 0), (.int .i64 0), (.int .i64 0), (.int .i64 0)] [(0, 1, (.tmp 72)), (1, 1, (.tmp 73))], none⟩,
        ⟨none, .stN 5 (.tmp 4) (.tmp 74), none⟩])
        .ret)
        (.seq (.region [
        ⟨some 76, .bin .eql (.tmp 24) (.const (.int .i64 7)), none⟩,
        ⟨some 75, .mov (.tmp 76), none⟩])
        (.cond (.tmp 75)
         (.seq (.region [
         ⟨some 77, .mov (.tmp 0), none⟩,
         ⟨some 78, .mov (.tmp 8), none⟩,
         ⟨some 79, .bin .rem (.tmp 78) (.const (.int .i64 3)), none⟩,
         ⟨some 80, .bin .add (.const (.int .i64 1)) (.tmp 79), none⟩,
         ⟨some 81, .bld [(.int .i64 0), (.int .i64 0), (.int .i64 0), (.int .i64 0), (.int .i64 0)] [(0, 1, (.tmp 77)), (4, 1, (.tmp 80))], none⟩,
         ⟨none, .stN 5 (.tmp 4) (.tmp 81), none⟩])
         .ret)
         .skip))))))))))))))))
 (.seq (.region [
 ⟨some 82, .mov (.tmp 0), none⟩,
 ⟨some 83, .bld [(.int .i64 0), (.int .i64 0), (.int .i64 0), (.int .i64 0), (.int .i64 0)] [(0, 1, (.tmp 82))], none⟩,
 ⟨none, .stN 5 (.tmp 4) (.tmp 83), none⟩])
 .ret))))),
 [.cellN 4 5]⟩
theorem low_make_instruction : lowFn Tryd.prog movers 23 = some ⟨ir_make_instruction.n, strip ir_make_instruction.body, ir_make_instruction.res⟩ := by kernel_rfl

/-- strongtx/strongtxref06.Check -/
def ir_ref06_Check : IFn := ⟨91,
 (.seq (.region [
 ⟨some 2, .mov (.const (.int .i64 0)), none⟩,
 ⟨some 3, .mov (.const (.int .i64 0)), none⟩])
 (.seq (.seq (.region [
 ⟨some 11, .mov (.tmp 0), none⟩,
 ⟨some 12, .len (.tmp 11), none⟩,
 ⟨some 13, .bin .gtr (.tmp 12) (.const (.int .i64 64)), none⟩])
 (.cond (.tmp 13)
  (.seq (.region [
  ⟨some 2, .mov (.const (.int .i64 0)), none⟩,
  ⟨some 3, .mov (.const (.int .i64 3)), none⟩])
  .ret)
  .skip))
 (.seq (.region [
 ⟨some 4, .mov (.const (.int .i64 (-1))), none⟩])
 (.seq (.seq (.region [
 ⟨some 5, .mov (.const (.int .i64 0)), none⟩])
 (.block 0
  (.loop 309485009821345068724766716
   (.seq (.seq (.region [
   ⟨some 14, .mov (.tmp 5), none⟩,
   ⟨some 15, .mov (.tmp 0), none⟩,
   ⟨some 16, .len (.tmp 15), none⟩,
   ⟨some 17, .bin .lss (.tmp 14) (.tmp 16), none⟩])
   (.cond (.tmp 17)
    .skip
    (.exit 0)))
   (.seq (.block 1
    (.seq (.region [
    ⟨some 20, .mov (.tmp 0), none⟩,
    ⟨some 21, .mov (.tmp 5), none⟩,
    ⟨some 22, .ixs 5 (.tmp 20) (.tmp 21), none⟩,
    ⟨some 23, .ldN 5 (.tmp 22), none⟩,
    ⟨some 6, .new 31 (.agg #[.int .i64 0, .int .i64 0, .int .i64 0, .int .i64 0, .int .i64 0]), none⟩,
    ⟨none, .stN 5 (.tmp 6) (.tmp 23), none⟩])
    (.seq (.seq (.region [
    ⟨some 24, .ldN 5 (.tmp 6), none⟩,
    ⟨some 25, .call 41 [(.tmp 24)], none⟩,
    ⟨some 7, .mov (.tmp 25), none⟩])
    (.seq (.region [
    ⟨some 26, .mov (.tmp 7), none⟩,
    ⟨some 27, .bin .neq (.tmp 26) (.const (.int .i64 0)), none⟩])
    (.cond (.tmp 27)
     (.seq (.region [
     ⟨some 28, .mov (.tmp 5), none⟩,
     ⟨some 29, .mov (.tmp 7), none⟩,
     ⟨some 2, .mov (.tmp 28), none⟩,
     ⟨some 3, .mov (.tmp 29), none⟩])
     .ret)
     .skip)))
    (.seq (.seq (.region [
    ⟨some 30, .fad 0 (.tmp 6), none⟩,
    ⟨some 31, .ld (.tmp 30), none⟩,
    ⟨some 32, .bin .eql (.tmp 31) (.const (.int .i64 7)), none⟩,
    ⟨some 33, .mov (.tmp 32), none⟩,
    ⟨some 34, .mov (.tmp 4), some (33, true)⟩,
    ⟨some 35, .bin .geq (.tmp 34) (.const (.int .i64 0)), some (33, true)⟩,
    ⟨some 36, .pick (.tmp 33) (.tmp 35) (.const (.bool false)), none⟩,
    ⟨some 37, .mov (.tmp 36), none⟩,
    ⟨some 38, .fad 0 (.tmp 6), some (37, false)⟩,
    ⟨some 39, .ld (.tmp 38), some (37, false)⟩,
    ⟨some 40, .bin .eql (.tmp 39) (.const (.int .i64 8)), some (37, false)⟩,
    ⟨some 41, .mov (.tmp 40), some (37, false)⟩,
    ⟨some 42, .mov (.tmp 4), some (41, true)⟩,
    ⟨some 43, .bin .lss (.tmp 42) (.const (.int .i64 0)), some (41, true)⟩,
    ⟨some 44, .pick (.tmp 41) (.tmp 43) (.const (.bool false)), some (37, false)⟩,
    ⟨some 45, .pick (.tmp 37) (.const (.bool true)) (.tmp 44), none⟩])
    (.cond (.tmp 45)
     (.seq (.region [
     ⟨some 46, .mov (.tmp 5), none⟩,
     ⟨some 2, .mov (.tmp 46), none⟩,
     ⟨some 3, .mov (.const (.int .i64 40)), none⟩])
     .ret)
     .skip))
    (.seq (.seq (.region [
    ⟨some 47, .ldN 5 (.tmp 6), none⟩,
    ⟨some 48, .call 42 [(.tmp 47)], none⟩,
    ⟨some 8, .mov (.tmp 48), none⟩])
    (.seq (.region [
    ⟨some 49, .mov (.tmp 8), none⟩,
    ⟨some 50, .bin .eql (.tmp 49) (.const (.int .i64 1)), none⟩,
    ⟨some 51, .mov (.tmp 50), none⟩,
    ⟨some 52, .mov (.tmp 4), some (51, true)⟩,
    ⟨some 53, .bin .lss (.tmp 52) (.const (.int .i64 0)), some (51, true)⟩,
    ⟨some 54, .pick (.tmp 51) (.tmp 53) (.const (.bool false)), none⟩,
    ⟨some 55, .mov (.tmp 54), none⟩,
    ⟨some 56, .mov (.tmp 8), some (55, false)⟩,
    ⟨some 57, .bin .eql (.tmp 56) (.const (.int .i64 2)), some (55, false)⟩,
    ⟨some 58, .mov (.tmp 57), some (55, false)⟩,
    ⟨some 59, .mov (.tmp 4), some (58, true)⟩,
    ⟨some 60, .bin .geq (.tmp 59) (.const (.int .i64 0)), some (58, true)⟩,
    ⟨some 61, .pick (.tmp 58) (.tmp 60) (.const (.bool false)), some (55, false)⟩,
    ⟨some 62, .pick (.tmp 55) (.const (.bool true)) (.tmp 61), none⟩])
    (.cond (.tmp 62)
     (.seq (.region [
     ⟨some 63, .mov (.tmp 5), none⟩,
     ⟨some 2, .mov (.tmp 63), none⟩,
     ⟨some 3, .mov (.const (.int .i64 41)), none⟩])
     .ret)
     .skip)))
    (.seq (.seq (.region [
    ⟨some 65, .ldN 5 (.tmp 6), none⟩,
    ⟨some 66, .call 43 [(.tmp 65)], none⟩,
    ⟨some 64, .mov (.tmp 66), none⟩,
    ⟨some 67, .ext (.tmp 64) 0, none⟩,
    ⟨some 68, .ext (.tmp 64) 1, none⟩,
    ⟨some 9, .mov (.tmp 67), none⟩,
    ⟨some 10, .mov (.tmp 68), none⟩])
    (.seq (.region [
    ⟨some 69, .mov (.tmp 10), none⟩,
    ⟨some 70, .mov (.tmp 69), none⟩,
    ⟨some 71, .mov (.tmp 0), some (70, true)⟩,
    ⟨some 72, .mov (.tmp 5), some (70, true)⟩,
    ⟨some 73, .mov (.tmp 5), some (70, true)⟩,
    ⟨some 74, .bin .add (.tmp 73) (.const (.int .i64 1)), some (70, true)⟩,
    ⟨some 75, .mov (.tmp 9), some (70, true)⟩,
    ⟨some 76, .bin .add (.tmp 74) (.tmp 75), some (70, true)⟩,
    ⟨some 77, .call 44 [(.tmp 71), (.tmp 72), (.tmp 76)], some (70, true)⟩,
    ⟨some 78, .not (.tmp 77), some (70, true)⟩,
    ⟨some 79, .pick (.tmp 70) (.tmp 78) (.const (.bool false)), none⟩])
    (.cond (.tmp 79)
     (.seq (.region [
     ⟨some 80, .mov (.tmp 5), none⟩,
     ⟨some 2, .mov (.tmp 80), none⟩,
     ⟨some 3, .mov (.const (.int .i64 42)), none⟩])
     .ret)
     .skip)))
    (.seq (.region [
    ⟨some 81, .fad 0 (.tmp 6), none⟩,
    ⟨some 82, .ld (.tmp 81), none⟩])
    (.block 2
     (.seq (.region [
     ⟨some 84, .bin .eql (.tmp 82) (.const (.int .i64 7)), none⟩,
     ⟨some 83, .mov (.tmp 84), none⟩])
     (.cond (.tmp 83)
      (.region [
      ⟨some 85, .mov (.tmp 5), none⟩,
      ⟨some 4, .mov (.tmp 85), none⟩])
      (.seq (.region [
      ⟨some 87, .bin .eql (.tmp 82) (.const (.int .i64 8)), none⟩,
      ⟨some 86, .mov (.tmp 87), none⟩])
      (.cond (.tmp 86)
       (.region [
       ⟨some 4, .mov (.const (.int .i64 (-1))), none⟩])
       .skip))))))))))))
   (.region [
   ⟨some 18, .mov (.tmp 5), none⟩,
   ⟨some 19, .bin .add (.tmp 18) (.const (.int .i64 1)), none⟩,
   ⟨some 5, .mov (.tmp 19), none⟩]))))))
 (.seq (.seq (.region [
 ⟨some 88, .mov (.tmp 4), none⟩,
 ⟨some 89, .bin .geq (.tmp 88) (.const (.int .i64 0)), none⟩])
 (.cond (.tmp 89)
  (.seq (.region [
  ⟨some 90, .mov (.tmp 4), none⟩,
  ⟨some 2, .mov (.tmp 90), none⟩,
  ⟨some 3, .mov (.const (.int .i64 43)), none⟩])
  .ret)
  .skip))
 (.seq (.region [
 ⟨some 2, .mov (.const (.int .i64 0)), none⟩,
 ⟨some 3, .mov (.const (.int .i64 0)), none⟩])
 .ret)))))),
 [.tmp 2, .tmp 3]⟩
theorem low_ref06_Check : lowFn Tryd.prog movers 24 = some ⟨ir_ref06_Check.n, strip ir_ref06_Check.body, ir_ref06_Check.res⟩ := by kernel_rfl

/-- strongtx/program.one -/
def ir_program_one : IFn := ⟨61,
 (.seq (.region [
 ⟨some 6, .mov (.const (.int .i64 0)), none⟩])
 (.seq (.seq (.region [
 ⟨some 10, .mov (.tmp 0), none⟩,
 ⟨some 11, .mov (.tmp 1), none⟩,
 ⟨some 12, .ixs 5 (.tmp 10) (.tmp 11), none⟩,
 ⟨some 13, .ldN 5 (.tmp 12), none⟩,
 ⟨some 14, .call 45 [(.tmp 13)], none⟩,
 ⟨some 7, .mov (.tmp 14), none⟩])
 (.seq (.region [
 ⟨some 15, .mov (.tmp 7), none⟩,
 ⟨some 16, .bin .neq (.tmp 15) (.const (.int .i64 0)), none⟩])
 (.cond (.tmp 16)
  (.seq (.region [
  ⟨some 17, .mov (.tmp 7), none⟩,
  ⟨some 6, .mov (.tmp 17), none⟩])
  .ret)
  .skip)))
 (.seq (.region [
 ⟨some 18, .mov (.tmp 2), none⟩,
 ⟨some 19, .bin .geq (.tmp 18) (.const (.int .i64 0)), none⟩,
 ⟨some 8, .mov (.tmp 19), none⟩])
 (.seq (.seq (.region [
 ⟨some 20, .mov (.tmp 0), none⟩,
 ⟨some 21, .mov (.tmp 1), none⟩,
 ⟨some 22, .ixs 5 (.tmp 20) (.tmp 21), none⟩,
 ⟨some 23, .ldN 5 (.tmp 22), none⟩,
 ⟨some 24, .call 46 [(.tmp 23)], none⟩,
 ⟨some 9, .mov (.tmp 24), none⟩])
 (.block 0
  (.seq (.seq (.region [
  ⟨some 26, .mov (.tmp 0), none⟩,
  ⟨some 27, .mov (.tmp 1), none⟩,
  ⟨some 28, .ixs 5 (.tmp 26) (.tmp 27), none⟩,
  ⟨some 29, .fad 0 (.tmp 28), none⟩,
  ⟨some 30, .ld (.tmp 29), none⟩,
  ⟨some 31, .bin .eql (.tmp 30) (.const (.int .i64 7)), none⟩,
  ⟨some 32, .mov (.tmp 31), none⟩,
  ⟨some 33, .mov (.tmp 8), some (32, true)⟩,
  ⟨some 34, .pick (.tmp 32) (.tmp 33) (.const (.bool false)), none⟩,
  ⟨some 25, .mov (.tmp 34), none⟩])
  (.cond (.tmp 25)
   .skip
   (.region [
   ⟨some 35, .mov (.tmp 0), none⟩,
   ⟨some 36, .mov (.tmp 1), none⟩,
   ⟨some 37, .ixs 5 (.tmp 35) (.tmp 36), none⟩,
   ⟨some 38, .fad 0 (.tmp 37), none⟩,
   ⟨some 39, .ld (.tmp 38), none⟩,
   ⟨some 40, .bin .eql (.tmp 39) (.const (.int .i64 8)), none⟩,
   ⟨some 41, .mov (.tmp 40), none⟩,
   ⟨some 42, .mov (.tmp 8), some (41, true)⟩,
   ⟨some 43, .not (.tmp 42), some (41, true)⟩,
   ⟨some 44, .pick (.tmp 41) (.tmp 43) (.const (.bool false)), none⟩,
   ⟨some 25, .mov (.tmp 44), none⟩])))
  (.cond (.tmp 25)
   (.seq (.region [
   ⟨some 6, .mov (.const (.int .i64 40)), none⟩])
   .ret)
   (.seq (.seq (.region [
   ⟨some 46, .mov (.tmp 9), none⟩,
   ⟨some 47, .bin .eql (.tmp 46) (.const (.int .i64 1)), none⟩,
   ⟨some 48, .mov (.tmp 47), none⟩,
   ⟨some 49, .mov (.tmp 8), some (48, true)⟩,
   ⟨some 50, .not (.tmp 49), some (48, true)⟩,
   ⟨some 51, .pick (.tmp 48) (.tmp 50) (.const (.bool false)), none⟩,
   ⟨some 45, .mov (.tmp 51), none⟩])
   (.cond (.tmp 45)
    .skip
    (.region [
    ⟨some 52, .mov (.tmp 9), none⟩,
    ⟨some 53, .bin .eql (.tmp 52) (.const (.int .i64 2)), none⟩,
    ⟨some 54, .mov (.tmp 53), none⟩,
    ⟨some 55, .mov (.tmp 8), some (54, true)⟩,
    ⟨some 56, .pick (.tmp 54) (.tmp 55) (.const (.bool false)), none⟩,
    ⟨some 45, .mov (.tmp 56), none⟩])))
   (.cond (.tmp 45)
    (.seq (.region [
    ⟨some 6, .mov (.const (.int .i64 41)), none⟩])
    .ret)
    .skip))))))
 (.seq (.region [
 ⟨some 57, .mov (.tmp 0), none⟩,
 ⟨some 58, .mov (.tmp 1), none⟩,
 ⟨some 59, .mov (.tmp 2), none⟩,
 ⟨some 60, .call 47 [(.tmp 57), (.tmp 58), (.tmp 59)], none⟩,
 ⟨some 6, .mov (.tmp 60), none⟩])
 .ret))))),
 [.tmp 6]⟩
theorem low_program_one : lowFn Tryd.prog movers 25 = some ⟨ir_program_one.n, strip ir_program_one.body, ir_program_one.res⟩ := by kernel_rfl

/-- strongtx/program.valid -/
def ir_program_valid : IFn := ⟨12,
 (.seq (.region [
 ⟨some 2, .mov (.const (.bool false)), none⟩])
 (.seq (.region [
 ⟨some 6, .mov (.tmp 0), none⟩,
 ⟨some 7, .call 10 [(.tmp 6)], none⟩,
 ⟨some 5, .mov (.tmp 7), none⟩,
 ⟨some 8, .ext (.tmp 5) 0, none⟩,
 ⟨some 9, .ext (.tmp 5) 1, none⟩,
 ⟨some 3, .mov (.tmp 8), none⟩,
 ⟨some 4, .mov (.tmp 9), none⟩])
 (.seq (.region [
 ⟨some 10, .mov (.tmp 4), none⟩,
 ⟨some 11, .bin .eql (.tmp 10) (.const (.int .i64 0)), none⟩,
 ⟨some 2, .mov (.tmp 11), none⟩])
 .ret))),
 [.tmp 2]⟩
theorem low_program_valid : lowFn Tryd.prog movers 26 = some ⟨ir_program_valid.n, strip ir_program_valid.body, ir_program_valid.res⟩ := by kernel_rfl

/-- strongtx/program.end -/
def ir_program_end : IFn := ⟨23,
 (.seq (.region [
 ⟨some 4, .mov (.const (.int .i64 0)), none⟩])
 (.seq (.seq (.region [
 ⟨some 6, .mov (.tmp 1), none⟩,
 ⟨some 7, .bin .add (.tmp 6) (.const (.int .i64 1)), none⟩,
 ⟨some 5, .mov (.tmp 7), none⟩])
 (.block 0
  (.loop 2096944
   (.seq (.seq (.region [
   ⟨some 8, .mov (.tmp 5), none⟩,
   ⟨some 9, .mov (.tmp 0), none⟩,
   ⟨some 10, .len (.tmp 9), none⟩,
   ⟨some 11, .bin .lss (.tmp 8) (.tmp 10), none⟩])
   (.cond (.tmp 11)
    .skip
    (.exit 0)))
   (.seq (.block 1
    (.seq (.region [
    ⟨some 14, .mov (.tmp 0), none⟩,
    ⟨some 15, .mov (.tmp 5), none⟩,
    ⟨some 16, .ixs 5 (.tmp 14) (.tmp 15), none⟩,
    ⟨some 17, .fad 0 (.tmp 16), none⟩,
    ⟨some 18, .ld (.tmp 17), none⟩,
    ⟨some 19, .bin .eql (.tmp 18) (.const (.int .i64 8)), none⟩])
    (.cond (.tmp 19)
     (.seq (.region [
     ⟨some 20, .mov (.tmp 5), none⟩,
     ⟨some 4, .mov (.tmp 20), none⟩])
     .ret)
     .skip)))
   (.region [
   ⟨some 12, .mov (.tmp 5), none⟩,
   ⟨some 13, .bin .add (.tmp 12) (.const (.int .i64 1)), none⟩,
   ⟨some 5, .mov (.tmp 13), none⟩]))))))
 (.seq (.region [
 ⟨some 21, .mov (.tmp 0), none⟩,
 ⟨some 22, .len (.tmp 21), none⟩,
 ⟨some 4, .mov (.tmp 22), none⟩])
 .ret))),
 [.tmp 4]⟩
theorem low_program_end : lowFn Tryd.prog movers 27 = some ⟨ir_program_end.n, strip ir_program_end.body, ir_program_end.res⟩ := by kernel_rfl

/-- slices.Backward(()strongtx/api.Instr,strongtx/api.Instr) -/
def ir_slices_Backward_Instr : IFn := ⟨4,
 (.seq (.region [
 ⟨some 1, .box 24 (.tmp 0), none⟩,
 ⟨some 2, .mov (.const (.nilFunc)), none⟩])
 (.seq (.region [
 ⟨some 3, .mkf 48 [(.tmp 1)], none⟩,
 ⟨some 2, .mov (.tmp 3), none⟩])
 .ret)),
 [.tmp 2]⟩
theorem low_slices_Backward_Instr : lowFn Tryd.prog movers 28 = some ⟨ir_slices_Backward_Instr.n, strip ir_slices_Backward_Instr.body, ir_slices_Backward_Instr.res⟩ := by kernel_rfl

/-- strongtx/program.after -/
def ir_program_after : IFn := ⟨45,
 (.seq (.region [
 ⟨some 4, .mov (.const (.slice none 0 0)), none⟩])
 (.seq (.seq (.region [
 ⟨some 5, .mov (.tmp 0), none⟩,
 ⟨some 6, .mov (.tmp 1), none⟩,
 ⟨some 7, .ixs 5 (.tmp 5) (.tmp 6), none⟩,
 ⟨some 8, .fad 0 (.tmp 7), none⟩,
 ⟨some 9, .ld (.tmp 8), none⟩])
 (.block 0
  (.seq (.region [
  ⟨some 11, .bin .eql (.tmp 9) (.const (.int .i64 4)), none⟩,
  ⟨some 10, .mov (.tmp 11), none⟩])
  (.cond (.tmp 10)
   (.seq (.region [
   ⟨some 12, .mov (.tmp 1), none⟩,
   ⟨some 13, .bin .add (.tmp 12) (.const (.int .i64 1)), none⟩,
   ⟨some 14, .mov (.tmp 0), none⟩,
   ⟨some 15, .mov (.tmp 1), none⟩,
   ⟨some 16, .ixs 5 (.tmp 14) (.tmp 15), none⟩,
   ⟨some 17, .fad 4 (.tmp 16), none⟩,
   ⟨some 18, .ld (.tmp 17), none⟩,
   ⟨some 19, .bin .add (.tmp 13) (.tmp 18), none⟩,
   ⟨some 20, .blds 3 1 [(.int .i64 0)] [(0, 1, (.tmp 19))], none⟩,
   ⟨some 4, .mov (.tmp 20), none⟩])
   .ret)
   (.seq (.seq (.region [
   ⟨some 22, .bin .eql (.tmp 9) (.const (.int .i64 5)), none⟩,
   ⟨some 21, .mov (.tmp 22), none⟩])
   (.cond (.tmp 21)
    .skip
    (.region [
    ⟨some 23, .bin .eql (.tmp 9) (.const (.int .i64 6)), none⟩,
    ⟨some 21, .mov (.tmp 23), none⟩])))
   (.cond (.tmp 21)
    (.seq (.region [
    ⟨some 24, .mov (.tmp 1), none⟩,
    ⟨some 25, .bin .add (.tmp 24) (.const (.int .i64 1)), none⟩,
    ⟨some 26, .mov (.tmp 1), none⟩,
    ⟨some 27, .bin .add (.tmp 26) (.const (.int .i64 1)), none⟩,
    ⟨some 28, .mov (.tmp 0), none⟩,
    ⟨some 29, .mov (.tmp 1), none⟩,
    ⟨some 30, .ixs 5 (.tmp 28) (.tmp 29), none⟩,
    ⟨some 31, .fad 4 (.tmp 30), none⟩,
    ⟨some 32, .ld (.tmp 31), none⟩,
    ⟨some 33, .bin .add (.tmp 27) (.tmp 32), none⟩,
    ⟨some 34, .blds 3 2 [(.int .i64 0), (.int .i64 0)] [(0, 1, (.tmp 25)), (1, 1, (.tmp 33))], none⟩,
    ⟨some 4, .mov (.tmp 34), none⟩])
    .ret)
    (.seq (.region [
    ⟨some 36, .bin .eql (.tmp 9) (.const (.int .i64 9)), none⟩,
    ⟨some 35, .mov (.tmp 36), none⟩])
    (.cond (.tmp 35)
     (.seq (.region [
     ⟨some 37, .mov (.tmp 0), none⟩,
     ⟨some 38, .mov (.tmp 1), none⟩,
     ⟨some 39, .call 27 [(.tmp 37), (.tmp 38)], none⟩,
     ⟨some 40, .bin .add (.tmp 39) (.const (.int .i64 1)), none⟩,
     ⟨some 41, .blds 3 1 [(.int .i64 0)] [(0, 1, (.tmp 40))], none⟩,
     ⟨some 4, .mov (.tmp 41), none⟩])
     .ret)
     .skip))))))))
 (.seq (.region [
 ⟨some 42, .mov (.tmp 1), none⟩,
 ⟨some 43, .bin .add (.tmp 42) (.const (.int .i64 1)), none⟩,
 ⟨some 44, .blds 3 1 [(.int .i64 0)] [(0, 1, (.tmp 43))], none⟩,
 ⟨some 4, .mov (.tmp 44), none⟩])
 .ret))),
 [.tmp 4]⟩
theorem low_program_after : lowFn Tryd.prog movers 29 = some ⟨ir_program_after.n, strip ir_program_after.body, ir_program_after.res⟩ := by kernel_rfl

/-- strongtx/program.needs -/
def ir_program_needs : IFn := ⟨22,
 (.seq (.region [
 ⟨some 1, .box 31 (.tmp 0), none⟩,
 ⟨some 2, .new 68 (.agg #[.int .i64 0, .int .i64 0, .int .i64 0, .int .i64 0]), none⟩])
 (.seq (.seq (.region [
 ⟨some 3, .fad 0 (.tmp 1), none⟩,
 ⟨some 4, .ld (.tmp 3), none⟩])
 (.block 0
  (.seq (.region [
  ⟨some 6, .bin .eql (.tmp 4) (.const (.int .i64 10)), none⟩,
  ⟨some 5, .mov (.tmp 6), none⟩])
  (.cond (.tmp 5)
   (.seq (.region [
   ⟨some 7, .bld [(.int .i64 0), (.int .i64 0), (.int .i64 0), (.int .i64 0)] [(0, 1, (.const (.int .i64 1))), (1, 1, (.const (.int .i64 0))), (2, 1, (.const (.int .i64 0))), (3, 1, (.const (.int .i64 0)))], none⟩,
   ⟨none, .stN 4 (.tmp 2) (.tmp 7), none⟩])
   .ret)
   (.seq (.region [
   ⟨some 9, .bin .eql (.tmp 4) (.const (.int .i64 11)), none⟩,
   ⟨some 8, .mov (.tmp 9), none⟩])
   (.cond (.tmp 8)
    (.seq (.region [
    ⟨some 10, .bld [(.int .i64 0), (.int .i64 0), (.int .i64 0), (.int .i64 0)] [(0, 1, (.const (.int .i64 0))), (1, 1, (.const (.int .i64 1))), (2, 1, (.const (.int .i64 0))), (3, 1, (.const (.int .i64 0)))], none⟩,
    ⟨none, .stN 4 (.tmp 2) (.tmp 10), none⟩])
    .ret)
    (.seq (.region [
    ⟨some 12, .bin .eql (.tmp 4) (.const (.int .i64 14)), none⟩,
    ⟨some 11, .mov (.tmp 12), none⟩])
    (.cond (.tmp 11)
     (.seq (.region [
     ⟨some 13, .fad 4 (.tmp 1), none⟩,
     ⟨some 14, .ld (.tmp 13), none⟩,
     ⟨some 15, .bin .shl (.const (.int .i64 1)) (.tmp 14), none⟩,
     ⟨some 16, .bin .add (.tmp 15) (.const (.int .i64 1)), none⟩,
     ⟨some 17, .bld [(.int .i64 0), (.int .i64 0), (.int .i64 0), (.int .i64 0)] [(0, 1, (.const (.int .i64 0))), (1, 1, (.tmp 16)), (2, 1, (.const (.int .i64 1))), (3, 1, (.const (.int .i64 0)))], none⟩,
     ⟨none, .stN 4 (.tmp 2) (.tmp 17), none⟩])
     .ret)
     (.seq (.region [
     ⟨some 19, .bin .eql (.tmp 4) (.const (.int .i64 15)), none⟩,
     ⟨some 18, .mov (.tmp 19), none⟩])
     (.cond (.tmp 18)
      (.seq (.region [
      ⟨some 20, .bld [(.int .i64 0), (.int .i64 0), (.int .i64 0), (.int .i64 0)] [(0, 1, (.const (.int .i64 1))), (1, 1, (.const (.int .i64 1))), (2, 1, (.const (.int .i64 0))), (3, 1, (.const (.int .i64 1)))], none⟩,
      ⟨none, .stN 4 (.tmp 2) (.tmp 20), none⟩])
      .ret)
      .skip))))))))))
 (.seq (.region [
 ⟨some 21, .bld [(.int .i64 0), (.int .i64 0), (.int .i64 0), (.int .i64 0)] [], none⟩,
 ⟨none, .stN 4 (.tmp 2) (.tmp 21), none⟩])
 .ret))),
 [.cellN 2 4]⟩
theorem low_program_needs : lowFn Tryd.prog movers 30 = some ⟨ir_program_needs.n, strip ir_program_needs.body, ir_program_needs.res⟩ := by kernel_rfl

/-- strongtx/strongtxlaw07.example -/
def ir_law07_example : IFn := ⟨3,
 (.seq (.region [
 ⟨some 0, .new 43 (.agg #[.int .i64 0, .int .i64 0, .int .i64 0, .int .i64 0, .int .i64 0, .int .i64 0, .int .i64 0, .int .i64 0, .int .i64 0, .int .i64 0, .int .i64 0, .int .i64 0, .bool false]), none⟩])
 (.seq (.region [
 ⟨some 1, .bld [(.int .i64 0), (.int .i64 0), (.int .i64 0), (.int .i64 0)] [(0, 1, (.const (.int .i64 2))), (1, 1, (.const (.int .i64 1))), (2, 1, (.const (.int .i64 0))), (3, 1, (.const (.int .i64 0)))], none⟩,
 ⟨some 2, .bld [(.int .i64 0), (.int .i64 0), (.int .i64 0), (.int .i64 0), (.int .i64 0), (.int .i64 0), (.int .i64 0), (.int .i64 0), (.int .i64 0), (.int .i64 0), (.int .i64 0), (.int .i64 0), (.bool false)] [(0, 1, (.const (.int .i64 16))), (1, 1, (.const (.int .i64 3))), (2, 1, (.const (.int .i64 4))), (3, 4, (.tmp 1)), (7, 1, (.const (.int .i64 1))), (8, 1, (.const (.int .i64 1)))], none⟩,
 ⟨none, .stN 13 (.tmp 0) (.tmp 2), none⟩])
 .ret)),
 [.cellN 0 13]⟩
theorem low_law07_example : lowFn Tryd.prog movers 31 = some ⟨ir_law07_example.n, strip ir_law07_example.body, ir_law07_example.res⟩ := by kernel_rfl

/-- strongtx/layout.Check -/
def ir_layout_Check : IFn := ⟨70,
 (.seq (.region [
 ⟨some 1, .box 43 (.tmp 0), none⟩,
 ⟨some 2, .mov (.const (.int .i64 0)), none⟩])
 (.seq (.region [
 ⟨some 7, .ldN 13 (.tmp 1), none⟩,
 ⟨some 8, .call 49 [(.tmp 7)], none⟩,
 ⟨some 6, .mov (.tmp 8), none⟩,
 ⟨some 9, .ext (.tmp 6) 0, none⟩,
 ⟨some 10, .ext (.tmp 6) 1, none⟩,
 ⟨some 11, .ext (.tmp 6) 2, none⟩,
 ⟨some 3, .mov (.tmp 9), none⟩,
 ⟨some 4, .mov (.tmp 10), none⟩,
 ⟨some 5, .mov (.tmp 11), none⟩])
 (.seq (.block 0
  (.seq (.region [
  ⟨some 13, .fad 0 (.tmp 1), none⟩,
  ⟨some 14, .ld (.tmp 13), none⟩,
  ⟨some 15, .call 38 [(.tmp 14), (.const (.int .i64 1)), (.const (.int .i64 64))], none⟩,
  ⟨some 16, .not (.tmp 15), none⟩,
  ⟨some 17, .mov (.tmp 16), none⟩,
  ⟨some 18, .fad 1 (.tmp 1), some (17, false)⟩,
  ⟨some 19, .ld (.tmp 18), some (17, false)⟩,
  ⟨some 20, .call 38 [(.tmp 19), (.const (.int .i64 1)), (.const (.int .i64 64))], some (17, false)⟩,
  ⟨some 21, .not (.tmp 20), some (17, false)⟩,
  ⟨some 22, .pick (.tmp 17) (.const (.bool true)) (.tmp 21), none⟩,
  ⟨some 12, .mov (.tmp 22), none⟩])
  (.cond (.tmp 12)
   (.seq (.region [
   ⟨some 2, .mov (.const (.int .i64 50)), none⟩])
   .ret)
   (.seq (.region [
   ⟨some 24, .mov (.tmp 5), none⟩,
   ⟨some 25, .not (.tmp 24), none⟩,
   ⟨some 26, .mov (.tmp 25), none⟩,
   ⟨some 27, .fad 2 (.tmp 1), some (26, false)⟩,
   ⟨some 28, .ld (.tmp 27), some (26, false)⟩,
   ⟨some 29, .fad 0 (.tmp 1), some (26, false)⟩,
   ⟨some 30, .ld (.tmp 29), some (26, false)⟩,
   ⟨some 31, .call 38 [(.tmp 28), (.const (.int .i64 0)), (.tmp 30)], some (26, false)⟩,
   ⟨some 32, .not (.tmp 31), some (26, false)⟩,
   ⟨some 33, .pick (.tmp 26) (.const (.bool true)) (.tmp 32), none⟩,
   ⟨some 34, .mov (.tmp 33), none⟩,
   ⟨some 35, .mov (.tmp 4), some (34, false)⟩,
   ⟨some 36, .fad 0 (.tmp 1), some (34, false)⟩,
   ⟨some 37, .ld (.tmp 36), some (34, false)⟩,
   ⟨some 38, .fad 2 (.tmp 1), some (34, false)⟩,
   ⟨some 39, .ld (.tmp 38), some (34, false)⟩,
   ⟨some 40, .bin .sub (.tmp 37) (.tmp 39), some (34, false)⟩,
   ⟨some 41, .bin .gtr (.tmp 35) (.tmp 40), some (34, false)⟩,
   ⟨some 42, .pick (.tmp 34) (.const (.bool true)) (.tmp 41), none⟩,
   ⟨some 23, .mov (.tmp 42), none⟩])
   (.cond (.tmp 23)
    (.seq (.region [
    ⟨some 2, .mov (.const (.int .i64 51)), none⟩])
    .ret)
    (.seq (.region [
    ⟨some 44, .fad 7 (.tmp 1), none⟩,
    ⟨some 45, .ld (.tmp 44), none⟩,
    ⟨some 46, .call 38 [(.tmp 45), (.const (.int .i64 1)), (.const (.int .i64 32))], none⟩,
    ⟨some 47, .not (.tmp 46), none⟩,
    ⟨some 48, .mov (.tmp 47), none⟩,
    ⟨some 49, .fad 8 (.tmp 1), some (48, false)⟩,
    ⟨some 50, .ld (.tmp 49), some (48, false)⟩,
    ⟨some 51, .call 38 [(.tmp 50), (.const (.int .i64 1)), (.const (.int .i64 32))], some (48, false)⟩,
    ⟨some 52, .not (.tmp 51), some (48, false)⟩,
    ⟨some 53, .pick (.tmp 48) (.const (.bool true)) (.tmp 52), none⟩,
    ⟨some 43, .mov (.tmp 53), none⟩])
    (.cond (.tmp 43)
     (.seq (.region [
     ⟨some 2, .mov (.const (.int .i64 52)), none⟩])
     .ret)
     (.seq (.region [
     ⟨some 55, .fad 9 (.tmp 1), none⟩,
     ⟨some 56, .ld (.tmp 55), none⟩,
     ⟨some 57, .call 38 [(.tmp 56), (.const (.int .i64 0)), (.const (.int .i64 8))], none⟩,
     ⟨some 58, .not (.tmp 57), none⟩,
     ⟨some 59, .mov (.tmp 58), none⟩,
     ⟨some 60, .fad 10 (.tmp 1), some (59, false)⟩,
     ⟨some 61, .ld (.tmp 60), some (59, false)⟩,
     ⟨some 62, .call 38 [(.tmp 61), (.const (.int .i64 0)), (.const (.int .i64 8))], some (59, false)⟩,
     ⟨some 63, .not (.tmp 62), some (59, false)⟩,
     ⟨some 64, .pick (.tmp 59) (.const (.bool true)) (.tmp 63), none⟩,
     ⟨some 54, .mov (.tmp 64), none⟩])
     (.cond (.tmp 54)
      (.seq (.region [
      ⟨some 2, .mov (.const (.int .i64 52)), none⟩])
      .ret)
      (.seq (.region [
      ⟨some 66, .fad 11 (.tmp 1), none⟩,
      ⟨some 67, .ld (.tmp 66), none⟩,
      ⟨some 68, .call 38 [(.tmp 67), (.const (.int .i64 0)), (.const (.int .i64 1099511627776))], none⟩,
      ⟨some 69, .not (.tmp 68), none⟩,
      ⟨some 65, .mov (.tmp 69), none⟩])
      (.cond (.tmp 65)
       (.seq (.region [
       ⟨some 2, .mov (.const (.int .i64 53)), none⟩])
       .ret)
       .skip)))))))))))
 (.seq (.region [
 ⟨some 2, .mov (.const (.int .i64 0)), none⟩])
 .ret)))),
 [.tmp 2]⟩
theorem low_layout_Check : lowFn Tryd.prog movers 32 = some ⟨ir_layout_Check.n, strip ir_layout_Check.body, ir_layout_Check.res⟩ := by kernel_rfl

/-- strongtx/layout.Blocks -/
def ir_layout_Blocks : IFn := ⟨16,
 (.seq (.region [
 ⟨some 1, .box 43 (.tmp 0), none⟩,
 ⟨some 2, .mov (.const (.int .i64 0)), none⟩])
 (.seq (.seq (.region [
 ⟨some 6, .ldN 13 (.tmp 1), none⟩,
 ⟨some 7, .call 32 [(.tmp 6)], none⟩,
 ⟨some 8, .bin .neq (.tmp 7) (.const (.int .i64 0)), none⟩])
 (.cond (.tmp 8)
  (.seq (.region [
  ⟨some 2, .mov (.const (.int .i64 0)), none⟩])
  .ret)
  .skip))
 (.seq (.region [
 ⟨some 10, .ldN 13 (.tmp 1), none⟩,
 ⟨some 11, .call 49 [(.tmp 10)], none⟩,
 ⟨some 9, .mov (.tmp 11), none⟩,
 ⟨some 12, .ext (.tmp 9) 0, none⟩,
 ⟨some 13, .ext (.tmp 9) 1, none⟩,
 ⟨some 14, .ext (.tmp 9) 2, none⟩,
 ⟨some 3, .mov (.tmp 12), none⟩,
 ⟨some 4, .mov (.tmp 13), none⟩,
 ⟨some 5, .mov (.tmp 14), none⟩])
 (.seq (.region [
 ⟨some 15, .mov (.tmp 3), none⟩,
 ⟨some 2, .mov (.tmp 15), none⟩])
 .ret)))),
 [.tmp 2]⟩
theorem low_layout_Blocks : lowFn Tryd.prog movers 33 = some ⟨ir_layout_Blocks.n, strip ir_layout_Blocks.body, ir_layout_Blocks.res⟩ := by kernel_rfl

/-- strongtx/layout.First -/
def ir_layout_First : IFn := ⟨14,
 (.seq (.region [
 ⟨some 2, .box 43 (.tmp 0), none⟩,
 ⟨some 4, .mov (.const (.int .i64 0)), none⟩])
 (.seq (.region [
 ⟨some 8, .ldN 13 (.tmp 2), none⟩,
 ⟨some 9, .mov (.tmp 1), none⟩,
 ⟨some 10, .call 50 [(.tmp 8), (.tmp 9)], none⟩,
 ⟨some 7, .mov (.tmp 10), none⟩,
 ⟨some 11, .ext (.tmp 7) 0, none⟩,
 ⟨some 12, .ext (.tmp 7) 1, none⟩,
 ⟨some 5, .mov (.tmp 11), none⟩,
 ⟨some 6, .mov (.tmp 12), none⟩])
 (.seq (.region [
 ⟨some 13, .mov (.tmp 6), none⟩,
 ⟨some 4, .mov (.tmp 13), none⟩])
 .ret))),
 [.tmp 4]⟩
theorem low_layout_First : lowFn Tryd.prog movers 34 = some ⟨ir_layout_First.n, strip ir_layout_First.body, ir_layout_First.res⟩ := by kernel_rfl

/-- strongtx/layout.Class -/
def ir_layout_Class : IFn := ⟨14,
 (.seq (.region [
 ⟨some 2, .box 43 (.tmp 0), none⟩,
 ⟨some 4, .mov (.const (.int .i64 0)), none⟩])
 (.seq (.region [
 ⟨some 8, .ldN 13 (.tmp 2), none⟩,
 ⟨some 9, .mov (.tmp 1), none⟩,
 ⟨some 10, .call 50 [(.tmp 8), (.tmp 9)], none⟩,
 ⟨some 7, .mov (.tmp 10), none⟩,
 ⟨some 11, .ext (.tmp 7) 0, none⟩,
 ⟨some 12, .ext (.tmp 7) 1, none⟩,
 ⟨some 5, .mov (.tmp 11), none⟩,
 ⟨some 6, .mov (.tmp 12), none⟩])
 (.seq (.region [
 ⟨some 13, .mov (.tmp 5), none⟩,
 ⟨some 4, .mov (.tmp 13), none⟩])
 .ret))),
 [.tmp 4]⟩
theorem low_layout_Class : lowFn Tryd.prog movers 35 = some ⟨ir_layout_Class.n, strip ir_layout_Class.body, ir_layout_Class.res⟩ := by kernel_rfl

/-- strongtx/layout.Find -/
def ir_layout_Find : IFn := ⟨19,
 (.seq (.region [
 ⟨some 2, .box 43 (.tmp 0), none⟩,
 ⟨some 4, .mov (.const (.int .i64 0)), none⟩])
 (.seq (.seq (.region [
 ⟨some 6, .ldN 13 (.tmp 2), none⟩,
 ⟨some 7, .call 33 [(.tmp 6)], none⟩,
 ⟨some 8, .mov (.const (.int .i64 0)), none⟩])
 (.block 0
  (.loop 524080
   (.seq (.region [
   ⟨some 9, .bin .lss (.tmp 8) (.tmp 7), none⟩])
   (.seq (.cond (.tmp 9)
    .skip
    (.exit 0))
   (.seq (.block 1
    (.seq (.region [
    ⟨some 10, .mov (.tmp 8), none⟩,
    ⟨some 5, .mov (.tmp 10), none⟩])
    (.seq (.region [
    ⟨some 11, .ldN 13 (.tmp 2), none⟩,
    ⟨some 12, .mov (.tmp 5), none⟩,
    ⟨some 13, .call 34 [(.tmp 11), (.tmp 12)], none⟩,
    ⟨some 14, .conv .u64 (.tmp 13), none⟩,
    ⟨some 15, .mov (.tmp 1), none⟩,
    ⟨some 16, .bin .eql (.tmp 14) (.tmp 15), none⟩])
    (.cond (.tmp 16)
     (.seq (.region [
     ⟨some 17, .mov (.tmp 5), none⟩,
     ⟨some 4, .mov (.tmp 17), none⟩])
     .ret)
     .skip))))
   (.region [
   ⟨some 18, .bin .add (.tmp 8) (.const (.int .i64 1)), none⟩,
   ⟨some 8, .mov (.tmp 18), none⟩])))))))
 (.seq (.region [
 ⟨some 4, .mov (.const (.int .i64 (-1))), none⟩])
 .ret))),
 [.tmp 4]⟩
theorem low_layout_Find : lowFn Tryd.prog movers 36 = some ⟨ir_layout_Find.n, strip ir_layout_Find.body, ir_layout_Find.res⟩ := by kernel_rfl

/-- strongtx/layout.Orec -/
def ir_layout_Orec : IFn := ⟨25,
 (.seq (.region [
 ⟨some 2, .box 43 (.tmp 0), none⟩,
 ⟨some 4, .mov (.const (.int .i64 0)), none⟩])
 (.seq (.seq (.draw (.f ⟨some 5, .ldN 13 (.tmp 2), none⟩
 (.f ⟨some 6, .call 32 [(.tmp 5)], none⟩
 (.f ⟨some 7, .bin .neq (.tmp 6) (.const (.int .i64 0)), none⟩
 (.f ⟨some 8, .mov (.tmp 7), none⟩
 (.f ⟨some 9, .mov (.tmp 1), some (8, false)⟩
 (.f ⟨some 10, .bin .lss (.tmp 9) (.const (.int .i64 0)), some (8, false)⟩
 (.f ⟨some 11, .pick (.tmp 8) (.const (.bool true)) (.tmp 10), none⟩
 (.f ⟨some 12, .mov (.tmp 11), none⟩
 (.f ⟨some 13, .mov (.tmp 1), some (12, false)⟩
 (.f ⟨some 14, .fad 0 (.tmp 2), some (12, false)⟩
 (.f ⟨some 15, .ld (.tmp 14), some (12, false)⟩
 (.f ⟨some 16, .ldN 13 (.tmp 2), some (12, false)⟩
 (.f ⟨some 17, .call 33 [(.tmp 16)], some (12, false)⟩
 (.f ⟨some 18, .bin .add (.tmp 15) (.tmp 17), some (12, false)⟩
 (.f ⟨some 19, .bin .geq (.tmp 13) (.tmp 18), some (12, false)⟩
 (.f ⟨some 20, .pick (.tmp 12) (.const (.bool true)) (.tmp 19), none⟩
 .done)))))))))))))))))
 (.cond (.tmp 20)
  (.seq (.region [
  ⟨some 4, .mov (.const (.int .i64 (-1))), none⟩])
  .ret)
  .skip))
 (.seq (.region [
 ⟨some 21, .mov (.tmp 1), none⟩,
 ⟨some 22, .fad 1 (.tmp 2), none⟩,
 ⟨some 23, .ld (.tmp 22), none⟩,
 ⟨some 24, .bin .rem (.tmp 21) (.tmp 23), none⟩,
 ⟨some 4, .mov (.tmp 24), none⟩])
 .ret))),
 [.tmp 4]⟩
theorem low_layout_Orec : lowFn Tryd.prog movers 37 = some ⟨ir_layout_Orec.n, strip ir_layout_Orec.body, ir_layout_Orec.res⟩ := by kernel_rfl

/-- strongtx/layout.within -/
def ir_layout_within : IFn := ⟨15,
 (.seq (.region [
 ⟨some 6, .mov (.const (.bool false)), none⟩])
 (.seq (.region [
 ⟨some 7, .mov (.tmp 0), none⟩,
 ⟨some 8, .mov (.tmp 1), none⟩,
 ⟨some 9, .bin .geq (.tmp 7) (.tmp 8), none⟩,
 ⟨some 10, .mov (.tmp 9), none⟩,
 ⟨some 11, .mov (.tmp 0), some (10, true)⟩,
 ⟨some 12, .mov (.tmp 2), some (10, true)⟩,
 ⟨some 13, .bin .leq (.tmp 11) (.tmp 12), some (10, true)⟩,
 ⟨some 14, .pick (.tmp 10) (.tmp 13) (.const (.bool false)), none⟩,
 ⟨some 6, .mov (.tmp 14), none⟩])
 .ret)),
 [.tmp 6]⟩
theorem low_layout_within : lowFn Tryd.prog movers 38 = some ⟨ir_layout_within.n, strip ir_layout_within.body, ir_layout_within.res⟩ := by kernel_rfl

/-- strongtx/strongtxref07.Check -/
def ir_ref07_Check : IFn := ⟨85,
 (.seq (.region [
 ⟨some 1, .box 43 (.tmp 0), none⟩,
 ⟨some 2, .mov (.const (.int .i64 0)), none⟩])
 (.seq (.seq (.region [
 ⟨some 6, .fad 0 (.tmp 1), none⟩,
 ⟨some 7, .ld (.tmp 6), none⟩,
 ⟨some 8, .call 51 [(.tmp 7), (.const (.int .i64 1)), (.const (.int .i64 64))], none⟩,
 ⟨some 9, .not (.tmp 8), none⟩,
 ⟨some 10, .mov (.tmp 9), none⟩,
 ⟨some 11, .fad 1 (.tmp 1), some (10, false)⟩,
 ⟨some 12, .ld (.tmp 11), some (10, false)⟩,
 ⟨some 13, .call 51 [(.tmp 12), (.const (.int .i64 1)), (.const (.int .i64 64))], some (10, false)⟩,
 ⟨some 14, .not (.tmp 13), some (10, false)⟩,
 ⟨some 15, .pick (.tmp 10) (.const (.bool true)) (.tmp 14), none⟩])
 (.cond (.tmp 15)
  (.seq (.region [
  ⟨some 2, .mov (.const (.int .i64 50)), none⟩])
  .ret)
  .skip))
 (.seq (.region [
 ⟨some 3, .mov (.const (.int .i64 0)), none⟩,
 ⟨some 4, .mov (.const (.int .i64 0)), none⟩])
 (.seq (.seq (.region [
 ⟨some 5, .mov (.const (.int .i64 0)), none⟩])
 (.block 0
  (.loop 1099511562300
   (.seq (.seq (.region [
   ⟨some 16, .mov (.tmp 5), none⟩,
   ⟨some 17, .bin .lss (.tmp 16) (.const (.int .i64 4)), none⟩])
   (.cond (.tmp 17)
    .skip
    (.exit 0)))
   (.seq (.block 1
    (.seq (.seq (.region [
    ⟨some 20, .mov (.tmp 5), none⟩,
    ⟨some 21, .fad 3 (.tmp 1), none⟩,
    ⟨some 22, .ixa 4 1 (.tmp 21) (.tmp 20), none⟩,
    ⟨some 23, .ld (.tmp 22), none⟩,
    ⟨some 24, .call 51 [(.tmp 23), (.const (.int .i64 0)), (.const (.int .i64 64))], none⟩,
    ⟨some 25, .not (.tmp 24), none⟩])
    (.cond (.tmp 25)
     (.seq (.region [
     ⟨some 2, .mov (.const (.int .i64 51)), none⟩])
     .ret)
     .skip))
    (.seq (.region [
    ⟨some 26, .mov (.tmp 3), none⟩,
    ⟨some 27, .mov (.tmp 5), none⟩,
    ⟨some 28, .fad 3 (.tmp 1), none⟩,
    ⟨some 29, .ixa 4 1 (.tmp 28) (.tmp 27), none⟩,
    ⟨some 30, .ld (.tmp 29), none⟩,
    ⟨some 31, .bin .add (.tmp 26) (.tmp 30), none⟩,
    ⟨some 3, .mov (.tmp 31), none⟩])
    (.region [
    ⟨some 32, .mov (.tmp 4), none⟩,
    ⟨some 33, .mov (.tmp 5), none⟩,
    ⟨some 34, .fad 3 (.tmp 1), none⟩,
    ⟨some 35, .ixa 4 1 (.tmp 34) (.tmp 33), none⟩,
    ⟨some 36, .ld (.tmp 35), none⟩,
    ⟨some 37, .mov (.tmp 5), none⟩,
    ⟨some 38, .bin .shl (.tmp 36) (.tmp 37), none⟩,
    ⟨some 39, .bin .add (.tmp 32) (.tmp 38), none⟩,
    ⟨some 4, .mov (.tmp 39), none⟩]))))
   (.region [
   ⟨some 18, .mov (.tmp 5), none⟩,
   ⟨some 19, .bin .add (.tmp 18) (.const (.int .i64 1)), none⟩,
   ⟨some 5, .mov (.tmp 19), none⟩]))))))
 (.seq (.seq (.region [
 ⟨some 40, .mov (.tmp 3), none⟩,
 ⟨some 41, .bin .gtr (.tmp 40) (.const (.int .i64 64)), none⟩,
 ⟨some 42, .mov (.tmp 41), none⟩,
 ⟨some 43, .fad 2 (.tmp 1), some (42, false)⟩,
 ⟨some 44, .ld (.tmp 43), some (42, false)⟩,
 ⟨some 45, .fad 0 (.tmp 1), some (42, false)⟩,
 ⟨some 46, .ld (.tmp 45), some (42, false)⟩,
 ⟨some 47, .call 51 [(.tmp 44), (.const (.int .i64 0)), (.tmp 46)], some (42, false)⟩,
 ⟨some 48, .not (.tmp 47), some (42, false)⟩,
 ⟨some 49, .pick (.tmp 42) (.const (.bool true)) (.tmp 48), none⟩,
 ⟨some 50, .mov (.tmp 49), none⟩,
 ⟨some 51, .fad 2 (.tmp 1), some (50, false)⟩,
 ⟨some 52, .ld (.tmp 51), some (50, false)⟩,
 ⟨some 53, .mov (.tmp 4), some (50, false)⟩,
 ⟨some 54, .bin .add (.tmp 52) (.tmp 53), some (50, false)⟩,
 ⟨some 55, .fad 0 (.tmp 1), some (50, false)⟩,
 ⟨some 56, .ld (.tmp 55), some (50, false)⟩,
 ⟨some 57, .bin .gtr (.tmp 54) (.tmp 56), some (50, false)⟩,
 ⟨some 58, .pick (.tmp 50) (.const (.bool true)) (.tmp 57), none⟩])
 (.cond (.tmp 58)
  (.seq (.region [
  ⟨some 2, .mov (.const (.int .i64 51)), none⟩])
  .ret)
  .skip))
 (.seq (.seq (.region [
 ⟨some 59, .fad 7 (.tmp 1), none⟩,
 ⟨some 60, .ld (.tmp 59), none⟩,
 ⟨some 61, .call 51 [(.tmp 60), (.const (.int .i64 1)), (.const (.int .i64 32))], none⟩,
 ⟨some 62, .not (.tmp 61), none⟩,
 ⟨some 63, .mov (.tmp 62), none⟩,
 ⟨some 64, .fad 8 (.tmp 1), some (63, false)⟩,
 ⟨some 65, .ld (.tmp 64), some (63, false)⟩,
 ⟨some 66, .call 51 [(.tmp 65), (.const (.int .i64 1)), (.const (.int .i64 32))], some (63, false)⟩,
 ⟨some 67, .not (.tmp 66), some (63, false)⟩,
 ⟨some 68, .pick (.tmp 63) (.const (.bool true)) (.tmp 67), none⟩,
 ⟨some 69, .mov (.tmp 68), none⟩,
 ⟨some 70, .fad 9 (.tmp 1), some (69, false)⟩,
 ⟨some 71, .ld (.tmp 70), some (69, false)⟩,
 ⟨some 72, .call 51 [(.tmp 71), (.const (.int .i64 0)), (.const (.int .i64 8))], some (69, false)⟩,
 ⟨some 73, .not (.tmp 72), some (69, false)⟩,
 ⟨some 74, .pick (.tmp 69) (.const (.bool true)) (.tmp 73), none⟩,
 ⟨some 75, .mov (.tmp 74), none⟩,
 ⟨some 76, .fad 10 (.tmp 1), some (75, false)⟩,
 ⟨some 77, .ld (.tmp 76), some (75, false)⟩,
 ⟨some 78, .call 51 [(.tmp 77), (.const (.int .i64 0)), (.const (.int .i64 8))], some (75, false)⟩,
 ⟨some 79, .not (.tmp 78), some (75, false)⟩,
 ⟨some 80, .pick (.tmp 75) (.const (.bool true)) (.tmp 79), none⟩])
 (.cond (.tmp 80)
  (.seq (.region [
  ⟨some 2, .mov (.const (.int .i64 52)), none⟩])
  .ret)
  .skip))
 (.seq (.seq (.region [
 ⟨some 81, .fad 11 (.tmp 1), none⟩,
 ⟨some 82, .ld (.tmp 81), none⟩,
 ⟨some 83, .call 51 [(.tmp 82), (.const (.int .i64 0)), (.const (.int .i64 1099511627776))], none⟩,
 ⟨some 84, .not (.tmp 83), none⟩])
 (.cond (.tmp 84)
  (.seq (.region [
  ⟨some 2, .mov (.const (.int .i64 53)), none⟩])
  .ret)
  .skip))
 (.seq (.region [
 ⟨some 2, .mov (.const (.int .i64 0)), none⟩])
 .ret)))))))),
 [.tmp 2]⟩
theorem low_ref07_Check : lowFn Tryd.prog movers 39 = some ⟨ir_ref07_Check.n, strip ir_ref07_Check.body, ir_ref07_Check.res⟩ := by kernel_rfl

/-- strongtx/strongtxref07.Blocks -/
def ir_ref07_Blocks : IFn := ⟨21,
 (.seq (.region [
 ⟨some 1, .box 43 (.tmp 0), none⟩,
 ⟨some 2, .mov (.const (.int .i64 0)), none⟩])
 (.seq (.seq (.region [
 ⟨some 3, .ldN 13 (.tmp 1), none⟩,
 ⟨some 4, .call 39 [(.tmp 3)], none⟩,
 ⟨some 5, .bin .neq (.tmp 4) (.const (.int .i64 0)), none⟩])
 (.cond (.tmp 5)
  (.seq (.region [
  ⟨some 2, .mov (.const (.int .i64 0)), none⟩])
  .ret)
  .skip))
 (.seq (.region [
 ⟨some 6, .fad 3 (.tmp 1), none⟩,
 ⟨some 7, .ixa 4 1 (.tmp 6) (.const (.int .i64 0)), none⟩,
 ⟨some 8, .ld (.tmp 7), none⟩,
 ⟨some 9, .fad 3 (.tmp 1), none⟩,
 ⟨some 10, .ixa 4 1 (.tmp 9) (.const (.int .i64 1)), none⟩,
 ⟨some 11, .ld (.tmp 10), none⟩,
 ⟨some 12, .bin .add (.tmp 8) (.tmp 11), none⟩,
 ⟨some 13, .fad 3 (.tmp 1), none⟩,
 ⟨some 14, .ixa 4 1 (.tmp 13) (.const (.int .i64 2)), none⟩,
 ⟨some 15, .ld (.tmp 14), none⟩,
 ⟨some 16, .bin .add (.tmp 12) (.tmp 15), none⟩,
 ⟨some 17, .fad 3 (.tmp 1), none⟩,
 ⟨some 18, .ixa 4 1 (.tmp 17) (.const (.int .i64 3)), none⟩,
 ⟨some 19, .ld (.tmp 18), none⟩,
 ⟨some 20, .bin .add (.tmp 16) (.tmp 19), none⟩,
 ⟨some 2, .mov (.tmp 20), none⟩])
 .ret))),
 [.tmp 2]⟩
theorem low_ref07_Blocks : lowFn Tryd.prog movers 40 = some ⟨ir_ref07_Blocks.n, strip ir_ref07_Blocks.body, ir_ref07_Blocks.res⟩ := by kernel_rfl

/-- strongtx/strongtxref03.Check -/
def ir_ref03_Check : IFn := ⟨64,
 (.seq (.region [
 ⟨some 1, .box 31 (.tmp 0), none⟩,
 ⟨some 2, .mov (.const (.int .i64 0)), none⟩])
 (.seq (.seq (.region [
 ⟨some 6, .fad 0 (.tmp 1), none⟩,
 ⟨some 7, .ld (.tmp 6), none⟩,
 ⟨some 8, .bin .lss (.tmp 7) (.const (.int .i64 0)), none⟩,
 ⟨some 9, .mov (.tmp 8), none⟩,
 ⟨some 10, .fad 0 (.tmp 1), some (9, false)⟩,
 ⟨some 11, .ld (.tmp 10), some (9, false)⟩,
 ⟨some 12, .bin .geq (.tmp 11) (.const (.int .i64 18)), some (9, false)⟩,
 ⟨some 13, .pick (.tmp 9) (.const (.bool true)) (.tmp 12), none⟩])
 (.cond (.tmp 13)
  (.seq (.region [
  ⟨some 2, .mov (.const (.int .i64 10)), none⟩])
  .ret)
  .skip))
 (.seq (.region [
 ⟨some 14, .fad 0 (.tmp 1), none⟩,
 ⟨some 15, .ld (.tmp 14), none⟩,
 ⟨some 16, .call 52 [(.tmp 15)], none⟩,
 ⟨some 3, .mov (.tmp 16), none⟩])
 (.seq (.seq (.draw (.f ⟨some 17, .fad 1 (.tmp 1), none⟩
 (.f ⟨some 18, .ld (.tmp 17), none⟩
 (.f ⟨some 19, .mov (.tmp 3), none⟩
 (.f ⟨some 20, .call 54 [(.tmp 19), (.const (.int .u8 114))], none⟩
 (.f ⟨some 21, .call 53 [(.tmp 18), (.tmp 20)], none⟩
 (.f ⟨some 22, .not (.tmp 21), none⟩
 (.f ⟨some 23, .mov (.tmp 22), none⟩
 (.f ⟨some 24, .fad 2 (.tmp 1), some (23, false)⟩
 (.f ⟨some 25, .ld (.tmp 24), some (23, false)⟩
 (.f ⟨some 26, .mov (.tmp 3), some (23, false)⟩
 (.f ⟨some 27, .call 54 [(.tmp 26), (.const (.int .u8 115))], some (23, false)⟩
 (.f ⟨some 28, .call 53 [(.tmp 25), (.tmp 27)], some (23, false)⟩
 (.f ⟨some 29, .not (.tmp 28), some (23, false)⟩
 (.f ⟨some 30, .pick (.tmp 23) (.const (.bool true)) (.tmp 29), none⟩
 (.f ⟨some 31, .mov (.tmp 30), none⟩
 (.f ⟨some 32, .fad 3 (.tmp 1), some (31, false)⟩
 (.f ⟨some 33, .ld (.tmp 32), some (31, false)⟩
 (.f ⟨some 34, .mov (.tmp 3), some (31, false)⟩
 (.f ⟨some 35, .call 54 [(.tmp 34), (.const (.int .u8 116))], some (31, false)⟩
 (.f ⟨some 36, .call 53 [(.tmp 33), (.tmp 35)], some (31, false)⟩
 (.f ⟨some 37, .not (.tmp 36), some (31, false)⟩
 (.f ⟨some 38, .pick (.tmp 31) (.const (.bool true)) (.tmp 37), none⟩
 .done)))))))))))))))))))))))
 (.cond (.tmp 38)
  (.seq (.region [
  ⟨some 2, .mov (.const (.int .i64 11)), none⟩])
  .ret)
  .skip))
 (.seq (.region [
 ⟨some 4, .mov (.const (.int .i64 0)), none⟩,
 ⟨some 5, .mov (.const (.int .i64 0)), none⟩])
 (.seq (.block 0
  (.seq (.region [
  ⟨some 40, .mov (.tmp 3), none⟩,
  ⟨some 41, .call 54 [(.tmp 40), (.const (.int .u8 105))], none⟩,
  ⟨some 39, .mov (.tmp 41), none⟩])
  (.cond (.tmp 39)
   (.seq (.region [
   ⟨some 2, .mov (.const (.int .i64 0)), none⟩])
   .ret)
   (.seq (.region [
   ⟨some 43, .mov (.tmp 3), none⟩,
   ⟨some 44, .call 54 [(.tmp 43), (.const (.int .u8 102))], none⟩,
   ⟨some 42, .mov (.tmp 44), none⟩])
   (.cond (.tmp 42)
    (.region [
    ⟨some 5, .mov (.const (.int .i64 21)), none⟩])
    (.seq (.region [
    ⟨some 46, .mov (.tmp 3), none⟩,
    ⟨some 47, .call 54 [(.tmp 46), (.const (.int .u8 106))], none⟩,
    ⟨some 45, .mov (.tmp 47), none⟩])
    (.cond (.tmp 45)
     (.region [
     ⟨some 5, .mov (.const (.int .i64 64)), none⟩])
     (.seq (.region [
     ⟨some 49, .mov (.tmp 3), none⟩,
     ⟨some 50, .call 54 [(.tmp 49), (.const (.int .u8 97))], none⟩,
     ⟨some 48, .mov (.tmp 50), none⟩])
     (.cond (.tmp 48)
      (.region [
      ⟨some 4, .mov (.const (.int .i64 1)), none⟩,
      ⟨some 5, .mov (.const (.int .i64 8)), none⟩])
      (.seq (.region [
      ⟨some 52, .mov (.tmp 3), none⟩,
      ⟨some 53, .call 54 [(.tmp 52), (.const (.int .u8 99))], none⟩,
      ⟨some 51, .mov (.tmp 53), none⟩])
      (.cond (.tmp 51)
       (.region [
       ⟨some 5, .mov (.const (.int .i64 3)), none⟩])
       .skip)))))))))))
 (.seq (.seq (.region [
 ⟨some 54, .fad 4 (.tmp 1), none⟩,
 ⟨some 55, .ld (.tmp 54), none⟩,
 ⟨some 56, .mov (.tmp 4), none⟩,
 ⟨some 57, .bin .lss (.tmp 55) (.tmp 56), none⟩,
 ⟨some 58, .mov (.tmp 57), none⟩,
 ⟨some 59, .fad 4 (.tmp 1), some (58, false)⟩,
 ⟨some 60, .ld (.tmp 59), some (58, false)⟩,
 ⟨some 61, .mov (.tmp 5), some (58, false)⟩,
 ⟨some 62, .bin .gtr (.tmp 60) (.tmp 61), some (58, false)⟩,
 ⟨some 63, .pick (.tmp 58) (.const (.bool true)) (.tmp 62), none⟩])
 (.cond (.tmp 63)
  (.seq (.region [
  ⟨some 2, .mov (.const (.int .i64 11)), none⟩])
  .ret)
  .skip))
 (.seq (.region [
 ⟨some 2, .mov (.const (.int .i64 0)), none⟩])
 .ret)))))))),
 [.tmp 2]⟩
theorem low_ref03_Check : lowFn Tryd.prog movers 41 = some ⟨ir_ref03_Check.n, strip ir_ref03_Check.body, ir_ref03_Check.res⟩ := by kernel_rfl

/-- strongtx/strongtxref03.Place -/
def ir_ref03_Place : IFn := ⟨21,
 (.seq (.region [
 ⟨some 1, .box 31 (.tmp 0), none⟩,
 ⟨some 2, .mov (.const (.int .i64 0)), none⟩])
 (.seq (.seq (.region [
 ⟨some 3, .ldN 5 (.tmp 1), none⟩,
 ⟨some 4, .call 41 [(.tmp 3)], none⟩,
 ⟨some 5, .bin .neq (.tmp 4) (.const (.int .i64 0)), none⟩])
 (.cond (.tmp 5)
  (.seq (.region [
  ⟨some 2, .mov (.const (.int .i64 0)), none⟩])
  .ret)
  .skip))
 (.seq (.seq (.region [
 ⟨some 6, .fad 0 (.tmp 1), none⟩,
 ⟨some 7, .ld (.tmp 6), none⟩])
 (.block 0
  (.seq (.seq (.region [
  ⟨some 9, .bin .eql (.tmp 7) (.const (.int .i64 8)), none⟩,
  ⟨some 8, .mov (.tmp 9), none⟩])
  (.cond (.tmp 8)
   .skip
   (.seq (.region [
   ⟨some 10, .bin .eql (.tmp 7) (.const (.int .i64 9)), none⟩,
   ⟨some 8, .mov (.tmp 10), none⟩])
   (.cond (.tmp 8)
    .skip
    (.seq (.region [
    ⟨some 11, .bin .eql (.tmp 7) (.const (.int .i64 10)), none⟩,
    ⟨some 8, .mov (.tmp 11), none⟩])
    (.cond (.tmp 8)
     .skip
     (.seq (.region [
     ⟨some 12, .bin .eql (.tmp 7) (.const (.int .i64 11)), none⟩,
     ⟨some 8, .mov (.tmp 12), none⟩])
     (.cond (.tmp 8)
      .skip
      (.seq (.region [
      ⟨some 13, .bin .eql (.tmp 7) (.const (.int .i64 14)), none⟩,
      ⟨some 8, .mov (.tmp 13), none⟩])
      (.cond (.tmp 8)
       .skip
       (.region [
       ⟨some 14, .bin .eql (.tmp 7) (.const (.int .i64 15)), none⟩,
       ⟨some 8, .mov (.tmp 14), none⟩])))))))))))
  (.cond (.tmp 8)
   (.seq (.region [
   ⟨some 2, .mov (.const (.int .i64 1)), none⟩])
   .ret)
   (.seq (.seq (.region [
   ⟨some 16, .bin .eql (.tmp 7) (.const (.int .i64 7)), none⟩,
   ⟨some 15, .mov (.tmp 16), none⟩])
   (.cond (.tmp 15)
    .skip
    (.seq (.region [
    ⟨some 17, .bin .eql (.tmp 7) (.const (.int .i64 12)), none⟩,
    ⟨some 15, .mov (.tmp 17), none⟩])
    (.cond (.tmp 15)
     .skip
     (.seq (.region [
     ⟨some 18, .bin .eql (.tmp 7) (.const (.int .i64 13)), none⟩,
     ⟨some 15, .mov (.tmp 18), none⟩])
     (.cond (.tmp 15)
      .skip
      (.seq (.region [
      ⟨some 19, .bin .eql (.tmp 7) (.const (.int .i64 16)), none⟩,
      ⟨some 15, .mov (.tmp 19), none⟩])
      (.cond (.tmp 15)
       .skip
       (.region [
       ⟨some 20, .bin .eql (.tmp 7) (.const (.int .i64 17)), none⟩,
       ⟨some 15, .mov (.tmp 20), none⟩])))))))))
   (.cond (.tmp 15)
    (.seq (.region [
    ⟨some 2, .mov (.const (.int .i64 2)), none⟩])
    .ret)
    .skip))))))
 (.seq (.region [
 ⟨some 2, .mov (.const (.int .i64 0)), none⟩])
 .ret)))),
 [.tmp 2]⟩
theorem low_ref03_Place : lowFn Tryd.prog movers 42 = some ⟨ir_ref03_Place.n, strip ir_ref03_Place.body, ir_ref03_Place.res⟩ := by kernel_rfl

/-- strongtx/strongtxref03.Skips -/
def ir_ref03_Skips : IFn := ⟨16,
 (.seq (.region [
 ⟨some 1, .box 31 (.tmp 0), none⟩,
 ⟨some 2, .mov (.const (.int .i64 0)), none⟩,
 ⟨some 3, .mov (.const (.bool false)), none⟩])
 (.seq (.seq (.region [
 ⟨some 4, .ldN 5 (.tmp 1), none⟩,
 ⟨some 5, .call 41 [(.tmp 4)], none⟩,
 ⟨some 6, .bin .neq (.tmp 5) (.const (.int .i64 0)), none⟩,
 ⟨some 7, .mov (.tmp 6), none⟩,
 ⟨some 8, .fad 0 (.tmp 1), some (7, false)⟩,
 ⟨some 9, .ld (.tmp 8), some (7, false)⟩,
 ⟨some 10, .call 52 [(.tmp 9)], some (7, false)⟩,
 ⟨some 11, .call 54 [(.tmp 10), (.const (.int .u8 106))], some (7, false)⟩,
 ⟨some 12, .not (.tmp 11), some (7, false)⟩,
 ⟨some 13, .pick (.tmp 7) (.const (.bool true)) (.tmp 12), none⟩])
 (.cond (.tmp 13)
  (.seq (.region [
  ⟨some 2, .mov (.const (.int .i64 0)), none⟩,
  ⟨some 3, .mov (.const (.bool false)), none⟩])
  .ret)
  .skip))
 (.seq (.region [
 ⟨some 14, .fad 4 (.tmp 1), none⟩,
 ⟨some 15, .ld (.tmp 14), none⟩,
 ⟨some 2, .mov (.tmp 15), none⟩,
 ⟨some 3, .mov (.const (.bool true)), none⟩])
 .ret))),
 [.tmp 2, .tmp 3]⟩
theorem low_ref03_Skips : lowFn Tryd.prog movers 43 = some ⟨ir_ref03_Skips.n, strip ir_ref03_Skips.body, ir_ref03_Skips.res⟩ := by kernel_rfl

/-- strongtx/strongtxref06.reaches -/
def ir_ref06_reaches : IFn := ⟨37,
 (.seq (.region [
 ⟨some 6, .mov (.const (.bool false)), none⟩])
 (.seq (.seq (.region [
 ⟨some 9, .mov (.tmp 2), none⟩,
 ⟨some 10, .mov (.tmp 0), none⟩,
 ⟨some 11, .len (.tmp 10), none⟩,
 ⟨some 12, .bin .gtr (.tmp 9) (.tmp 11), none⟩])
 (.cond (.tmp 12)
  (.seq (.region [
  ⟨some 6, .mov (.const (.bool false)), none⟩])
  .ret)
  .skip))
 (.seq (.region [
 ⟨some 14, .mov (.tmp 0), none⟩,
 ⟨some 15, .mov (.tmp 1), none⟩,
 ⟨some 16, .call 55 [(.tmp 14), (.tmp 15)], none⟩,
 ⟨some 13, .mov (.tmp 16), none⟩,
 ⟨some 17, .ext (.tmp 13) 0, none⟩,
 ⟨some 18, .ext (.tmp 13) 1, none⟩,
 ⟨some 7, .mov (.tmp 17), none⟩,
 ⟨some 8, .mov (.tmp 18), none⟩])
 (.seq (.seq (.region [
 ⟨some 19, .mov (.tmp 7), none⟩,
 ⟨some 20, .bin .geq (.tmp 19) (.const (.int .i64 0)), none⟩])
 (.cond (.tmp 20)
  (.seq (.region [
  ⟨some 21, .mov (.tmp 2), none⟩,
  ⟨some 22, .mov (.tmp 8), none⟩,
  ⟨some 23, .bin .leq (.tmp 21) (.tmp 22), none⟩,
  ⟨some 6, .mov (.tmp 23), none⟩])
  .ret)
  .skip))
 (.seq (.region [
 ⟨some 25, .mov (.tmp 0), none⟩,
 ⟨some 26, .mov (.tmp 2), none⟩,
 ⟨some 27, .call 55 [(.tmp 25), (.tmp 26)], none⟩,
 ⟨some 24, .mov (.tmp 27), none⟩,
 ⟨some 28, .ext (.tmp 24) 0, none⟩,
 ⟨some 29, .ext (.tmp 24) 1, none⟩,
 ⟨some 7, .mov (.tmp 28), none⟩])
 (.seq (.region [
 ⟨some 30, .mov (.tmp 7), none⟩,
 ⟨some 31, .bin .lss (.tmp 30) (.const (.int .i64 0)), none⟩,
 ⟨some 32, .mov (.tmp 31), none⟩,
 ⟨some 33, .mov (.tmp 7), some (32, false)⟩,
 ⟨some 34, .mov (.tmp 2), some (32, false)⟩,
 ⟨some 35, .bin .eql (.tmp 33) (.tmp 34), some (32, false)⟩,
 ⟨some 36, .pick (.tmp 32) (.const (.bool true)) (.tmp 35), none⟩,
 ⟨some 6, .mov (.tmp 36), none⟩])
 .ret)))))),
 [.tmp 6]⟩
theorem low_ref06_reaches : lowFn Tryd.prog movers 44 = some ⟨ir_ref06_reaches.n, strip ir_ref06_reaches.body, ir_ref06_reaches.res⟩ := by kernel_rfl

/-- strongtx/isa.Check -/
def ir_isa_Check : IFn := ⟨56,
 (.seq (.region [
 ⟨some 1, .box 31 (.tmp 0), none⟩,
 ⟨some 2, .mov (.const (.int .i64 0)), none⟩])
 (.seq (.seq (.region [
 ⟨some 6, .fad 0 (.tmp 1), none⟩,
 ⟨some 7, .ld (.tmp 6), none⟩,
 ⟨some 8, .bin .lss (.tmp 7) (.const (.int .i64 0)), none⟩,
 ⟨some 9, .mov (.tmp 8), none⟩,
 ⟨some 10, .fad 0 (.tmp 1), some (9, false)⟩,
 ⟨some 11, .ld (.tmp 10), some (9, false)⟩,
 ⟨some 12, .bin .geq (.tmp 11) (.const (.int .i64 18)), some (9, false)⟩,
 ⟨some 13, .pick (.tmp 9) (.const (.bool true)) (.tmp 12), none⟩])
 (.cond (.tmp 13)
  (.seq (.region [
  ⟨some 2, .mov (.const (.int .i64 10)), none⟩])
  .ret)
  .skip))
 (.seq (.seq (.region [
 ⟨some 14, .fad 1 (.tmp 1), none⟩,
 ⟨some 15, .ld (.tmp 14), none⟩,
 ⟨some 16, .fad 2 (.tmp 1), none⟩,
 ⟨some 17, .ld (.tmp 16), none⟩,
 ⟨some 18, .fad 3 (.tmp 1), none⟩,
 ⟨some 19, .ld (.tmp 18), none⟩,
 ⟨some 20, .bld [(.int .i64 0), (.int .i64 0), (.int .i64 0)] [(0, 1, (.tmp 15)), (1, 1, (.tmp 17)), (2, 1, (.tmp 19))], none⟩,
 ⟨some 21, .mov (.const (.int .i64 0)), none⟩])
 (.block 0
  (.loop 9007199252643900
   (.seq (.region [
   ⟨some 22, .bin .lss (.tmp 21) (.const (.int .i64 3)), none⟩])
   (.seq (.cond (.tmp 22)
    .skip
    (.exit 0))
   (.seq (.block 1
    (.seq (.region [
    ⟨some 23, .mov (.tmp 21), none⟩,
    ⟨some 24, .idx 3 (.tmp 20) (.tmp 21), none⟩,
    ⟨some 3, .mov (.tmp 23), none⟩,
    ⟨some 4, .mov (.tmp 24), none⟩])
    (.seq (.draw (.f ⟨some 25, .fad 0 (.tmp 1), none⟩
    (.f ⟨some 26, .ld (.tmp 25), none⟩
    (.f ⟨some 27, .ixa 18 2 (.global 0) (.tmp 26), none⟩
    (.f ⟨some 28, .fad 1 (.tmp 27), none⟩
    (.f ⟨some 29, .ld (.tmp 28), none⟩
    (.f ⟨some 30, .mov (.tmp 3), none⟩
    (.f ⟨some 31, .mov (.tmp 3), none⟩
    (.f ⟨some 32, .bin .add (.tmp 31) (.const (.int .i64 1)), none⟩
    (.f ⟨some 33, .sslc (.const (.string ⟨#[65, 66, 67]⟩)) (some (.tmp 30)) (some (.tmp 32)), none⟩
    (.f ⟨some 34, .call 56 [(.tmp 29), (.tmp 33)], none⟩
    (.f ⟨some 5, .mov (.tmp 34), none⟩
    .done))))))))))))
    (.seq (.region [
    ⟨some 35, .mov (.tmp 5), none⟩,
    ⟨some 36, .mov (.tmp 35), none⟩,
    ⟨some 37, .mov (.tmp 4), some (36, true)⟩,
    ⟨some 38, .bin .lss (.tmp 37) (.const (.int .i64 0)), some (36, true)⟩,
    ⟨some 39, .mov (.tmp 38), some (36, true)⟩,
    ⟨some 40, .mov (.tmp 4), some (39, false)⟩,
    ⟨some 41, .bin .geq (.tmp 40) (.const (.int .i64 8)), some (39, false)⟩,
    ⟨some 42, .pick (.tmp 39) (.const (.bool true)) (.tmp 41), some (36, true)⟩,
    ⟨some 43, .pick (.tmp 36) (.tmp 42) (.const (.bool false)), none⟩,
    ⟨some 44, .mov (.tmp 43), none⟩,
    ⟨some 45, .mov (.tmp 5), some (44, false)⟩,
    ⟨some 46, .not (.tmp 45), some (44, false)⟩,
    ⟨some 47, .mov (.tmp 46), some (44, false)⟩,
    ⟨some 48, .mov (.tmp 4), some (47, true)⟩,
    ⟨some 49, .bin .neq (.tmp 48) (.const (.int .i64 0)), some (47, true)⟩,
    ⟨some 50, .pick (.tmp 47) (.tmp 49) (.const (.bool false)), some (44, false)⟩,
    ⟨some 51, .pick (.tmp 44) (.const (.bool true)) (.tmp 50), none⟩])
    (.cond (.tmp 51)
     (.seq (.region [
     ⟨some 2, .mov (.const (.int .i64 11)), none⟩])
     .ret)
     .skip)))))
   (.region [
   ⟨some 52, .bin .add (.tmp 21) (.const (.int .i64 1)), none⟩,
   ⟨some 21, .mov (.tmp 52), none⟩])))))))
 (.seq (.seq (.region [
 ⟨some 53, .ldN 5 (.tmp 1), none⟩,
 ⟨some 54, .call 57 [(.tmp 53)], none⟩,
 ⟨some 55, .not (.tmp 54), none⟩])
 (.cond (.tmp 55)
  (.seq (.region [
  ⟨some 2, .mov (.const (.int .i64 11)), none⟩])
  .ret)
  .skip))
 (.seq (.region [
 ⟨some 2, .mov (.const (.int .i64 0)), none⟩])
 .ret))))),
 [.tmp 2]⟩
theorem low_isa_Check : lowFn Tryd.prog movers 45 = some ⟨ir_isa_Check.n, strip ir_isa_Check.body, ir_isa_Check.res⟩ := by kernel_rfl

/-- strongtx/isa.Place -/
def ir_isa_Place : IFn := ⟨21,
 (.seq (.region [
 ⟨some 1, .box 31 (.tmp 0), none⟩,
 ⟨some 2, .mov (.const (.int .i64 0)), none⟩])
 (.seq (.seq (.region [
 ⟨some 3, .ldN 5 (.tmp 1), none⟩,
 ⟨some 4, .call 45 [(.tmp 3)], none⟩,
 ⟨some 5, .bin .eql (.tmp 4) (.const (.int .i64 0)), none⟩])
 (.cond (.tmp 5)
  (.seq (.region [
  ⟨some 6, .fad 0 (.tmp 1), none⟩,
  ⟨some 7, .ld (.tmp 6), none⟩])
  (.block 0
   (.seq (.seq (.region [
   ⟨some 9, .bin .eql (.tmp 7) (.const (.int .i64 8)), none⟩,
   ⟨some 8, .mov (.tmp 9), none⟩])
   (.cond (.tmp 8)
    .skip
    (.seq (.region [
    ⟨some 10, .bin .eql (.tmp 7) (.const (.int .i64 9)), none⟩,
    ⟨some 8, .mov (.tmp 10), none⟩])
    (.cond (.tmp 8)
     .skip
     (.seq (.region [
     ⟨some 11, .bin .eql (.tmp 7) (.const (.int .i64 10)), none⟩,
     ⟨some 8, .mov (.tmp 11), none⟩])
     (.cond (.tmp 8)
      .skip
      (.seq (.region [
      ⟨some 12, .bin .eql (.tmp 7) (.const (.int .i64 11)), none⟩,
      ⟨some 8, .mov (.tmp 12), none⟩])
      (.cond (.tmp 8)
       .skip
       (.seq (.region [
       ⟨some 13, .bin .eql (.tmp 7) (.const (.int .i64 14)), none⟩,
       ⟨some 8, .mov (.tmp 13), none⟩])
       (.cond (.tmp 8)
        .skip
        (.region [
        ⟨some 14, .bin .eql (.tmp 7) (.const (.int .i64 15)), none⟩,
        ⟨some 8, .mov (.tmp 14), none⟩])))))))))))
   (.cond (.tmp 8)
    (.seq (.region [
    ⟨some 2, .mov (.const (.int .i64 1)), none⟩])
    .ret)
    (.seq (.seq (.region [
    ⟨some 16, .bin .eql (.tmp 7) (.const (.int .i64 7)), none⟩,
    ⟨some 15, .mov (.tmp 16), none⟩])
    (.cond (.tmp 15)
     .skip
     (.seq (.region [
     ⟨some 17, .bin .eql (.tmp 7) (.const (.int .i64 12)), none⟩,
     ⟨some 15, .mov (.tmp 17), none⟩])
     (.cond (.tmp 15)
      .skip
      (.seq (.region [
      ⟨some 18, .bin .eql (.tmp 7) (.const (.int .i64 13)), none⟩,
      ⟨some 15, .mov (.tmp 18), none⟩])
      (.cond (.tmp 15)
       .skip
       (.seq (.region [
       ⟨some 19, .bin .eql (.tmp 7) (.const (.int .i64 16)), none⟩,
       ⟨some 15, .mov (.tmp 19), none⟩])
       (.cond (.tmp 15)
        .skip
        (.region [
        ⟨some 20, .bin .eql (.tmp 7) (.const (.int .i64 17)), none⟩,
        ⟨some 15, .mov (.tmp 20), none⟩])))))))))
    (.cond (.tmp 15)
     (.seq (.region [
     ⟨some 2, .mov (.const (.int .i64 2)), none⟩])
     .ret)
     .skip))))))
  .skip))
 (.seq (.region [
 ⟨some 2, .mov (.const (.int .i64 0)), none⟩])
 .ret))),
 [.tmp 2]⟩
theorem low_isa_Place : lowFn Tryd.prog movers 46 = some ⟨ir_isa_Place.n, strip ir_isa_Place.body, ir_isa_Place.res⟩ := by kernel_rfl

/-- strongtx/program.target -/
def ir_program_target : IFn := ⟨48,
 (.seq (.region [
 ⟨some 6, .mov (.const (.int .i64 0)), none⟩])
 (.seq (.region [
 ⟨some 11, .mov (.tmp 0), none⟩,
 ⟨some 12, .mov (.tmp 1), none⟩,
 ⟨some 13, .ixs 5 (.tmp 11) (.tmp 12), none⟩,
 ⟨some 14, .ldN 5 (.tmp 13), none⟩,
 ⟨some 15, .call 58 [(.tmp 14)], none⟩,
 ⟨some 10, .mov (.tmp 15), none⟩,
 ⟨some 16, .ext (.tmp 10) 0, none⟩,
 ⟨some 17, .ext (.tmp 10) 1, none⟩,
 ⟨some 7, .mov (.tmp 16), none⟩,
 ⟨some 8, .mov (.tmp 17), none⟩])
 (.seq (.seq (.region [
 ⟨some 18, .mov (.tmp 8), none⟩,
 ⟨some 19, .not (.tmp 18), none⟩])
 (.cond (.tmp 19)
  (.seq (.region [
  ⟨some 6, .mov (.const (.int .i64 0)), none⟩])
  .ret)
  .skip))
 (.seq (.region [
 ⟨some 20, .mov (.tmp 1), none⟩,
 ⟨some 21, .bin .add (.tmp 20) (.const (.int .i64 1)), none⟩,
 ⟨some 22, .mov (.tmp 7), none⟩,
 ⟨some 23, .bin .add (.tmp 21) (.tmp 22), none⟩,
 ⟨some 9, .mov (.tmp 23), none⟩])
 (.seq (.block 0
  (.seq (.region [
  ⟨some 25, .mov (.tmp 9), none⟩,
  ⟨some 26, .mov (.tmp 0), none⟩,
  ⟨some 27, .len (.tmp 26), none⟩,
  ⟨some 28, .bin .gtr (.tmp 25) (.tmp 27), none⟩,
  ⟨some 24, .mov (.tmp 28), none⟩])
  (.cond (.tmp 24)
   (.seq (.region [
   ⟨some 6, .mov (.const (.int .i64 42)), none⟩])
   .ret)
   (.seq (.region [
   ⟨some 30, .mov (.tmp 2), none⟩,
   ⟨some 31, .bin .geq (.tmp 30) (.const (.int .i64 0)), none⟩,
   ⟨some 32, .mov (.tmp 31), none⟩,
   ⟨some 33, .mov (.tmp 9), some (32, true)⟩,
   ⟨some 34, .mov (.tmp 0), some (32, true)⟩,
   ⟨some 35, .mov (.tmp 2), some (32, true)⟩,
   ⟨some 36, .call 27 [(.tmp 34), (.tmp 35)], some (32, true)⟩,
   ⟨some 37, .bin .gtr (.tmp 33) (.tmp 36), some (32, true)⟩,
   ⟨some 38, .pick (.tmp 32) (.tmp 37) (.const (.bool false)), none⟩,
   ⟨some 29, .mov (.tmp 38), none⟩])
   (.cond (.tmp 29)
    (.seq (.region [
    ⟨some 6, .mov (.const (.int .i64 42)), none⟩])
    .ret)
    (.seq (.region [
    ⟨some 40, .mov (.tmp 2), none⟩,
    ⟨some 41, .bin .lss (.tmp 40) (.const (.int .i64 0)), none⟩,
    ⟨some 42, .mov (.tmp 41), none⟩,
    ⟨some 43, .mov (.tmp 0), some (42, true)⟩,
    ⟨some 44, .mov (.tmp 1), some (42, true)⟩,
    ⟨some 45, .mov (.tmp 9), some (42, true)⟩,
    ⟨some 46, .call 59 [(.tmp 43), (.tmp 44), (.tmp 45)], some (42, true)⟩,
    ⟨some 47, .pick (.tmp 42) (.tmp 46) (.const (.bool false)), none⟩,
    ⟨some 39, .mov (.tmp 47), none⟩])
    (.cond (.tmp 39)
     (.seq (.region [
     ⟨some 6, .mov (.const (.int .i64 42)), none⟩])
     .ret)
     .skip)))))))
 (.seq (.region [
 ⟨some 6, .mov (.const (.int .i64 0)), none⟩])
 .ret)))))),
 [.tmp 6]⟩
theorem low_program_target : lowFn Tryd.prog movers 47 = some ⟨ir_program_target.n, strip ir_program_target.body, ir_program_target.res⟩ := by kernel_rfl

/-- slices.Backward(()strongtx/api.Instr,strongtx/api.Instr)$1 -/
def ir_slices_Backward_Instr_1 : IFn := ⟨19,
 (.seq (.region [
 ⟨some 4, .ld (.tmp 1), none⟩,
 ⟨some 5, .len (.tmp 4), none⟩,
 ⟨some 6, .bin .sub (.tmp 5) (.const (.int .i64 1)), none⟩,
 ⟨some 3, .mov (.tmp 6), none⟩])
 (.block 0
  (.loop 524168
   (.seq (.seq (.region [
   ⟨some 7, .mov (.tmp 3), none⟩,
   ⟨some 8, .bin .geq (.tmp 7) (.const (.int .i64 0)), none⟩])
   (.cond (.tmp 8)
    .skip
    (.exit 0)))
   (.seq (.block 1
    (.seq (.region [
    ⟨some 11, .mov (.tmp 0), none⟩,
    ⟨some 12, .mov (.tmp 3), none⟩,
    ⟨some 13, .ld (.tmp 1), none⟩,
    ⟨some 14, .mov (.tmp 3), none⟩,
    ⟨some 15, .ixs 5 (.tmp 13) (.tmp 14), none⟩,
    ⟨some 16, .ldN 5 (.tmp 15), none⟩,
    ⟨some 17, .callv (.tmp 11) [(.tmp 12), (.tmp 16)], none⟩,
    ⟨some 18, .not (.tmp 17), none⟩])
    (.cond (.tmp 18)
     .ret
     .skip)))
   (.region [
   ⟨some 9, .mov (.tmp 3), none⟩,
   ⟨some 10, .bin .sub (.tmp 9) (.const (.int .i64 1)), none⟩,
   ⟨some 3, .mov (.tmp 10), none⟩])))))),
 []⟩
theorem low_slices_Backward_Instr_1 : lowFn Tryd.prog movers 48 = some ⟨ir_slices_Backward_Instr_1.n, strip ir_slices_Backward_Instr_1.body, ir_slices_Backward_Instr_1.res⟩ := by kernel_rfl

/-- strongtx/layout.heap -/
def ir_layout_heap : IFn := ⟨32,
 (.seq (.region [
 ⟨some 1, .box 43 (.tmp 0), none⟩,
 ⟨some 2, .mov (.const (.int .i64 0)), none⟩,
 ⟨some 3, .mov (.const (.int .i64 0)), none⟩,
 ⟨some 4, .mov (.const (.bool false)), none⟩])
 (.seq (.seq (.region [
 ⟨some 7, .fad 3 (.tmp 1), none⟩,
 ⟨some 8, .ldN 4 (.tmp 7), none⟩,
 ⟨some 9, .mov (.const (.int .i64 0)), none⟩])
 (.block 0
  (.loop 268435068
   (.seq (.region [
   ⟨some 10, .bin .lss (.tmp 9) (.const (.int .i64 4)), none⟩])
   (.seq (.cond (.tmp 10)
    .skip
    (.exit 0))
   (.seq (.block 1
    (.seq (.region [
    ⟨some 11, .mov (.tmp 9), none⟩,
    ⟨some 12, .idx 4 (.tmp 8) (.tmp 9), none⟩,
    ⟨some 5, .mov (.tmp 11), none⟩,
    ⟨some 6, .mov (.tmp 12), none⟩])
    (.seq (.seq (.region [
    ⟨some 13, .mov (.tmp 6), none⟩,
    ⟨some 14, .bin .lss (.tmp 13) (.const (.int .i64 0)), none⟩,
    ⟨some 15, .mov (.tmp 14), none⟩,
    ⟨some 16, .mov (.tmp 6), some (15, false)⟩,
    ⟨some 17, .bin .gtr (.tmp 16) (.const (.int .i64 64)), some (15, false)⟩,
    ⟨some 18, .pick (.tmp 15) (.const (.bool true)) (.tmp 17), none⟩])
    (.cond (.tmp 18)
     (.seq (.region [
     ⟨some 2, .mov (.const (.int .i64 0)), none⟩,
     ⟨some 3, .mov (.const (.int .i64 0)), none⟩,
     ⟨some 4, .mov (.const (.bool false)), none⟩])
     .ret)
     .skip))
    (.seq (.region [
    ⟨some 19, .mov (.tmp 2), none⟩,
    ⟨some 20, .mov (.tmp 6), none⟩,
    ⟨some 21, .bin .add (.tmp 19) (.tmp 20), none⟩,
    ⟨some 2, .mov (.tmp 21), none⟩])
    (.region [
    ⟨some 22, .mov (.tmp 3), none⟩,
    ⟨some 23, .mov (.tmp 6), none⟩,
    ⟨some 24, .mov (.tmp 5), none⟩,
    ⟨some 25, .bin .shl (.tmp 23) (.tmp 24), none⟩,
    ⟨some 26, .bin .add (.tmp 22) (.tmp 25), none⟩,
    ⟨some 3, .mov (.tmp 26), none⟩])))))
   (.region [
   ⟨some 27, .bin .add (.tmp 9) (.const (.int .i64 1)), none⟩,
   ⟨some 9, .mov (.tmp 27), none⟩])))))))
 (.seq (.region [
 ⟨some 28, .mov (.tmp 2), none⟩,
 ⟨some 29, .mov (.tmp 3), none⟩,
 ⟨some 30, .mov (.tmp 2), none⟩,
 ⟨some 31, .bin .leq (.tmp 30) (.const (.int .i64 64)), none⟩,
 ⟨some 2, .mov (.tmp 28), none⟩,
 ⟨some 3, .mov (.tmp 29), none⟩,
 ⟨some 4, .mov (.tmp 31), none⟩])
 .ret))),
 [.tmp 2, .tmp 3, .tmp 4]⟩
theorem low_layout_heap : lowFn Tryd.prog movers 49 = some ⟨ir_layout_heap.n, strip ir_layout_heap.body, ir_layout_heap.res⟩ := by kernel_rfl

/-- strongtx/layout.locate -/
def ir_layout_locate : IFn := ⟨41,
 (.seq (.region [
 ⟨some 2, .box 43 (.tmp 0), none⟩,
 ⟨some 4, .mov (.const (.int .i64 0)), none⟩,
 ⟨some 5, .mov (.const (.int .i64 0)), none⟩])
 (.seq (.seq (.region [
 ⟨some 8, .ldN 13 (.tmp 2), none⟩,
 ⟨some 9, .call 32 [(.tmp 8)], none⟩,
 ⟨some 10, .bin .neq (.tmp 9) (.const (.int .i64 0)), none⟩,
 ⟨some 11, .mov (.tmp 10), none⟩,
 ⟨some 12, .mov (.tmp 1), some (11, false)⟩,
 ⟨some 13, .bin .lss (.tmp 12) (.const (.int .i64 0)), some (11, false)⟩,
 ⟨some 14, .pick (.tmp 11) (.const (.bool true)) (.tmp 13), none⟩])
 (.cond (.tmp 14)
  (.seq (.region [
  ⟨some 4, .mov (.const (.int .i64 (-1))), none⟩,
  ⟨some 5, .mov (.const (.int .i64 (-1))), none⟩])
  .ret)
  .skip))
 (.seq (.region [
 ⟨some 15, .fad 2 (.tmp 2), none⟩,
 ⟨some 16, .ld (.tmp 15), none⟩,
 ⟨some 5, .mov (.tmp 16), none⟩])
 (.seq (.seq (.region [
 ⟨some 17, .fad 3 (.tmp 2), none⟩,
 ⟨some 18, .ldN 4 (.tmp 17), none⟩,
 ⟨some 19, .mov (.const (.int .i64 0)), none⟩])
 (.block 0
  (.loop 2199022731506
   (.seq (.region [
   ⟨some 20, .bin .lss (.tmp 19) (.const (.int .i64 4)), none⟩])
   (.seq (.cond (.tmp 20)
    .skip
    (.exit 0))
   (.seq (.block 1
    (.seq (.region [
    ⟨some 21, .mov (.tmp 19), none⟩,
    ⟨some 22, .idx 4 (.tmp 18) (.tmp 19), none⟩,
    ⟨some 6, .mov (.tmp 21), none⟩,
    ⟨some 7, .mov (.tmp 22), none⟩])
    (.seq (.seq (.region [
    ⟨some 23, .mov (.tmp 1), none⟩,
    ⟨some 24, .mov (.tmp 7), none⟩,
    ⟨some 25, .bin .lss (.tmp 23) (.tmp 24), none⟩])
    (.cond (.tmp 25)
     (.seq (.draw (.f ⟨some 26, .mov (.tmp 6), none⟩
     (.f ⟨some 27, .mov (.tmp 5), none⟩
     (.f ⟨some 28, .mov (.tmp 1), none⟩
     (.f ⟨some 29, .mov (.tmp 6), none⟩
     (.f ⟨some 30, .bin .shl (.tmp 28) (.tmp 29), none⟩
     (.f ⟨some 31, .bin .add (.tmp 27) (.tmp 30), none⟩
     (.f ⟨some 4, .mov (.tmp 26), none⟩
     (.f ⟨some 5, .mov (.tmp 31), none⟩
     .done)))))))))
     .ret)
     .skip))
    (.seq (.region [
    ⟨some 32, .mov (.tmp 1), none⟩,
    ⟨some 33, .mov (.tmp 7), none⟩,
    ⟨some 34, .bin .sub (.tmp 32) (.tmp 33), none⟩,
    ⟨some 1, .mov (.tmp 34), none⟩])
    (.region [
    ⟨some 35, .mov (.tmp 5), none⟩,
    ⟨some 36, .mov (.tmp 7), none⟩,
    ⟨some 37, .mov (.tmp 6), none⟩,
    ⟨some 38, .bin .shl (.tmp 36) (.tmp 37), none⟩,
    ⟨some 39, .bin .add (.tmp 35) (.tmp 38), none⟩,
    ⟨some 5, .mov (.tmp 39), none⟩])))))
   (.region [
   ⟨some 40, .bin .add (.tmp 19) (.const (.int .i64 1)), none⟩,
   ⟨some 19, .mov (.tmp 40), none⟩])))))))
 (.seq (.region [
 ⟨some 4, .mov (.const (.int .i64 (-1))), none⟩,
 ⟨some 5, .mov (.const (.int .i64 (-1))), none⟩])
 .ret))))),
 [.tmp 4, .tmp 5]⟩
theorem low_layout_locate : lowFn Tryd.prog movers 50 = some ⟨ir_layout_locate.n, strip ir_layout_locate.body, ir_layout_locate.res⟩ := by kernel_rfl

/-- strongtx/strongtxref07.within -/
def ir_ref07_within : IFn := ⟨15,
 (.seq (.region [
 ⟨some 6, .mov (.const (.bool false)), none⟩])
 (.seq (.region [
 ⟨some 7, .mov (.tmp 0), none⟩,
 ⟨some 8, .mov (.tmp 1), none⟩,
 ⟨some 9, .bin .geq (.tmp 7) (.tmp 8), none⟩,
 ⟨some 10, .mov (.tmp 9), none⟩,
 ⟨some 11, .mov (.tmp 0), some (10, true)⟩,
 ⟨some 12, .mov (.tmp 2), some (10, true)⟩,
 ⟨some 13, .bin .leq (.tmp 11) (.tmp 12), some (10, true)⟩,
 ⟨some 14, .pick (.tmp 10) (.tmp 13) (.const (.bool false)), none⟩,
 ⟨some 6, .mov (.tmp 14), none⟩])
 .ret)),
 [.tmp 6]⟩
theorem low_ref07_within : lowFn Tryd.prog movers 51 = some ⟨ir_ref07_within.n, strip ir_ref07_within.body, ir_ref07_within.res⟩ := by kernel_rfl

/-- strongtx/strongtxref03.form -/
def ir_ref03_form : IFn := ⟨7,
 (.seq (.region [
 ⟨some 2, .mov (.const (.string ⟨#[]⟩)), none⟩])
 (.seq (.region [
 ⟨some 3, .blds 9 18 [(.string ⟨#[]⟩), (.string ⟨#[]⟩), (.string ⟨#[]⟩), (.string ⟨#[]⟩), (.string ⟨#[]⟩), (.string ⟨#[]⟩), (.string ⟨#[]⟩), (.string ⟨#[]⟩), (.string ⟨#[]⟩), (.string ⟨#[]⟩), (.string ⟨#[]⟩), (.string ⟨#[]⟩), (.string ⟨#[]⟩), (.string ⟨#[]⟩), (.string ⟨#[]⟩), (.string ⟨#[]⟩), (.string ⟨#[]⟩), (.string ⟨#[]⟩)] [(0, 1, (.const (.string ⟨#[]⟩))), (1, 1, (.const (.string ⟨#[114, 105]⟩))), (2, 1, (.const (.string ⟨#[114, 115]⟩))), (3, 1, (.const (.string ⟨#[114, 115, 116, 102]⟩))), (4, 1, (.const (.string ⟨#[106]⟩))), (5, 1, (.const (.string ⟨#[114, 106]⟩))), (6, 1, (.const (.string ⟨#[114, 106]⟩))), (7, 1, (.const (.string ⟨#[97]⟩))), (8, 1, (.const (.string ⟨#[]⟩))), (9, 1, (.const (.string ⟨#[]⟩))), (10, 1, (.const (.string ⟨#[114, 115, 105]⟩))), (11, 1, (.const (.string ⟨#[114, 115, 105]⟩))), (12, 1, (.const (.string ⟨#[114, 115, 105]⟩))), (13, 1, (.const (.string ⟨#[114, 115, 105]⟩))), (14, 1, (.const (.string ⟨#[114, 99]⟩))), (15, 1, (.const (.string ⟨#[114]⟩))), (16, 1, (.const (.string ⟨#[]⟩))), (17, 1, (.const (.string ⟨#[114]⟩)))], none⟩,
 ⟨some 4, .mov (.tmp 0), none⟩,
 ⟨some 5, .ixs 1 (.tmp 3) (.tmp 4), none⟩,
 ⟨some 6, .ld (.tmp 5), none⟩,
 ⟨some 2, .mov (.tmp 6), none⟩])
 .ret)),
 [.tmp 2]⟩
theorem low_ref03_form : lowFn Tryd.prog movers 52 = some ⟨ir_ref03_form.n, strip ir_ref03_form.body, ir_ref03_form.res⟩ := by kernel_rfl

/-- strongtx/strongtxref03.register -/
def ir_ref03_register : IFn := ⟨14,
 (.seq (.region [
 ⟨some 4, .mov (.const (.bool false)), none⟩])
 (.seq (.seq (.region [
 ⟨some 5, .mov (.tmp 1), none⟩])
 (.cond (.tmp 5)
  (.seq (.region [
  ⟨some 6, .mov (.tmp 0), none⟩,
  ⟨some 7, .bin .geq (.tmp 6) (.const (.int .i64 0)), none⟩,
  ⟨some 8, .mov (.tmp 7), none⟩,
  ⟨some 9, .mov (.tmp 0), some (8, true)⟩,
  ⟨some 10, .bin .lss (.tmp 9) (.const (.int .i64 8)), some (8, true)⟩,
  ⟨some 11, .pick (.tmp 8) (.tmp 10) (.const (.bool false)), none⟩,
  ⟨some 4, .mov (.tmp 11), none⟩])
  .ret)
  .skip))
 (.seq (.region [
 ⟨some 12, .mov (.tmp 0), none⟩,
 ⟨some 13, .bin .eql (.tmp 12) (.const (.int .i64 0)), none⟩,
 ⟨some 4, .mov (.tmp 13), none⟩])
 .ret))),
 [.tmp 4]⟩
theorem low_ref03_register : lowFn Tryd.prog movers 53 = some ⟨ir_ref03_register.n, strip ir_ref03_register.body, ir_ref03_register.res⟩ := by kernel_rfl

/-- strongtx/strongtxref03.has -/
def ir_ref03_has : IFn := ⟨17,
 (.seq (.region [
 ⟨some 4, .mov (.const (.bool false)), none⟩])
 (.seq (.seq (.region [
 ⟨some 5, .mov (.const (.int .i64 0)), none⟩])
 (.block 0
  (.loop 131056
   (.seq (.seq (.region [
   ⟨some 6, .mov (.tmp 5), none⟩,
   ⟨some 7, .mov (.tmp 0), none⟩,
   ⟨some 8, .lens (.tmp 7), none⟩,
   ⟨some 9, .bin .lss (.tmp 6) (.tmp 8), none⟩])
   (.cond (.tmp 9)
    .skip
    (.exit 0)))
   (.seq (.block 1
    (.seq (.region [
    ⟨some 12, .mov (.tmp 0), none⟩,
    ⟨some 13, .mov (.tmp 5), none⟩,
    ⟨some 14, .sidx (.tmp 12) (.tmp 13), none⟩,
    ⟨some 15, .mov (.tmp 1), none⟩,
    ⟨some 16, .bin .eql (.tmp 14) (.tmp 15), none⟩])
    (.cond (.tmp 16)
     (.seq (.region [
     ⟨some 4, .mov (.const (.bool true)), none⟩])
     .ret)
     .skip)))
   (.region [
   ⟨some 10, .mov (.tmp 5), none⟩,
   ⟨some 11, .bin .add (.tmp 10) (.const (.int .i64 1)), none⟩,
   ⟨some 5, .mov (.tmp 11), none⟩]))))))
 (.seq (.region [
 ⟨some 4, .mov (.const (.bool false)), none⟩])
 .ret))),
 [.tmp 4]⟩
theorem low_ref03_has : lowFn Tryd.prog movers 54 = some ⟨ir_ref03_has.n, strip ir_ref03_has.body, ir_ref03_has.res⟩ := by kernel_rfl

/-- strongtx/strongtxref06.Span -/
def ir_ref06_Span : IFn := ⟨61,
 (.seq (.region [
 ⟨some 4, .mov (.const (.int .i64 0)), none⟩,
 ⟨some 5, .mov (.const (.int .i64 0)), none⟩])
 (.seq (.region [
 ⟨some 6, .mov (.const (.int .i64 (-1))), none⟩])
 (.seq (.seq (.region [
 ⟨some 7, .mov (.const (.int .i64 0)), none⟩])
 (.block 0
  (.loop 35184372088816
   (.seq (.seq (.region [
   ⟨some 8, .mov (.tmp 7), none⟩,
   ⟨some 9, .mov (.tmp 0), none⟩,
   ⟨some 10, .len (.tmp 9), none⟩,
   ⟨some 11, .bin .lss (.tmp 8) (.tmp 10), none⟩])
   (.cond (.tmp 11)
    .skip
    (.exit 0)))
   (.seq (.block 1
    (.seq (.region [
    ⟨some 14, .mov (.tmp 6), none⟩,
    ⟨some 15, .bin .lss (.tmp 14) (.const (.int .i64 0)), none⟩,
    ⟨some 16, .mov (.tmp 15), none⟩,
    ⟨some 17, .mov (.tmp 0), some (16, true)⟩,
    ⟨some 18, .mov (.tmp 7), some (16, true)⟩,
    ⟨some 19, .ixs 5 (.tmp 17) (.tmp 18), some (16, true)⟩,
    ⟨some 20, .fad 0 (.tmp 19), some (16, true)⟩,
    ⟨some 21, .ld (.tmp 20), some (16, true)⟩,
    ⟨some 22, .bin .eql (.tmp 21) (.const (.int .i64 7)), some (16, true)⟩,
    ⟨some 23, .pick (.tmp 16) (.tmp 22) (.const (.bool false)), none⟩])
    (.cond (.tmp 23)
     (.region [
     ⟨some 24, .mov (.tmp 7), none⟩,
     ⟨some 6, .mov (.tmp 24), none⟩])
     (.seq (.region [
     ⟨some 25, .mov (.tmp 6), none⟩,
     ⟨some 26, .bin .geq (.tmp 25) (.const (.int .i64 0)), none⟩,
     ⟨some 27, .mov (.tmp 26), none⟩,
     ⟨some 28, .mov (.tmp 0), some (27, true)⟩,
     ⟨some 29, .mov (.tmp 7), some (27, true)⟩,
     ⟨some 30, .ixs 5 (.tmp 28) (.tmp 29), some (27, true)⟩,
     ⟨some 31, .fad 0 (.tmp 30), some (27, true)⟩,
     ⟨some 32, .ld (.tmp 31), some (27, true)⟩,
     ⟨some 33, .bin .eql (.tmp 32) (.const (.int .i64 8)), some (27, true)⟩,
     ⟨some 34, .pick (.tmp 27) (.tmp 33) (.const (.bool false)), none⟩])
     (.cond (.tmp 34)
      (.seq (.seq (.region [
      ⟨some 35, .mov (.tmp 6), none⟩,
      ⟨some 36, .mov (.tmp 1), none⟩,
      ⟨some 37, .bin .leq (.tmp 35) (.tmp 36), none⟩,
      ⟨some 38, .mov (.tmp 37), none⟩,
      ⟨some 39, .mov (.tmp 1), some (38, true)⟩,
      ⟨some 40, .mov (.tmp 7), some (38, true)⟩,
      ⟨some 41, .bin .leq (.tmp 39) (.tmp 40), some (38, true)⟩,
      ⟨some 42, .pick (.tmp 38) (.tmp 41) (.const (.bool false)), none⟩])
      (.cond (.tmp 42)
       (.seq (.region [
       ⟨some 43, .mov (.tmp 6), none⟩,
       ⟨some 44, .mov (.tmp 7), none⟩,
       ⟨some 4, .mov (.tmp 43), none⟩,
       ⟨some 5, .mov (.tmp 44), none⟩])
       .ret)
       .skip))
      (.region [
      ⟨some 6, .mov (.const (.int .i64 (-1))), none⟩]))
      .skip)))))
   (.region [
   ⟨some 12, .mov (.tmp 7), none⟩,
   ⟨some 13, .bin .add (.tmp 12) (.const (.int .i64 1)), none⟩,
   ⟨some 7, .mov (.tmp 13), none⟩]))))))
 (.seq (.seq (.region [
 ⟨some 45, .mov (.tmp 6), none⟩,
 ⟨some 46, .bin .geq (.tmp 45) (.const (.int .i64 0)), none⟩,
 ⟨some 47, .mov (.tmp 46), none⟩,
 ⟨some 48, .mov (.tmp 6), some (47, true)⟩,
 ⟨some 49, .mov (.tmp 1), some (47, true)⟩,
 ⟨some 50, .bin .leq (.tmp 48) (.tmp 49), some (47, true)⟩,
 ⟨some 51, .pick (.tmp 47) (.tmp 50) (.const (.bool false)), none⟩,
 ⟨some 52, .mov (.tmp 51), none⟩,
 ⟨some 53, .mov (.tmp 1), some (52, true)⟩,
 ⟨some 54, .mov (.tmp 0), some (52, true)⟩,
 ⟨some 55, .len (.tmp 54), some (52, true)⟩,
 ⟨some 56, .bin .lss (.tmp 53) (.tmp 55), some (52, true)⟩,
 ⟨some 57, .pick (.tmp 52) (.tmp 56) (.const (.bool false)), none⟩])
 (.cond (.tmp 57)
  (.seq (.region [
  ⟨some 58, .mov (.tmp 6), none⟩,
  ⟨some 59, .mov (.tmp 0), none⟩,
  ⟨some 60, .len (.tmp 59), none⟩,
  ⟨some 4, .mov (.tmp 58), none⟩,
  ⟨some 5, .mov (.tmp 60), none⟩])
  .ret)
  .skip))
 (.seq (.region [
 ⟨some 4, .mov (.const (.int .i64 (-1))), none⟩,
 ⟨some 5, .mov (.const (.int .i64 (-1))), none⟩])
 .ret))))),
 [.tmp 4, .tmp 5]⟩
theorem low_ref06_Span : lowFn Tryd.prog movers 55 = some ⟨ir_ref06_Span.n, strip ir_ref06_Span.body, ir_ref06_Span.res⟩ := by kernel_rfl

/-- strings.Contains -/
def ir_strings_Contains : IFn := ⟨9,
 (.seq (.region [
 ⟨some 4, .mov (.const (.bool false)), none⟩])
 (.seq (.region [
 ⟨some 5, .mov (.tmp 0), none⟩,
 ⟨some 6, .mov (.tmp 1), none⟩,
 ⟨some 7, .call 60 [(.tmp 5), (.tmp 6)], none⟩,
 ⟨some 8, .bin .geq (.tmp 7) (.const (.int .i64 0)), none⟩,
 ⟨some 4, .mov (.tmp 8), none⟩])
 .ret)),
 [.tmp 4]⟩
theorem low_strings_Contains : lowFn Tryd.prog movers 56 = some ⟨ir_strings_Contains.n, strip ir_strings_Contains.body, ir_strings_Contains.res⟩ := by kernel_rfl

/-- strongtx/isa.number -/
def ir_isa_number : IFn := ⟨56,
 (.seq (.region [
 ⟨some 1, .box 31 (.tmp 0), none⟩,
 ⟨some 2, .mov (.const (.bool false)), none⟩])
 (.seq (.seq (.region [
 ⟨some 3, .fad 0 (.tmp 1), none⟩,
 ⟨some 4, .ld (.tmp 3), none⟩])
 (.block 0
  (.seq (.seq (.region [
  ⟨some 6, .bin .eql (.tmp 4) (.const (.int .i64 1)), none⟩,
  ⟨some 5, .mov (.tmp 6), none⟩])
  (.cond (.tmp 5)
   .skip
   (.seq (.region [
   ⟨some 7, .bin .eql (.tmp 4) (.const (.int .i64 10)), none⟩,
   ⟨some 5, .mov (.tmp 7), none⟩])
   (.cond (.tmp 5)
    .skip
    (.seq (.region [
    ⟨some 8, .bin .eql (.tmp 4) (.const (.int .i64 11)), none⟩,
    ⟨some 5, .mov (.tmp 8), none⟩])
    (.cond (.tmp 5)
     .skip
     (.seq (.region [
     ⟨some 9, .bin .eql (.tmp 4) (.const (.int .i64 12)), none⟩,
     ⟨some 5, .mov (.tmp 9), none⟩])
     (.cond (.tmp 5)
      .skip
      (.region [
      ⟨some 10, .bin .eql (.tmp 4) (.const (.int .i64 13)), none⟩,
      ⟨some 5, .mov (.tmp 10), none⟩])))))))))
  (.cond (.tmp 5)
   (.seq (.region [
   ⟨some 2, .mov (.const (.bool true)), none⟩])
   .ret)
   (.seq (.region [
   ⟨some 12, .bin .eql (.tmp 4) (.const (.int .i64 3)), none⟩,
   ⟨some 11, .mov (.tmp 12), none⟩])
   (.cond (.tmp 11)
    (.seq (.region [
    ⟨some 13, .fad 4 (.tmp 1), none⟩,
    ⟨some 14, .ld (.tmp 13), none⟩,
    ⟨some 15, .bin .geq (.tmp 14) (.const (.int .i64 0)), none⟩,
    ⟨some 16, .mov (.tmp 15), none⟩,
    ⟨some 17, .fad 4 (.tmp 1), some (16, true)⟩,
    ⟨some 18, .ld (.tmp 17), some (16, true)⟩,
    ⟨some 19, .bin .lss (.tmp 18) (.const (.int .i64 22)), some (16, true)⟩,
    ⟨some 20, .pick (.tmp 16) (.tmp 19) (.const (.bool false)), none⟩,
    ⟨some 2, .mov (.tmp 20), none⟩])
    .ret)
    (.seq (.seq (.region [
    ⟨some 22, .bin .eql (.tmp 4) (.const (.int .i64 4)), none⟩,
    ⟨some 21, .mov (.tmp 22), none⟩])
    (.cond (.tmp 21)
     .skip
     (.seq (.region [
     ⟨some 23, .bin .eql (.tmp 4) (.const (.int .i64 5)), none⟩,
     ⟨some 21, .mov (.tmp 23), none⟩])
     (.cond (.tmp 21)
      .skip
      (.region [
      ⟨some 24, .bin .eql (.tmp 4) (.const (.int .i64 6)), none⟩,
      ⟨some 21, .mov (.tmp 24), none⟩])))))
    (.cond (.tmp 21)
     (.seq (.region [
     ⟨some 25, .fad 4 (.tmp 1), none⟩,
     ⟨some 26, .ld (.tmp 25), none⟩,
     ⟨some 27, .bin .geq (.tmp 26) (.const (.int .i64 0)), none⟩,
     ⟨some 28, .mov (.tmp 27), none⟩,
     ⟨some 29, .fad 4 (.tmp 1), some (28, true)⟩,
     ⟨some 30, .ld (.tmp 29), some (28, true)⟩,
     ⟨some 31, .bin .leq (.tmp 30) (.const (.int .i64 64)), some (28, true)⟩,
     ⟨some 32, .pick (.tmp 28) (.tmp 31) (.const (.bool false)), none⟩,
     ⟨some 2, .mov (.tmp 32), none⟩])
     .ret)
     (.seq (.region [
     ⟨some 34, .bin .eql (.tmp 4) (.const (.int .i64 7)), none⟩,
     ⟨some 33, .mov (.tmp 34), none⟩])
     (.cond (.tmp 33)
      (.seq (.region [
      ⟨some 35, .fad 4 (.tmp 1), none⟩,
      ⟨some 36, .ld (.tmp 35), none⟩,
      ⟨some 37, .bin .geq (.tmp 36) (.const (.int .i64 1)), none⟩,
      ⟨some 38, .mov (.tmp 37), none⟩,
      ⟨some 39, .fad 4 (.tmp 1), some (38, true)⟩,
      ⟨some 40, .ld (.tmp 39), some (38, true)⟩,
      ⟨some 41, .bin .leq (.tmp 40) (.const (.int .i64 8)), some (38, true)⟩,
      ⟨some 42, .pick (.tmp 38) (.tmp 41) (.const (.bool false)), none⟩,
      ⟨some 2, .mov (.tmp 42), none⟩])
      .ret)
      (.seq (.region [
      ⟨some 44, .bin .eql (.tmp 4) (.const (.int .i64 14)), none⟩,
      ⟨some 43, .mov (.tmp 44), none⟩])
      (.cond (.tmp 43)
       (.seq (.region [
       ⟨some 45, .fad 4 (.tmp 1), none⟩,
       ⟨some 46, .ld (.tmp 45), none⟩,
       ⟨some 47, .bin .geq (.tmp 46) (.const (.int .i64 0)), none⟩,
       ⟨some 48, .mov (.tmp 47), none⟩,
       ⟨some 49, .fad 4 (.tmp 1), some (48, true)⟩,
       ⟨some 50, .ld (.tmp 49), some (48, true)⟩,
       ⟨some 51, .bin .lss (.tmp 50) (.const (.int .i64 4)), some (48, true)⟩,
       ⟨some 52, .pick (.tmp 48) (.tmp 51) (.const (.bool false)), none⟩,
       ⟨some 2, .mov (.tmp 52), none⟩])
       .ret)
       .skip))))))))))))
 (.seq (.region [
 ⟨some 53, .fad 4 (.tmp 1), none⟩,
 ⟨some 54, .ld (.tmp 53), none⟩,
 ⟨some 55, .bin .eql (.tmp 54) (.const (.int .i64 0)), none⟩,
 ⟨some 2, .mov (.tmp 55), none⟩])
 .ret))),
 [.tmp 2]⟩
theorem low_isa_number : lowFn Tryd.prog movers 57 = some ⟨ir_isa_number.n, strip ir_isa_number.body, ir_isa_number.res⟩ := by kernel_rfl

/-- strongtx/isa.Skips -/
def ir_isa_Skips : IFn := ⟨15,
 (.seq (.region [
 ⟨some 1, .box 31 (.tmp 0), none⟩,
 ⟨some 2, .mov (.const (.int .i64 0)), none⟩,
 ⟨some 3, .mov (.const (.bool false)), none⟩])
 (.seq (.seq (.region [
 ⟨some 4, .ldN 5 (.tmp 1), none⟩,
 ⟨some 5, .call 45 [(.tmp 4)], none⟩,
 ⟨some 6, .bin .eql (.tmp 5) (.const (.int .i64 0)), none⟩])
 (.cond (.tmp 6)
  (.seq (.region [
  ⟨some 7, .fad 0 (.tmp 1), none⟩,
  ⟨some 8, .ld (.tmp 7), none⟩])
  (.block 0
   (.seq (.seq (.region [
   ⟨some 10, .bin .eql (.tmp 8) (.const (.int .i64 4)), none⟩,
   ⟨some 9, .mov (.tmp 10), none⟩])
   (.cond (.tmp 9)
    .skip
    (.seq (.region [
    ⟨some 11, .bin .eql (.tmp 8) (.const (.int .i64 5)), none⟩,
    ⟨some 9, .mov (.tmp 11), none⟩])
    (.cond (.tmp 9)
     .skip
     (.region [
     ⟨some 12, .bin .eql (.tmp 8) (.const (.int .i64 6)), none⟩,
     ⟨some 9, .mov (.tmp 12), none⟩])))))
   (.cond (.tmp 9)
    (.seq (.region [
    ⟨some 13, .fad 4 (.tmp 1), none⟩,
    ⟨some 14, .ld (.tmp 13), none⟩,
    ⟨some 2, .mov (.tmp 14), none⟩,
    ⟨some 3, .mov (.const (.bool true)), none⟩])
    .ret)
    .skip))))
  .skip))
 (.seq (.region [
 ⟨some 2, .mov (.const (.int .i64 0)), none⟩,
 ⟨some 3, .mov (.const (.bool false)), none⟩])
 .ret))),
 [.tmp 2, .tmp 3]⟩
theorem low_isa_Skips : lowFn Tryd.prog movers 58 = some ⟨ir_isa_Skips.n, strip ir_isa_Skips.body, ir_isa_Skips.res⟩ := by kernel_rfl

/-- strongtx/program.into -/
def ir_program_into : IFn := ⟨32,
 (.seq (.region [
 ⟨some 6, .mov (.const (.bool false)), none⟩])
 (.seq (.seq (.region [
 ⟨some 8, .mov (.tmp 1), none⟩,
 ⟨some 9, .bin .add (.tmp 8) (.const (.int .i64 1)), none⟩,
 ⟨some 7, .mov (.tmp 9), none⟩])
 (.block 0
  (.loop 4294966464
   (.seq (.seq (.region [
   ⟨some 10, .mov (.tmp 7), none⟩,
   ⟨some 11, .mov (.tmp 2), none⟩,
   ⟨some 12, .bin .lss (.tmp 10) (.tmp 11), none⟩])
   (.cond (.tmp 12)
    .skip
    (.exit 0)))
   (.seq (.block 1
    (.seq (.region [
    ⟨some 15, .mov (.tmp 0), none⟩,
    ⟨some 16, .mov (.tmp 7), none⟩,
    ⟨some 17, .ixs 5 (.tmp 15) (.tmp 16), none⟩,
    ⟨some 18, .fad 0 (.tmp 17), none⟩,
    ⟨some 19, .ld (.tmp 18), none⟩,
    ⟨some 20, .bin .eql (.tmp 19) (.const (.int .i64 7)), none⟩,
    ⟨some 21, .mov (.tmp 20), none⟩,
    ⟨some 22, .mov (.tmp 2), some (21, true)⟩,
    ⟨some 23, .mov (.tmp 0), some (21, true)⟩,
    ⟨some 24, .mov (.tmp 7), some (21, true)⟩,
    ⟨some 25, .call 27 [(.tmp 23), (.tmp 24)], some (21, true)⟩,
    ⟨some 26, .mov (.tmp 0), some (21, true)⟩,
    ⟨some 27, .len (.tmp 26), some (21, true)⟩,
    ⟨some 28, .bin .sub (.tmp 27) (.const (.int .i64 1)), some (21, true)⟩,
    ⟨some 29, .mm false (.tmp 25) (.tmp 28), some (21, true)⟩,
    ⟨some 30, .bin .leq (.tmp 22) (.tmp 29), some (21, true)⟩,
    ⟨some 31, .pick (.tmp 21) (.tmp 30) (.const (.bool false)), none⟩])
    (.cond (.tmp 31)
     (.seq (.region [
     ⟨some 6, .mov (.const (.bool true)), none⟩])
     .ret)
     .skip)))
   (.region [
   ⟨some 13, .mov (.tmp 7), none⟩,
   ⟨some 14, .bin .add (.tmp 13) (.const (.int .i64 1)), none⟩,
   ⟨some 7, .mov (.tmp 14), none⟩]))))))
 (.seq (.region [
 ⟨some 6, .mov (.const (.bool false)), none⟩])
 .ret))),
 [.tmp 6]⟩
theorem low_program_into : lowFn Tryd.prog movers 59 = some ⟨ir_program_into.n, strip ir_program_into.body, ir_program_into.res⟩ := by kernel_rfl

/-- strings.Index -/
def ir_strings_Index : IFn := ⟨8,
 (.seq (.region [
 ⟨some 4, .mov (.const (.int .i64 0)), none⟩])
 (.seq (.region [
 ⟨some 5, .mov (.tmp 0), none⟩,
 ⟨some 6, .mov (.tmp 1), none⟩,
 ⟨some 7, .call 61 [(.tmp 5), (.tmp 6)], none⟩,
 ⟨some 4, .mov (.tmp 7), none⟩])
 .ret)),
 [.tmp 4]⟩
theorem low_strings_Index : lowFn Tryd.prog movers 60 = some ⟨ir_strings_Index.n, strip ir_strings_Index.body, ir_strings_Index.res⟩ := by kernel_rfl

/-- internal/stringslite.Index -/
def ir_internal_stringslite_Index : IFn := ⟨143,
 (.seq (.region [
 ⟨some 4, .mov (.const (.int .i64 0)), none⟩])
 (.seq (.region [
 ⟨some 14, .mov (.tmp 1), none⟩,
 ⟨some 15, .lens (.tmp 14), none⟩,
 ⟨some 5, .mov (.tmp 15), none⟩])
 (.seq (.block 0
  (.seq (.region [
  ⟨some 17, .mov (.tmp 5), none⟩,
  ⟨some 18, .bin .eql (.tmp 17) (.const (.int .i64 0)), none⟩,
  ⟨some 19, .mov (.tmp 18), none⟩,
  ⟨some 20, .mov (.tmp 1), some (19, false)⟩,
  ⟨some 21, .mov (.tmp 0), some (19, false)⟩,
  ⟨some 22, .sbin .eql (.tmp 20) (.tmp 21), some (19, false)⟩,
  ⟨some 23, .pick (.tmp 19) (.const (.bool true)) (.tmp 22), none⟩,
  ⟨some 16, .mov (.tmp 23), none⟩])
  (.cond (.tmp 16)
   (.seq (.region [
   ⟨some 4, .mov (.const (.int .i64 0)), none⟩])
   .ret)
   (.seq (.region [
   ⟨some 25, .mov (.tmp 5), none⟩,
   ⟨some 26, .bin .eql (.tmp 25) (.const (.int .i64 1)), none⟩,
   ⟨some 24, .mov (.tmp 26), none⟩])
   (.cond (.tmp 24)
    (.seq (.region [
    ⟨some 27, .mov (.tmp 0), none⟩,
    ⟨some 28, .mov (.tmp 1), none⟩,
    ⟨some 29, .sidx (.tmp 28) (.const (.int .i64 0)), none⟩,
    ⟨some 30, .call 62 [(.tmp 27), (.tmp 29)], none⟩,
    ⟨some 4, .mov (.tmp 30), none⟩])
    .ret)
    (.seq (.region [
    ⟨some 32, .mov (.tmp 5), none⟩,
    ⟨some 33, .mov (.tmp 0), none⟩,
    ⟨some 34, .lens (.tmp 33), none⟩,
    ⟨some 35, .bin .geq (.tmp 32) (.tmp 34), none⟩,
    ⟨some 31, .mov (.tmp 35), none⟩])
    (.cond (.tmp 31)
     (.seq (.region [
     ⟨some 4, .mov (.const (.int .i64 (-1))), none⟩])
     .ret)
     (.seq (.region [
     ⟨some 37, .mov (.tmp 5), none⟩,
     ⟨some 38, .ld (.global 1), none⟩,
     ⟨some 39, .bin .leq (.tmp 37) (.tmp 38), none⟩,
     ⟨some 40, .mov (.tmp 39), none⟩,
     ⟨some 41, .mov (.tmp 0), some (40, true)⟩,
     ⟨some 42, .lens (.tmp 41), some (40, true)⟩,
     ⟨some 43, .bin .leq (.tmp 42) (.const (.int .i64 64)), some (40, true)⟩,
     ⟨some 44, .pick (.tmp 40) (.tmp 43) (.const (.bool false)), none⟩,
     ⟨some 36, .mov (.tmp 44), none⟩])
     (.cond (.tmp 36)
      (.seq (.region [
      ⟨some 45, .mov (.tmp 0), none⟩,
      ⟨some 46, .mov (.tmp 1), none⟩,
      ⟨some 47, .bad, none⟩,
      ⟨some 4, .mov (.tmp 47), none⟩])
      .ret)
      .skip)))))))))
 (.seq (.region [
 ⟨some 48, .mov (.tmp 1), none⟩,
 ⟨some 49, .sidx (.tmp 48) (.const (.int .i64 0)), none⟩,
 ⟨some 6, .mov (.tmp 49), none⟩])
 (.seq (.region [
 ⟨some 50, .mov (.tmp 1), none⟩,
 ⟨some 51, .sidx (.tmp 50) (.const (.int .i64 1)), none⟩,
 ⟨some 7, .mov (.tmp 51), none⟩])
 (.seq (.region [
 ⟨some 8, .mov (.const (.int .i64 0)), none⟩])
 (.seq (.region [
 ⟨some 52, .mov (.tmp 0), none⟩,
 ⟨some 53, .lens (.tmp 52), none⟩,
 ⟨some 54, .mov (.tmp 5), none⟩,
 ⟨some 55, .bin .sub (.tmp 53) (.tmp 54), none⟩,
 ⟨some 56, .bin .add (.tmp 55) (.const (.int .i64 1)), none⟩,
 ⟨some 9, .mov (.tmp 56), none⟩])
 (.seq (.region [
 ⟨some 10, .mov (.const (.int .i64 0)), none⟩])
 (.seq (.block 1
  (.loop 11150372599265311570767858992208992677149968
   (.seq (.seq (.region [
   ⟨some 57, .mov (.tmp 8), none⟩,
   ⟨some 58, .mov (.tmp 9), none⟩,
   ⟨some 59, .bin .lss (.tmp 57) (.tmp 58), none⟩])
   (.cond (.tmp 59)
    .skip
    (.exit 1)))
   (.block 2
    (.seq (.seq (.region [
    ⟨some 60, .mov (.tmp 0), none⟩,
    ⟨some 61, .mov (.tmp 8), none⟩,
    ⟨some 62, .sidx (.tmp 60) (.tmp 61), none⟩,
    ⟨some 63, .mov (.tmp 6), none⟩,
    ⟨some 64, .bin .neq (.tmp 62) (.tmp 63), none⟩])
    (.cond (.tmp 64)
     (.seq (.region [
     ⟨some 65, .mov (.tmp 0), none⟩,
     ⟨some 66, .mov (.tmp 8), none⟩,
     ⟨some 67, .bin .add (.tmp 66) (.const (.int .i64 1)), none⟩,
     ⟨some 68, .mov (.tmp 9), none⟩,
     ⟨some 69, .sslc (.tmp 65) (some (.tmp 67)) (some (.tmp 68)), none⟩,
     ⟨some 70, .mov (.tmp 6), none⟩,
     ⟨some 71, .call 62 [(.tmp 69), (.tmp 70)], none⟩,
     ⟨some 11, .mov (.tmp 71), none⟩])
     (.seq (.seq (.region [
     ⟨some 72, .mov (.tmp 11), none⟩,
     ⟨some 73, .bin .lss (.tmp 72) (.const (.int .i64 0)), none⟩])
     (.cond (.tmp 73)
      (.seq (.region [
      ⟨some 4, .mov (.const (.int .i64 (-1))), none⟩])
      .ret)
      .skip))
     (.region [
     ⟨some 74, .mov (.tmp 8), none⟩,
     ⟨some 75, .mov (.tmp 11), none⟩,
     ⟨some 76, .bin .add (.tmp 75) (.const (.int .i64 1)), none⟩,
     ⟨some 77, .bin .add (.tmp 74) (.tmp 76), none⟩,
     ⟨some 8, .mov (.tmp 77), none⟩])))
     .skip))
    (.seq (.seq (.region [
    ⟨some 78, .mov (.tmp 0), none⟩,
    ⟨some 79, .mov (.tmp 8), none⟩,
    ⟨some 80, .bin .add (.tmp 79) (.const (.int .i64 1)), none⟩,
    ⟨some 81, .sidx (.tmp 78) (.tmp 80), none⟩,
    ⟨some 82, .mov (.tmp 7), none⟩,
    ⟨some 83, .bin .eql (.tmp 81) (.tmp 82), none⟩,
    ⟨some 84, .mov (.tmp 83), none⟩,
    ⟨some 85, .mov (.tmp 0), some (84, true)⟩,
    ⟨some 86, .mov (.tmp 8), some (84, true)⟩,
    ⟨some 87, .mov (.tmp 8), some (84, true)⟩,
    ⟨some 88, .mov (.tmp 5), some (84, true)⟩,
    ⟨some 89, .bin .add (.tmp 87) (.tmp 88), some (84, true)⟩,
    ⟨some 90, .sslc (.tmp 85) (some (.tmp 86)) (some (.tmp 89)), some (84, true)⟩,
    ⟨some 91, .mov (.tmp 1), some (84, true)⟩,
    ⟨some 92, .sbin .eql (.tmp 90) (.tmp 91), some (84, true)⟩,
    ⟨some 93, .pick (.tmp 84) (.tmp 92) (.const (.bool false)), none⟩])
    (.cond (.tmp 93)
     (.seq (.region [
     ⟨some 94, .mov (.tmp 8), none⟩,
     ⟨some 4, .mov (.tmp 94), none⟩])
     .ret)
     .skip))
    (.seq (.region [
    ⟨some 95, .mov (.tmp 8), none⟩,
    ⟨some 96, .bin .add (.tmp 95) (.const (.int .i64 1)), none⟩,
    ⟨some 8, .mov (.tmp 96), none⟩])
    (.seq (.region [
    ⟨some 97, .mov (.tmp 10), none⟩,
    ⟨some 98, .bin .add (.tmp 97) (.const (.int .i64 1)), none⟩,
    ⟨some 10, .mov (.tmp 98), none⟩])
    (.seq (.region [
    ⟨some 99, .mov (.tmp 5), none⟩,
    ⟨some 100, .ld (.global 1), none⟩,
    ⟨some 101, .bin .leq (.tmp 99) (.tmp 100), none⟩,
    ⟨some 102, .mov (.tmp 101), none⟩,
    ⟨some 103, .mov (.tmp 10), some (102, true)⟩,
    ⟨some 104, .mov (.tmp 8), some (102, true)⟩,
    ⟨some 105, .call 64 [(.tmp 104)], some (102, true)⟩,
    ⟨some 106, .bin .gtr (.tmp 103) (.tmp 105), some (102, true)⟩,
    ⟨some 107, .pick (.tmp 102) (.tmp 106) (.const (.bool false)), none⟩])
    (.cond (.tmp 107)
     (.seq (.region [
     ⟨some 108, .mov (.tmp 0), none⟩,
     ⟨some 109, .mov (.tmp 8), none⟩,
     ⟨some 110, .sslc (.tmp 108) (some (.tmp 109)) none, none⟩,
     ⟨some 111, .mov (.tmp 1), none⟩,
     ⟨some 112, .bad, none⟩,
     ⟨some 12, .mov (.tmp 112), none⟩])
     (.seq (.seq (.region [
     ⟨some 113, .mov (.tmp 12), none⟩,
     ⟨some 114, .bin .geq (.tmp 113) (.const (.int .i64 0)), none⟩])
     (.cond (.tmp 114)
      (.seq (.region [
      ⟨some 115, .mov (.tmp 12), none⟩,
      ⟨some 116, .mov (.tmp 8), none⟩,
      ⟨some 117, .bin .add (.tmp 115) (.tmp 116), none⟩,
      ⟨some 4, .mov (.tmp 117), none⟩])
      .ret)
      .skip))
     (.seq (.region [
     ⟨some 4, .mov (.const (.int .i64 (-1))), none⟩])
     .ret)))
     (.seq (.region [
     ⟨some 118, .mov (.tmp 5), none⟩,
     ⟨some 119, .ld (.global 1), none⟩,
     ⟨some 120, .bin .gtr (.tmp 118) (.tmp 119), none⟩,
     ⟨some 121, .mov (.tmp 120), none⟩,
     ⟨some 122, .mov (.tmp 10), some (121, true)⟩,
     ⟨some 123, .mov (.tmp 8), some (121, true)⟩,
     ⟨some 124, .bin .shr (.tmp 123) (.const (.int .u64 4)), some (121, true)⟩,
     ⟨some 125, .bin .add (.const (.int .i64 4)) (.tmp 124), some (121, true)⟩,
     ⟨some 126, .bin .geq (.tmp 122) (.tmp 125), some (121, true)⟩,
     ⟨some 127, .pick (.tmp 121) (.tmp 126) (.const (.bool false)), none⟩,
     ⟨some 128, .mov (.tmp 127), none⟩,
     ⟨some 129, .mov (.tmp 8), some (128, true)⟩,
     ⟨some 130, .mov (.tmp 9), some (128, true)⟩,
     ⟨some 131, .bin .lss (.tmp 129) (.tmp 130), some (128, true)⟩,
     ⟨some 132, .pick (.tmp 128) (.tmp 131) (.const (.bool false)), none⟩])
     (.cond (.tmp 132)
      (.seq (.region [
      ⟨some 133, .mov (.tmp 0), none⟩,
      ⟨some 134, .mov (.tmp 8), none⟩,
      ⟨some 135, .sslc (.tmp 133) (some (.tmp 134)) none, none⟩,
      ⟨some 136, .mov (.tmp 1), none⟩,
      ⟨some 137, .call 65 [(.tmp 135), (.tmp 136)], none⟩,
      ⟨some 13, .mov (.tmp 137), none⟩])
      (.seq (.seq (.region [
      ⟨some 138, .mov (.tmp 13), none⟩,
      ⟨some 139, .bin .lss (.tmp 138) (.const (.int .i64 0)), none⟩])
      (.cond (.tmp 139)
       (.seq (.region [
       ⟨some 4, .mov (.const (.int .i64 (-1))), none⟩])
       .ret)
       .skip))
      (.seq (.region [
      ⟨some 140, .mov (.tmp 8), none⟩,
      ⟨some 141, .mov (.tmp 13), none⟩,
      ⟨some 142, .bin .add (.tmp 140) (.tmp 141), none⟩,
      ⟨some 4, .mov (.tmp 142), none⟩])
      .ret)))
      .skip))))))))))))
 (.seq (.region [
 ⟨some 4, .mov (.const (.int .i64 (-1))), none⟩])
 .ret)))))))))),
 [.tmp 4]⟩
theorem low_internal_stringslite_Index : lowFn Tryd.prog movers 61 = some ⟨ir_internal_stringslite_Index.n, strip ir_internal_stringslite_Index.body, ir_internal_stringslite_Index.res⟩ := by kernel_rfl

/-- internal/stringslite.IndexByte -/
def ir_internal_stringslite_IndexByte : IFn := ⟨8,
 (.seq (.region [
 ⟨some 4, .mov (.const (.int .i64 0)), none⟩])
 (.seq (.region [
 ⟨some 5, .mov (.tmp 0), none⟩,
 ⟨some 6, .mov (.tmp 1), none⟩,
 ⟨some 7, .ibs (.tmp 5) (.tmp 6), none⟩,
 ⟨some 4, .mov (.tmp 7), none⟩])
 .ret)),
 [.tmp 4]⟩
theorem low_internal_stringslite_IndexByte : lowFn Tryd.prog movers 62 = some ⟨ir_internal_stringslite_IndexByte.n, strip ir_internal_stringslite_IndexByte.body, ir_internal_stringslite_IndexByte.res⟩ := by kernel_rfl
end Go.Proofs.YtcgdhdbhebcbkaaDoor
