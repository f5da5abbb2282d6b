/- What the laws share, part 9. No condition. -/
import Derived.Test.YtiimndcifcoofaaGreatDoorRows
import Derived.Test.YtiimndcifcoofaaGreatDoorY8
namespace Go.Proofs.YtiimndcifcoofaaGreatDoor
open Go
set_option maxRecDepth 100000
theorem mixed : Tryz.prog.follows .mixedOrders = true := by kernel_rfl
def movers : List Nat := [16, 17, 24, 25, 29, 32, 45, 46, 47, 49, 50, 52, 57, 58, 69, 73, 75, 76, 81, 105]
end Go.Proofs.YtiimndcifcoofaaGreatDoor
namespace Go.Proofs.YtiimndcifcoofaaGreatDoor
open Go
set_option maxRecDepth 100000
def ir_isa_Format : IFn := ⟨71,
 (.seq (.region [
 ⟨some 1, .box 23 (.tmp 0), none⟩,
 ⟨some 2, .mov (.const (.string ⟨#[]⟩)), none⟩,
 ⟨some 3, .mov (.const (.int .i64 0)), none⟩])
 (.seq (.seq (.region [
 ⟨some 9, .ldN 5 (.tmp 1), none⟩,
 ⟨some 10, .call 13 [(.tmp 9)], none⟩,
 ⟨some 4, .mov (.tmp 10), none⟩])
 (.seq (.region [
 ⟨some 11, .mov (.tmp 4), none⟩,
 ⟨some 12, .bin .neq (.tmp 11) (.const (.int .i64 0)), none⟩])
 (.cond (.tmp 12)
  (.seq (.region [
  ⟨some 13, .mov (.tmp 4), none⟩,
  ⟨some 2, .mov (.const (.string ⟨#[]⟩)), none⟩,
  ⟨some 3, .mov (.tmp 13), none⟩])
  .ret)
  .skip)))
 (.seq (.region [
 ⟨some 14, .fad 0 (.tmp 1), none⟩,
 ⟨some 15, .ld (.tmp 14), none⟩,
 ⟨some 16, .ixa 18 2 (.global 0) (.tmp 15), none⟩,
 ⟨some 17, .ldN 2 (.tmp 16), none⟩,
 ⟨some 5, .new 53 (.agg #[.string ⟨#[]⟩, .string ⟨#[]⟩]), none⟩,
 ⟨none, .stN 2 (.tmp 5) (.tmp 17), none⟩])
 (.seq (.region [
 ⟨some 18, .fad 0 (.tmp 5), none⟩,
 ⟨some 19, .ld (.tmp 18), none⟩,
 ⟨some 20, .blds 9 1 [(.string ⟨#[]⟩)] [(0, 1, (.tmp 19))], none⟩,
 ⟨some 6, .mov (.tmp 20), none⟩])
 (.seq (.seq (.region [
 ⟨some 21, .fad 0 (.tmp 1), none⟩,
 ⟨some 22, .ld (.tmp 21), none⟩,
 ⟨some 23, .bin .eql (.tmp 22) (.const (.int .i64 3)), none⟩])
 (.cond (.tmp 23)
  (.region [
  ⟨some 24, .mov (.tmp 6), none⟩,
  ⟨some 25, .fad 4 (.tmp 1), none⟩,
  ⟨some 26, .ld (.tmp 25), none⟩,
  ⟨some 27, .call 35 [(.tmp 26)], none⟩,
  ⟨some 28, .ixs 1 (.tmp 24) (.const (.int .i64 0)), none⟩,
  ⟨none, .st (.tmp 28) (.tmp 27), none⟩])
  .skip))
 (.seq (.seq (.region [
 ⟨some 29, .fad 1 (.tmp 5), none⟩,
 ⟨some 30, .ld (.tmp 29), none⟩,
 ⟨some 31, .iter (.tmp 30), none⟩])
 (.block 0
  (.loop 590295810354410684736
   (.seq (.region [
   ⟨some 32, .next (.tmp 31), none⟩,
   ⟨some 33, .ext (.tmp 32) 0, none⟩])
   (.seq (.cond (.tmp 33)
    .skip
    (.exit 0))
   (.block 1
    (.seq (.region [
    ⟨some 34, .ext (.tmp 32) 2, none⟩,
    ⟨some 8, .mov (.tmp 34), none⟩])
    (.seq (.region [
    ⟨some 35, .mov (.tmp 8), none⟩])
    (.block 2
     (.seq (.region [
     ⟨some 43, .bin .eql (.tmp 35) (.const (.int .i32 65)), none⟩,
     ⟨some 42, .mov (.tmp 43), none⟩])
     (.cond (.tmp 42)
      (.region [
      ⟨some 44, .mov (.tmp 6), none⟩,
      ⟨some 45, .fad 1 (.tmp 1), none⟩,
      ⟨some 46, .ld (.tmp 45), none⟩,
      ⟨some 47, .call 36 [(.tmp 46)], none⟩,
      ⟨some 48, .scat (.const (.string ⟨#[114]⟩)) (.tmp 47), none⟩,
      ⟨some 49, .blds 9 1 [(.string ⟨#[]⟩)] [(0, 1, (.tmp 48))], none⟩,
      ⟨some 50, .app 9 1 16 [(.string ⟨#[]⟩)] (.tmp 44) (.tmp 49), none⟩,
      ⟨some 6, .mov (.tmp 50), none⟩])
      (.seq (.region [
      ⟨some 52, .bin .eql (.tmp 35) (.const (.int .i32 66)), none⟩,
      ⟨some 51, .mov (.tmp 52), none⟩])
      (.cond (.tmp 51)
       (.region [
       ⟨some 53, .mov (.tmp 6), none⟩,
       ⟨some 54, .fad 2 (.tmp 1), none⟩,
       ⟨some 55, .ld (.tmp 54), none⟩,
       ⟨some 56, .call 36 [(.tmp 55)], none⟩,
       ⟨some 57, .scat (.const (.string ⟨#[114]⟩)) (.tmp 56), none⟩,
       ⟨some 58, .blds 9 1 [(.string ⟨#[]⟩)] [(0, 1, (.tmp 57))], none⟩,
       ⟨some 59, .app 9 1 16 [(.string ⟨#[]⟩)] (.tmp 53) (.tmp 58), none⟩,
       ⟨some 6, .mov (.tmp 59), none⟩])
       (.seq (.region [
       ⟨some 61, .bin .eql (.tmp 35) (.const (.int .i32 67)), none⟩,
       ⟨some 60, .mov (.tmp 61), none⟩])
       (.cond (.tmp 60)
        (.region [
        ⟨some 62, .mov (.tmp 6), none⟩,
        ⟨some 63, .fad 3 (.tmp 1), none⟩,
        ⟨some 64, .ld (.tmp 63), none⟩,
        ⟨some 65, .call 36 [(.tmp 64)], none⟩,
        ⟨some 66, .scat (.const (.string ⟨#[114]⟩)) (.tmp 65), none⟩,
        ⟨some 67, .blds 9 1 [(.string ⟨#[]⟩)] [(0, 1, (.tmp 66))], none⟩,
        ⟨some 68, .app 9 1 16 [(.string ⟨#[]⟩)] (.tmp 62) (.tmp 67), none⟩,
        ⟨some 6, .mov (.tmp 68), none⟩])
        (.region [
        ⟨some 36, .mov (.tmp 6), none⟩,
        ⟨some 37, .fad 4 (.tmp 1), none⟩,
        ⟨some 38, .ld (.tmp 37), none⟩,
        ⟨some 39, .call 36 [(.tmp 38)], none⟩,
        ⟨some 40, .blds 9 1 [(.string ⟨#[]⟩)] [(0, 1, (.tmp 39))], none⟩,
        ⟨some 41, .app 9 1 16 [(.string ⟨#[]⟩)] (.tmp 36) (.tmp 40), none⟩,
        ⟨some 6, .mov (.tmp 41), none⟩]))))))))))))))))
 (.seq (.region [
 ⟨some 69, .mov (.tmp 6), none⟩,
 ⟨some 70, .call 37 [(.tmp 69), (.const (.string ⟨#[32]⟩))], none⟩,
 ⟨some 2, .mov (.tmp 70), none⟩,
 ⟨some 3, .mov (.const (.int .i64 0)), none⟩])
 .ret))))))),
 [.tmp 2, .tmp 3]⟩
theorem low_isa_Format : lowFn Tryz.prog movers 11 = some ⟨ir_isa_Format.n, strip ir_isa_Format.body, ir_isa_Format.res⟩ := by kernel_rfl
def ir_isa_Check : IFn := ⟨56,
 (.seq (.region [
 ⟨some 1, .box 23 (.tmp 0), none⟩,
 ⟨some 2, .mov (.const (.int .i64 0)), none⟩])
 (.seq (.seq (.region [
 ⟨some 6, .fad 0 (.tmp 1), none⟩,
 ⟨some 7, .ld (.tmp 6), none⟩,
 ⟨some 8, .bin .lss (.tmp 7) (.const (.int .i64 0)), none⟩,
 ⟨some 9, .mov (.tmp 8), none⟩,
 ⟨some 10, .fad 0 (.tmp 1), some (9, false)⟩,
 ⟨some 11, .ld (.tmp 10), some (9, false)⟩,
 ⟨some 12, .bin .geq (.tmp 11) (.const (.int .i64 18)), some (9, false)⟩,
 ⟨some 13, .pick (.tmp 9) (.const (.bool true)) (.tmp 12), none⟩])
 (.cond (.tmp 13)
  (.seq (.region [
  ⟨some 2, .mov (.const (.int .i64 10)), none⟩])
  .ret)
  .skip))
 (.seq (.seq (.region [
 ⟨some 14, .fad 1 (.tmp 1), none⟩,
 ⟨some 15, .ld (.tmp 14), none⟩,
 ⟨some 16, .fad 2 (.tmp 1), none⟩,
 ⟨some 17, .ld (.tmp 16), none⟩,
 ⟨some 18, .fad 3 (.tmp 1), none⟩,
 ⟨some 19, .ld (.tmp 18), none⟩,
 ⟨some 20, .bld [(.int .i64 0), (.int .i64 0), (.int .i64 0)] [(0, 1, (.tmp 15)), (1, 1, (.tmp 17)), (2, 1, (.tmp 19))], none⟩,
 ⟨some 21, .mov (.const (.int .i64 0)), none⟩])
 (.block 0
  (.loop 9007199252643900
   (.seq (.region [
   ⟨some 22, .bin .lss (.tmp 21) (.const (.int .i64 3)), none⟩])
   (.seq (.cond (.tmp 22)
    .skip
    (.exit 0))
   (.seq (.block 1
    (.seq (.region [
    ⟨some 23, .mov (.tmp 21), none⟩,
    ⟨some 24, .idx 3 (.tmp 20) (.tmp 21), none⟩,
    ⟨some 3, .mov (.tmp 23), none⟩,
    ⟨some 4, .mov (.tmp 24), none⟩])
    (.seq (.draw (.f ⟨some 25, .fad 0 (.tmp 1), none⟩
    (.f ⟨some 26, .ld (.tmp 25), none⟩
    (.f ⟨some 27, .ixa 18 2 (.global 0) (.tmp 26), none⟩
    (.f ⟨some 28, .fad 1 (.tmp 27), none⟩
    (.f ⟨some 29, .ld (.tmp 28), none⟩
    (.f ⟨some 30, .mov (.tmp 3), none⟩
    (.f ⟨some 31, .mov (.tmp 3), none⟩
    (.f ⟨some 32, .bin .add (.tmp 31) (.const (.int .i64 1)), none⟩
    (.f ⟨some 33, .sslc (.const (.string ⟨#[65, 66, 67]⟩)) (some (.tmp 30)) (some (.tmp 32)), none⟩
    (.f ⟨some 34, .call 42 [(.tmp 29), (.tmp 33)], none⟩
    (.f ⟨some 5, .mov (.tmp 34), none⟩
    .done))))))))))))
    (.seq (.region [
    ⟨some 35, .mov (.tmp 5), none⟩,
    ⟨some 36, .mov (.tmp 35), none⟩,
    ⟨some 37, .mov (.tmp 4), some (36, true)⟩,
    ⟨some 38, .bin .lss (.tmp 37) (.const (.int .i64 0)), some (36, true)⟩,
    ⟨some 39, .mov (.tmp 38), some (36, true)⟩,
    ⟨some 40, .mov (.tmp 4), some (39, false)⟩,
    ⟨some 41, .bin .geq (.tmp 40) (.const (.int .i64 8)), some (39, false)⟩,
    ⟨some 42, .pick (.tmp 39) (.const (.bool true)) (.tmp 41), some (36, true)⟩,
    ⟨some 43, .pick (.tmp 36) (.tmp 42) (.const (.bool false)), none⟩,
    ⟨some 44, .mov (.tmp 43), none⟩,
    ⟨some 45, .mov (.tmp 5), some (44, false)⟩,
    ⟨some 46, .not (.tmp 45), some (44, false)⟩,
    ⟨some 47, .mov (.tmp 46), some (44, false)⟩,
    ⟨some 48, .mov (.tmp 4), some (47, true)⟩,
    ⟨some 49, .bin .neq (.tmp 48) (.const (.int .i64 0)), some (47, true)⟩,
    ⟨some 50, .pick (.tmp 47) (.tmp 49) (.const (.bool false)), some (44, false)⟩,
    ⟨some 51, .pick (.tmp 44) (.const (.bool true)) (.tmp 50), none⟩])
    (.cond (.tmp 51)
     (.seq (.region [
     ⟨some 2, .mov (.const (.int .i64 11)), none⟩])
     .ret)
     .skip)))))
   (.region [
   ⟨some 52, .bin .add (.tmp 21) (.const (.int .i64 1)), none⟩,
   ⟨some 21, .mov (.tmp 52), none⟩])))))))
 (.seq (.seq (.region [
 ⟨some 53, .ldN 5 (.tmp 1), none⟩,
 ⟨some 54, .call 43 [(.tmp 53)], none⟩,
 ⟨some 55, .not (.tmp 54), none⟩])
 (.cond (.tmp 55)
  (.seq (.region [
  ⟨some 2, .mov (.const (.int .i64 11)), none⟩])
  .ret)
  .skip))
 (.seq (.region [
 ⟨some 2, .mov (.const (.int .i64 0)), none⟩])
 .ret))))),
 [.tmp 2]⟩
theorem low_isa_Check : lowFn Tryz.prog movers 13 = some ⟨ir_isa_Check.n, strip ir_isa_Check.body, ir_isa_Check.res⟩ := by kernel_rfl
def ir_isa_number : IFn := ⟨56,
 (.seq (.region [
 ⟨some 1, .box 23 (.tmp 0), none⟩,
 ⟨some 2, .mov (.const (.bool false)), none⟩])
 (.seq (.seq (.region [
 ⟨some 3, .fad 0 (.tmp 1), none⟩,
 ⟨some 4, .ld (.tmp 3), none⟩])
 (.block 0
  (.seq (.seq (.region [
  ⟨some 6, .bin .eql (.tmp 4) (.const (.int .i64 1)), none⟩,
  ⟨some 5, .mov (.tmp 6), none⟩])
  (.cond (.tmp 5)
   .skip
   (.seq (.region [
   ⟨some 7, .bin .eql (.tmp 4) (.const (.int .i64 10)), none⟩,
   ⟨some 5, .mov (.tmp 7), none⟩])
   (.cond (.tmp 5)
    .skip
    (.seq (.region [
    ⟨some 8, .bin .eql (.tmp 4) (.const (.int .i64 11)), none⟩,
    ⟨some 5, .mov (.tmp 8), none⟩])
    (.cond (.tmp 5)
     .skip
     (.seq (.region [
     ⟨some 9, .bin .eql (.tmp 4) (.const (.int .i64 12)), none⟩,
     ⟨some 5, .mov (.tmp 9), none⟩])
     (.cond (.tmp 5)
      .skip
      (.region [
      ⟨some 10, .bin .eql (.tmp 4) (.const (.int .i64 13)), none⟩,
      ⟨some 5, .mov (.tmp 10), none⟩])))))))))
  (.cond (.tmp 5)
   (.seq (.region [
   ⟨some 2, .mov (.const (.bool true)), none⟩])
   .ret)
   (.seq (.region [
   ⟨some 12, .bin .eql (.tmp 4) (.const (.int .i64 3)), none⟩,
   ⟨some 11, .mov (.tmp 12), none⟩])
   (.cond (.tmp 11)
    (.seq (.region [
    ⟨some 13, .fad 4 (.tmp 1), none⟩,
    ⟨some 14, .ld (.tmp 13), none⟩,
    ⟨some 15, .bin .geq (.tmp 14) (.const (.int .i64 0)), none⟩,
    ⟨some 16, .mov (.tmp 15), none⟩,
    ⟨some 17, .fad 4 (.tmp 1), some (16, true)⟩,
    ⟨some 18, .ld (.tmp 17), some (16, true)⟩,
    ⟨some 19, .bin .lss (.tmp 18) (.const (.int .i64 22)), some (16, true)⟩,
    ⟨some 20, .pick (.tmp 16) (.tmp 19) (.const (.bool false)), none⟩,
    ⟨some 2, .mov (.tmp 20), none⟩])
    .ret)
    (.seq (.seq (.region [
    ⟨some 22, .bin .eql (.tmp 4) (.const (.int .i64 4)), none⟩,
    ⟨some 21, .mov (.tmp 22), none⟩])
    (.cond (.tmp 21)
     .skip
     (.seq (.region [
     ⟨some 23, .bin .eql (.tmp 4) (.const (.int .i64 5)), none⟩,
     ⟨some 21, .mov (.tmp 23), none⟩])
     (.cond (.tmp 21)
      .skip
      (.region [
      ⟨some 24, .bin .eql (.tmp 4) (.const (.int .i64 6)), none⟩,
      ⟨some 21, .mov (.tmp 24), none⟩])))))
    (.cond (.tmp 21)
     (.seq (.region [
     ⟨some 25, .fad 4 (.tmp 1), none⟩,
     ⟨some 26, .ld (.tmp 25), none⟩,
     ⟨some 27, .bin .geq (.tmp 26) (.const (.int .i64 0)), none⟩,
     ⟨some 28, .mov (.tmp 27), none⟩,
     ⟨some 29, .fad 4 (.tmp 1), some (28, true)⟩,
     ⟨some 30, .ld (.tmp 29), some (28, true)⟩,
     ⟨some 31, .bin .leq (.tmp 30) (.const (.int .i64 64)), some (28, true)⟩,
     ⟨some 32, .pick (.tmp 28) (.tmp 31) (.const (.bool false)), none⟩,
     ⟨some 2, .mov (.tmp 32), none⟩])
     .ret)
     (.seq (.region [
     ⟨some 34, .bin .eql (.tmp 4) (.const (.int .i64 7)), none⟩,
     ⟨some 33, .mov (.tmp 34), none⟩])
     (.cond (.tmp 33)
      (.seq (.region [
      ⟨some 35, .fad 4 (.tmp 1), none⟩,
      ⟨some 36, .ld (.tmp 35), none⟩,
      ⟨some 37, .bin .geq (.tmp 36) (.const (.int .i64 1)), none⟩,
      ⟨some 38, .mov (.tmp 37), none⟩,
      ⟨some 39, .fad 4 (.tmp 1), some (38, true)⟩,
      ⟨some 40, .ld (.tmp 39), some (38, true)⟩,
      ⟨some 41, .bin .leq (.tmp 40) (.const (.int .i64 8)), some (38, true)⟩,
      ⟨some 42, .pick (.tmp 38) (.tmp 41) (.const (.bool false)), none⟩,
      ⟨some 2, .mov (.tmp 42), none⟩])
      .ret)
      (.seq (.region [
      ⟨some 44, .bin .eql (.tmp 4) (.const (.int .i64 14)), none⟩,
      ⟨some 43, .mov (.tmp 44), none⟩])
      (.cond (.tmp 43)
       (.seq (.region [
       ⟨some 45, .fad 4 (.tmp 1), none⟩,
       ⟨some 46, .ld (.tmp 45), none⟩,
       ⟨some 47, .bin .geq (.tmp 46) (.const (.int .i64 0)), none⟩,
       ⟨some 48, .mov (.tmp 47), none⟩,
       ⟨some 49, .fad 4 (.tmp 1), some (48, true)⟩,
       ⟨some 50, .ld (.tmp 49), some (48, true)⟩,
       ⟨some 51, .bin .lss (.tmp 50) (.const (.int .i64 4)), some (48, true)⟩,
       ⟨some 52, .pick (.tmp 48) (.tmp 51) (.const (.bool false)), none⟩,
       ⟨some 2, .mov (.tmp 52), none⟩])
       .ret)
       .skip))))))))))))
 (.seq (.region [
 ⟨some 53, .fad 4 (.tmp 1), none⟩,
 ⟨some 54, .ld (.tmp 53), none⟩,
 ⟨some 55, .bin .eql (.tmp 54) (.const (.int .i64 0)), none⟩,
 ⟨some 2, .mov (.tmp 55), none⟩])
 .ret))),
 [.tmp 2]⟩
theorem low_isa_number : lowFn Tryz.prog movers 43 = some ⟨ir_isa_number.n, strip ir_isa_number.body, ir_isa_number.res⟩ := by kernel_rfl
def ir_isa_Parse : IFn := ⟨69,
 (.seq (.region [
 ⟨some 2, .new 23 (.agg #[.int .i64 0, .int .i64 0, .int .i64 0, .int .i64 0, .int .i64 0]), none⟩,
 ⟨some 3, .mov (.const (.int .i64 0)), none⟩])
 (.seq (.seq (.region [
 ⟨some 10, .mov (.tmp 0), none⟩,
 ⟨some 11, .lens (.tmp 10), none⟩,
 ⟨some 12, .bin .gtr (.tmp 11) (.const (.int .i64 200)), none⟩])
 (.cond (.tmp 12)
  (.seq (.region [
  ⟨some 13, .bld [(.int .i64 0), (.int .i64 0), (.int .i64 0), (.int .i64 0), (.int .i64 0)] [], none⟩,
  ⟨none, .stN 5 (.tmp 2) (.tmp 13), none⟩,
  ⟨some 3, .mov (.const (.int .i64 3)), none⟩])
  .ret)
  .skip))
 (.seq (.region [
 ⟨some 14, .mov (.tmp 0), none⟩,
 ⟨some 15, .call 73 [(.tmp 14)], none⟩,
 ⟨some 4, .mov (.tmp 15), none⟩])
 (.seq (.seq (.region [
 ⟨some 16, .mov (.tmp 4), none⟩,
 ⟨some 17, .len (.tmp 16), none⟩,
 ⟨some 18, .bin .eql (.tmp 17) (.const (.int .i64 0)), none⟩])
 (.cond (.tmp 18)
  (.seq (.region [
  ⟨some 19, .bld [(.int .i64 0), (.int .i64 0), (.int .i64 0), (.int .i64 0), (.int .i64 0)] [], none⟩,
  ⟨none, .stN 5 (.tmp 2) (.tmp 19), none⟩,
  ⟨some 3, .mov (.const (.int .i64 4)), none⟩])
  .ret)
  .skip))
 (.seq (.region [
 ⟨some 21, .mov (.tmp 4), none⟩,
 ⟨some 22, .ixs 1 (.tmp 21) (.const (.int .i64 0)), none⟩,
 ⟨some 23, .ld (.tmp 22), none⟩,
 ⟨some 24, .call 74 [(.tmp 23)], none⟩,
 ⟨some 20, .mov (.tmp 24), none⟩,
 ⟨some 25, .ext (.tmp 20) 0, none⟩,
 ⟨some 26, .ext (.tmp 20) 1, none⟩,
 ⟨some 5, .new 23 (.agg #[.int .i64 0, .int .i64 0, .int .i64 0, .int .i64 0, .int .i64 0]), none⟩,
 ⟨none, .stN 5 (.tmp 5) (.tmp 25), none⟩,
 ⟨some 6, .mov (.tmp 26), none⟩])
 (.seq (.seq (.region [
 ⟨some 27, .mov (.tmp 6), none⟩,
 ⟨some 28, .not (.tmp 27), none⟩,
 ⟨some 29, .mov (.tmp 28), none⟩,
 ⟨some 30, .mov (.tmp 4), some (29, false)⟩,
 ⟨some 31, .len (.tmp 30), some (29, false)⟩,
 ⟨some 32, .bin .sub (.tmp 31) (.const (.int .i64 1)), some (29, false)⟩,
 ⟨some 33, .fad 0 (.tmp 5), some (29, false)⟩,
 ⟨some 34, .ld (.tmp 33), some (29, false)⟩,
 ⟨some 35, .ixa 18 2 (.global 0) (.tmp 34), some (29, false)⟩,
 ⟨some 36, .fad 1 (.tmp 35), some (29, false)⟩,
 ⟨some 37, .ld (.tmp 36), some (29, false)⟩,
 ⟨some 38, .lens (.tmp 37), some (29, false)⟩,
 ⟨some 39, .bin .neq (.tmp 32) (.tmp 38), some (29, false)⟩,
 ⟨some 40, .pick (.tmp 29) (.const (.bool true)) (.tmp 39), none⟩])
 (.cond (.tmp 40)
  (.seq (.region [
  ⟨some 41, .bld [(.int .i64 0), (.int .i64 0), (.int .i64 0), (.int .i64 0), (.int .i64 0)] [], none⟩,
  ⟨none, .stN 5 (.tmp 2) (.tmp 41), none⟩,
  ⟨some 3, .mov (.const (.int .i64 4)), none⟩])
  .ret)
  .skip))
 (.seq (.seq (.region [
 ⟨some 42, .mov (.tmp 4), none⟩,
 ⟨some 43, .sls 1 (.tmp 42) (some (.const (.int .i64 1))) none none, none⟩,
 ⟨some 44, .len (.tmp 43), none⟩,
 ⟨some 45, .mov (.const (.int .i64 0)), none⟩])
 (.block 0
  (.loop 4611650834055299464
   (.seq (.region [
   ⟨some 46, .bin .lss (.tmp 45) (.tmp 44), none⟩])
   (.seq (.cond (.tmp 46)
    .skip
    (.exit 0))
   (.seq (.block 1
    (.seq (.region [
    ⟨some 47, .mov (.tmp 45), none⟩,
    ⟨some 48, .ixs 1 (.tmp 43) (.tmp 45), none⟩,
    ⟨some 49, .ld (.tmp 48), none⟩,
    ⟨some 7, .mov (.tmp 47), none⟩,
    ⟨some 8, .mov (.tmp 49), none⟩])
    (.seq (.region [
    ⟨some 50, .fad 0 (.tmp 5), none⟩,
    ⟨some 51, .ld (.tmp 50), none⟩,
    ⟨some 52, .ixa 18 2 (.global 0) (.tmp 51), none⟩,
    ⟨some 53, .fad 1 (.tmp 52), none⟩,
    ⟨some 54, .ld (.tmp 53), none⟩,
    ⟨some 55, .mov (.tmp 7), none⟩,
    ⟨some 56, .sidx (.tmp 54) (.tmp 55), none⟩,
    ⟨some 57, .mov (.tmp 8), none⟩,
    ⟨some 58, .call 75 [(.tmp 5), (.tmp 56), (.tmp 57)], none⟩,
    ⟨some 59, .not (.tmp 58), none⟩])
    (.cond (.tmp 59)
     (.seq (.region [
     ⟨some 60, .bld [(.int .i64 0), (.int .i64 0), (.int .i64 0), (.int .i64 0), (.int .i64 0)] [], none⟩,
     ⟨none, .stN 5 (.tmp 2) (.tmp 60), none⟩,
     ⟨some 3, .mov (.const (.int .i64 4)), none⟩])
     .ret)
     .skip))))
   (.region [
   ⟨some 61, .bin .add (.tmp 45) (.const (.int .i64 1)), none⟩,
   ⟨some 45, .mov (.tmp 61), none⟩])))))))
 (.seq (.seq (.region [
 ⟨some 62, .ldN 5 (.tmp 5), none⟩,
 ⟨some 63, .call 13 [(.tmp 62)], none⟩,
 ⟨some 9, .mov (.tmp 63), none⟩])
 (.seq (.region [
 ⟨some 64, .mov (.tmp 9), none⟩,
 ⟨some 65, .bin .neq (.tmp 64) (.const (.int .i64 0)), none⟩])
 (.cond (.tmp 65)
  (.seq (.region [
  ⟨some 66, .bld [(.int .i64 0), (.int .i64 0), (.int .i64 0), (.int .i64 0), (.int .i64 0)] [], none⟩,
  ⟨some 67, .mov (.tmp 9), none⟩,
  ⟨none, .stN 5 (.tmp 2) (.tmp 66), none⟩,
  ⟨some 3, .mov (.tmp 67), none⟩])
  .ret)
  .skip)))
 (.seq (.region [
 ⟨some 68, .ldN 5 (.tmp 5), none⟩,
 ⟨none, .stN 5 (.tmp 2) (.tmp 68), none⟩,
 ⟨some 3, .mov (.const (.int .i64 0)), none⟩])
 .ret))))))))),
 [.cellN 2 5, .tmp 3]⟩
theorem low_isa_Parse : lowFn Tryz.prog movers 48 = some ⟨ir_isa_Parse.n, strip ir_isa_Parse.body, ir_isa_Parse.res⟩ := by kernel_rfl
def ir_isa_Skips : IFn := ⟨15,
 (.seq (.region [
 ⟨some 1, .box 23 (.tmp 0), none⟩,
 ⟨some 2, .mov (.const (.int .i64 0)), none⟩,
 ⟨some 3, .mov (.const (.bool false)), none⟩])
 (.seq (.seq (.region [
 ⟨some 4, .ldN 5 (.tmp 1), none⟩,
 ⟨some 5, .call 13 [(.tmp 4)], none⟩,
 ⟨some 6, .bin .eql (.tmp 5) (.const (.int .i64 0)), none⟩])
 (.cond (.tmp 6)
  (.seq (.region [
  ⟨some 7, .fad 0 (.tmp 1), none⟩,
  ⟨some 8, .ld (.tmp 7), none⟩])
  (.block 0
   (.seq (.seq (.region [
   ⟨some 10, .bin .eql (.tmp 8) (.const (.int .i64 4)), none⟩,
   ⟨some 9, .mov (.tmp 10), none⟩])
   (.cond (.tmp 9)
    .skip
    (.seq (.region [
    ⟨some 11, .bin .eql (.tmp 8) (.const (.int .i64 5)), none⟩,
    ⟨some 9, .mov (.tmp 11), none⟩])
    (.cond (.tmp 9)
     .skip
     (.region [
     ⟨some 12, .bin .eql (.tmp 8) (.const (.int .i64 6)), none⟩,
     ⟨some 9, .mov (.tmp 12), none⟩])))))
   (.cond (.tmp 9)
    (.seq (.region [
    ⟨some 13, .fad 4 (.tmp 1), none⟩,
    ⟨some 14, .ld (.tmp 13), none⟩,
    ⟨some 2, .mov (.tmp 14), none⟩,
    ⟨some 3, .mov (.const (.bool true)), none⟩])
    .ret)
    .skip))))
  .skip))
 (.seq (.region [
 ⟨some 2, .mov (.const (.int .i64 0)), none⟩,
 ⟨some 3, .mov (.const (.bool false)), none⟩])
 .ret))),
 [.tmp 2, .tmp 3]⟩
theorem low_isa_Skips : lowFn Tryz.prog movers 59 = some ⟨ir_isa_Skips.n, strip ir_isa_Skips.body, ir_isa_Skips.res⟩ := by kernel_rfl
def ir_isa_split : IFn := ⟨5,
 (.seq (.region [
 ⟨some 2, .mov (.const (.slice none 0 0)), none⟩])
 (.seq (.region [
 ⟨some 3, .mov (.tmp 0), none⟩,
 ⟨some 4, .call 105 [(.tmp 3), (.func 106)], none⟩,
 ⟨some 2, .mov (.tmp 4), none⟩])
 .ret)),
 [.tmp 2]⟩
theorem low_isa_split : lowFn Tryz.prog movers 73 = some ⟨ir_isa_split.n, strip ir_isa_split.body, ir_isa_split.res⟩ := by kernel_rfl
def ir_isa_operation : IFn := ⟨32,
 (.seq (.region [
 ⟨some 2, .new 23 (.agg #[.int .i64 0, .int .i64 0, .int .i64 0, .int .i64 0, .int .i64 0]), none⟩,
 ⟨some 3, .mov (.const (.bool false)), none⟩])
 (.seq (.seq (.region [
 ⟨some 8, .ldN 36 (.global 0), none⟩,
 ⟨some 9, .mov (.const (.int .i64 0)), none⟩])
 (.block 0
  (.loop 16776760
   (.seq (.region [
   ⟨some 10, .bin .lss (.tmp 9) (.const (.int .i64 18)), none⟩])
   (.seq (.cond (.tmp 10)
    .skip
    (.exit 0))
   (.seq (.block 1
    (.seq (.region [
    ⟨some 11, .mov (.tmp 9), none⟩,
    ⟨some 12, .idxN 18 2 (.tmp 8) (.tmp 9), none⟩,
    ⟨some 5, .new 53 (.agg #[.string ⟨#[]⟩, .string ⟨#[]⟩]), none⟩,
    ⟨some 4, .mov (.tmp 11), none⟩,
    ⟨none, .stN 2 (.tmp 5) (.tmp 12), none⟩])
    (.seq (.region [
    ⟨some 13, .fad 0 (.tmp 5), none⟩,
    ⟨some 14, .ld (.tmp 13), none⟩,
    ⟨some 15, .mov (.tmp 0), none⟩,
    ⟨some 16, .sbin .eql (.tmp 14) (.tmp 15), none⟩,
    ⟨some 17, .mov (.tmp 16), none⟩,
    ⟨some 18, .mov (.tmp 4), some (17, true)⟩,
    ⟨some 19, .bin .neq (.tmp 18) (.const (.int .i64 3)), some (17, true)⟩,
    ⟨some 20, .pick (.tmp 17) (.tmp 19) (.const (.bool false)), none⟩])
    (.cond (.tmp 20)
     (.seq (.region [
     ⟨some 21, .mov (.tmp 4), none⟩,
     ⟨some 22, .bld [(.int .i64 0), (.int .i64 0), (.int .i64 0), (.int .i64 0), (.int .i64 0)] [(0, 1, (.tmp 21))], none⟩,
     ⟨none, .stN 5 (.tmp 2) (.tmp 22), none⟩,
     ⟨some 3, .mov (.const (.bool true)), none⟩])
     .ret)
     .skip))))
   (.region [
   ⟨some 23, .bin .add (.tmp 9) (.const (.int .i64 1)), none⟩,
   ⟨some 9, .mov (.tmp 23), none⟩])))))))
 (.seq (.region [
 ⟨some 25, .mov (.tmp 0), none⟩,
 ⟨some 26, .call 107 [(.tmp 25)], none⟩,
 ⟨some 24, .mov (.tmp 26), none⟩,
 ⟨some 27, .ext (.tmp 24) 0, none⟩,
 ⟨some 28, .ext (.tmp 24) 1, none⟩,
 ⟨some 6, .mov (.tmp 27), none⟩,
 ⟨some 7, .mov (.tmp 28), none⟩])
 (.seq (.region [
 ⟨some 29, .mov (.tmp 6), none⟩,
 ⟨some 30, .bld [(.int .i64 0), (.int .i64 0), (.int .i64 0), (.int .i64 0), (.int .i64 0)] [(0, 1, (.const (.int .i64 3))), (4, 1, (.tmp 29))], none⟩,
 ⟨some 31, .mov (.tmp 7), none⟩,
 ⟨none, .stN 5 (.tmp 2) (.tmp 30), none⟩,
 ⟨some 3, .mov (.tmp 31), none⟩])
 .ret)))),
 [.cellN 2 5, .tmp 3]⟩
theorem low_isa_operation : lowFn Tryz.prog movers 74 = some ⟨ir_isa_operation.n, strip ir_isa_operation.body, ir_isa_operation.res⟩ := by kernel_rfl
def ir_isa_operand : IFn := ⟨48,
 (.seq (.region [
 ⟨some 6, .mov (.const (.bool false)), none⟩])
 (.seq (.region [
 ⟨some 7, .mov (.const (.bool false)), none⟩])
 (.seq (.seq (.region [
 ⟨some 8, .mov (.tmp 1), none⟩])
 (.block 0
  (.seq (.region [
  ⟨some 18, .bin .eql (.tmp 8) (.const (.int .u8 65)), none⟩,
  ⟨some 17, .mov (.tmp 18), none⟩])
  (.cond (.tmp 17)
   (.region [
   ⟨some 20, .mov (.tmp 0), none⟩,
   ⟨some 21, .mov (.tmp 2), none⟩,
   ⟨some 22, .call 108 [(.tmp 21)], none⟩,
   ⟨some 19, .mov (.tmp 22), none⟩,
   ⟨some 23, .ext (.tmp 19) 0, none⟩,
   ⟨some 24, .ext (.tmp 19) 1, none⟩,
   ⟨some 25, .nilc (.tmp 20), none⟩,
   ⟨some 26, .fad 1 (.tmp 25), none⟩,
   ⟨none, .st (.tmp 26) (.tmp 23), none⟩,
   ⟨some 7, .mov (.tmp 24), none⟩])
   (.seq (.region [
   ⟨some 28, .bin .eql (.tmp 8) (.const (.int .u8 66)), none⟩,
   ⟨some 27, .mov (.tmp 28), none⟩])
   (.cond (.tmp 27)
    (.region [
    ⟨some 30, .mov (.tmp 0), none⟩,
    ⟨some 31, .mov (.tmp 2), none⟩,
    ⟨some 32, .call 108 [(.tmp 31)], none⟩,
    ⟨some 29, .mov (.tmp 32), none⟩,
    ⟨some 33, .ext (.tmp 29) 0, none⟩,
    ⟨some 34, .ext (.tmp 29) 1, none⟩,
    ⟨some 35, .nilc (.tmp 30), none⟩,
    ⟨some 36, .fad 2 (.tmp 35), none⟩,
    ⟨none, .st (.tmp 36) (.tmp 33), none⟩,
    ⟨some 7, .mov (.tmp 34), none⟩])
    (.seq (.region [
    ⟨some 38, .bin .eql (.tmp 8) (.const (.int .u8 67)), none⟩,
    ⟨some 37, .mov (.tmp 38), none⟩])
    (.cond (.tmp 37)
     (.region [
     ⟨some 40, .mov (.tmp 0), none⟩,
     ⟨some 41, .mov (.tmp 2), none⟩,
     ⟨some 42, .call 108 [(.tmp 41)], none⟩,
     ⟨some 39, .mov (.tmp 42), none⟩,
     ⟨some 43, .ext (.tmp 39) 0, none⟩,
     ⟨some 44, .ext (.tmp 39) 1, none⟩,
     ⟨some 45, .nilc (.tmp 40), none⟩,
     ⟨some 46, .fad 3 (.tmp 45), none⟩,
     ⟨none, .st (.tmp 46) (.tmp 43), none⟩,
     ⟨some 7, .mov (.tmp 44), none⟩])
     (.region [
     ⟨some 10, .mov (.tmp 0), none⟩,
     ⟨some 11, .mov (.tmp 2), none⟩,
     ⟨some 12, .call 109 [(.tmp 11)], none⟩,
     ⟨some 9, .mov (.tmp 12), none⟩,
     ⟨some 13, .ext (.tmp 9) 0, none⟩,
     ⟨some 14, .ext (.tmp 9) 1, none⟩,
     ⟨some 15, .nilc (.tmp 10), none⟩,
     ⟨some 16, .fad 4 (.tmp 15), none⟩,
     ⟨none, .st (.tmp 16) (.tmp 13), none⟩,
     ⟨some 7, .mov (.tmp 14), none⟩])))))))))
 (.seq (.region [
 ⟨some 47, .mov (.tmp 7), none⟩,
 ⟨some 6, .mov (.tmp 47), none⟩])
 .ret)))),
 [.tmp 6]⟩
theorem low_isa_operand : lowFn Tryz.prog movers 75 = some ⟨ir_isa_operand.n, strip ir_isa_operand.body, ir_isa_operand.res⟩ := by kernel_rfl
def ir_isa_register : IFn := ⟨26,
 (.seq (.region [
 ⟨some 2, .mov (.const (.int .i64 0)), none⟩,
 ⟨some 3, .mov (.const (.bool false)), none⟩])
 (.seq (.seq (.region [
 ⟨some 4, .mov (.tmp 0), none⟩,
 ⟨some 5, .lens (.tmp 4), none⟩,
 ⟨some 6, .bin .neq (.tmp 5) (.const (.int .i64 2)), none⟩,
 ⟨some 7, .mov (.tmp 6), none⟩,
 ⟨some 8, .mov (.tmp 0), some (7, false)⟩,
 ⟨some 9, .sidx (.tmp 8) (.const (.int .i64 0)), some (7, false)⟩,
 ⟨some 10, .bin .neq (.tmp 9) (.const (.int .u8 114)), some (7, false)⟩,
 ⟨some 11, .pick (.tmp 7) (.const (.bool true)) (.tmp 10), none⟩,
 ⟨some 12, .mov (.tmp 11), none⟩,
 ⟨some 13, .mov (.tmp 0), some (12, false)⟩,
 ⟨some 14, .sidx (.tmp 13) (.const (.int .i64 1)), some (12, false)⟩,
 ⟨some 15, .bin .lss (.tmp 14) (.const (.int .u8 48)), some (12, false)⟩,
 ⟨some 16, .pick (.tmp 12) (.const (.bool true)) (.tmp 15), none⟩,
 ⟨some 17, .mov (.tmp 16), none⟩,
 ⟨some 18, .mov (.tmp 0), some (17, false)⟩,
 ⟨some 19, .sidx (.tmp 18) (.const (.int .i64 1)), some (17, false)⟩,
 ⟨some 20, .bin .geq (.tmp 19) (.const (.int .u8 56)), some (17, false)⟩,
 ⟨some 21, .pick (.tmp 17) (.const (.bool true)) (.tmp 20), none⟩])
 (.cond (.tmp 21)
  (.seq (.region [
  ⟨some 2, .mov (.const (.int .i64 0)), none⟩,
  ⟨some 3, .mov (.const (.bool false)), none⟩])
  .ret)
  .skip))
 (.seq (.region [
 ⟨some 22, .mov (.tmp 0), none⟩,
 ⟨some 23, .sidx (.tmp 22) (.const (.int .i64 1)), none⟩,
 ⟨some 24, .bin .sub (.tmp 23) (.const (.int .u8 48)), none⟩,
 ⟨some 25, .conv .i64 (.tmp 24), none⟩,
 ⟨some 2, .mov (.tmp 25), none⟩,
 ⟨some 3, .mov (.const (.bool true)), none⟩])
 .ret))),
 [.tmp 2, .tmp 3]⟩
theorem low_isa_register : lowFn Tryz.prog movers 108 = some ⟨ir_isa_register.n, strip ir_isa_register.body, ir_isa_register.res⟩ := by kernel_rfl
def ir_isa_decimal : IFn := ⟨16,
 (.seq (.region [
 ⟨some 2, .mov (.const (.int .i64 0)), none⟩,
 ⟨some 3, .mov (.const (.bool false)), none⟩])
 (.seq (.seq (.region [
 ⟨some 6, .mov (.tmp 0), none⟩,
 ⟨some 7, .call 65 [(.tmp 6), (.const (.string ⟨#[43]⟩))], none⟩])
 (.cond (.tmp 7)
  (.seq (.region [
  ⟨some 2, .mov (.const (.int .i64 0)), none⟩,
  ⟨some 3, .mov (.const (.bool false)), none⟩])
  .ret)
  .skip))
 (.seq (.region [
 ⟨some 9, .mov (.tmp 0), none⟩,
 ⟨some 10, .call 141 [(.tmp 9), (.const (.int .i64 10)), (.const (.int .i64 64))], none⟩,
 ⟨some 8, .mov (.tmp 10), none⟩,
 ⟨some 11, .ext (.tmp 8) 0, none⟩,
 ⟨some 12, .ext (.tmp 8) 1, none⟩,
 ⟨some 4, .mov (.tmp 11), none⟩,
 ⟨some 5, .mov (.tmp 12), none⟩])
 (.seq (.draw (.f ⟨some 13, .mov (.tmp 4), none⟩
 (.f ⟨some 14, .mov (.tmp 5), none⟩
 (.f ⟨some 15, .nifc false (.tmp 14), none⟩
 (.f ⟨some 2, .mov (.tmp 13), none⟩
 (.f ⟨some 3, .mov (.tmp 15), none⟩
 .done))))))
 .ret)))),
 [.tmp 2, .tmp 3]⟩
theorem low_isa_decimal : lowFn Tryz.prog movers 109 = some ⟨ir_isa_decimal.n, strip ir_isa_decimal.body, ir_isa_decimal.res⟩ := by kernel_rfl
end Go.Proofs.YtiimndcifcoofaaGreatDoor
namespace Go.Proofs.YtiimndcifcoofaaGreatDoor
open Go
set_option maxRecDepth 100000
def ir_ref03_Format : IFn := ⟨69,
 (.seq (.region [
 ⟨some 1, .box 23 (.tmp 0), none⟩,
 ⟨some 2, .mov (.const (.string ⟨#[]⟩)), none⟩,
 ⟨some 3, .mov (.const (.int .i64 0)), none⟩])
 (.seq (.seq (.region [
 ⟨some 7, .ldN 5 (.tmp 1), none⟩,
 ⟨some 8, .call 14 [(.tmp 7)], none⟩,
 ⟨some 4, .mov (.tmp 8), none⟩])
 (.seq (.region [
 ⟨some 9, .mov (.tmp 4), none⟩,
 ⟨some 10, .bin .neq (.tmp 9) (.const (.int .i64 0)), none⟩])
 (.cond (.tmp 10)
  (.seq (.region [
  ⟨some 11, .mov (.tmp 4), none⟩,
  ⟨some 2, .mov (.const (.string ⟨#[]⟩)), none⟩,
  ⟨some 3, .mov (.tmp 11), none⟩])
  .ret)
  .skip)))
 (.seq (.region [
 ⟨some 12, .fad 0 (.tmp 1), none⟩,
 ⟨some 13, .ld (.tmp 12), none⟩,
 ⟨some 14, .call 38 [(.tmp 13)], none⟩,
 ⟨some 5, .mov (.tmp 14), none⟩])
 (.seq (.region [
 ⟨some 15, .fad 0 (.tmp 1), none⟩,
 ⟨some 16, .ld (.tmp 15), none⟩,
 ⟨some 17, .call 39 [(.tmp 16)], none⟩,
 ⟨some 6, .mov (.tmp 17), none⟩])
 (.seq (.seq (.region [
 ⟨some 18, .fad 0 (.tmp 1), none⟩,
 ⟨some 19, .ld (.tmp 18), none⟩,
 ⟨some 20, .bin .eql (.tmp 19) (.const (.int .i64 3)), none⟩])
 (.cond (.tmp 20)
  (.region [
  ⟨some 21, .fad 4 (.tmp 1), none⟩,
  ⟨some 22, .ld (.tmp 21), none⟩,
  ⟨some 23, .call 40 [(.tmp 22)], none⟩,
  ⟨some 6, .mov (.tmp 23), none⟩])
  .skip))
 (.seq (.seq (.region [
 ⟨some 24, .mov (.tmp 5), none⟩,
 ⟨some 25, .call 41 [(.tmp 24), (.const (.int .u8 114))], none⟩])
 (.cond (.tmp 25)
  (.region [
  ⟨some 26, .mov (.tmp 6), none⟩,
  ⟨some 27, .scat (.tmp 26) (.const (.string ⟨#[32, 114]⟩)), none⟩,
  ⟨some 28, .fad 1 (.tmp 1), none⟩,
  ⟨some 29, .ld (.tmp 28), none⟩,
  ⟨some 30, .call 36 [(.tmp 29)], none⟩,
  ⟨some 31, .scat (.tmp 27) (.tmp 30), none⟩,
  ⟨some 6, .mov (.tmp 31), none⟩])
  .skip))
 (.seq (.seq (.region [
 ⟨some 32, .mov (.tmp 5), none⟩,
 ⟨some 33, .call 41 [(.tmp 32), (.const (.int .u8 115))], none⟩])
 (.cond (.tmp 33)
  (.region [
  ⟨some 34, .mov (.tmp 6), none⟩,
  ⟨some 35, .scat (.tmp 34) (.const (.string ⟨#[32, 114]⟩)), none⟩,
  ⟨some 36, .fad 2 (.tmp 1), none⟩,
  ⟨some 37, .ld (.tmp 36), none⟩,
  ⟨some 38, .call 36 [(.tmp 37)], none⟩,
  ⟨some 39, .scat (.tmp 35) (.tmp 38), none⟩,
  ⟨some 6, .mov (.tmp 39), none⟩])
  .skip))
 (.seq (.seq (.region [
 ⟨some 40, .mov (.tmp 5), none⟩,
 ⟨some 41, .call 41 [(.tmp 40), (.const (.int .u8 116))], none⟩])
 (.cond (.tmp 41)
  (.region [
  ⟨some 42, .mov (.tmp 6), none⟩,
  ⟨some 43, .scat (.tmp 42) (.const (.string ⟨#[32, 114]⟩)), none⟩,
  ⟨some 44, .fad 3 (.tmp 1), none⟩,
  ⟨some 45, .ld (.tmp 44), none⟩,
  ⟨some 46, .call 36 [(.tmp 45)], none⟩,
  ⟨some 47, .scat (.tmp 43) (.tmp 46), none⟩,
  ⟨some 6, .mov (.tmp 47), none⟩])
  .skip))
 (.seq (.seq (.region [
 ⟨some 48, .mov (.tmp 5), none⟩,
 ⟨some 49, .call 41 [(.tmp 48), (.const (.int .u8 105))], none⟩,
 ⟨some 50, .mov (.tmp 49), none⟩,
 ⟨some 51, .mov (.tmp 5), some (50, false)⟩,
 ⟨some 52, .call 41 [(.tmp 51), (.const (.int .u8 106))], some (50, false)⟩,
 ⟨some 53, .pick (.tmp 50) (.const (.bool true)) (.tmp 52), none⟩,
 ⟨some 54, .mov (.tmp 53), none⟩,
 ⟨some 55, .mov (.tmp 5), some (54, false)⟩,
 ⟨some 56, .call 41 [(.tmp 55), (.const (.int .u8 97))], some (54, false)⟩,
 ⟨some 57, .pick (.tmp 54) (.const (.bool true)) (.tmp 56), none⟩,
 ⟨some 58, .mov (.tmp 57), none⟩,
 ⟨some 59, .mov (.tmp 5), some (58, false)⟩,
 ⟨some 60, .call 41 [(.tmp 59), (.const (.int .u8 99))], some (58, false)⟩,
 ⟨some 61, .pick (.tmp 58) (.const (.bool true)) (.tmp 60), none⟩])
 (.cond (.tmp 61)
  (.region [
  ⟨some 62, .mov (.tmp 6), none⟩,
  ⟨some 63, .scat (.tmp 62) (.const (.string ⟨#[32]⟩)), none⟩,
  ⟨some 64, .fad 4 (.tmp 1), none⟩,
  ⟨some 65, .ld (.tmp 64), none⟩,
  ⟨some 66, .call 36 [(.tmp 65)], none⟩,
  ⟨some 67, .scat (.tmp 63) (.tmp 66), none⟩,
  ⟨some 6, .mov (.tmp 67), none⟩])
  .skip))
 (.seq (.region [
 ⟨some 68, .mov (.tmp 6), none⟩,
 ⟨some 2, .mov (.tmp 68), none⟩,
 ⟨some 3, .mov (.const (.int .i64 0)), none⟩])
 .ret)))))))))),
 [.tmp 2, .tmp 3]⟩
theorem low_ref03_Format : lowFn Tryz.prog movers 12 = some ⟨ir_ref03_Format.n, strip ir_ref03_Format.body, ir_ref03_Format.res⟩ := by kernel_rfl
def ir_ref03_Check : IFn := ⟨64,
 (.seq (.region [
 ⟨some 1, .box 23 (.tmp 0), none⟩,
 ⟨some 2, .mov (.const (.int .i64 0)), none⟩])
 (.seq (.seq (.region [
 ⟨some 6, .fad 0 (.tmp 1), none⟩,
 ⟨some 7, .ld (.tmp 6), none⟩,
 ⟨some 8, .bin .lss (.tmp 7) (.const (.int .i64 0)), none⟩,
 ⟨some 9, .mov (.tmp 8), none⟩,
 ⟨some 10, .fad 0 (.tmp 1), some (9, false)⟩,
 ⟨some 11, .ld (.tmp 10), some (9, false)⟩,
 ⟨some 12, .bin .geq (.tmp 11) (.const (.int .i64 18)), some (9, false)⟩,
 ⟨some 13, .pick (.tmp 9) (.const (.bool true)) (.tmp 12), none⟩])
 (.cond (.tmp 13)
  (.seq (.region [
  ⟨some 2, .mov (.const (.int .i64 10)), none⟩])
  .ret)
  .skip))
 (.seq (.region [
 ⟨some 14, .fad 0 (.tmp 1), none⟩,
 ⟨some 15, .ld (.tmp 14), none⟩,
 ⟨some 16, .call 38 [(.tmp 15)], none⟩,
 ⟨some 3, .mov (.tmp 16), none⟩])
 (.seq (.seq (.draw (.f ⟨some 17, .fad 1 (.tmp 1), none⟩
 (.f ⟨some 18, .ld (.tmp 17), none⟩
 (.f ⟨some 19, .mov (.tmp 3), none⟩
 (.f ⟨some 20, .call 41 [(.tmp 19), (.const (.int .u8 114))], none⟩
 (.f ⟨some 21, .call 44 [(.tmp 18), (.tmp 20)], none⟩
 (.f ⟨some 22, .not (.tmp 21), none⟩
 (.f ⟨some 23, .mov (.tmp 22), none⟩
 (.f ⟨some 24, .fad 2 (.tmp 1), some (23, false)⟩
 (.f ⟨some 25, .ld (.tmp 24), some (23, false)⟩
 (.f ⟨some 26, .mov (.tmp 3), some (23, false)⟩
 (.f ⟨some 27, .call 41 [(.tmp 26), (.const (.int .u8 115))], some (23, false)⟩
 (.f ⟨some 28, .call 44 [(.tmp 25), (.tmp 27)], some (23, false)⟩
 (.f ⟨some 29, .not (.tmp 28), some (23, false)⟩
 (.f ⟨some 30, .pick (.tmp 23) (.const (.bool true)) (.tmp 29), none⟩
 (.f ⟨some 31, .mov (.tmp 30), none⟩
 (.f ⟨some 32, .fad 3 (.tmp 1), some (31, false)⟩
 (.f ⟨some 33, .ld (.tmp 32), some (31, false)⟩
 (.f ⟨some 34, .mov (.tmp 3), some (31, false)⟩
 (.f ⟨some 35, .call 41 [(.tmp 34), (.const (.int .u8 116))], some (31, false)⟩
 (.f ⟨some 36, .call 44 [(.tmp 33), (.tmp 35)], some (31, false)⟩
 (.f ⟨some 37, .not (.tmp 36), some (31, false)⟩
 (.f ⟨some 38, .pick (.tmp 31) (.const (.bool true)) (.tmp 37), none⟩
 .done)))))))))))))))))))))))
 (.cond (.tmp 38)
  (.seq (.region [
  ⟨some 2, .mov (.const (.int .i64 11)), none⟩])
  .ret)
  .skip))
 (.seq (.region [
 ⟨some 4, .mov (.const (.int .i64 0)), none⟩,
 ⟨some 5, .mov (.const (.int .i64 0)), none⟩])
 (.seq (.block 0
  (.seq (.region [
  ⟨some 40, .mov (.tmp 3), none⟩,
  ⟨some 41, .call 41 [(.tmp 40), (.const (.int .u8 105))], none⟩,
  ⟨some 39, .mov (.tmp 41), none⟩])
  (.cond (.tmp 39)
   (.seq (.region [
   ⟨some 2, .mov (.const (.int .i64 0)), none⟩])
   .ret)
   (.seq (.region [
   ⟨some 43, .mov (.tmp 3), none⟩,
   ⟨some 44, .call 41 [(.tmp 43), (.const (.int .u8 102))], none⟩,
   ⟨some 42, .mov (.tmp 44), none⟩])
   (.cond (.tmp 42)
    (.region [
    ⟨some 5, .mov (.const (.int .i64 21)), none⟩])
    (.seq (.region [
    ⟨some 46, .mov (.tmp 3), none⟩,
    ⟨some 47, .call 41 [(.tmp 46), (.const (.int .u8 106))], none⟩,
    ⟨some 45, .mov (.tmp 47), none⟩])
    (.cond (.tmp 45)
     (.region [
     ⟨some 5, .mov (.const (.int .i64 64)), none⟩])
     (.seq (.region [
     ⟨some 49, .mov (.tmp 3), none⟩,
     ⟨some 50, .call 41 [(.tmp 49), (.const (.int .u8 97))], none⟩,
     ⟨some 48, .mov (.tmp 50), none⟩])
     (.cond (.tmp 48)
      (.region [
      ⟨some 4, .mov (.const (.int .i64 1)), none⟩,
      ⟨some 5, .mov (.const (.int .i64 8)), none⟩])
      (.seq (.region [
      ⟨some 52, .mov (.tmp 3), none⟩,
      ⟨some 53, .call 41 [(.tmp 52), (.const (.int .u8 99))], none⟩,
      ⟨some 51, .mov (.tmp 53), none⟩])
      (.cond (.tmp 51)
       (.region [
       ⟨some 5, .mov (.const (.int .i64 3)), none⟩])
       .skip)))))))))))
 (.seq (.seq (.region [
 ⟨some 54, .fad 4 (.tmp 1), none⟩,
 ⟨some 55, .ld (.tmp 54), none⟩,
 ⟨some 56, .mov (.tmp 4), none⟩,
 ⟨some 57, .bin .lss (.tmp 55) (.tmp 56), none⟩,
 ⟨some 58, .mov (.tmp 57), none⟩,
 ⟨some 59, .fad 4 (.tmp 1), some (58, false)⟩,
 ⟨some 60, .ld (.tmp 59), some (58, false)⟩,
 ⟨some 61, .mov (.tmp 5), some (58, false)⟩,
 ⟨some 62, .bin .gtr (.tmp 60) (.tmp 61), some (58, false)⟩,
 ⟨some 63, .pick (.tmp 58) (.const (.bool true)) (.tmp 62), none⟩])
 (.cond (.tmp 63)
  (.seq (.region [
  ⟨some 2, .mov (.const (.int .i64 11)), none⟩])
  .ret)
  .skip))
 (.seq (.region [
 ⟨some 2, .mov (.const (.int .i64 0)), none⟩])
 .ret)))))))),
 [.tmp 2]⟩
theorem low_ref03_Check : lowFn Tryz.prog movers 14 = some ⟨ir_ref03_Check.n, strip ir_ref03_Check.body, ir_ref03_Check.res⟩ := by kernel_rfl
def ir_ref03_Place : IFn := ⟨21,
 (.seq (.region [
 ⟨some 1, .box 23 (.tmp 0), none⟩,
 ⟨some 2, .mov (.const (.int .i64 0)), none⟩])
 (.seq (.seq (.region [
 ⟨some 3, .ldN 5 (.tmp 1), none⟩,
 ⟨some 4, .call 14 [(.tmp 3)], none⟩,
 ⟨some 5, .bin .neq (.tmp 4) (.const (.int .i64 0)), none⟩])
 (.cond (.tmp 5)
  (.seq (.region [
  ⟨some 2, .mov (.const (.int .i64 0)), none⟩])
  .ret)
  .skip))
 (.seq (.seq (.region [
 ⟨some 6, .fad 0 (.tmp 1), none⟩,
 ⟨some 7, .ld (.tmp 6), none⟩])
 (.block 0
  (.seq (.seq (.region [
  ⟨some 9, .bin .eql (.tmp 7) (.const (.int .i64 8)), none⟩,
  ⟨some 8, .mov (.tmp 9), none⟩])
  (.cond (.tmp 8)
   .skip
   (.seq (.region [
   ⟨some 10, .bin .eql (.tmp 7) (.const (.int .i64 9)), none⟩,
   ⟨some 8, .mov (.tmp 10), none⟩])
   (.cond (.tmp 8)
    .skip
    (.seq (.region [
    ⟨some 11, .bin .eql (.tmp 7) (.const (.int .i64 10)), none⟩,
    ⟨some 8, .mov (.tmp 11), none⟩])
    (.cond (.tmp 8)
     .skip
     (.seq (.region [
     ⟨some 12, .bin .eql (.tmp 7) (.const (.int .i64 11)), none⟩,
     ⟨some 8, .mov (.tmp 12), none⟩])
     (.cond (.tmp 8)
      .skip
      (.seq (.region [
      ⟨some 13, .bin .eql (.tmp 7) (.const (.int .i64 14)), none⟩,
      ⟨some 8, .mov (.tmp 13), none⟩])
      (.cond (.tmp 8)
       .skip
       (.region [
       ⟨some 14, .bin .eql (.tmp 7) (.const (.int .i64 15)), none⟩,
       ⟨some 8, .mov (.tmp 14), none⟩])))))))))))
  (.cond (.tmp 8)
   (.seq (.region [
   ⟨some 2, .mov (.const (.int .i64 1)), none⟩])
   .ret)
   (.seq (.seq (.region [
   ⟨some 16, .bin .eql (.tmp 7) (.const (.int .i64 7)), none⟩,
   ⟨some 15, .mov (.tmp 16), none⟩])
   (.cond (.tmp 15)
    .skip
    (.seq (.region [
    ⟨some 17, .bin .eql (.tmp 7) (.const (.int .i64 12)), none⟩,
    ⟨some 15, .mov (.tmp 17), none⟩])
    (.cond (.tmp 15)
     .skip
     (.seq (.region [
     ⟨some 18, .bin .eql (.tmp 7) (.const (.int .i64 13)), none⟩,
     ⟨some 15, .mov (.tmp 18), none⟩])
     (.cond (.tmp 15)
      .skip
      (.seq (.region [
      ⟨some 19, .bin .eql (.tmp 7) (.const (.int .i64 16)), none⟩,
      ⟨some 15, .mov (.tmp 19), none⟩])
      (.cond (.tmp 15)
       .skip
       (.region [
       ⟨some 20, .bin .eql (.tmp 7) (.const (.int .i64 17)), none⟩,
       ⟨some 15, .mov (.tmp 20), none⟩])))))))))
   (.cond (.tmp 15)
    (.seq (.region [
    ⟨some 2, .mov (.const (.int .i64 2)), none⟩])
    .ret)
    .skip))))))
 (.seq (.region [
 ⟨some 2, .mov (.const (.int .i64 0)), none⟩])
 .ret)))),
 [.tmp 2]⟩
theorem low_ref03_Place : lowFn Tryz.prog movers 21 = some ⟨ir_ref03_Place.n, strip ir_ref03_Place.body, ir_ref03_Place.res⟩ := by kernel_rfl
def ir_ref03_Skips : IFn := ⟨16,
 (.seq (.region [
 ⟨some 1, .box 23 (.tmp 0), none⟩,
 ⟨some 2, .mov (.const (.int .i64 0)), none⟩,
 ⟨some 3, .mov (.const (.bool false)), none⟩])
 (.seq (.seq (.region [
 ⟨some 4, .ldN 5 (.tmp 1), none⟩,
 ⟨some 5, .call 14 [(.tmp 4)], none⟩,
 ⟨some 6, .bin .neq (.tmp 5) (.const (.int .i64 0)), none⟩,
 ⟨some 7, .mov (.tmp 6), none⟩,
 ⟨some 8, .fad 0 (.tmp 1), some (7, false)⟩,
 ⟨some 9, .ld (.tmp 8), some (7, false)⟩,
 ⟨some 10, .call 38 [(.tmp 9)], some (7, false)⟩,
 ⟨some 11, .call 41 [(.tmp 10), (.const (.int .u8 106))], some (7, false)⟩,
 ⟨some 12, .not (.tmp 11), some (7, false)⟩,
 ⟨some 13, .pick (.tmp 7) (.const (.bool true)) (.tmp 12), none⟩])
 (.cond (.tmp 13)
  (.seq (.region [
  ⟨some 2, .mov (.const (.int .i64 0)), none⟩,
  ⟨some 3, .mov (.const (.bool false)), none⟩])
  .ret)
  .skip))
 (.seq (.region [
 ⟨some 14, .fad 4 (.tmp 1), none⟩,
 ⟨some 15, .ld (.tmp 14), none⟩,
 ⟨some 2, .mov (.tmp 15), none⟩,
 ⟨some 3, .mov (.const (.bool true)), none⟩])
 .ret))),
 [.tmp 2, .tmp 3]⟩
theorem low_ref03_Skips : lowFn Tryz.prog movers 30 = some ⟨ir_ref03_Skips.n, strip ir_ref03_Skips.body, ir_ref03_Skips.res⟩ := by kernel_rfl
def ir_ref03_form : IFn := ⟨7,
 (.seq (.region [
 ⟨some 2, .mov (.const (.string ⟨#[]⟩)), none⟩])
 (.seq (.region [
 ⟨some 3, .blds 9 18 [(.string ⟨#[]⟩), (.string ⟨#[]⟩), (.string ⟨#[]⟩), (.string ⟨#[]⟩), (.string ⟨#[]⟩), (.string ⟨#[]⟩), (.string ⟨#[]⟩), (.string ⟨#[]⟩), (.string ⟨#[]⟩), (.string ⟨#[]⟩), (.string ⟨#[]⟩), (.string ⟨#[]⟩), (.string ⟨#[]⟩), (.string ⟨#[]⟩), (.string ⟨#[]⟩), (.string ⟨#[]⟩), (.string ⟨#[]⟩), (.string ⟨#[]⟩)] [(0, 1, (.const (.string ⟨#[]⟩))), (1, 1, (.const (.string ⟨#[114, 105]⟩))), (2, 1, (.const (.string ⟨#[114, 115]⟩))), (3, 1, (.const (.string ⟨#[114, 115, 116, 102]⟩))), (4, 1, (.const (.string ⟨#[106]⟩))), (5, 1, (.const (.string ⟨#[114, 106]⟩))), (6, 1, (.const (.string ⟨#[114, 106]⟩))), (7, 1, (.const (.string ⟨#[97]⟩))), (8, 1, (.const (.string ⟨#[]⟩))), (9, 1, (.const (.string ⟨#[]⟩))), (10, 1, (.const (.string ⟨#[114, 115, 105]⟩))), (11, 1, (.const (.string ⟨#[114, 115, 105]⟩))), (12, 1, (.const (.string ⟨#[114, 115, 105]⟩))), (13, 1, (.const (.string ⟨#[114, 115, 105]⟩))), (14, 1, (.const (.string ⟨#[114, 99]⟩))), (15, 1, (.const (.string ⟨#[114]⟩))), (16, 1, (.const (.string ⟨#[]⟩))), (17, 1, (.const (.string ⟨#[114]⟩)))], none⟩,
 ⟨some 4, .mov (.tmp 0), none⟩,
 ⟨some 5, .ixs 1 (.tmp 3) (.tmp 4), none⟩,
 ⟨some 6, .ld (.tmp 5), none⟩,
 ⟨some 2, .mov (.tmp 6), none⟩])
 .ret)),
 [.tmp 2]⟩
theorem low_ref03_form : lowFn Tryz.prog movers 38 = some ⟨ir_ref03_form.n, strip ir_ref03_form.body, ir_ref03_form.res⟩ := by kernel_rfl
def ir_ref03_name : IFn := ⟨7,
 (.seq (.region [
 ⟨some 2, .mov (.const (.string ⟨#[]⟩)), none⟩])
 (.seq (.region [
 ⟨some 3, .blds 9 18 [(.string ⟨#[]⟩), (.string ⟨#[]⟩), (.string ⟨#[]⟩), (.string ⟨#[]⟩), (.string ⟨#[]⟩), (.string ⟨#[]⟩), (.string ⟨#[]⟩), (.string ⟨#[]⟩), (.string ⟨#[]⟩), (.string ⟨#[]⟩), (.string ⟨#[]⟩), (.string ⟨#[]⟩), (.string ⟨#[]⟩), (.string ⟨#[]⟩), (.string ⟨#[]⟩), (.string ⟨#[]⟩), (.string ⟨#[]⟩), (.string ⟨#[]⟩)] [(0, 1, (.const (.string ⟨#[110, 111, 112]⟩))), (1, 1, (.const (.string ⟨#[99, 111, 110, 115, 116]⟩))), (2, 1, (.const (.string ⟨#[109, 111, 118, 101]⟩))), (3, 1, (.const (.string ⟨#[]⟩))), (4, 1, (.const (.string ⟨#[106, 117, 109, 112]⟩))), (5, 1, (.const (.string ⟨#[122, 101, 114, 111]⟩))), (6, 1, (.const (.string ⟨#[110, 111, 110, 122, 101, 114, 111]⟩))), (7, 1, (.const (.string ⟨#[98, 101, 103, 105, 110]⟩))), (8, 1, (.const (.string ⟨#[99, 111, 109, 109, 105, 116]⟩))), (9, 1, (.const (.string ⟨#[97, 98, 111, 114, 116]⟩))), (10, 1, (.const (.string ⟨#[116, 114, 101, 97, 100]⟩))), (11, 1, (.const (.string ⟨#[116, 119, 114, 105, 116, 101]⟩))), (12, 1, (.const (.string ⟨#[112, 114, 101, 97, 100]⟩))), (13, 1, (.const (.string ⟨#[112, 119, 114, 105, 116, 101]⟩))), (14, 1, (.const (.string ⟨#[97, 108, 108, 111, 99]⟩))), (15, 1, (.const (.string ⟨#[102, 114, 101, 101]⟩))), (16, 1, (.const (.string ⟨#[102, 101, 110, 99, 101]⟩))), (17, 1, (.const (.string ⟨#[111, 117, 116, 99, 111, 109, 101]⟩)))], none⟩,
 ⟨some 4, .mov (.tmp 0), none⟩,
 ⟨some 5, .ixs 1 (.tmp 3) (.tmp 4), none⟩,
 ⟨some 6, .ld (.tmp 5), none⟩,
 ⟨some 2, .mov (.tmp 6), none⟩])
 .ret)),
 [.tmp 2]⟩
theorem low_ref03_name : lowFn Tryz.prog movers 39 = some ⟨ir_ref03_name.n, strip ir_ref03_name.body, ir_ref03_name.res⟩ := by kernel_rfl
def ir_ref03_has : IFn := ⟨17,
 (.seq (.region [
 ⟨some 4, .mov (.const (.bool false)), none⟩])
 (.seq (.seq (.region [
 ⟨some 5, .mov (.const (.int .i64 0)), none⟩])
 (.block 0
  (.loop 131056
   (.seq (.seq (.region [
   ⟨some 6, .mov (.tmp 5), none⟩,
   ⟨some 7, .mov (.tmp 0), none⟩,
   ⟨some 8, .lens (.tmp 7), none⟩,
   ⟨some 9, .bin .lss (.tmp 6) (.tmp 8), none⟩])
   (.cond (.tmp 9)
    .skip
    (.exit 0)))
   (.seq (.block 1
    (.seq (.region [
    ⟨some 12, .mov (.tmp 0), none⟩,
    ⟨some 13, .mov (.tmp 5), none⟩,
    ⟨some 14, .sidx (.tmp 12) (.tmp 13), none⟩,
    ⟨some 15, .mov (.tmp 1), none⟩,
    ⟨some 16, .bin .eql (.tmp 14) (.tmp 15), none⟩])
    (.cond (.tmp 16)
     (.seq (.region [
     ⟨some 4, .mov (.const (.bool true)), none⟩])
     .ret)
     .skip)))
   (.region [
   ⟨some 10, .mov (.tmp 5), none⟩,
   ⟨some 11, .bin .add (.tmp 10) (.const (.int .i64 1)), none⟩,
   ⟨some 5, .mov (.tmp 11), none⟩]))))))
 (.seq (.region [
 ⟨some 4, .mov (.const (.bool false)), none⟩])
 .ret))),
 [.tmp 4]⟩
theorem low_ref03_has : lowFn Tryz.prog movers 41 = some ⟨ir_ref03_has.n, strip ir_ref03_has.body, ir_ref03_has.res⟩ := by kernel_rfl
def ir_ref03_register : IFn := ⟨14,
 (.seq (.region [
 ⟨some 4, .mov (.const (.bool false)), none⟩])
 (.seq (.seq (.region [
 ⟨some 5, .mov (.tmp 1), none⟩])
 (.cond (.tmp 5)
  (.seq (.region [
  ⟨some 6, .mov (.tmp 0), none⟩,
  ⟨some 7, .bin .geq (.tmp 6) (.const (.int .i64 0)), none⟩,
  ⟨some 8, .mov (.tmp 7), none⟩,
  ⟨some 9, .mov (.tmp 0), some (8, true)⟩,
  ⟨some 10, .bin .lss (.tmp 9) (.const (.int .i64 8)), some (8, true)⟩,
  ⟨some 11, .pick (.tmp 8) (.tmp 10) (.const (.bool false)), none⟩,
  ⟨some 4, .mov (.tmp 11), none⟩])
  .ret)
  .skip))
 (.seq (.region [
 ⟨some 12, .mov (.tmp 0), none⟩,
 ⟨some 13, .bin .eql (.tmp 12) (.const (.int .i64 0)), none⟩,
 ⟨some 4, .mov (.tmp 13), none⟩])
 .ret))),
 [.tmp 4]⟩
theorem low_ref03_register : lowFn Tryz.prog movers 44 = some ⟨ir_ref03_register.n, strip ir_ref03_register.body, ir_ref03_register.res⟩ := by kernel_rfl
def ir_ref03_Words : IFn := ⟨35,
 (.seq (.region [
 ⟨some 2, .mov (.const (.slice none 0 0)), none⟩])
 (.seq (.region [
 ⟨some 3, .mov (.const (.slice none 0 0)), none⟩])
 (.seq (.region [
 ⟨some 4, .mov (.const (.int .i64 0)), none⟩])
 (.seq (.seq (.region [
 ⟨some 5, .mov (.const (.int .i64 0)), none⟩])
 (.block 0
  (.loop 17179869176
   (.seq (.seq (.region [
   ⟨some 6, .mov (.tmp 5), none⟩,
   ⟨some 7, .mov (.tmp 0), none⟩,
   ⟨some 8, .lens (.tmp 7), none⟩,
   ⟨some 9, .bin .leq (.tmp 6) (.tmp 8), none⟩])
   (.cond (.tmp 9)
    .skip
    (.exit 0)))
   (.seq (.block 1
    (.seq (.seq (.region [
    ⟨some 12, .mov (.tmp 5), none⟩,
    ⟨some 13, .mov (.tmp 0), none⟩,
    ⟨some 14, .lens (.tmp 13), none⟩,
    ⟨some 15, .bin .lss (.tmp 12) (.tmp 14), none⟩,
    ⟨some 16, .mov (.tmp 15), none⟩,
    ⟨some 17, .mov (.tmp 0), some (16, true)⟩,
    ⟨some 18, .mov (.tmp 5), some (16, true)⟩,
    ⟨some 19, .sidx (.tmp 17) (.tmp 18), some (16, true)⟩,
    ⟨some 20, .bin .neq (.tmp 19) (.const (.int .u8 32)), some (16, true)⟩,
    ⟨some 21, .pick (.tmp 16) (.tmp 20) (.const (.bool false)), none⟩])
    (.cond (.tmp 21)
     (.exit 1)
     .skip))
    (.seq (.seq (.region [
    ⟨some 22, .mov (.tmp 5), none⟩,
    ⟨some 23, .mov (.tmp 4), none⟩,
    ⟨some 24, .bin .gtr (.tmp 22) (.tmp 23), none⟩])
    (.cond (.tmp 24)
     (.region [
     ⟨some 25, .mov (.tmp 3), none⟩,
     ⟨some 26, .mov (.tmp 0), none⟩,
     ⟨some 27, .mov (.tmp 4), none⟩,
     ⟨some 28, .mov (.tmp 5), none⟩,
     ⟨some 29, .sslc (.tmp 26) (some (.tmp 27)) (some (.tmp 28)), none⟩,
     ⟨some 30, .blds 9 1 [(.string ⟨#[]⟩)] [(0, 1, (.tmp 29))], none⟩,
     ⟨some 31, .app 9 1 16 [(.string ⟨#[]⟩)] (.tmp 25) (.tmp 30), none⟩,
     ⟨some 3, .mov (.tmp 31), none⟩])
     .skip))
    (.region [
    ⟨some 32, .mov (.tmp 5), none⟩,
    ⟨some 33, .bin .add (.tmp 32) (.const (.int .i64 1)), none⟩,
    ⟨some 4, .mov (.tmp 33), none⟩]))))
   (.region [
   ⟨some 10, .mov (.tmp 5), none⟩,
   ⟨some 11, .bin .add (.tmp 10) (.const (.int .i64 1)), none⟩,
   ⟨some 5, .mov (.tmp 11), none⟩]))))))
 (.seq (.region [
 ⟨some 34, .mov (.tmp 3), none⟩,
 ⟨some 2, .mov (.tmp 34), none⟩])
 .ret))))),
 [.tmp 2]⟩
theorem low_ref03_Words : lowFn Tryz.prog movers 52 = some ⟨ir_ref03_Words.n, strip ir_ref03_Words.body, ir_ref03_Words.res⟩ := by kernel_rfl
end Go.Proofs.YtiimndcifcoofaaGreatDoor
namespace Go.Proofs.YtiimndcifcoofaaGreatDoor
open Go
set_option maxRecDepth 100000
def ir_alu_Name : IFn := ⟨12,
 (.seq (.region [
 ⟨some 2, .mov (.const (.string ⟨#[]⟩)), none⟩])
 (.seq (.seq (.region [
 ⟨some 3, .mov (.tmp 0), none⟩,
 ⟨some 4, .bin .lss (.tmp 3) (.const (.int .i64 0)), none⟩,
 ⟨some 5, .mov (.tmp 4), none⟩,
 ⟨some 6, .mov (.tmp 0), some (5, false)⟩,
 ⟨some 7, .bin .geq (.tmp 6) (.const (.int .i64 22)), some (5, false)⟩,
 ⟨some 8, .pick (.tmp 5) (.const (.bool true)) (.tmp 7), none⟩])
 (.cond (.tmp 8)
  (.seq (.region [
  ⟨some 2, .mov (.const (.string ⟨#[]⟩)), none⟩])
  .ret)
  .skip))
 (.seq (.region [
 ⟨some 9, .mov (.tmp 0), none⟩,
 ⟨some 10, .ixa 22 1 (.global 1) (.tmp 9), none⟩,
 ⟨some 11, .ld (.tmp 10), none⟩,
 ⟨some 2, .mov (.tmp 11), none⟩])
 .ret))),
 [.tmp 2]⟩
theorem low_alu_Name : lowFn Tryz.prog movers 35 = some ⟨ir_alu_Name.n, strip ir_alu_Name.body, ir_alu_Name.res⟩ := by kernel_rfl
def ir_alu_Number : IFn := ⟨15,
 (.seq (.region [
 ⟨some 2, .mov (.const (.int .i64 0)), none⟩,
 ⟨some 3, .mov (.const (.bool false)), none⟩])
 (.seq (.seq (.region [
 ⟨some 5, .mov (.const (.int .i64 0)), none⟩])
 (.block 0
  (.loop 32764
   (.seq (.region [
   ⟨some 6, .bin .lss (.tmp 5) (.const (.int .i64 22)), none⟩])
   (.seq (.cond (.tmp 6)
    .skip
    (.exit 0))
   (.seq (.block 1
    (.seq (.region [
    ⟨some 7, .mov (.tmp 5), none⟩,
    ⟨some 4, .mov (.tmp 7), none⟩])
    (.seq (.region [
    ⟨some 8, .mov (.tmp 4), none⟩,
    ⟨some 9, .ixa 22 1 (.global 1) (.tmp 8), none⟩,
    ⟨some 10, .ld (.tmp 9), none⟩,
    ⟨some 11, .mov (.tmp 0), none⟩,
    ⟨some 12, .sbin .eql (.tmp 10) (.tmp 11), none⟩])
    (.cond (.tmp 12)
     (.seq (.region [
     ⟨some 13, .mov (.tmp 4), none⟩,
     ⟨some 2, .mov (.tmp 13), none⟩,
     ⟨some 3, .mov (.const (.bool true)), none⟩])
     .ret)
     .skip))))
   (.region [
   ⟨some 14, .bin .add (.tmp 5) (.const (.int .i64 1)), none⟩,
   ⟨some 5, .mov (.tmp 14), none⟩])))))))
 (.seq (.region [
 ⟨some 2, .mov (.const (.int .i64 0)), none⟩,
 ⟨some 3, .mov (.const (.bool false)), none⟩])
 .ret))),
 [.tmp 2, .tmp 3]⟩
theorem low_alu_Number : lowFn Tryz.prog movers 107 = some ⟨ir_alu_Number.n, strip ir_alu_Number.body, ir_alu_Number.res⟩ := by kernel_rfl
end Go.Proofs.YtiimndcifcoofaaGreatDoor
namespace Go.Proofs.YtiimndcifcoofaaGreatDoor
open Go
set_option maxRecDepth 100000
def ir_ref02_Name : IFn := ⟨13,
 (.seq (.region [
 ⟨some 2, .mov (.const (.string ⟨#[]⟩)), none⟩])
 (.seq (.seq (.region [
 ⟨some 3, .mov (.tmp 0), none⟩,
 ⟨some 4, .bin .lss (.tmp 3) (.const (.int .i64 0)), none⟩,
 ⟨some 5, .mov (.tmp 4), none⟩,
 ⟨some 6, .mov (.tmp 0), some (5, false)⟩,
 ⟨some 7, .bin .geq (.tmp 6) (.const (.int .i64 22)), some (5, false)⟩,
 ⟨some 8, .pick (.tmp 5) (.const (.bool true)) (.tmp 7), none⟩])
 (.cond (.tmp 8)
  (.seq (.region [
  ⟨some 2, .mov (.const (.string ⟨#[]⟩)), none⟩])
  .ret)
  .skip))
 (.seq (.region [
 ⟨some 9, .call 69 [], none⟩,
 ⟨some 10, .mov (.tmp 0), none⟩,
 ⟨some 11, .ixs 1 (.tmp 9) (.tmp 10), none⟩,
 ⟨some 12, .ld (.tmp 11), none⟩,
 ⟨some 2, .mov (.tmp 12), none⟩])
 .ret))),
 [.tmp 2]⟩
theorem low_ref02_Name : lowFn Tryz.prog movers 40 = some ⟨ir_ref02_Name.n, strip ir_ref02_Name.body, ir_ref02_Name.res⟩ := by kernel_rfl
def ir_ref02_names : IFn := ⟨2,
 (.seq (.region [
 ⟨some 0, .mov (.const (.slice none 0 0)), none⟩])
 (.seq (.region [
 ⟨some 1, .blds 9 22 [(.string ⟨#[]⟩), (.string ⟨#[]⟩), (.string ⟨#[]⟩), (.string ⟨#[]⟩), (.string ⟨#[]⟩), (.string ⟨#[]⟩), (.string ⟨#[]⟩), (.string ⟨#[]⟩), (.string ⟨#[]⟩), (.string ⟨#[]⟩), (.string ⟨#[]⟩), (.string ⟨#[]⟩), (.string ⟨#[]⟩), (.string ⟨#[]⟩), (.string ⟨#[]⟩), (.string ⟨#[]⟩), (.string ⟨#[]⟩), (.string ⟨#[]⟩), (.string ⟨#[]⟩), (.string ⟨#[]⟩), (.string ⟨#[]⟩), (.string ⟨#[]⟩)] [(0, 1, (.const (.string ⟨#[97, 100, 100]⟩))), (1, 1, (.const (.string ⟨#[115, 117, 98]⟩))), (2, 1, (.const (.string ⟨#[109, 117, 108]⟩))), (3, 1, (.const (.string ⟨#[97, 110, 100]⟩))), (4, 1, (.const (.string ⟨#[111, 114]⟩))), (5, 1, (.const (.string ⟨#[120, 111, 114]⟩))), (6, 1, (.const (.string ⟨#[115, 104, 108]⟩))), (7, 1, (.const (.string ⟨#[115, 104, 114]⟩))), (8, 1, (.const (.string ⟨#[101, 113]⟩))), (9, 1, (.const (.string ⟨#[110, 101]⟩))), (10, 1, (.const (.string ⟨#[108, 116]⟩))), (11, 1, (.const (.string ⟨#[108, 116, 117]⟩))), (12, 1, (.const (.string ⟨#[102, 97, 100, 100]⟩))), (13, 1, (.const (.string ⟨#[102, 115, 117, 98]⟩))), (14, 1, (.const (.string ⟨#[102, 109, 117, 108]⟩))), (15, 1, (.const (.string ⟨#[102, 100, 105, 118]⟩))), (16, 1, (.const (.string ⟨#[102, 109, 105, 110]⟩))), (17, 1, (.const (.string ⟨#[102, 109, 97, 120]⟩))), (18, 1, (.const (.string ⟨#[102, 101, 113]⟩))), (19, 1, (.const (.string ⟨#[102, 108, 116]⟩))), (20, 1, (.const (.string ⟨#[102, 114, 111, 109, 105, 110, 116]⟩))), (21, 1, (.const (.string ⟨#[116, 111, 105, 110, 116]⟩)))], none⟩,
 ⟨some 0, .mov (.tmp 1), none⟩])
 .ret)),
 [.tmp 0]⟩
theorem low_ref02_names : lowFn Tryz.prog movers 69 = some ⟨ir_ref02_names.n, strip ir_ref02_names.body, ir_ref02_names.res⟩ := by kernel_rfl
end Go.Proofs.YtiimndcifcoofaaGreatDoor
namespace Go.Proofs.YtiimndcifcoofaaGreatDoor
open Go
set_option maxRecDepth 100000
def ir_kit_Place : IFn := ⟨11,
 (.seq (.region [
 ⟨some 4, .mov (.const (.int .i64 0)), none⟩])
 (.seq (.region [
 ⟨some 5, .mov (.tmp 0), none⟩,
 ⟨some 6, .conv .u64 (.tmp 5), none⟩,
 ⟨some 7, .mov (.tmp 1), none⟩,
 ⟨some 8, .conv .u64 (.tmp 7), none⟩,
 ⟨some 9, .bin .rem (.tmp 6) (.tmp 8), none⟩,
 ⟨some 10, .conv .i64 (.tmp 9), none⟩,
 ⟨some 4, .mov (.tmp 10), none⟩])
 .ret)),
 [.tmp 4]⟩
theorem low_kit_Place : lowFn Tryz.prog movers 31 = some ⟨ir_kit_Place.n, strip ir_kit_Place.body, ir_kit_Place.res⟩ := by kernel_rfl
end Go.Proofs.YtiimndcifcoofaaGreatDoor
