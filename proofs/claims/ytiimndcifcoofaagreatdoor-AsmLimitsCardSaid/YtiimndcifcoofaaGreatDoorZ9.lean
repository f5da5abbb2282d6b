/- What the laws of this seat share, part 9: contracts of the functions, plain laws, and the rules of their proofs. No condition. -/
import Derived.Test.YtiimndcifcoofaaGreatDoorRows
import Derived.Test.YtiimndcifcoofaaGreatDoorZ8
namespace Go.Proofs.YtiimndcifcoofaaGreatDoor
open Go
set_option maxRecDepth 100000
theorem mixed : Tryz.prog.follows .mixedOrders = true := by kernel_rfl
/-- Functions that do not leave the class alone. -/
def movers : List Nat := [16, 17, 24, 25, 29, 32, 45, 46, 47, 49, 50, 52, 57, 58, 69, 73, 75, 76, 81, 105]
end Go.Proofs.YtiimndcifcoofaaGreatDoor
namespace Go.Proofs.YtiimndcifcoofaaGreatDoor
open Go
set_option maxRecDepth 100000
/-- strongtx/isa.Format -/
def ir_isa_Format : IFn := ⟨71,
 (.seq (.region [
 ⟨some 1, .box 23 (.tmp 0), none⟩,
 ⟨some 2, .mov (.const (.string ⟨#[]⟩)), none⟩,
 ⟨some 3, .mov (.const (.int .i64 0)), none⟩])
 (.seq (.seq (.region [
 ⟨some 9, .ldN 5 (.tmp 1), none⟩,
 ⟨some 10, .call 13 [(.tmp 9)], none⟩,
 ⟨some 4, .mov (.tmp 10), none⟩])
 (.seq (.region [
 ⟨some 11, .mov (.tmp 4), none⟩,
 ⟨some 12, .bin .neq (.tmp 11) (.const (.int .i64 0)), none⟩])
 (.cond (.tmp 12)
  (.seq (.region [
  ⟨some 13, .mov (.tmp 4), none⟩,
  ⟨some 2, .mov (.const (.string ⟨#[]⟩)), none⟩,
  ⟨some 3, .mov (.tmp 13), none⟩])
  .ret)
  .skip)))
 (.seq (.region [
 ⟨some 14, .fad 0 (.tmp 1), none⟩,
 ⟨some 15, .ld (.tmp 14), none⟩,
 ⟨some 16, .ixa 18 2 (.global 0) (.tmp 15), none⟩,
 ⟨some 17, .ldN 2 (.tmp 16), none⟩,
 ⟨some 5, .new 53 (.agg #[.string ⟨#[]⟩, .string ⟨#[]⟩]), none⟩,
 ⟨none, .stN 2 (.tmp 5) (.tmp 17), none⟩])
 (.seq (.region [
 ⟨some 18, .fad 0 (.tmp 5), none⟩,
 ⟨some 19, .ld (.tmp 18), none⟩,
 ⟨some 20, .blds 9 1 [(.string ⟨#[]⟩)] [(0, 1, (.tmp 19))], none⟩,
 ⟨some 6, .mov (.tmp 20), none⟩])
 (.seq (.seq (.region [
 ⟨some 21, .fad 0 (.tmp 1), none⟩,
 ⟨some 22, .ld (.tmp 21), none⟩,
 ⟨some 23, .bin .eql (.tmp 22) (.const (.int .i64 3)), none⟩])
 (.cond (.tmp 23)
  (.region [
  ⟨some 24, .mov (.tmp 6), none⟩,
  ⟨some 25, .fad 4 (.tmp 1), none⟩,
  ⟨some 26, .ld (.tmp 25), none⟩,
  ⟨some 27, .call 35 [(.tmp 26)], none⟩,
  ⟨some 28, .ixs 1 (.tmp 24) (.const (.int .i64 0)), none⟩,
  ⟨none, .st (.tmp 28) (.tmp 27), none⟩])
  .skip))
 (.seq (.seq (.region [
 ⟨some 29, .fad 1 (.tmp 5), none⟩,
 ⟨some 30, .ld (.tmp 29), none⟩,
 ⟨some 31, .iter (.tmp 30), none⟩])
 (.block 0
  (.loop 590295810354410684736
   (.seq (.region [
   ⟨some 32, .next (.tmp 31), none⟩,
   ⟨some 33, .ext (.tmp 32) 0, none⟩])
   (.seq (.cond (.tmp 33)
    .skip
    (.exit 0))
   (.block 1
    (.seq (.region [
    ⟨some 34, .ext (.tmp 32) 2, none⟩,
    ⟨some 8, .mov (.tmp 34), none⟩])
    (.seq (.region [
    ⟨some 35, .mov (.tmp 8), none⟩])
    (.block 2
     (.seq (.region [
     ⟨some 43, .bin .eql (.tmp 35) (.const (.int .i32 65)), none⟩,
     ⟨some 42, .mov (.tmp 43), none⟩])
     (.cond (.tmp 42)
      (.region [
      ⟨some 44, .mov (.tmp 6), none⟩,
      ⟨some 45, .fad 1 (.tmp 1), none⟩,
      ⟨some 46, .ld (.tmp 45), none⟩,
      ⟨some 47, .call 36 [(.tmp 46)], none⟩,
      ⟨some 48, .scat (.const (.string ⟨#[114]⟩)) (.tmp 47), none⟩,
      ⟨some 49, .blds 9 1 [(.string ⟨#[]⟩)] [(0, 1, (.tmp 48))], none⟩,
      ⟨some 50, .app 9 1 16 [(.string ⟨#[]⟩)] (.tmp 44) (.tmp 49), none⟩,
      ⟨some 6, .mov (.tmp 50), none⟩])
      (.seq (.region [
      ⟨some 52, .bin .eql (.tmp 35) (.const (.int .i32 66)), none⟩,
      ⟨some 51, .mov (.tmp 52), none⟩])
      (.cond (.tmp 51)
       (.region [
       ⟨some 53, .mov (.tmp 6), none⟩,
       ⟨some 54, .fad 2 (.tmp 1), none⟩,
       ⟨some 55, .ld (.tmp 54), none⟩,
       ⟨some 56, .call 36 [(.tmp 55)], none⟩,
       ⟨some 57, .scat (.const (.string ⟨#[114]⟩)) (.tmp 56), none⟩,
       ⟨some 58, .blds 9 1 [(.string ⟨#[]⟩)] [(0, 1, (.tmp 57))], none⟩,
       ⟨some 59, .app 9 1 16 [(.string ⟨#[]⟩)] (.tmp 53) (.tmp 58), none⟩,
       ⟨some 6, .mov (.tmp 59), none⟩])
       (.seq (.region [
       ⟨some 61, .bin .eql (.tmp 35) (.const (.int .i32 67)), none⟩,
       ⟨some 60, .mov (.tmp 61), none⟩])
       (.cond (.tmp 60)
        (.region [
        ⟨some 62, .mov (.tmp 6), none⟩,
        ⟨some 63, .fad 3 (.tmp 1), none⟩,
        ⟨some 64, .ld (.tmp 63), none⟩,
        ⟨some 65, .call 36 [(.tmp 64)], none⟩,
        ⟨some 66, .scat (.const (.string ⟨#[114]⟩)) (.tmp 65), none⟩,
        ⟨some 67, .blds 9 1 [(.string ⟨#[]⟩)] [(0, 1, (.tmp 66))], none⟩,
        ⟨some 68, .app 9 1 16 [(.string ⟨#[]⟩)] (.tmp 62) (.tmp 67), none⟩,
        ⟨some 6, .mov (.tmp 68), none⟩])
        (.region [
        ⟨some 36, .mov (.tmp 6), none⟩,
        ⟨some 37, .fad 4 (.tmp 1), none⟩,
        ⟨some 38, .ld (.tmp 37), none⟩,
        ⟨some 39, .call 36 [(.tmp 38)], none⟩,
        ⟨some 40, .blds 9 1 [(.string ⟨#[]⟩)] [(0, 1, (.tmp 39))], none⟩,
        ⟨some 41, .app 9 1 16 [(.string ⟨#[]⟩)] (.tmp 36) (.tmp 40), none⟩,
        ⟨some 6, .mov (.tmp 41), none⟩]))))))))))))))))
 (.seq (.region [
 ⟨some 69, .mov (.tmp 6), none⟩,
 ⟨some 70, .call 37 [(.tmp 69), (.const (.string ⟨#[32]⟩))], none⟩,
 ⟨some 2, .mov (.tmp 70), none⟩,
 ⟨some 3, .mov (.const (.int .i64 0)), none⟩])
 .ret))))))),
 [.tmp 2, .tmp 3]⟩
theorem low_isa_Format : lowFn Tryz.prog movers 11 = some ⟨ir_isa_Format.n, strip ir_isa_Format.body, ir_isa_Format.res⟩ := by kernel_rfl
/-- strongtx/isa.Check -/
def ir_isa_Check : IFn := ⟨56,
 (.seq (.region [
 ⟨some 1, .box 23 (.tmp 0), none⟩,
 ⟨some 2, .mov (.const (.int .i64 0)), none⟩])
 (.seq (.seq (.region [
 ⟨some 6, .fad 0 (.tmp 1), none⟩,
 ⟨some 7, .ld (.tmp 6), none⟩,
 ⟨some 8, .bin .lss (.tmp 7) (.const (.int .i64 0)), none⟩,
 ⟨some 9, .mov (.tmp 8), none⟩,
 ⟨some 10, .fad 0 (.tmp 1), some (9, false)⟩,
 ⟨some 11, .ld (.tmp 10), some (9, false)⟩,
 ⟨some 12, .bin .geq (.tmp 11) (.const (.int .i64 18)), some (9, false)⟩,
 ⟨some 13, .pick (.tmp 9) (.const (.bool true)) (.tmp 12), none⟩])
 (.cond (.tmp 13)
  (.seq (.region [
  ⟨some 2, .mov (.const (.int .i64 10)), none⟩])
  .ret)
  .skip))
 (.seq (.seq (.region [
 ⟨some 14, .fad 1 (.tmp 1), none⟩,
 ⟨some 15, .ld (.tmp 14), none⟩,
 ⟨some 16, .fad 2 (.tmp 1), none⟩,
 ⟨some 17, .ld (.tmp 16), none⟩,
 ⟨some 18, .fad 3 (.tmp 1), none⟩,
 ⟨some 19, .ld (.tmp 18), none⟩,
 ⟨some 20, .bld [(.int .i64 0), (.int .i64 0), (.int .i64 0)] [(0, 1, (.tmp 15)), (1, 1, (.tmp 17)), (2, 1, (.tmp 19))], none⟩,
 ⟨some 21, .mov (.const (.int .i64 0)), none⟩])
 (.block 0
  (.loop 9007199252643900
   (.seq (.region [
   ⟨some 22, .bin .lss (.tmp 21) (.const (.int .i64 3)), none⟩])
   (.seq (.cond (.tmp 22)
    .skip
    (.exit 0))
   (.seq (.block 1
    (.seq (.region [
    ⟨some 23, .mov (.tmp 21), none⟩,
    ⟨some 24, .idx 3 (.tmp 20) (.tmp 21), none⟩,
    ⟨some 3, .mov (.tmp 23), none⟩,
    ⟨some 4, .mov (.tmp 24), none⟩])
    (.seq (.draw (.f ⟨some 25, .fad 0 (.tmp 1), none⟩
    (.f ⟨some 26, .ld (.tmp 25), none⟩
    (.f ⟨some 27, .ixa 18 2 (.global 0) (.tmp 26), none⟩
    (.f ⟨some 28, .fad 1 (.tmp 27), none⟩
    (.f ⟨some 29, .ld (.tmp 28), none⟩
    (.f ⟨some 30, .mov (.tmp 3), none⟩
    (.f ⟨some 31, .mov (.tmp 3), none⟩
    (.f ⟨some 32, .bin .add (.tmp 31) (.const (.int .i64 1)), none⟩
    (.f ⟨some 33, .sslc (.const (.string ⟨#[65, 66, 67]⟩)) (some (.tmp 30)) (some (.tmp 32)), none⟩
    (.f ⟨some 34, .call 42 [(.tmp 29), (.tmp 33)], none⟩
    (.f ⟨some 5, .mov (.tmp 34), none⟩
    .done))))))))))))
    (.seq (.region [
    ⟨some 35, .mov (.tmp 5), none⟩,
    ⟨some 36, .mov (.tmp 35), none⟩,
    ⟨some 37, .mov (.tmp 4), some (36, true)⟩,
    ⟨some 38, .bin .lss (.tmp 37) (.const (.int .i64 0)), some (36, true)⟩,
    ⟨some 39, .mov (.tmp 38), some (36, true)⟩,
    ⟨some 40, .mov (.tmp 4), some (39, false)⟩,
    ⟨some 41, .bin .geq (.tmp 40) (.const (.int .i64 8)), some (39, false)⟩,
    ⟨some 42, .pick (.tmp 39) (.const (.bool true)) (.tmp 41), some (36, true)⟩,
    ⟨some 43, .pick (.tmp 36) (.tmp 42) (.const (.bool false)), none⟩,
    ⟨some 44, .mov (.tmp 43), none⟩,
    ⟨some 45, .mov (.tmp 5), some (44, false)⟩,
    ⟨some 46, .not (.tmp 45), some (44, false)⟩,
    ⟨some 47, .mov (.tmp 46), some (44, false)⟩,
    ⟨some 48, .mov (.tmp 4), some (47, true)⟩,
    ⟨some 49, .bin .neq (.tmp 48) (.const (.int .i64 0)), some (47, true)⟩,
    ⟨some 50, .pick (.tmp 47) (.tmp 49) (.const (.bool false)), some (44, false)⟩,
    ⟨some 51, .pick (.tmp 44) (.const (.bool true)) (.tmp 50), none⟩])
    (.cond (.tmp 51)
     (.seq (.region [
     ⟨some 2, .mov (.const (.int .i64 11)), none⟩])
     .ret)
     .skip)))))
   (.region [
   ⟨some 52, .bin .add (.tmp 21) (.const (.int .i64 1)), none⟩,
   ⟨some 21, .mov (.tmp 52), none⟩])))))))
 (.seq (.seq (.region [
 ⟨some 53, .ldN 5 (.tmp 1), none⟩,
 ⟨some 54, .call 43 [(.tmp 53)], none⟩,
 ⟨some 55, .not (.tmp 54), none⟩])
 (.cond (.tmp 55)
  (.seq (.region [
  ⟨some 2, .mov (.const (.int .i64 11)), none⟩])
  .ret)
  .skip))
 (.seq (.region [
 ⟨some 2, .mov (.const (.int .i64 0)), none⟩])
 .ret))))),
 [.tmp 2]⟩
theorem low_isa_Check : lowFn Tryz.prog movers 13 = some ⟨ir_isa_Check.n, strip ir_isa_Check.body, ir_isa_Check.res⟩ := by kernel_rfl
/-- strongtx/isa.number -/
def ir_isa_number : IFn := ⟨56,
 (.seq (.region [
 ⟨some 1, .box 23 (.tmp 0), none⟩,
 ⟨some 2, .mov (.const (.bool false)), none⟩])
 (.seq (.seq (.region [
 ⟨some 3, .fad 0 (.tmp 1), none⟩,
 ⟨some 4, .ld (.tmp 3), none⟩])
 (.block 0
  (.seq (.seq (.region [
  ⟨some 6, .bin .eql (.tmp 4) (.const (.int .i64 1)), none⟩,
  ⟨some 5, .mov (.tmp 6), none⟩])
  (.cond (.tmp 5)
   .skip
   (.seq (.region [
   ⟨some 7, .bin .eql (.tmp 4) (.const (.int .i64 10)), none⟩,
   ⟨some 5, .mov (.tmp 7), none⟩])
   (.cond (.tmp 5)
    .skip
    (.seq (.region [
    ⟨some 8, .bin .eql (.tmp 4) (.const (.int .i64 11)), none⟩,
    ⟨some 5, .mov (.tmp 8), none⟩])
    (.cond (.tmp 5)
     .skip
     (.seq (.region [
     ⟨some 9, .bin .eql (.tmp 4) (.const (.int .i64 12)), none⟩,
     ⟨some 5, .mov (.tmp 9), none⟩])
     (.cond (.tmp 5)
      .skip
      (.region [
      ⟨some 10, .bin .eql (.tmp 4) (.const (.int .i64 13)), none⟩,
      ⟨some 5, .mov (.tmp 10), none⟩])))))))))
  (.cond (.tmp 5)
   (.seq (.region [
   ⟨some 2, .mov (.const (.bool true)), none⟩])
   .ret)
   (.seq (.region [
   ⟨some 12, .bin .eql (.tmp 4) (.const (.int .i64 3)), none⟩,
   ⟨some 11, .mov (.tmp 12), none⟩])
   (.cond (.tmp 11)
    (.seq (.region [
    ⟨some 13, .fad 4 (.tmp 1), none⟩,
    ⟨some 14, .ld (.tmp 13), none⟩,
    ⟨some 15, .bin .geq (.tmp 14) (.const (.int .i64 0)), none⟩,
    ⟨some 16, .mov (.tmp 15), none⟩,
    ⟨some 17, .fad 4 (.tmp 1), some (16, true)⟩,
    ⟨some 18, .ld (.tmp 17), some (16, true)⟩,
    ⟨some 19, .bin .lss (.tmp 18) (.const (.int .i64 22)), some (16, true)⟩,
    ⟨some 20, .pick (.tmp 16) (.tmp 19) (.const (.bool false)), none⟩,
    ⟨some 2, .mov (.tmp 20), none⟩])
    .ret)
    (.seq (.seq (.region [
    ⟨some 22, .bin .eql (.tmp 4) (.const (.int .i64 4)), none⟩,
    ⟨some 21, .mov (.tmp 22), none⟩])
    (.cond (.tmp 21)
     .skip
     (.seq (.region [
     ⟨some 23, .bin .eql (.tmp 4) (.const (.int .i64 5)), none⟩,
     ⟨some 21, .mov (.tmp 23), none⟩])
     (.cond (.tmp 21)
      .skip
      (.region [
      ⟨some 24, .bin .eql (.tmp 4) (.const (.int .i64 6)), none⟩,
      ⟨some 21, .mov (.tmp 24), none⟩])))))
    (.cond (.tmp 21)
     (.seq (.region [
     ⟨some 25, .fad 4 (.tmp 1), none⟩,
     ⟨some 26, .ld (.tmp 25), none⟩,
     ⟨some 27, .bin .geq (.tmp 26) (.const (.int .i64 0)), none⟩,
     ⟨some 28, .mov (.tmp 27), none⟩,
     ⟨some 29, .fad 4 (.tmp 1), some (28, true)⟩,
     ⟨some 30, .ld (.tmp 29), some (28, true)⟩,
     ⟨some 31, .bin .leq (.tmp 30) (.const (.int .i64 64)), some (28, true)⟩,
     ⟨some 32, .pick (.tmp 28) (.tmp 31) (.const (.bool false)), none⟩,
     ⟨some 2, .mov (.tmp 32), none⟩])
     .ret)
     (.seq (.region [
     ⟨some 34, .bin .eql (.tmp 4) (.const (.int .i64 7)), none⟩,
     ⟨some 33, .mov (.tmp 34), none⟩])
     (.cond (.tmp 33)
      (.seq (.region [
      ⟨some 35, .fad 4 (.tmp 1), none⟩,
      ⟨some 36, .ld (.tmp 35), none⟩,
      ⟨some 37, .bin .geq (.tmp 36) (.const (.int .i64 1)), none⟩,
      ⟨some 38, .mov (.tmp 37), none⟩,
      ⟨some 39, .fad 4 (.tmp 1), some (38, true)⟩,
      ⟨some 40, .ld (.tmp 39), some (38, true)⟩,
      ⟨some 41, .bin .leq (.tmp 40) (.const (.int .i64 8)), some (38, true)⟩,
      ⟨some 42, .pick (.tmp 38) (.tmp 41) (.const (.bool false)), none⟩,
      ⟨some 2, .mov (.tmp 42), none⟩])
      .ret)
      (.seq (.region [
      ⟨some 44, .bin .eql (.tmp 4) (.const (.int .i64 14)), none⟩,
      ⟨some 43, .mov (.tmp 44), none⟩])
      (.cond (.tmp 43)
       (.seq (.region [
       ⟨some 45, .fad 4 (.tmp 1), none⟩,
       ⟨some 46, .ld (.tmp 45), none⟩,
       ⟨some 47, .bin .geq (.tmp 46) (.const (.int .i64 0)), none⟩,
       ⟨some 48, .mov (.tmp 47), none⟩,
       ⟨some 49, .fad 4 (.tmp 1), some (48, true)⟩,
       ⟨some 50, .ld (.tmp 49), some (48, true)⟩,
       ⟨some 51, .bin .lss (.tmp 50) (.const (.int .i64 4)), some (48, true)⟩,
       ⟨some 52, .pick (.tmp 48) (.tmp 51) (.const (.bool false)), none⟩,
       ⟨some 2, .mov (.tmp 52), none⟩])
       .ret)
       .skip))))))))))))
 (.seq (.region [
 ⟨some 53, .fad 4 (.tmp 1), none⟩,
 ⟨some 54, .ld (.tmp 53), none⟩,
 ⟨some 55, .bin .eql (.tmp 54) (.const (.int .i64 0)), none⟩,
 ⟨some 2, .mov (.tmp 55), none⟩])
 .ret))),
 [.tmp 2]⟩
theorem low_isa_number : lowFn Tryz.prog movers 43 = some ⟨ir_isa_number.n, strip ir_isa_number.body, ir_isa_number.res⟩ := by kernel_rfl
/-- strongtx/isa.Parse -/
def ir_isa_Parse : IFn := ⟨69,
 (.seq (.region [
 ⟨some 2, .new 23 (.agg #[.int .i64 0, .int .i64 0, .int .i64 0, .int .i64 0, .int .i64 0]), none⟩,
 ⟨some 3, .mov (.const (.int .i64 0)), none⟩])
 (.seq (.seq (.region [
 ⟨some 10, .mov (.tmp 0), none⟩,
 ⟨some 11, .lens (.tmp 10), none⟩,
 ⟨some 12, .bin .gtr (.tmp 11) (.const (.int .i64 200)), none⟩])
 (.cond (.tmp 12)
  (.seq (.region [
  ⟨some 13, .bld [(.int .i64 0), (.int .i64 0), (.int .i64 0), (.int .i64 0), (.int .i64 0)] [], none⟩,
  ⟨none, .stN 5 (.tmp 2) (.tmp 13), none⟩,
  ⟨some 3, .mov (.const (.int .i64 3)), none⟩])
  .ret)
  .skip))
 (.seq (.region [
 ⟨some 14, .mov (.tmp 0), none⟩,
 ⟨some 15, .call 73 [(.tmp 14)], none⟩,
 ⟨some 4, .mov (.tmp 15), none⟩])
 (.seq (.seq (.region [
 ⟨some 16, .mov (.tmp 4), none⟩,
 ⟨some 17, .len (.tmp 16), none⟩,
 ⟨some 18, .bin .eql (.tmp 17) (.const (.int .i64 0)), none⟩])
 (.cond (.tmp 18)
  (.seq (.region [
  ⟨some 19, .bld [(.int .i64 0), (.int .i64 0), (.int .i64 0), (.int .i64 0), (.int .i64 0)] [], none⟩,
  ⟨none, .stN 5 (.tmp 2) (.tmp 19), none⟩,
  ⟨some 3, .mov (.const (.int .i64 4)), none⟩])
  .ret)
  .skip))
 (.seq (.region [
 ⟨some 21, .mov (.tmp 4), none⟩,
 ⟨some 22, .ixs 1 (.tmp 21) (.const (.int .i64 0)), none⟩,
 ⟨some 23, .ld (.tmp 22), none⟩,
 ⟨some 24, .call 74 [(.tmp 23)], none⟩,
 ⟨some 20, .mov (.tmp 24), none⟩,
 ⟨some 25, .ext (.tmp 20) 0, none⟩,
 ⟨some 26, .ext (.tmp 20) 1, none⟩,
 ⟨some 5, .new 23 (.agg #[.int .i64 0, .int .i64 0, .int .i64 0, .int .i64 0, .int .i64 0]), none⟩,
 ⟨none, .stN 5 (.tmp 5) (.tmp 25), none⟩,
 ⟨some 6, .mov (.tmp 26), none⟩])
 (.seq (.seq (.region [
 ⟨some 27, .mov (.tmp 6), none⟩,
 ⟨some 28, .not (.tmp 27), none⟩,
 ⟨some 29, .mov (.tmp 28), none⟩,
 ⟨some 30, .mov (.tmp 4), some (29, false)⟩,
 ⟨some 31, .len (.tmp 30), some (29, false)⟩,
 ⟨some 32, .bin .sub (.tmp 31) (.const (.int .i64 1)), some (29, false)⟩,
 ⟨some 33, .fad 0 (.tmp 5), some (29, false)⟩,
 ⟨some 34, .ld (.tmp 33), some (29, false)⟩,
 ⟨some 35, .ixa 18 2 (.global 0) (.tmp 34), some (29, false)⟩,
 ⟨some 36, .fad 1 (.tmp 35), some (29, false)⟩,
 ⟨some 37, .ld (.tmp 36), some (29, false)⟩,
 ⟨some 38, .lens (.tmp 37), some (29, false)⟩,
 ⟨some 39, .bin .neq (.tmp 32) (.tmp 38), some (29, false)⟩,
 ⟨some 40, .pick (.tmp 29) (.const (.bool true)) (.tmp 39), none⟩])
 (.cond (.tmp 40)
  (.seq (.region [
  ⟨some 41, .bld [(.int .i64 0), (.int .i64 0), (.int .i64 0), (.int .i64 0), (.int .i64 0)] [], none⟩,
  ⟨none, .stN 5 (.tmp 2) (.tmp 41), none⟩,
  ⟨some 3, .mov (.const (.int .i64 4)), none⟩])
  .ret)
  .skip))
 (.seq (.seq (.region [
 ⟨some 42, .mov (.tmp 4), none⟩,
 ⟨some 43, .sls 1 (.tmp 42) (some (.const (.int .i64 1))) none none, none⟩,
 ⟨some 44, .len (.tmp 43), none⟩,
 ⟨some 45, .mov (.const (.int .i64 0)), none⟩])
 (.block 0
  (.loop 4611650834055299464
   (.seq (.region [
   ⟨some 46, .bin .lss (.tmp 45) (.tmp 44), none⟩])
   (.seq (.cond (.tmp 46)
    .skip
    (.exit 0))
   (.seq (.block 1
    (.seq (.region [
    ⟨some 47, .mov (.tmp 45), none⟩,
    ⟨some 48, .ixs 1 (.tmp 43) (.tmp 45), none⟩,
    ⟨some 49, .ld (.tmp 48), none⟩,
    ⟨some 7, .mov (.tmp 47), none⟩,
    ⟨some 8, .mov (.tmp 49), none⟩])
    (.seq (.region [
    ⟨some 50, .fad 0 (.tmp 5), none⟩,
    ⟨some 51, .ld (.tmp 50), none⟩,
    ⟨some 52, .ixa 18 2 (.global 0) (.tmp 51), none⟩,
    ⟨some 53, .fad 1 (.tmp 52), none⟩,
    ⟨some 54, .ld (.tmp 53), none⟩,
    ⟨some 55, .mov (.tmp 7), none⟩,
    ⟨some 56, .sidx (.tmp 54) (.tmp 55), none⟩,
    ⟨some 57, .mov (.tmp 8), none⟩,
    ⟨some 58, .call 75 [(.tmp 5), (.tmp 56), (.tmp 57)], none⟩,
    ⟨some 59, .not (.tmp 58), none⟩])
    (.cond (.tmp 59)
     (.seq (.region [
     ⟨some 60, .bld [(.int .i64 0), (.int .i64 0), (.int .i64 0), (.int .i64 0), (.int .i64 0)] [], none⟩,
     ⟨none, .stN 5 (.tmp 2) (.tmp 60), none⟩,
     ⟨some 3, .mov (.const (.int .i64 4)), none⟩])
     .ret)
     .skip))))
   (.region [
   ⟨some 61, .bin .add (.tmp 45) (.const (.int .i64 1)), none⟩,
   ⟨some 45, .mov (.tmp 61), none⟩])))))))
 (.seq (.seq (.region [
 ⟨some 62, .ldN 5 (.tmp 5), none⟩,
 ⟨some 63, .call 13 [(.tmp 62)], none⟩,
 ⟨some 9, .mov (.tmp 63), none⟩])
 (.seq (.region [
 ⟨some 64, .mov (.tmp 9), none⟩,
 ⟨some 65, .bin .neq (.tmp 64) (.const (.int .i64 0)), none⟩])
 (.cond (.tmp 65)
  (.seq (.region [
  ⟨some 66, .bld [(.int .i64 0), (.int .i64 0), (.int .i64 0), (.int .i64 0), (.int .i64 0)] [], none⟩,
  ⟨some 67, .mov (.tmp 9), none⟩,
  ⟨none, .stN 5 (.tmp 2) (.tmp 66), none⟩,
  ⟨some 3, .mov (.tmp 67), none⟩])
  .ret)
  .skip)))
 (.seq (.region [
 ⟨some 68, .ldN 5 (.tmp 5), none⟩,
 ⟨none, .stN 5 (.tmp 2) (.tmp 68), none⟩,
 ⟨some 3, .mov (.const (.int .i64 0)), none⟩])
 .ret))))))))),
 [.cellN 2 5, .tmp 3]⟩
theorem low_isa_Parse : lowFn Tryz.prog movers 48 = some ⟨ir_isa_Parse.n, strip ir_isa_Parse.body, ir_isa_Parse.res⟩ := by kernel_rfl
/-- strongtx/isa.Skips -/
def ir_isa_Skips : IFn := ⟨15,
 (.seq (.region [
 ⟨some 1, .box 23 (.tmp 0), none⟩,
 ⟨some 2, .mov (.const (.int .i64 0)), none⟩,
 ⟨some 3, .mov (.const (.bool false)), none⟩])
 (.seq (.seq (.region [
 ⟨some 4, .ldN 5 (.tmp 1), none⟩,
 ⟨some 5, .call 13 [(.tmp 4)], none⟩,
 ⟨some 6, .bin .eql (.tmp 5) (.const (.int .i64 0)), none⟩])
 (.cond (.tmp 6)
  (.seq (.region [
  ⟨some 7, .fad 0 (.tmp 1), none⟩,
  ⟨some 8, .ld (.tmp 7), none⟩])
  (.block 0
   (.seq (.seq (.region [
   ⟨some 10, .bin .eql (.tmp 8) (.const (.int .i64 4)), none⟩,
   ⟨some 9, .mov (.tmp 10), none⟩])
   (.cond (.tmp 9)
    .skip
    (.seq (.region [
    ⟨some 11, .bin .eql (.tmp 8) (.const (.int .i64 5)), none⟩,
    ⟨some 9, .mov (.tmp 11), none⟩])
    (.cond (.tmp 9)
     .skip
     (.region [
     ⟨some 12, .bin .eql (.tmp 8) (.const (.int .i64 6)), none⟩,
     ⟨some 9, .mov (.tmp 12), none⟩])))))
   (.cond (.tmp 9)
    (.seq (.region [
    ⟨some 13, .fad 4 (.tmp 1), none⟩,
    ⟨some 14, .ld (.tmp 13), none⟩,
    ⟨some 2, .mov (.tmp 14), none⟩,
    ⟨some 3, .mov (.const (.bool true)), none⟩])
    .ret)
    .skip))))
  .skip))
 (.seq (.region [
 ⟨some 2, .mov (.const (.int .i64 0)), none⟩,
 ⟨some 3, .mov (.const (.bool false)), none⟩])
 .ret))),
 [.tmp 2, .tmp 3]⟩
theorem low_isa_Skips : lowFn Tryz.prog movers 59 = some ⟨ir_isa_Skips.n, strip ir_isa_Skips.body, ir_isa_Skips.res⟩ := by kernel_rfl
/-- strongtx/isa.split -/
def ir_isa_split : IFn := ⟨5,
 (.seq (.region [
 ⟨some 2, .mov (.const (.slice none 0 0)), none⟩])
 (.seq (.region [
 ⟨some 3, .mov (.tmp 0), none⟩,
 ⟨some 4, .call 105 [(.tmp 3), (.func 106)], none⟩,
 ⟨some 2, .mov (.tmp 4), none⟩])
 .ret)),
 [.tmp 2]⟩
theorem low_isa_split : lowFn Tryz.prog movers 73 = some ⟨ir_isa_split.n, strip ir_isa_split.body, ir_isa_split.res⟩ := by kernel_rfl
/-- strongtx/isa.operation -/
def ir_isa_operation : IFn := ⟨32,
 (.seq (.region [
 ⟨some 2, .new 23 (.agg #[.int .i64 0, .int .i64 0, .int .i64 0, .int .i64 0, .int .i64 0]), none⟩,
 ⟨some 3, .mov (.const (.bool false)), none⟩])
 (.seq (.seq (.region [
 ⟨some 8, .ldN 36 (.global 0), none⟩,
 ⟨some 9, .mov (.const (.int .i64 0)), none⟩])
 (.block 0
  (.loop 16776760
   (.seq (.region [
   ⟨some 10, .bin .lss (.tmp 9) (.const (.int .i64 18)), none⟩])
   (.seq (.cond (.tmp 10)
    .skip
    (.exit 0))
   (.seq (.block 1
    (.seq (.region [
    ⟨some 11, .mov (.tmp 9), none⟩,
    ⟨some 12, .idxN 18 2 (.tmp 8) (.tmp 9), none⟩,
    ⟨some 5, .new 53 (.agg #[.string ⟨#[]⟩, .string ⟨#[]⟩]), none⟩,
    ⟨some 4, .mov (.tmp 11), none⟩,
    ⟨none, .stN 2 (.tmp 5) (.tmp 12), none⟩])
    (.seq (.region [
    ⟨some 13, .fad 0 (.tmp 5), none⟩,
    ⟨some 14, .ld (.tmp 13), none⟩,
    ⟨some 15, .mov (.tmp 0), none⟩,
    ⟨some 16, .sbin .eql (.tmp 14) (.tmp 15), none⟩,
    ⟨some 17, .mov (.tmp 16), none⟩,
    ⟨some 18, .mov (.tmp 4), some (17, true)⟩,
    ⟨some 19, .bin .neq (.tmp 18) (.const (.int .i64 3)), some (17, true)⟩,
    ⟨some 20, .pick (.tmp 17) (.tmp 19) (.const (.bool false)), none⟩])
    (.cond (.tmp 20)
     (.seq (.region [
     ⟨some 21, .mov (.tmp 4), none⟩,
     ⟨some 22, .bld [(.int .i64 0), (.int .i64 0), (.int .i64 0), (.int .i64 0), (.int .i64 0)] [(0, 1, (.tmp 21))], none⟩,
     ⟨none, .stN 5 (.tmp 2) (.tmp 22), none⟩,
     ⟨some 3, .mov (.const (.bool true)), none⟩])
     .ret)
     .skip))))
   (.region [
   ⟨some 23, .bin .add (.tmp 9) (.const (.int .i64 1)), none⟩,
   ⟨some 9, .mov (.tmp 23), none⟩])))))))
 (.seq (.region [
 ⟨some 25, .mov (.tmp 0), none⟩,
 ⟨some 26, .call 107 [(.tmp 25)], none⟩,
 ⟨some 24, .mov (.tmp 26), none⟩,
 ⟨some 27, .ext (.tmp 24) 0, none⟩,
 ⟨some 28, .ext (.tmp 24) 1, none⟩,
 ⟨some 6, .mov (.tmp 27), none⟩,
 ⟨some 7, .mov (.tmp 28), none⟩])
 (.seq (.region [
 ⟨some 29, .mov (.tmp 6), none⟩,
 ⟨some 30, .bld [(.int .i64 0), (.int .i64 0), (.int .i64 0), (.int .i64 0), (.int .i64 0)] [(0, 1, (.const (.int .i64 3))), (4, 1, (.tmp 29))], none⟩,
 ⟨some 31, .mov (.tmp 7), none⟩,
 ⟨none, .stN 5 (.tmp 2) (.tmp 30), none⟩,
 ⟨some 3, .mov (.tmp 31), none⟩])
 .ret)))),
 [.cellN 2 5, .tmp 3]⟩
theorem low_isa_operation : lowFn Tryz.prog movers 74 = some ⟨ir_isa_operation.n, strip ir_isa_operation.body, ir_isa_operation.res⟩ := by kernel_rfl
/-- strongtx/isa.operand -/
def ir_isa_operand : IFn := ⟨48,
 (.seq (.region [
 ⟨some 6, .mov (.const (.bool false)), none⟩])
 (.seq (.region [
 ⟨some 7, .mov (.const (.bool false)), none⟩])
 (.seq (.seq (.region [
 ⟨some 8, .mov (.tmp 1), none⟩])
 (.block 0
  (.seq (.region [
  ⟨some 18, .bin .eql (.tmp 8) (.const (.int .u8 65)), none⟩,
  ⟨some 17, .mov (.tmp 18), none⟩])
  (.cond (.tmp 17)
   (.region [
   ⟨some 20, .mov (.tmp 0), none⟩,
   ⟨some 21, .mov (.tmp 2), none⟩,
   ⟨some 22, .call 108 [(.tmp 21)], none⟩,
   ⟨some 19, .mov (.tmp 22), none⟩,
   ⟨some 23, .ext (.tmp 19) 0, none⟩,
   ⟨some 24, .ext (.tmp 19) 1, none⟩,
   ⟨some 25, .nilc (.tmp 20), none⟩,
   ⟨some 26, .fad 1 (.tmp 25), none⟩,
   ⟨none, .st (.tmp 26) (.tmp 23), none⟩,
   ⟨some 7, .mov (.tmp 24), none⟩])
   (.seq (.region [
   ⟨some 28, .bin .eql (.tmp 8) (.const (.int .u8 66)), none⟩,
   ⟨some 27, .mov (.tmp 28), none⟩])
   (.cond (.tmp 27)
    (.region [
    ⟨some 30, .mov (.tmp 0), none⟩,
    ⟨some 31, .mov (.tmp 2), none⟩,
    ⟨some 32, .call 108 [(.tmp 31)], none⟩,
    ⟨some 29, .mov (.tmp 32), none⟩,
    ⟨some 33, .ext (.tmp 29) 0, none⟩,
    ⟨some 34, .ext (.tmp 29) 1, none⟩,
    ⟨some 35, .nilc (.tmp 30), none⟩,
    ⟨some 36, .fad 2 (.tmp 35), none⟩,
    ⟨none, .st (.tmp 36) (.tmp 33), none⟩,
    ⟨some 7, .mov (.tmp 34), none⟩])
    (.seq (.region [
    ⟨some 38, .bin .eql (.tmp 8) (.const (.int .u8 67)), none⟩,
    ⟨some 37, .mov (.tmp 38), none⟩])
    (.cond (.tmp 37)
     (.region [
     ⟨some 40, .mov (.tmp 0), none⟩,
     ⟨some 41, .mov (.tmp 2), none⟩,
     ⟨some 42, .call 108 [(.tmp 41)], none⟩,
     ⟨some 39, .mov (.tmp 42), none⟩,
     ⟨some 43, .ext (.tmp 39) 0, none⟩,
     ⟨some 44, .ext (.tmp 39) 1, none⟩,
     ⟨some 45, .nilc (.tmp 40), none⟩,
     ⟨some 46, .fad 3 (.tmp 45), none⟩,
     ⟨none, .st (.tmp 46) (.tmp 43), none⟩,
     ⟨some 7, .mov (.tmp 44), none⟩])
     (.region [
     ⟨some 10, .mov (.tmp 0), none⟩,
     ⟨some 11, .mov (.tmp 2), none⟩,
     ⟨some 12, .call 109 [(.tmp 11)], none⟩,
     ⟨some 9, .mov (.tmp 12), none⟩,
     ⟨some 13, .ext (.tmp 9) 0, none⟩,
     ⟨some 14, .ext (.tmp 9) 1, none⟩,
     ⟨some 15, .nilc (.tmp 10), none⟩,
     ⟨some 16, .fad 4 (.tmp 15), none⟩,
     ⟨none, .st (.tmp 16) (.tmp 13), none⟩,
     ⟨some 7, .mov (.tmp 14), none⟩])))))))))
 (.seq (.region [
 ⟨some 47, .mov (.tmp 7), none⟩,
 ⟨some 6, .mov (.tmp 47), none⟩])
 .ret)))),
 [.tmp 6]⟩
theorem low_isa_operand : lowFn Tryz.prog movers 75 = some ⟨ir_isa_operand.n, strip ir_isa_operand.body, ir_isa_operand.res⟩ := by kernel_rfl
/-- strongtx/isa.register -/
def ir_isa_register : IFn := ⟨26,
 (.seq (.region [
 ⟨some 2, .mov (.const (.int .i64 0)), none⟩,
 ⟨some 3, .mov (.const (.bool false)), none⟩])
 (.seq (.seq (.region [
 ⟨some 4, .mov (.tmp 0), none⟩,
 ⟨some 5, .lens (.tmp 4), none⟩,
 ⟨some 6, .bin .neq (.tmp 5) (.const (.int .i64 2)), none⟩,
 ⟨some 7, .mov (.tmp 6), none⟩,
 ⟨some 8, .mov (.tmp 0), some (7, false)⟩,
 ⟨some 9, .sidx (.tmp 8) (.const (.int .i64 0)), some (7, false)⟩,
 ⟨some 10, .bin .neq (.tmp 9) (.const (.int .u8 114)), some (7, false)⟩,
 ⟨some 11, .pick (.tmp 7) (.const (.bool true)) (.tmp 10), none⟩,
 ⟨some 12, .mov (.tmp 11), none⟩,
 ⟨some 13, .mov (.tmp 0), some (12, false)⟩,
 ⟨some 14, .sidx (.tmp 13) (.const (.int .i64 1)), some (12, false)⟩,
 ⟨some 15, .bin .lss (.tmp 14) (.const (.int .u8 48)), some (12, false)⟩,
 ⟨some 16, .pick (.tmp 12) (.const (.bool true)) (.tmp 15), none⟩,
 ⟨some 17, .mov (.tmp 16), none⟩,
 ⟨some 18, .mov (.tmp 0), some (17, false)⟩,
 ⟨some 19, .sidx (.tmp 18) (.const (.int .i64 1)), some (17, false)⟩,
 ⟨some 20, .bin .geq (.tmp 19) (.const (.int .u8 56)), some (17, false)⟩,
 ⟨some 21, .pick (.tmp 17) (.const (.bool true)) (.tmp 20), none⟩])
 (.cond (.tmp 21)
  (.seq (.region [
  ⟨some 2, .mov (.const (.int .i64 0)), none⟩,
  ⟨some 3, .mov (.const (.bool false)), none⟩])
  .ret)
  .skip))
 (.seq (.region [
 ⟨some 22, .mov (.tmp 0), none⟩,
 ⟨some 23, .sidx (.tmp 22) (.const (.int .i64 1)), none⟩,
 ⟨some 24, .bin .sub (.tmp 23) (.const (.int .u8 48)), none⟩,
 ⟨some 25, .conv .i64 (.tmp 24), none⟩,
 ⟨some 2, .mov (.tmp 25), none⟩,
 ⟨some 3, .mov (.const (.bool true)), none⟩])
 .ret))),
 [.tmp 2, .tmp 3]⟩
theorem low_isa_register : lowFn Tryz.prog movers 108 = some ⟨ir_isa_register.n, strip ir_isa_register.body, ir_isa_register.res⟩ := by kernel_rfl
/-- strongtx/isa.decimal -/
def ir_isa_decimal : IFn := ⟨16,
 (.seq (.region [
 ⟨some 2, .mov (.const (.int .i64 0)), none⟩,
 ⟨some 3, .mov (.const (.bool false)), none⟩])
 (.seq (.seq (.region [
 ⟨some 6, .mov (.tmp 0), none⟩,
 ⟨some 7, .call 65 [(.tmp 6), (.const (.string ⟨#[43]⟩))], none⟩])
 (.cond (.tmp 7)
  (.seq (.region [
  ⟨some 2, .mov (.const (.int .i64 0)), none⟩,
  ⟨some 3, .mov (.const (.bool false)), none⟩])
  .ret)
  .skip))
 (.seq (.region [
 ⟨some 9, .mov (.tmp 0), none⟩,
 ⟨some 10, .call 141 [(.tmp 9), (.const (.int .i64 10)), (.const (.int .i64 64))], none⟩,
 ⟨some 8, .mov (.tmp 10), none⟩,
 ⟨some 11, .ext (.tmp 8) 0, none⟩,
 ⟨some 12, .ext (.tmp 8) 1, none⟩,
 ⟨some 4, .mov (.tmp 11), none⟩,
 ⟨some 5, .mov (.tmp 12), none⟩])
 (.seq (.draw (.f ⟨some 13, .mov (.tmp 4), none⟩
 (.f ⟨some 14, .mov (.tmp 5), none⟩
 (.f ⟨some 15, .nifc false (.tmp 14), none⟩
 (.f ⟨some 2, .mov (.tmp 13), none⟩
 (.f ⟨some 3, .mov (.tmp 15), none⟩
 .done))))))
 .ret)))),
 [.tmp 2, .tmp 3]⟩
theorem low_isa_decimal : lowFn Tryz.prog movers 109 = some ⟨ir_isa_decimal.n, strip ir_isa_decimal.body, ir_isa_decimal.res⟩ := by kernel_rfl
end Go.Proofs.YtiimndcifcoofaaGreatDoor
namespace Go.Proofs.YtiimndcifcoofaaGreatDoor
open Go
set_option maxRecDepth 100000
/-- strongtx/strongtxref03.Check -/
def ir_ref03_Check : IFn := ⟨64,
 (.seq (.region [
 ⟨some 1, .box 23 (.tmp 0), none⟩,
 ⟨some 2, .mov (.const (.int .i64 0)), none⟩])
 (.seq (.seq (.region [
 ⟨some 6, .fad 0 (.tmp 1), none⟩,
 ⟨some 7, .ld (.tmp 6), none⟩,
 ⟨some 8, .bin .lss (.tmp 7) (.const (.int .i64 0)), none⟩,
 ⟨some 9, .mov (.tmp 8), none⟩,
 ⟨some 10, .fad 0 (.tmp 1), some (9, false)⟩,
 ⟨some 11, .ld (.tmp 10), some (9, false)⟩,
 ⟨some 12, .bin .geq (.tmp 11) (.const (.int .i64 18)), some (9, false)⟩,
 ⟨some 13, .pick (.tmp 9) (.const (.bool true)) (.tmp 12), none⟩])
 (.cond (.tmp 13)
  (.seq (.region [
  ⟨some 2, .mov (.const (.int .i64 10)), none⟩])
  .ret)
  .skip))
 (.seq (.region [
 ⟨some 14, .fad 0 (.tmp 1), none⟩,
 ⟨some 15, .ld (.tmp 14), none⟩,
 ⟨some 16, .call 38 [(.tmp 15)], none⟩,
 ⟨some 3, .mov (.tmp 16), none⟩])
 (.seq (.seq (.draw (.f ⟨some 17, .fad 1 (.tmp 1), none⟩
 (.f ⟨some 18, .ld (.tmp 17), none⟩
 (.f ⟨some 19, .mov (.tmp 3), none⟩
 (.f ⟨some 20, .call 41 [(.tmp 19), (.const (.int .u8 114))], none⟩
 (.f ⟨some 21, .call 44 [(.tmp 18), (.tmp 20)], none⟩
 (.f ⟨some 22, .not (.tmp 21), none⟩
 (.f ⟨some 23, .mov (.tmp 22), none⟩
 (.f ⟨some 24, .fad 2 (.tmp 1), some (23, false)⟩
 (.f ⟨some 25, .ld (.tmp 24), some (23, false)⟩
 (.f ⟨some 26, .mov (.tmp 3), some (23, false)⟩
 (.f ⟨some 27, .call 41 [(.tmp 26), (.const (.int .u8 115))], some (23, false)⟩
 (.f ⟨some 28, .call 44 [(.tmp 25), (.tmp 27)], some (23, false)⟩
 (.f ⟨some 29, .not (.tmp 28), some (23, false)⟩
 (.f ⟨some 30, .pick (.tmp 23) (.const (.bool true)) (.tmp 29), none⟩
 (.f ⟨some 31, .mov (.tmp 30), none⟩
 (.f ⟨some 32, .fad 3 (.tmp 1), some (31, false)⟩
 (.f ⟨some 33, .ld (.tmp 32), some (31, false)⟩
 (.f ⟨some 34, .mov (.tmp 3), some (31, false)⟩
 (.f ⟨some 35, .call 41 [(.tmp 34), (.const (.int .u8 116))], some (31, false)⟩
 (.f ⟨some 36, .call 44 [(.tmp 33), (.tmp 35)], some (31, false)⟩
 (.f ⟨some 37, .not (.tmp 36), some (31, false)⟩
 (.f ⟨some 38, .pick (.tmp 31) (.const (.bool true)) (.tmp 37), none⟩
 .done)))))))))))))))))))))))
 (.cond (.tmp 38)
  (.seq (.region [
  ⟨some 2, .mov (.const (.int .i64 11)), none⟩])
  .ret)
  .skip))
 (.seq (.region [
 ⟨some 4, .mov (.const (.int .i64 0)), none⟩,
 ⟨some 5, .mov (.const (.int .i64 0)), none⟩])
 (.seq (.block 0
  (.seq (.region [
  ⟨some 40, .mov (.tmp 3), none⟩,
  ⟨some 41, .call 41 [(.tmp 40), (.const (.int .u8 105))], none⟩,
  ⟨some 39, .mov (.tmp 41), none⟩])
  (.cond (.tmp 39)
   (.seq (.region [
   ⟨some 2, .mov (.const (.int .i64 0)), none⟩])
   .ret)
   (.seq (.region [
   ⟨some 43, .mov (.tmp 3), none⟩,
   ⟨some 44, .call 41 [(.tmp 43), (.const (.int .u8 102))], none⟩,
   ⟨some 42, .mov (.tmp 44), none⟩])
   (.cond (.tmp 42)
    (.region [
    ⟨some 5, .mov (.const (.int .i64 21)), none⟩])
    (.seq (.region [
    ⟨some 46, .mov (.tmp 3), none⟩,
    ⟨some 47, .call 41 [(.tmp 46), (.const (.int .u8 106))], none⟩,
    ⟨some 45, .mov (.tmp 47), none⟩])
    (.cond (.tmp 45)
     (.region [
     ⟨some 5, .mov (.const (.int .i64 64)), none⟩])
     (.seq (.region [
     ⟨some 49, .mov (.tmp 3), none⟩,
     ⟨some 50, .call 41 [(.tmp 49), (.const (.int .u8 97))], none⟩,
     ⟨some 48, .mov (.tmp 50), none⟩])
     (.cond (.tmp 48)
      (.region [
      ⟨some 4, .mov (.const (.int .i64 1)), none⟩,
      ⟨some 5, .mov (.const (.int .i64 8)), none⟩])
      (.seq (.region [
      ⟨some 52, .mov (.tmp 3), none⟩,
      ⟨some 53, .call 41 [(.tmp 52), (.const (.int .u8 99))], none⟩,
      ⟨some 51, .mov (.tmp 53), none⟩])
      (.cond (.tmp 51)
       (.region [
       ⟨some 5, .mov (.const (.int .i64 3)), none⟩])
       .skip)))))))))))
 (.seq (.seq (.region [
 ⟨some 54, .fad 4 (.tmp 1), none⟩,
 ⟨some 55, .ld (.tmp 54), none⟩,
 ⟨some 56, .mov (.tmp 4), none⟩,
 ⟨some 57, .bin .lss (.tmp 55) (.tmp 56), none⟩,
 ⟨some 58, .mov (.tmp 57), none⟩,
 ⟨some 59, .fad 4 (.tmp 1), some (58, false)⟩,
 ⟨some 60, .ld (.tmp 59), some (58, false)⟩,
 ⟨some 61, .mov (.tmp 5), some (58, false)⟩,
 ⟨some 62, .bin .gtr (.tmp 60) (.tmp 61), some (58, false)⟩,
 ⟨some 63, .pick (.tmp 58) (.const (.bool true)) (.tmp 62), none⟩])
 (.cond (.tmp 63)
  (.seq (.region [
  ⟨some 2, .mov (.const (.int .i64 11)), none⟩])
  .ret)
  .skip))
 (.seq (.region [
 ⟨some 2, .mov (.const (.int .i64 0)), none⟩])
 .ret)))))))),
 [.tmp 2]⟩
theorem low_ref03_Check : lowFn Tryz.prog movers 14 = some ⟨ir_ref03_Check.n, strip ir_ref03_Check.body, ir_ref03_Check.res⟩ := by kernel_rfl
/-- strongtx/strongtxref03.form -/
def ir_ref03_form : IFn := ⟨7,
 (.seq (.region [
 ⟨some 2, .mov (.const (.string ⟨#[]⟩)), none⟩])
 (.seq (.region [
 ⟨some 3, .blds 9 18 [(.string ⟨#[]⟩), (.string ⟨#[]⟩), (.string ⟨#[]⟩), (.string ⟨#[]⟩), (.string ⟨#[]⟩), (.string ⟨#[]⟩), (.string ⟨#[]⟩), (.string ⟨#[]⟩), (.string ⟨#[]⟩), (.string ⟨#[]⟩), (.string ⟨#[]⟩), (.string ⟨#[]⟩), (.string ⟨#[]⟩), (.string ⟨#[]⟩), (.string ⟨#[]⟩), (.string ⟨#[]⟩), (.string ⟨#[]⟩), (.string ⟨#[]⟩)] [(0, 1, (.const (.string ⟨#[]⟩))), (1, 1, (.const (.string ⟨#[114, 105]⟩))), (2, 1, (.const (.string ⟨#[114, 115]⟩))), (3, 1, (.const (.string ⟨#[114, 115, 116, 102]⟩))), (4, 1, (.const (.string ⟨#[106]⟩))), (5, 1, (.const (.string ⟨#[114, 106]⟩))), (6, 1, (.const (.string ⟨#[114, 106]⟩))), (7, 1, (.const (.string ⟨#[97]⟩))), (8, 1, (.const (.string ⟨#[]⟩))), (9, 1, (.const (.string ⟨#[]⟩))), (10, 1, (.const (.string ⟨#[114, 115, 105]⟩))), (11, 1, (.const (.string ⟨#[114, 115, 105]⟩))), (12, 1, (.const (.string ⟨#[114, 115, 105]⟩))), (13, 1, (.const (.string ⟨#[114, 115, 105]⟩))), (14, 1, (.const (.string ⟨#[114, 99]⟩))), (15, 1, (.const (.string ⟨#[114]⟩))), (16, 1, (.const (.string ⟨#[]⟩))), (17, 1, (.const (.string ⟨#[114]⟩)))], none⟩,
 ⟨some 4, .mov (.tmp 0), none⟩,
 ⟨some 5, .ixs 1 (.tmp 3) (.tmp 4), none⟩,
 ⟨some 6, .ld (.tmp 5), none⟩,
 ⟨some 2, .mov (.tmp 6), none⟩])
 .ret)),
 [.tmp 2]⟩
theorem low_ref03_form : lowFn Tryz.prog movers 38 = some ⟨ir_ref03_form.n, strip ir_ref03_form.body, ir_ref03_form.res⟩ := by kernel_rfl
/-- strongtx/strongtxref03.name -/
def ir_ref03_name : IFn := ⟨7,
 (.seq (.region [
 ⟨some 2, .mov (.const (.string ⟨#[]⟩)), none⟩])
 (.seq (.region [
 ⟨some 3, .blds 9 18 [(.string ⟨#[]⟩), (.string ⟨#[]⟩), (.string ⟨#[]⟩), (.string ⟨#[]⟩), (.string ⟨#[]⟩), (.string ⟨#[]⟩), (.string ⟨#[]⟩), (.string ⟨#[]⟩), (.string ⟨#[]⟩), (.string ⟨#[]⟩), (.string ⟨#[]⟩), (.string ⟨#[]⟩), (.string ⟨#[]⟩), (.string ⟨#[]⟩), (.string ⟨#[]⟩), (.string ⟨#[]⟩), (.string ⟨#[]⟩), (.string ⟨#[]⟩)] [(0, 1, (.const (.string ⟨#[110, 111, 112]⟩))), (1, 1, (.const (.string ⟨#[99, 111, 110, 115, 116]⟩))), (2, 1, (.const (.string ⟨#[109, 111, 118, 101]⟩))), (3, 1, (.const (.string ⟨#[]⟩))), (4, 1, (.const (.string ⟨#[106, 117, 109, 112]⟩))), (5, 1, (.const (.string ⟨#[122, 101, 114, 111]⟩))), (6, 1, (.const (.string ⟨#[110, 111, 110, 122, 101, 114, 111]⟩))), (7, 1, (.const (.string ⟨#[98, 101, 103, 105, 110]⟩))), (8, 1, (.const (.string ⟨#[99, 111, 109, 109, 105, 116]⟩))), (9, 1, (.const (.string ⟨#[97, 98, 111, 114, 116]⟩))), (10, 1, (.const (.string ⟨#[116, 114, 101, 97, 100]⟩))), (11, 1, (.const (.string ⟨#[116, 119, 114, 105, 116, 101]⟩))), (12, 1, (.const (.string ⟨#[112, 114, 101, 97, 100]⟩))), (13, 1, (.const (.string ⟨#[112, 119, 114, 105, 116, 101]⟩))), (14, 1, (.const (.string ⟨#[97, 108, 108, 111, 99]⟩))), (15, 1, (.const (.string ⟨#[102, 114, 101, 101]⟩))), (16, 1, (.const (.string ⟨#[102, 101, 110, 99, 101]⟩))), (17, 1, (.const (.string ⟨#[111, 117, 116, 99, 111, 109, 101]⟩)))], none⟩,
 ⟨some 4, .mov (.tmp 0), none⟩,
 ⟨some 5, .ixs 1 (.tmp 3) (.tmp 4), none⟩,
 ⟨some 6, .ld (.tmp 5), none⟩,
 ⟨some 2, .mov (.tmp 6), none⟩])
 .ret)),
 [.tmp 2]⟩
theorem low_ref03_name : lowFn Tryz.prog movers 39 = some ⟨ir_ref03_name.n, strip ir_ref03_name.body, ir_ref03_name.res⟩ := by kernel_rfl
/-- strongtx/strongtxref03.has -/
def ir_ref03_has : IFn := ⟨17,
 (.seq (.region [
 ⟨some 4, .mov (.const (.bool false)), none⟩])
 (.seq (.seq (.region [
 ⟨some 5, .mov (.const (.int .i64 0)), none⟩])
 (.block 0
  (.loop 131056
   (.seq (.seq (.region [
   ⟨some 6, .mov (.tmp 5), none⟩,
   ⟨some 7, .mov (.tmp 0), none⟩,
   ⟨some 8, .lens (.tmp 7), none⟩,
   ⟨some 9, .bin .lss (.tmp 6) (.tmp 8), none⟩])
   (.cond (.tmp 9)
    .skip
    (.exit 0)))
   (.seq (.block 1
    (.seq (.region [
    ⟨some 12, .mov (.tmp 0), none⟩,
    ⟨some 13, .mov (.tmp 5), none⟩,
    ⟨some 14, .sidx (.tmp 12) (.tmp 13), none⟩,
    ⟨some 15, .mov (.tmp 1), none⟩,
    ⟨some 16, .bin .eql (.tmp 14) (.tmp 15), none⟩])
    (.cond (.tmp 16)
     (.seq (.region [
     ⟨some 4, .mov (.const (.bool true)), none⟩])
     .ret)
     .skip)))
   (.region [
   ⟨some 10, .mov (.tmp 5), none⟩,
   ⟨some 11, .bin .add (.tmp 10) (.const (.int .i64 1)), none⟩,
   ⟨some 5, .mov (.tmp 11), none⟩]))))))
 (.seq (.region [
 ⟨some 4, .mov (.const (.bool false)), none⟩])
 .ret))),
 [.tmp 4]⟩
theorem low_ref03_has : lowFn Tryz.prog movers 41 = some ⟨ir_ref03_has.n, strip ir_ref03_has.body, ir_ref03_has.res⟩ := by kernel_rfl
/-- strongtx/strongtxref03.register -/
def ir_ref03_register : IFn := ⟨14,
 (.seq (.region [
 ⟨some 4, .mov (.const (.bool false)), none⟩])
 (.seq (.seq (.region [
 ⟨some 5, .mov (.tmp 1), none⟩])
 (.cond (.tmp 5)
  (.seq (.region [
  ⟨some 6, .mov (.tmp 0), none⟩,
  ⟨some 7, .bin .geq (.tmp 6) (.const (.int .i64 0)), none⟩,
  ⟨some 8, .mov (.tmp 7), none⟩,
  ⟨some 9, .mov (.tmp 0), some (8, true)⟩,
  ⟨some 10, .bin .lss (.tmp 9) (.const (.int .i64 8)), some (8, true)⟩,
  ⟨some 11, .pick (.tmp 8) (.tmp 10) (.const (.bool false)), none⟩,
  ⟨some 4, .mov (.tmp 11), none⟩])
  .ret)
  .skip))
 (.seq (.region [
 ⟨some 12, .mov (.tmp 0), none⟩,
 ⟨some 13, .bin .eql (.tmp 12) (.const (.int .i64 0)), none⟩,
 ⟨some 4, .mov (.tmp 13), none⟩])
 .ret))),
 [.tmp 4]⟩
theorem low_ref03_register : lowFn Tryz.prog movers 44 = some ⟨ir_ref03_register.n, strip ir_ref03_register.body, ir_ref03_register.res⟩ := by kernel_rfl
/-- strongtx/strongtxref03.Words -/
def ir_ref03_Words : IFn := ⟨35,
 (.seq (.region [
 ⟨some 2, .mov (.const (.slice none 0 0)), none⟩])
 (.seq (.region [
 ⟨some 3, .mov (.const (.slice none 0 0)), none⟩])
 (.seq (.region [
 ⟨some 4, .mov (.const (.int .i64 0)), none⟩])
 (.seq (.seq (.region [
 ⟨some 5, .mov (.const (.int .i64 0)), none⟩])
 (.block 0
  (.loop 17179869176
   (.seq (.seq (.region [
   ⟨some 6, .mov (.tmp 5), none⟩,
   ⟨some 7, .mov (.tmp 0), none⟩,
   ⟨some 8, .lens (.tmp 7), none⟩,
   ⟨some 9, .bin .leq (.tmp 6) (.tmp 8), none⟩])
   (.cond (.tmp 9)
    .skip
    (.exit 0)))
   (.seq (.block 1
    (.seq (.seq (.region [
    ⟨some 12, .mov (.tmp 5), none⟩,
    ⟨some 13, .mov (.tmp 0), none⟩,
    ⟨some 14, .lens (.tmp 13), none⟩,
    ⟨some 15, .bin .lss (.tmp 12) (.tmp 14), none⟩,
    ⟨some 16, .mov (.tmp 15), none⟩,
    ⟨some 17, .mov (.tmp 0), some (16, true)⟩,
    ⟨some 18, .mov (.tmp 5), some (16, true)⟩,
    ⟨some 19, .sidx (.tmp 17) (.tmp 18), some (16, true)⟩,
    ⟨some 20, .bin .neq (.tmp 19) (.const (.int .u8 32)), some (16, true)⟩,
    ⟨some 21, .pick (.tmp 16) (.tmp 20) (.const (.bool false)), none⟩])
    (.cond (.tmp 21)
     (.exit 1)
     .skip))
    (.seq (.seq (.region [
    ⟨some 22, .mov (.tmp 5), none⟩,
    ⟨some 23, .mov (.tmp 4), none⟩,
    ⟨some 24, .bin .gtr (.tmp 22) (.tmp 23), none⟩])
    (.cond (.tmp 24)
     (.region [
     ⟨some 25, .mov (.tmp 3), none⟩,
     ⟨some 26, .mov (.tmp 0), none⟩,
     ⟨some 27, .mov (.tmp 4), none⟩,
     ⟨some 28, .mov (.tmp 5), none⟩,
     ⟨some 29, .sslc (.tmp 26) (some (.tmp 27)) (some (.tmp 28)), none⟩,
     ⟨some 30, .blds 9 1 [(.string ⟨#[]⟩)] [(0, 1, (.tmp 29))], none⟩,
     ⟨some 31, .app 9 1 16 [(.string ⟨#[]⟩)] (.tmp 25) (.tmp 30), none⟩,
     ⟨some 3, .mov (.tmp 31), none⟩])
     .skip))
    (.region [
    ⟨some 32, .mov (.tmp 5), none⟩,
    ⟨some 33, .bin .add (.tmp 32) (.const (.int .i64 1)), none⟩,
    ⟨some 4, .mov (.tmp 33), none⟩]))))
   (.region [
   ⟨some 10, .mov (.tmp 5), none⟩,
   ⟨some 11, .bin .add (.tmp 10) (.const (.int .i64 1)), none⟩,
   ⟨some 5, .mov (.tmp 11), none⟩]))))))
 (.seq (.region [
 ⟨some 34, .mov (.tmp 3), none⟩,
 ⟨some 2, .mov (.tmp 34), none⟩])
 .ret))))),
 [.tmp 2]⟩
theorem low_ref03_Words : lowFn Tryz.prog movers 52 = some ⟨ir_ref03_Words.n, strip ir_ref03_Words.body, ir_ref03_Words.res⟩ := by kernel_rfl
/-- strongtx/strongtxref03.Parse -/
def ir_ref03_Parse : IFn := ⟨141,
 (.seq (.region [
 ⟨some 2, .new 23 (.agg #[.int .i64 0, .int .i64 0, .int .i64 0, .int .i64 0, .int .i64 0]), none⟩,
 ⟨some 3, .mov (.const (.int .i64 0)), none⟩])
 (.seq (.seq (.region [
 ⟨some 15, .mov (.tmp 0), none⟩,
 ⟨some 16, .lens (.tmp 15), none⟩,
 ⟨some 17, .bin .gtr (.tmp 16) (.const (.int .i64 200)), none⟩])
 (.cond (.tmp 17)
  (.seq (.region [
  ⟨some 18, .bld [(.int .i64 0), (.int .i64 0), (.int .i64 0), (.int .i64 0), (.int .i64 0)] [], none⟩,
  ⟨none, .stN 5 (.tmp 2) (.tmp 18), none⟩,
  ⟨some 3, .mov (.const (.int .i64 3)), none⟩])
  .ret)
  .skip))
 (.seq (.region [
 ⟨some 19, .mov (.tmp 0), none⟩,
 ⟨some 20, .call 52 [(.tmp 19)], none⟩,
 ⟨some 4, .mov (.tmp 20), none⟩])
 (.seq (.seq (.region [
 ⟨some 21, .mov (.tmp 4), none⟩,
 ⟨some 22, .len (.tmp 21), none⟩,
 ⟨some 23, .bin .eql (.tmp 22) (.const (.int .i64 0)), none⟩])
 (.cond (.tmp 23)
  (.seq (.region [
  ⟨some 24, .bld [(.int .i64 0), (.int .i64 0), (.int .i64 0), (.int .i64 0), (.int .i64 0)] [], none⟩,
  ⟨none, .stN 5 (.tmp 2) (.tmp 24), none⟩,
  ⟨some 3, .mov (.const (.int .i64 4)), none⟩])
  .ret)
  .skip))
 (.seq (.region [
 ⟨some 25, .bld [(.int .i64 0), (.int .i64 0), (.int .i64 0), (.int .i64 0), (.int .i64 0)] [(0, 1, (.const (.int .i64 (-1))))], none⟩,
 ⟨some 5, .new 23 (.agg #[.int .i64 0, .int .i64 0, .int .i64 0, .int .i64 0, .int .i64 0]), none⟩,
 ⟨none, .stN 5 (.tmp 5) (.tmp 25), none⟩])
 (.seq (.seq (.region [
 ⟨some 6, .mov (.const (.int .i64 0)), none⟩])
 (.block 0
  (.loop 4397979402304
   (.seq (.seq (.region [
   ⟨some 26, .mov (.tmp 6), none⟩,
   ⟨some 27, .bin .lss (.tmp 26) (.const (.int .i64 18)), none⟩])
   (.cond (.tmp 27)
    .skip
    (.exit 0)))
   (.seq (.block 1
    (.seq (.draw (.f ⟨some 30, .mov (.tmp 6), none⟩
    (.f ⟨some 31, .bin .neq (.tmp 30) (.const (.int .i64 3)), none⟩
    (.f ⟨some 32, .mov (.tmp 31), none⟩
    (.f ⟨some 33, .mov (.tmp 6), some (32, true)⟩
    (.f ⟨some 34, .call 39 [(.tmp 33)], some (32, true)⟩
    (.f ⟨some 35, .mov (.tmp 4), some (32, true)⟩
    (.f ⟨some 36, .ixs 1 (.tmp 35) (.const (.int .i64 0)), some (32, true)⟩
    (.f ⟨some 37, .ld (.tmp 36), some (32, true)⟩
    (.f ⟨some 38, .sbin .eql (.tmp 34) (.tmp 37), some (32, true)⟩
    (.f ⟨some 39, .pick (.tmp 32) (.tmp 38) (.const (.bool false)), none⟩
    .done)))))))))))
    (.cond (.tmp 39)
     (.region [
     ⟨some 40, .mov (.tmp 6), none⟩,
     ⟨some 41, .fad 0 (.tmp 5), none⟩,
     ⟨none, .st (.tmp 41) (.tmp 40), none⟩])
     .skip)))
   (.region [
   ⟨some 28, .mov (.tmp 6), none⟩,
   ⟨some 29, .bin .add (.tmp 28) (.const (.int .i64 1)), none⟩,
   ⟨some 6, .mov (.tmp 29), none⟩]))))))
 (.seq (.seq (.region [
 ⟨some 43, .mov (.tmp 4), none⟩,
 ⟨some 44, .ixs 1 (.tmp 43) (.const (.int .i64 0)), none⟩,
 ⟨some 45, .ld (.tmp 44), none⟩,
 ⟨some 46, .call 83 [(.tmp 45)], none⟩,
 ⟨some 42, .mov (.tmp 46), none⟩,
 ⟨some 47, .ext (.tmp 42) 0, none⟩,
 ⟨some 48, .ext (.tmp 42) 1, none⟩,
 ⟨some 7, .mov (.tmp 47), none⟩,
 ⟨some 8, .mov (.tmp 48), none⟩])
 (.seq (.region [
 ⟨some 49, .mov (.tmp 8), none⟩])
 (.cond (.tmp 49)
  (.region [
  ⟨some 50, .mov (.tmp 7), none⟩,
  ⟨some 51, .fad 0 (.tmp 5), none⟩,
  ⟨none, .st (.tmp 51) (.const (.int .i64 3)), none⟩,
  ⟨some 52, .fad 4 (.tmp 5), none⟩,
  ⟨none, .st (.tmp 52) (.tmp 50), none⟩])
  .skip)))
 (.seq (.seq (.region [
 ⟨some 53, .fad 0 (.tmp 5), none⟩,
 ⟨some 54, .ld (.tmp 53), none⟩,
 ⟨some 55, .bin .lss (.tmp 54) (.const (.int .i64 0)), none⟩])
 (.cond (.tmp 55)
  (.seq (.region [
  ⟨some 56, .bld [(.int .i64 0), (.int .i64 0), (.int .i64 0), (.int .i64 0), (.int .i64 0)] [], none⟩,
  ⟨none, .stN 5 (.tmp 2) (.tmp 56), none⟩,
  ⟨some 3, .mov (.const (.int .i64 4)), none⟩])
  .ret)
  .skip))
 (.seq (.region [
 ⟨some 57, .fad 0 (.tmp 5), none⟩,
 ⟨some 58, .ld (.tmp 57), none⟩,
 ⟨some 59, .call 38 [(.tmp 58)], none⟩,
 ⟨some 9, .mov (.tmp 59), none⟩])
 (.seq (.region [
 ⟨some 10, .mov (.const (.int .i64 1)), none⟩])
 (.seq (.seq (.region [
 ⟨some 11, .mov (.const (.int .i64 0)), none⟩])
 (.block 2
  (.loop 680564733841876926925596293358929591304
   (.seq (.seq (.region [
   ⟨some 60, .mov (.tmp 11), none⟩,
   ⟨some 61, .mov (.tmp 9), none⟩,
   ⟨some 62, .lens (.tmp 61), none⟩,
   ⟨some 63, .bin .lss (.tmp 60) (.tmp 62), none⟩])
   (.cond (.tmp 63)
    .skip
    (.exit 2)))
   (.seq (.block 3
    (.seq (.seq (.region [
    ⟨some 66, .mov (.tmp 9), none⟩,
    ⟨some 67, .mov (.tmp 11), none⟩,
    ⟨some 68, .sidx (.tmp 66) (.tmp 67), none⟩,
    ⟨some 69, .bin .eql (.tmp 68) (.const (.int .u8 102)), none⟩])
    (.cond (.tmp 69)
     (.exit 3)
     .skip))
    (.seq (.seq (.region [
    ⟨some 70, .mov (.tmp 10), none⟩,
    ⟨some 71, .mov (.tmp 4), none⟩,
    ⟨some 72, .len (.tmp 71), none⟩,
    ⟨some 73, .bin .eql (.tmp 70) (.tmp 72), none⟩])
    (.cond (.tmp 73)
     (.seq (.region [
     ⟨some 74, .bld [(.int .i64 0), (.int .i64 0), (.int .i64 0), (.int .i64 0), (.int .i64 0)] [], none⟩,
     ⟨none, .stN 5 (.tmp 2) (.tmp 74), none⟩,
     ⟨some 3, .mov (.const (.int .i64 4)), none⟩])
     .ret)
     .skip))
    (.seq (.region [
    ⟨some 12, .mov (.const (.int .i64 0)), none⟩,
    ⟨some 13, .mov (.const (.bool false)), none⟩])
    (.seq (.seq (.region [
    ⟨some 75, .mov (.tmp 9), none⟩,
    ⟨some 76, .mov (.tmp 11), none⟩,
    ⟨some 77, .sidx (.tmp 75) (.tmp 76), none⟩,
    ⟨some 78, .bin .eql (.tmp 77) (.const (.int .u8 114)), none⟩,
    ⟨some 79, .mov (.tmp 78), none⟩,
    ⟨some 80, .mov (.tmp 9), some (79, false)⟩,
    ⟨some 81, .mov (.tmp 11), some (79, false)⟩,
    ⟨some 82, .sidx (.tmp 80) (.tmp 81), some (79, false)⟩,
    ⟨some 83, .bin .eql (.tmp 82) (.const (.int .u8 115)), some (79, false)⟩,
    ⟨some 84, .pick (.tmp 79) (.const (.bool true)) (.tmp 83), none⟩,
    ⟨some 85, .mov (.tmp 84), none⟩,
    ⟨some 86, .mov (.tmp 9), some (85, false)⟩,
    ⟨some 87, .mov (.tmp 11), some (85, false)⟩,
    ⟨some 88, .sidx (.tmp 86) (.tmp 87), some (85, false)⟩,
    ⟨some 89, .bin .eql (.tmp 88) (.const (.int .u8 116)), some (85, false)⟩,
    ⟨some 90, .pick (.tmp 85) (.const (.bool true)) (.tmp 89), none⟩])
    (.cond (.tmp 90)
     (.region [
     ⟨some 92, .mov (.tmp 4), none⟩,
     ⟨some 93, .mov (.tmp 10), none⟩,
     ⟨some 94, .ixs 1 (.tmp 92) (.tmp 93), none⟩,
     ⟨some 95, .ld (.tmp 94), none⟩,
     ⟨some 96, .call 82 [(.tmp 95)], none⟩,
     ⟨some 91, .mov (.tmp 96), none⟩,
     ⟨some 97, .ext (.tmp 91) 0, none⟩,
     ⟨some 98, .ext (.tmp 91) 1, none⟩,
     ⟨some 12, .mov (.tmp 97), none⟩,
     ⟨some 13, .mov (.tmp 98), none⟩])
     (.region [
     ⟨some 100, .mov (.tmp 4), none⟩,
     ⟨some 101, .mov (.tmp 10), none⟩,
     ⟨some 102, .ixs 1 (.tmp 100) (.tmp 101), none⟩,
     ⟨some 103, .ld (.tmp 102), none⟩,
     ⟨some 104, .call 84 [(.tmp 103)], none⟩,
     ⟨some 99, .mov (.tmp 104), none⟩,
     ⟨some 105, .ext (.tmp 99) 0, none⟩,
     ⟨some 106, .ext (.tmp 99) 1, none⟩,
     ⟨some 12, .mov (.tmp 105), none⟩,
     ⟨some 13, .mov (.tmp 106), none⟩])))
    (.seq (.seq (.region [
    ⟨some 107, .mov (.tmp 13), none⟩,
    ⟨some 108, .not (.tmp 107), none⟩])
    (.cond (.tmp 108)
     (.seq (.region [
     ⟨some 109, .bld [(.int .i64 0), (.int .i64 0), (.int .i64 0), (.int .i64 0), (.int .i64 0)] [], none⟩,
     ⟨none, .stN 5 (.tmp 2) (.tmp 109), none⟩,
     ⟨some 3, .mov (.const (.int .i64 4)), none⟩])
     .ret)
     .skip))
    (.seq (.seq (.region [
    ⟨some 110, .mov (.tmp 9), none⟩,
    ⟨some 111, .mov (.tmp 11), none⟩,
    ⟨some 112, .sidx (.tmp 110) (.tmp 111), none⟩])
    (.block 4
     (.seq (.region [
     ⟨some 116, .bin .eql (.tmp 112) (.const (.int .u8 114)), none⟩,
     ⟨some 115, .mov (.tmp 116), none⟩])
     (.cond (.tmp 115)
      (.region [
      ⟨some 117, .mov (.tmp 12), none⟩,
      ⟨some 118, .fad 1 (.tmp 5), none⟩,
      ⟨none, .st (.tmp 118) (.tmp 117), none⟩])
      (.seq (.region [
      ⟨some 120, .bin .eql (.tmp 112) (.const (.int .u8 115)), none⟩,
      ⟨some 119, .mov (.tmp 120), none⟩])
      (.cond (.tmp 119)
       (.region [
       ⟨some 121, .mov (.tmp 12), none⟩,
       ⟨some 122, .fad 2 (.tmp 5), none⟩,
       ⟨none, .st (.tmp 122) (.tmp 121), none⟩])
       (.seq (.region [
       ⟨some 124, .bin .eql (.tmp 112) (.const (.int .u8 116)), none⟩,
       ⟨some 123, .mov (.tmp 124), none⟩])
       (.cond (.tmp 123)
        (.region [
        ⟨some 125, .mov (.tmp 12), none⟩,
        ⟨some 126, .fad 3 (.tmp 5), none⟩,
        ⟨none, .st (.tmp 126) (.tmp 125), none⟩])
        (.region [
        ⟨some 113, .mov (.tmp 12), none⟩,
        ⟨some 114, .fad 4 (.tmp 5), none⟩,
        ⟨none, .st (.tmp 114) (.tmp 113), none⟩])))))))))
    (.region [
    ⟨some 127, .mov (.tmp 10), none⟩,
    ⟨some 128, .bin .add (.tmp 127) (.const (.int .i64 1)), none⟩,
    ⟨some 10, .mov (.tmp 128), none⟩]))))))))
   (.region [
   ⟨some 64, .mov (.tmp 11), none⟩,
   ⟨some 65, .bin .add (.tmp 64) (.const (.int .i64 1)), none⟩,
   ⟨some 11, .mov (.tmp 65), none⟩]))))))
 (.seq (.seq (.region [
 ⟨some 129, .mov (.tmp 10), none⟩,
 ⟨some 130, .mov (.tmp 4), none⟩,
 ⟨some 131, .len (.tmp 130), none⟩,
 ⟨some 132, .bin .neq (.tmp 129) (.tmp 131), none⟩])
 (.cond (.tmp 132)
  (.seq (.region [
  ⟨some 133, .bld [(.int .i64 0), (.int .i64 0), (.int .i64 0), (.int .i64 0), (.int .i64 0)] [], none⟩,
  ⟨none, .stN 5 (.tmp 2) (.tmp 133), none⟩,
  ⟨some 3, .mov (.const (.int .i64 4)), none⟩])
  .ret)
  .skip))
 (.seq (.seq (.region [
 ⟨some 134, .ldN 5 (.tmp 5), none⟩,
 ⟨some 135, .call 14 [(.tmp 134)], none⟩,
 ⟨some 14, .mov (.tmp 135), none⟩])
 (.seq (.region [
 ⟨some 136, .mov (.tmp 14), none⟩,
 ⟨some 137, .bin .neq (.tmp 136) (.const (.int .i64 0)), none⟩])
 (.cond (.tmp 137)
  (.seq (.region [
  ⟨some 138, .bld [(.int .i64 0), (.int .i64 0), (.int .i64 0), (.int .i64 0), (.int .i64 0)] [], none⟩,
  ⟨some 139, .mov (.tmp 14), none⟩,
  ⟨none, .stN 5 (.tmp 2) (.tmp 138), none⟩,
  ⟨some 3, .mov (.tmp 139), none⟩])
  .ret)
  .skip)))
 (.seq (.region [
 ⟨some 140, .ldN 5 (.tmp 5), none⟩,
 ⟨none, .stN 5 (.tmp 2) (.tmp 140), none⟩,
 ⟨some 3, .mov (.const (.int .i64 0)), none⟩])
 .ret)))))))))))))),
 [.cellN 2 5, .tmp 3]⟩
theorem low_ref03_Parse : lowFn Tryz.prog movers 56 = some ⟨ir_ref03_Parse.n, strip ir_ref03_Parse.body, ir_ref03_Parse.res⟩ := by kernel_rfl
/-- strongtx/strongtxref03.Register -/
def ir_ref03_Register : IFn := ⟨26,
 (.seq (.region [
 ⟨some 2, .mov (.const (.int .i64 0)), none⟩,
 ⟨some 3, .mov (.const (.bool false)), none⟩])
 (.seq (.seq (.region [
 ⟨some 4, .mov (.tmp 0), none⟩,
 ⟨some 5, .lens (.tmp 4), none⟩,
 ⟨some 6, .bin .neq (.tmp 5) (.const (.int .i64 2)), none⟩,
 ⟨some 7, .mov (.tmp 6), none⟩,
 ⟨some 8, .mov (.tmp 0), some (7, false)⟩,
 ⟨some 9, .sidx (.tmp 8) (.const (.int .i64 0)), some (7, false)⟩,
 ⟨some 10, .bin .neq (.tmp 9) (.const (.int .u8 114)), some (7, false)⟩,
 ⟨some 11, .pick (.tmp 7) (.const (.bool true)) (.tmp 10), none⟩,
 ⟨some 12, .mov (.tmp 11), none⟩,
 ⟨some 13, .mov (.tmp 0), some (12, false)⟩,
 ⟨some 14, .sidx (.tmp 13) (.const (.int .i64 1)), some (12, false)⟩,
 ⟨some 15, .bin .lss (.tmp 14) (.const (.int .u8 48)), some (12, false)⟩,
 ⟨some 16, .pick (.tmp 12) (.const (.bool true)) (.tmp 15), none⟩,
 ⟨some 17, .mov (.tmp 16), none⟩,
 ⟨some 18, .mov (.tmp 0), some (17, false)⟩,
 ⟨some 19, .sidx (.tmp 18) (.const (.int .i64 1)), some (17, false)⟩,
 ⟨some 20, .bin .gtr (.tmp 19) (.const (.int .u8 55)), some (17, false)⟩,
 ⟨some 21, .pick (.tmp 17) (.const (.bool true)) (.tmp 20), none⟩])
 (.cond (.tmp 21)
  (.seq (.region [
  ⟨some 2, .mov (.const (.int .i64 0)), none⟩,
  ⟨some 3, .mov (.const (.bool false)), none⟩])
  .ret)
  .skip))
 (.seq (.region [
 ⟨some 22, .mov (.tmp 0), none⟩,
 ⟨some 23, .sidx (.tmp 22) (.const (.int .i64 1)), none⟩,
 ⟨some 24, .bin .sub (.tmp 23) (.const (.int .u8 48)), none⟩,
 ⟨some 25, .conv .i64 (.tmp 24), none⟩,
 ⟨some 2, .mov (.tmp 25), none⟩,
 ⟨some 3, .mov (.const (.bool true)), none⟩])
 .ret))),
 [.tmp 2, .tmp 3]⟩
theorem low_ref03_Register : lowFn Tryz.prog movers 82 = some ⟨ir_ref03_Register.n, strip ir_ref03_Register.body, ir_ref03_Register.res⟩ := by kernel_rfl
/-- strongtx/strongtxref03.Number -/
def ir_ref03_Number : IFn := ⟨63,
 (.seq (.region [
 ⟨some 2, .mov (.const (.int .i64 0)), none⟩,
 ⟨some 3, .mov (.const (.bool false)), none⟩])
 (.seq (.region [
 ⟨some 4, .mov (.const (.int .i64 0)), none⟩])
 (.seq (.seq (.region [
 ⟨some 8, .mov (.tmp 0), none⟩,
 ⟨some 9, .lens (.tmp 8), none⟩,
 ⟨some 10, .bin .gtr (.tmp 9) (.const (.int .i64 0)), none⟩,
 ⟨some 11, .mov (.tmp 10), none⟩,
 ⟨some 12, .mov (.tmp 0), some (11, true)⟩,
 ⟨some 13, .sidx (.tmp 12) (.const (.int .i64 0)), some (11, true)⟩,
 ⟨some 14, .bin .eql (.tmp 13) (.const (.int .u8 45)), some (11, true)⟩,
 ⟨some 15, .pick (.tmp 11) (.tmp 14) (.const (.bool false)), none⟩])
 (.cond (.tmp 15)
  (.region [
  ⟨some 4, .mov (.const (.int .i64 1)), none⟩])
  .skip))
 (.seq (.seq (.region [
 ⟨some 16, .mov (.tmp 4), none⟩,
 ⟨some 17, .mov (.tmp 0), none⟩,
 ⟨some 18, .lens (.tmp 17), none⟩,
 ⟨some 19, .bin .eql (.tmp 16) (.tmp 18), none⟩])
 (.cond (.tmp 19)
  (.seq (.region [
  ⟨some 2, .mov (.const (.int .i64 0)), none⟩,
  ⟨some 3, .mov (.const (.bool false)), none⟩])
  .ret)
  .skip))
 (.seq (.region [
 ⟨some 5, .mov (.const (.int .i64 0)), none⟩])
 (.seq (.seq (.region [
 ⟨some 20, .mov (.tmp 4), none⟩,
 ⟨some 6, .mov (.tmp 20), none⟩])
 (.block 0
  (.loop 72057594035831020
   (.seq (.seq (.region [
   ⟨some 21, .mov (.tmp 6), none⟩,
   ⟨some 22, .mov (.tmp 0), none⟩,
   ⟨some 23, .lens (.tmp 22), none⟩,
   ⟨some 24, .bin .lss (.tmp 21) (.tmp 23), none⟩])
   (.cond (.tmp 24)
    .skip
    (.exit 0)))
   (.seq (.block 1
    (.seq (.seq (.region [
    ⟨some 27, .mov (.tmp 0), none⟩,
    ⟨some 28, .mov (.tmp 6), none⟩,
    ⟨some 29, .sidx (.tmp 27) (.tmp 28), none⟩,
    ⟨some 30, .bin .lss (.tmp 29) (.const (.int .u8 48)), none⟩,
    ⟨some 31, .mov (.tmp 30), none⟩,
    ⟨some 32, .mov (.tmp 0), some (31, false)⟩,
    ⟨some 33, .mov (.tmp 6), some (31, false)⟩,
    ⟨some 34, .sidx (.tmp 32) (.tmp 33), some (31, false)⟩,
    ⟨some 35, .bin .gtr (.tmp 34) (.const (.int .u8 57)), some (31, false)⟩,
    ⟨some 36, .pick (.tmp 31) (.const (.bool true)) (.tmp 35), none⟩])
    (.cond (.tmp 36)
     (.seq (.region [
     ⟨some 2, .mov (.const (.int .i64 0)), none⟩,
     ⟨some 3, .mov (.const (.bool false)), none⟩])
     .ret)
     .skip))
    (.seq (.region [
    ⟨some 37, .mov (.tmp 0), none⟩,
    ⟨some 38, .mov (.tmp 6), none⟩,
    ⟨some 39, .sidx (.tmp 37) (.tmp 38), none⟩,
    ⟨some 40, .bin .sub (.tmp 39) (.const (.int .u8 48)), none⟩,
    ⟨some 41, .conv .i64 (.tmp 40), none⟩,
    ⟨some 7, .mov (.tmp 41), none⟩])
    (.seq (.seq (.region [
    ⟨some 42, .mov (.tmp 5), none⟩,
    ⟨some 43, .bin .lss (.tmp 42) (.const (.int .i64 (-922337203685477580))), none⟩,
    ⟨some 44, .mov (.tmp 43), none⟩,
    ⟨some 45, .mov (.tmp 5), some (44, false)⟩,
    ⟨some 46, .bin .eql (.tmp 45) (.const (.int .i64 (-922337203685477580))), some (44, false)⟩,
    ⟨some 47, .mov (.tmp 46), some (44, false)⟩,
    ⟨some 48, .mov (.tmp 7), some (47, true)⟩,
    ⟨some 49, .bin .gtr (.tmp 48) (.const (.int .i64 8)), some (47, true)⟩,
    ⟨some 50, .pick (.tmp 47) (.tmp 49) (.const (.bool false)), some (44, false)⟩,
    ⟨some 51, .pick (.tmp 44) (.const (.bool true)) (.tmp 50), none⟩])
    (.cond (.tmp 51)
     (.seq (.region [
     ⟨some 2, .mov (.const (.int .i64 0)), none⟩,
     ⟨some 3, .mov (.const (.bool false)), none⟩])
     .ret)
     .skip))
    (.region [
    ⟨some 52, .mov (.tmp 5), none⟩,
    ⟨some 53, .bin .mul (.const (.int .i64 10)) (.tmp 52), none⟩,
    ⟨some 54, .mov (.tmp 7), none⟩,
    ⟨some 55, .bin .sub (.tmp 53) (.tmp 54), none⟩,
    ⟨some 5, .mov (.tmp 55), none⟩])))))
   (.region [
   ⟨some 25, .mov (.tmp 6), none⟩,
   ⟨some 26, .bin .add (.tmp 25) (.const (.int .i64 1)), none⟩,
   ⟨some 6, .mov (.tmp 26), none⟩]))))))
 (.seq (.seq (.region [
 ⟨some 56, .mov (.tmp 4), none⟩,
 ⟨some 57, .bin .eql (.tmp 56) (.const (.int .i64 1)), none⟩])
 (.cond (.tmp 57)
  (.seq (.region [
  ⟨some 58, .mov (.tmp 5), none⟩,
  ⟨some 2, .mov (.tmp 58), none⟩,
  ⟨some 3, .mov (.const (.bool true)), none⟩])
  .ret)
  .skip))
 (.seq (.seq (.region [
 ⟨some 59, .mov (.tmp 5), none⟩,
 ⟨some 60, .bin .eql (.tmp 59) (.const (.int .i64 (-9223372036854775808))), none⟩])
 (.cond (.tmp 60)
  (.seq (.region [
  ⟨some 2, .mov (.const (.int .i64 0)), none⟩,
  ⟨some 3, .mov (.const (.bool false)), none⟩])
  .ret)
  .skip))
 (.seq (.region [
 ⟨some 61, .mov (.tmp 5), none⟩,
 ⟨some 62, .neg (.tmp 61), none⟩,
 ⟨some 2, .mov (.tmp 62), none⟩,
 ⟨some 3, .mov (.const (.bool true)), none⟩])
 .ret))))))))),
 [.tmp 2, .tmp 3]⟩
theorem low_ref03_Number : lowFn Tryz.prog movers 84 = some ⟨ir_ref03_Number.n, strip ir_ref03_Number.body, ir_ref03_Number.res⟩ := by kernel_rfl
end Go.Proofs.YtiimndcifcoofaaGreatDoor
namespace Go.Proofs.YtiimndcifcoofaaGreatDoor
open Go
set_option maxRecDepth 100000
/-- strongtx/alu.Name -/
def ir_alu_Name : IFn := ⟨12,
 (.seq (.region [
 ⟨some 2, .mov (.const (.string ⟨#[]⟩)), none⟩])
 (.seq (.seq (.region [
 ⟨some 3, .mov (.tmp 0), none⟩,
 ⟨some 4, .bin .lss (.tmp 3) (.const (.int .i64 0)), none⟩,
 ⟨some 5, .mov (.tmp 4), none⟩,
 ⟨some 6, .mov (.tmp 0), some (5, false)⟩,
 ⟨some 7, .bin .geq (.tmp 6) (.const (.int .i64 22)), some (5, false)⟩,
 ⟨some 8, .pick (.tmp 5) (.const (.bool true)) (.tmp 7), none⟩])
 (.cond (.tmp 8)
  (.seq (.region [
  ⟨some 2, .mov (.const (.string ⟨#[]⟩)), none⟩])
  .ret)
  .skip))
 (.seq (.region [
 ⟨some 9, .mov (.tmp 0), none⟩,
 ⟨some 10, .ixa 22 1 (.global 1) (.tmp 9), none⟩,
 ⟨some 11, .ld (.tmp 10), none⟩,
 ⟨some 2, .mov (.tmp 11), none⟩])
 .ret))),
 [.tmp 2]⟩
theorem low_alu_Name : lowFn Tryz.prog movers 35 = some ⟨ir_alu_Name.n, strip ir_alu_Name.body, ir_alu_Name.res⟩ := by kernel_rfl
/-- strongtx/alu.Number -/
def ir_alu_Number : IFn := ⟨15,
 (.seq (.region [
 ⟨some 2, .mov (.const (.int .i64 0)), none⟩,
 ⟨some 3, .mov (.const (.bool false)), none⟩])
 (.seq (.seq (.region [
 ⟨some 5, .mov (.const (.int .i64 0)), none⟩])
 (.block 0
  (.loop 32764
   (.seq (.region [
   ⟨some 6, .bin .lss (.tmp 5) (.const (.int .i64 22)), none⟩])
   (.seq (.cond (.tmp 6)
    .skip
    (.exit 0))
   (.seq (.block 1
    (.seq (.region [
    ⟨some 7, .mov (.tmp 5), none⟩,
    ⟨some 4, .mov (.tmp 7), none⟩])
    (.seq (.region [
    ⟨some 8, .mov (.tmp 4), none⟩,
    ⟨some 9, .ixa 22 1 (.global 1) (.tmp 8), none⟩,
    ⟨some 10, .ld (.tmp 9), none⟩,
    ⟨some 11, .mov (.tmp 0), none⟩,
    ⟨some 12, .sbin .eql (.tmp 10) (.tmp 11), none⟩])
    (.cond (.tmp 12)
     (.seq (.region [
     ⟨some 13, .mov (.tmp 4), none⟩,
     ⟨some 2, .mov (.tmp 13), none⟩,
     ⟨some 3, .mov (.const (.bool true)), none⟩])
     .ret)
     .skip))))
   (.region [
   ⟨some 14, .bin .add (.tmp 5) (.const (.int .i64 1)), none⟩,
   ⟨some 5, .mov (.tmp 14), none⟩])))))))
 (.seq (.region [
 ⟨some 2, .mov (.const (.int .i64 0)), none⟩,
 ⟨some 3, .mov (.const (.bool false)), none⟩])
 .ret))),
 [.tmp 2, .tmp 3]⟩
theorem low_alu_Number : lowFn Tryz.prog movers 107 = some ⟨ir_alu_Number.n, strip ir_alu_Number.body, ir_alu_Number.res⟩ := by kernel_rfl
end Go.Proofs.YtiimndcifcoofaaGreatDoor
namespace Go.Proofs.YtiimndcifcoofaaGreatDoor
open Go
set_option maxRecDepth 100000
/-- strongtx/strongtxref02.names -/
def ir_ref02_names : IFn := ⟨2,
 (.seq (.region [
 ⟨some 0, .mov (.const (.slice none 0 0)), none⟩])
 (.seq (.region [
 ⟨some 1, .blds 9 22 [(.string ⟨#[]⟩), (.string ⟨#[]⟩), (.string ⟨#[]⟩), (.string ⟨#[]⟩), (.string ⟨#[]⟩), (.string ⟨#[]⟩), (.string ⟨#[]⟩), (.string ⟨#[]⟩), (.string ⟨#[]⟩), (.string ⟨#[]⟩), (.string ⟨#[]⟩), (.string ⟨#[]⟩), (.string ⟨#[]⟩), (.string ⟨#[]⟩), (.string ⟨#[]⟩), (.string ⟨#[]⟩), (.string ⟨#[]⟩), (.string ⟨#[]⟩), (.string ⟨#[]⟩), (.string ⟨#[]⟩), (.string ⟨#[]⟩), (.string ⟨#[]⟩)] [(0, 1, (.const (.string ⟨#[97, 100, 100]⟩))), (1, 1, (.const (.string ⟨#[115, 117, 98]⟩))), (2, 1, (.const (.string ⟨#[109, 117, 108]⟩))), (3, 1, (.const (.string ⟨#[97, 110, 100]⟩))), (4, 1, (.const (.string ⟨#[111, 114]⟩))), (5, 1, (.const (.string ⟨#[120, 111, 114]⟩))), (6, 1, (.const (.string ⟨#[115, 104, 108]⟩))), (7, 1, (.const (.string ⟨#[115, 104, 114]⟩))), (8, 1, (.const (.string ⟨#[101, 113]⟩))), (9, 1, (.const (.string ⟨#[110, 101]⟩))), (10, 1, (.const (.string ⟨#[108, 116]⟩))), (11, 1, (.const (.string ⟨#[108, 116, 117]⟩))), (12, 1, (.const (.string ⟨#[102, 97, 100, 100]⟩))), (13, 1, (.const (.string ⟨#[102, 115, 117, 98]⟩))), (14, 1, (.const (.string ⟨#[102, 109, 117, 108]⟩))), (15, 1, (.const (.string ⟨#[102, 100, 105, 118]⟩))), (16, 1, (.const (.string ⟨#[102, 109, 105, 110]⟩))), (17, 1, (.const (.string ⟨#[102, 109, 97, 120]⟩))), (18, 1, (.const (.string ⟨#[102, 101, 113]⟩))), (19, 1, (.const (.string ⟨#[102, 108, 116]⟩))), (20, 1, (.const (.string ⟨#[102, 114, 111, 109, 105, 110, 116]⟩))), (21, 1, (.const (.string ⟨#[116, 111, 105, 110, 116]⟩)))], none⟩,
 ⟨some 0, .mov (.tmp 1), none⟩])
 .ret)),
 [.tmp 0]⟩
theorem low_ref02_names : lowFn Tryz.prog movers 69 = some ⟨ir_ref02_names.n, strip ir_ref02_names.body, ir_ref02_names.res⟩ := by kernel_rfl
/-- strongtx/strongtxref02.Number -/
def ir_ref02_Number : IFn := ⟨20,
 (.seq (.region [
 ⟨some 2, .mov (.const (.int .i64 0)), none⟩,
 ⟨some 3, .mov (.const (.bool false)), none⟩])
 (.seq (.region [
 ⟨some 6, .call 69 [], none⟩,
 ⟨some 4, .mov (.tmp 6), none⟩])
 (.seq (.seq (.region [
 ⟨some 5, .mov (.const (.int .i64 0)), none⟩])
 (.block 0
  (.loop 1048492
   (.seq (.seq (.region [
   ⟨some 7, .mov (.tmp 5), none⟩,
   ⟨some 8, .mov (.tmp 4), none⟩,
   ⟨some 9, .len (.tmp 8), none⟩,
   ⟨some 10, .bin .lss (.tmp 7) (.tmp 9), none⟩])
   (.cond (.tmp 10)
    .skip
    (.exit 0)))
   (.seq (.block 1
    (.seq (.region [
    ⟨some 13, .mov (.tmp 4), none⟩,
    ⟨some 14, .mov (.tmp 5), none⟩,
    ⟨some 15, .ixs 1 (.tmp 13) (.tmp 14), none⟩,
    ⟨some 16, .ld (.tmp 15), none⟩,
    ⟨some 17, .mov (.tmp 0), none⟩,
    ⟨some 18, .sbin .eql (.tmp 16) (.tmp 17), none⟩])
    (.cond (.tmp 18)
     (.seq (.region [
     ⟨some 19, .mov (.tmp 5), none⟩,
     ⟨some 2, .mov (.tmp 19), none⟩,
     ⟨some 3, .mov (.const (.bool true)), none⟩])
     .ret)
     .skip)))
   (.region [
   ⟨some 11, .mov (.tmp 5), none⟩,
   ⟨some 12, .bin .add (.tmp 11) (.const (.int .i64 1)), none⟩,
   ⟨some 5, .mov (.tmp 12), none⟩]))))))
 (.seq (.region [
 ⟨some 2, .mov (.const (.int .i64 0)), none⟩,
 ⟨some 3, .mov (.const (.bool false)), none⟩])
 .ret)))),
 [.tmp 2, .tmp 3]⟩
theorem low_ref02_Number : lowFn Tryz.prog movers 83 = some ⟨ir_ref02_Number.n, strip ir_ref02_Number.body, ir_ref02_Number.res⟩ := by kernel_rfl
end Go.Proofs.YtiimndcifcoofaaGreatDoor
namespace Go.Proofs.YtiimndcifcoofaaGreatDoor
open Go
set_option maxRecDepth 100000
/-- strongtx/strongtxkit.Program -/
def ir_kit_Program : IFn := ⟨26,
 (.seq (.region [
 ⟨some 4, .mov (.const (.bool false)), none⟩])
 (.seq (.seq (.region [
 ⟨some 6, .mov (.tmp 0), none⟩,
 ⟨some 7, .len (.tmp 6), none⟩,
 ⟨some 8, .mov (.tmp 1), none⟩,
 ⟨some 9, .len (.tmp 8), none⟩,
 ⟨some 10, .bin .neq (.tmp 7) (.tmp 9), none⟩])
 (.cond (.tmp 10)
  (.seq (.region [
  ⟨some 4, .mov (.const (.bool false)), none⟩])
  .ret)
  .skip))
 (.seq (.seq (.region [
 ⟨some 5, .mov (.const (.int .i64 0)), none⟩])
 (.block 0
  (.loop 67106864
   (.seq (.seq (.region [
   ⟨some 11, .mov (.tmp 5), none⟩,
   ⟨some 12, .mov (.tmp 0), none⟩,
   ⟨some 13, .len (.tmp 12), none⟩,
   ⟨some 14, .bin .lss (.tmp 11) (.tmp 13), none⟩])
   (.cond (.tmp 14)
    .skip
    (.exit 0)))
   (.seq (.block 1
    (.seq (.draw (.f ⟨some 17, .mov (.tmp 0), none⟩
    (.f ⟨some 18, .mov (.tmp 5), none⟩
    (.f ⟨some 19, .ixs 5 (.tmp 17) (.tmp 18), none⟩
    (.f ⟨some 20, .ldN 5 (.tmp 19), none⟩
    (.f ⟨some 21, .mov (.tmp 1), none⟩
    (.f ⟨some 22, .mov (.tmp 5), none⟩
    (.f ⟨some 23, .ixs 5 (.tmp 21) (.tmp 22), none⟩
    (.f ⟨some 24, .ldN 5 (.tmp 23), none⟩
    (.f ⟨some 25, .ageq true [0, 0, 0, 0, 0] (.tmp 20) (.tmp 24), none⟩
    .done))))))))))
    (.cond (.tmp 25)
     (.seq (.region [
     ⟨some 4, .mov (.const (.bool false)), none⟩])
     .ret)
     .skip)))
   (.region [
   ⟨some 15, .mov (.tmp 5), none⟩,
   ⟨some 16, .bin .add (.tmp 15) (.const (.int .i64 1)), none⟩,
   ⟨some 5, .mov (.tmp 16), none⟩]))))))
 (.seq (.region [
 ⟨some 4, .mov (.const (.bool true)), none⟩])
 .ret)))),
 [.tmp 4]⟩
theorem low_kit_Program : lowFn Tryz.prog movers 26 = some ⟨ir_kit_Program.n, strip ir_kit_Program.body, ir_kit_Program.res⟩ := by kernel_rfl
/-- strongtx/strongtxkit.Place -/
def ir_kit_Place : IFn := ⟨11,
 (.seq (.region [
 ⟨some 4, .mov (.const (.int .i64 0)), none⟩])
 (.seq (.region [
 ⟨some 5, .mov (.tmp 0), none⟩,
 ⟨some 6, .conv .u64 (.tmp 5), none⟩,
 ⟨some 7, .mov (.tmp 1), none⟩,
 ⟨some 8, .conv .u64 (.tmp 7), none⟩,
 ⟨some 9, .bin .rem (.tmp 6) (.tmp 8), none⟩,
 ⟨some 10, .conv .i64 (.tmp 9), none⟩,
 ⟨some 4, .mov (.tmp 10), none⟩])
 .ret)),
 [.tmp 4]⟩
theorem low_kit_Place : lowFn Tryz.prog movers 31 = some ⟨ir_kit_Place.n, strip ir_kit_Place.body, ir_kit_Place.res⟩ := by kernel_rfl
end Go.Proofs.YtiimndcifcoofaaGreatDoor
namespace Go.Proofs.YtiimndcifcoofaaGreatDoor
open Go
set_option maxRecDepth 100000
/-- strongtx/asm.Assemble -/
def ir_asm_Assemble : IFn := ⟨85,
 (.seq (.region [
 ⟨some 2, .mov (.const (.slice none 0 0)), none⟩,
 ⟨some 3, .mov (.const (.int .i64 0)), none⟩,
 ⟨some 4, .mov (.const (.int .i64 0)), none⟩])
 (.seq (.seq (.region [
 ⟨some 13, .mov (.tmp 0), none⟩,
 ⟨some 14, .lens (.tmp 13), none⟩,
 ⟨some 15, .bin .gtr (.tmp 14) (.const (.int .i64 65536)), none⟩])
 (.cond (.tmp 15)
  (.seq (.region [
  ⟨some 2, .mov (.const (.slice none 0 0)), none⟩,
  ⟨some 3, .mov (.const (.int .i64 0)), none⟩,
  ⟨some 4, .mov (.const (.int .i64 3)), none⟩])
  .ret)
  .skip))
 (.seq (.region [
 ⟨some 16, .mkm, none⟩,
 ⟨some 17, .bld [(.slice none 0 0), (.map none), (.slice none 0 0)] [(1, 1, (.tmp 16))], none⟩,
 ⟨some 18, .box 71 (.tmp 17), none⟩,
 ⟨some 5, .mov (.tmp 18), none⟩])
 (.seq (.seq (.region [
 ⟨some 19, .mov (.tmp 0), none⟩,
 ⟨some 20, .call 49 [(.tmp 19)], none⟩,
 ⟨some 21, .len (.tmp 20), none⟩,
 ⟨some 22, .mov (.const (.int .i64 0)), none⟩])
 (.block 0
  (.loop 274873713116
   (.seq (.region [
   ⟨some 23, .bin .lss (.tmp 22) (.tmp 21), none⟩])
   (.seq (.cond (.tmp 23)
    .skip
    (.exit 0))
   (.seq (.block 1
    (.seq (.region [
    ⟨some 24, .mov (.tmp 22), none⟩,
    ⟨some 25, .ixs 1 (.tmp 20) (.tmp 22), none⟩,
    ⟨some 26, .ld (.tmp 25), none⟩,
    ⟨some 6, .mov (.tmp 24), none⟩,
    ⟨some 7, .mov (.tmp 26), none⟩])
    (.seq (.region [
    ⟨some 27, .mov (.tmp 5), none⟩,
    ⟨some 28, .mov (.tmp 7), none⟩,
    ⟨some 29, .mov (.tmp 6), none⟩,
    ⟨some 30, .bin .add (.tmp 29) (.const (.int .i64 1)), none⟩,
    ⟨some 31, .call 50 [(.tmp 27), (.tmp 28), (.tmp 30)], none⟩,
    ⟨some 8, .mov (.tmp 31), none⟩])
    (.seq (.region [
    ⟨some 32, .mov (.tmp 8), none⟩,
    ⟨some 33, .bin .neq (.tmp 32) (.const (.int .i64 0)), none⟩])
    (.cond (.tmp 33)
     (.seq (.region [
     ⟨some 34, .mov (.tmp 6), none⟩,
     ⟨some 35, .bin .add (.tmp 34) (.const (.int .i64 1)), none⟩,
     ⟨some 36, .mov (.tmp 8), none⟩,
     ⟨some 2, .mov (.const (.slice none 0 0)), none⟩,
     ⟨some 3, .mov (.tmp 35), none⟩,
     ⟨some 4, .mov (.tmp 36), none⟩])
     .ret)
     .skip)))))
   (.region [
   ⟨some 37, .bin .add (.tmp 22) (.const (.int .i64 1)), none⟩,
   ⟨some 22, .mov (.tmp 37), none⟩])))))))
 (.seq (.seq (.region [
 ⟨some 38, .mov (.tmp 5), none⟩,
 ⟨some 39, .nilc (.tmp 38), none⟩,
 ⟨some 40, .fad 2 (.tmp 39), none⟩,
 ⟨some 41, .ld (.tmp 40), none⟩,
 ⟨some 42, .len (.tmp 41), none⟩,
 ⟨some 43, .mov (.const (.int .i64 0)), none⟩])
 (.block 2
  (.loop 2417851639220462256397340
   (.seq (.region [
   ⟨some 44, .bin .lss (.tmp 43) (.tmp 42), none⟩])
   (.seq (.cond (.tmp 44)
    .skip
    (.exit 2))
   (.seq (.block 3
    (.seq (.region [
    ⟨some 45, .ixs 3 (.tmp 41) (.tmp 43), none⟩,
    ⟨some 46, .ldN 3 (.tmp 45), none⟩,
    ⟨some 10, .new 74 (.agg #[.int .i64 0, .int .i64 0, .string ⟨#[]⟩]), none⟩,
    ⟨none, .stN 3 (.tmp 10) (.tmp 46), none⟩])
    (.seq (.draw (.f ⟨some 48, .mov (.tmp 5), none⟩
    (.f ⟨some 49, .nilc (.tmp 48), none⟩
    (.f ⟨some 50, .fad 1 (.tmp 49), none⟩
    (.f ⟨some 51, .ld (.tmp 50), none⟩
    (.f ⟨some 52, .fad 2 (.tmp 10), none⟩
    (.f ⟨some 53, .ld (.tmp 52), none⟩
    (.f ⟨some 54, .mlk 2 (.int .i64 0) true (.tmp 51) (.tmp 53), none⟩
    (.f ⟨some 47, .mov (.tmp 54), none⟩
    (.f ⟨some 55, .ext (.tmp 47) 0, none⟩
    (.f ⟨some 56, .ext (.tmp 47) 1, none⟩
    (.f ⟨some 11, .mov (.tmp 55), none⟩
    (.f ⟨some 12, .mov (.tmp 56), none⟩
    .done)))))))))))))
    (.seq (.seq (.region [
    ⟨some 57, .mov (.tmp 12), none⟩,
    ⟨some 58, .not (.tmp 57), none⟩,
    ⟨some 59, .mov (.tmp 58), none⟩,
    ⟨some 60, .mov (.tmp 11), some (59, false)⟩,
    ⟨some 61, .fad 0 (.tmp 10), some (59, false)⟩,
    ⟨some 62, .ld (.tmp 61), some (59, false)⟩,
    ⟨some 63, .bin .leq (.tmp 60) (.tmp 62), some (59, false)⟩,
    ⟨some 64, .pick (.tmp 59) (.const (.bool true)) (.tmp 63), none⟩])
    (.cond (.tmp 64)
     (.seq (.draw (.f ⟨some 65, .fad 1 (.tmp 10), none⟩
     (.f ⟨some 66, .ld (.tmp 65), none⟩
     (.f ⟨some 2, .mov (.const (.slice none 0 0)), none⟩
     (.f ⟨some 3, .mov (.tmp 66), none⟩
     (.f ⟨some 4, .mov (.const (.int .i64 20)), none⟩
     .done))))))
     .ret)
     .skip))
    (.draw (.f ⟨some 67, .mov (.tmp 5), none⟩
    (.f ⟨some 68, .nilc (.tmp 67), none⟩
    (.f ⟨some 69, .fad 0 (.tmp 68), none⟩
    (.f ⟨some 70, .ld (.tmp 69), none⟩
    (.f ⟨some 71, .fad 0 (.tmp 10), none⟩
    (.f ⟨some 72, .ld (.tmp 71), none⟩
    (.f ⟨some 73, .mov (.tmp 11), none⟩
    (.f ⟨some 74, .fad 0 (.tmp 10), none⟩
    (.f ⟨some 75, .ld (.tmp 74), none⟩
    (.f ⟨some 76, .bin .sub (.tmp 73) (.tmp 75), none⟩
    (.f ⟨some 77, .bin .sub (.tmp 76) (.const (.int .i64 1)), none⟩
    (.f ⟨some 78, .ixs 5 (.tmp 70) (.tmp 72), none⟩
    (.f ⟨some 79, .fad 4 (.tmp 78), none⟩
    (.m ⟨none, .st (.tmp 79) (.tmp 77), none⟩
    .done)))))))))))))))))))
   (.region [
   ⟨some 80, .bin .add (.tmp 43) (.const (.int .i64 1)), none⟩,
   ⟨some 43, .mov (.tmp 80), none⟩])))))))
 (.seq (.region [
 ⟨some 81, .mov (.tmp 5), none⟩,
 ⟨some 82, .nilc (.tmp 81), none⟩,
 ⟨some 83, .fad 0 (.tmp 82), none⟩,
 ⟨some 84, .ld (.tmp 83), none⟩,
 ⟨some 2, .mov (.tmp 84), none⟩,
 ⟨some 3, .mov (.const (.int .i64 0)), none⟩,
 ⟨some 4, .mov (.const (.int .i64 0)), none⟩])
 .ret)))))),
 [.tmp 2, .tmp 3, .tmp 4]⟩
theorem low_asm_Assemble : lowFn Tryz.prog movers 24 = some ⟨ir_asm_Assemble.n, strip ir_asm_Assemble.body, ir_asm_Assemble.res⟩ := by kernel_rfl
/-- strongtx/asm.Disassemble -/
def ir_asm_Disassemble : IFn := ⟨109,
 (.seq (.region [
 ⟨some 2, .mov (.const (.string ⟨#[]⟩)), none⟩,
 ⟨some 3, .mov (.const (.int .i64 0)), none⟩])
 (.seq (.seq (.region [
 ⟨some 20, .mov (.tmp 0), none⟩,
 ⟨some 21, .len (.tmp 20), none⟩,
 ⟨some 22, .bin .gtr (.tmp 21) (.const (.int .i64 64)), none⟩])
 (.cond (.tmp 22)
  (.seq (.region [
  ⟨some 2, .mov (.const (.string ⟨#[]⟩)), none⟩,
  ⟨some 3, .mov (.const (.int .i64 3)), none⟩])
  .ret)
  .skip))
 (.seq (.seq (.region [
 ⟨some 23, .mov (.tmp 0), none⟩,
 ⟨some 24, .len (.tmp 23), none⟩,
 ⟨some 25, .mov (.const (.int .i64 0)), none⟩])
 (.block 0
  (.loop 34326184044
   (.seq (.region [
   ⟨some 26, .bin .lss (.tmp 25) (.tmp 24), none⟩])
   (.seq (.cond (.tmp 26)
    .skip
    (.exit 0))
   (.seq (.block 1
    (.seq (.region [
    ⟨some 27, .ixs 5 (.tmp 23) (.tmp 25), none⟩,
    ⟨some 28, .ldN 5 (.tmp 27), none⟩,
    ⟨some 5, .new 23 (.agg #[.int .i64 0, .int .i64 0, .int .i64 0, .int .i64 0, .int .i64 0]), none⟩,
    ⟨none, .stN 5 (.tmp 5) (.tmp 28), none⟩])
    (.seq (.region [
    ⟨some 29, .ldN 5 (.tmp 5), none⟩,
    ⟨some 30, .call 13 [(.tmp 29)], none⟩,
    ⟨some 6, .mov (.tmp 30), none⟩])
    (.seq (.region [
    ⟨some 31, .mov (.tmp 6), none⟩,
    ⟨some 32, .bin .neq (.tmp 31) (.const (.int .i64 0)), none⟩])
    (.cond (.tmp 32)
     (.seq (.region [
     ⟨some 33, .mov (.tmp 6), none⟩,
     ⟨some 2, .mov (.const (.string ⟨#[]⟩)), none⟩,
     ⟨some 3, .mov (.tmp 33), none⟩])
     .ret)
     .skip)))))
   (.region [
   ⟨some 34, .bin .add (.tmp 25) (.const (.int .i64 1)), none⟩,
   ⟨some 25, .mov (.tmp 34), none⟩])))))))
 (.seq (.region [
 ⟨some 35, .mkm, none⟩,
 ⟨some 7, .mov (.tmp 35), none⟩])
 (.seq (.seq (.region [
 ⟨some 36, .mov (.tmp 0), none⟩,
 ⟨some 37, .call 57 [(.tmp 36)], none⟩,
 ⟨some 38, .len (.tmp 37), none⟩,
 ⟨some 39, .mov (.const (.int .i64 0)), none⟩])
 (.block 2
  (.loop 2251250057872128
   (.seq (.region [
   ⟨some 40, .bin .lss (.tmp 39) (.tmp 38), none⟩])
   (.seq (.cond (.tmp 40)
    .skip
    (.exit 2))
   (.seq (.block 3
    (.seq (.region [
    ⟨some 41, .mov (.tmp 39), none⟩,
    ⟨some 42, .ixs 1 (.tmp 37) (.tmp 39), none⟩,
    ⟨some 43, .ld (.tmp 42), none⟩,
    ⟨some 8, .mov (.tmp 41), none⟩,
    ⟨some 9, .mov (.tmp 43), none⟩])
    (.region [
    ⟨some 44, .mov (.tmp 7), none⟩,
    ⟨some 45, .mov (.tmp 9), none⟩,
    ⟨some 46, .mov (.tmp 8), none⟩,
    ⟨some 47, .bin .add (.tmp 46) (.const (.int .i64 1)), none⟩,
    ⟨some 48, .call 36 [(.tmp 47)], none⟩,
    ⟨some 49, .scat (.const (.string ⟨#[108]⟩)) (.tmp 48), none⟩,
    ⟨none, .mup 0 (.tmp 44) (.tmp 45) (.tmp 49), none⟩])))
   (.region [
   ⟨some 50, .bin .add (.tmp 39) (.const (.int .i64 1)), none⟩,
   ⟨some 39, .mov (.tmp 50), none⟩])))))))
 (.seq (.region [
 ⟨some 10, .new 84 (.agg #[.pointer none, .slice none 0 0]), none⟩])
 (.seq (.seq (.region [
 ⟨some 11, .mov (.const (.int .i64 0)), none⟩])
 (.block 4
  (.loop 324518553658426724531356207937536
   (.seq (.seq (.region [
   ⟨some 51, .mov (.tmp 11), none⟩,
   ⟨some 52, .mov (.tmp 0), none⟩,
   ⟨some 53, .len (.tmp 52), none⟩,
   ⟨some 54, .bin .leq (.tmp 51) (.tmp 53), none⟩])
   (.cond (.tmp 54)
    .skip
    (.exit 4)))
   (.seq (.block 5
    (.seq (.seq (.region [
    ⟨some 58, .mov (.tmp 7), none⟩,
    ⟨some 59, .mov (.tmp 11), none⟩,
    ⟨some 60, .mlk 0 (.string ⟨#[]⟩) true (.tmp 58) (.tmp 59), none⟩,
    ⟨some 57, .mov (.tmp 60), none⟩,
    ⟨some 61, .ext (.tmp 57) 0, none⟩,
    ⟨some 62, .ext (.tmp 57) 1, none⟩,
    ⟨some 12, .mov (.tmp 61), none⟩,
    ⟨some 13, .mov (.tmp 62), none⟩])
    (.seq (.region [
    ⟨some 63, .mov (.tmp 13), none⟩])
    (.cond (.tmp 63)
     (.region [
     ⟨some 64, .mov (.tmp 12), none⟩,
     ⟨some 65, .scat (.tmp 64) (.const (.string ⟨#[58, 10]⟩)), none⟩,
     ⟨some 66, .call 58 [(.tmp 10), (.tmp 65)], none⟩])
     .skip)))
    (.seq (.seq (.region [
    ⟨some 67, .mov (.tmp 11), none⟩,
    ⟨some 68, .mov (.tmp 0), none⟩,
    ⟨some 69, .len (.tmp 68), none⟩,
    ⟨some 70, .bin .eql (.tmp 67) (.tmp 69), none⟩])
    (.cond (.tmp 70)
     (.exit 4)
     .skip))
    (.seq (.region [
    ⟨some 72, .mov (.tmp 0), none⟩,
    ⟨some 73, .mov (.tmp 11), none⟩,
    ⟨some 74, .ixs 5 (.tmp 72) (.tmp 73), none⟩,
    ⟨some 75, .ldN 5 (.tmp 74), none⟩,
    ⟨some 76, .call 11 [(.tmp 75)], none⟩,
    ⟨some 71, .mov (.tmp 76), none⟩,
    ⟨some 77, .ext (.tmp 71) 0, none⟩,
    ⟨some 78, .ext (.tmp 71) 1, none⟩,
    ⟨some 14, .mov (.tmp 77), none⟩,
    ⟨some 15, .mov (.tmp 78), none⟩])
    (.seq (.seq (.region [
    ⟨some 80, .mov (.tmp 0), none⟩,
    ⟨some 81, .mov (.tmp 11), none⟩,
    ⟨some 82, .ixs 5 (.tmp 80) (.tmp 81), none⟩,
    ⟨some 83, .ldN 5 (.tmp 82), none⟩,
    ⟨some 84, .call 59 [(.tmp 83)], none⟩,
    ⟨some 79, .mov (.tmp 84), none⟩,
    ⟨some 85, .ext (.tmp 79) 0, none⟩,
    ⟨some 86, .ext (.tmp 79) 1, none⟩,
    ⟨some 16, .mov (.tmp 85), none⟩,
    ⟨some 17, .mov (.tmp 86), none⟩])
    (.seq (.region [
    ⟨some 87, .mov (.tmp 17), none⟩])
    (.cond (.tmp 87)
     (.seq (.region [
     ⟨some 89, .mov (.tmp 7), none⟩,
     ⟨some 90, .mov (.tmp 11), none⟩,
     ⟨some 91, .bin .add (.tmp 90) (.const (.int .i64 1)), none⟩,
     ⟨some 92, .mov (.tmp 16), none⟩,
     ⟨some 93, .bin .add (.tmp 91) (.tmp 92), none⟩,
     ⟨some 94, .mlk 0 (.string ⟨#[]⟩) true (.tmp 89) (.tmp 93), none⟩,
     ⟨some 88, .mov (.tmp 94), none⟩,
     ⟨some 95, .ext (.tmp 88) 0, none⟩,
     ⟨some 96, .ext (.tmp 88) 1, none⟩,
     ⟨some 18, .mov (.tmp 95), none⟩,
     ⟨some 19, .mov (.tmp 96), none⟩])
     (.seq (.region [
     ⟨some 97, .mov (.tmp 19), none⟩])
     (.cond (.tmp 97)
      (.region [
      ⟨some 98, .mov (.tmp 14), none⟩,
      ⟨some 99, .mov (.tmp 14), none⟩,
      ⟨some 100, .call 60 [(.tmp 99), (.const (.int .u8 32))], none⟩,
      ⟨some 101, .bin .add (.tmp 100) (.const (.int .i64 1)), none⟩,
      ⟨some 102, .sslc (.tmp 98) none (some (.tmp 101)), none⟩,
      ⟨some 103, .mov (.tmp 18), none⟩,
      ⟨some 104, .scat (.tmp 102) (.tmp 103), none⟩,
      ⟨some 14, .mov (.tmp 104), none⟩])
      .skip)))
     .skip)))
    (.region [
    ⟨some 105, .mov (.tmp 14), none⟩,
    ⟨some 106, .scat (.tmp 105) (.const (.string ⟨#[10]⟩)), none⟩,
    ⟨some 107, .call 58 [(.tmp 10), (.tmp 106)], none⟩]))))))
   (.region [
   ⟨some 55, .mov (.tmp 11), none⟩,
   ⟨some 56, .bin .add (.tmp 55) (.const (.int .i64 1)), none⟩,
   ⟨some 11, .mov (.tmp 56), none⟩]))))))
 (.seq (.region [
 ⟨some 108, .call 61 [(.tmp 10)], none⟩,
 ⟨some 2, .mov (.tmp 108), none⟩,
 ⟨some 3, .mov (.const (.int .i64 0)), none⟩])
 .ret)))))))),
 [.tmp 2, .tmp 3]⟩
theorem low_asm_Disassemble : lowFn Tryz.prog movers 27 = some ⟨ir_asm_Disassemble.n, strip ir_asm_Disassemble.body, ir_asm_Disassemble.res⟩ := by kernel_rfl
/-- strongtx/asm.lines -/
def ir_asm_lines : IFn := ⟨19,
 (.seq (.region [
 ⟨some 2, .mov (.const (.slice none 0 0)), none⟩])
 (.seq (.region [
 ⟨some 5, .mov (.tmp 0), none⟩,
 ⟨some 6, .call 76 [(.tmp 5), (.const (.string ⟨#[10]⟩))], none⟩,
 ⟨some 3, .mov (.tmp 6), none⟩])
 (.seq (.seq (.region [
 ⟨some 7, .mov (.tmp 3), none⟩,
 ⟨some 8, .len (.tmp 7), none⟩,
 ⟨some 9, .bin .sub (.tmp 8) (.const (.int .i64 1)), none⟩,
 ⟨some 4, .mov (.tmp 9), none⟩])
 (.seq (.region [
 ⟨some 10, .mov (.tmp 3), none⟩,
 ⟨some 11, .mov (.tmp 4), none⟩,
 ⟨some 12, .ixs 1 (.tmp 10) (.tmp 11), none⟩,
 ⟨some 13, .ld (.tmp 12), none⟩,
 ⟨some 14, .sbin .eql (.tmp 13) (.const (.string ⟨#[]⟩)), none⟩])
 (.cond (.tmp 14)
  (.region [
  ⟨some 15, .mov (.tmp 3), none⟩,
  ⟨some 16, .mov (.tmp 4), none⟩,
  ⟨some 17, .sls 1 (.tmp 15) none (some (.tmp 16)) none, none⟩,
  ⟨some 3, .mov (.tmp 17), none⟩])
  .skip)))
 (.seq (.region [
 ⟨some 18, .mov (.tmp 3), none⟩,
 ⟨some 2, .mov (.tmp 18), none⟩])
 .ret)))),
 [.tmp 2]⟩
theorem low_asm_lines : lowFn Tryz.prog movers 49 = some ⟨ir_asm_lines.n, strip ir_asm_lines.body, ir_asm_lines.res⟩ := by kernel_rfl
/-- (*strongtx/asm.assembler).read -/
def ir_asm_assembler_read : IFn := ⟨106,
 (.seq (.region [
 ⟨some 6, .mov (.const (.int .i64 0)), none⟩])
 (.seq (.region [
 ⟨some 17, .mov (.tmp 1), none⟩,
 ⟨some 18, .call 77 [(.tmp 17), (.const (.string ⟨#[35]⟩))], none⟩,
 ⟨some 16, .mov (.tmp 18), none⟩,
 ⟨some 19, .ext (.tmp 16) 0, none⟩,
 ⟨some 20, .ext (.tmp 16) 1, none⟩,
 ⟨some 21, .ext (.tmp 16) 2, none⟩,
 ⟨some 1, .mov (.tmp 19), none⟩])
 (.seq (.region [
 ⟨some 22, .mov (.tmp 1), none⟩,
 ⟨some 23, .call 78 [(.tmp 22), (.const (.string ⟨#[32]⟩))], none⟩,
 ⟨some 7, .mov (.tmp 23), none⟩])
 (.seq (.seq (.region [
 ⟨some 24, .mov (.tmp 7), none⟩,
 ⟨some 25, .sbin .eql (.tmp 24) (.const (.string ⟨#[]⟩)), none⟩])
 (.cond (.tmp 25)
  (.seq (.region [
  ⟨some 6, .mov (.const (.int .i64 0)), none⟩])
  .ret)
  .skip))
 (.seq (.seq (.region [
 ⟨some 27, .mov (.tmp 7), none⟩,
 ⟨some 28, .call 79 [(.tmp 27), (.const (.string ⟨#[58]⟩))], none⟩,
 ⟨some 26, .mov (.tmp 28), none⟩,
 ⟨some 29, .ext (.tmp 26) 0, none⟩,
 ⟨some 30, .ext (.tmp 26) 1, none⟩,
 ⟨some 8, .mov (.tmp 29), none⟩,
 ⟨some 9, .mov (.tmp 30), none⟩])
 (.seq (.region [
 ⟨some 31, .mov (.tmp 9), none⟩,
 ⟨some 32, .mov (.tmp 31), none⟩,
 ⟨some 33, .mov (.tmp 8), some (32, true)⟩,
 ⟨some 34, .call 80 [(.tmp 33)], some (32, true)⟩,
 ⟨some 35, .pick (.tmp 32) (.tmp 34) (.const (.bool false)), none⟩])
 (.cond (.tmp 35)
  (.seq (.seq (.region [
  ⟨some 37, .mov (.tmp 0), none⟩,
  ⟨some 38, .nilc (.tmp 37), none⟩,
  ⟨some 39, .fad 1 (.tmp 38), none⟩,
  ⟨some 40, .ld (.tmp 39), none⟩,
  ⟨some 41, .mov (.tmp 8), none⟩,
  ⟨some 42, .mlk 2 (.int .i64 0) true (.tmp 40) (.tmp 41), none⟩,
  ⟨some 36, .mov (.tmp 42), none⟩,
  ⟨some 43, .ext (.tmp 36) 0, none⟩,
  ⟨some 44, .ext (.tmp 36) 1, none⟩,
  ⟨some 10, .mov (.tmp 43), none⟩,
  ⟨some 11, .mov (.tmp 44), none⟩])
  (.seq (.region [
  ⟨some 45, .mov (.tmp 11), none⟩])
  (.cond (.tmp 45)
   (.seq (.region [
   ⟨some 6, .mov (.const (.int .i64 20)), none⟩])
   .ret)
   .skip)))
  (.seq (.draw (.f ⟨some 46, .mov (.tmp 0), none⟩
  (.f ⟨some 47, .nilc (.tmp 46), none⟩
  (.f ⟨some 48, .fad 1 (.tmp 47), none⟩
  (.f ⟨some 49, .ld (.tmp 48), none⟩
  (.f ⟨some 50, .mov (.tmp 8), none⟩
  (.f ⟨some 51, .mov (.tmp 0), none⟩
  (.f ⟨some 52, .nilc (.tmp 51), none⟩
  (.f ⟨some 53, .fad 0 (.tmp 52), none⟩
  (.f ⟨some 54, .ld (.tmp 53), none⟩
  (.f ⟨some 55, .len (.tmp 54), none⟩
  (.m ⟨none, .mup 2 (.tmp 49) (.tmp 50) (.tmp 55), none⟩
  .done))))))))))))
  (.seq (.region [
  ⟨some 6, .mov (.const (.int .i64 0)), none⟩])
  .ret)))
  .skip)))
 (.seq (.region [
 ⟨some 57, .mov (.tmp 7), none⟩,
 ⟨some 58, .call 81 [(.tmp 57)], none⟩,
 ⟨some 56, .mov (.tmp 58), none⟩,
 ⟨some 59, .ext (.tmp 56) 0, none⟩,
 ⟨some 60, .ext (.tmp 56) 1, none⟩,
 ⟨some 61, .ext (.tmp 56) 2, none⟩,
 ⟨some 12, .new 23 (.agg #[.int .i64 0, .int .i64 0, .int .i64 0, .int .i64 0, .int .i64 0]), none⟩,
 ⟨none, .stN 5 (.tmp 12) (.tmp 59), none⟩,
 ⟨some 13, .mov (.tmp 60), none⟩,
 ⟨some 14, .mov (.tmp 61), none⟩])
 (.seq (.seq (.region [
 ⟨some 62, .mov (.tmp 14), none⟩,
 ⟨some 63, .not (.tmp 62), none⟩])
 (.cond (.tmp 63)
  (.seq (.region [
  ⟨some 15, .mov (.const (.int .i64 0)), none⟩])
  (.seq (.region [
  ⟨some 65, .mov (.tmp 1), none⟩,
  ⟨some 66, .call 48 [(.tmp 65)], none⟩,
  ⟨some 64, .mov (.tmp 66), none⟩,
  ⟨some 67, .ext (.tmp 64) 0, none⟩,
  ⟨some 68, .ext (.tmp 64) 1, none⟩,
  ⟨none, .stN 5 (.tmp 12) (.tmp 67), none⟩,
  ⟨some 15, .mov (.tmp 68), none⟩])
  (.seq (.region [
  ⟨some 69, .mov (.tmp 15), none⟩,
  ⟨some 70, .bin .neq (.tmp 69) (.const (.int .i64 0)), none⟩])
  (.cond (.tmp 70)
   (.seq (.region [
   ⟨some 71, .mov (.tmp 15), none⟩,
   ⟨some 6, .mov (.tmp 71), none⟩])
   .ret)
   .skip))))
  .skip))
 (.seq (.seq (.region [
 ⟨some 72, .mov (.tmp 0), none⟩,
 ⟨some 73, .nilc (.tmp 72), none⟩,
 ⟨some 74, .fad 0 (.tmp 73), none⟩,
 ⟨some 75, .ld (.tmp 74), none⟩,
 ⟨some 76, .len (.tmp 75), none⟩,
 ⟨some 77, .bin .eql (.tmp 76) (.const (.int .i64 64)), none⟩])
 (.cond (.tmp 77)
  (.seq (.region [
  ⟨some 6, .mov (.const (.int .i64 3)), none⟩])
  .ret)
  .skip))
 (.seq (.seq (.region [
 ⟨some 78, .mov (.tmp 14), none⟩])
 (.cond (.tmp 78)
  (.draw (.f ⟨some 79, .mov (.tmp 0), none⟩
  (.f ⟨some 80, .mov (.tmp 0), none⟩
  (.f ⟨some 81, .nilc (.tmp 80), none⟩
  (.f ⟨some 82, .fad 2 (.tmp 81), none⟩
  (.f ⟨some 83, .ld (.tmp 82), none⟩
  (.f ⟨some 84, .mov (.tmp 0), none⟩
  (.f ⟨some 85, .nilc (.tmp 84), none⟩
  (.f ⟨some 86, .fad 0 (.tmp 85), none⟩
  (.f ⟨some 89, .mov (.tmp 2), none⟩
  (.f ⟨some 90, .mov (.tmp 13), none⟩
  (.f ⟨some 87, .ld (.tmp 86), none⟩
  (.f ⟨some 88, .len (.tmp 87), none⟩
  (.f ⟨some 91, .bld [(.int .i64 0), (.int .i64 0), (.string ⟨#[]⟩)] [(0, 1, (.tmp 88)), (1, 1, (.tmp 89)), (2, 1, (.tmp 90))], none⟩
  (.m ⟨some 92, .blds 74 1 [(.int .i64 0), (.int .i64 0), (.string ⟨#[]⟩)] [(0, 3, (.tmp 91))], none⟩
  (.m ⟨some 93, .app 74 3 32 [(.int .i64 0), (.int .i64 0), (.string ⟨#[]⟩)] (.tmp 83) (.tmp 92), none⟩
  (.f ⟨some 94, .nilc (.tmp 79), none⟩
  (.f ⟨some 95, .fad 2 (.tmp 94), none⟩
  (.m ⟨none, .st (.tmp 95) (.tmp 93), none⟩
  .done)))))))))))))))))))
  .skip))
 (.seq (.draw (.f ⟨some 96, .mov (.tmp 0), none⟩
 (.f ⟨some 97, .mov (.tmp 0), none⟩
 (.f ⟨some 98, .nilc (.tmp 97), none⟩
 (.f ⟨some 99, .fad 0 (.tmp 98), none⟩
 (.f ⟨some 100, .ld (.tmp 99), none⟩
 (.f ⟨some 101, .ldN 5 (.tmp 12), none⟩
 (.m ⟨some 102, .blds 23 1 [(.int .i64 0), (.int .i64 0), (.int .i64 0), (.int .i64 0), (.int .i64 0)] [(0, 5, (.tmp 101))], none⟩
 (.m ⟨some 103, .app 23 5 40 [(.int .i64 0), (.int .i64 0), (.int .i64 0), (.int .i64 0), (.int .i64 0)] (.tmp 100) (.tmp 102), none⟩
 (.f ⟨some 104, .nilc (.tmp 96), none⟩
 (.f ⟨some 105, .fad 0 (.tmp 104), none⟩
 (.m ⟨none, .st (.tmp 105) (.tmp 103), none⟩
 .done))))))))))))
 (.seq (.region [
 ⟨some 6, .mov (.const (.int .i64 0)), none⟩])
 .ret))))))))))),
 [.tmp 6]⟩
theorem low_asm_assembler_read : lowFn Tryz.prog movers 50 = some ⟨ir_asm_assembler_read.n, strip ir_asm_assembler_read.body, ir_asm_assembler_read.res⟩ := by kernel_rfl
/-- strongtx/asm.targets -/
def ir_asm_targets : IFn := ⟨42,
 (.seq (.region [
 ⟨some 2, .mov (.const (.slice none 0 0)), none⟩])
 (.seq (.region [
 ⟨some 3, .mov (.const (.slice none 0 0)), none⟩])
 (.seq (.seq (.region [
 ⟨some 8, .mov (.tmp 0), none⟩,
 ⟨some 9, .len (.tmp 8), none⟩,
 ⟨some 10, .mov (.const (.int .i64 0)), none⟩])
 (.block 0
  (.loop 274877906168
   (.seq (.region [
   ⟨some 11, .bin .lss (.tmp 10) (.tmp 9), none⟩])
   (.seq (.cond (.tmp 11)
    .skip
    (.exit 0))
   (.seq (.block 1
    (.seq (.region [
    ⟨some 12, .mov (.tmp 10), none⟩,
    ⟨some 13, .ixs 5 (.tmp 8) (.tmp 10), none⟩,
    ⟨some 14, .ldN 5 (.tmp 13), none⟩,
    ⟨some 5, .new 23 (.agg #[.int .i64 0, .int .i64 0, .int .i64 0, .int .i64 0, .int .i64 0]), none⟩,
    ⟨some 4, .mov (.tmp 12), none⟩,
    ⟨none, .stN 5 (.tmp 5) (.tmp 14), none⟩])
    (.seq (.region [
    ⟨some 16, .ldN 5 (.tmp 5), none⟩,
    ⟨some 17, .call 59 [(.tmp 16)], none⟩,
    ⟨some 15, .mov (.tmp 17), none⟩,
    ⟨some 18, .ext (.tmp 15) 0, none⟩,
    ⟨some 19, .ext (.tmp 15) 1, none⟩,
    ⟨some 6, .mov (.tmp 18), none⟩,
    ⟨some 7, .mov (.tmp 19), none⟩])
    (.seq (.region [
    ⟨some 20, .mov (.tmp 7), none⟩,
    ⟨some 21, .mov (.tmp 20), none⟩,
    ⟨some 22, .mov (.tmp 4), some (21, true)⟩,
    ⟨some 23, .bin .add (.tmp 22) (.const (.int .i64 1)), some (21, true)⟩,
    ⟨some 24, .mov (.tmp 6), some (21, true)⟩,
    ⟨some 25, .bin .add (.tmp 23) (.tmp 24), some (21, true)⟩,
    ⟨some 26, .mov (.tmp 0), some (21, true)⟩,
    ⟨some 27, .len (.tmp 26), some (21, true)⟩,
    ⟨some 28, .bin .leq (.tmp 25) (.tmp 27), some (21, true)⟩,
    ⟨some 29, .pick (.tmp 21) (.tmp 28) (.const (.bool false)), none⟩])
    (.cond (.tmp 29)
     (.region [
     ⟨some 30, .mov (.tmp 3), none⟩,
     ⟨some 31, .mov (.tmp 4), none⟩,
     ⟨some 32, .bin .add (.tmp 31) (.const (.int .i64 1)), none⟩,
     ⟨some 33, .mov (.tmp 6), none⟩,
     ⟨some 34, .bin .add (.tmp 32) (.tmp 33), none⟩,
     ⟨some 35, .blds 3 1 [(.int .i64 0)] [(0, 1, (.tmp 34))], none⟩,
     ⟨some 36, .app 3 1 8 [(.int .i64 0)] (.tmp 30) (.tmp 35), none⟩,
     ⟨some 3, .mov (.tmp 36), none⟩])
     .skip)))))
   (.region [
   ⟨some 37, .bin .add (.tmp 10) (.const (.int .i64 1)), none⟩,
   ⟨some 10, .mov (.tmp 37), none⟩])))))))
 (.seq (.region [
 ⟨some 38, .mov (.tmp 3), none⟩,
 ⟨some 39, .call 45 [(.tmp 38)], none⟩])
 (.seq (.region [
 ⟨some 40, .mov (.tmp 3), none⟩,
 ⟨some 41, .call 46 [(.tmp 40)], none⟩,
 ⟨some 2, .mov (.tmp 41), none⟩])
 .ret))))),
 [.tmp 2]⟩
theorem low_asm_targets : lowFn Tryz.prog movers 57 = some ⟨ir_asm_targets.n, strip ir_asm_targets.body, ir_asm_targets.res⟩ := by kernel_rfl
/-- strongtx/asm.isName -/
def ir_asm_isName : IFn := ⟨40,
 (.seq (.region [
 ⟨some 2, .mov (.const (.bool false)), none⟩])
 (.seq (.seq (.region [
 ⟨some 5, .mov (.tmp 0), none⟩,
 ⟨some 6, .lens (.tmp 5), none⟩,
 ⟨some 7, .bin .lss (.tmp 6) (.const (.int .i64 1)), none⟩,
 ⟨some 8, .mov (.tmp 7), none⟩,
 ⟨some 9, .mov (.tmp 0), some (8, false)⟩,
 ⟨some 10, .lens (.tmp 9), some (8, false)⟩,
 ⟨some 11, .bin .gtr (.tmp 10) (.const (.int .i64 20)), some (8, false)⟩,
 ⟨some 12, .pick (.tmp 8) (.const (.bool true)) (.tmp 11), none⟩,
 ⟨some 13, .mov (.tmp 12), none⟩,
 ⟨some 14, .mov (.tmp 0), some (13, false)⟩,
 ⟨some 15, .sidx (.tmp 14) (.const (.int .i64 0)), some (13, false)⟩,
 ⟨some 16, .call 120 [(.tmp 15)], some (13, false)⟩,
 ⟨some 17, .not (.tmp 16), some (13, false)⟩,
 ⟨some 18, .pick (.tmp 13) (.const (.bool true)) (.tmp 17), none⟩])
 (.cond (.tmp 18)
  (.seq (.region [
  ⟨some 2, .mov (.const (.bool false)), none⟩])
  .ret)
  .skip))
 (.seq (.seq (.region [
 ⟨some 19, .mov (.tmp 0), none⟩,
 ⟨some 20, .lens (.tmp 19), none⟩,
 ⟨some 21, .mov (.const (.int .i64 0)), none⟩])
 (.block 0
  (.loop 1099509530652
   (.seq (.region [
   ⟨some 22, .bin .lss (.tmp 21) (.tmp 20), none⟩])
   (.seq (.cond (.tmp 22)
    .skip
    (.exit 0))
   (.seq (.block 1
    (.seq (.region [
    ⟨some 23, .mov (.tmp 21), none⟩,
    ⟨some 3, .mov (.tmp 23), none⟩])
    (.seq (.region [
    ⟨some 24, .mov (.tmp 0), none⟩,
    ⟨some 25, .mov (.tmp 3), none⟩,
    ⟨some 26, .sidx (.tmp 24) (.tmp 25), none⟩,
    ⟨some 4, .mov (.tmp 26), none⟩])
    (.seq (.region [
    ⟨some 27, .mov (.tmp 4), none⟩,
    ⟨some 28, .call 120 [(.tmp 27)], none⟩,
    ⟨some 29, .not (.tmp 28), none⟩,
    ⟨some 30, .mov (.tmp 29), none⟩,
    ⟨some 31, .mov (.tmp 4), some (30, true)⟩,
    ⟨some 32, .call 121 [(.tmp 31)], some (30, true)⟩,
    ⟨some 33, .not (.tmp 32), some (30, true)⟩,
    ⟨some 34, .pick (.tmp 30) (.tmp 33) (.const (.bool false)), none⟩,
    ⟨some 35, .mov (.tmp 34), none⟩,
    ⟨some 36, .mov (.tmp 4), some (35, true)⟩,
    ⟨some 37, .bin .neq (.tmp 36) (.const (.int .u8 95)), some (35, true)⟩,
    ⟨some 38, .pick (.tmp 35) (.tmp 37) (.const (.bool false)), none⟩])
    (.cond (.tmp 38)
     (.seq (.region [
     ⟨some 2, .mov (.const (.bool false)), none⟩])
     .ret)
     .skip)))))
   (.region [
   ⟨some 39, .bin .add (.tmp 21) (.const (.int .i64 1)), none⟩,
   ⟨some 21, .mov (.tmp 39), none⟩])))))))
 (.seq (.region [
 ⟨some 2, .mov (.const (.bool true)), none⟩])
 .ret)))),
 [.tmp 2]⟩
theorem low_asm_isName : lowFn Tryz.prog movers 80 = some ⟨ir_asm_isName.n, strip ir_asm_isName.body, ir_asm_isName.res⟩ := by kernel_rfl
/-- strongtx/asm.toLabel -/
def ir_asm_toLabel : IFn := ⟨70,
 (.seq (.region [
 ⟨some 2, .new 23 (.agg #[.int .i64 0, .int .i64 0, .int .i64 0, .int .i64 0, .int .i64 0]), none⟩,
 ⟨some 3, .mov (.const (.string ⟨#[]⟩)), none⟩,
 ⟨some 4, .mov (.const (.bool false)), none⟩])
 (.seq (.region [
 ⟨some 8, .mov (.tmp 0), none⟩,
 ⟨some 9, .call 105 [(.tmp 8), (.func 122)], none⟩,
 ⟨some 5, .mov (.tmp 9), none⟩])
 (.seq (.block 0
  (.seq (.region [
  ⟨some 12, .mov (.tmp 5), none⟩,
  ⟨some 13, .len (.tmp 12), none⟩,
  ⟨some 14, .bin .eql (.tmp 13) (.const (.int .i64 2)), none⟩,
  ⟨some 15, .mov (.tmp 14), none⟩,
  ⟨some 16, .mov (.tmp 5), some (15, true)⟩,
  ⟨some 17, .ixs 1 (.tmp 16) (.const (.int .i64 0)), some (15, true)⟩,
  ⟨some 18, .ld (.tmp 17), some (15, true)⟩,
  ⟨some 19, .sbin .eql (.tmp 18) (.const (.string ⟨#[106, 117, 109, 112]⟩)), some (15, true)⟩,
  ⟨some 20, .pick (.tmp 15) (.tmp 19) (.const (.bool false)), none⟩,
  ⟨some 11, .mov (.tmp 20), none⟩])
  (.cond (.tmp 11)
   .skip
   (.seq (.region [
   ⟨some 22, .mov (.tmp 5), none⟩,
   ⟨some 23, .len (.tmp 22), none⟩,
   ⟨some 24, .bin .eql (.tmp 23) (.const (.int .i64 3)), none⟩,
   ⟨some 25, .mov (.tmp 24), none⟩,
   ⟨some 26, .mov (.tmp 5), some (25, true)⟩,
   ⟨some 27, .ixs 1 (.tmp 26) (.const (.int .i64 0)), some (25, true)⟩,
   ⟨some 28, .ld (.tmp 27), some (25, true)⟩,
   ⟨some 29, .sbin .eql (.tmp 28) (.const (.string ⟨#[122, 101, 114, 111]⟩)), some (25, true)⟩,
   ⟨some 30, .mov (.tmp 29), some (25, true)⟩,
   ⟨some 31, .mov (.tmp 5), some (30, false)⟩,
   ⟨some 32, .ixs 1 (.tmp 31) (.const (.int .i64 0)), some (30, false)⟩,
   ⟨some 33, .ld (.tmp 32), some (30, false)⟩,
   ⟨some 34, .sbin .eql (.tmp 33) (.const (.string ⟨#[110, 111, 110, 122, 101, 114, 111]⟩)), some (30, false)⟩,
   ⟨some 35, .pick (.tmp 30) (.const (.bool true)) (.tmp 34), some (25, true)⟩,
   ⟨some 36, .pick (.tmp 25) (.tmp 35) (.const (.bool false)), none⟩,
   ⟨some 37, .mov (.tmp 36), none⟩,
   ⟨some 38, .mov (.tmp 5), some (37, true)⟩,
   ⟨some 39, .ixs 1 (.tmp 38) (.const (.int .i64 1)), some (37, true)⟩,
   ⟨some 40, .ld (.tmp 39), some (37, true)⟩,
   ⟨some 41, .call 123 [(.tmp 40)], some (37, true)⟩,
   ⟨some 42, .pick (.tmp 37) (.tmp 41) (.const (.bool false)), none⟩,
   ⟨some 21, .mov (.tmp 42), none⟩])
   (.cond (.tmp 21)
    .skip
    (.seq (.region [
    ⟨some 10, .ldN 5 (.tmp 2), none⟩,
    ⟨none, .stN 5 (.tmp 2) (.tmp 10), none⟩,
    ⟨some 3, .mov (.const (.string ⟨#[]⟩)), none⟩,
    ⟨some 4, .mov (.const (.bool false)), none⟩])
    .ret))))))
 (.seq (.region [
 ⟨some 43, .mov (.tmp 5), none⟩,
 ⟨some 44, .len (.tmp 43), none⟩,
 ⟨some 45, .bin .sub (.tmp 44) (.const (.int .i64 1)), none⟩,
 ⟨some 6, .mov (.tmp 45), none⟩])
 (.seq (.seq (.region [
 ⟨some 46, .mov (.tmp 5), none⟩,
 ⟨some 47, .mov (.tmp 6), none⟩,
 ⟨some 48, .ixs 1 (.tmp 46) (.tmp 47), none⟩,
 ⟨some 49, .ld (.tmp 48), none⟩,
 ⟨some 50, .call 80 [(.tmp 49)], none⟩,
 ⟨some 51, .not (.tmp 50), none⟩])
 (.cond (.tmp 51)
  (.seq (.region [
  ⟨some 52, .ldN 5 (.tmp 2), none⟩,
  ⟨none, .stN 5 (.tmp 2) (.tmp 52), none⟩,
  ⟨some 3, .mov (.const (.string ⟨#[]⟩)), none⟩,
  ⟨some 4, .mov (.const (.bool false)), none⟩])
  .ret)
  .skip))
 (.seq (.region [
 ⟨some 53, .mov (.tmp 5), none⟩,
 ⟨some 54, .mov (.tmp 6), none⟩,
 ⟨some 55, .ixs 1 (.tmp 53) (.tmp 54), none⟩,
 ⟨some 56, .ld (.tmp 55), none⟩,
 ⟨some 3, .mov (.tmp 56), none⟩])
 (.seq (.region [
 ⟨some 57, .mov (.tmp 5), none⟩,
 ⟨some 58, .mov (.tmp 6), none⟩,
 ⟨some 59, .ixs 1 (.tmp 57) (.tmp 58), none⟩,
 ⟨none, .st (.tmp 59) (.const (.string ⟨#[48]⟩)), none⟩])
 (.seq (.region [
 ⟨some 61, .mov (.tmp 5), none⟩,
 ⟨some 62, .call 37 [(.tmp 61), (.const (.string ⟨#[32]⟩))], none⟩,
 ⟨some 63, .call 48 [(.tmp 62)], none⟩,
 ⟨some 60, .mov (.tmp 63), none⟩,
 ⟨some 64, .ext (.tmp 60) 0, none⟩,
 ⟨some 65, .ext (.tmp 60) 1, none⟩,
 ⟨none, .stN 5 (.tmp 2) (.tmp 64), none⟩,
 ⟨some 7, .mov (.tmp 65), none⟩])
 (.seq (.region [
 ⟨some 66, .ldN 5 (.tmp 2), none⟩,
 ⟨some 67, .mov (.tmp 3), none⟩,
 ⟨some 68, .mov (.tmp 7), none⟩,
 ⟨some 69, .bin .eql (.tmp 68) (.const (.int .i64 0)), none⟩,
 ⟨none, .stN 5 (.tmp 2) (.tmp 66), none⟩,
 ⟨some 3, .mov (.tmp 67), none⟩,
 ⟨some 4, .mov (.tmp 69), none⟩])
 .ret))))))))),
 [.cellN 2 5, .tmp 3, .tmp 4]⟩
theorem low_asm_toLabel : lowFn Tryz.prog movers 81 = some ⟨ir_asm_toLabel.n, strip ir_asm_toLabel.body, ir_asm_toLabel.res⟩ := by kernel_rfl
/-- strongtx/asm.letter -/
def ir_asm_letter : IFn := ⟨9,
 (.seq (.region [
 ⟨some 2, .mov (.const (.bool false)), none⟩])
 (.seq (.region [
 ⟨some 3, .mov (.tmp 0), none⟩,
 ⟨some 4, .bin .geq (.tmp 3) (.const (.int .u8 97)), none⟩,
 ⟨some 5, .mov (.tmp 4), none⟩,
 ⟨some 6, .mov (.tmp 0), some (5, true)⟩,
 ⟨some 7, .bin .leq (.tmp 6) (.const (.int .u8 122)), some (5, true)⟩,
 ⟨some 8, .pick (.tmp 5) (.tmp 7) (.const (.bool false)), none⟩,
 ⟨some 2, .mov (.tmp 8), none⟩])
 .ret)),
 [.tmp 2]⟩
theorem low_asm_letter : lowFn Tryz.prog movers 120 = some ⟨ir_asm_letter.n, strip ir_asm_letter.body, ir_asm_letter.res⟩ := by kernel_rfl
/-- strongtx/asm.digit -/
def ir_asm_digit : IFn := ⟨9,
 (.seq (.region [
 ⟨some 2, .mov (.const (.bool false)), none⟩])
 (.seq (.region [
 ⟨some 3, .mov (.tmp 0), none⟩,
 ⟨some 4, .bin .geq (.tmp 3) (.const (.int .u8 48)), none⟩,
 ⟨some 5, .mov (.tmp 4), none⟩,
 ⟨some 6, .mov (.tmp 0), some (5, true)⟩,
 ⟨some 7, .bin .leq (.tmp 6) (.const (.int .u8 57)), some (5, true)⟩,
 ⟨some 8, .pick (.tmp 5) (.tmp 7) (.const (.bool false)), none⟩,
 ⟨some 2, .mov (.tmp 8), none⟩])
 .ret)),
 [.tmp 2]⟩
theorem low_asm_digit : lowFn Tryz.prog movers 121 = some ⟨ir_asm_digit.n, strip ir_asm_digit.body, ir_asm_digit.res⟩ := by kernel_rfl
/-- strongtx/asm.isRegister -/
def ir_asm_isRegister : IFn := ⟨21,
 (.seq (.region [
 ⟨some 2, .mov (.const (.bool false)), none⟩])
 (.seq (.region [
 ⟨some 3, .mov (.tmp 0), none⟩,
 ⟨some 4, .lens (.tmp 3), none⟩,
 ⟨some 5, .bin .eql (.tmp 4) (.const (.int .i64 2)), none⟩,
 ⟨some 6, .mov (.tmp 5), none⟩,
 ⟨some 7, .mov (.tmp 0), some (6, true)⟩,
 ⟨some 8, .sidx (.tmp 7) (.const (.int .i64 0)), some (6, true)⟩,
 ⟨some 9, .bin .eql (.tmp 8) (.const (.int .u8 114)), some (6, true)⟩,
 ⟨some 10, .pick (.tmp 6) (.tmp 9) (.const (.bool false)), none⟩,
 ⟨some 11, .mov (.tmp 10), none⟩,
 ⟨some 12, .mov (.tmp 0), some (11, true)⟩,
 ⟨some 13, .sidx (.tmp 12) (.const (.int .i64 1)), some (11, true)⟩,
 ⟨some 14, .bin .geq (.tmp 13) (.const (.int .u8 48)), some (11, true)⟩,
 ⟨some 15, .pick (.tmp 11) (.tmp 14) (.const (.bool false)), none⟩,
 ⟨some 16, .mov (.tmp 15), none⟩,
 ⟨some 17, .mov (.tmp 0), some (16, true)⟩,
 ⟨some 18, .sidx (.tmp 17) (.const (.int .i64 1)), some (16, true)⟩,
 ⟨some 19, .bin .lss (.tmp 18) (.const (.int .u8 56)), some (16, true)⟩,
 ⟨some 20, .pick (.tmp 16) (.tmp 19) (.const (.bool false)), none⟩,
 ⟨some 2, .mov (.tmp 20), none⟩])
 .ret)),
 [.tmp 2]⟩
theorem low_asm_isRegister : lowFn Tryz.prog movers 123 = some ⟨ir_asm_isRegister.n, strip ir_asm_isRegister.body, ir_asm_isRegister.res⟩ := by kernel_rfl
end Go.Proofs.YtiimndcifcoofaaGreatDoor
namespace Go.Proofs.YtiimndcifcoofaaGreatDoor
open Go
set_option maxRecDepth 100000
/-- strongtx/strongtxref04.Assemble -/
def ir_ref04_Assemble : IFn := ⟨170,
 (.seq (.region [
 ⟨some 2, .mov (.const (.slice none 0 0)), none⟩,
 ⟨some 3, .mov (.const (.int .i64 0)), none⟩,
 ⟨some 4, .mov (.const (.int .i64 0)), none⟩])
 (.seq (.seq (.region [
 ⟨some 22, .mov (.tmp 0), none⟩,
 ⟨some 23, .lens (.tmp 22), none⟩,
 ⟨some 24, .bin .gtr (.tmp 23) (.const (.int .i64 65536)), none⟩])
 (.cond (.tmp 24)
  (.seq (.region [
  ⟨some 2, .mov (.const (.slice none 0 0)), none⟩,
  ⟨some 3, .mov (.const (.int .i64 0)), none⟩,
  ⟨some 4, .mov (.const (.int .i64 3)), none⟩])
  .ret)
  .skip))
 (.seq (.region [
 ⟨some 5, .mov (.const (.slice none 0 0)), none⟩])
 (.seq (.region [
 ⟨some 6, .mov (.const (.slice none 0 0)), none⟩,
 ⟨some 7, .mov (.const (.slice none 0 0)), none⟩])
 (.seq (.region [
 ⟨some 8, .mov (.const (.slice none 0 0)), none⟩,
 ⟨some 9, .mov (.const (.slice none 0 0)), none⟩])
 (.seq (.region [
 ⟨some 25, .mov (.tmp 0), none⟩,
 ⟨some 26, .call 32 [(.tmp 25)], none⟩,
 ⟨some 10, .mov (.tmp 26), none⟩])
 (.seq (.seq (.region [
 ⟨some 11, .mov (.const (.int .i64 0)), none⟩])
 (.block 0
  (.loop 170141183460469231731687303715750935548
   (.seq (.seq (.region [
   ⟨some 27, .mov (.tmp 11), none⟩,
   ⟨some 28, .mov (.tmp 10), none⟩,
   ⟨some 29, .len (.tmp 28), none⟩,
   ⟨some 30, .bin .lss (.tmp 27) (.tmp 29), none⟩])
   (.cond (.tmp 30)
    .skip
    (.exit 0)))
   (.seq (.block 1
    (.seq (.region [
    ⟨some 33, .mov (.tmp 10), none⟩,
    ⟨some 34, .mov (.tmp 11), none⟩,
    ⟨some 35, .ixs 1 (.tmp 33) (.tmp 34), none⟩,
    ⟨some 36, .ld (.tmp 35), none⟩,
    ⟨some 37, .call 51 [(.tmp 36)], none⟩,
    ⟨some 12, .mov (.tmp 37), none⟩])
    (.seq (.region [
    ⟨some 38, .mov (.tmp 12), none⟩,
    ⟨some 39, .call 52 [(.tmp 38)], none⟩,
    ⟨some 13, .mov (.tmp 39), none⟩])
    (.seq (.seq (.region [
    ⟨some 40, .mov (.tmp 13), none⟩,
    ⟨some 41, .len (.tmp 40), none⟩,
    ⟨some 42, .bin .eql (.tmp 41) (.const (.int .i64 0)), none⟩])
    (.cond (.tmp 42)
     (.exit 1)
     .skip))
    (.seq (.seq (.region [
    ⟨some 43, .mov (.tmp 13), none⟩,
    ⟨some 44, .ixs 1 (.tmp 43) (.const (.int .i64 0)), none⟩,
    ⟨some 45, .ld (.tmp 44), none⟩,
    ⟨some 46, .lens (.tmp 45), none⟩,
    ⟨some 47, .bin .sub (.tmp 46) (.const (.int .i64 1)), none⟩,
    ⟨some 14, .mov (.tmp 47), none⟩])
    (.seq (.region [
    ⟨some 48, .mov (.tmp 13), none⟩,
    ⟨some 49, .len (.tmp 48), none⟩,
    ⟨some 50, .bin .eql (.tmp 49) (.const (.int .i64 1)), none⟩,
    ⟨some 51, .mov (.tmp 50), none⟩,
    ⟨some 52, .mov (.tmp 13), some (51, true)⟩,
    ⟨some 53, .ixs 1 (.tmp 52) (.const (.int .i64 0)), some (51, true)⟩,
    ⟨some 54, .ld (.tmp 53), some (51, true)⟩,
    ⟨some 55, .mov (.tmp 14), some (51, true)⟩,
    ⟨some 56, .sidx (.tmp 54) (.tmp 55), some (51, true)⟩,
    ⟨some 57, .bin .eql (.tmp 56) (.const (.int .u8 58)), some (51, true)⟩,
    ⟨some 58, .pick (.tmp 51) (.tmp 57) (.const (.bool false)), none⟩,
    ⟨some 59, .mov (.tmp 58), none⟩,
    ⟨some 60, .mov (.tmp 13), some (59, true)⟩,
    ⟨some 61, .ixs 1 (.tmp 60) (.const (.int .i64 0)), some (59, true)⟩,
    ⟨some 62, .ld (.tmp 61), some (59, true)⟩,
    ⟨some 63, .mov (.tmp 14), some (59, true)⟩,
    ⟨some 64, .sslc (.tmp 62) none (some (.tmp 63)), some (59, true)⟩,
    ⟨some 65, .call 53 [(.tmp 64)], some (59, true)⟩,
    ⟨some 66, .pick (.tmp 59) (.tmp 65) (.const (.bool false)), none⟩])
    (.cond (.tmp 66)
     (.seq (.seq (.region [
     ⟨some 67, .mov (.tmp 6), none⟩,
     ⟨some 68, .mov (.tmp 13), none⟩,
     ⟨some 69, .ixs 1 (.tmp 68) (.const (.int .i64 0)), none⟩,
     ⟨some 70, .ld (.tmp 69), none⟩,
     ⟨some 71, .mov (.tmp 14), none⟩,
     ⟨some 72, .sslc (.tmp 70) none (some (.tmp 71)), none⟩,
     ⟨some 73, .call 54 [(.tmp 67), (.tmp 72)], none⟩,
     ⟨some 74, .bin .geq (.tmp 73) (.const (.int .i64 0)), none⟩])
     (.cond (.tmp 74)
      (.seq (.region [
      ⟨some 75, .mov (.tmp 11), none⟩,
      ⟨some 76, .bin .add (.tmp 75) (.const (.int .i64 1)), none⟩,
      ⟨some 2, .mov (.const (.slice none 0 0)), none⟩,
      ⟨some 3, .mov (.tmp 76), none⟩,
      ⟨some 4, .mov (.const (.int .i64 20)), none⟩])
      .ret)
      .skip))
     (.seq (.region [
     ⟨some 77, .mov (.tmp 6), none⟩,
     ⟨some 78, .mov (.tmp 13), none⟩,
     ⟨some 79, .ixs 1 (.tmp 78) (.const (.int .i64 0)), none⟩,
     ⟨some 80, .ld (.tmp 79), none⟩,
     ⟨some 81, .mov (.tmp 14), none⟩,
     ⟨some 82, .sslc (.tmp 80) none (some (.tmp 81)), none⟩,
     ⟨some 83, .blds 9 1 [(.string ⟨#[]⟩)] [(0, 1, (.tmp 82))], none⟩,
     ⟨some 84, .app 9 1 16 [(.string ⟨#[]⟩)] (.tmp 77) (.tmp 83), none⟩,
     ⟨some 6, .mov (.tmp 84), none⟩])
     (.seq (.region [
     ⟨some 85, .mov (.tmp 8), none⟩,
     ⟨some 86, .mov (.tmp 5), none⟩,
     ⟨some 87, .len (.tmp 86), none⟩,
     ⟨some 88, .blds 3 1 [(.int .i64 0)] [(0, 1, (.tmp 87))], none⟩,
     ⟨some 89, .app 3 1 8 [(.int .i64 0)] (.tmp 85) (.tmp 88), none⟩,
     ⟨some 8, .mov (.tmp 89), none⟩])
     (.exit 1))))
     .skip)))
    (.seq (.region [
    ⟨some 91, .mov (.tmp 13), none⟩,
    ⟨some 92, .call 55 [(.tmp 91)], none⟩,
    ⟨some 90, .mov (.tmp 92), none⟩,
    ⟨some 93, .ext (.tmp 90) 0, none⟩,
    ⟨some 94, .ext (.tmp 90) 1, none⟩,
    ⟨some 95, .ext (.tmp 90) 2, none⟩,
    ⟨some 15, .new 23 (.agg #[.int .i64 0, .int .i64 0, .int .i64 0, .int .i64 0, .int .i64 0]), none⟩,
    ⟨none, .stN 5 (.tmp 15) (.tmp 93), none⟩,
    ⟨some 16, .mov (.tmp 94), none⟩,
    ⟨some 17, .mov (.tmp 95), none⟩])
    (.seq (.seq (.region [
    ⟨some 96, .mov (.tmp 17), none⟩,
    ⟨some 97, .not (.tmp 96), none⟩])
    (.cond (.tmp 97)
     (.seq (.region [
     ⟨some 99, .mov (.tmp 12), none⟩,
     ⟨some 100, .call 56 [(.tmp 99)], none⟩,
     ⟨some 98, .mov (.tmp 100), none⟩,
     ⟨some 101, .ext (.tmp 98) 0, none⟩,
     ⟨some 102, .ext (.tmp 98) 1, none⟩,
     ⟨some 18, .new 23 (.agg #[.int .i64 0, .int .i64 0, .int .i64 0, .int .i64 0, .int .i64 0]), none⟩,
     ⟨none, .stN 5 (.tmp 18) (.tmp 101), none⟩,
     ⟨some 19, .mov (.tmp 102), none⟩])
     (.seq (.seq (.region [
     ⟨some 103, .mov (.tmp 19), none⟩,
     ⟨some 104, .bin .neq (.tmp 103) (.const (.int .i64 0)), none⟩])
     (.cond (.tmp 104)
      (.seq (.region [
      ⟨some 105, .mov (.tmp 11), none⟩,
      ⟨some 106, .bin .add (.tmp 105) (.const (.int .i64 1)), none⟩,
      ⟨some 107, .mov (.tmp 19), none⟩,
      ⟨some 2, .mov (.const (.slice none 0 0)), none⟩,
      ⟨some 3, .mov (.tmp 106), none⟩,
      ⟨some 4, .mov (.tmp 107), none⟩])
      .ret)
      .skip))
     (.region [
     ⟨some 108, .ldN 5 (.tmp 18), none⟩,
     ⟨none, .stN 5 (.tmp 15) (.tmp 108), none⟩,
     ⟨some 16, .mov (.const (.string ⟨#[]⟩)), none⟩])))
     .skip))
    (.seq (.seq (.region [
    ⟨some 109, .mov (.tmp 5), none⟩,
    ⟨some 110, .len (.tmp 109), none⟩,
    ⟨some 111, .bin .eql (.tmp 110) (.const (.int .i64 64)), none⟩])
    (.cond (.tmp 111)
     (.seq (.region [
     ⟨some 112, .mov (.tmp 11), none⟩,
     ⟨some 113, .bin .add (.tmp 112) (.const (.int .i64 1)), none⟩,
     ⟨some 2, .mov (.const (.slice none 0 0)), none⟩,
     ⟨some 3, .mov (.tmp 113), none⟩,
     ⟨some 4, .mov (.const (.int .i64 3)), none⟩])
     .ret)
     .skip))
    (.seq (.region [
    ⟨some 114, .mov (.tmp 5), none⟩,
    ⟨some 115, .ldN 5 (.tmp 15), none⟩,
    ⟨some 116, .blds 23 1 [(.int .i64 0), (.int .i64 0), (.int .i64 0), (.int .i64 0), (.int .i64 0)] [(0, 5, (.tmp 115))], none⟩,
    ⟨some 117, .app 23 5 40 [(.int .i64 0), (.int .i64 0), (.int .i64 0), (.int .i64 0), (.int .i64 0)] (.tmp 114) (.tmp 116), none⟩,
    ⟨some 5, .mov (.tmp 117), none⟩])
    (.seq (.region [
    ⟨some 118, .mov (.tmp 7), none⟩,
    ⟨some 119, .mov (.tmp 16), none⟩,
    ⟨some 120, .blds 9 1 [(.string ⟨#[]⟩)] [(0, 1, (.tmp 119))], none⟩,
    ⟨some 121, .app 9 1 16 [(.string ⟨#[]⟩)] (.tmp 118) (.tmp 120), none⟩,
    ⟨some 7, .mov (.tmp 121), none⟩])
    (.region [
    ⟨some 122, .mov (.tmp 9), none⟩,
    ⟨some 123, .mov (.tmp 11), none⟩,
    ⟨some 124, .bin .add (.tmp 123) (.const (.int .i64 1)), none⟩,
    ⟨some 125, .blds 3 1 [(.int .i64 0)] [(0, 1, (.tmp 124))], none⟩,
    ⟨some 126, .app 3 1 8 [(.int .i64 0)] (.tmp 122) (.tmp 125), none⟩,
    ⟨some 9, .mov (.tmp 126), none⟩])))))))))))
   (.region [
   ⟨some 31, .mov (.tmp 11), none⟩,
   ⟨some 32, .bin .add (.tmp 31) (.const (.int .i64 1)), none⟩,
   ⟨some 11, .mov (.tmp 32), none⟩]))))))
 (.seq (.seq (.region [
 ⟨some 20, .mov (.const (.int .i64 0)), none⟩])
 (.block 2
  (.loop 748288838313252152936826165119005218760121581043740
   (.seq (.seq (.region [
   ⟨some 127, .mov (.tmp 20), none⟩,
   ⟨some 128, .mov (.tmp 5), none⟩,
   ⟨some 129, .len (.tmp 128), none⟩,
   ⟨some 130, .bin .lss (.tmp 127) (.tmp 129), none⟩])
   (.cond (.tmp 130)
    .skip
    (.exit 2)))
   (.seq (.block 3
    (.seq (.seq (.region [
    ⟨some 133, .mov (.tmp 7), none⟩,
    ⟨some 134, .mov (.tmp 20), none⟩,
    ⟨some 135, .ixs 1 (.tmp 133) (.tmp 134), none⟩,
    ⟨some 136, .ld (.tmp 135), none⟩,
    ⟨some 137, .sbin .eql (.tmp 136) (.const (.string ⟨#[]⟩)), none⟩])
    (.cond (.tmp 137)
     (.exit 3)
     .skip))
    (.seq (.region [
    ⟨some 138, .mov (.tmp 6), none⟩,
    ⟨some 139, .mov (.tmp 7), none⟩,
    ⟨some 140, .mov (.tmp 20), none⟩,
    ⟨some 141, .ixs 1 (.tmp 139) (.tmp 140), none⟩,
    ⟨some 142, .ld (.tmp 141), none⟩,
    ⟨some 143, .call 54 [(.tmp 138), (.tmp 142)], none⟩,
    ⟨some 21, .mov (.tmp 143), none⟩])
    (.seq (.seq (.region [
    ⟨some 144, .mov (.tmp 21), none⟩,
    ⟨some 145, .bin .lss (.tmp 144) (.const (.int .i64 0)), none⟩,
    ⟨some 146, .mov (.tmp 145), none⟩,
    ⟨some 147, .mov (.tmp 8), some (146, false)⟩,
    ⟨some 148, .mov (.tmp 21), some (146, false)⟩,
    ⟨some 149, .ixs 1 (.tmp 147) (.tmp 148), some (146, false)⟩,
    ⟨some 150, .ld (.tmp 149), some (146, false)⟩,
    ⟨some 151, .mov (.tmp 20), some (146, false)⟩,
    ⟨some 152, .bin .leq (.tmp 150) (.tmp 151), some (146, false)⟩,
    ⟨some 153, .pick (.tmp 146) (.const (.bool true)) (.tmp 152), none⟩])
    (.cond (.tmp 153)
     (.seq (.draw (.f ⟨some 154, .mov (.tmp 9), none⟩
     (.f ⟨some 155, .mov (.tmp 20), none⟩
     (.f ⟨some 156, .ixs 1 (.tmp 154) (.tmp 155), none⟩
     (.f ⟨some 157, .ld (.tmp 156), none⟩
     (.f ⟨some 2, .mov (.const (.slice none 0 0)), none⟩
     (.f ⟨some 3, .mov (.tmp 157), none⟩
     (.f ⟨some 4, .mov (.const (.int .i64 20)), none⟩
     .done))))))))
     .ret)
     .skip))
    (.region [
    ⟨some 158, .mov (.tmp 5), none⟩,
    ⟨some 159, .mov (.tmp 20), none⟩,
    ⟨some 160, .mov (.tmp 8), none⟩,
    ⟨some 161, .mov (.tmp 21), none⟩,
    ⟨some 162, .ixs 1 (.tmp 160) (.tmp 161), none⟩,
    ⟨some 163, .ld (.tmp 162), none⟩,
    ⟨some 164, .mov (.tmp 20), none⟩,
    ⟨some 165, .bin .sub (.tmp 163) (.tmp 164), none⟩,
    ⟨some 166, .bin .sub (.tmp 165) (.const (.int .i64 1)), none⟩,
    ⟨some 167, .ixs 5 (.tmp 158) (.tmp 159), none⟩,
    ⟨some 168, .fad 4 (.tmp 167), none⟩,
    ⟨none, .st (.tmp 168) (.tmp 166), none⟩])))))
   (.region [
   ⟨some 131, .mov (.tmp 20), none⟩,
   ⟨some 132, .bin .add (.tmp 131) (.const (.int .i64 1)), none⟩,
   ⟨some 20, .mov (.tmp 132), none⟩]))))))
 (.seq (.region [
 ⟨some 169, .mov (.tmp 5), none⟩,
 ⟨some 2, .mov (.tmp 169), none⟩,
 ⟨some 3, .mov (.const (.int .i64 0)), none⟩,
 ⟨some 4, .mov (.const (.int .i64 0)), none⟩])
 .ret))))))))),
 [.tmp 2, .tmp 3, .tmp 4]⟩
theorem low_ref04_Assemble : lowFn Tryz.prog movers 25 = some ⟨ir_ref04_Assemble.n, strip ir_ref04_Assemble.body, ir_ref04_Assemble.res⟩ := by kernel_rfl
/-- strongtx/strongtxref04.Lines -/
def ir_ref04_Lines : IFn := ⟨36,
 (.seq (.region [
 ⟨some 2, .mov (.const (.slice none 0 0)), none⟩])
 (.seq (.region [
 ⟨some 3, .mov (.const (.slice none 0 0)), none⟩])
 (.seq (.region [
 ⟨some 4, .mov (.const (.int .i64 0)), none⟩])
 (.seq (.seq (.region [
 ⟨some 5, .mov (.const (.int .i64 0)), none⟩])
 (.block 0
  (.loop 33554424
   (.seq (.seq (.region [
   ⟨some 6, .mov (.tmp 5), none⟩,
   ⟨some 7, .mov (.tmp 0), none⟩,
   ⟨some 8, .lens (.tmp 7), none⟩,
   ⟨some 9, .bin .lss (.tmp 6) (.tmp 8), none⟩])
   (.cond (.tmp 9)
    .skip
    (.exit 0)))
   (.seq (.block 1
    (.seq (.region [
    ⟨some 12, .mov (.tmp 0), none⟩,
    ⟨some 13, .mov (.tmp 5), none⟩,
    ⟨some 14, .sidx (.tmp 12) (.tmp 13), none⟩,
    ⟨some 15, .bin .eql (.tmp 14) (.const (.int .u8 10)), none⟩])
    (.cond (.tmp 15)
     (.seq (.region [
     ⟨some 16, .mov (.tmp 3), none⟩,
     ⟨some 17, .mov (.tmp 0), none⟩,
     ⟨some 18, .mov (.tmp 4), none⟩,
     ⟨some 19, .mov (.tmp 5), none⟩,
     ⟨some 20, .sslc (.tmp 17) (some (.tmp 18)) (some (.tmp 19)), none⟩,
     ⟨some 21, .blds 9 1 [(.string ⟨#[]⟩)] [(0, 1, (.tmp 20))], none⟩,
     ⟨some 22, .app 9 1 16 [(.string ⟨#[]⟩)] (.tmp 16) (.tmp 21), none⟩,
     ⟨some 3, .mov (.tmp 22), none⟩])
     (.region [
     ⟨some 23, .mov (.tmp 5), none⟩,
     ⟨some 24, .bin .add (.tmp 23) (.const (.int .i64 1)), none⟩,
     ⟨some 4, .mov (.tmp 24), none⟩]))
     .skip)))
   (.region [
   ⟨some 10, .mov (.tmp 5), none⟩,
   ⟨some 11, .bin .add (.tmp 10) (.const (.int .i64 1)), none⟩,
   ⟨some 5, .mov (.tmp 11), none⟩]))))))
 (.seq (.seq (.region [
 ⟨some 25, .mov (.tmp 4), none⟩,
 ⟨some 26, .mov (.tmp 0), none⟩,
 ⟨some 27, .lens (.tmp 26), none⟩,
 ⟨some 28, .bin .lss (.tmp 25) (.tmp 27), none⟩])
 (.cond (.tmp 28)
  (.region [
  ⟨some 29, .mov (.tmp 3), none⟩,
  ⟨some 30, .mov (.tmp 0), none⟩,
  ⟨some 31, .mov (.tmp 4), none⟩,
  ⟨some 32, .sslc (.tmp 30) (some (.tmp 31)) none, none⟩,
  ⟨some 33, .blds 9 1 [(.string ⟨#[]⟩)] [(0, 1, (.tmp 32))], none⟩,
  ⟨some 34, .app 9 1 16 [(.string ⟨#[]⟩)] (.tmp 29) (.tmp 33), none⟩,
  ⟨some 3, .mov (.tmp 34), none⟩])
  .skip))
 (.seq (.region [
 ⟨some 35, .mov (.tmp 3), none⟩,
 ⟨some 2, .mov (.tmp 35), none⟩])
 .ret)))))),
 [.tmp 2]⟩
theorem low_ref04_Lines : lowFn Tryz.prog movers 32 = some ⟨ir_ref04_Lines.n, strip ir_ref04_Lines.body, ir_ref04_Lines.res⟩ := by kernel_rfl
/-- strongtx/strongtxref04.bare -/
def ir_ref04_bare : IFn := ⟨18,
 (.seq (.region [
 ⟨some 2, .mov (.const (.string ⟨#[]⟩)), none⟩])
 (.seq (.seq (.region [
 ⟨some 3, .mov (.const (.int .i64 0)), none⟩])
 (.block 0
  (.loop 131068
   (.seq (.seq (.region [
   ⟨some 4, .mov (.tmp 3), none⟩,
   ⟨some 5, .mov (.tmp 0), none⟩,
   ⟨some 6, .lens (.tmp 5), none⟩,
   ⟨some 7, .bin .lss (.tmp 4) (.tmp 6), none⟩])
   (.cond (.tmp 7)
    .skip
    (.exit 0)))
   (.seq (.block 1
    (.seq (.region [
    ⟨some 10, .mov (.tmp 0), none⟩,
    ⟨some 11, .mov (.tmp 3), none⟩,
    ⟨some 12, .sidx (.tmp 10) (.tmp 11), none⟩,
    ⟨some 13, .bin .eql (.tmp 12) (.const (.int .u8 35)), none⟩])
    (.cond (.tmp 13)
     (.seq (.region [
     ⟨some 14, .mov (.tmp 0), none⟩,
     ⟨some 15, .mov (.tmp 3), none⟩,
     ⟨some 16, .sslc (.tmp 14) none (some (.tmp 15)), none⟩,
     ⟨some 2, .mov (.tmp 16), none⟩])
     .ret)
     .skip)))
   (.region [
   ⟨some 8, .mov (.tmp 3), none⟩,
   ⟨some 9, .bin .add (.tmp 8) (.const (.int .i64 1)), none⟩,
   ⟨some 3, .mov (.tmp 9), none⟩]))))))
 (.seq (.region [
 ⟨some 17, .mov (.tmp 0), none⟩,
 ⟨some 2, .mov (.tmp 17), none⟩])
 .ret))),
 [.tmp 2]⟩
theorem low_ref04_bare : lowFn Tryz.prog movers 51 = some ⟨ir_ref04_bare.n, strip ir_ref04_bare.body, ir_ref04_bare.res⟩ := by kernel_rfl
/-- strongtx/strongtxref04.Name -/
def ir_ref04_Name : IFn := ⟨53,
 (.seq (.region [
 ⟨some 2, .mov (.const (.bool false)), none⟩])
 (.seq (.seq (.region [
 ⟨some 5, .mov (.tmp 0), none⟩,
 ⟨some 6, .lens (.tmp 5), none⟩,
 ⟨some 7, .bin .eql (.tmp 6) (.const (.int .i64 0)), none⟩,
 ⟨some 8, .mov (.tmp 7), none⟩,
 ⟨some 9, .mov (.tmp 0), some (8, false)⟩,
 ⟨some 10, .lens (.tmp 9), some (8, false)⟩,
 ⟨some 11, .bin .gtr (.tmp 10) (.const (.int .i64 20)), some (8, false)⟩,
 ⟨some 12, .pick (.tmp 8) (.const (.bool true)) (.tmp 11), none⟩])
 (.cond (.tmp 12)
  (.seq (.region [
  ⟨some 2, .mov (.const (.bool false)), none⟩])
  .ret)
  .skip))
 (.seq (.seq (.region [
 ⟨some 3, .mov (.const (.int .i64 0)), none⟩])
 (.block 0
  (.loop 9007199254732828
   (.seq (.seq (.region [
   ⟨some 13, .mov (.tmp 3), none⟩,
   ⟨some 14, .mov (.tmp 0), none⟩,
   ⟨some 15, .lens (.tmp 14), none⟩,
   ⟨some 16, .bin .lss (.tmp 13) (.tmp 15), none⟩])
   (.cond (.tmp 16)
    .skip
    (.exit 0)))
   (.seq (.block 1
    (.seq (.region [
    ⟨some 19, .mov (.tmp 0), none⟩,
    ⟨some 20, .mov (.tmp 3), none⟩,
    ⟨some 21, .sidx (.tmp 19) (.tmp 20), none⟩,
    ⟨some 22, .bin .geq (.tmp 21) (.const (.int .u8 97)), none⟩,
    ⟨some 23, .mov (.tmp 22), none⟩,
    ⟨some 24, .mov (.tmp 0), some (23, true)⟩,
    ⟨some 25, .mov (.tmp 3), some (23, true)⟩,
    ⟨some 26, .sidx (.tmp 24) (.tmp 25), some (23, true)⟩,
    ⟨some 27, .bin .leq (.tmp 26) (.const (.int .u8 122)), some (23, true)⟩,
    ⟨some 28, .pick (.tmp 23) (.tmp 27) (.const (.bool false)), none⟩,
    ⟨some 4, .mov (.tmp 28), none⟩])
    (.seq (.region [
    ⟨some 29, .mov (.tmp 4), none⟩,
    ⟨some 30, .not (.tmp 29), none⟩,
    ⟨some 31, .mov (.tmp 30), none⟩,
    ⟨some 32, .mov (.tmp 3), some (31, true)⟩,
    ⟨some 33, .bin .eql (.tmp 32) (.const (.int .i64 0)), some (31, true)⟩,
    ⟨some 34, .mov (.tmp 33), some (31, true)⟩,
    ⟨some 35, .mov (.tmp 0), some (34, false)⟩,
    ⟨some 36, .mov (.tmp 3), some (34, false)⟩,
    ⟨some 37, .sidx (.tmp 35) (.tmp 36), some (34, false)⟩,
    ⟨some 38, .bin .neq (.tmp 37) (.const (.int .u8 95)), some (34, false)⟩,
    ⟨some 39, .mov (.tmp 38), some (34, false)⟩,
    ⟨some 40, .mov (.tmp 0), some (39, true)⟩,
    ⟨some 41, .mov (.tmp 3), some (39, true)⟩,
    ⟨some 42, .sidx (.tmp 40) (.tmp 41), some (39, true)⟩,
    ⟨some 43, .bin .lss (.tmp 42) (.const (.int .u8 48)), some (39, true)⟩,
    ⟨some 44, .mov (.tmp 43), some (39, true)⟩,
    ⟨some 45, .mov (.tmp 0), some (44, false)⟩,
    ⟨some 46, .mov (.tmp 3), some (44, false)⟩,
    ⟨some 47, .sidx (.tmp 45) (.tmp 46), some (44, false)⟩,
    ⟨some 48, .bin .gtr (.tmp 47) (.const (.int .u8 57)), some (44, false)⟩,
    ⟨some 49, .pick (.tmp 44) (.const (.bool true)) (.tmp 48), some (39, true)⟩,
    ⟨some 50, .pick (.tmp 39) (.tmp 49) (.const (.bool false)), some (34, false)⟩,
    ⟨some 51, .pick (.tmp 34) (.const (.bool true)) (.tmp 50), some (31, true)⟩,
    ⟨some 52, .pick (.tmp 31) (.tmp 51) (.const (.bool false)), none⟩])
    (.cond (.tmp 52)
     (.seq (.region [
     ⟨some 2, .mov (.const (.bool false)), none⟩])
     .ret)
     .skip))))
   (.region [
   ⟨some 17, .mov (.tmp 3), none⟩,
   ⟨some 18, .bin .add (.tmp 17) (.const (.int .i64 1)), none⟩,
   ⟨some 3, .mov (.tmp 18), none⟩]))))))
 (.seq (.region [
 ⟨some 2, .mov (.const (.bool true)), none⟩])
 .ret)))),
 [.tmp 2]⟩
theorem low_ref04_Name : lowFn Tryz.prog movers 53 = some ⟨ir_ref04_Name.n, strip ir_ref04_Name.body, ir_ref04_Name.res⟩ := by kernel_rfl
/-- strongtx/strongtxref04.find -/
def ir_ref04_find : IFn := ⟨19,
 (.seq (.region [
 ⟨some 4, .mov (.const (.int .i64 0)), none⟩])
 (.seq (.seq (.region [
 ⟨some 5, .mov (.const (.int .i64 0)), none⟩])
 (.block 0
  (.loop 524272
   (.seq (.seq (.region [
   ⟨some 6, .mov (.tmp 5), none⟩,
   ⟨some 7, .mov (.tmp 0), none⟩,
   ⟨some 8, .len (.tmp 7), none⟩,
   ⟨some 9, .bin .lss (.tmp 6) (.tmp 8), none⟩])
   (.cond (.tmp 9)
    .skip
    (.exit 0)))
   (.seq (.block 1
    (.seq (.region [
    ⟨some 12, .mov (.tmp 0), none⟩,
    ⟨some 13, .mov (.tmp 5), none⟩,
    ⟨some 14, .ixs 1 (.tmp 12) (.tmp 13), none⟩,
    ⟨some 15, .ld (.tmp 14), none⟩,
    ⟨some 16, .mov (.tmp 1), none⟩,
    ⟨some 17, .sbin .eql (.tmp 15) (.tmp 16), none⟩])
    (.cond (.tmp 17)
     (.seq (.region [
     ⟨some 18, .mov (.tmp 5), none⟩,
     ⟨some 4, .mov (.tmp 18), none⟩])
     .ret)
     .skip)))
   (.region [
   ⟨some 10, .mov (.tmp 5), none⟩,
   ⟨some 11, .bin .add (.tmp 10) (.const (.int .i64 1)), none⟩,
   ⟨some 5, .mov (.tmp 11), none⟩]))))))
 (.seq (.region [
 ⟨some 4, .mov (.const (.int .i64 (-1))), none⟩])
 .ret))),
 [.tmp 4]⟩
theorem low_ref04_find : lowFn Tryz.prog movers 54 = some ⟨ir_ref04_find.n, strip ir_ref04_find.body, ir_ref04_find.res⟩ := by kernel_rfl
/-- strongtx/strongtxref04.jump -/
def ir_ref04_jump : IFn := ⟨68,
 (.seq (.region [
 ⟨some 2, .new 23 (.agg #[.int .i64 0, .int .i64 0, .int .i64 0, .int .i64 0, .int .i64 0]), none⟩,
 ⟨some 3, .mov (.const (.string ⟨#[]⟩)), none⟩,
 ⟨some 4, .mov (.const (.bool false)), none⟩])
 (.seq (.seq (.region [
 ⟨some 8, .mov (.tmp 0), none⟩,
 ⟨some 9, .len (.tmp 8), none⟩,
 ⟨some 10, .bin .eql (.tmp 9) (.const (.int .i64 2)), none⟩,
 ⟨some 11, .mov (.tmp 10), none⟩,
 ⟨some 12, .mov (.tmp 0), some (11, true)⟩,
 ⟨some 13, .ixs 1 (.tmp 12) (.const (.int .i64 0)), some (11, true)⟩,
 ⟨some 14, .ld (.tmp 13), some (11, true)⟩,
 ⟨some 15, .sbin .eql (.tmp 14) (.const (.string ⟨#[106, 117, 109, 112]⟩)), some (11, true)⟩,
 ⟨some 16, .pick (.tmp 11) (.tmp 15) (.const (.bool false)), none⟩,
 ⟨some 17, .mov (.tmp 16), none⟩,
 ⟨some 18, .mov (.tmp 0), some (17, true)⟩,
 ⟨some 19, .ixs 1 (.tmp 18) (.const (.int .i64 1)), some (17, true)⟩,
 ⟨some 20, .ld (.tmp 19), some (17, true)⟩,
 ⟨some 21, .call 53 [(.tmp 20)], some (17, true)⟩,
 ⟨some 22, .pick (.tmp 17) (.tmp 21) (.const (.bool false)), none⟩])
 (.cond (.tmp 22)
  (.seq (.draw (.f ⟨some 23, .bld [(.int .i64 0), (.int .i64 0), (.int .i64 0), (.int .i64 0), (.int .i64 0)] [(0, 1, (.const (.int .i64 4)))], none⟩
  (.f ⟨some 24, .mov (.tmp 0), none⟩
  (.f ⟨some 25, .ixs 1 (.tmp 24) (.const (.int .i64 1)), none⟩
  (.both (.f ⟨some 26, .ld (.tmp 25), none⟩
   (.m ⟨none, .stN 5 (.tmp 2) (.tmp 23), none⟩
   (.f ⟨some 3, .mov (.tmp 26), none⟩
   (.f ⟨some 4, .mov (.const (.bool true)), none⟩
   .done))))
  (.m ⟨none, .stN 5 (.tmp 2) (.tmp 23), none⟩
   (.f ⟨some 26, .ld (.tmp 25), none⟩
   (.f ⟨some 3, .mov (.tmp 26), none⟩
   (.f ⟨some 4, .mov (.const (.bool true)), none⟩
   .done)))))))))
  .ret)
  .skip))
 (.seq (.seq (.region [
 ⟨some 27, .mov (.tmp 0), none⟩,
 ⟨some 28, .len (.tmp 27), none⟩,
 ⟨some 29, .bin .neq (.tmp 28) (.const (.int .i64 3)), none⟩,
 ⟨some 30, .mov (.tmp 29), none⟩,
 ⟨some 31, .mov (.tmp 0), some (30, false)⟩,
 ⟨some 32, .ixs 1 (.tmp 31) (.const (.int .i64 0)), some (30, false)⟩,
 ⟨some 33, .ld (.tmp 32), some (30, false)⟩,
 ⟨some 34, .sbin .neq (.tmp 33) (.const (.string ⟨#[122, 101, 114, 111]⟩)), some (30, false)⟩,
 ⟨some 35, .mov (.tmp 34), some (30, false)⟩,
 ⟨some 36, .mov (.tmp 0), some (35, true)⟩,
 ⟨some 37, .ixs 1 (.tmp 36) (.const (.int .i64 0)), some (35, true)⟩,
 ⟨some 38, .ld (.tmp 37), some (35, true)⟩,
 ⟨some 39, .sbin .neq (.tmp 38) (.const (.string ⟨#[110, 111, 110, 122, 101, 114, 111]⟩)), some (35, true)⟩,
 ⟨some 40, .pick (.tmp 35) (.tmp 39) (.const (.bool false)), some (30, false)⟩,
 ⟨some 41, .pick (.tmp 30) (.const (.bool true)) (.tmp 40), none⟩,
 ⟨some 42, .mov (.tmp 41), none⟩,
 ⟨some 43, .mov (.tmp 0), some (42, false)⟩,
 ⟨some 44, .ixs 1 (.tmp 43) (.const (.int .i64 2)), some (42, false)⟩,
 ⟨some 45, .ld (.tmp 44), some (42, false)⟩,
 ⟨some 46, .call 53 [(.tmp 45)], some (42, false)⟩,
 ⟨some 47, .not (.tmp 46), some (42, false)⟩,
 ⟨some 48, .pick (.tmp 42) (.const (.bool true)) (.tmp 47), none⟩])
 (.cond (.tmp 48)
  (.seq (.region [
  ⟨some 49, .bld [(.int .i64 0), (.int .i64 0), (.int .i64 0), (.int .i64 0), (.int .i64 0)] [], none⟩,
  ⟨none, .stN 5 (.tmp 2) (.tmp 49), none⟩,
  ⟨some 3, .mov (.const (.string ⟨#[]⟩)), none⟩,
  ⟨some 4, .mov (.const (.bool false)), none⟩])
  .ret)
  .skip))
 (.seq (.region [
 ⟨some 51, .mov (.tmp 0), none⟩,
 ⟨some 52, .ixs 1 (.tmp 51) (.const (.int .i64 1)), none⟩,
 ⟨some 53, .ld (.tmp 52), none⟩,
 ⟨some 54, .call 82 [(.tmp 53)], none⟩,
 ⟨some 50, .mov (.tmp 54), none⟩,
 ⟨some 55, .ext (.tmp 50) 0, none⟩,
 ⟨some 56, .ext (.tmp 50) 1, none⟩,
 ⟨some 5, .mov (.tmp 55), none⟩,
 ⟨some 6, .mov (.tmp 56), none⟩])
 (.seq (.region [
 ⟨some 7, .mov (.const (.int .i64 5)), none⟩])
 (.seq (.seq (.region [
 ⟨some 57, .mov (.tmp 0), none⟩,
 ⟨some 58, .ixs 1 (.tmp 57) (.const (.int .i64 0)), none⟩,
 ⟨some 59, .ld (.tmp 58), none⟩,
 ⟨some 60, .sbin .eql (.tmp 59) (.const (.string ⟨#[110, 111, 110, 122, 101, 114, 111]⟩)), none⟩])
 (.cond (.tmp 60)
  (.region [
  ⟨some 7, .mov (.const (.int .i64 6)), none⟩])
  .skip))
 (.seq (.draw (.f ⟨some 61, .mov (.tmp 7), none⟩
 (.f ⟨some 62, .mov (.tmp 5), none⟩
 (.f ⟨some 63, .bld [(.int .i64 0), (.int .i64 0), (.int .i64 0), (.int .i64 0), (.int .i64 0)] [(0, 1, (.tmp 61)), (1, 1, (.tmp 62))], none⟩
 (.f ⟨some 64, .mov (.tmp 0), none⟩
 (.f ⟨some 65, .ixs 1 (.tmp 64) (.const (.int .i64 2)), none⟩
 (.f ⟨some 67, .mov (.tmp 6), none⟩
 (.both (.f ⟨some 66, .ld (.tmp 65), none⟩
  (.m ⟨none, .stN 5 (.tmp 2) (.tmp 63), none⟩
  (.f ⟨some 3, .mov (.tmp 66), none⟩
  (.f ⟨some 4, .mov (.tmp 67), none⟩
  .done))))
 (.m ⟨none, .stN 5 (.tmp 2) (.tmp 63), none⟩
  (.f ⟨some 66, .ld (.tmp 65), none⟩
  (.f ⟨some 3, .mov (.tmp 66), none⟩
  (.f ⟨some 4, .mov (.tmp 67), none⟩
  .done))))))))))))
 .ret))))))),
 [.cellN 2 5, .tmp 3, .tmp 4]⟩
theorem low_ref04_jump : lowFn Tryz.prog movers 55 = some ⟨ir_ref04_jump.n, strip ir_ref04_jump.body, ir_ref04_jump.res⟩ := by kernel_rfl
end Go.Proofs.YtiimndcifcoofaaGreatDoor
namespace Go.Proofs.YtiimndcifcoofaaGreatDoor
open Go
set_option maxRecDepth 100000
/-- strings.CutSuffix -/
def ir_strings_CutSuffix : IFn := ⟨11,
 (.seq (.region [
 ⟨some 4, .mov (.const (.string ⟨#[]⟩)), none⟩,
 ⟨some 5, .mov (.const (.bool false)), none⟩])
 (.seq (.region [
 ⟨some 6, .mov (.tmp 0), none⟩,
 ⟨some 7, .mov (.tmp 1), none⟩,
 ⟨some 8, .call 119 [(.tmp 6), (.tmp 7)], none⟩,
 ⟨some 9, .ext (.tmp 8) 0, none⟩,
 ⟨some 10, .ext (.tmp 8) 1, none⟩,
 ⟨some 4, .mov (.tmp 9), none⟩,
 ⟨some 5, .mov (.tmp 10), none⟩])
 .ret)),
 [.tmp 4, .tmp 5]⟩
theorem low_strings_CutSuffix : lowFn Tryz.prog movers 79 = some ⟨ir_strings_CutSuffix.n, strip ir_strings_CutSuffix.body, ir_strings_CutSuffix.res⟩ := by kernel_rfl
end Go.Proofs.YtiimndcifcoofaaGreatDoor
namespace Go.Proofs.YtiimndcifcoofaaGreatDoor
open Go
set_option maxRecDepth 100000
/-- internal/stringslite.CutSuffix -/
def ir_internal_stringslite_CutSuffix : IFn := ⟨18,
 (.seq (.region [
 ⟨some 4, .mov (.const (.string ⟨#[]⟩)), none⟩,
 ⟨some 5, .mov (.const (.bool false)), none⟩])
 (.seq (.seq (.region [
 ⟨some 6, .mov (.tmp 0), none⟩,
 ⟨some 7, .mov (.tmp 1), none⟩,
 ⟨some 8, .call 148 [(.tmp 6), (.tmp 7)], none⟩,
 ⟨some 9, .not (.tmp 8), none⟩])
 (.cond (.tmp 9)
  (.seq (.region [
  ⟨some 10, .mov (.tmp 0), none⟩,
  ⟨some 4, .mov (.tmp 10), none⟩,
  ⟨some 5, .mov (.const (.bool false)), none⟩])
  .ret)
  .skip))
 (.seq (.region [
 ⟨some 11, .mov (.tmp 0), none⟩,
 ⟨some 12, .mov (.tmp 0), none⟩,
 ⟨some 13, .lens (.tmp 12), none⟩,
 ⟨some 14, .mov (.tmp 1), none⟩,
 ⟨some 15, .lens (.tmp 14), none⟩,
 ⟨some 16, .bin .sub (.tmp 13) (.tmp 15), none⟩,
 ⟨some 17, .sslc (.tmp 11) none (some (.tmp 16)), none⟩,
 ⟨some 4, .mov (.tmp 17), none⟩,
 ⟨some 5, .mov (.const (.bool true)), none⟩])
 .ret))),
 [.tmp 4, .tmp 5]⟩
theorem low_internal_stringslite_CutSuffix : lowFn Tryz.prog movers 119 = some ⟨ir_internal_stringslite_CutSuffix.n, strip ir_internal_stringslite_CutSuffix.body, ir_internal_stringslite_CutSuffix.res⟩ := by kernel_rfl
end Go.Proofs.YtiimndcifcoofaaGreatDoor
namespace Go.Proofs.YtiimndcifcoofaaGreatDoor
open Go
set_option maxRecDepth 100000
/-- slices.Compact(()int,int) -/
def ir_slices_Compact_int : IFn := ⟨61,
 (.seq (.region [
 ⟨some 2, .mov (.const (.slice none 0 0)), none⟩])
 (.seq (.seq (.region [
 ⟨some 6, .mov (.tmp 0), none⟩,
 ⟨some 7, .len (.tmp 6), none⟩,
 ⟨some 8, .bin .lss (.tmp 7) (.const (.int .i64 2)), none⟩])
 (.cond (.tmp 8)
  (.seq (.region [
  ⟨some 9, .mov (.tmp 0), none⟩,
  ⟨some 2, .mov (.tmp 9), none⟩])
  .ret)
  .skip))
 (.seq (.seq (.region [
 ⟨some 3, .mov (.const (.int .i64 1)), none⟩])
 (.block 0
  (.loop 1152921504606846012
   (.seq (.seq (.region [
   ⟨some 10, .mov (.tmp 3), none⟩,
   ⟨some 11, .mov (.tmp 0), none⟩,
   ⟨some 12, .len (.tmp 11), none⟩,
   ⟨some 13, .bin .lss (.tmp 10) (.tmp 12), none⟩])
   (.cond (.tmp 13)
    .skip
    (.exit 0)))
   (.seq (.block 1
    (.seq (.draw (.f ⟨some 16, .mov (.tmp 0), none⟩
    (.f ⟨some 17, .mov (.tmp 3), none⟩
    (.f ⟨some 18, .ixs 1 (.tmp 16) (.tmp 17), none⟩
    (.f ⟨some 19, .ld (.tmp 18), none⟩
    (.f ⟨some 20, .mov (.tmp 0), none⟩
    (.f ⟨some 21, .mov (.tmp 3), none⟩
    (.f ⟨some 22, .bin .sub (.tmp 21) (.const (.int .i64 1)), none⟩
    (.f ⟨some 23, .ixs 1 (.tmp 20) (.tmp 22), none⟩
    (.f ⟨some 24, .ld (.tmp 23), none⟩
    (.f ⟨some 25, .bin .eql (.tmp 19) (.tmp 24), none⟩
    .done)))))))))))
    (.cond (.tmp 25)
     (.seq (.region [
     ⟨some 26, .mov (.tmp 0), none⟩,
     ⟨some 27, .mov (.tmp 3), none⟩,
     ⟨some 28, .sls 1 (.tmp 26) (some (.tmp 27)) none none, none⟩,
     ⟨some 4, .mov (.tmp 28), none⟩])
     (.seq (.seq (.region [
     ⟨some 5, .mov (.const (.int .i64 1)), none⟩])
     (.block 2
      (.loop 18014397972611112
       (.seq (.seq (.region [
       ⟨some 29, .mov (.tmp 5), none⟩,
       ⟨some 30, .mov (.tmp 4), none⟩,
       ⟨some 31, .len (.tmp 30), none⟩,
       ⟨some 32, .bin .lss (.tmp 29) (.tmp 31), none⟩])
       (.cond (.tmp 32)
        .skip
        (.exit 2)))
       (.seq (.block 3
        (.seq (.draw (.f ⟨some 35, .mov (.tmp 4), none⟩
        (.f ⟨some 36, .mov (.tmp 5), none⟩
        (.f ⟨some 37, .ixs 1 (.tmp 35) (.tmp 36), none⟩
        (.f ⟨some 38, .ld (.tmp 37), none⟩
        (.f ⟨some 39, .mov (.tmp 4), none⟩
        (.f ⟨some 40, .mov (.tmp 5), none⟩
        (.f ⟨some 41, .bin .sub (.tmp 40) (.const (.int .i64 1)), none⟩
        (.f ⟨some 42, .ixs 1 (.tmp 39) (.tmp 41), none⟩
        (.f ⟨some 43, .ld (.tmp 42), none⟩
        (.f ⟨some 44, .bin .neq (.tmp 38) (.tmp 43), none⟩
        .done)))))))))))
        (.cond (.tmp 44)
         (.seq (.region [
         ⟨some 45, .mov (.tmp 0), none⟩,
         ⟨some 46, .mov (.tmp 3), none⟩,
         ⟨some 47, .mov (.tmp 4), none⟩,
         ⟨some 48, .mov (.tmp 5), none⟩,
         ⟨some 49, .ixs 1 (.tmp 47) (.tmp 48), none⟩,
         ⟨some 50, .ld (.tmp 49), none⟩,
         ⟨some 51, .ixs 1 (.tmp 45) (.tmp 46), none⟩,
         ⟨none, .st (.tmp 51) (.tmp 50), none⟩])
         (.region [
         ⟨some 52, .mov (.tmp 3), none⟩,
         ⟨some 53, .bin .add (.tmp 52) (.const (.int .i64 1)), none⟩,
         ⟨some 3, .mov (.tmp 53), none⟩]))
         .skip)))
       (.region [
       ⟨some 33, .mov (.tmp 5), none⟩,
       ⟨some 34, .bin .add (.tmp 33) (.const (.int .i64 1)), none⟩,
       ⟨some 5, .mov (.tmp 34), none⟩]))))))
     (.seq (.region [
     ⟨some 54, .mov (.tmp 0), none⟩,
     ⟨some 55, .mov (.tmp 3), none⟩,
     ⟨some 56, .sls 1 (.tmp 54) (some (.tmp 55)) none none, none⟩,
     ⟨none, .clr [(.int .i64 0)] (.tmp 56), none⟩])
     (.seq (.region [
     ⟨some 57, .mov (.tmp 0), none⟩,
     ⟨some 58, .mov (.tmp 3), none⟩,
     ⟨some 59, .sls 1 (.tmp 57) none (some (.tmp 58)) none, none⟩,
     ⟨some 2, .mov (.tmp 59), none⟩])
     .ret))))
     .skip)))
   (.region [
   ⟨some 14, .mov (.tmp 3), none⟩,
   ⟨some 15, .bin .add (.tmp 14) (.const (.int .i64 1)), none⟩,
   ⟨some 3, .mov (.tmp 15), none⟩]))))))
 (.seq (.region [
 ⟨some 60, .mov (.tmp 0), none⟩,
 ⟨some 2, .mov (.tmp 60), none⟩])
 .ret)))),
 [.tmp 2]⟩
theorem low_slices_Compact_int : lowFn Tryz.prog movers 46 = some ⟨ir_slices_Compact_int.n, strip ir_slices_Compact_int.body, ir_slices_Compact_int.res⟩ := by kernel_rfl
end Go.Proofs.YtiimndcifcoofaaGreatDoor
namespace Go.Proofs.YtiimndcifcoofaaGreatDoor
open Go
set_option maxRecDepth 100000
/-- strongtx/strongtxlaw04.AsmAny -/
def ir_law04_AsmAny : IFn := ⟨41,
 (.seq (.region [
 ⟨some 2, .mov (.const (.bool false)), none⟩])
 (.seq (.seq (.region [
 ⟨some 9, .mov (.tmp 0), none⟩,
 ⟨some 10, .lens (.tmp 9), none⟩,
 ⟨some 11, .bin .gtr (.tmp 10) (.const (.int .i64 2000)), none⟩])
 (.cond (.tmp 11)
  (.seq (.region [
  ⟨some 12, .call 23 [], none⟩,
  ⟨some 2, .mov (.tmp 12), none⟩])
  .ret)
  .skip))
 (.seq (.region [
 ⟨some 14, .mov (.tmp 0), none⟩,
 ⟨some 15, .call 24 [(.tmp 14)], none⟩,
 ⟨some 13, .mov (.tmp 15), none⟩,
 ⟨some 16, .ext (.tmp 13) 0, none⟩,
 ⟨some 17, .ext (.tmp 13) 1, none⟩,
 ⟨some 18, .ext (.tmp 13) 2, none⟩,
 ⟨some 3, .mov (.tmp 16), none⟩,
 ⟨some 4, .mov (.tmp 17), none⟩,
 ⟨some 5, .mov (.tmp 18), none⟩])
 (.seq (.region [
 ⟨some 20, .mov (.tmp 0), none⟩,
 ⟨some 21, .call 25 [(.tmp 20)], none⟩,
 ⟨some 19, .mov (.tmp 21), none⟩,
 ⟨some 22, .ext (.tmp 19) 0, none⟩,
 ⟨some 23, .ext (.tmp 19) 1, none⟩,
 ⟨some 24, .ext (.tmp 19) 2, none⟩,
 ⟨some 6, .mov (.tmp 22), none⟩,
 ⟨some 7, .mov (.tmp 23), none⟩,
 ⟨some 8, .mov (.tmp 24), none⟩])
 (.seq (.region [
 ⟨some 25, .mov (.tmp 3), none⟩,
 ⟨some 26, .mov (.tmp 6), none⟩,
 ⟨some 27, .call 26 [(.tmp 25), (.tmp 26)], none⟩,
 ⟨some 28, .mov (.tmp 27), none⟩,
 ⟨some 29, .mov (.tmp 4), some (28, true)⟩,
 ⟨some 30, .mov (.tmp 7), some (28, true)⟩,
 ⟨some 31, .bin .eql (.tmp 29) (.tmp 30), some (28, true)⟩,
 ⟨some 32, .pick (.tmp 28) (.tmp 31) (.const (.bool false)), none⟩,
 ⟨some 33, .mov (.tmp 32), none⟩,
 ⟨some 34, .mov (.tmp 5), some (33, true)⟩,
 ⟨some 35, .mov (.tmp 8), some (33, true)⟩,
 ⟨some 36, .bin .eql (.tmp 34) (.tmp 35), some (33, true)⟩,
 ⟨some 37, .pick (.tmp 33) (.tmp 36) (.const (.bool false)), none⟩,
 ⟨some 38, .mov (.tmp 37), none⟩,
 ⟨some 39, .call 23 [], some (38, true)⟩,
 ⟨some 40, .pick (.tmp 38) (.tmp 39) (.const (.bool false)), none⟩,
 ⟨some 2, .mov (.tmp 40), none⟩])
 .ret))))),
 [.tmp 2]⟩
theorem low_law04_AsmAny : lowFn Tryz.prog movers 4 = some ⟨ir_law04_AsmAny.n, strip ir_law04_AsmAny.body, ir_law04_AsmAny.res⟩ := by kernel_rfl
/-- strongtx/strongtxlaw04.AsmTexts -/
def ir_law04_AsmTexts : IFn := ⟨85,
 (.seq (.region [
 ⟨some 4, .mov (.const (.bool false)), none⟩])
 (.seq (.seq (.region [
 ⟨some 19, .mov (.tmp 0), none⟩,
 ⟨some 20, .len (.tmp 19), none⟩,
 ⟨some 21, .bin .gtr (.tmp 20) (.const (.int .i64 40)), none⟩])
 (.cond (.tmp 21)
  (.seq (.region [
  ⟨some 22, .call 23 [], none⟩,
  ⟨some 4, .mov (.tmp 22), none⟩])
  .ret)
  .skip))
 (.seq (.region [
 ⟨some 23, .mov (.tmp 0), none⟩,
 ⟨some 24, .call 33 [(.tmp 23)], none⟩,
 ⟨some 5, .mov (.tmp 24), none⟩])
 (.seq (.region [
 ⟨some 25, .mov (.tmp 5), none⟩,
 ⟨some 26, .mov (.tmp 1), none⟩,
 ⟨some 27, .call 31 [(.tmp 26), (.const (.int .i64 80))], none⟩,
 ⟨some 28, .call 34 [(.const (.string ⟨#[110, 111, 112, 10]⟩)), (.tmp 27)], none⟩,
 ⟨some 29, .scat (.tmp 25) (.tmp 28), none⟩,
 ⟨some 6, .mov (.tmp 29), none⟩])
 (.seq (.region [
 ⟨some 31, .mov (.tmp 5), none⟩,
 ⟨some 32, .call 24 [(.tmp 31)], none⟩,
 ⟨some 30, .mov (.tmp 32), none⟩,
 ⟨some 33, .ext (.tmp 30) 0, none⟩,
 ⟨some 34, .ext (.tmp 30) 1, none⟩,
 ⟨some 35, .ext (.tmp 30) 2, none⟩,
 ⟨some 7, .mov (.tmp 33), none⟩,
 ⟨some 8, .mov (.tmp 34), none⟩,
 ⟨some 9, .mov (.tmp 35), none⟩])
 (.seq (.region [
 ⟨some 37, .mov (.tmp 5), none⟩,
 ⟨some 38, .call 25 [(.tmp 37)], none⟩,
 ⟨some 36, .mov (.tmp 38), none⟩,
 ⟨some 39, .ext (.tmp 36) 0, none⟩,
 ⟨some 40, .ext (.tmp 36) 1, none⟩,
 ⟨some 41, .ext (.tmp 36) 2, none⟩,
 ⟨some 10, .mov (.tmp 39), none⟩,
 ⟨some 11, .mov (.tmp 40), none⟩,
 ⟨some 12, .mov (.tmp 41), none⟩])
 (.seq (.region [
 ⟨some 43, .mov (.tmp 6), none⟩,
 ⟨some 44, .call 24 [(.tmp 43)], none⟩,
 ⟨some 42, .mov (.tmp 44), none⟩,
 ⟨some 45, .ext (.tmp 42) 0, none⟩,
 ⟨some 46, .ext (.tmp 42) 1, none⟩,
 ⟨some 47, .ext (.tmp 42) 2, none⟩,
 ⟨some 13, .mov (.tmp 45), none⟩,
 ⟨some 14, .mov (.tmp 46), none⟩,
 ⟨some 15, .mov (.tmp 47), none⟩])
 (.seq (.region [
 ⟨some 49, .mov (.tmp 6), none⟩,
 ⟨some 50, .call 25 [(.tmp 49)], none⟩,
 ⟨some 48, .mov (.tmp 50), none⟩,
 ⟨some 51, .ext (.tmp 48) 0, none⟩,
 ⟨some 52, .ext (.tmp 48) 1, none⟩,
 ⟨some 53, .ext (.tmp 48) 2, none⟩,
 ⟨some 16, .mov (.tmp 51), none⟩,
 ⟨some 17, .mov (.tmp 52), none⟩,
 ⟨some 18, .mov (.tmp 53), none⟩])
 (.seq (.region [
 ⟨some 54, .mov (.tmp 7), none⟩,
 ⟨some 55, .mov (.tmp 10), none⟩,
 ⟨some 56, .call 26 [(.tmp 54), (.tmp 55)], none⟩,
 ⟨some 57, .mov (.tmp 56), none⟩,
 ⟨some 58, .mov (.tmp 8), some (57, true)⟩,
 ⟨some 59, .mov (.tmp 11), some (57, true)⟩,
 ⟨some 60, .bin .eql (.tmp 58) (.tmp 59), some (57, true)⟩,
 ⟨some 61, .pick (.tmp 57) (.tmp 60) (.const (.bool false)), none⟩,
 ⟨some 62, .mov (.tmp 61), none⟩,
 ⟨some 63, .mov (.tmp 9), some (62, true)⟩,
 ⟨some 64, .mov (.tmp 12), some (62, true)⟩,
 ⟨some 65, .bin .eql (.tmp 63) (.tmp 64), some (62, true)⟩,
 ⟨some 66, .pick (.tmp 62) (.tmp 65) (.const (.bool false)), none⟩,
 ⟨some 67, .mov (.tmp 66), none⟩,
 ⟨some 68, .mov (.tmp 13), some (67, true)⟩,
 ⟨some 69, .mov (.tmp 16), some (67, true)⟩,
 ⟨some 70, .call 26 [(.tmp 68), (.tmp 69)], some (67, true)⟩,
 ⟨some 71, .pick (.tmp 67) (.tmp 70) (.const (.bool false)), none⟩,
 ⟨some 72, .mov (.tmp 71), none⟩,
 ⟨some 73, .mov (.tmp 14), some (72, true)⟩,
 ⟨some 74, .mov (.tmp 17), some (72, true)⟩,
 ⟨some 75, .bin .eql (.tmp 73) (.tmp 74), some (72, true)⟩,
 ⟨some 76, .pick (.tmp 72) (.tmp 75) (.const (.bool false)), none⟩,
 ⟨some 77, .mov (.tmp 76), none⟩,
 ⟨some 78, .mov (.tmp 15), some (77, true)⟩,
 ⟨some 79, .mov (.tmp 18), some (77, true)⟩,
 ⟨some 80, .bin .eql (.tmp 78) (.tmp 79), some (77, true)⟩,
 ⟨some 81, .pick (.tmp 77) (.tmp 80) (.const (.bool false)), none⟩,
 ⟨some 82, .mov (.tmp 81), none⟩,
 ⟨some 83, .call 23 [], some (82, true)⟩,
 ⟨some 84, .pick (.tmp 82) (.tmp 83) (.const (.bool false)), none⟩,
 ⟨some 4, .mov (.tmp 84), none⟩])
 .ret))))))))),
 [.tmp 4]⟩
theorem low_law04_AsmTexts : lowFn Tryz.prog movers 8 = some ⟨ir_law04_AsmTexts.n, strip ir_law04_AsmTexts.body, ir_law04_AsmTexts.res⟩ := by kernel_rfl
/-- strongtx/strongtxlaw04.AsmLimits -/
def ir_law04_AsmLimits : IFn := ⟨76,
 (.seq (.region [
 ⟨some 2, .mov (.const (.bool false)), none⟩])
 (.seq (.region [
 ⟨some 15, .mov (.tmp 0), none⟩,
 ⟨some 16, .call 31 [(.tmp 15), (.const (.int .i64 3))], none⟩,
 ⟨some 0, .mov (.tmp 16), none⟩])
 (.seq (.region [
 ⟨some 17, .mov (.tmp 0), none⟩,
 ⟨some 18, .bin .add (.const (.int .i64 65535)) (.tmp 17), none⟩,
 ⟨some 19, .call 34 [(.const (.string ⟨#[32]⟩)), (.tmp 18)], none⟩,
 ⟨some 3, .mov (.tmp 19), none⟩])
 (.seq (.region [
 ⟨some 21, .mov (.tmp 3), none⟩,
 ⟨some 22, .call 24 [(.tmp 21)], none⟩,
 ⟨some 20, .mov (.tmp 22), none⟩,
 ⟨some 23, .ext (.tmp 20) 0, none⟩,
 ⟨some 24, .ext (.tmp 20) 1, none⟩,
 ⟨some 25, .ext (.tmp 20) 2, none⟩,
 ⟨some 4, .mov (.tmp 23), none⟩,
 ⟨some 5, .mov (.tmp 24), none⟩,
 ⟨some 6, .mov (.tmp 25), none⟩])
 (.seq (.region [
 ⟨some 7, .mov (.const (.int .i64 0)), none⟩])
 (.seq (.seq (.region [
 ⟨some 26, .mov (.tmp 0), none⟩,
 ⟨some 27, .bin .eql (.tmp 26) (.const (.int .i64 2)), none⟩])
 (.cond (.tmp 27)
  (.region [
  ⟨some 7, .mov (.const (.int .i64 3)), none⟩])
  .skip))
 (.seq (.region [
 ⟨some 28, .mov (.tmp 0), none⟩,
 ⟨some 29, .bin .add (.const (.int .i64 197)) (.tmp 28), none⟩,
 ⟨some 30, .call 34 [(.const (.string ⟨#[32]⟩)), (.tmp 29)], none⟩,
 ⟨some 31, .scat (.const (.string ⟨#[110, 111, 112]⟩)) (.tmp 30), none⟩,
 ⟨some 8, .mov (.tmp 31), none⟩])
 (.seq (.region [
 ⟨some 33, .mov (.tmp 8), none⟩,
 ⟨some 34, .scat (.const (.string ⟨#[110, 111, 112, 10]⟩)) (.tmp 33), none⟩,
 ⟨some 35, .call 24 [(.tmp 34)], none⟩,
 ⟨some 32, .mov (.tmp 35), none⟩,
 ⟨some 36, .ext (.tmp 32) 0, none⟩,
 ⟨some 37, .ext (.tmp 32) 1, none⟩,
 ⟨some 38, .ext (.tmp 32) 2, none⟩,
 ⟨some 9, .mov (.tmp 36), none⟩,
 ⟨some 10, .mov (.tmp 37), none⟩,
 ⟨some 11, .mov (.tmp 38), none⟩])
 (.seq (.region [
 ⟨some 40, .mov (.tmp 8), none⟩,
 ⟨some 41, .scat (.const (.string ⟨#[110, 111, 112, 10]⟩)) (.tmp 40), none⟩,
 ⟨some 42, .call 25 [(.tmp 41)], none⟩,
 ⟨some 39, .mov (.tmp 42), none⟩,
 ⟨some 43, .ext (.tmp 39) 0, none⟩,
 ⟨some 44, .ext (.tmp 39) 1, none⟩,
 ⟨some 45, .ext (.tmp 39) 2, none⟩,
 ⟨some 12, .mov (.tmp 43), none⟩,
 ⟨some 13, .mov (.tmp 44), none⟩,
 ⟨some 14, .mov (.tmp 45), none⟩])
 (.seq (.region [
 ⟨some 46, .mov (.tmp 4), none⟩,
 ⟨some 47, .len (.tmp 46), none⟩,
 ⟨some 48, .bin .eql (.tmp 47) (.const (.int .i64 0)), none⟩,
 ⟨some 49, .mov (.tmp 48), none⟩,
 ⟨some 50, .mov (.tmp 5), some (49, true)⟩,
 ⟨some 51, .bin .eql (.tmp 50) (.const (.int .i64 0)), some (49, true)⟩,
 ⟨some 52, .pick (.tmp 49) (.tmp 51) (.const (.bool false)), none⟩,
 ⟨some 53, .mov (.tmp 52), none⟩,
 ⟨some 54, .mov (.tmp 6), some (53, true)⟩,
 ⟨some 55, .mov (.tmp 7), some (53, true)⟩,
 ⟨some 56, .bin .eql (.tmp 54) (.tmp 55), some (53, true)⟩,
 ⟨some 57, .pick (.tmp 53) (.tmp 56) (.const (.bool false)), none⟩,
 ⟨some 58, .mov (.tmp 57), none⟩,
 ⟨some 59, .mov (.tmp 9), some (58, true)⟩,
 ⟨some 60, .mov (.tmp 12), some (58, true)⟩,
 ⟨some 61, .call 26 [(.tmp 59), (.tmp 60)], some (58, true)⟩,
 ⟨some 62, .pick (.tmp 58) (.tmp 61) (.const (.bool false)), none⟩,
 ⟨some 63, .mov (.tmp 62), none⟩,
 ⟨some 64, .mov (.tmp 10), some (63, true)⟩,
 ⟨some 65, .mov (.tmp 13), some (63, true)⟩,
 ⟨some 66, .bin .eql (.tmp 64) (.tmp 65), some (63, true)⟩,
 ⟨some 67, .pick (.tmp 63) (.tmp 66) (.const (.bool false)), none⟩,
 ⟨some 68, .mov (.tmp 67), none⟩,
 ⟨some 69, .mov (.tmp 11), some (68, true)⟩,
 ⟨some 70, .mov (.tmp 14), some (68, true)⟩,
 ⟨some 71, .bin .eql (.tmp 69) (.tmp 70), some (68, true)⟩,
 ⟨some 72, .pick (.tmp 68) (.tmp 71) (.const (.bool false)), none⟩,
 ⟨some 73, .mov (.tmp 72), none⟩,
 ⟨some 74, .call 23 [], some (73, true)⟩,
 ⟨some 75, .pick (.tmp 73) (.tmp 74) (.const (.bool false)), none⟩,
 ⟨some 2, .mov (.tmp 75), none⟩])
 .ret)))))))))),
 [.tmp 2]⟩
theorem low_law04_AsmLimits : lowFn Tryz.prog movers 9 = some ⟨ir_law04_AsmLimits.n, strip ir_law04_AsmLimits.body, ir_law04_AsmLimits.res⟩ := by kernel_rfl
/-- strongtx/strongtxlaw04.awake -/
def ir_law04_awake : IFn := ⟨43,
 (.seq (.region [
 ⟨some 0, .mov (.const (.bool false)), none⟩])
 (.seq (.region [
 ⟨some 7, .call 24 [(.const (.string ⟨#[122, 101, 114, 111, 32, 114, 49, 32, 101, 110, 100, 10, 99, 111, 110, 115, 116, 32, 114, 50, 32, 53, 32, 35, 32, 102, 105, 118, 101, 10, 101, 110, 100, 58, 10]⟩))], none⟩,
 ⟨some 6, .mov (.tmp 7), none⟩,
 ⟨some 8, .ext (.tmp 6) 0, none⟩,
 ⟨some 9, .ext (.tmp 6) 1, none⟩,
 ⟨some 10, .ext (.tmp 6) 2, none⟩,
 ⟨some 1, .mov (.tmp 8), none⟩,
 ⟨some 2, .mov (.tmp 9), none⟩,
 ⟨some 3, .mov (.tmp 10), none⟩])
 (.seq (.region [
 ⟨some 12, .bld [(.int .i64 0), (.int .i64 0), (.int .i64 0), (.int .i64 0), (.int .i64 0)] [(0, 1, (.const (.int .i64 4)))], none⟩,
 ⟨some 13, .blds 23 1 [(.int .i64 0), (.int .i64 0), (.int .i64 0), (.int .i64 0), (.int .i64 0)] [(0, 5, (.tmp 12))], none⟩,
 ⟨some 14, .call 27 [(.tmp 13)], none⟩,
 ⟨some 11, .mov (.tmp 14), none⟩,
 ⟨some 15, .ext (.tmp 11) 0, none⟩,
 ⟨some 16, .ext (.tmp 11) 1, none⟩,
 ⟨some 4, .mov (.tmp 15), none⟩,
 ⟨some 5, .mov (.tmp 16), none⟩])
 (.seq (.region [
 ⟨some 17, .mov (.tmp 3), none⟩,
 ⟨some 18, .bin .eql (.tmp 17) (.const (.int .i64 0)), none⟩,
 ⟨some 19, .mov (.tmp 18), none⟩,
 ⟨some 20, .mov (.tmp 2), some (19, true)⟩,
 ⟨some 21, .bin .eql (.tmp 20) (.const (.int .i64 0)), some (19, true)⟩,
 ⟨some 22, .pick (.tmp 19) (.tmp 21) (.const (.bool false)), none⟩,
 ⟨some 23, .mov (.tmp 22), none⟩,
 ⟨some 24, .mov (.tmp 1), some (23, true)⟩,
 ⟨some 25, .len (.tmp 24), some (23, true)⟩,
 ⟨some 26, .bin .eql (.tmp 25) (.const (.int .i64 2)), some (23, true)⟩,
 ⟨some 27, .pick (.tmp 23) (.tmp 26) (.const (.bool false)), none⟩,
 ⟨some 28, .mov (.tmp 27), none⟩,
 ⟨some 29, .mov (.tmp 1), some (28, true)⟩,
 ⟨some 30, .ixs 5 (.tmp 29) (.const (.int .i64 0)), some (28, true)⟩,
 ⟨some 31, .ldN 5 (.tmp 30), some (28, true)⟩,
 ⟨some 32, .bld [(.int .i64 0), (.int .i64 0), (.int .i64 0), (.int .i64 0), (.int .i64 0)] [(0, 1, (.const (.int .i64 5))), (1, 1, (.const (.int .i64 1))), (4, 1, (.const (.int .i64 1)))], some (28, true)⟩,
 ⟨some 33, .ageq false [0, 0, 0, 0, 0] (.tmp 31) (.tmp 32), some (28, true)⟩,
 ⟨some 34, .pick (.tmp 28) (.tmp 33) (.const (.bool false)), none⟩,
 ⟨some 35, .mov (.tmp 34), none⟩,
 ⟨some 36, .mov (.tmp 5), some (35, true)⟩,
 ⟨some 37, .bin .eql (.tmp 36) (.const (.int .i64 0)), some (35, true)⟩,
 ⟨some 38, .pick (.tmp 35) (.tmp 37) (.const (.bool false)), none⟩,
 ⟨some 39, .mov (.tmp 38), none⟩,
 ⟨some 40, .mov (.tmp 4), some (39, true)⟩,
 ⟨some 41, .sbin .eql (.tmp 40) (.const (.string ⟨#[106, 117, 109, 112, 32, 108, 49, 10, 108, 49, 58, 10]⟩)), some (39, true)⟩,
 ⟨some 42, .pick (.tmp 39) (.tmp 41) (.const (.bool false)), none⟩,
 ⟨some 0, .mov (.tmp 42), none⟩])
 .ret)))),
 [.tmp 0]⟩
theorem low_law04_awake : lowFn Tryz.prog movers 23 = some ⟨ir_law04_awake.n, strip ir_law04_awake.body, ir_law04_awake.res⟩ := by kernel_rfl
/-- strongtx/strongtxlaw04.Text -/
def ir_law04_Text : IFn := ⟨35,
 (.seq (.region [
 ⟨some 2, .mov (.const (.string ⟨#[]⟩)), none⟩])
 (.seq (.region [
 ⟨some 6, .blds 9 24 [(.string ⟨#[]⟩), (.string ⟨#[]⟩), (.string ⟨#[]⟩), (.string ⟨#[]⟩), (.string ⟨#[]⟩), (.string ⟨#[]⟩), (.string ⟨#[]⟩), (.string ⟨#[]⟩), (.string ⟨#[]⟩), (.string ⟨#[]⟩), (.string ⟨#[]⟩), (.string ⟨#[]⟩), (.string ⟨#[]⟩), (.string ⟨#[]⟩), (.string ⟨#[]⟩), (.string ⟨#[]⟩), (.string ⟨#[]⟩), (.string ⟨#[]⟩), (.string ⟨#[]⟩), (.string ⟨#[]⟩), (.string ⟨#[]⟩), (.string ⟨#[]⟩), (.string ⟨#[]⟩), (.string ⟨#[]⟩)] [(0, 1, (.const (.string ⟨#[97, 58]⟩))), (1, 1, (.const (.string ⟨#[98, 49, 58, 32]⟩))), (2, 1, (.const (.string ⟨#[32, 99, 95, 32, 58]⟩))), (3, 1, (.const (.string ⟨#[120, 95, 121, 58]⟩))), (4, 1, (.const (.string ⟨#[106, 117, 109, 112, 32, 97]⟩))), (5, 1, (.const (.string ⟨#[122, 101, 114, 111, 32, 114, 49, 32, 98, 49]⟩))), (6, 1, (.const (.string ⟨#[110, 111, 110, 122, 101, 114, 111, 32, 114, 57, 32, 97]⟩))), (7, 1, (.const (.string ⟨#[122, 101, 114, 111, 32, 114, 50, 32, 120, 95, 121]⟩))), (8, 1, (.const (.string ⟨#[106, 117, 109, 112, 32, 51]⟩))), (9, 1, (.const (.string ⟨#[99, 111, 110, 115, 116, 32, 114, 49, 32, 53]⟩))), (10, 1, (.const (.string ⟨#[97, 100, 100, 32, 114, 49, 32, 114, 50, 32, 114, 51]⟩))), (11, 1, (.const (.string ⟨#[98, 101, 103, 105, 110, 32, 50]⟩))), (12, 1, (.const (.string ⟨#[99, 111, 109, 109, 105, 116]⟩))), (13, 1, (.const (.string ⟨#[116, 114, 101, 97, 100, 32, 114, 48, 32, 114, 49, 32, 50]⟩))), (14, 1, (.const (.string ⟨#[35, 32, 97, 108, 108]⟩))), (15, 1, (.const (.string ⟨#[]⟩))), (16, 1, (.const (.string ⟨#[32, 32]⟩))), (17, 1, (.const (.string ⟨#[99, 111, 110, 115, 116, 32, 114, 49]⟩))), (18, 1, (.const (.string ⟨#[110, 111, 112, 32, 35, 32, 97, 58]⟩))), (19, 1, (.const (.string ⟨#[106, 117, 109, 112, 32, 65]⟩))), (20, 1, (.const (.string ⟨#[108, 49, 58]⟩))), (21, 1, (.const (.string ⟨#[122, 101, 114, 111, 32, 114, 55, 32, 108, 49]⟩))), (22, 1, (.const (.string ⟨#[110, 111, 110, 122, 101, 114, 111, 32, 114, 48, 32, 110, 111, 119, 104, 101, 114, 101]⟩))), (23, 1, (.const (.string ⟨#[98, 101, 103, 105, 110, 32, 57]⟩)))], none⟩,
 ⟨some 3, .mov (.tmp 6), none⟩])
 (.seq (.region [
 ⟨some 4, .mov (.const (.string ⟨#[]⟩)), none⟩])
 (.seq (.seq (.region [
 ⟨some 5, .mov (.const (.int .i64 0)), none⟩])
 (.block 0
  (.loop 17179869104
   (.seq (.seq (.region [
   ⟨some 7, .mov (.tmp 5), none⟩,
   ⟨some 8, .mov (.tmp 0), none⟩,
   ⟨some 9, .len (.tmp 8), none⟩,
   ⟨some 10, .bin .lss (.tmp 7) (.tmp 9), none⟩])
   (.cond (.tmp 10)
    .skip
    (.exit 0)))
   (.seq (.block 1
    (.seq (.region [
    ⟨some 13, .mov (.tmp 4), none⟩,
    ⟨some 14, .mov (.tmp 3), none⟩,
    ⟨some 15, .mov (.tmp 0), none⟩,
    ⟨some 16, .mov (.tmp 5), none⟩,
    ⟨some 17, .ixs 1 (.tmp 15) (.tmp 16), none⟩,
    ⟨some 18, .ld (.tmp 17), none⟩,
    ⟨some 19, .mov (.tmp 3), none⟩,
    ⟨some 20, .len (.tmp 19), none⟩,
    ⟨some 21, .call 31 [(.tmp 18), (.tmp 20)], none⟩,
    ⟨some 22, .ixs 1 (.tmp 14) (.tmp 21), none⟩,
    ⟨some 23, .ld (.tmp 22), none⟩,
    ⟨some 24, .scat (.tmp 13) (.tmp 23), none⟩,
    ⟨some 4, .mov (.tmp 24), none⟩])
    (.seq (.region [
    ⟨some 25, .mov (.tmp 0), none⟩,
    ⟨some 26, .mov (.tmp 5), none⟩,
    ⟨some 27, .ixs 1 (.tmp 25) (.tmp 26), none⟩,
    ⟨some 28, .ld (.tmp 27), none⟩,
    ⟨some 29, .bin .quo (.tmp 28) (.const (.int .i64 24)), none⟩,
    ⟨some 30, .call 31 [(.tmp 29), (.const (.int .i64 20))], none⟩,
    ⟨some 31, .bin .gtr (.tmp 30) (.const (.int .i64 0)), none⟩])
    (.cond (.tmp 31)
     (.region [
     ⟨some 32, .mov (.tmp 4), none⟩,
     ⟨some 33, .scat (.tmp 32) (.const (.string ⟨#[10]⟩)), none⟩,
     ⟨some 4, .mov (.tmp 33), none⟩])
     .skip))))
   (.region [
   ⟨some 11, .mov (.tmp 5), none⟩,
   ⟨some 12, .bin .add (.tmp 11) (.const (.int .i64 1)), none⟩,
   ⟨some 5, .mov (.tmp 12), none⟩]))))))
 (.seq (.region [
 ⟨some 34, .mov (.tmp 4), none⟩,
 ⟨some 2, .mov (.tmp 34), none⟩])
 .ret))))),
 [.tmp 2]⟩
theorem low_law04_Text : lowFn Tryz.prog movers 33 = some ⟨ir_law04_Text.n, strip ir_law04_Text.body, ir_law04_Text.res⟩ := by kernel_rfl
end Go.Proofs.YtiimndcifcoofaaGreatDoor
