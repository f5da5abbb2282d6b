/- A lowered function with places to sum up, printed by program; checked against the loaded program by the kernel. No condition. -/
import Derived.Test.YtofjnldidkiihaaDoorIR
namespace Go.Proofs.YtofjnldidkiihaaDoor
open Go
set_option maxRecDepth 100000
def irtc_order_read : IFnT := ⟨151,
 (.seq (.region [
 ⟨some 4, .mov (.const (.pointer none)), none⟩])
 (.seq (.seq (.region [
 ⟨some 18, .mov (.tmp 0), none⟩,
 ⟨some 19, .mov (.tmp 1), none⟩,
 ⟨some 20, .call 48 [(.tmp 18), (.tmp 19)], none⟩,
 ⟨some 17, .mov (.tmp 20), none⟩,
 ⟨some 21, .ext (.tmp 17) 0, none⟩,
 ⟨some 22, .ext (.tmp 17) 1, none⟩,
 ⟨some 5, .mov (.tmp 21), none⟩,
 ⟨some 6, .mov (.tmp 22), none⟩])
 (.seq (.region [
 ⟨some 23, .mov (.tmp 6), none⟩,
 ⟨some 24, .bin .neq (.tmp 23) (.const (.int .i64 0)), none⟩])
 (.cond (.tmp 24)
  (.seq (.region [
  ⟨some 4, .mov (.const (.pointer none)), none⟩])
  .ret)
  .skip)))
 (.seq (.region [
 ⟨some 25, .mov (.tmp 0), none⟩,
 ⟨some 26, .len (.tmp 25), none⟩,
 ⟨some 7, .mov (.tmp 26), none⟩])
 (.cut (.draw (.f ⟨some 27, .mov (.tmp 0), none⟩
 (.f ⟨some 28, .mov (.tmp 7), none⟩
 (.f ⟨some 30, .mov (.tmp 7), none⟩
 (.f ⟨some 32, .mov (.tmp 7), none⟩
 (.f ⟨some 34, .mov (.tmp 7), none⟩
 (.both (.m ⟨some 29, .mk 3 1 8 [(.int .i64 0)] (.tmp 28) (.tmp 28), none⟩
  (.both (.m ⟨some 31, .mk 3 1 8 [(.int .i64 0)] (.tmp 30) (.tmp 30), none⟩
   (.both (.m ⟨some 33, .mk 3 1 8 [(.int .i64 0)] (.tmp 32) (.tmp 32), none⟩
    (.both (.m ⟨some 35, .mk 3 1 8 [(.int .i64 0)] (.tmp 34) (.tmp 34), none⟩
     (.f ⟨some 36, .bld [(.slice none 0 0), (.slice none 0 0), (.slice none 0 0), (.slice none 0 0), (.slice none 0 0)] [(0, 1, (.tmp 27)), (1, 1, (.tmp 29)), (2, 1, (.tmp 31)), (3, 1, (.tmp 33)), (4, 1, (.tmp 35))], none⟩
     (.both (.m ⟨some 37, .box 93 (.tmp 36), none⟩
      (.m ⟨some 8, .new 74 (.pointer none), none⟩
      (.m ⟨none, .st (.tmp 8) (.tmp 37), none⟩
      .done)))
     (.m ⟨some 8, .new 74 (.pointer none), none⟩
      (.m ⟨some 37, .box 93 (.tmp 36), none⟩
      (.m ⟨none, .st (.tmp 8) (.tmp 37), none⟩
      .done))))))
    (.m ⟨some 8, .new 74 (.pointer none), none⟩
     (.m ⟨some 35, .mk 3 1 8 [(.int .i64 0)] (.tmp 34) (.tmp 34), none⟩
     (.f ⟨some 36, .bld [(.slice none 0 0), (.slice none 0 0), (.slice none 0 0), (.slice none 0 0), (.slice none 0 0)] [(0, 1, (.tmp 27)), (1, 1, (.tmp 29)), (2, 1, (.tmp 31)), (3, 1, (.tmp 33)), (4, 1, (.tmp 35))], none⟩
     (.m ⟨some 37, .box 93 (.tmp 36), none⟩
     (.m ⟨none, .st (.tmp 8) (.tmp 37), none⟩
     .done)))))))
   (.both (.m ⟨some 35, .mk 3 1 8 [(.int .i64 0)] (.tmp 34) (.tmp 34), none⟩
     (.both (.m ⟨some 33, .mk 3 1 8 [(.int .i64 0)] (.tmp 32) (.tmp 32), none⟩
      (.f ⟨some 36, .bld [(.slice none 0 0), (.slice none 0 0), (.slice none 0 0), (.slice none 0 0), (.slice none 0 0)] [(0, 1, (.tmp 27)), (1, 1, (.tmp 29)), (2, 1, (.tmp 31)), (3, 1, (.tmp 33)), (4, 1, (.tmp 35))], none⟩
      (.both (.m ⟨some 37, .box 93 (.tmp 36), none⟩
       (.m ⟨some 8, .new 74 (.pointer none), none⟩
       (.m ⟨none, .st (.tmp 8) (.tmp 37), none⟩
       .done)))
      (.m ⟨some 8, .new 74 (.pointer none), none⟩
       (.m ⟨some 37, .box 93 (.tmp 36), none⟩
       (.m ⟨none, .st (.tmp 8) (.tmp 37), none⟩
       .done))))))
     (.m ⟨some 8, .new 74 (.pointer none), none⟩
      (.m ⟨some 33, .mk 3 1 8 [(.int .i64 0)] (.tmp 32) (.tmp 32), none⟩
      (.f ⟨some 36, .bld [(.slice none 0 0), (.slice none 0 0), (.slice none 0 0), (.slice none 0 0), (.slice none 0 0)] [(0, 1, (.tmp 27)), (1, 1, (.tmp 29)), (2, 1, (.tmp 31)), (3, 1, (.tmp 33)), (4, 1, (.tmp 35))], none⟩
      (.m ⟨some 37, .box 93 (.tmp 36), none⟩
      (.m ⟨none, .st (.tmp 8) (.tmp 37), none⟩
      .done)))))))
    (.m ⟨some 8, .new 74 (.pointer none), none⟩
     (.both (.m ⟨some 33, .mk 3 1 8 [(.int .i64 0)] (.tmp 32) (.tmp 32), none⟩
      (.m ⟨some 35, .mk 3 1 8 [(.int .i64 0)] (.tmp 34) (.tmp 34), none⟩
      (.f ⟨some 36, .bld [(.slice none 0 0), (.slice none 0 0), (.slice none 0 0), (.slice none 0 0), (.slice none 0 0)] [(0, 1, (.tmp 27)), (1, 1, (.tmp 29)), (2, 1, (.tmp 31)), (3, 1, (.tmp 33)), (4, 1, (.tmp 35))], none⟩
      (.m ⟨some 37, .box 93 (.tmp 36), none⟩
      (.m ⟨none, .st (.tmp 8) (.tmp 37), none⟩
      .done)))))
     (.m ⟨some 35, .mk 3 1 8 [(.int .i64 0)] (.tmp 34) (.tmp 34), none⟩
      (.m ⟨some 33, .mk 3 1 8 [(.int .i64 0)] (.tmp 32) (.tmp 32), none⟩
      (.f ⟨some 36, .bld [(.slice none 0 0), (.slice none 0 0), (.slice none 0 0), (.slice none 0 0), (.slice none 0 0)] [(0, 1, (.tmp 27)), (1, 1, (.tmp 29)), (2, 1, (.tmp 31)), (3, 1, (.tmp 33)), (4, 1, (.tmp 35))], none⟩
      (.m ⟨some 37, .box 93 (.tmp 36), none⟩
      (.m ⟨none, .st (.tmp 8) (.tmp 37), none⟩
      .done))))))))))
  (.both (.m ⟨some 33, .mk 3 1 8 [(.int .i64 0)] (.tmp 32) (.tmp 32), none⟩
    (.both (.m ⟨some 31, .mk 3 1 8 [(.int .i64 0)] (.tmp 30) (.tmp 30), none⟩
     (.both (.m ⟨some 35, .mk 3 1 8 [(.int .i64 0)] (.tmp 34) (.tmp 34), none⟩
      (.f ⟨some 36, .bld [(.slice none 0 0), (.slice none 0 0), (.slice none 0 0), (.slice none 0 0), (.slice none 0 0)] [(0, 1, (.tmp 27)), (1, 1, (.tmp 29)), (2, 1, (.tmp 31)), (3, 1, (.tmp 33)), (4, 1, (.tmp 35))], none⟩
      (.both (.m ⟨some 37, .box 93 (.tmp 36), none⟩
       (.m ⟨some 8, .new 74 (.pointer none), none⟩
       (.m ⟨none, .st (.tmp 8) (.tmp 37), none⟩
       .done)))
      (.m ⟨some 8, .new 74 (.pointer none), none⟩
       (.m ⟨some 37, .box 93 (.tmp 36), none⟩
       (.m ⟨none, .st (.tmp 8) (.tmp 37), none⟩
       .done))))))
     (.m ⟨some 8, .new 74 (.pointer none), none⟩
      (.m ⟨some 35, .mk 3 1 8 [(.int .i64 0)] (.tmp 34) (.tmp 34), none⟩
      (.f ⟨some 36, .bld [(.slice none 0 0), (.slice none 0 0), (.slice none 0 0), (.slice none 0 0), (.slice none 0 0)] [(0, 1, (.tmp 27)), (1, 1, (.tmp 29)), (2, 1, (.tmp 31)), (3, 1, (.tmp 33)), (4, 1, (.tmp 35))], none⟩
      (.m ⟨some 37, .box 93 (.tmp 36), none⟩
      (.m ⟨none, .st (.tmp 8) (.tmp 37), none⟩
      .done)))))))
    (.both (.m ⟨some 35, .mk 3 1 8 [(.int .i64 0)] (.tmp 34) (.tmp 34), none⟩
      (.both (.m ⟨some 31, .mk 3 1 8 [(.int .i64 0)] (.tmp 30) (.tmp 30), none⟩
       (.f ⟨some 36, .bld [(.slice none 0 0), (.slice none 0 0), (.slice none 0 0), (.slice none 0 0), (.slice none 0 0)] [(0, 1, (.tmp 27)), (1, 1, (.tmp 29)), (2, 1, (.tmp 31)), (3, 1, (.tmp 33)), (4, 1, (.tmp 35))], none⟩
       (.both (.m ⟨some 37, .box 93 (.tmp 36), none⟩
        (.m ⟨some 8, .new 74 (.pointer none), none⟩
        (.m ⟨none, .st (.tmp 8) (.tmp 37), none⟩
        .done)))
       (.m ⟨some 8, .new 74 (.pointer none), none⟩
        (.m ⟨some 37, .box 93 (.tmp 36), none⟩
        (.m ⟨none, .st (.tmp 8) (.tmp 37), none⟩
        .done))))))
      (.m ⟨some 8, .new 74 (.pointer none), none⟩
       (.m ⟨some 31, .mk 3 1 8 [(.int .i64 0)] (.tmp 30) (.tmp 30), none⟩
       (.f ⟨some 36, .bld [(.slice none 0 0), (.slice none 0 0), (.slice none 0 0), (.slice none 0 0), (.slice none 0 0)] [(0, 1, (.tmp 27)), (1, 1, (.tmp 29)), (2, 1, (.tmp 31)), (3, 1, (.tmp 33)), (4, 1, (.tmp 35))], none⟩
       (.m ⟨some 37, .box 93 (.tmp 36), none⟩
       (.m ⟨none, .st (.tmp 8) (.tmp 37), none⟩
       .done)))))))
     (.m ⟨some 8, .new 74 (.pointer none), none⟩
      (.both (.m ⟨some 31, .mk 3 1 8 [(.int .i64 0)] (.tmp 30) (.tmp 30), none⟩
       (.m ⟨some 35, .mk 3 1 8 [(.int .i64 0)] (.tmp 34) (.tmp 34), none⟩
       (.f ⟨some 36, .bld [(.slice none 0 0), (.slice none 0 0), (.slice none 0 0), (.slice none 0 0), (.slice none 0 0)] [(0, 1, (.tmp 27)), (1, 1, (.tmp 29)), (2, 1, (.tmp 31)), (3, 1, (.tmp 33)), (4, 1, (.tmp 35))], none⟩
       (.m ⟨some 37, .box 93 (.tmp 36), none⟩
       (.m ⟨none, .st (.tmp 8) (.tmp 37), none⟩
       .done)))))
      (.m ⟨some 35, .mk 3 1 8 [(.int .i64 0)] (.tmp 34) (.tmp 34), none⟩
       (.m ⟨some 31, .mk 3 1 8 [(.int .i64 0)] (.tmp 30) (.tmp 30), none⟩
       (.f ⟨some 36, .bld [(.slice none 0 0), (.slice none 0 0), (.slice none 0 0), (.slice none 0 0), (.slice none 0 0)] [(0, 1, (.tmp 27)), (1, 1, (.tmp 29)), (2, 1, (.tmp 31)), (3, 1, (.tmp 33)), (4, 1, (.tmp 35))], none⟩
       (.m ⟨some 37, .box 93 (.tmp 36), none⟩
       (.m ⟨none, .st (.tmp 8) (.tmp 37), none⟩
       .done))))))))))
   (.both (.m ⟨some 35, .mk 3 1 8 [(.int .i64 0)] (.tmp 34) (.tmp 34), none⟩
     (.both (.m ⟨some 31, .mk 3 1 8 [(.int .i64 0)] (.tmp 30) (.tmp 30), none⟩
      (.both (.m ⟨some 33, .mk 3 1 8 [(.int .i64 0)] (.tmp 32) (.tmp 32), none⟩
       (.f ⟨some 36, .bld [(.slice none 0 0), (.slice none 0 0), (.slice none 0 0), (.slice none 0 0), (.slice none 0 0)] [(0, 1, (.tmp 27)), (1, 1, (.tmp 29)), (2, 1, (.tmp 31)), (3, 1, (.tmp 33)), (4, 1, (.tmp 35))], none⟩
       (.both (.m ⟨some 37, .box 93 (.tmp 36), none⟩
        (.m ⟨some 8, .new 74 (.pointer none), none⟩
        (.m ⟨none, .st (.tmp 8) (.tmp 37), none⟩
        .done)))
       (.m ⟨some 8, .new 74 (.pointer none), none⟩
        (.m ⟨some 37, .box 93 (.tmp 36), none⟩
        (.m ⟨none, .st (.tmp 8) (.tmp 37), none⟩
        .done))))))
      (.m ⟨some 8, .new 74 (.pointer none), none⟩
       (.m ⟨some 33, .mk 3 1 8 [(.int .i64 0)] (.tmp 32) (.tmp 32), none⟩
       (.f ⟨some 36, .bld [(.slice none 0 0), (.slice none 0 0), (.slice none 0 0), (.slice none 0 0), (.slice none 0 0)] [(0, 1, (.tmp 27)), (1, 1, (.tmp 29)), (2, 1, (.tmp 31)), (3, 1, (.tmp 33)), (4, 1, (.tmp 35))], none⟩
       (.m ⟨some 37, .box 93 (.tmp 36), none⟩
       (.m ⟨none, .st (.tmp 8) (.tmp 37), none⟩
       .done)))))))
     (.both (.m ⟨some 33, .mk 3 1 8 [(.int .i64 0)] (.tmp 32) (.tmp 32), none⟩
       (.both (.m ⟨some 31, .mk 3 1 8 [(.int .i64 0)] (.tmp 30) (.tmp 30), none⟩
        (.f ⟨some 36, .bld [(.slice none 0 0), (.slice none 0 0), (.slice none 0 0), (.slice none 0 0), (.slice none 0 0)] [(0, 1, (.tmp 27)), (1, 1, (.tmp 29)), (2, 1, (.tmp 31)), (3, 1, (.tmp 33)), (4, 1, (.tmp 35))], none⟩
        (.both (.m ⟨some 37, .box 93 (.tmp 36), none⟩
         (.m ⟨some 8, .new 74 (.pointer none), none⟩
         (.m ⟨none, .st (.tmp 8) (.tmp 37), none⟩
         .done)))
        (.m ⟨some 8, .new 74 (.pointer none), none⟩
         (.m ⟨some 37, .box 93 (.tmp 36), none⟩
         (.m ⟨none, .st (.tmp 8) (.tmp 37), none⟩
         .done))))))
       (.m ⟨some 8, .new 74 (.pointer none), none⟩
        (.m ⟨some 31, .mk 3 1 8 [(.int .i64 0)] (.tmp 30) (.tmp 30), none⟩
        (.f ⟨some 36, .bld [(.slice none 0 0), (.slice none 0 0), (.slice none 0 0), (.slice none 0 0), (.slice none 0 0)] [(0, 1, (.tmp 27)), (1, 1, (.tmp 29)), (2, 1, (.tmp 31)), (3, 1, (.tmp 33)), (4, 1, (.tmp 35))], none⟩
        (.m ⟨some 37, .box 93 (.tmp 36), none⟩
        (.m ⟨none, .st (.tmp 8) (.tmp 37), none⟩
        .done)))))))
      (.m ⟨some 8, .new 74 (.pointer none), none⟩
       (.both (.m ⟨some 31, .mk 3 1 8 [(.int .i64 0)] (.tmp 30) (.tmp 30), none⟩
        (.m ⟨some 33, .mk 3 1 8 [(.int .i64 0)] (.tmp 32) (.tmp 32), none⟩
        (.f ⟨some 36, .bld [(.slice none 0 0), (.slice none 0 0), (.slice none 0 0), (.slice none 0 0), (.slice none 0 0)] [(0, 1, (.tmp 27)), (1, 1, (.tmp 29)), (2, 1, (.tmp 31)), (3, 1, (.tmp 33)), (4, 1, (.tmp 35))], none⟩
        (.m ⟨some 37, .box 93 (.tmp 36), none⟩
        (.m ⟨none, .st (.tmp 8) (.tmp 37), none⟩
        .done)))))
       (.m ⟨some 33, .mk 3 1 8 [(.int .i64 0)] (.tmp 32) (.tmp 32), none⟩
        (.m ⟨some 31, .mk 3 1 8 [(.int .i64 0)] (.tmp 30) (.tmp 30), none⟩
        (.f ⟨some 36, .bld [(.slice none 0 0), (.slice none 0 0), (.slice none 0 0), (.slice none 0 0), (.slice none 0 0)] [(0, 1, (.tmp 27)), (1, 1, (.tmp 29)), (2, 1, (.tmp 31)), (3, 1, (.tmp 33)), (4, 1, (.tmp 35))], none⟩
        (.m ⟨some 37, .box 93 (.tmp 36), none⟩
        (.m ⟨none, .st (.tmp 8) (.tmp 37), none⟩
        .done))))))))))
    (.m ⟨some 8, .new 74 (.pointer none), none⟩
     (.both (.m ⟨some 31, .mk 3 1 8 [(.int .i64 0)] (.tmp 30) (.tmp 30), none⟩
      (.both (.m ⟨some 33, .mk 3 1 8 [(.int .i64 0)] (.tmp 32) (.tmp 32), none⟩
       (.m ⟨some 35, .mk 3 1 8 [(.int .i64 0)] (.tmp 34) (.tmp 34), none⟩
       (.f ⟨some 36, .bld [(.slice none 0 0), (.slice none 0 0), (.slice none 0 0), (.slice none 0 0), (.slice none 0 0)] [(0, 1, (.tmp 27)), (1, 1, (.tmp 29)), (2, 1, (.tmp 31)), (3, 1, (.tmp 33)), (4, 1, (.tmp 35))], none⟩
       (.m ⟨some 37, .box 93 (.tmp 36), none⟩
       (.m ⟨none, .st (.tmp 8) (.tmp 37), none⟩
       .done)))))
      (.m ⟨some 35, .mk 3 1 8 [(.int .i64 0)] (.tmp 34) (.tmp 34), none⟩
       (.m ⟨some 33, .mk 3 1 8 [(.int .i64 0)] (.tmp 32) (.tmp 32), none⟩
       (.f ⟨some 36, .bld [(.slice none 0 0), (.slice none 0 0), (.slice none 0 0), (.slice none 0 0), (.slice none 0 0)] [(0, 1, (.tmp 27)), (1, 1, (.tmp 29)), (2, 1, (.tmp 31)), (3, 1, (.tmp 33)), (4, 1, (.tmp 35))], none⟩
       (.m ⟨some 37, .box 93 (.tmp 36), none⟩
       (.m ⟨none, .st (.tmp 8) (.tmp 37), none⟩
       .done)))))))
     (.both (.m ⟨some 33, .mk 3 1 8 [(.int .i64 0)] (.tmp 32) (.tmp 32), none⟩
       (.both (.m ⟨some 31, .mk 3 1 8 [(.int .i64 0)] (.tmp 30) (.tmp 30), none⟩
        (.m ⟨some 35, .mk 3 1 8 [(.int .i64 0)] (.tmp 34) (.tmp 34), none⟩
        (.f ⟨some 36, .bld [(.slice none 0 0), (.slice none 0 0), (.slice none 0 0), (.slice none 0 0), (.slice none 0 0)] [(0, 1, (.tmp 27)), (1, 1, (.tmp 29)), (2, 1, (.tmp 31)), (3, 1, (.tmp 33)), (4, 1, (.tmp 35))], none⟩
        (.m ⟨some 37, .box 93 (.tmp 36), none⟩
        (.m ⟨none, .st (.tmp 8) (.tmp 37), none⟩
        .done)))))
       (.m ⟨some 35, .mk 3 1 8 [(.int .i64 0)] (.tmp 34) (.tmp 34), none⟩
        (.m ⟨some 31, .mk 3 1 8 [(.int .i64 0)] (.tmp 30) (.tmp 30), none⟩
        (.f ⟨some 36, .bld [(.slice none 0 0), (.slice none 0 0), (.slice none 0 0), (.slice none 0 0), (.slice none 0 0)] [(0, 1, (.tmp 27)), (1, 1, (.tmp 29)), (2, 1, (.tmp 31)), (3, 1, (.tmp 33)), (4, 1, (.tmp 35))], none⟩
        (.m ⟨some 37, .box 93 (.tmp 36), none⟩
        (.m ⟨none, .st (.tmp 8) (.tmp 37), none⟩
        .done)))))))
      (.m ⟨some 35, .mk 3 1 8 [(.int .i64 0)] (.tmp 34) (.tmp 34), none⟩
       (.both (.m ⟨some 31, .mk 3 1 8 [(.int .i64 0)] (.tmp 30) (.tmp 30), none⟩
        (.m ⟨some 33, .mk 3 1 8 [(.int .i64 0)] (.tmp 32) (.tmp 32), none⟩
        (.f ⟨some 36, .bld [(.slice none 0 0), (.slice none 0 0), (.slice none 0 0), (.slice none 0 0), (.slice none 0 0)] [(0, 1, (.tmp 27)), (1, 1, (.tmp 29)), (2, 1, (.tmp 31)), (3, 1, (.tmp 33)), (4, 1, (.tmp 35))], none⟩
        (.m ⟨some 37, .box 93 (.tmp 36), none⟩
        (.m ⟨none, .st (.tmp 8) (.tmp 37), none⟩
        .done)))))
       (.m ⟨some 33, .mk 3 1 8 [(.int .i64 0)] (.tmp 32) (.tmp 32), none⟩
        (.m ⟨some 31, .mk 3 1 8 [(.int .i64 0)] (.tmp 30) (.tmp 30), none⟩
        (.f ⟨some 36, .bld [(.slice none 0 0), (.slice none 0 0), (.slice none 0 0), (.slice none 0 0), (.slice none 0 0)] [(0, 1, (.tmp 27)), (1, 1, (.tmp 29)), (2, 1, (.tmp 31)), (3, 1, (.tmp 33)), (4, 1, (.tmp 35))], none⟩
        (.m ⟨some 37, .box 93 (.tmp 36), none⟩
        (.m ⟨none, .st (.tmp 8) (.tmp 37), none⟩
        .done))))))))))))))
 (.both (.m ⟨some 31, .mk 3 1 8 [(.int .i64 0)] (.tmp 30) (.tmp 30), none⟩
   (.both (.m ⟨some 29, .mk 3 1 8 [(.int .i64 0)] (.tmp 28) (.tmp 28), none⟩
    (.both (.m ⟨some 33, .mk 3 1 8 [(.int .i64 0)] (.tmp 32) (.tmp 32), none⟩
     (.both (.m ⟨some 35, .mk 3 1 8 [(.int .i64 0)] (.tmp 34) (.tmp 34), none⟩
      (.f ⟨some 36, .bld [(.slice none 0 0), (.slice none 0 0), (.slice none 0 0), (.slice none 0 0), (.slice none 0 0)] [(0, 1, (.tmp 27)), (1, 1, (.tmp 29)), (2, 1, (.tmp 31)), (3, 1, (.tmp 33)), (4, 1, (.tmp 35))], none⟩
      (.both (.m ⟨some 37, .box 93 (.tmp 36), none⟩
       (.m ⟨some 8, .new 74 (.pointer none), none⟩
       (.m ⟨none, .st (.tmp 8) (.tmp 37), none⟩
       .done)))
      (.m ⟨some 8, .new 74 (.pointer none), none⟩
       (.m ⟨some 37, .box 93 (.tmp 36), none⟩
       (.m ⟨none, .st (.tmp 8) (.tmp 37), none⟩
       .done))))))
     (.m ⟨some 8, .new 74 (.pointer none), none⟩
      (.m ⟨some 35, .mk 3 1 8 [(.int .i64 0)] (.tmp 34) (.tmp 34), none⟩
      (.f ⟨some 36, .bld [(.slice none 0 0), (.slice none 0 0), (.slice none 0 0), (.slice none 0 0), (.slice none 0 0)] [(0, 1, (.tmp 27)), (1, 1, (.tmp 29)), (2, 1, (.tmp 31)), (3, 1, (.tmp 33)), (4, 1, (.tmp 35))], none⟩
      (.m ⟨some 37, .box 93 (.tmp 36), none⟩
      (.m ⟨none, .st (.tmp 8) (.tmp 37), none⟩
      .done)))))))
    (.both (.m ⟨some 35, .mk 3 1 8 [(.int .i64 0)] (.tmp 34) (.tmp 34), none⟩
      (.both (.m ⟨some 33, .mk 3 1 8 [(.int .i64 0)] (.tmp 32) (.tmp 32), none⟩
       (.f ⟨some 36, .bld [(.slice none 0 0), (.slice none 0 0), (.slice none 0 0), (.slice none 0 0), (.slice none 0 0)] [(0, 1, (.tmp 27)), (1, 1, (.tmp 29)), (2, 1, (.tmp 31)), (3, 1, (.tmp 33)), (4, 1, (.tmp 35))], none⟩
       (.both (.m ⟨some 37, .box 93 (.tmp 36), none⟩
        (.m ⟨some 8, .new 74 (.pointer none), none⟩
        (.m ⟨none, .st (.tmp 8) (.tmp 37), none⟩
        .done)))
       (.m ⟨some 8, .new 74 (.pointer none), none⟩
        (.m ⟨some 37, .box 93 (.tmp 36), none⟩
        (.m ⟨none, .st (.tmp 8) (.tmp 37), none⟩
        .done))))))
      (.m ⟨some 8, .new 74 (.pointer none), none⟩
       (.m ⟨some 33, .mk 3 1 8 [(.int .i64 0)] (.tmp 32) (.tmp 32), none⟩
       (.f ⟨some 36, .bld [(.slice none 0 0), (.slice none 0 0), (.slice none 0 0), (.slice none 0 0), (.slice none 0 0)] [(0, 1, (.tmp 27)), (1, 1, (.tmp 29)), (2, 1, (.tmp 31)), (3, 1, (.tmp 33)), (4, 1, (.tmp 35))], none⟩
       (.m ⟨some 37, .box 93 (.tmp 36), none⟩
       (.m ⟨none, .st (.tmp 8) (.tmp 37), none⟩
       .done)))))))
     (.m ⟨some 8, .new 74 (.pointer none), none⟩
      (.both (.m ⟨some 33, .mk 3 1 8 [(.int .i64 0)] (.tmp 32) (.tmp 32), none⟩
       (.m ⟨some 35, .mk 3 1 8 [(.int .i64 0)] (.tmp 34) (.tmp 34), none⟩
       (.f ⟨some 36, .bld [(.slice none 0 0), (.slice none 0 0), (.slice none 0 0), (.slice none 0 0), (.slice none 0 0)] [(0, 1, (.tmp 27)), (1, 1, (.tmp 29)), (2, 1, (.tmp 31)), (3, 1, (.tmp 33)), (4, 1, (.tmp 35))], none⟩
       (.m ⟨some 37, .box 93 (.tmp 36), none⟩
       (.m ⟨none, .st (.tmp 8) (.tmp 37), none⟩
       .done)))))
      (.m ⟨some 35, .mk 3 1 8 [(.int .i64 0)] (.tmp 34) (.tmp 34), none⟩
       (.m ⟨some 33, .mk 3 1 8 [(.int .i64 0)] (.tmp 32) (.tmp 32), none⟩
       (.f ⟨some 36, .bld [(.slice none 0 0), (.slice none 0 0), (.slice none 0 0), (.slice none 0 0), (.slice none 0 0)] [(0, 1, (.tmp 27)), (1, 1, (.tmp 29)), (2, 1, (.tmp 31)), (3, 1, (.tmp 33)), (4, 1, (.tmp 35))], none⟩
       (.m ⟨some 37, .box 93 (.tmp 36), none⟩
       (.m ⟨none, .st (.tmp 8) (.tmp 37), none⟩
       .done))))))))))
   (.both (.m ⟨some 33, .mk 3 1 8 [(.int .i64 0)] (.tmp 32) (.tmp 32), none⟩
     (.both (.m ⟨some 29, .mk 3 1 8 [(.int .i64 0)] (.tmp 28) (.tmp 28), none⟩
      (.both (.m ⟨some 35, .mk 3 1 8 [(.int .i64 0)] (.tmp 34) (.tmp 34), none⟩
       (.f ⟨some 36, .bld [(.slice none 0 0), (.slice none 0 0), (.slice none 0 0), (.slice none 0 0), (.slice none 0 0)] [(0, 1, (.tmp 27)), (1, 1, (.tmp 29)), (2, 1, (.tmp 31)), (3, 1, (.tmp 33)), (4, 1, (.tmp 35))], none⟩
       (.both (.m ⟨some 37, .box 93 (.tmp 36), none⟩
        (.m ⟨some 8, .new 74 (.pointer none), none⟩
        (.m ⟨none, .st (.tmp 8) (.tmp 37), none⟩
        .done)))
       (.m ⟨some 8, .new 74 (.pointer none), none⟩
        (.m ⟨some 37, .box 93 (.tmp 36), none⟩
        (.m ⟨none, .st (.tmp 8) (.tmp 37), none⟩
        .done))))))
      (.m ⟨some 8, .new 74 (.pointer none), none⟩
       (.m ⟨some 35, .mk 3 1 8 [(.int .i64 0)] (.tmp 34) (.tmp 34), none⟩
       (.f ⟨some 36, .bld [(.slice none 0 0), (.slice none 0 0), (.slice none 0 0), (.slice none 0 0), (.slice none 0 0)] [(0, 1, (.tmp 27)), (1, 1, (.tmp 29)), (2, 1, (.tmp 31)), (3, 1, (.tmp 33)), (4, 1, (.tmp 35))], none⟩
       (.m ⟨some 37, .box 93 (.tmp 36), none⟩
       (.m ⟨none, .st (.tmp 8) (.tmp 37), none⟩
       .done)))))))
     (.both (.m ⟨some 35, .mk 3 1 8 [(.int .i64 0)] (.tmp 34) (.tmp 34), none⟩
       (.both (.m ⟨some 29, .mk 3 1 8 [(.int .i64 0)] (.tmp 28) (.tmp 28), none⟩
        (.f ⟨some 36, .bld [(.slice none 0 0), (.slice none 0 0), (.slice none 0 0), (.slice none 0 0), (.slice none 0 0)] [(0, 1, (.tmp 27)), (1, 1, (.tmp 29)), (2, 1, (.tmp 31)), (3, 1, (.tmp 33)), (4, 1, (.tmp 35))], none⟩
        (.both (.m ⟨some 37, .box 93 (.tmp 36), none⟩
         (.m ⟨some 8, .new 74 (.pointer none), none⟩
         (.m ⟨none, .st (.tmp 8) (.tmp 37), none⟩
         .done)))
        (.m ⟨some 8, .new 74 (.pointer none), none⟩
         (.m ⟨some 37, .box 93 (.tmp 36), none⟩
         (.m ⟨none, .st (.tmp 8) (.tmp 37), none⟩
         .done))))))
       (.m ⟨some 8, .new 74 (.pointer none), none⟩
        (.m ⟨some 29, .mk 3 1 8 [(.int .i64 0)] (.tmp 28) (.tmp 28), none⟩
        (.f ⟨some 36, .bld [(.slice none 0 0), (.slice none 0 0), (.slice none 0 0), (.slice none 0 0), (.slice none 0 0)] [(0, 1, (.tmp 27)), (1, 1, (.tmp 29)), (2, 1, (.tmp 31)), (3, 1, (.tmp 33)), (4, 1, (.tmp 35))], none⟩
        (.m ⟨some 37, .box 93 (.tmp 36), none⟩
        (.m ⟨none, .st (.tmp 8) (.tmp 37), none⟩
        .done)))))))
      (.m ⟨some 8, .new 74 (.pointer none), none⟩
       (.both (.m ⟨some 29, .mk 3 1 8 [(.int .i64 0)] (.tmp 28) (.tmp 28), none⟩
        (.m ⟨some 35, .mk 3 1 8 [(.int .i64 0)] (.tmp 34) (.tmp 34), none⟩
        (.f ⟨some 36, .bld [(.slice none 0 0), (.slice none 0 0), (.slice none 0 0), (.slice none 0 0), (.slice none 0 0)] [(0, 1, (.tmp 27)), (1, 1, (.tmp 29)), (2, 1, (.tmp 31)), (3, 1, (.tmp 33)), (4, 1, (.tmp 35))], none⟩
        (.m ⟨some 37, .box 93 (.tmp 36), none⟩
        (.m ⟨none, .st (.tmp 8) (.tmp 37), none⟩
        .done)))))
       (.m ⟨some 35, .mk 3 1 8 [(.int .i64 0)] (.tmp 34) (.tmp 34), none⟩
        (.m ⟨some 29, .mk 3 1 8 [(.int .i64 0)] (.tmp 28) (.tmp 28), none⟩
        (.f ⟨some 36, .bld [(.slice none 0 0), (.slice none 0 0), (.slice none 0 0), (.slice none 0 0), (.slice none 0 0)] [(0, 1, (.tmp 27)), (1, 1, (.tmp 29)), (2, 1, (.tmp 31)), (3, 1, (.tmp 33)), (4, 1, (.tmp 35))], none⟩
        (.m ⟨some 37, .box 93 (.tmp 36), none⟩
        (.m ⟨none, .st (.tmp 8) (.tmp 37), none⟩
        .done))))))))))
    (.both (.m ⟨some 35, .mk 3 1 8 [(.int .i64 0)] (.tmp 34) (.tmp 34), none⟩
      (.both (.m ⟨some 29, .mk 3 1 8 [(.int .i64 0)] (.tmp 28) (.tmp 28), none⟩
       (.both (.m ⟨some 33, .mk 3 1 8 [(.int .i64 0)] (.tmp 32) (.tmp 32), none⟩
        (.f ⟨some 36, .bld [(.slice none 0 0), (.slice none 0 0), (.slice none 0 0), (.slice none 0 0), (.slice none 0 0)] [(0, 1, (.tmp 27)), (1, 1, (.tmp 29)), (2, 1, (.tmp 31)), (3, 1, (.tmp 33)), (4, 1, (.tmp 35))], none⟩
        (.both (.m ⟨some 37, .box 93 (.tmp 36), none⟩
         (.m ⟨some 8, .new 74 (.pointer none), none⟩
         (.m ⟨none, .st (.tmp 8) (.tmp 37), none⟩
         .done)))
        (.m ⟨some 8, .new 74 (.pointer none), none⟩
         (.m ⟨some 37, .box 93 (.tmp 36), none⟩
         (.m ⟨none, .st (.tmp 8) (.tmp 37), none⟩
         .done))))))
       (.m ⟨some 8, .new 74 (.pointer none), none⟩
        (.m ⟨some 33, .mk 3 1 8 [(.int .i64 0)] (.tmp 32) (.tmp 32), none⟩
        (.f ⟨some 36, .bld [(.slice none 0 0), (.slice none 0 0), (.slice none 0 0), (.slice none 0 0), (.slice none 0 0)] [(0, 1, (.tmp 27)), (1, 1, (.tmp 29)), (2, 1, (.tmp 31)), (3, 1, (.tmp 33)), (4, 1, (.tmp 35))], none⟩
        (.m ⟨some 37, .box 93 (.tmp 36), none⟩
        (.m ⟨none, .st (.tmp 8) (.tmp 37), none⟩
        .done)))))))
      (.both (.m ⟨some 33, .mk 3 1 8 [(.int .i64 0)] (.tmp 32) (.tmp 32), none⟩
        (.both (.m ⟨some 29, .mk 3 1 8 [(.int .i64 0)] (.tmp 28) (.tmp 28), none⟩
         (.f ⟨some 36, .bld [(.slice none 0 0), (.slice none 0 0), (.slice none 0 0), (.slice none 0 0), (.slice none 0 0)] [(0, 1, (.tmp 27)), (1, 1, (.tmp 29)), (2, 1, (.tmp 31)), (3, 1, (.tmp 33)), (4, 1, (.tmp 35))], none⟩
         (.both (.m ⟨some 37, .box 93 (.tmp 36), none⟩
          (.m ⟨some 8, .new 74 (.pointer none), none⟩
          (.m ⟨none, .st (.tmp 8) (.tmp 37), none⟩
          .done)))
         (.m ⟨some 8, .new 74 (.pointer none), none⟩
          (.m ⟨some 37, .box 93 (.tmp 36), none⟩
          (.m ⟨none, .st (.tmp 8) (.tmp 37), none⟩
          .done))))))
        (.m ⟨some 8, .new 74 (.pointer none), none⟩
         (.m ⟨some 29, .mk 3 1 8 [(.int .i64 0)] (.tmp 28) (.tmp 28), none⟩
         (.f ⟨some 36, .bld [(.slice none 0 0), (.slice none 0 0), (.slice none 0 0), (.slice none 0 0), (.slice none 0 0)] [(0, 1, (.tmp 27)), (1, 1, (.tmp 29)), (2, 1, (.tmp 31)), (3, 1, (.tmp 33)), (4, 1, (.tmp 35))], none⟩
         (.m ⟨some 37, .box 93 (.tmp 36), none⟩
         (.m ⟨none, .st (.tmp 8) (.tmp 37), none⟩
         .done)))))))
       (.m ⟨some 8, .new 74 (.pointer none), none⟩
        (.both (.m ⟨some 29, .mk 3 1 8 [(.int .i64 0)] (.tmp 28) (.tmp 28), none⟩
         (.m ⟨some 33, .mk 3 1 8 [(.int .i64 0)] (.tmp 32) (.tmp 32), none⟩
         (.f ⟨some 36, .bld [(.slice none 0 0), (.slice none 0 0), (.slice none 0 0), (.slice none 0 0), (.slice none 0 0)] [(0, 1, (.tmp 27)), (1, 1, (.tmp 29)), (2, 1, (.tmp 31)), (3, 1, (.tmp 33)), (4, 1, (.tmp 35))], none⟩
         (.m ⟨some 37, .box 93 (.tmp 36), none⟩
         (.m ⟨none, .st (.tmp 8) (.tmp 37), none⟩
         .done)))))
        (.m ⟨some 33, .mk 3 1 8 [(.int .i64 0)] (.tmp 32) (.tmp 32), none⟩
         (.m ⟨some 29, .mk 3 1 8 [(.int .i64 0)] (.tmp 28) (.tmp 28), none⟩
         (.f ⟨some 36, .bld [(.slice none 0 0), (.slice none 0 0), (.slice none 0 0), (.slice none 0 0), (.slice none 0 0)] [(0, 1, (.tmp 27)), (1, 1, (.tmp 29)), (2, 1, (.tmp 31)), (3, 1, (.tmp 33)), (4, 1, (.tmp 35))], none⟩
         (.m ⟨some 37, .box 93 (.tmp 36), none⟩
         (.m ⟨none, .st (.tmp 8) (.tmp 37), none⟩
         .done))))))))))
     (.m ⟨some 8, .new 74 (.pointer none), none⟩
      (.both (.m ⟨some 29, .mk 3 1 8 [(.int .i64 0)] (.tmp 28) (.tmp 28), none⟩
       (.both (.m ⟨some 33, .mk 3 1 8 [(.int .i64 0)] (.tmp 32) (.tmp 32), none⟩
        (.m ⟨some 35, .mk 3 1 8 [(.int .i64 0)] (.tmp 34) (.tmp 34), none⟩
        (.f ⟨some 36, .bld [(.slice none 0 0), (.slice none 0 0), (.slice none 0 0), (.slice none 0 0), (.slice none 0 0)] [(0, 1, (.tmp 27)), (1, 1, (.tmp 29)), (2, 1, (.tmp 31)), (3, 1, (.tmp 33)), (4, 1, (.tmp 35))], none⟩
        (.m ⟨some 37, .box 93 (.tmp 36), none⟩
        (.m ⟨none, .st (.tmp 8) (.tmp 37), none⟩
        .done)))))
       (.m ⟨some 35, .mk 3 1 8 [(.int .i64 0)] (.tmp 34) (.tmp 34), none⟩
        (.m ⟨some 33, .mk 3 1 8 [(.int .i64 0)] (.tmp 32) (.tmp 32), none⟩
        (.f ⟨some 36, .bld [(.slice none 0 0), (.slice none 0 0), (.slice none 0 0), (.slice none 0 0), (.slice none 0 0)] [(0, 1, (.tmp 27)), (1, 1, (.tmp 29)), (2, 1, (.tmp 31)), (3, 1, (.tmp 33)), (4, 1, (.tmp 35))], none⟩
        (.m ⟨some 37, .box 93 (.tmp 36), none⟩
        (.m ⟨none, .st (.tmp 8) (.tmp 37), none⟩
        .done)))))))
      (.both (.m ⟨some 33, .mk 3 1 8 [(.int .i64 0)] (.tmp 32) (.tmp 32), none⟩
        (.both (.m ⟨some 29, .mk 3 1 8 [(.int .i64 0)] (.tmp 28) (.tmp 28), none⟩
         (.m ⟨some 35, .mk 3 1 8 [(.int .i64 0)] (.tmp 34) (.tmp 34), none⟩
         (.f ⟨some 36, .bld [(.slice none 0 0), (.slice none 0 0), (.slice none 0 0), (.slice none 0 0), (.slice none 0 0)] [(0, 1, (.tmp 27)), (1, 1, (.tmp 29)), (2, 1, (.tmp 31)), (3, 1, (.tmp 33)), (4, 1, (.tmp 35))], none⟩
         (.m ⟨some 37, .box 93 (.tmp 36), none⟩
         (.m ⟨none, .st (.tmp 8) (.tmp 37), none⟩
         .done)))))
        (.m ⟨some 35, .mk 3 1 8 [(.int .i64 0)] (.tmp 34) (.tmp 34), none⟩
         (.m ⟨some 29, .mk 3 1 8 [(.int .i64 0)] (.tmp 28) (.tmp 28), none⟩
         (.f ⟨some 36, .bld [(.slice none 0 0), (.slice none 0 0), (.slice none 0 0), (.slice none 0 0), (.slice none 0 0)] [(0, 1, (.tmp 27)), (1, 1, (.tmp 29)), (2, 1, (.tmp 31)), (3, 1, (.tmp 33)), (4, 1, (.tmp 35))], none⟩
         (.m ⟨some 37, .box 93 (.tmp 36), none⟩
         (.m ⟨none, .st (.tmp 8) (.tmp 37), none⟩
         .done)))))))
       (.m ⟨some 35, .mk 3 1 8 [(.int .i64 0)] (.tmp 34) (.tmp 34), none⟩
        (.both (.m ⟨some 29, .mk 3 1 8 [(.int .i64 0)] (.tmp 28) (.tmp 28), none⟩
         (.m ⟨some 33, .mk 3 1 8 [(.int .i64 0)] (.tmp 32) (.tmp 32), none⟩
         (.f ⟨some 36, .bld [(.slice none 0 0), (.slice none 0 0), (.slice none 0 0), (.slice none 0 0), (.slice none 0 0)] [(0, 1, (.tmp 27)), (1, 1, (.tmp 29)), (2, 1, (.tmp 31)), (3, 1, (.tmp 33)), (4, 1, (.tmp 35))], none⟩
         (.m ⟨some 37, .box 93 (.tmp 36), none⟩
         (.m ⟨none, .st (.tmp 8) (.tmp 37), none⟩
         .done)))))
        (.m ⟨some 33, .mk 3 1 8 [(.int .i64 0)] (.tmp 32) (.tmp 32), none⟩
         (.m ⟨some 29, .mk 3 1 8 [(.int .i64 0)] (.tmp 28) (.tmp 28), none⟩
         (.f ⟨some 36, .bld [(.slice none 0 0), (.slice none 0 0), (.slice none 0 0), (.slice none 0 0), (.slice none 0 0)] [(0, 1, (.tmp 27)), (1, 1, (.tmp 29)), (2, 1, (.tmp 31)), (3, 1, (.tmp 33)), (4, 1, (.tmp 35))], none⟩
         (.m ⟨some 37, .box 93 (.tmp 36), none⟩
         (.m ⟨none, .st (.tmp 8) (.tmp 37), none⟩
         .done))))))))))))))
  (.both (.m ⟨some 33, .mk 3 1 8 [(.int .i64 0)] (.tmp 32) (.tmp 32), none⟩
    (.both (.m ⟨some 29, .mk 3 1 8 [(.int .i64 0)] (.tmp 28) (.tmp 28), none⟩
     (.both (.m ⟨some 31, .mk 3 1 8 [(.int .i64 0)] (.tmp 30) (.tmp 30), none⟩
      (.both (.m ⟨some 35, .mk 3 1 8 [(.int .i64 0)] (.tmp 34) (.tmp 34), none⟩
       (.f ⟨some 36, .bld [(.slice none 0 0), (.slice none 0 0), (.slice none 0 0), (.slice none 0 0), (.slice none 0 0)] [(0, 1, (.tmp 27)), (1, 1, (.tmp 29)), (2, 1, (.tmp 31)), (3, 1, (.tmp 33)), (4, 1, (.tmp 35))], none⟩
       (.both (.m ⟨some 37, .box 93 (.tmp 36), none⟩
        (.m ⟨some 8, .new 74 (.pointer none), none⟩
        (.m ⟨none, .st (.tmp 8) (.tmp 37), none⟩
        .done)))
       (.m ⟨some 8, .new 74 (.pointer none), none⟩
        (.m ⟨some 37, .box 93 (.tmp 36), none⟩
        (.m ⟨none, .st (.tmp 8) (.tmp 37), none⟩
        .done))))))
      (.m ⟨some 8, .new 74 (.pointer none), none⟩
       (.m ⟨some 35, .mk 3 1 8 [(.int .i64 0)] (.tmp 34) (.tmp 34), none⟩
       (.f ⟨some 36, .bld [(.slice none 0 0), (.slice none 0 0), (.slice none 0 0), (.slice none 0 0), (.slice none 0 0)] [(0, 1, (.tmp 27)), (1, 1, (.tmp 29)), (2, 1, (.tmp 31)), (3, 1, (.tmp 33)), (4, 1, (.tmp 35))], none⟩
       (.m ⟨some 37, .box 93 (.tmp 36), none⟩
       (.m ⟨none, .st (.tmp 8) (.tmp 37), none⟩
       .done)))))))
     (.both (.m ⟨some 35, .mk 3 1 8 [(.int .i64 0)] (.tmp 34) (.tmp 34), none⟩
       (.both (.m ⟨some 31, .mk 3 1 8 [(.int .i64 0)] (.tmp 30) (.tmp 30), none⟩
        (.f ⟨some 36, .bld [(.slice none 0 0), (.slice none 0 0), (.slice none 0 0), (.slice none 0 0), (.slice none 0 0)] [(0, 1, (.tmp 27)), (1, 1, (.tmp 29)), (2, 1, (.tmp 31)), (3, 1, (.tmp 33)), (4, 1, (.tmp 35))], none⟩
        (.both (.m ⟨some 37, .box 93 (.tmp 36), none⟩
         (.m ⟨some 8, .new 74 (.pointer none), none⟩
         (.m ⟨none, .st (.tmp 8) (.tmp 37), none⟩
         .done)))
        (.m ⟨some 8, .new 74 (.pointer none), none⟩
         (.m ⟨some 37, .box 93 (.tmp 36), none⟩
         (.m ⟨none, .st (.tmp 8) (.tmp 37), none⟩
         .done))))))
       (.m ⟨some 8, .new 74 (.pointer none), none⟩
        (.m ⟨some 31, .mk 3 1 8 [(.int .i64 0)] (.tmp 30) (.tmp 30), none⟩
        (.f ⟨some 36, .bld [(.slice none 0 0), (.slice none 0 0), (.slice none 0 0), (.slice none 0 0), (.slice none 0 0)] [(0, 1, (.tmp 27)), (1, 1, (.tmp 29)), (2, 1, (.tmp 31)), (3, 1, (.tmp 33)), (4, 1, (.tmp 35))], none⟩
        (.m ⟨some 37, .box 93 (.tmp 36), none⟩
        (.m ⟨none, .st (.tmp 8) (.tmp 37), none⟩
        .done)))))))
      (.m ⟨some 8, .new 74 (.pointer none), none⟩
       (.both (.m ⟨some 31, .mk 3 1 8 [(.int .i64 0)] (.tmp 30) (.tmp 30), none⟩
        (.m ⟨some 35, .mk 3 1 8 [(.int .i64 0)] (.tmp 34) (.tmp 34), none⟩
        (.f ⟨some 36, .bld [(.slice none 0 0), (.slice none 0 0), (.slice none 0 0), (.slice none 0 0), (.slice none 0 0)] [(0, 1, (.tmp 27)), (1, 1, (.tmp 29)), (2, 1, (.tmp 31)), (3, 1, (.tmp 33)), (4, 1, (.tmp 35))], none⟩
        (.m ⟨some 37, .box 93 (.tmp 36), none⟩
        (.m ⟨none, .st (.tmp 8) (.tmp 37), none⟩
        .done)))))
       (.m ⟨some 35, .mk 3 1 8 [(.int .i64 0)] (.tmp 34) (.tmp 34), none⟩
        (.m ⟨some 31, .mk 3 1 8 [(.int .i64 0)] (.tmp 30) (.tmp 30), none⟩
        (.f ⟨some 36, .bld [(.slice none 0 0), (.slice none 0 0), (.slice none 0 0), (.slice none 0 0), (.slice none 0 0)] [(0, 1, (.tmp 27)), (1, 1, (.tmp 29)), (2, 1, (.tmp 31)), (3, 1, (.tmp 33)), (4, 1, (.tmp 35))], none⟩
        (.m ⟨some 37, .box 93 (.tmp 36), none⟩
        (.m ⟨none, .st (.tmp 8) (.tmp 37), none⟩
        .done))))))))))
    (.both (.m ⟨some 31, .mk 3 1 8 [(.int .i64 0)] (.tmp 30) (.tmp 30), none⟩
      (.both (.m ⟨some 29, .mk 3 1 8 [(.int .i64 0)] (.tmp 28) (.tmp 28), none⟩
       (.both (.m ⟨some 35, .mk 3 1 8 [(.int .i64 0)] (.tmp 34) (.tmp 34), none⟩
        (.f ⟨some 36, .bld [(.slice none 0 0), (.slice none 0 0), (.slice none 0 0), (.slice none 0 0), (.slice none 0 0)] [(0, 1, (.tmp 27)), (1, 1, (.tmp 29)), (2, 1, (.tmp 31)), (3, 1, (.tmp 33)), (4, 1, (.tmp 35))], none⟩
        (.both (.m ⟨some 37, .box 93 (.tmp 36), none⟩
         (.m ⟨some 8, .new 74 (.pointer none), none⟩
         (.m ⟨none, .st (.tmp 8) (.tmp 37), none⟩
         .done)))
        (.m ⟨some 8, .new 74 (.pointer none), none⟩
         (.m ⟨some 37, .box 93 (.tmp 36), none⟩
         (.m ⟨none, .st (.tmp 8) (.tmp 37), none⟩
         .done))))))
       (.m ⟨some 8, .new 74 (.pointer none), none⟩
        (.m ⟨some 35, .mk 3 1 8 [(.int .i64 0)] (.tmp 34) (.tmp 34), none⟩
        (.f ⟨some 36, .bld [(.slice none 0 0), (.slice none 0 0), (.slice none 0 0), (.slice none 0 0), (.slice none 0 0)] [(0, 1, (.tmp 27)), (1, 1, (.tmp 29)), (2, 1, (.tmp 31)), (3, 1, (.tmp 33)), (4, 1, (.tmp 35))], none⟩
        (.m ⟨some 37, .box 93 (.tmp 36), none⟩
        (.m ⟨none, .st (.tmp 8) (.tmp 37), none⟩
        .done)))))))
      (.both (.m ⟨some 35, .mk 3 1 8 [(.int .i64 0)] (.tmp 34) (.tmp 34), none⟩
        (.both (.m ⟨some 29, .mk 3 1 8 [(.int .i64 0)] (.tmp 28) (.tmp 28), none⟩
         (.f ⟨some 36, .bld [(.slice none 0 0), (.slice none 0 0), (.slice none 0 0), (.slice none 0 0), (.slice none 0 0)] [(0, 1, (.tmp 27)), (1, 1, (.tmp 29)), (2, 1, (.tmp 31)), (3, 1, (.tmp 33)), (4, 1, (.tmp 35))], none⟩
         (.both (.m ⟨some 37, .box 93 (.tmp 36), none⟩
          (.m ⟨some 8, .new 74 (.pointer none), none⟩
          (.m ⟨none, .st (.tmp 8) (.tmp 37), none⟩
          .done)))
         (.m ⟨some 8, .new 74 (.pointer none), none⟩
          (.m ⟨some 37, .box 93 (.tmp 36), none⟩
          (.m ⟨none, .st (.tmp 8) (.tmp 37), none⟩
          .done))))))
        (.m ⟨some 8, .new 74 (.pointer none), none⟩
         (.m ⟨some 29, .mk 3 1 8 [(.int .i64 0)] (.tmp 28) (.tmp 28), none⟩
         (.f ⟨some 36, .bld [(.slice none 0 0), (.slice none 0 0), (.slice none 0 0), (.slice none 0 0), (.slice none 0 0)] [(0, 1, (.tmp 27)), (1, 1, (.tmp 29)), (2, 1, (.tmp 31)), (3, 1, (.tmp 33)), (4, 1, (.tmp 35))], none⟩
         (.m ⟨some 37, .box 93 (.tmp 36), none⟩
         (.m ⟨none, .st (.tmp 8) (.tmp 37), none⟩
         .done)))))))
       (.m ⟨some 8, .new 74 (.pointer none), none⟩
        (.both (.m ⟨some 29, .mk 3 1 8 [(.int .i64 0)] (.tmp 28) (.tmp 28), none⟩
         (.m ⟨some 35, .mk 3 1 8 [(.int .i64 0)] (.tmp 34) (.tmp 34), none⟩
         (.f ⟨some 36, .bld [(.slice none 0 0), (.slice none 0 0), (.slice none 0 0), (.slice none 0 0), (.slice none 0 0)] [(0, 1, (.tmp 27)), (1, 1, (.tmp 29)), (2, 1, (.tmp 31)), (3, 1, (.tmp 33)), (4, 1, (.tmp 35))], none⟩
         (.m ⟨some 37, .box 93 (.tmp 36), none⟩
         (.m ⟨none, .st (.tmp 8) (.tmp 37), none⟩
         .done)))))
        (.m ⟨some 35, .mk 3 1 8 [(.int .i64 0)] (.tmp 34) (.tmp 34), none⟩
         (.m ⟨some 29, .mk 3 1 8 [(.int .i64 0)] (.tmp 28) (.tmp 28), none⟩
         (.f ⟨some 36, .bld [(.slice none 0 0), (.slice none 0 0), (.slice none 0 0), (.slice none 0 0), (.slice none 0 0)] [(0, 1, (.tmp 27)), (1, 1, (.tmp 29)), (2, 1, (.tmp 31)), (3, 1, (.tmp 33)), (4, 1, (.tmp 35))], none⟩
         (.m ⟨some 37, .box 93 (.tmp 36), none⟩
         (.m ⟨none, .st (.tmp 8) (.tmp 37), none⟩
         .done))))))))))
     (.both (.m ⟨some 35, .mk 3 1 8 [(.int .i64 0)] (.tmp 34) (.tmp 34), none⟩
       (.both (.m ⟨some 29, .mk 3 1 8 [(.int .i64 0)] (.tmp 28) (.tmp 28), none⟩
        (.both (.m ⟨some 31, .mk 3 1 8 [(.int .i64 0)] (.tmp 30) (.tmp 30), none⟩
         (.f ⟨some 36, .bld [(.slice none 0 0), (.slice none 0 0), (.slice none 0 0), (.slice none 0 0), (.slice none 0 0)] [(0, 1, (.tmp 27)), (1, 1, (.tmp 29)), (2, 1, (.tmp 31)), (3, 1, (.tmp 33)), (4, 1, (.tmp 35))], none⟩
         (.both (.m ⟨some 37, .box 93 (.tmp 36), none⟩
          (.m ⟨some 8, .new 74 (.pointer none), none⟩
          (.m ⟨none, .st (.tmp 8) (.tmp 37), none⟩
          .done)))
         (.m ⟨some 8, .new 74 (.pointer none), none⟩
          (.m ⟨some 37, .box 93 (.tmp 36), none⟩
          (.m ⟨none, .st (.tmp 8) (.tmp 37), none⟩
          .done))))))
        (.m ⟨some 8, .new 74 (.pointer none), none⟩
         (.m ⟨some 31, .mk 3 1 8 [(.int .i64 0)] (.tmp 30) (.tmp 30), none⟩
         (.f ⟨some 36, .bld [(.slice none 0 0), (.slice none 0 0), (.slice none 0 0), (.slice none 0 0), (.slice none 0 0)] [(0, 1, (.tmp 27)), (1, 1, (.tmp 29)), (2, 1, (.tmp 31)), (3, 1, (.tmp 33)), (4, 1, (.tmp 35))], none⟩
         (.m ⟨some 37, .box 93 (.tmp 36), none⟩
         (.m ⟨none, .st (.tmp 8) (.tmp 37), none⟩
         .done)))))))
       (.both (.m ⟨some 31, .mk 3 1 8 [(.int .i64 0)] (.tmp 30) (.tmp 30), none⟩
         (.both (.m ⟨some 29, .mk 3 1 8 [(.int .i64 0)] (.tmp 28) (.tmp 28), none⟩
          (.f ⟨some 36, .bld [(.slice none 0 0), (.slice none 0 0), (.slice none 0 0), (.slice none 0 0), (.slice none 0 0)] [(0, 1, (.tmp 27)), (1, 1, (.tmp 29)), (2, 1, (.tmp 31)), (3, 1, (.tmp 33)), (4, 1, (.tmp 35))], none⟩
          (.both (.m ⟨some 37, .box 93 (.tmp 36), none⟩
           (.m ⟨some 8, .new 74 (.pointer none), none⟩
           (.m ⟨none, .st (.tmp 8) (.tmp 37), none⟩
           .done)))
          (.m ⟨some 8, .new 74 (.pointer none), none⟩
           (.m ⟨some 37, .box 93 (.tmp 36), none⟩
           (.m ⟨none, .st (.tmp 8) (.tmp 37), none⟩
           .done))))))
         (.m ⟨some 8, .new 74 (.pointer none), none⟩
          (.m ⟨some 29, .mk 3 1 8 [(.int .i64 0)] (.tmp 28) (.tmp 28), none⟩
          (.f ⟨some 36, .bld [(.slice none 0 0), (.slice none 0 0), (.slice none 0 0), (.slice none 0 0), (.slice none 0 0)] [(0, 1, (.tmp 27)), (1, 1, (.tmp 29)), (2, 1, (.tmp 31)), (3, 1, (.tmp 33)), (4, 1, (.tmp 35))], none⟩
          (.m ⟨some 37, .box 93 (.tmp 36), none⟩
          (.m ⟨none, .st (.tmp 8) (.tmp 37), none⟩
          .done)))))))
        (.m ⟨some 8, .new 74 (.pointer none), none⟩
         (.both (.m ⟨some 29, .mk 3 1 8 [(.int .i64 0)] (.tmp 28) (.tmp 28), none⟩
          (.m ⟨some 31, .mk 3 1 8 [(.int .i64 0)] (.tmp 30) (.tmp 30), none⟩
          (.f ⟨some 36, .bld [(.slice none 0 0), (.slice none 0 0), (.slice none 0 0), (.slice none 0 0), (.slice none 0 0)] [(0, 1, (.tmp 27)), (1, 1, (.tmp 29)), (2, 1, (.tmp 31)), (3, 1, (.tmp 33)), (4, 1, (.tmp 35))], none⟩
          (.m ⟨some 37, .box 93 (.tmp 36), none⟩
          (.m ⟨none, .st (.tmp 8) (.tmp 37), none⟩
          .done)))))
         (.m ⟨some 31, .mk 3 1 8 [(.int .i64 0)] (.tmp 30) (.tmp 30), none⟩
          (.m ⟨some 29, .mk 3 1 8 [(.int .i64 0)] (.tmp 28) (.tmp 28), none⟩
          (.f ⟨some 36, .bld [(.slice none 0 0), (.slice none 0 0), (.slice none 0 0), (.slice none 0 0), (.slice none 0 0)] [(0, 1, (.tmp 27)), (1, 1, (.tmp 29)), (2, 1, (.tmp 31)), (3, 1, (.tmp 33)), (4, 1, (.tmp 35))], none⟩
          (.m ⟨some 37, .box 93 (.tmp 36), none⟩
          (.m ⟨none, .st (.tmp 8) (.tmp 37), none⟩
          .done))))))))))
      (.m ⟨some 8, .new 74 (.pointer none), none⟩
       (.both (.m ⟨some 29, .mk 3 1 8 [(.int .i64 0)] (.tmp 28) (.tmp 28), none⟩
        (.both (.m ⟨some 31, .mk 3 1 8 [(.int .i64 0)] (.tmp 30) (.tmp 30), none⟩
         (.m ⟨some 35, .mk 3 1 8 [(.int .i64 0)] (.tmp 34) (.tmp 34), none⟩
         (.f ⟨some 36, .bld [(.slice none 0 0), (.slice none 0 0), (.slice none 0 0), (.slice none 0 0), (.slice none 0 0)] [(0, 1, (.tmp 27)), (1, 1, (.tmp 29)), (2, 1, (.tmp 31)), (3, 1, (.tmp 33)), (4, 1, (.tmp 35))], none⟩
         (.m ⟨some 37, .box 93 (.tmp 36), none⟩
         (.m ⟨none, .st (.tmp 8) (.tmp 37), none⟩
         .done)))))
        (.m ⟨some 35, .mk 3 1 8 [(.int .i64 0)] (.tmp 34) (.tmp 34), none⟩
         (.m ⟨some 31, .mk 3 1 8 [(.int .i64 0)] (.tmp 30) (.tmp 30), none⟩
         (.f ⟨some 36, .bld [(.slice none 0 0), (.slice none 0 0), (.slice none 0 0), (.slice none 0 0), (.slice none 0 0)] [(0, 1, (.tmp 27)), (1, 1, (.tmp 29)), (2, 1, (.tmp 31)), (3, 1, (.tmp 33)), (4, 1, (.tmp 35))], none⟩
         (.m ⟨some 37, .box 93 (.tmp 36), none⟩
         (.m ⟨none, .st (.tmp 8) (.tmp 37), none⟩
         .done)))))))
       (.both (.m ⟨some 31, .mk 3 1 8 [(.int .i64 0)] (.tmp 30) (.tmp 30), none⟩
         (.both (.m ⟨some 29, .mk 3 1 8 [(.int .i64 0)] (.tmp 28) (.tmp 28), none⟩
          (.m ⟨some 35, .mk 3 1 8 [(.int .i64 0)] (.tmp 34) (.tmp 34), none⟩
          (.f ⟨some 36, .bld [(.slice none 0 0), (.slice none 0 0), (.slice none 0 0), (.slice none 0 0), (.slice none 0 0)] [(0, 1, (.tmp 27)), (1, 1, (.tmp 29)), (2, 1, (.tmp 31)), (3, 1, (.tmp 33)), (4, 1, (.tmp 35))], none⟩
          (.m ⟨some 37, .box 93 (.tmp 36), none⟩
          (.m ⟨none, .st (.tmp 8) (.tmp 37), none⟩
          .done)))))
         (.m ⟨some 35, .mk 3 1 8 [(.int .i64 0)] (.tmp 34) (.tmp 34), none⟩
          (.m ⟨some 29, .mk 3 1 8 [(.int .i64 0)] (.tmp 28) (.tmp 28), none⟩
          (.f ⟨some 36, .bld [(.slice none 0 0), (.slice none 0 0), (.slice none 0 0), (.slice none 0 0), (.slice none 0 0)] [(0, 1, (.tmp 27)), (1, 1, (.tmp 29)), (2, 1, (.tmp 31)), (3, 1, (.tmp 33)), (4, 1, (.tmp 35))], none⟩
          (.m ⟨some 37, .box 93 (.tmp 36), none⟩
          (.m ⟨none, .st (.tmp 8) (.tmp 37), none⟩
          .done)))))))
        (.m ⟨some 35, .mk 3 1 8 [(.int .i64 0)] (.tmp 34) (.tmp 34), none⟩
         (.both (.m ⟨some 29, .mk 3 1 8 [(.int .i64 0)] (.tmp 28) (.tmp 28), none⟩
          (.m ⟨some 31, .mk 3 1 8 [(.int .i64 0)] (.tmp 30) (.tmp 30), none⟩
          (.f ⟨some 36, .bld [(.slice none 0 0), (.slice none 0 0), (.slice none 0 0), (.slice none 0 0), (.slice none 0 0)] [(0, 1, (.tmp 27)), (1, 1, (.tmp 29)), (2, 1, (.tmp 31)), (3, 1, (.tmp 33)), (4, 1, (.tmp 35))], none⟩
          (.m ⟨some 37, .box 93 (.tmp 36), none⟩
          (.m ⟨none, .st (.tmp 8) (.tmp 37), none⟩
          .done)))))
         (.m ⟨some 31, .mk 3 1 8 [(.int .i64 0)] (.tmp 30) (.tmp 30), none⟩
          (.m ⟨some 29, .mk 3 1 8 [(.int .i64 0)] (.tmp 28) (.tmp 28), none⟩
          (.f ⟨some 36, .bld [(.slice none 0 0), (.slice none 0 0), (.slice none 0 0), (.slice none 0 0), (.slice none 0 0)] [(0, 1, (.tmp 27)), (1, 1, (.tmp 29)), (2, 1, (.tmp 31)), (3, 1, (.tmp 33)), (4, 1, (.tmp 35))], none⟩
          (.m ⟨some 37, .box 93 (.tmp 36), none⟩
          (.m ⟨none, .st (.tmp 8) (.tmp 37), none⟩
          .done))))))))))))))
   (.both (.m ⟨some 35, .mk 3 1 8 [(.int .i64 0)] (.tmp 34) (.tmp 34), none⟩
     (.both (.m ⟨some 29, .mk 3 1 8 [(.int .i64 0)] (.tmp 28) (.tmp 28), none⟩
      (.both (.m ⟨some 31, .mk 3 1 8 [(.int .i64 0)] (.tmp 30) (.tmp 30), none⟩
       (.both (.m ⟨some 33, .mk 3 1 8 [(.int .i64 0)] (.tmp 32) (.tmp 32), none⟩
        (.f ⟨some 36, .bld [(.slice none 0 0), (.slice none 0 0), (.slice none 0 0), (.slice none 0 0), (.slice none 0 0)] [(0, 1, (.tmp 27)), (1, 1, (.tmp 29)), (2, 1, (.tmp 31)), (3, 1, (.tmp 33)), (4, 1, (.tmp 35))], none⟩
        (.both (.m ⟨some 37, .box 93 (.tmp 36), none⟩
         (.m ⟨some 8, .new 74 (.pointer none), none⟩
         (.m ⟨none, .st (.tmp 8) (.tmp 37), none⟩
         .done)))
        (.m ⟨some 8, .new 74 (.pointer none), none⟩
         (.m ⟨some 37, .box 93 (.tmp 36), none⟩
         (.m ⟨none, .st (.tmp 8) (.tmp 37), none⟩
         .done))))))
       (.m ⟨some 8, .new 74 (.pointer none), none⟩
        (.m ⟨some 33, .mk 3 1 8 [(.int .i64 0)] (.tmp 32) (.tmp 32), none⟩
        (.f ⟨some 36, .bld [(.slice none 0 0), (.slice none 0 0), (.slice none 0 0), (.slice none 0 0), (.slice none 0 0)] [(0, 1, (.tmp 27)), (1, 1, (.tmp 29)), (2, 1, (.tmp 31)), (3, 1, (.tmp 33)), (4, 1, (.tmp 35))], none⟩
        (.m ⟨some 37, .box 93 (.tmp 36), none⟩
        (.m ⟨none, .st (.tmp 8) (.tmp 37), none⟩
        .done)))))))
      (.both (.m ⟨some 33, .mk 3 1 8 [(.int .i64 0)] (.tmp 32) (.tmp 32), none⟩
        (.both (.m ⟨some 31, .mk 3 1 8 [(.int .i64 0)] (.tmp 30) (.tmp 30), none⟩
         (.f ⟨some 36, .bld [(.slice none 0 0), (.slice none 0 0), (.slice none 0 0), (.slice none 0 0), (.slice none 0 0)] [(0, 1, (.tmp 27)), (1, 1, (.tmp 29)), (2, 1, (.tmp 31)), (3, 1, (.tmp 33)), (4, 1, (.tmp 35))], none⟩
         (.both (.m ⟨some 37, .box 93 (.tmp 36), none⟩
          (.m ⟨some 8, .new 74 (.pointer none), none⟩
          (.m ⟨none, .st (.tmp 8) (.tmp 37), none⟩
          .done)))
         (.m ⟨some 8, .new 74 (.pointer none), none⟩
          (.m ⟨some 37, .box 93 (.tmp 36), none⟩
          (.m ⟨none, .st (.tmp 8) (.tmp 37), none⟩
          .done))))))
        (.m ⟨some 8, .new 74 (.pointer none), none⟩
         (.m ⟨some 31, .mk 3 1 8 [(.int .i64 0)] (.tmp 30) (.tmp 30), none⟩
         (.f ⟨some 36, .bld [(.slice none 0 0), (.slice none 0 0), (.slice none 0 0), (.slice none 0 0), (.slice none 0 0)] [(0, 1, (.tmp 27)), (1, 1, (.tmp 29)), (2, 1, (.tmp 31)), (3, 1, (.tmp 33)), (4, 1, (.tmp 35))], none⟩
         (.m ⟨some 37, .box 93 (.tmp 36), none⟩
         (.m ⟨none, .st (.tmp 8) (.tmp 37), none⟩
         .done)))))))
       (.m ⟨some 8, .new 74 (.pointer none), none⟩
        (.both (.m ⟨some 31, .mk 3 1 8 [(.int .i64 0)] (.tmp 30) (.tmp 30), none⟩
         (.m ⟨some 33, .mk 3 1 8 [(.int .i64 0)] (.tmp 32) (.tmp 32), none⟩
         (.f ⟨some 36, .bld [(.slice none 0 0), (.slice none 0 0), (.slice none 0 0), (.slice none 0 0), (.slice none 0 0)] [(0, 1, (.tmp 27)), (1, 1, (.tmp 29)), (2, 1, (.tmp 31)), (3, 1, (.tmp 33)), (4, 1, (.tmp 35))], none⟩
         (.m ⟨some 37, .box 93 (.tmp 36), none⟩
         (.m ⟨none, .st (.tmp 8) (.tmp 37), none⟩
         .done)))))
        (.m ⟨some 33, .mk 3 1 8 [(.int .i64 0)] (.tmp 32) (.tmp 32), none⟩
         (.m ⟨some 31, .mk 3 1 8 [(.int .i64 0)] (.tmp 30) (.tmp 30), none⟩
         (.f ⟨some 36, .bld [(.slice none 0 0), (.slice none 0 0), (.slice none 0 0), (.slice none 0 0), (.slice none 0 0)] [(0, 1, (.tmp 27)), (1, 1, (.tmp 29)), (2, 1, (.tmp 31)), (3, 1, (.tmp 33)), (4, 1, (.tmp 35))], none⟩
         (.m ⟨some 37, .box 93 (.tmp 36), none⟩
         (.m ⟨none, .st (.tmp 8) (.tmp 37), none⟩
         .done))))))))))
     (.both (.m ⟨some 31, .mk 3 1 8 [(.int .i64 0)] (.tmp 30) (.tmp 30), none⟩
       (.both (.m ⟨some 29, .mk 3 1 8 [(.int .i64 0)] (.tmp 28) (.tmp 28), none⟩
        (.both (.m ⟨some 33, .mk 3 1 8 [(.int .i64 0)] (.tmp 32) (.tmp 32), none⟩
         (.f ⟨some 36, .bld [(.slice none 0 0), (.slice none 0 0), (.slice none 0 0), (.slice none 0 0), (.slice none 0 0)] [(0, 1, (.tmp 27)), (1, 1, (.tmp 29)), (2, 1, (.tmp 31)), (3, 1, (.tmp 33)), (4, 1, (.tmp 35))], none⟩
         (.both (.m ⟨some 37, .box 93 (.tmp 36), none⟩
          (.m ⟨some 8, .new 74 (.pointer none), none⟩
          (.m ⟨none, .st (.tmp 8) (.tmp 37), none⟩
          .done)))
         (.m ⟨some 8, .new 74 (.pointer none), none⟩
          (.m ⟨some 37, .box 93 (.tmp 36), none⟩
          (.m ⟨none, .st (.tmp 8) (.tmp 37), none⟩
          .done))))))
        (.m ⟨some 8, .new 74 (.pointer none), none⟩
         (.m ⟨some 33, .mk 3 1 8 [(.int .i64 0)] (.tmp 32) (.tmp 32), none⟩
         (.f ⟨some 36, .bld [(.slice none 0 0), (.slice none 0 0), (.slice none 0 0), (.slice none 0 0), (.slice none 0 0)] [(0, 1, (.tmp 27)), (1, 1, (.tmp 29)), (2, 1, (.tmp 31)), (3, 1, (.tmp 33)), (4, 1, (.tmp 35))], none⟩
         (.m ⟨some 37, .box 93 (.tmp 36), none⟩
         (.m ⟨none, .st (.tmp 8) (.tmp 37), none⟩
         .done)))))))
       (.both (.m ⟨some 33, .mk 3 1 8 [(.int .i64 0)] (.tmp 32) (.tmp 32), none⟩
         (.both (.m ⟨some 29, .mk 3 1 8 [(.int .i64 0)] (.tmp 28) (.tmp 28), none⟩
          (.f ⟨some 36, .bld [(.slice none 0 0), (.slice none 0 0), (.slice none 0 0), (.slice none 0 0), (.slice none 0 0)] [(0, 1, (.tmp 27)), (1, 1, (.tmp 29)), (2, 1, (.tmp 31)), (3, 1, (.tmp 33)), (4, 1, (.tmp 35))], none⟩
          (.both (.m ⟨some 37, .box 93 (.tmp 36), none⟩
           (.m ⟨some 8, .new 74 (.pointer none), none⟩
           (.m ⟨none, .st (.tmp 8) (.tmp 37), none⟩
           .done)))
          (.m ⟨some 8, .new 74 (.pointer none), none⟩
           (.m ⟨some 37, .box 93 (.tmp 36), none⟩
           (.m ⟨none, .st (.tmp 8) (.tmp 37), none⟩
           .done))))))
         (.m ⟨some 8, .new 74 (.pointer none), none⟩
          (.m ⟨some 29, .mk 3 1 8 [(.int .i64 0)] (.tmp 28) (.tmp 28), none⟩
          (.f ⟨some 36, .bld [(.slice none 0 0), (.slice none 0 0), (.slice none 0 0), (.slice none 0 0), (.slice none 0 0)] [(0, 1, (.tmp 27)), (1, 1, (.tmp 29)), (2, 1, (.tmp 31)), (3, 1, (.tmp 33)), (4, 1, (.tmp 35))], none⟩
          (.m ⟨some 37, .box 93 (.tmp 36), none⟩
          (.m ⟨none, .st (.tmp 8) (.tmp 37), none⟩
          .done)))))))
        (.m ⟨some 8, .new 74 (.pointer none), none⟩
         (.both (.m ⟨some 29, .mk 3 1 8 [(.int .i64 0)] (.tmp 28) (.tmp 28), none⟩
          (.m ⟨some 33, .mk 3 1 8 [(.int .i64 0)] (.tmp 32) (.tmp 32), none⟩
          (.f ⟨some 36, .bld [(.slice none 0 0), (.slice none 0 0), (.slice none 0 0), (.slice none 0 0), (.slice none 0 0)] [(0, 1, (.tmp 27)), (1, 1, (.tmp 29)), (2, 1, (.tmp 31)), (3, 1, (.tmp 33)), (4, 1, (.tmp 35))], none⟩
          (.m ⟨some 37, .box 93 (.tmp 36), none⟩
          (.m ⟨none, .st (.tmp 8) (.tmp 37), none⟩
          .done)))))
         (.m ⟨some 33, .mk 3 1 8 [(.int .i64 0)] (.tmp 32) (.tmp 32), none⟩
          (.m ⟨some 29, .mk 3 1 8 [(.int .i64 0)] (.tmp 28) (.tmp 28), none⟩
          (.f ⟨some 36, .bld [(.slice none 0 0), (.slice none 0 0), (.slice none 0 0), (.slice none 0 0), (.slice none 0 0)] [(0, 1, (.tmp 27)), (1, 1, (.tmp 29)), (2, 1, (.tmp 31)), (3, 1, (.tmp 33)), (4, 1, (.tmp 35))], none⟩
          (.m ⟨some 37, .box 93 (.tmp 36), none⟩
          (.m ⟨none, .st (.tmp 8) (.tmp 37), none⟩
          .done))))))))))
      (.both (.m ⟨some 33, .mk 3 1 8 [(.int .i64 0)] (.tmp 32) (.tmp 32), none⟩
        (.both (.m ⟨some 29, .mk 3 1 8 [(.int .i64 0)] (.tmp 28) (.tmp 28), none⟩
         (.both (.m ⟨some 31, .mk 3 1 8 [(.int .i64 0)] (.tmp 30) (.tmp 30), none⟩
          (.f ⟨some 36, .bld [(.slice none 0 0), (.slice none 0 0), (.slice none 0 0), (.slice none 0 0), (.slice none 0 0)] [(0, 1, (.tmp 27)), (1, 1, (.tmp 29)), (2, 1, (.tmp 31)), (3, 1, (.tmp 33)), (4, 1, (.tmp 35))], none⟩
          (.both (.m ⟨some 37, .box 93 (.tmp 36), none⟩
           (.m ⟨some 8, .new 74 (.pointer none), none⟩
           (.m ⟨none, .st (.tmp 8) (.tmp 37), none⟩
           .done)))
          (.m ⟨some 8, .new 74 (.pointer none), none⟩
           (.m ⟨some 37, .box 93 (.tmp 36), none⟩
           (.m ⟨none, .st (.tmp 8) (.tmp 37), none⟩
           .done))))))
         (.m ⟨some 8, .new 74 (.pointer none), none⟩
          (.m ⟨some 31, .mk 3 1 8 [(.int .i64 0)] (.tmp 30) (.tmp 30), none⟩
          (.f ⟨some 36, .bld [(.slice none 0 0), (.slice none 0 0), (.slice none 0 0), (.slice none 0 0), (.slice none 0 0)] [(0, 1, (.tmp 27)), (1, 1, (.tmp 29)), (2, 1, (.tmp 31)), (3, 1, (.tmp 33)), (4, 1, (.tmp 35))], none⟩
          (.m ⟨some 37, .box 93 (.tmp 36), none⟩
          (.m ⟨none, .st (.tmp 8) (.tmp 37), none⟩
          .done)))))))
        (.both (.m ⟨some 31, .mk 3 1 8 [(.int .i64 0)] (.tmp 30) (.tmp 30), none⟩
          (.both (.m ⟨some 29, .mk 3 1 8 [(.int .i64 0)] (.tmp 28) (.tmp 28), none⟩
           (.f ⟨some 36, .bld [(.slice none 0 0), (.slice none 0 0), (.slice none 0 0), (.slice none 0 0), (.slice none 0 0)] [(0, 1, (.tmp 27)), (1, 1, (.tmp 29)), (2, 1, (.tmp 31)), (3, 1, (.tmp 33)), (4, 1, (.tmp 35))], none⟩
           (.both (.m ⟨some 37, .box 93 (.tmp 36), none⟩
            (.m ⟨some 8, .new 74 (.pointer none), none⟩
            (.m ⟨none, .st (.tmp 8) (.tmp 37), none⟩
            .done)))
           (.m ⟨some 8, .new 74 (.pointer none), none⟩
            (.m ⟨some 37, .box 93 (.tmp 36), none⟩
            (.m ⟨none, .st (.tmp 8) (.tmp 37), none⟩
            .done))))))
          (.m ⟨some 8, .new 74 (.pointer none), none⟩
           (.m ⟨some 29, .mk 3 1 8 [(.int .i64 0)] (.tmp 28) (.tmp 28), none⟩
           (.f ⟨some 36, .bld [(.slice none 0 0), (.slice none 0 0), (.slice none 0 0), (.slice none 0 0), (.slice none 0 0)] [(0, 1, (.tmp 27)), (1, 1, (.tmp 29)), (2, 1, (.tmp 31)), (3, 1, (.tmp 33)), (4, 1, (.tmp 35))], none⟩
           (.m ⟨some 37, .box 93 (.tmp 36), none⟩
           (.m ⟨none, .st (.tmp 8) (.tmp 37), none⟩
           .done)))))))
         (.m ⟨some 8, .new 74 (.pointer none), none⟩
          (.both (.m ⟨some 29, .mk 3 1 8 [(.int .i64 0)] (.tmp 28) (.tmp 28), none⟩
           (.m ⟨some 31, .mk 3 1 8 [(.int .i64 0)] (.tmp 30) (.tmp 30), none⟩
           (.f ⟨some 36, .bld [(.slice none 0 0), (.slice none 0 0), (.slice none 0 0), (.slice none 0 0), (.slice none 0 0)] [(0, 1, (.tmp 27)), (1, 1, (.tmp 29)), (2, 1, (.tmp 31)), (3, 1, (.tmp 33)), (4, 1, (.tmp 35))], none⟩
           (.m ⟨some 37, .box 93 (.tmp 36), none⟩
           (.m ⟨none, .st (.tmp 8) (.tmp 37), none⟩
           .done)))))
          (.m ⟨some 31, .mk 3 1 8 [(.int .i64 0)] (.tmp 30) (.tmp 30), none⟩
           (.m ⟨some 29, .mk 3 1 8 [(.int .i64 0)] (.tmp 28) (.tmp 28), none⟩
           (.f ⟨some 36, .bld [(.slice none 0 0), (.slice none 0 0), (.slice none 0 0), (.slice none 0 0), (.slice none 0 0)] [(0, 1, (.tmp 27)), (1, 1, (.tmp 29)), (2, 1, (.tmp 31)), (3, 1, (.tmp 33)), (4, 1, (.tmp 35))], none⟩
           (.m ⟨some 37, .box 93 (.tmp 36), none⟩
           (.m ⟨none, .st (.tmp 8) (.tmp 37), none⟩
           .done))))))))))
       (.m ⟨some 8, .new 74 (.pointer none), none⟩
        (.both (.m ⟨some 29, .mk 3 1 8 [(.int .i64 0)] (.tmp 28) (.tmp 28), none⟩
         (.both (.m ⟨some 31, .mk 3 1 8 [(.int .i64 0)] (.tmp 30) (.tmp 30), none⟩
          (.m ⟨some 33, .mk 3 1 8 [(.int .i64 0)] (.tmp 32) (.tmp 32), none⟩
          (.f ⟨some 36, .bld [(.slice none 0 0), (.slice none 0 0), (.slice none 0 0), (.slice none 0 0), (.slice none 0 0)] [(0, 1, (.tmp 27)), (1, 1, (.tmp 29)), (2, 1, (.tmp 31)), (3, 1, (.tmp 33)), (4, 1, (.tmp 35))], none⟩
          (.m ⟨some 37, .box 93 (.tmp 36), none⟩
          (.m ⟨none, .st (.tmp 8) (.tmp 37), none⟩
          .done)))))
         (.m ⟨some 33, .mk 3 1 8 [(.int .i64 0)] (.tmp 32) (.tmp 32), none⟩
          (.m ⟨some 31, .mk 3 1 8 [(.int .i64 0)] (.tmp 30) (.tmp 30), none⟩
          (.f ⟨some 36, .bld [(.slice none 0 0), (.slice none 0 0), (.slice none 0 0), (.slice none 0 0), (.slice none 0 0)] [(0, 1, (.tmp 27)), (1, 1, (.tmp 29)), (2, 1, (.tmp 31)), (3, 1, (.tmp 33)), (4, 1, (.tmp 35))], none⟩
          (.m ⟨some 37, .box 93 (.tmp 36), none⟩
          (.m ⟨none, .st (.tmp 8) (.tmp 37), none⟩
          .done)))))))
        (.both (.m ⟨some 31, .mk 3 1 8 [(.int .i64 0)] (.tmp 30) (.tmp 30), none⟩
          (.both (.m ⟨some 29, .mk 3 1 8 [(.int .i64 0)] (.tmp 28) (.tmp 28), none⟩
           (.m ⟨some 33, .mk 3 1 8 [(.int .i64 0)] (.tmp 32) (.tmp 32), none⟩
           (.f ⟨some 36, .bld [(.slice none 0 0), (.slice none 0 0), (.slice none 0 0), (.slice none 0 0), (.slice none 0 0)] [(0, 1, (.tmp 27)), (1, 1, (.tmp 29)), (2, 1, (.tmp 31)), (3, 1, (.tmp 33)), (4, 1, (.tmp 35))], none⟩
           (.m ⟨some 37, .box 93 (.tmp 36), none⟩
           (.m ⟨none, .st (.tmp 8) (.tmp 37), none⟩
           .done)))))
          (.m ⟨some 33, .mk 3 1 8 [(.int .i64 0)] (.tmp 32) (.tmp 32), none⟩
           (.m ⟨some 29, .mk 3 1 8 [(.int .i64 0)] (.tmp 28) (.tmp 28), none⟩
           (.f ⟨some 36, .bld [(.slice none 0 0), (.slice none 0 0), (.slice none 0 0), (.slice none 0 0), (.slice none 0 0)] [(0, 1, (.tmp 27)), (1, 1, (.tmp 29)), (2, 1, (.tmp 31)), (3, 1, (.tmp 33)), (4, 1, (.tmp 35))], none⟩
           (.m ⟨some 37, .box 93 (.tmp 36), none⟩
           (.m ⟨none, .st (.tmp 8) (.tmp 37), none⟩
           .done)))))))
         (.m ⟨some 33, .mk 3 1 8 [(.int .i64 0)] (.tmp 32) (.tmp 32), none⟩
          (.both (.m ⟨some 29, .mk 3 1 8 [(.int .i64 0)] (.tmp 28) (.tmp 28), none⟩
           (.m ⟨some 31, .mk 3 1 8 [(.int .i64 0)] (.tmp 30) (.tmp 30), none⟩
           (.f ⟨some 36, .bld [(.slice none 0 0), (.slice none 0 0), (.slice none 0 0), (.slice none 0 0), (.slice none 0 0)] [(0, 1, (.tmp 27)), (1, 1, (.tmp 29)), (2, 1, (.tmp 31)), (3, 1, (.tmp 33)), (4, 1, (.tmp 35))], none⟩
           (.m ⟨some 37, .box 93 (.tmp 36), none⟩
           (.m ⟨none, .st (.tmp 8) (.tmp 37), none⟩
           .done)))))
          (.m ⟨some 31, .mk 3 1 8 [(.int .i64 0)] (.tmp 30) (.tmp 30), none⟩
           (.m ⟨some 29, .mk 3 1 8 [(.int .i64 0)] (.tmp 28) (.tmp 28), none⟩
           (.f ⟨some 36, .bld [(.slice none 0 0), (.slice none 0 0), (.slice none 0 0), (.slice none 0 0), (.slice none 0 0)] [(0, 1, (.tmp 27)), (1, 1, (.tmp 29)), (2, 1, (.tmp 31)), (3, 1, (.tmp 33)), (4, 1, (.tmp 35))], none⟩
           (.m ⟨some 37, .box 93 (.tmp 36), none⟩
           (.m ⟨none, .st (.tmp 8) (.tmp 37), none⟩
           .done))))))))))))))
    (.m ⟨some 8, .new 74 (.pointer none), none⟩
     (.both (.m ⟨some 29, .mk 3 1 8 [(.int .i64 0)] (.tmp 28) (.tmp 28), none⟩
      (.both (.m ⟨some 31, .mk 3 1 8 [(.int .i64 0)] (.tmp 30) (.tmp 30), none⟩
       (.both (.m ⟨some 33, .mk 3 1 8 [(.int .i64 0)] (.tmp 32) (.tmp 32), none⟩
        (.m ⟨some 35, .mk 3 1 8 [(.int .i64 0)] (.tmp 34) (.tmp 34), none⟩
        (.f ⟨some 36, .bld [(.slice none 0 0), (.slice none 0 0), (.slice none 0 0), (.slice none 0 0), (.slice none 0 0)] [(0, 1, (.tmp 27)), (1, 1, (.tmp 29)), (2, 1, (.tmp 31)), (3, 1, (.tmp 33)), (4, 1, (.tmp 35))], none⟩
        (.m ⟨some 37, .box 93 (.tmp 36), none⟩
        (.m ⟨none, .st (.tmp 8) (.tmp 37), none⟩
        .done)))))
       (.m ⟨some 35, .mk 3 1 8 [(.int .i64 0)] (.tmp 34) (.tmp 34), none⟩
        (.m ⟨some 33, .mk 3 1 8 [(.int .i64 0)] (.tmp 32) (.tmp 32), none⟩
        (.f ⟨some 36, .bld [(.slice none 0 0), (.slice none 0 0), (.slice none 0 0), (.slice none 0 0), (.slice none 0 0)] [(0, 1, (.tmp 27)), (1, 1, (.tmp 29)), (2, 1, (.tmp 31)), (3, 1, (.tmp 33)), (4, 1, (.tmp 35))], none⟩
        (.m ⟨some 37, .box 93 (.tmp 36), none⟩
        (.m ⟨none, .st (.tmp 8) (.tmp 37), none⟩
        .done)))))))
      (.both (.m ⟨some 33, .mk 3 1 8 [(.int .i64 0)] (.tmp 32) (.tmp 32), none⟩
        (.both (.m ⟨some 31, .mk 3 1 8 [(.int .i64 0)] (.tmp 30) (.tmp 30), none⟩
         (.m ⟨some 35, .mk 3 1 8 [(.int .i64 0)] (.tmp 34) (.tmp 34), none⟩
         (.f ⟨some 36, .bld [(.slice none 0 0), (.slice none 0 0), (.slice none 0 0), (.slice none 0 0), (.slice none 0 0)] [(0, 1, (.tmp 27)), (1, 1, (.tmp 29)), (2, 1, (.tmp 31)), (3, 1, (.tmp 33)), (4, 1, (.tmp 35))], none⟩
         (.m ⟨some 37, .box 93 (.tmp 36), none⟩
         (.m ⟨none, .st (.tmp 8) (.tmp 37), none⟩
         .done)))))
        (.m ⟨some 35, .mk 3 1 8 [(.int .i64 0)] (.tmp 34) (.tmp 34), none⟩
         (.m ⟨some 31, .mk 3 1 8 [(.int .i64 0)] (.tmp 30) (.tmp 30), none⟩
         (.f ⟨some 36, .bld [(.slice none 0 0), (.slice none 0 0), (.slice none 0 0), (.slice none 0 0), (.slice none 0 0)] [(0, 1, (.tmp 27)), (1, 1, (.tmp 29)), (2, 1, (.tmp 31)), (3, 1, (.tmp 33)), (4, 1, (.tmp 35))], none⟩
         (.m ⟨some 37, .box 93 (.tmp 36), none⟩
         (.m ⟨none, .st (.tmp 8) (.tmp 37), none⟩
         .done)))))))
       (.m ⟨some 35, .mk 3 1 8 [(.int .i64 0)] (.tmp 34) (.tmp 34), none⟩
        (.both (.m ⟨some 31, .mk 3 1 8 [(.int .i64 0)] (.tmp 30) (.tmp 30), none⟩
         (.m ⟨some 33, .mk 3 1 8 [(.int .i64 0)] (.tmp 32) (.tmp 32), none⟩
         (.f ⟨some 36, .bld [(.slice none 0 0), (.slice none 0 0), (.slice none 0 0), (.slice none 0 0), (.slice none 0 0)] [(0, 1, (.tmp 27)), (1, 1, (.tmp 29)), (2, 1, (.tmp 31)), (3, 1, (.tmp 33)), (4, 1, (.tmp 35))], none⟩
         (.m ⟨some 37, .box 93 (.tmp 36), none⟩
         (.m ⟨none, .st (.tmp 8) (.tmp 37), none⟩
         .done)))))
        (.m ⟨some 33, .mk 3 1 8 [(.int .i64 0)] (.tmp 32) (.tmp 32), none⟩
         (.m ⟨some 31, .mk 3 1 8 [(.int .i64 0)] (.tmp 30) (.tmp 30), none⟩
         (.f ⟨some 36, .bld [(.slice none 0 0), (.slice none 0 0), (.slice none 0 0), (.slice none 0 0), (.slice none 0 0)] [(0, 1, (.tmp 27)), (1, 1, (.tmp 29)), (2, 1, (.tmp 31)), (3, 1, (.tmp 33)), (4, 1, (.tmp 35))], none⟩
         (.m ⟨some 37, .box 93 (.tmp 36), none⟩
         (.m ⟨none, .st (.tmp 8) (.tmp 37), none⟩
         .done))))))))))
     (.both (.m ⟨some 31, .mk 3 1 8 [(.int .i64 0)] (.tmp 30) (.tmp 30), none⟩
       (.both (.m ⟨some 29, .mk 3 1 8 [(.int .i64 0)] (.tmp 28) (.tmp 28), none⟩
        (.both (.m ⟨some 33, .mk 3 1 8 [(.int .i64 0)] (.tmp 32) (.tmp 32), none⟩
         (.m ⟨some 35, .mk 3 1 8 [(.int .i64 0)] (.tmp 34) (.tmp 34), none⟩
         (.f ⟨some 36, .bld [(.slice none 0 0), (.slice none 0 0), (.slice none 0 0), (.slice none 0 0), (.slice none 0 0)] [(0, 1, (.tmp 27)), (1, 1, (.tmp 29)), (2, 1, (.tmp 31)), (3, 1, (.tmp 33)), (4, 1, (.tmp 35))], none⟩
         (.m ⟨some 37, .box 93 (.tmp 36), none⟩
         (.m ⟨none, .st (.tmp 8) (.tmp 37), none⟩
         .done)))))
        (.m ⟨some 35, .mk 3 1 8 [(.int .i64 0)] (.tmp 34) (.tmp 34), none⟩
         (.m ⟨some 33, .mk 3 1 8 [(.int .i64 0)] (.tmp 32) (.tmp 32), none⟩
         (.f ⟨some 36, .bld [(.slice none 0 0), (.slice none 0 0), (.slice none 0 0), (.slice none 0 0), (.slice none 0 0)] [(0, 1, (.tmp 27)), (1, 1, (.tmp 29)), (2, 1, (.tmp 31)), (3, 1, (.tmp 33)), (4, 1, (.tmp 35))], none⟩
         (.m ⟨some 37, .box 93 (.tmp 36), none⟩
         (.m ⟨none, .st (.tmp 8) (.tmp 37), none⟩
         .done)))))))
       (.both (.m ⟨some 33, .mk 3 1 8 [(.int .i64 0)] (.tmp 32) (.tmp 32), none⟩
         (.both (.m ⟨some 29, .mk 3 1 8 [(.int .i64 0)] (.tmp 28) (.tmp 28), none⟩
          (.m ⟨some 35, .mk 3 1 8 [(.int .i64 0)] (.tmp 34) (.tmp 34), none⟩
          (.f ⟨some 36, .bld [(.slice none 0 0), (.slice none 0 0), (.slice none 0 0), (.slice none 0 0), (.slice none 0 0)] [(0, 1, (.tmp 27)), (1, 1, (.tmp 29)), (2, 1, (.tmp 31)), (3, 1, (.tmp 33)), (4, 1, (.tmp 35))], none⟩
          (.m ⟨some 37, .box 93 (.tmp 36), none⟩
          (.m ⟨none, .st (.tmp 8) (.tmp 37), none⟩
          .done)))))
         (.m ⟨some 35, .mk 3 1 8 [(.int .i64 0)] (.tmp 34) (.tmp 34), none⟩
          (.m ⟨some 29, .mk 3 1 8 [(.int .i64 0)] (.tmp 28) (.tmp 28), none⟩
          (.f ⟨some 36, .bld [(.slice none 0 0), (.slice none 0 0), (.slice none 0 0), (.slice none 0 0), (.slice none 0 0)] [(0, 1, (.tmp 27)), (1, 1, (.tmp 29)), (2, 1, (.tmp 31)), (3, 1, (.tmp 33)), (4, 1, (.tmp 35))], none⟩
          (.m ⟨some 37, .box 93 (.tmp 36), none⟩
          (.m ⟨none, .st (.tmp 8) (.tmp 37), none⟩
          .done)))))))
        (.m ⟨some 35, .mk 3 1 8 [(.int .i64 0)] (.tmp 34) (.tmp 34), none⟩
         (.both (.m ⟨some 29, .mk 3 1 8 [(.int .i64 0)] (.tmp 28) (.tmp 28), none⟩
          (.m ⟨some 33, .mk 3 1 8 [(.int .i64 0)] (.tmp 32) (.tmp 32), none⟩
          (.f ⟨some 36, .bld [(.slice none 0 0), (.slice none 0 0), (.slice none 0 0), (.slice none 0 0), (.slice none 0 0)] [(0, 1, (.tmp 27)), (1, 1, (.tmp 29)), (2, 1, (.tmp 31)), (3, 1, (.tmp 33)), (4, 1, (.tmp 35))], none⟩
          (.m ⟨some 37, .box 93 (.tmp 36), none⟩
          (.m ⟨none, .st (.tmp 8) (.tmp 37), none⟩
          .done)))))
         (.m ⟨some 33, .mk 3 1 8 [(.int .i64 0)] (.tmp 32) (.tmp 32), none⟩
          (.m ⟨some 29, .mk 3 1 8 [(.int .i64 0)] (.tmp 28) (.tmp 28), none⟩
          (.f ⟨some 36, .bld [(.slice none 0 0), (.slice none 0 0), (.slice none 0 0), (.slice none 0 0), (.slice none 0 0)] [(0, 1, (.tmp 27)), (1, 1, (.tmp 29)), (2, 1, (.tmp 31)), (3, 1, (.tmp 33)), (4, 1, (.tmp 35))], none⟩
          (.m ⟨some 37, .box 93 (.tmp 36), none⟩
          (.m ⟨none, .st (.tmp 8) (.tmp 37), none⟩
          .done))))))))))
      (.both (.m ⟨some 33, .mk 3 1 8 [(.int .i64 0)] (.tmp 32) (.tmp 32), none⟩
        (.both (.m ⟨some 29, .mk 3 1 8 [(.int .i64 0)] (.tmp 28) (.tmp 28), none⟩
         (.both (.m ⟨some 31, .mk 3 1 8 [(.int .i64 0)] (.tmp 30) (.tmp 30), none⟩
          (.m ⟨some 35, .mk 3 1 8 [(.int .i64 0)] (.tmp 34) (.tmp 34), none⟩
          (.f ⟨some 36, .bld [(.slice none 0 0), (.slice none 0 0), (.slice none 0 0), (.slice none 0 0), (.slice none 0 0)] [(0, 1, (.tmp 27)), (1, 1, (.tmp 29)), (2, 1, (.tmp 31)), (3, 1, (.tmp 33)), (4, 1, (.tmp 35))], none⟩
          (.m ⟨some 37, .box 93 (.tmp 36), none⟩
          (.m ⟨none, .st (.tmp 8) (.tmp 37), none⟩
          .done)))))
         (.m ⟨some 35, .mk 3 1 8 [(.int .i64 0)] (.tmp 34) (.tmp 34), none⟩
          (.m ⟨some 31, .mk 3 1 8 [(.int .i64 0)] (.tmp 30) (.tmp 30), none⟩
          (.f ⟨some 36, .bld [(.slice none 0 0), (.slice none 0 0), (.slice none 0 0), (.slice none 0 0), (.slice none 0 0)] [(0, 1, (.tmp 27)), (1, 1, (.tmp 29)), (2, 1, (.tmp 31)), (3, 1, (.tmp 33)), (4, 1, (.tmp 35))], none⟩
          (.m ⟨some 37, .box 93 (.tmp 36), none⟩
          (.m ⟨none, .st (.tmp 8) (.tmp 37), none⟩
          .done)))))))
        (.both (.m ⟨some 31, .mk 3 1 8 [(.int .i64 0)] (.tmp 30) (.tmp 30), none⟩
          (.both (.m ⟨some 29, .mk 3 1 8 [(.int .i64 0)] (.tmp 28) (.tmp 28), none⟩
           (.m ⟨some 35, .mk 3 1 8 [(.int .i64 0)] (.tmp 34) (.tmp 34), none⟩
           (.f ⟨some 36, .bld [(.slice none 0 0), (.slice none 0 0), (.slice none 0 0), (.slice none 0 0), (.slice none 0 0)] [(0, 1, (.tmp 27)), (1, 1, (.tmp 29)), (2, 1, (.tmp 31)), (3, 1, (.tmp 33)), (4, 1, (.tmp 35))], none⟩
           (.m ⟨some 37, .box 93 (.tmp 36), none⟩
           (.m ⟨none, .st (.tmp 8) (.tmp 37), none⟩
           .done)))))
          (.m ⟨some 35, .mk 3 1 8 [(.int .i64 0)] (.tmp 34) (.tmp 34), none⟩
           (.m ⟨some 29, .mk 3 1 8 [(.int .i64 0)] (.tmp 28) (.tmp 28), none⟩
           (.f ⟨some 36, .bld [(.slice none 0 0), (.slice none 0 0), (.slice none 0 0), (.slice none 0 0), (.slice none 0 0)] [(0, 1, (.tmp 27)), (1, 1, (.tmp 29)), (2, 1, (.tmp 31)), (3, 1, (.tmp 33)), (4, 1, (.tmp 35))], none⟩
           (.m ⟨some 37, .box 93 (.tmp 36), none⟩
           (.m ⟨none, .st (.tmp 8) (.tmp 37), none⟩
           .done)))))))
         (.m ⟨some 35, .mk 3 1 8 [(.int .i64 0)] (.tmp 34) (.tmp 34), none⟩
          (.both (.m ⟨some 29, .mk 3 1 8 [(.int .i64 0)] (.tmp 28) (.tmp 28), none⟩
           (.m ⟨some 31, .mk 3 1 8 [(.int .i64 0)] (.tmp 30) (.tmp 30), none⟩
           (.f ⟨some 36, .bld [(.slice none 0 0), (.slice none 0 0), (.slice none 0 0), (.slice none 0 0), (.slice none 0 0)] [(0, 1, (.tmp 27)), (1, 1, (.tmp 29)), (2, 1, (.tmp 31)), (3, 1, (.tmp 33)), (4, 1, (.tmp 35))], none⟩
           (.m ⟨some 37, .box 93 (.tmp 36), none⟩
           (.m ⟨none, .st (.tmp 8) (.tmp 37), none⟩
           .done)))))
          (.m ⟨some 31, .mk 3 1 8 [(.int .i64 0)] (.tmp 30) (.tmp 30), none⟩
           (.m ⟨some 29, .mk 3 1 8 [(.int .i64 0)] (.tmp 28) (.tmp 28), none⟩
           (.f ⟨some 36, .bld [(.slice none 0 0), (.slice none 0 0), (.slice none 0 0), (.slice none 0 0), (.slice none 0 0)] [(0, 1, (.tmp 27)), (1, 1, (.tmp 29)), (2, 1, (.tmp 31)), (3, 1, (.tmp 33)), (4, 1, (.tmp 35))], none⟩
           (.m ⟨some 37, .box 93 (.tmp 36), none⟩
           (.m ⟨none, .st (.tmp 8) (.tmp 37), none⟩
           .done))))))))))
       (.m ⟨some 35, .mk 3 1 8 [(.int .i64 0)] (.tmp 34) (.tmp 34), none⟩
        (.both (.m ⟨some 29, .mk 3 1 8 [(.int .i64 0)] (.tmp 28) (.tmp 28), none⟩
         (.both (.m ⟨some 31, .mk 3 1 8 [(.int .i64 0)] (.tmp 30) (.tmp 30), none⟩
          (.m ⟨some 33, .mk 3 1 8 [(.int .i64 0)] (.tmp 32) (.tmp 32), none⟩
          (.f ⟨some 36, .bld [(.slice none 0 0), (.slice none 0 0), (.slice none 0 0), (.slice none 0 0), (.slice none 0 0)] [(0, 1, (.tmp 27)), (1, 1, (.tmp 29)), (2, 1, (.tmp 31)), (3, 1, (.tmp 33)), (4, 1, (.tmp 35))], none⟩
          (.m ⟨some 37, .box 93 (.tmp 36), none⟩
          (.m ⟨none, .st (.tmp 8) (.tmp 37), none⟩
          .done)))))
         (.m ⟨some 33, .mk 3 1 8 [(.int .i64 0)] (.tmp 32) (.tmp 32), none⟩
          (.m ⟨some 31, .mk 3 1 8 [(.int .i64 0)] (.tmp 30) (.tmp 30), none⟩
          (.f ⟨some 36, .bld [(.slice none 0 0), (.slice none 0 0), (.slice none 0 0), (.slice none 0 0), (.slice none 0 0)] [(0, 1, (.tmp 27)), (1, 1, (.tmp 29)), (2, 1, (.tmp 31)), (3, 1, (.tmp 33)), (4, 1, (.tmp 35))], none⟩
          (.m ⟨some 37, .box 93 (.tmp 36), none⟩
          (.m ⟨none, .st (.tmp 8) (.tmp 37), none⟩
          .done)))))))
        (.both (.m ⟨some 31, .mk 3 1 8 [(.int .i64 0)] (.tmp 30) (.tmp 30), none⟩
          (.both (.m ⟨some 29, .mk 3 1 8 [(.int .i64 0)] (.tmp 28) (.tmp 28), none⟩
           (.m ⟨some 33, .mk 3 1 8 [(.int .i64 0)] (.tmp 32) (.tmp 32), none⟩
           (.f ⟨some 36, .bld [(.slice none 0 0), (.slice none 0 0), (.slice none 0 0), (.slice none 0 0), (.slice none 0 0)] [(0, 1, (.tmp 27)), (1, 1, (.tmp 29)), (2, 1, (.tmp 31)), (3, 1, (.tmp 33)), (4, 1, (.tmp 35))], none⟩
           (.m ⟨some 37, .box 93 (.tmp 36), none⟩
           (.m ⟨none, .st (.tmp 8) (.tmp 37), none⟩
           .done)))))
          (.m ⟨some 33, .mk 3 1 8 [(.int .i64 0)] (.tmp 32) (.tmp 32), none⟩
           (.m ⟨some 29, .mk 3 1 8 [(.int .i64 0)] (.tmp 28) (.tmp 28), none⟩
           (.f ⟨some 36, .bld [(.slice none 0 0), (.slice none 0 0), (.slice none 0 0), (.slice none 0 0), (.slice none 0 0)] [(0, 1, (.tmp 27)), (1, 1, (.tmp 29)), (2, 1, (.tmp 31)), (3, 1, (.tmp 33)), (4, 1, (.tmp 35))], none⟩
           (.m ⟨some 37, .box 93 (.tmp 36), none⟩
           (.m ⟨none, .st (.tmp 8) (.tmp 37), none⟩
           .done)))))))
         (.m ⟨some 33, .mk 3 1 8 [(.int .i64 0)] (.tmp 32) (.tmp 32), none⟩
          (.both (.m ⟨some 29, .mk 3 1 8 [(.int .i64 0)] (.tmp 28) (.tmp 28), none⟩
           (.m ⟨some 31, .mk 3 1 8 [(.int .i64 0)] (.tmp 30) (.tmp 30), none⟩
           (.f ⟨some 36, .bld [(.slice none 0 0), (.slice none 0 0), (.slice none 0 0), (.slice none 0 0), (.slice none 0 0)] [(0, 1, (.tmp 27)), (1, 1, (.tmp 29)), (2, 1, (.tmp 31)), (3, 1, (.tmp 33)), (4, 1, (.tmp 35))], none⟩
           (.m ⟨some 37, .box 93 (.tmp 36), none⟩
           (.m ⟨none, .st (.tmp 8) (.tmp 37), none⟩
           .done)))))
          (.m ⟨some 31, .mk 3 1 8 [(.int .i64 0)] (.tmp 30) (.tmp 30), none⟩
           (.m ⟨some 29, .mk 3 1 8 [(.int .i64 0)] (.tmp 28) (.tmp 28), none⟩
           (.f ⟨some 36, .bld [(.slice none 0 0), (.slice none 0 0), (.slice none 0 0), (.slice none 0 0), (.slice none 0 0)] [(0, 1, (.tmp 27)), (1, 1, (.tmp 29)), (2, 1, (.tmp 31)), (3, 1, (.tmp 33)), (4, 1, (.tmp 35))], none⟩
           (.m ⟨some 37, .box 93 (.tmp 36), none⟩
           (.m ⟨none, .st (.tmp 8) (.tmp 37), none⟩
           .done))))))))))))))))))))))))
 (.cut (.draw (.f ⟨some 38, .mov (.tmp 1), none⟩
 (.f ⟨some 40, .mov (.tmp 1), none⟩
 (.both (.m ⟨some 39, .mk 3 1 8 [(.int .i64 0)] (.tmp 38) (.tmp 38), none⟩
  (.both (.m ⟨some 41, .mk 3 1 8 [(.int .i64 0)] (.tmp 40) (.tmp 40), none⟩
   (.m ⟨some 10, .new 22 (.slice none 0 0), none⟩
   (.f ⟨some 9, .mov (.tmp 39), none⟩
   (.m ⟨none, .st (.tmp 10) (.tmp 41), none⟩
   .done))))
  (.m ⟨some 10, .new 22 (.slice none 0 0), none⟩
   (.f ⟨some 9, .mov (.tmp 39), none⟩
   (.m ⟨some 41, .mk 3 1 8 [(.int .i64 0)] (.tmp 40) (.tmp 40), none⟩
   (.m ⟨none, .st (.tmp 10) (.tmp 41), none⟩
   .done))))))
 (.both (.m ⟨some 41, .mk 3 1 8 [(.int .i64 0)] (.tmp 40) (.tmp 40), none⟩
   (.both (.m ⟨some 39, .mk 3 1 8 [(.int .i64 0)] (.tmp 38) (.tmp 38), none⟩
    (.m ⟨some 10, .new 22 (.slice none 0 0), none⟩
    (.f ⟨some 9, .mov (.tmp 39), none⟩
    (.m ⟨none, .st (.tmp 10) (.tmp 41), none⟩
    .done))))
   (.m ⟨some 10, .new 22 (.slice none 0 0), none⟩
    (.m ⟨some 39, .mk 3 1 8 [(.int .i64 0)] (.tmp 38) (.tmp 38), none⟩
    (.f ⟨some 9, .mov (.tmp 39), none⟩
    (.m ⟨none, .st (.tmp 10) (.tmp 41), none⟩
    .done))))))
  (.m ⟨some 10, .new 22 (.slice none 0 0), none⟩
   (.both (.m ⟨some 39, .mk 3 1 8 [(.int .i64 0)] (.tmp 38) (.tmp 38), none⟩
    (.f ⟨some 9, .mov (.tmp 39), none⟩
    (.m ⟨some 41, .mk 3 1 8 [(.int .i64 0)] (.tmp 40) (.tmp 40), none⟩
    (.m ⟨none, .st (.tmp 10) (.tmp 41), none⟩
    .done))))
   (.m ⟨some 41, .mk 3 1 8 [(.int .i64 0)] (.tmp 40) (.tmp 40), none⟩
    (.m ⟨some 39, .mk 3 1 8 [(.int .i64 0)] (.tmp 38) (.tmp 38), none⟩
    (.f ⟨some 9, .mov (.tmp 39), none⟩
    (.m ⟨none, .st (.tmp 10) (.tmp 41), none⟩
    .done)))))))))))
 (.seq (.seq (.region [
 ⟨some 42, .mov (.tmp 1), none⟩,
 ⟨some 43, .mov (.const (.int .i64 0)), none⟩])
 (.block 0
  (.loop 8998403161720832
   (.seq (.region [
   ⟨some 44, .bin .lss (.tmp 43) (.tmp 42), none⟩])
   (.seq (.cond (.tmp 44)
    .skip
    (.exit 0))
   (.seq (.block 1
    (.seq (.region [
    ⟨some 45, .mov (.tmp 43), none⟩,
    ⟨some 11, .mov (.tmp 45), none⟩])
    (.draw (.f ⟨some 46, .mov (.tmp 9), none⟩
    (.f ⟨some 47, .mov (.tmp 11), none⟩
    (.f ⟨some 49, .mov (.tmp 11), none⟩
    (.f ⟨some 50, .ixs 1 (.tmp 46) (.tmp 47), none⟩
    (.both (.f ⟨some 48, .ld (.tmp 10), none⟩
     (.m ⟨none, .st (.tmp 50) (.const (.int .i64 (-1))), none⟩
     (.f ⟨some 51, .ixs 1 (.tmp 48) (.tmp 49), none⟩
     (.m ⟨none, .st (.tmp 51) (.const (.int .i64 (-1))), none⟩
     .done))))
    (.m ⟨none, .st (.tmp 50) (.const (.int .i64 (-1))), none⟩
     (.f ⟨some 48, .ld (.tmp 10), none⟩
     (.f ⟨some 51, .ixs 1 (.tmp 48) (.tmp 49), none⟩
     (.m ⟨none, .st (.tmp 51) (.const (.int .i64 (-1))), none⟩
     .done))))))))))))
   (.region [
   ⟨some 52, .bin .add (.tmp 43) (.const (.int .i64 1)), none⟩,
   ⟨some 43, .mov (.tmp 52), none⟩])))))))
 (.seq (.seq (.region [
 ⟨some 53, .mov (.tmp 0), none⟩,
 ⟨some 54, .len (.tmp 53), none⟩,
 ⟨some 55, .mov (.const (.int .i64 0)), none⟩])
 (.block 2
  (.loop 664613997892457936415874733121220608
   (.seq (.region [
   ⟨some 56, .bin .lss (.tmp 55) (.tmp 54), none⟩])
   (.seq (.cond (.tmp 56)
    .skip
    (.exit 2))
   (.seq (.block 3
    (.seq (.region [
    ⟨some 57, .mov (.tmp 55), none⟩,
    ⟨some 58, .ixs 6 (.tmp 53) (.tmp 55), none⟩,
    ⟨some 59, .ldN 6 (.tmp 58), none⟩,
    ⟨some 13, .new 42 (.agg #[.int .i64 0, .int .i64 0, .int .i64 0, .int .i64 0, .slice none 0 0, .slice none 0 0]), none⟩,
    ⟨some 12, .mov (.tmp 57), none⟩,
    ⟨none, .stN 6 (.tmp 13) (.tmp 59), none⟩])
    (.cut (.draw (.f ⟨some 60, .ld (.tmp 8), none⟩
    (.f ⟨some 61, .nilc (.tmp 60), none⟩
    (.f ⟨some 62, .fad 1 (.tmp 61), none⟩
    (.f ⟨some 63, .ld (.tmp 62), none⟩
    (.f ⟨some 64, .mov (.tmp 12), none⟩
    (.f ⟨some 69, .mov (.tmp 12), none⟩
    (.f ⟨some 74, .mov (.tmp 12), none⟩
    (.f ⟨some 75, .ld (.tmp 10), none⟩
    (.f ⟨some 76, .fad 1 (.tmp 13), none⟩
    (.f ⟨some 77, .ld (.tmp 76), none⟩
    (.f ⟨some 78, .ixs 1 (.tmp 75) (.tmp 77), none⟩
    (.f ⟨some 79, .ld (.tmp 78), none⟩
    (.both (.f ⟨some 65, .ld (.tmp 8), none⟩
     (.f ⟨some 66, .nilc (.tmp 65), none⟩
     (.f ⟨some 67, .fad 2 (.tmp 66), none⟩
     (.f ⟨some 68, .ld (.tmp 67), none⟩
     (.f ⟨some 70, .ld (.tmp 8), none⟩
     (.f ⟨some 71, .nilc (.tmp 70), none⟩
     (.f ⟨some 72, .fad 4 (.tmp 71), none⟩
     (.f ⟨some 73, .ld (.tmp 72), none⟩
     (.f ⟨some 80, .ixs 1 (.tmp 63) (.tmp 64), none⟩
     (.m ⟨none, .st (.tmp 80) (.const (.int .i64 (-1))), none⟩
     (.f ⟨some 81, .ixs 1 (.tmp 68) (.tmp 69), none⟩
     (.m ⟨none, .st (.tmp 81) (.const (.int .i64 (-1))), none⟩
     (.f ⟨some 82, .ixs 1 (.tmp 73) (.tmp 74), none⟩
     (.m ⟨none, .st (.tmp 82) (.tmp 79), none⟩
     .done))))))))))))))
    (.f ⟨some 70, .ld (.tmp 8), none⟩
     (.f ⟨some 71, .nilc (.tmp 70), none⟩
     (.f ⟨some 72, .fad 4 (.tmp 71), none⟩
     (.f ⟨some 73, .ld (.tmp 72), none⟩
     (.f ⟨some 65, .ld (.tmp 8), none⟩
     (.f ⟨some 66, .nilc (.tmp 65), none⟩
     (.f ⟨some 67, .fad 2 (.tmp 66), none⟩
     (.f ⟨some 68, .ld (.tmp 67), none⟩
     (.f ⟨some 80, .ixs 1 (.tmp 63) (.tmp 64), none⟩
     (.m ⟨none, .st (.tmp 80) (.const (.int .i64 (-1))), none⟩
     (.f ⟨some 81, .ixs 1 (.tmp 68) (.tmp 69), none⟩
     (.m ⟨none, .st (.tmp 81) (.const (.int .i64 (-1))), none⟩
     (.f ⟨some 82, .ixs 1 (.tmp 73) (.tmp 74), none⟩
     (.m ⟨none, .st (.tmp 82) (.tmp 79), none⟩
     .done))))))))))))))))))))))))))))
    (.seq (.seq (.region [
    ⟨some 83, .fad 2 (.tmp 13), none⟩,
    ⟨some 84, .ld (.tmp 83), none⟩,
    ⟨some 85, .bin .eql (.tmp 84) (.const (.int .i64 4)), none⟩])
    (.cond (.tmp 85)
     (.seq (.draw (.f ⟨some 86, .ld (.tmp 8), none⟩
     (.f ⟨some 87, .nilc (.tmp 86), none⟩
     (.f ⟨some 88, .fad 1 (.tmp 87), none⟩
     (.f ⟨some 89, .ld (.tmp 88), none⟩
     (.f ⟨some 90, .mov (.tmp 12), none⟩
     (.f ⟨some 91, .mov (.tmp 9), none⟩
     (.f ⟨some 92, .fad 1 (.tmp 13), none⟩
     (.f ⟨some 93, .ld (.tmp 92), none⟩
     (.f ⟨some 94, .ixs 1 (.tmp 91) (.tmp 93), none⟩
     (.f ⟨some 95, .ld (.tmp 94), none⟩
     (.f ⟨some 96, .ixs 1 (.tmp 89) (.tmp 90), none⟩
     (.m ⟨none, .st (.tmp 96) (.tmp 95), none⟩
     .done)))))))))))))
     (.seq (.draw (.f ⟨some 97, .ld (.tmp 8), none⟩
     (.f ⟨some 98, .nilc (.tmp 97), none⟩
     (.f ⟨some 99, .fad 2 (.tmp 98), none⟩
     (.f ⟨some 100, .ld (.tmp 99), none⟩
     (.f ⟨some 101, .mov (.tmp 9), none⟩
     (.f ⟨some 102, .fad 1 (.tmp 13), none⟩
     (.f ⟨some 103, .ld (.tmp 102), none⟩
     (.f ⟨some 104, .ixs 1 (.tmp 101) (.tmp 103), none⟩
     (.f ⟨some 105, .ld (.tmp 104), none⟩
     (.f ⟨some 106, .mov (.tmp 12), none⟩
     (.f ⟨some 107, .ixs 1 (.tmp 100) (.tmp 105), none⟩
     (.m ⟨none, .st (.tmp 107) (.tmp 106), none⟩
     .done)))))))))))))
     (.region [
     ⟨some 108, .ld (.tmp 10), none⟩,
     ⟨some 109, .fad 1 (.tmp 13), none⟩,
     ⟨some 110, .ld (.tmp 109), none⟩,
     ⟨some 111, .mov (.tmp 12), none⟩,
     ⟨some 112, .ixs 1 (.tmp 108) (.tmp 110), none⟩,
     ⟨none, .st (.tmp 112) (.tmp 111), none⟩])))
     .skip))
    (.region [
    ⟨some 113, .mov (.tmp 9), none⟩,
    ⟨some 114, .fad 1 (.tmp 13), none⟩,
    ⟨some 115, .ld (.tmp 114), none⟩,
    ⟨some 116, .mov (.tmp 12), none⟩,
    ⟨some 117, .ixs 1 (.tmp 113) (.tmp 115), none⟩,
    ⟨none, .st (.tmp 117) (.tmp 116), none⟩])))))
   (.region [
   ⟨some 118, .bin .add (.tmp 55) (.const (.int .i64 1)), none⟩,
   ⟨some 55, .mov (.tmp 118), none⟩])))))))
 (.seq (.seq (.region [
 ⟨some 119, .mov (.tmp 1), none⟩,
 ⟨some 120, .mov (.const (.int .i64 0)), none⟩])
 (.block 4
  (.loop 168811955464684315858783496655603777536
   (.seq (.region [
   ⟨some 121, .bin .lss (.tmp 120) (.tmp 119), none⟩])
   (.seq (.cond (.tmp 121)
    .skip
    (.exit 4))
   (.seq (.block 5
    (.seq (.region [
    ⟨some 122, .mov (.tmp 120), none⟩,
    ⟨some 14, .mov (.tmp 122), none⟩])
    (.region [
    ⟨some 123, .ld (.tmp 10), none⟩,
    ⟨some 124, .mov (.tmp 14), none⟩,
    ⟨some 125, .ixs 1 (.tmp 123) (.tmp 124), none⟩,
    ⟨none, .st (.tmp 125) (.const (.int .i64 (-1))), none⟩])))
   (.region [
   ⟨some 126, .bin .add (.tmp 120) (.const (.int .i64 1)), none⟩,
   ⟨some 120, .mov (.tmp 126), none⟩])))))))
 (.seq (.region [
 ⟨some 127, .mov (.tmp 0), none⟩,
 ⟨some 128, .call 68 [(.tmp 127)], none⟩])
 (.rng (.tmp 128) [129, 130]
  (.seq (.region [
  ⟨some 15, .mov (.tmp 129), none⟩])
  (.region [
  ⟨some 16, .new 42 (.agg #[.int .i64 0, .int .i64 0, .int .i64 0, .int .i64 0, .slice none 0 0, .slice none 0 0]), none⟩,
  ⟨none, .stN 6 (.tmp 16) (.tmp 130), none⟩]))
  (.block 7
   (.seq (.seq (.region [
   ⟨some 131, .fad 2 (.tmp 16), none⟩,
   ⟨some 132, .ld (.tmp 131), none⟩,
   ⟨some 133, .bin .eql (.tmp 132) (.const (.int .i64 4)), none⟩])
   (.cond (.tmp 133)
    (.region [
    ⟨some 134, .ld (.tmp 10), none⟩,
    ⟨some 135, .fad 1 (.tmp 16), none⟩,
    ⟨some 136, .ld (.tmp 135), none⟩,
    ⟨some 137, .mov (.tmp 15), none⟩,
    ⟨some 138, .ixs 1 (.tmp 134) (.tmp 136), none⟩,
    ⟨none, .st (.tmp 138) (.tmp 137), none⟩])
    .skip))
   (.draw (.f ⟨some 139, .ld (.tmp 8), none⟩
   (.f ⟨some 140, .nilc (.tmp 139), none⟩
   (.f ⟨some 141, .fad 3 (.tmp 140), none⟩
   (.f ⟨some 142, .ld (.tmp 141), none⟩
   (.f ⟨some 143, .mov (.tmp 15), none⟩
   (.f ⟨some 144, .ld (.tmp 10), none⟩
   (.f ⟨some 145, .fad 1 (.tmp 16), none⟩
   (.f ⟨some 146, .ld (.tmp 145), none⟩
   (.f ⟨some 147, .ixs 1 (.tmp 144) (.tmp 146), none⟩
   (.f ⟨some 148, .ld (.tmp 147), none⟩
   (.f ⟨some 149, .ixs 1 (.tmp 142) (.tmp 143), none⟩
   (.m ⟨none, .st (.tmp 149) (.tmp 148), none⟩
   .done)))))))))))))))
 (.seq (.region [
 ⟨some 150, .ld (.tmp 8), none⟩,
 ⟨some 4, .mov (.tmp 150), none⟩])
 .ret))))))))))),
 [.tmp 4]⟩
theorem lowtc_order_read : lowFnT Tryd.prog movers 49 = some ⟨irtc_order_read.n, stripT irtc_order_read.body, irtc_order_read.res⟩ := by kernel_rfl
end Go.Proofs.YtofjnldidkiihaaDoor
