/- What the laws share, part 8. No condition. -/
import Derived.Test.YtfompmhncnkcfaaGreatDoorW7
namespace Go.Proofs.YtfompmhncnkcfaaGreatDoor
open Go
set_option maxRecDepth 100000
def ir_layout_CheckScript : IFn := ⟨72,
 (.seq (.region [(jb 1 32 0), (jk 2 0), (jk 3 0), (jk 4 0)])
 (.seq (.seq (.region [(jf 12 0 1), (jL 13 13 12), (jc 14 54 13), (jm 5 14)])
 (.seq (.region [(jm 15 5), (jo 16 (.bin .neq (.tmp 15) (.const (.int .i64 0))))])
 (.cond (.tmp 16)
 (.seq (.region [(jm 17 5), (jk 2 0), (jk 3 0), (jm 4 17)])
 .ret)
 .skip)))
 (.seq (.seq (.region [(jf 18 14 1), (jl 19 18), (jt 20 19), (jo 21 (.call 55 [(.tmp 20), (.const (.int .i64 1)), (.const (.int .i64 16))])), (jo 22 (.not (.tmp 21)))])
 (.cond (.tmp 22)
 (.seq (.region [(jk 2 0), (jk 3 0), (jk 4 54)])
 .ret)
 .skip))
 (.seq (.seq (.region [(jf 23 13 1), (jl 24 23), (jt 25 24), (jf 26 0 1), (jf 27 0 26), (jl 28 27), (jo 29 (.bin .neq (.tmp 25) (.tmp 28)))])
 (.cond (.tmp 29)
 (.seq (.region [(jk 2 0), (jk 3 0), (jk 4 55)])
 .ret)
 .skip))
 (.seq (.seq (.region [(jf 30 14 1), (jl 31 30), (jt 32 31), (jk 33 0)])
 (.block 0
 (.loop 562941363487708
 (.seq (.region [(jw 34 33 32)])
 (.seq (.cond (.tmp 34)
 .skip
 (.exit 0))
 (.seq (.block 1
 (.seq (.region [(jm 35 33), (jx 36 1 31 33), (jl 37 36), (jm 6 35), (jm 7 37)])
 (.seq (.region [(jm 39 7), (jc 40 56 39), (jm 38 40), (je 41 38 0), (je 42 38 1), (jm 8 41), (jm 9 42)])
 (.seq (.region [(jm 43 9), (jo 44 (.bin .neq (.tmp 43) (.const (.int .i64 0))))])
 (.cond (.tmp 44)
 (.seq (.region [(jm 45 6), (jm 46 8), (jm 47 9), (jm 2 45), (jm 3 46), (jm 4 47)])
 .ret)
 .skip)))))
 (.region [(ja 48 33 1), (jm 33 48)])))))))
 (.seq (.seq (.region [(jf 49 15 1), (jl 50 49), (jt 51 50), (jo 52 (.bin .gtr (.tmp 51) (.const (.int .i64 65536))))])
 (.cond (.tmp 52)
 (.seq (.region [(jk 2 0), (jk 3 0), (jk 4 56)])
 .ret)
 .skip))
 (.seq (.seq (.region [(jf 53 15 1), (jl 54 53), (jt 55 54), (jk 56 0)])
 (.block 2
 (.loop 4722294425275607288860
 (.seq (.region [(jw 57 56 55)])
 (.seq (.cond (.tmp 57)
 .skip
 (.exit 2))
 (.seq (.block 3
 (.seq (.region [(jm 58 56), (jx 59 1 54 56), (jl 60 59), (jm 10 58), (jm 11 60)])
 (.seq (.region [(jm 61 11), (jo 62 (.bin .lss (.tmp 61) (.const (.int .i64 0)))), (jm 63 62), (jz 63 (jm 64 11)), (jz 63 (jf 65 14 1)), (jz 63 (jl 66 65)), (jz 63 (jt 67 66)),
 (jz 63 (jo 68 (.bin .geq (.tmp 64) (.tmp 67)))), (jO 69 63 68)])
 (.cond (.tmp 69)
 (.seq (.region [(jm 70 10), (jk 2 0), (jm 3 70), (jk 4 56)])
 .ret)
 .skip))))
 (.region [(ja 71 56 1), (jm 56 71)])))))))
 (.seq (.region [(jk 2 0), (jk 3 0), (jk 4 0)])
 .ret)))))))),
 [.tmp 2, .tmp 3, .tmp 4]⟩
theorem low_layout_CheckScript : lowFn Tryz.prog movers 30 = some ⟨ir_layout_CheckScript.n, strip ir_layout_CheckScript.body, ir_layout_CheckScript.res⟩ := by kernel_rfl
def ir_layout_Check : IFn := ⟨70,
 (.seq (.region [(jb 1 27 0), (jk 2 0)])
 (.seq (.region [(jL 7 13 1), (jc 8 80 7), (jm 6 8), (je 9 6 0), (je 10 6 1), (je 11 6 2), (jm 3 9), (jm 4 10), (jm 5 11)])
 (.seq (.block 0
 (.seq (.region [(jf 13 0 1), (jl 14 13), (jo 15 (.call 55 [(.tmp 14), (.const (.int .i64 1)), (.const (.int .i64 64))])), (jo 16 (.not (.tmp 15))), (jm 17 16),
 (jz 17 (jf 18 1 1)), (jz 17 (jl 19 18)), (jz 17 (jo 20 (.call 55 [(.tmp 19), (.const (.int .i64 1)), (.const (.int .i64 64))]))), (jz 17 (jo 21 (.not (.tmp 20)))),
 (jO 22 17 21), (jm 12 22)])
 (.cond (.tmp 12)
 (.seq (.region [(jk 2 50)])
 .ret)
 (.seq (.region [(jm 24 5), (jo 25 (.not (.tmp 24))), (jm 26 25), (jz 26 (jf 27 2 1)), (jz 26 (jl 28 27)), (jz 26 (jf 29 0 1)), (jz 26 (jl 30 29)), (jz 26 (jo 31 (.call 55 [(.tmp 28), (.const (.int .i64 0)), (.tmp 30)]))),
 (jz 26 (jo 32 (.not (.tmp 31)))), (jO 33 26 32), (jm 34 33), (jz 34 (jm 35 4)), (jz 34 (jf 36 0 1)), (jz 34 (jl 37 36)), (jz 34 (jf 38 2 1)), (jz 34 (jl 39 38)),
 (jz 34 (jo 40 (.bin .sub (.tmp 37) (.tmp 39)))), (jz 34 (jo 41 (.bin .gtr (.tmp 35) (.tmp 40)))), (jO 42 34 41), (jm 23 42)])
 (.cond (.tmp 23)
 (.seq (.region [(jk 2 51)])
 .ret)
 (.seq (.region [(jf 44 7 1), (jl 45 44), (jo 46 (.call 55 [(.tmp 45), (.const (.int .i64 1)), (.const (.int .i64 32))])), (jo 47 (.not (.tmp 46))), (jm 48 47),
 (jz 48 (jf 49 8 1)), (jz 48 (jl 50 49)), (jz 48 (jo 51 (.call 55 [(.tmp 50), (.const (.int .i64 1)), (.const (.int .i64 32))]))), (jz 48 (jo 52 (.not (.tmp 51)))),
 (jO 53 48 52), (jm 43 53)])
 (.cond (.tmp 43)
 (.seq (.region [(jk 2 52)])
 .ret)
 (.seq (.region [(jf 55 9 1), (jl 56 55), (jo 57 (.call 55 [(.tmp 56), (.const (.int .i64 0)), (.const (.int .i64 8))])), (jo 58 (.not (.tmp 57))), (jm 59 58), (jz 59 (jf 60 10 1)),
 (jz 59 (jl 61 60)), (jz 59 (jo 62 (.call 55 [(.tmp 61), (.const (.int .i64 0)), (.const (.int .i64 8))]))), (jz 59 (jo 63 (.not (.tmp 62)))), (jO 64 59 63), (jm 54 64)])
 (.cond (.tmp 54)
 (.seq (.region [(jk 2 52)])
 .ret)
 (.seq (.region [(jf 66 11 1), (jl 67 66), (jo 68 (.call 55 [(.tmp 67), (.const (.int .i64 0)), (.const (.int .i64 1099511627776))])), (jo 69 (.not (.tmp 68))),
 (jm 65 69)])
 (.cond (.tmp 65)
 (.seq (.region [(jk 2 53)])
 .ret)
 .skip)))))))))))
 (.seq (.region [(jk 2 0)])
 .ret)))),
 [.tmp 2]⟩
theorem low_layout_Check : lowFn Tryz.prog movers 54 = some ⟨ir_layout_Check.n, strip ir_layout_Check.body, ir_layout_Check.res⟩ := by kernel_rfl
def ir_layout_within : IFn := ⟨15,
 (.seq (.region [(jo 6 (.mov (.const (.bool false))))])
 (.seq (.region [(jm 7 0), (jm 8 1), (jo 9 (.bin .geq (.tmp 7) (.tmp 8))), (jm 10 9), (jy 10 (jm 11 0)), (jy 10 (jm 12 2)), (jy 10 (jo 13 (.bin .leq (.tmp 11) (.tmp 12)))),
 (jA 14 10 13), (jm 6 14)])
 .ret)),
 [.tmp 6]⟩
theorem low_layout_within : lowFn Tryz.prog movers 55 = some ⟨ir_layout_within.n, strip ir_layout_within.body, ir_layout_within.res⟩ := by kernel_rfl
def ir_layout_heap : IFn := ⟨32,
 (.seq (.region [(jb 1 27 0), (jk 2 0), (jk 3 0), (jo 4 (.mov (.const (.bool false))))])
 (.seq (.seq (.region [(jf 7 3 1), (jL 8 4 7), (jk 9 0)])
 (.block 0
 (.loop 268435068
 (.seq (.region [(jo 10 (.bin .lss (.tmp 9) (.const (.int .i64 4))))])
 (.seq (.cond (.tmp 10)
 .skip
 (.exit 0))
 (.seq (.block 1
 (.seq (.region [(jm 11 9), (jo 12 (.idx 4 (.tmp 8) (.tmp 9))), (jm 5 11), (jm 6 12)])
 (.seq (.seq (.region [(jm 13 6), (jo 14 (.bin .lss (.tmp 13) (.const (.int .i64 0)))), (jm 15 14), (jz 15 (jm 16 6)), (jz 15 (jo 17 (.bin .gtr (.tmp 16) (.const (.int .i64 64))))),
 (jO 18 15 17)])
 (.cond (.tmp 18)
 (.seq (.region [(jk 2 0), (jk 3 0), (jo 4 (.mov (.const (.bool false))))])
 .ret)
 .skip))
 (.seq (.region [(jm 19 2), (jm 20 6), (jo 21 (.bin .add (.tmp 19) (.tmp 20))), (jm 2 21)])
 (.region [(jm 22 3), (jm 23 6), (jm 24 5), (jo 25 (.bin .shl (.tmp 23) (.tmp 24))), (jo 26 (.bin .add (.tmp 22) (.tmp 25))), (jm 3 26)])))))
 (.region [(ja 27 9 1), (jm 9 27)])))))))
 (.seq (.region [(jm 28 2), (jm 29 3), (jm 30 2), (jo 31 (.bin .leq (.tmp 30) (.const (.int .i64 64)))), (jm 2 28), (jm 3 29), (jm 4 31)])
 .ret))),
 [.tmp 2, .tmp 3, .tmp 4]⟩
theorem low_layout_heap : lowFn Tryz.prog movers 80 = some ⟨ir_layout_heap.n, strip ir_layout_heap.body, ir_layout_heap.res⟩ := by kernel_rfl
def ir_layout_Find : IFn := ⟨19,
 (.seq (.region [(jb 2 27 0), (jk 4 0)])
 (.seq (.seq (.region [(jL 6 13 2), (jc 7 129 6), (jk 8 0)])
 (.block 0
 (.loop 524080
 (.seq (.region [(jw 9 8 7)])
 (.seq (.cond (.tmp 9)
 .skip
 (.exit 0))
 (.seq (.block 1
 (.seq (.region [(jm 10 8), (jm 5 10)])
 (.seq (.region [(jL 11 13 2), (jm 12 5), (jC 13 130 11 12), (jo 14 (.conv .u64 (.tmp 13))), (jm 15 1), (jo 16 (.bin .eql (.tmp 14) (.tmp 15)))])
 (.cond (.tmp 16)
 (.seq (.region [(jm 17 5), (jm 4 17)])
 .ret)
 .skip))))
 (.region [(ja 18 8 1), (jm 8 18)])))))))
 (.seq (.region [(jo 4 (.mov (.const (.int .i64 (-1)))))])
 .ret))),
 [.tmp 4]⟩
theorem low_layout_Find : lowFn Tryz.prog movers 120 = some ⟨ir_layout_Find.n, strip ir_layout_Find.body, ir_layout_Find.res⟩ := by kernel_rfl
def ir_layout_Class : IFn := ⟨14,
 (.seq (.region [(jb 2 27 0), (jk 4 0)])
 (.seq (.region [(jL 8 13 2), (jm 9 1), (jC 10 131 8 9), (jm 7 10), (je 11 7 0), (je 12 7 1), (jm 5 11), (jm 6 12)])
 (.seq (.region [(jm 13 5), (jm 4 13)])
 .ret))),
 [.tmp 4]⟩
theorem low_layout_Class : lowFn Tryz.prog movers 121 = some ⟨ir_layout_Class.n, strip ir_layout_Class.body, ir_layout_Class.res⟩ := by kernel_rfl
def ir_layout_Blocks : IFn := ⟨16,
 (.seq (.region [(jb 1 27 0), (jk 2 0)])
 (.seq (.seq (.region [(jL 6 13 1), (jc 7 54 6), (jo 8 (.bin .neq (.tmp 7) (.const (.int .i64 0))))])
 (.cond (.tmp 8)
 (.seq (.region [(jk 2 0)])
 .ret)
 .skip))
 (.seq (.region [(jL 10 13 1), (jc 11 80 10), (jm 9 11), (je 12 9 0), (je 13 9 1), (je 14 9 2), (jm 3 12), (jm 4 13), (jm 5 14)])
 (.seq (.region [(jm 15 3), (jm 2 15)])
 .ret)))),
 [.tmp 2]⟩
theorem low_layout_Blocks : lowFn Tryz.prog movers 129 = some ⟨ir_layout_Blocks.n, strip ir_layout_Blocks.body, ir_layout_Blocks.res⟩ := by kernel_rfl
def ir_layout_First : IFn := ⟨14,
 (.seq (.region [(jb 2 27 0), (jk 4 0)])
 (.seq (.region [(jL 8 13 2), (jm 9 1), (jC 10 131 8 9), (jm 7 10), (je 11 7 0), (je 12 7 1), (jm 5 11), (jm 6 12)])
 (.seq (.region [(jm 13 6), (jm 4 13)])
 .ret))),
 [.tmp 4]⟩
theorem low_layout_First : lowFn Tryz.prog movers 130 = some ⟨ir_layout_First.n, strip ir_layout_First.body, ir_layout_First.res⟩ := by kernel_rfl
def ir_layout_locate : IFn := ⟨41,
 (.seq (.region [(jb 2 27 0), (jk 4 0), (jk 5 0)])
 (.seq (.seq (.region [(jL 8 13 2), (jc 9 54 8), (jo 10 (.bin .neq (.tmp 9) (.const (.int .i64 0)))), (jm 11 10), (jz 11 (jm 12 1)), (jz 11 (jo 13 (.bin .lss (.tmp 12) (.const (.int .i64 0))))),
 (jO 14 11 13)])
 (.cond (.tmp 14)
 (.seq (.region [(jo 4 (.mov (.const (.int .i64 (-1))))), (jo 5 (.mov (.const (.int .i64 (-1)))))])
 .ret)
 .skip))
 (.seq (.region [(jf 15 2 2), (jl 16 15), (jm 5 16)])
 (.seq (.seq (.region [(jf 17 3 2), (jL 18 4 17), (jk 19 0)])
 (.block 0
 (.loop 2199022731506
 (.seq (.region [(jo 20 (.bin .lss (.tmp 19) (.const (.int .i64 4))))])
 (.seq (.cond (.tmp 20)
 .skip
 (.exit 0))
 (.seq (.block 1
 (.seq (.region [(jm 21 19), (jo 22 (.idx 4 (.tmp 18) (.tmp 19))), (jm 6 21), (jm 7 22)])
 (.seq (.seq (.region [(jm 23 1), (jm 24 7), (jw 25 23 24)])
 (.cond (.tmp 25)
 (.seq (.draw (.f (jm 26 6)
 (.f (jm 27 5)
 (.f (jm 28 1)
 (.f (jm 29 6)
 (.f (jo 30 (.bin .shl (.tmp 28) (.tmp 29)))
 (.f (jo 31 (.bin .add (.tmp 27) (.tmp 30)))
 (.f (jm 4 26)
 (.f (jm 5 31)
 .done)))))))))
 .ret)
 .skip))
 (.seq (.region [(jm 32 1), (jm 33 7), (jo 34 (.bin .sub (.tmp 32) (.tmp 33))), (jm 1 34)])
 (.region [(jm 35 5), (jm 36 7), (jm 37 6), (jo 38 (.bin .shl (.tmp 36) (.tmp 37))), (jo 39 (.bin .add (.tmp 35) (.tmp 38))), (jm 5 39)])))))
 (.region [(ja 40 19 1), (jm 19 40)])))))))
 (.seq (.region [(jo 4 (.mov (.const (.int .i64 (-1))))), (jo 5 (.mov (.const (.int .i64 (-1)))))])
 .ret))))),
 [.tmp 4, .tmp 5]⟩
theorem low_layout_locate : lowFn Tryz.prog movers 131 = some ⟨ir_layout_locate.n, strip ir_layout_locate.body, ir_layout_locate.res⟩ := by kernel_rfl
end Go.Proofs.YtfompmhncnkcfaaGreatDoor
namespace Go.Proofs.YtfompmhncnkcfaaGreatDoor
open Go
set_option maxRecDepth 100000
def ir_ref07_Blocks : IFn := ⟨21,
 (.seq (.region [(jb 1 27 0), (jk 2 0)])
 (.seq (.seq (.region [(jL 3 13 1), (jc 4 49 3), (jo 5 (.bin .neq (.tmp 4) (.const (.int .i64 0))))])
 (.cond (.tmp 5)
 (.seq (.region [(jk 2 0)])
 .ret)
 .skip))
 (.seq (.region [(jf 6 3 1), (jo 7 (.ixa 4 1 (.tmp 6) (.const (.int .i64 0)))), (jl 8 7), (jf 9 3 1), (jo 10 (.ixa 4 1 (.tmp 9) (.const (.int .i64 1)))), (jl 11 10),
 (jo 12 (.bin .add (.tmp 8) (.tmp 11))), (jf 13 3 1), (jo 14 (.ixa 4 1 (.tmp 13) (.const (.int .i64 2)))), (jl 15 14), (jo 16 (.bin .add (.tmp 12) (.tmp 15))), (jf 17 3 1),
 (jo 18 (.ixa 4 1 (.tmp 17) (.const (.int .i64 3)))), (jl 19 18), (jo 20 (.bin .add (.tmp 16) (.tmp 19))), (jm 2 20)])
 .ret))),
 [.tmp 2]⟩
theorem low_ref07_Blocks : lowFn Tryz.prog movers 35 = some ⟨ir_ref07_Blocks.n, strip ir_ref07_Blocks.body, ir_ref07_Blocks.res⟩ := by kernel_rfl
def ir_ref07_Class : IFn := ⟨29,
 (.seq (.region [(jb 2 27 0), (jk 4 0)])
 (.seq (.seq (.region [(jm 6 1), (jo 7 (.bin .lss (.tmp 6) (.const (.int .i64 0)))), (jm 8 7), (jz 8 (jm 9 1)), (jz 8 (jL 10 13 2)), (jz 8 (jc 11 35 10)), (jz 8 (jo 12 (.bin .geq (.tmp 9) (.tmp 11)))),
 (jO 13 8 12)])
 (.cond (.tmp 13)
 (.seq (.region [(jo 4 (.mov (.const (.int .i64 (-1)))))])
 .ret)
 .skip))
 (.seq (.region [(jk 5 0)])
 (.seq (.block 0
 (.loop 268419106
 (.seq (.seq (.region [(jm 14 1), (jm 15 5), (jf 16 3 2), (jo 17 (.ixa 4 1 (.tmp 16) (.tmp 15))), (jl 18 17), (jo 19 (.bin .geq (.tmp 14) (.tmp 18)))])
 (.cond (.tmp 19)
 .skip
 (.exit 0)))
 (.block 1
 (.seq (.region [(jm 20 1), (jm 21 5), (jf 22 3 2), (jo 23 (.ixa 4 1 (.tmp 22) (.tmp 21))), (jl 24 23), (jo 25 (.bin .sub (.tmp 20) (.tmp 24))), (jm 1 25)])
 (.region [(jm 26 5), (ja 27 26 1), (jm 5 27)]))))))
 (.seq (.region [(jm 28 5), (jm 4 28)])
 .ret))))),
 [.tmp 4]⟩
theorem low_ref07_Class : lowFn Tryz.prog movers 38 = some ⟨ir_ref07_Class.n, strip ir_ref07_Class.body, ir_ref07_Class.res⟩ := by kernel_rfl
def ir_ref07_First : IFn := ⟨29,
 (.seq (.region [(jb 2 27 0), (jk 4 0)])
 (.seq (.seq (.region [(jm 7 1), (jo 8 (.bin .lss (.tmp 7) (.const (.int .i64 0)))), (jm 9 8), (jz 9 (jm 10 1)), (jz 9 (jL 11 13 2)), (jz 9 (jc 12 35 11)), (jz 9 (jo 13 (.bin .geq (.tmp 10) (.tmp 12)))),
 (jO 14 9 13)])
 (.cond (.tmp 14)
 (.seq (.region [(jo 4 (.mov (.const (.int .i64 (-1)))))])
 .ret)
 .skip))
 (.seq (.region [(jf 15 2 2), (jl 16 15), (jm 5 16)])
 (.seq (.seq (.region [(jk 6 0)])
 (.block 0
 (.loop 268304480
 (.seq (.seq (.region [(jm 17 6), (jm 18 1), (jw 19 17 18)])
 (.cond (.tmp 19)
 .skip
 (.exit 0)))
 (.seq (.block 1
 (.region [(jm 22 5), (jL 23 13 2), (jm 24 6), (jC 25 38 23 24), (jo 26 (.bin .shl (.const (.int .i64 1)) (.tmp 25))), (jo 27 (.bin .add (.tmp 22) (.tmp 26))), (jm 5 27)]))
 (.region [(jm 20 6), (ja 21 20 1), (jm 6 21)]))))))
 (.seq (.region [(jm 28 5), (jm 4 28)])
 .ret))))),
 [.tmp 4]⟩
theorem low_ref07_First : lowFn Tryz.prog movers 39 = some ⟨ir_ref07_First.n, strip ir_ref07_First.body, ir_ref07_First.res⟩ := by kernel_rfl
def ir_ref07_Check : IFn := ⟨85,
 (.seq (.region [(jb 1 27 0), (jk 2 0)])
 (.seq (.seq (.region [(jf 6 0 1), (jl 7 6), (jo 8 (.call 73 [(.tmp 7), (.const (.int .i64 1)), (.const (.int .i64 64))])), (jo 9 (.not (.tmp 8))), (jm 10 9), (jz 10 (jf 11 1 1)),
 (jz 10 (jl 12 11)), (jz 10 (jo 13 (.call 73 [(.tmp 12), (.const (.int .i64 1)), (.const (.int .i64 64))]))), (jz 10 (jo 14 (.not (.tmp 13)))), (jO 15 10 14)])
 (.cond (.tmp 15)
 (.seq (.region [(jk 2 50)])
 .ret)
 .skip))
 (.seq (.region [(jk 3 0), (jk 4 0)])
 (.seq (.seq (.region [(jk 5 0)])
 (.block 0
 (.loop 1099511562300
 (.seq (.seq (.region [(jm 16 5), (jo 17 (.bin .lss (.tmp 16) (.const (.int .i64 4))))])
 (.cond (.tmp 17)
 .skip
 (.exit 0)))
 (.seq (.block 1
 (.seq (.seq (.region [(jm 20 5), (jf 21 3 1), (jo 22 (.ixa 4 1 (.tmp 21) (.tmp 20))), (jl 23 22), (jo 24 (.call 73 [(.tmp 23), (.const (.int .i64 0)), (.const (.int .i64 64))])),
 (jo 25 (.not (.tmp 24)))])
 (.cond (.tmp 25)
 (.seq (.region [(jk 2 51)])
 .ret)
 .skip))
 (.seq (.region [(jm 26 3), (jm 27 5), (jf 28 3 1), (jo 29 (.ixa 4 1 (.tmp 28) (.tmp 27))), (jl 30 29), (jo 31 (.bin .add (.tmp 26) (.tmp 30))), (jm 3 31)])
 (.region [(jm 32 4), (jm 33 5), (jf 34 3 1), (jo 35 (.ixa 4 1 (.tmp 34) (.tmp 33))), (jl 36 35), (jm 37 5), (jo 38 (.bin .shl (.tmp 36) (.tmp 37))), (jo 39 (.bin .add (.tmp 32) (.tmp 38))),
 (jm 4 39)]))))
 (.region [(jm 18 5), (ja 19 18 1), (jm 5 19)]))))))
 (.seq (.seq (.region [(jm 40 3), (jo 41 (.bin .gtr (.tmp 40) (.const (.int .i64 64)))), (jm 42 41), (jz 42 (jf 43 2 1)), (jz 42 (jl 44 43)), (jz 42 (jf 45 0 1)),
 (jz 42 (jl 46 45)), (jz 42 (jo 47 (.call 73 [(.tmp 44), (.const (.int .i64 0)), (.tmp 46)]))), (jz 42 (jo 48 (.not (.tmp 47)))), (jO 49 42 48), (jm 50 49), (jz 50 (jf 51 2 1)),
 (jz 50 (jl 52 51)), (jz 50 (jm 53 4)), (jz 50 (jo 54 (.bin .add (.tmp 52) (.tmp 53)))), (jz 50 (jf 55 0 1)), (jz 50 (jl 56 55)), (jz 50 (jo 57 (.bin .gtr (.tmp 54) (.tmp 56)))),
 (jO 58 50 57)])
 (.cond (.tmp 58)
 (.seq (.region [(jk 2 51)])
 .ret)
 .skip))
 (.seq (.seq (.region [(jf 59 7 1), (jl 60 59), (jo 61 (.call 73 [(.tmp 60), (.const (.int .i64 1)), (.const (.int .i64 32))])), (jo 62 (.not (.tmp 61))), (jm 63 62),
 (jz 63 (jf 64 8 1)), (jz 63 (jl 65 64)), (jz 63 (jo 66 (.call 73 [(.tmp 65), (.const (.int .i64 1)), (.const (.int .i64 32))]))), (jz 63 (jo 67 (.not (.tmp 66)))),
 (jO 68 63 67), (jm 69 68), (jz 69 (jf 70 9 1)), (jz 69 (jl 71 70)), (jz 69 (jo 72 (.call 73 [(.tmp 71), (.const (.int .i64 0)), (.const (.int .i64 8))]))), (jz 69 (jo 73 (.not (.tmp 72)))),
 (jO 74 69 73), (jm 75 74), (jz 75 (jf 76 10 1)), (jz 75 (jl 77 76)), (jz 75 (jo 78 (.call 73 [(.tmp 77), (.const (.int .i64 0)), (.const (.int .i64 8))]))), (jz 75 (jo 79 (.not (.tmp 78)))),
 (jO 80 75 79)])
 (.cond (.tmp 80)
 (.seq (.region [(jk 2 52)])
 .ret)
 .skip))
 (.seq (.seq (.region [(jf 81 11 1), (jl 82 81), (jo 83 (.call 73 [(.tmp 82), (.const (.int .i64 0)), (.const (.int .i64 1099511627776))])), (jo 84 (.not (.tmp 83)))])
 (.cond (.tmp 84)
 (.seq (.region [(jk 2 53)])
 .ret)
 .skip))
 (.seq (.region [(jk 2 0)])
 .ret)))))))),
 [.tmp 2]⟩
theorem low_ref07_Check : lowFn Tryz.prog movers 49 = some ⟨ir_ref07_Check.n, strip ir_ref07_Check.body, ir_ref07_Check.res⟩ := by kernel_rfl
def ir_ref07_within : IFn := ⟨15,
 (.seq (.region [(jo 6 (.mov (.const (.bool false))))])
 (.seq (.region [(jm 7 0), (jm 8 1), (jo 9 (.bin .geq (.tmp 7) (.tmp 8))), (jm 10 9), (jy 10 (jm 11 0)), (jy 10 (jm 12 2)), (jy 10 (jo 13 (.bin .leq (.tmp 11) (.tmp 12)))),
 (jA 14 10 13), (jm 6 14)])
 .ret)),
 [.tmp 6]⟩
theorem low_ref07_within : lowFn Tryz.prog movers 73 = some ⟨ir_ref07_within.n, strip ir_ref07_within.body, ir_ref07_within.res⟩ := by kernel_rfl
def ir_ref07_Find : IFn := ⟨19,
 (.seq (.region [(jb 2 27 0), (jk 4 0)])
 (.seq (.seq (.region [(jk 5 0)])
 (.block 0
 (.loop 524272
 (.seq (.seq (.region [(jm 6 5), (jL 7 13 2), (jc 8 35 7), (jw 9 6 8)])
 (.cond (.tmp 9)
 .skip
 (.exit 0)))
 (.seq (.block 1
 (.seq (.region [(jL 12 13 2), (jm 13 5), (jC 14 39 12 13), (jo 15 (.conv .u64 (.tmp 14))), (jm 16 1), (jo 17 (.bin .eql (.tmp 15) (.tmp 16)))])
 (.cond (.tmp 17)
 (.seq (.region [(jm 18 5), (jm 4 18)])
 .ret)
 .skip)))
 (.region [(jm 10 5), (ja 11 10 1), (jm 5 11)]))))))
 (.seq (.region [(jo 4 (.mov (.const (.int .i64 (-1)))))])
 .ret))),
 [.tmp 4]⟩
theorem low_ref07_Find : lowFn Tryz.prog movers 91 = some ⟨ir_ref07_Find.n, strip ir_ref07_Find.body, ir_ref07_Find.res⟩ := by kernel_rfl
end Go.Proofs.YtfompmhncnkcfaaGreatDoor
namespace Go.Proofs.YtfompmhncnkcfaaGreatDoor
open Go
set_option maxRecDepth 100000
def ir_slices_Clone_uint64 : IFn := ⟨8,
 (.seq (.region [(jo 2 (.mov (.const (.slice none 0 0))))])
 (.seq (.seq (.region [(jm 3 0), (jo 4 (.nilq false 0 (.tmp 3) (.const (.slice none 0 0))))])
 (.cond (.tmp 4)
 (.seq (.region [(jo 2 (.mov (.const (.slice none 0 0))))])
 .ret)
 .skip))
 (.seq (.region [(jo 5 (.blds 63 0 [] [])), (jm 6 0), (jo 7 (.app 63 1 8 [(.int .u64 0)] (.tmp 5) (.tmp 6))), (jm 2 7)])
 .ret))),
 [.tmp 2]⟩
theorem low_slices_Clone_uint64 : lowFn Tryz.prog movers 31 = some ⟨ir_slices_Clone_uint64.n, strip ir_slices_Clone_uint64.body, ir_slices_Clone_uint64.res⟩ := by kernel_rfl
def ir_slices_Clone_Instr : IFn := ⟨8,
 (.seq (.region [(jo 2 (.mov (.const (.slice none 0 0))))])
 (.seq (.seq (.region [(jm 3 0), (jo 4 (.nilq false 0 (.tmp 3) (.const (.slice none 0 0))))])
 (.cond (.tmp 4)
 (.seq (.region [(jo 2 (.mov (.const (.slice none 0 0))))])
 .ret)
 .skip))
 (.seq (.region [(jo 5 (.blds 69 0 [] [])), (jm 6 0), (jo 7 (.app 69 5 40 [(.int .i64 0), (.int .i64 0), (.int .i64 0), (.int .i64 0), (.int .i64 0)] (.tmp 5) (.tmp 6))),
 (jm 2 7)])
 .ret))),
 [.tmp 2]⟩
theorem low_slices_Clone_Instr : lowFn Tryz.prog movers 32 = some ⟨ir_slices_Clone_Instr.n, strip ir_slices_Clone_Instr.body, ir_slices_Clone_Instr.res⟩ := by kernel_rfl
def ir_slices_Clone_Thread : IFn := ⟨8,
 (.seq (.region [(jo 2 (.mov (.const (.slice none 0 0))))])
 (.seq (.seq (.region [(jm 3 0), (jo 4 (.nilq false 0 (.tmp 3) (.const (.slice none 0 0))))])
 (.cond (.tmp 4)
 (.seq (.region [(jo 2 (.mov (.const (.slice none 0 0))))])
 .ret)
 .skip))
 (.seq (.region [(jo 5 (.blds 66 0 [] [])), (jm 6 0), (jo 7 (.app 66 11 88 [(.int .i64 0), (.int .u64 0), (.int .u64 0), (.int .u64 0), (.int .u64 0), (.int .u64 0), (.int .u64 0), (.int .u64 0), (.int .u64 0), (.int .i64 0), (.bool false)] (.tmp 5) (.tmp 6))),
 (jm 2 7)])
 .ret))),
 [.tmp 2]⟩
theorem low_slices_Clone_Thread : lowFn Tryz.prog movers 45 = some ⟨ir_slices_Clone_Thread.n, strip ir_slices_Clone_Thread.body, ir_slices_Clone_Thread.res⟩ := by kernel_rfl
def ir_slices_Clone_int : IFn := ⟨8,
 (.seq (.region [(jo 2 (.mov (.const (.slice none 0 0))))])
 (.seq (.seq (.region [(jm 3 0), (jo 4 (.nilq false 0 (.tmp 3) (.const (.slice none 0 0))))])
 (.cond (.tmp 4)
 (.seq (.region [(jo 2 (.mov (.const (.slice none 0 0))))])
 .ret)
 .skip))
 (.seq (.region [(jo 5 (.blds 3 0 [] [])), (jm 6 0), (jo 7 (.app 3 1 8 [(.int .i64 0)] (.tmp 5) (.tmp 6))), (jm 2 7)])
 .ret))),
 [.tmp 2]⟩
theorem low_slices_Clone_int : lowFn Tryz.prog movers 46 = some ⟨ir_slices_Clone_int.n, strip ir_slices_Clone_int.body, ir_slices_Clone_int.res⟩ := by kernel_rfl
def ir_slices_Clone_Obs : IFn := ⟨8,
 (.seq (.region [(jo 2 (.mov (.const (.slice none 0 0))))])
 (.seq (.seq (.region [(jm 3 0), (jo 4 (.nilq false 0 (.tmp 3) (.const (.slice none 0 0))))])
 (.cond (.tmp 4)
 (.seq (.region [(jo 2 (.mov (.const (.slice none 0 0))))])
 .ret)
 .skip))
 (.seq (.region [(jo 5 (.blds 106 0 [] [])), (jm 6 0), (jo 7 (.app 106 3 24 [(.int .i64 0), (.int .i64 0), (.int .u64 0)] (.tmp 5) (.tmp 6))), (jm 2 7)])
 .ret))),
 [.tmp 2]⟩
theorem low_slices_Clone_Obs : lowFn Tryz.prog movers 47 = some ⟨ir_slices_Clone_Obs.n, strip ir_slices_Clone_Obs.body, ir_slices_Clone_Obs.res⟩ := by kernel_rfl
def ir_slices_Contains_int : IFn := ⟨9,
 (.seq (.region [(jo 4 (.mov (.const (.bool false))))])
 (.seq (.region [(jm 5 0), (jm 6 1), (jC 7 128 5 6), (jo 8 (.bin .geq (.tmp 7) (.const (.int .i64 0)))), (jm 4 8)])
 .ret)),
 [.tmp 4]⟩
theorem low_slices_Contains_int : lowFn Tryz.prog movers 118 = some ⟨ir_slices_Contains_int.n, strip ir_slices_Contains_int.body, ir_slices_Contains_int.res⟩ := by kernel_rfl
def ir_slices_Index_int : IFn := ⟨19,
 (.seq (.region [(jk 4 0)])
 (.seq (.seq (.region [(jm 6 0), (jt 7 6), (jk 8 0)])
 (.block 0
 (.loop 524080
 (.seq (.region [(jw 9 8 7)])
 (.seq (.cond (.tmp 9)
 .skip
 (.exit 0))
 (.seq (.block 1
 (.seq (.region [(jm 10 8), (jm 5 10)])
 (.seq (.region [(jm 11 1), (jm 12 0), (jm 13 5), (jx 14 1 12 13), (jl 15 14), (jo 16 (.bin .eql (.tmp 11) (.tmp 15)))])
 (.cond (.tmp 16)
 (.seq (.region [(jm 17 5), (jm 4 17)])
 .ret)
 .skip))))
 (.region [(ja 18 8 1), (jm 8 18)])))))))
 (.seq (.region [(jo 4 (.mov (.const (.int .i64 (-1)))))])
 .ret))),
 [.tmp 4]⟩
theorem low_slices_Index_int : lowFn Tryz.prog movers 128 = some ⟨ir_slices_Index_int.n, strip ir_slices_Index_int.body, ir_slices_Index_int.res⟩ := by kernel_rfl
end Go.Proofs.YtfompmhncnkcfaaGreatDoor
namespace Go.Proofs.YtfompmhncnkcfaaGreatDoor
open Go
set_option maxRecDepth 100000
def ir_kit_Global : IFn := ⟨31,
 (.seq (.region [(jb 2 52 0), (jb 3 52 1), (jo 4 (.mov (.const (.bool false))))])
 (.seq (.region [(jf 5 0 2), (jl 6 5), (jf 7 0 3), (jl 8 7), (jC 9 24 6 8), (jm 10 9), (jy 10 (jf 11 1 2)), (jy 10 (jl 12 11)), (jy 10 (jf 13 1 3)), (jy 10 (jl 14 13)),
 (jy 10 (jC 15 26 12 14)), (jA 16 10 15), (jm 17 16), (jy 17 (jf 18 2 2)), (jy 17 (jl 19 18)), (jy 17 (jf 20 2 3)), (jy 17 (jl 21 20)), (jy 17 (jC 22 25 19 21)),
 (jA 23 17 22), (jm 24 23), (jy 24 (jf 25 3 2)), (jy 24 (jl 26 25)), (jy 24 (jf 27 3 3)), (jy 24 (jl 28 27)), (jy 24 (jC 29 27 26 28)), (jA 30 24 29), (jm 4 30)])
 .ret)),
 [.tmp 4]⟩
theorem low_kit_Global : lowFn Tryz.prog movers 16 = some ⟨ir_kit_Global.n, strip ir_kit_Global.body, ir_kit_Global.res⟩ := by kernel_rfl
def ir_kit_Place : IFn := ⟨11,
 (.seq (.region [(jk 4 0)])
 (.seq (.region [(jm 5 0), (jo 6 (.conv .u64 (.tmp 5))), (jm 7 1), (jo 8 (.conv .u64 (.tmp 7))), (jo 9 (.bin .rem (.tmp 6) (.tmp 8))), (jo 10 (.conv .i64 (.tmp 9))),
 (jm 4 10)])
 .ret)),
 [.tmp 4]⟩
theorem low_kit_Place : lowFn Tryz.prog movers 23 = some ⟨ir_kit_Place.n, strip ir_kit_Place.body, ir_kit_Place.res⟩ := by kernel_rfl
def ir_kit_Words : IFn := ⟨26,
 (.seq (.region [(jo 4 (.mov (.const (.bool false))))])
 (.seq (.seq (.region [(jm 6 0), (jt 7 6), (jm 8 1), (jt 9 8), (jo 10 (.bin .neq (.tmp 7) (.tmp 9)))])
 (.cond (.tmp 10)
 (.seq (.region [(jo 4 (.mov (.const (.bool false))))])
 .ret)
 .skip))
 (.seq (.seq (.region [(jk 5 0)])
 (.block 0
 (.loop 67106864
 (.seq (.seq (.region [(jm 11 5), (jm 12 0), (jt 13 12), (jw 14 11 13)])
 (.cond (.tmp 14)
 .skip
 (.exit 0)))
 (.seq (.block 1
 (.seq (.draw (.f (jm 17 0)
 (.f (jm 18 5)
 (.f (jx 19 1 17 18)
 (.f (jl 20 19)
 (.f (jm 21 1)
 (.f (jm 22 5)
 (.f (jx 23 1 21 22)
 (.f (jl 24 23)
 (.f (jo 25 (.bin .neq (.tmp 20) (.tmp 24)))
 .done))))))))))
 (.cond (.tmp 25)
 (.seq (.region [(jo 4 (.mov (.const (.bool false))))])
 .ret)
 .skip)))
 (.region [(jm 15 5), (ja 16 15 1), (jm 5 16)]))))))
 (.seq (.region [(jo 4 (.mov (.const (.bool true))))])
 .ret)))),
 [.tmp 4]⟩
theorem low_kit_Words : lowFn Tryz.prog movers 24 = some ⟨ir_kit_Words.n, strip ir_kit_Words.body, ir_kit_Words.res⟩ := by kernel_rfl
def ir_kit_Events : IFn := ⟨27,
 (.seq (.region [(jo 4 (.mov (.const (.bool false))))])
 (.seq (.seq (.region [(jm 6 0), (jt 7 6), (jm 8 1), (jt 9 8), (jo 10 (.bin .neq (.tmp 7) (.tmp 9)))])
 (.cond (.tmp 10)
 (.seq (.region [(jo 4 (.mov (.const (.bool false))))])
 .ret)
 .skip))
 (.seq (.seq (.region [(jk 5 0)])
 (.block 0
 (.loop 134215728
 (.seq (.seq (.region [(jm 11 5), (jm 12 0), (jt 13 12), (jw 14 11 13)])
 (.cond (.tmp 14)
 .skip
 (.exit 0)))
 (.seq (.block 1
 (.seq (.draw (.f (jm 17 0)
 (.f (jm 18 5)
 (.f (jx 19 6 17 18)
 (.f (jL 20 6 19)
 (.f (jm 21 1)
 (.f (jm 22 5)
 (.f (jx 23 6 21 22)
 (.f (jL 24 6 23)
 (.f (jC 25 51 20 24)
 (.f (jo 26 (.not (.tmp 25)))
 .done)))))))))))
 (.cond (.tmp 26)
 (.seq (.region [(jo 4 (.mov (.const (.bool false))))])
 .ret)
 .skip)))
 (.region [(jm 15 5), (ja 16 15 1), (jm 5 16)]))))))
 (.seq (.region [(jo 4 (.mov (.const (.bool true))))])
 .ret)))),
 [.tmp 4]⟩
theorem low_kit_Events : lowFn Tryz.prog movers 25 = some ⟨ir_kit_Events.n, strip ir_kit_Events.body, ir_kit_Events.res⟩ := by kernel_rfl
def ir_kit_Threads : IFn := ⟨26,
 (.seq (.region [(jo 4 (.mov (.const (.bool false))))])
 (.seq (.seq (.region [(jm 6 0), (jt 7 6), (jm 8 1), (jt 9 8), (jo 10 (.bin .neq (.tmp 7) (.tmp 9)))])
 (.cond (.tmp 10)
 (.seq (.region [(jo 4 (.mov (.const (.bool false))))])
 .ret)
 .skip))
 (.seq (.seq (.region [(jk 5 0)])
 (.block 0
 (.loop 67106864
 (.seq (.seq (.region [(jm 11 5), (jm 12 0), (jt 13 12), (jw 14 11 13)])
 (.cond (.tmp 14)
 .skip
 (.exit 0)))
 (.seq (.block 1
 (.seq (.draw (.f (jm 17 0)
 (.f (jm 18 5)
 (.f (jx 19 11 17 18)
 (.f (jL 20 11 19)
 (.f (jm 21 1)
 (.f (jm 22 5)
 (.f (jx 23 11 21 22)
 (.f (jL 24 11 23)
 (.f (jo 25 (.ageq true [0, 0, 0, 0, 0, 0, 0, 0, 0, 0, 1] (.tmp 20) (.tmp 24)))
 .done))))))))))
 (.cond (.tmp 25)
 (.seq (.region [(jo 4 (.mov (.const (.bool false))))])
 .ret)
 .skip)))
 (.region [(jm 15 5), (ja 16 15 1), (jm 5 16)]))))))
 (.seq (.region [(jo 4 (.mov (.const (.bool true))))])
 .ret)))),
 [.tmp 4]⟩
theorem low_kit_Threads : lowFn Tryz.prog movers 26 = some ⟨ir_kit_Threads.n, strip ir_kit_Threads.body, ir_kit_Threads.res⟩ := by kernel_rfl
def ir_kit_Obs : IFn := ⟨27,
 (.seq (.region [(jo 4 (.mov (.const (.bool false))))])
 (.seq (.seq (.region [(jm 6 0), (jt 7 6), (jm 8 1), (jt 9 8), (jo 10 (.bin .neq (.tmp 7) (.tmp 9)))])
 (.cond (.tmp 10)
 (.seq (.region [(jo 4 (.mov (.const (.bool false))))])
 .ret)
 .skip))
 (.seq (.seq (.region [(jk 5 0)])
 (.block 0
 (.loop 134215728
 (.seq (.seq (.region [(jm 11 5), (jm 12 0), (jt 13 12), (jw 14 11 13)])
 (.cond (.tmp 14)
 .skip
 (.exit 0)))
 (.seq (.block 1
 (.seq (.draw (.f (jm 17 0)
 (.f (jm 18 5)
 (.f (jx 19 1 17 18)
 (.f (jl 20 19)
 (.f (jm 21 1)
 (.f (jm 22 5)
 (.f (jx 23 1 21 22)
 (.f (jl 24 23)
 (.f (jC 25 52 20 24)
 (.f (jo 26 (.not (.tmp 25)))
 .done)))))))))))
 (.cond (.tmp 26)
 (.seq (.region [(jo 4 (.mov (.const (.bool false))))])
 .ret)
 .skip)))
 (.region [(jm 15 5), (ja 16 15 1), (jm 5 16)]))))))
 (.seq (.region [(jo 4 (.mov (.const (.bool true))))])
 .ret)))),
 [.tmp 4]⟩
theorem low_kit_Obs : lowFn Tryz.prog movers 27 = some ⟨ir_kit_Obs.n, strip ir_kit_Obs.body, ir_kit_Obs.res⟩ := by kernel_rfl
def ir_kit_TwinWords : IFn := ⟨19,
 (.seq (.region [(jo 2 (.mov (.const (.slice none 0 0))))])
 (.seq (.region [(jo 3 (.mov (.const (.slice none 0 0))))])
 (.seq (.seq (.region [(jk 4 0)])
 (.block 0
 (.loop 262136
 (.seq (.seq (.region [(jm 5 4), (jm 6 0), (jt 7 6), (jw 8 5 7)])
 (.cond (.tmp 8)
 .skip
 (.exit 0)))
 (.seq (.block 1
 (.region [(jm 11 3), (jm 12 0), (jm 13 4), (jx 14 1 12 13), (jl 15 14), (jo 16 (.blds 63 1 [(.int .u64 0)] [(0, 1, (.tmp 15))])), (jo 17 (.app 63 1 8 [(.int .u64 0)] (.tmp 11) (.tmp 16))),
 (jm 3 17)]))
 (.region [(jm 9 4), (ja 10 9 1), (jm 4 10)]))))))
 (.seq (.region [(jm 18 3), (jm 2 18)])
 .ret)))),
 [.tmp 2]⟩
theorem low_kit_TwinWords : lowFn Tryz.prog movers 34 = some ⟨ir_kit_TwinWords.n, strip ir_kit_TwinWords.body, ir_kit_TwinWords.res⟩ := by kernel_rfl
def ir_kit_At : IFn := ⟨17,
 (.seq (.region [(jk 4 0)])
 (.seq (.seq (.region [(jm 5 1), (jo 6 (.bin .geq (.tmp 5) (.const (.int .i64 0)))), (jm 7 6), (jy 7 (jm 8 1)), (jy 7 (jm 9 0)), (jy 7 (jt 10 9)), (jy 7 (jw 11 8 10)),
 (jA 12 7 11)])
 (.cond (.tmp 12)
 (.seq (.region [(jm 13 0), (jm 14 1), (jx 15 1 13 14), (jl 16 15), (jm 4 16)])
 .ret)
 .skip))
 (.seq (.region [(jk 4 0)])
 .ret))),
 [.tmp 4]⟩
theorem low_kit_At : lowFn Tryz.prog movers 36 = some ⟨ir_kit_At.n, strip ir_kit_At.body, ir_kit_At.res⟩ := by kernel_rfl
def ir_kit_In : IFn := ⟨18,
 (.seq (.region [(jo 4 (.mov (.const (.bool false))))])
 (.seq (.seq (.region [(jk 5 0)])
 (.block 0
 (.loop 262128
 (.seq (.seq (.region [(jm 6 5), (jm 7 0), (jt 8 7), (jw 9 6 8)])
 (.cond (.tmp 9)
 .skip
 (.exit 0)))
 (.seq (.block 1
 (.seq (.region [(jm 12 0), (jm 13 5), (jx 14 1 12 13), (jl 15 14), (jm 16 1), (jo 17 (.bin .eql (.tmp 15) (.tmp 16)))])
 (.cond (.tmp 17)
 (.seq (.region [(jo 4 (.mov (.const (.bool true))))])
 .ret)
 .skip)))
 (.region [(jm 10 5), (ja 11 10 1), (jm 5 11)]))))))
 (.seq (.region [(jo 4 (.mov (.const (.bool false))))])
 .ret))),
 [.tmp 4]⟩
theorem low_kit_In : lowFn Tryz.prog movers 37 = some ⟨ir_kit_In.n, strip ir_kit_In.body, ir_kit_In.res⟩ := by kernel_rfl
def ir_kit_TwinEvents : IFn := ⟨29,
 (.seq (.region [(jo 2 (.mov (.const (.slice none 0 0))))])
 (.seq (.region [(jo 3 (.mov (.const (.slice none 0 0))))])
 (.seq (.seq (.region [(jk 4 0)])
 (.block 0
 (.loop 268435448
 (.seq (.seq (.region [(jm 6 4), (jm 7 0), (jt 8 7), (jw 9 6 8)])
 (.cond (.tmp 9)
 .skip
 (.exit 0)))
 (.seq (.block 1
 (.seq (.region [(jm 12 0), (jm 13 4), (jx 14 6 12 13), (jL 15 6 14), (jo 5 (.new 75 (.agg #[.int .i64 0, .int .i64 0, .int .i64 0, .int .i64 0, .slice none 0 0, .slice none 0 0]))),
 (jS 6 5 15)])
 (.seq (.draw (.f (jf 16 4 5)
 (.f (jl 17 16)
 (.f (jf 19 5 5)
 (.both (.m (jc 18 57 17)
 (.f (jl 20 19)
 (.f (jf 22 4 5)
 (.m (jc 21 57 20)
 (.m (js 22 18)
 (.f (jf 23 5 5)
 (.m (js 23 21)
 .done)))))))
 (.f (jl 20 19)
 (.m (jc 18 57 17)
 (.f (jf 22 4 5)
 (.m (jc 21 57 20)
 (.m (js 22 18)
 (.f (jf 23 5 5)
 (.m (js 23 21)
 .done))))))))))))
 (.region [(jm 24 3), (jL 25 6 5), (jo 26 (.blds 75 1 [(.int .i64 0), (.int .i64 0), (.int .i64 0), (.int .i64 0), (.slice none 0 0), (.slice none 0 0)] [(0, 6, (.tmp 25))])),
 (jo 27 (.app 75 6 80 [(.int .i64 0), (.int .i64 0), (.int .i64 0), (.int .i64 0), (.slice none 0 0), (.slice none 0 0)] (.tmp 24) (.tmp 26))), (jm 3 27)]))))
 (.region [(jm 10 4), (ja 11 10 1), (jm 4 11)]))))))
 (.seq (.region [(jm 28 3), (jm 2 28)])
 .ret)))),
 [.tmp 2]⟩
theorem low_kit_TwinEvents : lowFn Tryz.prog movers 48 = some ⟨ir_kit_TwinEvents.n, strip ir_kit_TwinEvents.body, ir_kit_TwinEvents.res⟩ := by kernel_rfl
def ir_kit_Event : IFn := ⟨45,
 (.seq (.region [(jb 2 75 0), (jb 3 75 1), (jo 4 (.mov (.const (.bool false))))])
 (.seq (.region [(jf 5 0 2), (jl 6 5), (jf 7 0 3), (jl 8 7), (jo 9 (.bin .eql (.tmp 6) (.tmp 8))), (jm 10 9), (jy 10 (jf 11 1 2)), (jy 10 (jl 12 11)), (jy 10 (jf 13 1 3)),
 (jy 10 (jl 14 13)), (jy 10 (jo 15 (.bin .eql (.tmp 12) (.tmp 14)))), (jA 16 10 15), (jm 17 16), (jy 17 (jf 18 2 2)), (jy 17 (jl 19 18)), (jy 17 (jf 20 2 3)), (jy 17 (jl 21 20)),
 (jy 17 (jo 22 (.bin .eql (.tmp 19) (.tmp 21)))), (jA 23 17 22), (jm 24 23), (jy 24 (jf 25 3 2)), (jy 24 (jl 26 25)), (jy 24 (jf 27 3 3)), (jy 24 (jl 28 27)), (jy 24 (jo 29 (.bin .eql (.tmp 26) (.tmp 28)))),
 (jA 30 24 29), (jm 31 30), (jy 31 (jf 32 4 2)), (jy 31 (jl 33 32)), (jy 31 (jf 34 4 3)), (jy 31 (jl 35 34)), (jy 31 (jC 36 78 33 35)), (jA 37 31 36), (jm 38 37),
 (jy 38 (jf 39 5 2)), (jy 38 (jl 40 39)), (jy 38 (jf 41 5 3)), (jy 38 (jl 42 41)), (jy 38 (jC 43 78 40 42)), (jA 44 38 43), (jm 4 44)])
 .ret)),
 [.tmp 4]⟩
theorem low_kit_Event : lowFn Tryz.prog movers 51 = some ⟨ir_kit_Event.n, strip ir_kit_Event.body, ir_kit_Event.res⟩ := by kernel_rfl
def ir_kit_Observed : IFn := ⟨26,
 (.seq (.region [(jo 4 (.mov (.const (.bool false))))])
 (.seq (.seq (.region [(jm 6 0), (jt 7 6), (jm 8 1), (jt 9 8), (jo 10 (.bin .neq (.tmp 7) (.tmp 9)))])
 (.cond (.tmp 10)
 (.seq (.region [(jo 4 (.mov (.const (.bool false))))])
 .ret)
 .skip))
 (.seq (.seq (.region [(jk 5 0)])
 (.block 0
 (.loop 67106864
 (.seq (.seq (.region [(jm 11 5), (jm 12 0), (jt 13 12), (jw 14 11 13)])
 (.cond (.tmp 14)
 .skip
 (.exit 0)))
 (.seq (.block 1
 (.seq (.draw (.f (jm 17 0)
 (.f (jm 18 5)
 (.f (jx 19 3 17 18)
 (.f (jL 20 3 19)
 (.f (jm 21 1)
 (.f (jm 22 5)
 (.f (jx 23 3 21 22)
 (.f (jL 24 3 23)
 (.f (jo 25 (.ageq true [0, 0, 0] (.tmp 20) (.tmp 24)))
 .done))))))))))
 (.cond (.tmp 25)
 (.seq (.region [(jo 4 (.mov (.const (.bool false))))])
 .ret)
 .skip)))
 (.region [(jm 15 5), (ja 16 15 1), (jm 5 16)]))))))
 (.seq (.region [(jo 4 (.mov (.const (.bool true))))])
 .ret)))),
 [.tmp 4]⟩
theorem low_kit_Observed : lowFn Tryz.prog movers 52 = some ⟨ir_kit_Observed.n, strip ir_kit_Observed.body, ir_kit_Observed.res⟩ := by kernel_rfl
def ir_kit_TwinInts : IFn := ⟨19,
 (.seq (.region [(jo 2 (.mov (.const (.slice none 0 0))))])
 (.seq (.region [(jo 3 (.mov (.const (.slice none 0 0))))])
 (.seq (.seq (.region [(jk 4 0)])
 (.block 0
 (.loop 262136
 (.seq (.seq (.region [(jm 5 4), (jm 6 0), (jt 7 6), (jw 8 5 7)])
 (.cond (.tmp 8)
 .skip
 (.exit 0)))
 (.seq (.block 1
 (.region [(jm 11 3), (jm 12 0), (jm 13 4), (jx 14 1 12 13), (jl 15 14), (jo 16 (.blds 3 1 [(.int .i64 0)] [(0, 1, (.tmp 15))])), (jo 17 (.app 3 1 8 [(.int .i64 0)] (.tmp 11) (.tmp 16))),
 (jm 3 17)]))
 (.region [(jm 9 4), (ja 10 9 1), (jm 4 10)]))))))
 (.seq (.region [(jm 18 3), (jm 2 18)])
 .ret)))),
 [.tmp 2]⟩
theorem low_kit_TwinInts : lowFn Tryz.prog movers 57 = some ⟨ir_kit_TwinInts.n, strip ir_kit_TwinInts.body, ir_kit_TwinInts.res⟩ := by kernel_rfl
def ir_kit_TwinProgram : IFn := ⟨19,
 (.seq (.region [(jo 2 (.mov (.const (.slice none 0 0))))])
 (.seq (.region [(jo 3 (.mov (.const (.slice none 0 0))))])
 (.seq (.seq (.region [(jk 4 0)])
 (.block 0
 (.loop 262136
 (.seq (.seq (.region [(jm 5 4), (jm 6 0), (jt 7 6), (jw 8 5 7)])
 (.cond (.tmp 8)
 .skip
 (.exit 0)))
 (.seq (.block 1
 (.region [(jm 11 3), (jm 12 0), (jm 13 4), (jx 14 5 12 13), (jL 15 5 14), (jo 16 (.blds 69 1 [(.int .i64 0), (.int .i64 0), (.int .i64 0), (.int .i64 0), (.int .i64 0)] [(0, 5, (.tmp 15))])),
 (jo 17 (.app 69 5 40 [(.int .i64 0), (.int .i64 0), (.int .i64 0), (.int .i64 0), (.int .i64 0)] (.tmp 11) (.tmp 16))), (jm 3 17)]))
 (.region [(jm 9 4), (ja 10 9 1), (jm 4 10)]))))))
 (.seq (.region [(jm 18 3), (jm 2 18)])
 .ret)))),
 [.tmp 2]⟩
theorem low_kit_TwinProgram : lowFn Tryz.prog movers 58 = some ⟨ir_kit_TwinProgram.n, strip ir_kit_TwinProgram.body, ir_kit_TwinProgram.res⟩ := by kernel_rfl
def ir_kit_Ints : IFn := ⟨26,
 (.seq (.region [(jo 4 (.mov (.const (.bool false))))])
 (.seq (.seq (.region [(jm 6 0), (jt 7 6), (jm 8 1), (jt 9 8), (jo 10 (.bin .neq (.tmp 7) (.tmp 9)))])
 (.cond (.tmp 10)
 (.seq (.region [(jo 4 (.mov (.const (.bool false))))])
 .ret)
 .skip))
 (.seq (.seq (.region [(jk 5 0)])
 (.block 0
 (.loop 67106864
 (.seq (.seq (.region [(jm 11 5), (jm 12 0), (jt 13 12), (jw 14 11 13)])
 (.cond (.tmp 14)
 .skip
 (.exit 0)))
 (.seq (.block 1
 (.seq (.draw (.f (jm 17 0)
 (.f (jm 18 5)
 (.f (jx 19 1 17 18)
 (.f (jl 20 19)
 (.f (jm 21 1)
 (.f (jm 22 5)
 (.f (jx 23 1 21 22)
 (.f (jl 24 23)
 (.f (jo 25 (.bin .neq (.tmp 20) (.tmp 24)))
 .done))))))))))
 (.cond (.tmp 25)
 (.seq (.region [(jo 4 (.mov (.const (.bool false))))])
 .ret)
 .skip)))
 (.region [(jm 15 5), (ja 16 15 1), (jm 5 16)]))))))
 (.seq (.region [(jo 4 (.mov (.const (.bool true))))])
 .ret)))),
 [.tmp 4]⟩
theorem low_kit_Ints : lowFn Tryz.prog movers 78 = some ⟨ir_kit_Ints.n, strip ir_kit_Ints.body, ir_kit_Ints.res⟩ := by kernel_rfl
end Go.Proofs.YtfompmhncnkcfaaGreatDoor
namespace Go.Proofs.YtfompmhncnkcfaaGreatDoor
open Go
set_option maxRecDepth 100000
def irc_make_Program : IFn := ⟨191,
 (.seq (.region [(jo 8 (.mov (.const (.slice none 0 0))))])
 (.seq (.region [(jo 9 (.mov (.const (.slice none 0 0))))])
 (.seq (.region [(jo 10 (.mov (.const (.bool false))))])
 (.seq (.region [(jo 11 (.mov (.const (.slice none 0 0))))])
 (.seq (.seq (.region [(jk 12 0)])
 (.block 0
 (.loop 365375409332725729550921208179070754913982217728
 (.seq (.seq (.region [(jm 20 12), (jm 21 0), (jt 22 21), (jw 23 20 22), (jm 24 23), (jy 24 (jm 25 9)), (jy 24 (jt 26 25)), (jy 24 (jm 27 1)), (jy 24 (jo 28 (.bin .sub (.tmp 27) (.const (.int .i64 1))))),
 (jy 24 (jw 29 26 28)), (jA 30 24 29)])
 (.cond (.tmp 30)
 .skip
 (.exit 0)))
 (.seq (.block 1
 (.seq (.region [(jm 33 0), (jm 34 12), (jx 35 1 33 34), (jl 36 35), (jo 37 (.conv .u64 (.tmp 36))), (jm 13 37)])
 (.seq (.region [(jm 38 13), (jo 39 (.bin .rem (.tmp 38) (.const (.int .u64 16)))), (jo 40 (.conv .i64 (.tmp 39))), (jm 14 40)])
 (.seq (.region [(jm 41 13), (jo 42 (.bin .quo (.tmp 41) (.const (.int .u64 16)))), (jm 13 42)])
 (.seq (.region [(jk 15 0)])
 (.cut (.block 2
 (.seq (.region [(jm 44 14), (jo 45 (.bin .lss (.tmp 44) (.const (.int .i64 2)))), (jm 43 45)])
 (.cond (.tmp 43)
 (.seq (.region [(jo 46 (.blds 3 3 [(.int .i64 0), (.int .i64 0), (.int .i64 0)] [(0, 1, (.const (.int .i64 1))), (1, 1, (.const (.int .i64 3))), (2, 1, (.const (.int .i64 2)))])),
 (jm 47 13), (jo 48 (.bin .rem (.tmp 47) (.const (.int .u64 3)))), (jx 49 1 46 48), (jl 50 49), (jm 15 50)])
 (.region [(jm 51 13), (jo 52 (.bin .quo (.tmp 51) (.const (.int .u64 3)))), (jm 13 52)]))
 (.seq (.region [(jm 54 14), (jq 55 54 2), (jm 56 55), (jy 56 (jm 57 9)), (jy 56 (jt 58 57)), (jy 56 (jo 59 (.bin .gtr (.tmp 58) (.const (.int .i64 0))))), (jA 60 56 59),
 (jm 53 60)])
 (.cond (.tmp 53)
 (.seq (.region [(jo 61 (.blds 3 3 [(.int .i64 0), (.int .i64 0), (.int .i64 0)] [(0, 1, (.const (.int .i64 5))), (1, 1, (.const (.int .i64 6))), (2, 1, (.const (.int .i64 4)))])),
 (jm 62 13), (jo 63 (.bin .rem (.tmp 62) (.const (.int .u64 3)))), (jx 64 1 61 63), (jl 65 64), (jm 15 65)])
 (.region [(jm 66 13), (jo 67 (.bin .quo (.tmp 66) (.const (.int .u64 3)))), (jm 13 67)]))
 (.seq (.region [(jm 69 10), (jo 70 (.not (.tmp 69))), (jm 71 70), (jy 71 (jm 72 14)), (jy 71 (jo 73 (.bin .lss (.tmp 72) (.const (.int .i64 7))))), (jA 74 71 73),
 (jm 75 74), (jy 75 (jm 76 3)), (jA 77 75 76), (jm 68 77)])
 (.cond (.tmp 68)
 (.seq (.region [(jo 78 (.blds 3 5 [(.int .i64 0), (.int .i64 0), (.int .i64 0), (.int .i64 0), (.int .i64 0)] [(0, 1, (.const (.int .i64 12))), (1, 1, (.const (.int .i64 13))), (2, 1, (.const (.int .i64 12))), (3, 1, (.const (.int .i64 13))), (4, 1, (.const (.int .i64 16)))])),
 (jm 79 13), (jo 80 (.bin .rem (.tmp 79) (.const (.int .u64 5)))), (jx 81 1 78 80), (jl 82 81), (jm 15 82)])
 (.region [(jm 83 13), (jo 84 (.bin .quo (.tmp 83) (.const (.int .u64 5)))), (jm 13 84)]))
 (.seq (.region [(jm 86 10), (jo 87 (.not (.tmp 86))), (jm 88 87), (jy 88 (jm 89 14)), (jy 88 (jq 90 89 7)), (jA 91 88 90), (jm 85 91)])
 (.cond (.tmp 85)
 (.region [(jk 15 17)])
 (.seq (.region [(jm 93 10), (jo 94 (.not (.tmp 93))), (jm 92 94)])
 (.cond (.tmp 92)
 (.region [(jk 15 7)])
 (.seq (.region [(jm 96 14), (jo 97 (.bin .lss (.tmp 96) (.const (.int .i64 8)))), (jm 95 97)])
 (.cond (.tmp 95)
 (.region [(jk 15 10)])
 (.seq (.region [(jm 99 14), (jo 100 (.bin .lss (.tmp 99) (.const (.int .i64 12)))), (jm 98 100)])
 (.cond (.tmp 98)
 (.region [(jk 15 11)])
 (.seq (.region [(jm 102 14), (jq 103 102 12), (jm 104 103), (jy 104 (jm 105 2)), (jA 106 104 105), (jm 101 106)])
 (.cond (.tmp 101)
 (.region [(jk 15 14)])
 (.seq (.region [(jm 108 14), (jq 109 108 13), (jm 110 109), (jy 110 (jm 111 2)), (jA 112 110 111), (jm 107 112)])
 (.cond (.tmp 107)
 (.region [(jk 15 15)])
 (.seq (.region [(jm 114 14), (jq 115 114 14), (jm 116 115), (jy 116 (jm 117 13)), (jy 116 (jo 118 (.bin .rem (.tmp 117) (.const (.int .u64 4))))), (jy 116 (jo 119 (.bin .eql (.tmp 118) (.const (.int .u64 0))))),
 (jA 120 116 119), (jm 113 120)])
 (.cond (.tmp 113)
 (.region [(jk 15 9)])
 (.region [(jk 15 8)]))))))))))))))))))))))
 (.seq (.region [(jm 121 15), (jm 122 13), (jC 123 79 121 122), (jo 16 (.new 69 (.agg #[.int .i64 0, .int .i64 0, .int .i64 0, .int .i64 0, .int .i64 0]))), (jS 5 16 123)])
 (.cut (.seq (.region [(jm 124 15), (jq 125 124 5), (jm 126 125), (jz 126 (jm 127 15)), (jz 126 (jq 128 127 6)), (jO 129 126 128)])
 (.cond (.tmp 129)
 (.region [(jm 130 13), (jo 131 (.bin .rem (.tmp 130) (.const (.int .u64 4)))), (jo 132 (.conv .i64 (.tmp 131))), (jf 133 1 16), (js 133 132)])
 .skip))
 (.cut (.seq (.region [(jm 134 15), (jq 135 134 5), (jm 136 135), (jz 136 (jm 137 15)), (jz 136 (jq 138 137 6)), (jO 139 136 138), (jm 140 139), (jz 140 (jm 141 15)),
 (jz 140 (jq 142 141 4)), (jO 143 140 142)])
 (.cond (.tmp 143)
 (.region [(jm 144 11), (jm 145 9), (jt 146 145), (jo 147 (.blds 3 1 [(.int .i64 0)] [(0, 1, (.tmp 146))])), (jo 148 (.app 3 1 8 [(.int .i64 0)] (.tmp 144) (.tmp 147))),
 (jm 11 148)])
 .skip))
 (.seq (.region [(jm 149 9), (jL 150 5 16), (jo 151 (.blds 69 1 [(.int .i64 0), (.int .i64 0), (.int .i64 0), (.int .i64 0), (.int .i64 0)] [(0, 5, (.tmp 150))])),
 (jo 152 (.app 69 5 40 [(.int .i64 0), (.int .i64 0), (.int .i64 0), (.int .i64 0), (.int .i64 0)] (.tmp 149) (.tmp 151))), (jm 9 152)])
 (.seq (.region [(jm 153 15)])
 (.block 3
 (.seq (.region [(jq 155 153 7), (jm 154 155)])
 (.cond (.tmp 154)
 (.region [(jo 10 (.mov (.const (.bool true))))])
 (.seq (.region [(jq 157 153 8), (jm 156 157)])
 (.cond (.tmp 156)
 (.region [(jo 10 (.mov (.const (.bool false))))])
 .skip))))))))))))))))
 (.region [(jm 31 12), (ja 32 31 1), (jm 12 32)]))))))
 (.cut (.seq (.region [(jm 158 10)])
 (.cond (.tmp 158)
 (.region [(jm 159 9), (jo 160 (.bld [(.int .i64 0), (.int .i64 0), (.int .i64 0), (.int .i64 0), (.int .i64 0)] [(0, 1, (.const (.int .i64 8)))])), (jo 161 (.blds 69 1 [(.int .i64 0), (.int .i64 0), (.int .i64 0), (.int .i64 0), (.int .i64 0)] [(0, 5, (.tmp 160))])),
 (jo 162 (.app 69 5 40 [(.int .i64 0), (.int .i64 0), (.int .i64 0), (.int .i64 0), (.int .i64 0)] (.tmp 159) (.tmp 161))), (jm 9 162)])
 .skip))
 (.seq (.seq (.region [(jk 17 0)])
 (.block 4
 (.loop 1569275422154657092311724010172437942295324703868549201920
 (.seq (.seq (.region [(jm 163 17), (jm 164 11), (jt 165 164), (jw 166 163 165)])
 (.cond (.tmp 166)
 .skip
 (.exit 4)))
 (.seq (.block 5
 (.seq (.region [(jm 169 9), (jm 170 11), (jm 171 17), (jx 172 1 170 171), (jl 173 172), (jx 174 5 169 173), (jf 175 4 174),
 ⟨none, .st (.tmp 175) (.const (.int .i64 1)), none⟩])
 (.seq (.region [(jm 177 9), (jc 178 50 177), (jm 176 178), (je 179 176 0), (je 180 176 1), (jm 18 179), (jm 19 180)])
 (.seq (.region [(jm 181 19), (jo 182 (.bin .neq (.tmp 181) (.const (.int .i64 0))))])
 (.cond (.tmp 182)
 (.region [(jm 183 9), (jm 184 11), (jm 185 17), (jx 186 1 184 185), (jl 187 186), (jx 188 5 183 187), (jf 189 4 188),
 ⟨none, .st (.tmp 189) (.const (.int .i64 0)), none⟩])
 .skip)))))
 (.region [(jm 167 17), (ja 168 167 1), (jm 17 168)]))))))
 (.seq (.region [(jm 190 9), (jm 8 190)])
 .ret)))))))),
 [.tmp 8]⟩
theorem lowc_make_Program : lowFn Tryz.prog movers 53 = some ⟨irc_make_Program.n, strip irc_make_Program.body, irc_make_Program.res⟩ := by kernel_rfl
end Go.Proofs.YtfompmhncnkcfaaGreatDoor
namespace Go.Proofs.YtfompmhncnkcfaaGreatDoor
open Go
set_option maxRecDepth 100000
def ir_make_Config : IFn := ⟨78,
 (.seq (.region [(jo 10 (.new 27 (.agg #[.int .i64 0, .int .i64 0, .int .i64 0, .int .i64 0, .int .i64 0, .int .i64 0, .int .i64 0, .int .i64 0, .int .i64 0, .int .i64 0, .int .i64 0, .int .i64 0, .bool false])))])
 (.seq (.region [(jm 15 0), (jo 16 (.call 23 [(.tmp 15), (.const (.int .i64 9))])), (jo 17 (.bin .add (.const (.int .i64 4)) (.tmp 16))), (jm 18 1), (jo 19 (.call 23 [(.tmp 18), (.const (.int .i64 8))])),
 (jo 20 (.bin .add (.const (.int .i64 1)) (.tmp 19))), (jo 21 (.bld [(.int .i64 0), (.int .i64 0), (.int .i64 0), (.int .i64 0), (.int .i64 0), (.int .i64 0), (.int .i64 0), (.int .i64 0), (.int .i64 0), (.int .i64 0), (.int .i64 0), (.int .i64 0), (.bool false)] [(0, 1, (.tmp 17)), (1, 1, (.tmp 20))])),
 (jo 11 (.new 27 (.agg #[.int .i64 0, .int .i64 0, .int .i64 0, .int .i64 0, .int .i64 0, .int .i64 0, .int .i64 0, .int .i64 0, .int .i64 0, .int .i64 0, .int .i64 0, .int .i64 0, .bool false]))),
 (jS 13 11 21)])
 (.seq (.region [(jm 22 2), (jo 23 (.call 23 [(.tmp 22), (.const (.int .i64 6))])), (jo 24 (.bin .add (.const (.int .i64 1)) (.tmp 23))), (jf 25 7 11), (js 25 24)])
 (.seq (.region [(jm 26 2), (jo 27 (.bin .quo (.tmp 26) (.const (.int .i64 7)))), (jo 28 (.call 23 [(.tmp 27), (.const (.int .i64 8))])), (jo 29 (.bin .add (.const (.int .i64 1)) (.tmp 28))),
 (jf 30 8 11), (js 30 29)])
 (.seq (.region [(jm 31 3), (jo 32 (.call 23 [(.tmp 31), (.const (.int .i64 3))])), (jf 33 9 11), (js 33 32)])
 (.seq (.region [(jm 34 3), (jo 35 (.bin .quo (.tmp 34) (.const (.int .i64 3)))), (jo 36 (.call 23 [(.tmp 35), (.const (.int .i64 3))])), (jf 37 10 11), (js 37 36)])
 (.seq (.region [(jf 38 11 11),
 ⟨none, .st (.tmp 38) (.const (.int .i64 50)), none⟩])
 (.seq (.seq (.region [(jm 39 4), (jo 40 (.call 23 [(.tmp 39), (.const (.int .i64 5))])), (jq 41 40 0)])
 (.cond (.tmp 41)
 (.region [(jm 42 4), (jo 43 (.bin .quo (.tmp 42) (.const (.int .i64 5)))), (jo 44 (.call 23 [(.tmp 43), (.const (.int .i64 4))])), (jf 45 11 11), (js 45 44)])
 .skip))
 (.seq (.region [(jf 46 2 11),
 ⟨none, .st (.tmp 46) (.const (.int .i64 2)), none⟩])
 (.seq (.region [(jf 47 0 11), (jl 48 47), (jo 49 (.bin .sub (.tmp 48) (.const (.int .i64 2)))), (jm 12 49)])
 (.seq (.seq (.region [(jk 13 0)])
 (.block 0
 (.loop 151115726325928740024320
 (.seq (.seq (.region [(jm 50 13), (jo 51 (.bin .lss (.tmp 50) (.const (.int .i64 2))))])
 (.cond (.tmp 51)
 .skip
 (.exit 0)))
 (.seq (.block 1
 (.seq (.draw (.f (jm 54 3)
 (.f (jm 55 13)
 (.f (jo 56 (.bin .mul (.const (.int .i64 20)) (.tmp 55)))
 (.f (jo 57 (.bin .add (.const (.int .i64 9)) (.tmp 56)))
 (.f (jo 58 (.bin .quo (.tmp 54) (.tmp 57)))
 (.f (jm 59 12)
 (.f (jm 60 13)
 (.f (jo 61 (.bin .shr (.tmp 59) (.tmp 60)))
 (.f (ja 62 61 1)
 (.f (jC 63 23 58 62)
 (.f (jm 14 63)
 .done))))))))))))
 (.seq (.region [(jm 64 13), (jm 65 14), (jo 66 (.mm false (.tmp 65) (.const (.int .i64 2)))), (jf 67 3 11), (jo 68 (.ixa 4 1 (.tmp 67) (.tmp 64))), (js 68 66)])
 (.region [(jm 69 12), (jm 70 13), (jf 71 3 11), (jo 72 (.ixa 4 1 (.tmp 71) (.tmp 70))), (jl 73 72), (jm 74 13), (jo 75 (.bin .shl (.tmp 73) (.tmp 74))), (jo 76 (.bin .sub (.tmp 69) (.tmp 75))),
 (jm 12 76)]))))
 (.region [(jm 52 13), (ja 53 52 1), (jm 13 53)]))))))
 (.seq (.region [(jL 77 13 11), (jS 13 10 77)])
 .ret)))))))))))),
 [.cellN 10 13]⟩
theorem low_make_Config : lowFn Tryz.prog movers 28 = some ⟨ir_make_Config.n, strip ir_make_Config.body, ir_make_Config.res⟩ := by kernel_rfl
def ir_make_Script : IFn := ⟨82,
 (.seq (.region [(jb 7 27 0), (jo 14 (.new 32 (.agg #[.int .i64 0, .int .i64 0, .int .i64 0, .int .i64 0, .int .i64 0, .int .i64 0, .int .i64 0, .int .i64 0, .int .i64 0, .int .i64 0, .int .i64 0, .int .i64 0, .bool false, .slice none 0 0, .slice none 0 0, .slice none 0 0])))])
 (.seq (.region [(jL 20 13 7), (jo 21 (.bld [(.int .i64 0), (.int .i64 0), (.int .i64 0), (.int .i64 0), (.int .i64 0), (.int .i64 0), (.int .i64 0), (.int .i64 0), (.int .i64 0), (.int .i64 0), (.int .i64 0), (.int .i64 0), (.bool false), (.slice none 0 0), (.slice none 0 0), (.slice none 0 0)] [(0, 13, (.tmp 20))])),
 (jo 15 (.new 32 (.agg #[.int .i64 0, .int .i64 0, .int .i64 0, .int .i64 0, .int .i64 0, .int .i64 0, .int .i64 0, .int .i64 0, .int .i64 0, .int .i64 0, .int .i64 0, .int .i64 0, .bool false, .slice none 0 0, .slice none 0 0, .slice none 0 0]))),
 (jS 16 15 21)])
 (.seq (.seq (.region [(jk 16 0)])
 (.block 0
 (.loop 68715347968
 (.seq (.seq (.region [(jm 22 16), (jf 23 0 7), (jl 24 23), (jw 25 22 24)])
 (.cond (.tmp 25)
 .skip
 (.exit 0)))
 (.seq (.block 1
 (.region [(jf 28 13 15), (jl 29 28), (jm 30 16), (jo 31 (.bin .rem (.tmp 30) (.const (.int .i64 4)))), (jo 32 (.conv .u64 (.tmp 31))), (jo 33 (.blds 63 1 [(.int .u64 0)] [(0, 1, (.tmp 32))])),
 (jo 34 (.app 63 1 8 [(.int .u64 0)] (.tmp 29) (.tmp 33))), (jf 35 13 15), (js 35 34)]))
 (.region [(jm 26 16), (ja 27 26 1), (jm 16 27)]))))))
 (.seq (.seq (.region [(jk 17 0)])
 (.block 2
 (.loop 18446744004990468096
 (.seq (.seq (.region [(jm 36 17), (jm 37 1), (jw 38 36 37)])
 (.cond (.tmp 38)
 .skip
 (.exit 2)))
 (.seq (.block 3
 (.seq (.region [(jo 18 (.mov (.const (.slice none 0 0))))])
 (.seq (.seq (.region [(jm 41 17), (jm 42 2), (jt 43 42), (jw 44 41 43)])
 (.cond (.tmp 44)
 (.region [(jm 45 2), (jm 46 17), (jx 47 1 45 46), (jl 48 47), (jm 18 48)])
 .skip))
 (.draw (.f (jf 49 14 15)
 (.f (jm 51 18)
 (.f (jm 52 3)
 (.f (jm 53 4)
 (.f (jm 54 53)
 (.f (jy 54 (jL 55 13 7))
 (.f (jy 54 (jc 56 35 55))
 (.f (jy 54 (jo 57 (.bin .gtr (.tmp 56) (.const (.int .i64 0)))))
 (.f (jA 58 54 57)
 (.f (jm 59 5)
 (.both (.f (jl 50 49)
 (.m (jo 60 (.call 53 [(.tmp 51), (.tmp 52), (.tmp 58), (.tmp 59)]))
 (.m (jo 61 (.blds 67 1 [(.slice none 0 0)] [(0, 1, (.tmp 60))]))
 (.m (jo 62 (.app 67 1 24 [(.slice none 0 0)] (.tmp 50) (.tmp 61)))
 (.f (jf 63 14 15)
 (.m (js 63 62)
 .done))))))
 (.m (jo 60 (.call 53 [(.tmp 51), (.tmp 52), (.tmp 58), (.tmp 59)]))
 (.f (jl 50 49)
 (.m (jo 61 (.blds 67 1 [(.slice none 0 0)] [(0, 1, (.tmp 60))]))
 (.m (jo 62 (.app 67 1 24 [(.slice none 0 0)] (.tmp 50) (.tmp 61)))
 (.f (jf 63 14 15)
 (.m (js 63 62)
 .done)))))))))))))))))))))
 (.region [(jm 39 17), (ja 40 39 1), (jm 17 40)]))))))
 (.seq (.seq (.region [(jk 19 0)])
 (.block 4
 (.loop 2417833192485184640385024
 (.seq (.seq (.region [(jm 64 19), (jm 65 6), (jt 66 65), (jw 67 64 66)])
 (.cond (.tmp 67)
 .skip
 (.exit 4)))
 (.seq (.block 5
 (.draw (.f (jf 70 15 15)
 (.f (jl 71 70)
 (.f (jm 72 6)
 (.f (jm 73 19)
 (.f (jx 74 1 72 73)
 (.f (jl 75 74)
 (.f (jm 76 1)
 (.f (jC 77 23 75 76)
 (.m (jo 78 (.blds 3 1 [(.int .i64 0)] [(0, 1, (.tmp 77))]))
 (.m (jo 79 (.app 3 1 8 [(.int .i64 0)] (.tmp 71) (.tmp 78)))
 (.f (jf 80 15 15)
 (.m (js 80 79)
 .done))))))))))))))
 (.region [(jm 68 19), (ja 69 68 1), (jm 19 69)]))))))
 (.seq (.region [(jL 81 16 15), (jS 16 14 81)])
 .ret)))))),
 [.cellN 14 16]⟩
theorem low_make_Script : lowFn Tryz.prog movers 29 = some ⟨ir_make_Script.n, strip ir_make_Script.body, ir_make_Script.res⟩ := by kernel_rfl
def ir_make_instruction : IFn := ⟨84,
 (.seq (.region [(jo 4 (.new 69 (.agg #[.int .i64 0, .int .i64 0, .int .i64 0, .int .i64 0, .int .i64 0])))])
 (.seq (.region [(jm 9 1), (jo 10 (.bin .rem (.tmp 9) (.const (.int .u64 4)))), (jo 11 (.conv .i64 (.tmp 10))), (jm 12 1), (jo 13 (.bin .quo (.tmp 12) (.const (.int .u64 4)))),
 (jo 14 (.bin .rem (.tmp 13) (.const (.int .u64 4)))), (jo 15 (.conv .i64 (.tmp 14))), (jm 16 1), (jo 17 (.bin .quo (.tmp 16) (.const (.int .u64 16)))), (jo 18 (.bin .rem (.tmp 17) (.const (.int .u64 4)))),
 (jo 19 (.conv .i64 (.tmp 18))), (jm 5 11), (jm 6 15), (jm 7 19)])
 (.seq (.region [(jm 20 1), (jo 21 (.bin .quo (.tmp 20) (.const (.int .u64 64)))), (jo 22 (.bin .rem (.tmp 21) (.const (.int .u64 1024)))), (jo 23 (.conv .i64 (.tmp 22))),
 (jm 8 23)])
 (.seq (.seq (.region [(jm 24 0)])
 (.block 0
 (.seq (.region [(jq 26 24 1), (jm 25 26)])
 (.cond (.tmp 25)
 (.seq (.region [(jm 27 0), (jm 28 5), (jm 29 8), (jo 30 (.bin .rem (.tmp 29) (.const (.int .i64 7)))), (jo 31 (.bld [(.int .i64 0), (.int .i64 0), (.int .i64 0), (.int .i64 0), (.int .i64 0)] [(0, 1, (.tmp 27)), (1, 1, (.tmp 28)), (4, 1, (.tmp 30))])),
 (jS 5 4 31)])
 .ret)
 (.seq (.region [(jq 33 24 2), (jm 32 33)])
 (.cond (.tmp 32)
 (.seq (.region [(jm 34 0), (jm 35 5), (jm 36 6), (jo 37 (.bld [(.int .i64 0), (.int .i64 0), (.int .i64 0), (.int .i64 0), (.int .i64 0)] [(0, 1, (.tmp 34)), (1, 1, (.tmp 35)), (2, 1, (.tmp 36))])),
 (jS 5 4 37)])
 .ret)
 (.seq (.region [(jq 39 24 3), (jm 38 39)])
 (.cond (.tmp 38)
 (.seq (.region [(jm 40 0), (jm 41 5), (jm 42 6), (jm 43 7), (jo 44 (.blds 3 6 [(.int .i64 0), (.int .i64 0), (.int .i64 0), (.int .i64 0), (.int .i64 0), (.int .i64 0)] [(0, 1, (.const (.int .i64 0))), (1, 1, (.const (.int .i64 1))), (2, 1, (.const (.int .i64 5))), (3, 1, (.const (.int .i64 8))), (4, 1, (.const (.int .i64 11))), (5, 1, (.const (.int .i64 12)))])),
 (jm 45 8), (jo 46 (.bin .rem (.tmp 45) (.const (.int .i64 6)))), (jx 47 1 44 46), (jl 48 47), (jo 49 (.bld [(.int .i64 0), (.int .i64 0), (.int .i64 0), (.int .i64 0), (.int .i64 0)] [(0, 1, (.tmp 40)), (1, 1, (.tmp 41)), (2, 1, (.tmp 42)), (3, 1, (.tmp 43)), (4, 1, (.tmp 48))])),
 (jS 5 4 49)])
 .ret)
 (.seq (.seq (.region [(jq 51 24 10), (jm 50 51)])
 (.cond (.tmp 50)
 .skip
 (.seq (.region [(jq 52 24 11), (jm 50 52)])
 (.cond (.tmp 50)
 .skip
 (.seq (.region [(jq 53 24 12), (jm 50 53)])
 (.cond (.tmp 50)
 .skip
 (.region [(jq 54 24 13), (jm 50 54)])))))))
 (.cond (.tmp 50)
 (.seq (.region [(jm 55 0), (jm 56 5), (jm 57 6), (jm 58 8), (jo 59 (.bin .rem (.tmp 58) (.const (.int .i64 5)))), (jo 60 (.bld [(.int .i64 0), (.int .i64 0), (.int .i64 0), (.int .i64 0), (.int .i64 0)] [(0, 1, (.tmp 55)), (1, 1, (.tmp 56)), (2, 1, (.tmp 57)), (4, 1, (.tmp 59))])),
 (jS 5 4 60)])
 .ret)
 (.seq (.region [(jq 62 24 14), (jm 61 62)])
 (.cond (.tmp 61)
 (.seq (.region [(jm 63 0), (jm 64 5), (jm 65 8), (jo 66 (.bin .rem (.tmp 65) (.const (.int .i64 3)))), (jo 67 (.bin .rem (.tmp 66) (.const (.int .i64 2)))), (jo 68 (.bld [(.int .i64 0), (.int .i64 0), (.int .i64 0), (.int .i64 0), (.int .i64 0)] [(0, 1, (.tmp 63)), (1, 1, (.tmp 64)), (4, 1, (.tmp 67))])),
 (jS 5 4 68)])
 .ret)
 (.seq (.seq (.region [(jq 70 24 15), (jm 69 70)])
 (.cond (.tmp 69)
 .skip
 (.region [(jq 71 24 17), (jm 69 71)])))
 (.cond (.tmp 69)
 (.seq (.region [(jm 72 0), (jm 73 5), (jo 74 (.bld [(.int .i64 0), (.int .i64 0), (.int .i64 0), (.int .i64 0), (.int .i64 0)] [(0, 1, (.tmp 72)), (1, 1, (.tmp 73))])),
 (jS 5 4 74)])
 .ret)
 (.seq (.region [(jq 76 24 7), (jm 75 76)])
 (.cond (.tmp 75)
 (.seq (.region [(jm 77 0), (jm 78 8), (jo 79 (.bin .rem (.tmp 78) (.const (.int .i64 3)))), (jo 80 (.bin .add (.const (.int .i64 1)) (.tmp 79))), (jo 81 (.bld [(.int .i64 0), (.int .i64 0), (.int .i64 0), (.int .i64 0), (.int .i64 0)] [(0, 1, (.tmp 77)), (4, 1, (.tmp 80))])),
 (jS 5 4 81)])
 .ret)
 .skip))))))))))))))))
 (.seq (.region [(jm 82 0), (jo 83 (.bld [(.int .i64 0), (.int .i64 0), (.int .i64 0), (.int .i64 0), (.int .i64 0)] [(0, 1, (.tmp 82))])), (jS 5 4 83)])
 .ret))))),
 [.cellN 4 5]⟩
theorem low_make_instruction : lowFn Tryz.prog movers 79 = some ⟨ir_make_instruction.n, strip ir_make_instruction.body, ir_make_instruction.res⟩ := by kernel_rfl
end Go.Proofs.YtfompmhncnkcfaaGreatDoor
