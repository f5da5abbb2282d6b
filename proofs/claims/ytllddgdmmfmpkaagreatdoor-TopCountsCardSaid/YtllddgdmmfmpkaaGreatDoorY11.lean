/- What the laws share, part 11. No condition. -/
import Derived.Test.YtllddgdmmfmpkaaGreatDoorY10
namespace Go.Proofs.YtllddgdmmfmpkaaGreatDoor
open Go
set_option maxRecDepth 100000
def ir_redo_Log_Addrs : IFn := ⟨10,
 (.seq (.region [(jo 2 (.mov (.const (.slice none 0 0))))])
 (.seq (.seq (.region [(jm 3 0), (jo 4 (.nilq false 1 (.tmp 3) (.const (.pointer none))))])
 (.cond (.tmp 4)
 (.seq (.region [(jo 2 (.mov (.const (.slice none 0 0))))])
 .ret)
 .skip))
 (.seq (.region [(jm 5 0), (jn 6 5), (jf 7 1 6), (jl 8 7), (jc 9 19 8), (jm 2 9)])
 .ret))),
 [.tmp 2]⟩
theorem low_redo_Log_Addrs : lowFn Tryz.prog movers 86 = some ⟨ir_redo_Log_Addrs.n, strip ir_redo_Log_Addrs.body, ir_redo_Log_Addrs.res⟩ := by kernel_rfl
def ir_redo_Log_Get : IFn := ⟨31,
 (.seq (.region [(jo 4 (.mov (.const (.int .u64 0)))), (jo 5 (.mov (.const (.bool false))))])
 (.seq (.seq (.region [(jm 7 0), (jo 8 (.nilq false 1 (.tmp 7) (.const (.pointer none)))), (jm 9 8), (jz 9 (jm 10 1)), (jz 9 (jo 11 (.bin .lss (.tmp 10) (.const (.int .i64 0))))),
 (jO 12 9 11)])
 (.cond (.tmp 12)
 (.seq (.region [(jo 4 (.mov (.const (.int .u64 0)))), (jo 5 (.mov (.const (.bool false))))])
 .ret)
 .skip))
 (.seq (.draw (.f (jm 13 0)
 (.f (jn 14 13)
 (.f (jf 15 3 14)
 (.f (jl 16 15)
 (.f (jm 17 0)
 (.f (jm 18 1)
 (.f (jC 19 165 17 18)
 (.f (jx 20 1 16 19)
 (.f (jl 21 20)
 (.f (jm 6 21)
 .done)))))))))))
 (.seq (.seq (.region [(jm 22 6), (jo 23 (.bin .lss (.tmp 22) (.const (.int .i64 0))))])
 (.cond (.tmp 23)
 (.seq (.region [(jo 4 (.mov (.const (.int .u64 0)))), (jo 5 (.mov (.const (.bool false))))])
 .ret)
 .skip))
 (.seq (.region [(jm 24 0), (jn 25 24), (jf 26 2 25), (jl 27 26), (jm 28 6), (jx 29 1 27 28), (jl 30 29), (jm 4 30), (jo 5 (.mov (.const (.bool true))))])
 .ret))))),
 [.tmp 4, .tmp 5]⟩
theorem low_redo_Log_Get : lowFn Tryz.prog movers 98 = some ⟨ir_redo_Log_Get.n, strip ir_redo_Log_Get.body, ir_redo_Log_Get.res⟩ := by kernel_rfl
def ir_redo_Log_Values : IFn := ⟨10,
 (.seq (.region [(jo 2 (.mov (.const (.slice none 0 0))))])
 (.seq (.seq (.region [(jm 3 0), (jo 4 (.nilq false 1 (.tmp 3) (.const (.pointer none))))])
 (.cond (.tmp 4)
 (.seq (.region [(jo 2 (.mov (.const (.slice none 0 0))))])
 .ret)
 .skip))
 (.seq (.region [(jm 5 0), (jn 6 5), (jf 7 2 6), (jl 8 7), (jc 9 24 8), (jm 2 9)])
 .ret))),
 [.tmp 2]⟩
theorem low_redo_Log_Values : lowFn Tryz.prog movers 150 = some ⟨ir_redo_Log_Values.n, strip ir_redo_Log_Values.body, ir_redo_Log_Values.res⟩ := by kernel_rfl
def ir_redo_Log_place : IFn := ⟨54,
 (.seq (.region [(jk 4 0)])
 (.seq (.draw (.f (jm 6 1)
 (.f (jm 7 0)
 (.f (jn 8 7)
 (.f (jf 9 3 8)
 (.f (jl 10 9)
 (.f (jt 11 10)
 (.f (jo 12 (.bin .rem (.tmp 6) (.tmp 11)))
 (.f (jo 13 (.bin .mul (.tmp 12) (.const (.int .i64 5))))
 (.f (jm 14 0)
 (.f (jn 15 14)
 (.f (jf 16 3 15)
 (.f (jl 17 16)
 (.f (jt 18 17)
 (.f (jo 19 (.bin .rem (.tmp 13) (.tmp 18)))
 (.f (jm 5 19)
 .done))))))))))))))))
 (.seq (.block 0
 (.loop 9007199253692448
 (.seq (.seq (.draw (.f (jm 20 0)
 (.f (jn 21 20)
 (.f (jf 22 3 21)
 (.f (jl 23 22)
 (.f (jm 24 5)
 (.f (jx 25 1 23 24)
 (.f (jl 26 25)
 (.f (jo 27 (.bin .geq (.tmp 26) (.const (.int .i64 0))))
 (.f (jm 28 27)
 (.f (jy 28 (jm 29 0))
 (.f (jy 28 (jn 30 29))
 (.f (jy 28 (jf 31 1 30))
 (.f (jy 28 (jl 32 31))
 (.f (jy 28 (jm 33 0))
 (.f (jy 28 (jn 34 33))
 (.f (jy 28 (jf 35 3 34))
 (.f (jy 28 (jl 36 35))
 (.f (jy 28 (jm 37 5))
 (.f (jy 28 (jx 38 1 36 37))
 (.f (jy 28 (jl 39 38))
 (.f (jy 28 (jx 40 1 32 39))
 (.f (jy 28 (jl 41 40))
 (.f (jy 28 (jm 42 1))
 (.f (jy 28 (jo 43 (.bin .neq (.tmp 41) (.tmp 42))))
 (.f (jA 44 28 43)
 .done))))))))))))))))))))))))))
 (.cond (.tmp 44)
 .skip
 (.exit 0)))
 (.block 1
 (.region [(jm 45 5), (ja 46 45 1), (jm 47 0), (jn 48 47), (jf 49 3 48), (jl 50 49), (jt 51 50), (jo 52 (.bin .rem (.tmp 46) (.tmp 51))), (jm 5 52)])))))
 (.seq (.region [(jm 53 5), (jm 4 53)])
 .ret)))),
 [.tmp 4]⟩
theorem low_redo_Log_place : lowFn Tryz.prog movers 165 = some ⟨ir_redo_Log_place.n, strip ir_redo_Log_place.body, ir_redo_Log_place.res⟩ := by kernel_rfl
def ir_redo_Log_Put : IFn := ⟨81,
 (.seq (.region [(jo 6 (.mov (.const (.bool false))))])
 (.seq (.seq (.region [(jm 8 0), (jo 9 (.nilq false 1 (.tmp 8) (.const (.pointer none)))), (jm 10 9), (jz 10 (jm 11 1)), (jz 10 (jo 12 (.bin .lss (.tmp 11) (.const (.int .i64 0))))),
 (jO 13 10 12)])
 (.cond (.tmp 13)
 (.seq (.region [(jo 6 (.mov (.const (.bool false))))])
 .ret)
 .skip))
 (.seq (.region [(jm 14 0), (jm 15 1), (jC 16 165 14 15), (jm 7 16)])
 (.seq (.block 0
 (.seq (.region [(jm 49 0), (jn 50 49), (jf 51 3 50), (jl 52 51), (jm 53 7), (jx 54 1 52 53), (jl 55 54), (jo 56 (.bin .geq (.tmp 55) (.const (.int .i64 0)))), (jm 48 56)])
 (.cond (.tmp 48)
 (.draw (.f (jm 57 0)
 (.f (jn 58 57)
 (.f (jf 59 2 58)
 (.f (jl 60 59)
 (.f (jm 61 0)
 (.f (jn 62 61)
 (.f (jf 63 3 62)
 (.f (jl 64 63)
 (.f (jm 65 7)
 (.f (jx 66 1 64 65)
 (.f (jl 67 66)
 (.f (jm 68 2)
 (.f (jx 69 1 60 67)
 (.m (js 69 68)
 .done)))))))))))))))
 (.seq (.draw (.f (jm 71 0)
 (.f (jn 72 71)
 (.f (jf 73 1 72)
 (.f (jl 74 73)
 (.f (jt 75 74)
 (.f (jm 76 0)
 (.f (jn 77 76)
 (.f (jf 78 0 77)
 (.f (jl 79 78)
 (.f (jo 80 (.bin .eql (.tmp 75) (.tmp 79)))
 (.f (jm 70 80)
 .done))))))))))))
 (.cond (.tmp 70)
 (.seq (.region [(jo 6 (.mov (.const (.bool false))))])
 .ret)
 (.seq (.draw (.f (jm 17 0)
 (.f (jn 18 17)
 (.f (jf 19 3 18)
 (.f (jl 20 19)
 (.f (jm 21 7)
 (.f (jm 22 0)
 (.f (jn 23 22)
 (.f (jf 24 1 23)
 (.f (jl 25 24)
 (.f (jt 26 25)
 (.f (jx 27 1 20 21)
 (.m (js 27 26)
 .done)))))))))))))
 (.draw (.f (jm 28 0)
 (.f (jm 29 0)
 (.f (jm 30 0)
 (.f (jn 31 30)
 (.f (jf 32 1 31)
 (.f (jl 33 32)
 (.f (jm 34 1)
 (.f (jm 37 0)
 (.f (jn 38 37)
 (.f (jf 39 2 38)
 (.f (jm 41 2)
 (.both (.m (jo 35 (.blds 3 1 [(.int .i64 0)] [(0, 1, (.tmp 34))]))
 (.both (.m (jo 36 (.app 3 1 8 [(.int .i64 0)] (.tmp 33) (.tmp 35)))
 (.f (jl 40 39)
 (.m (jo 42 (.blds 33 1 [(.int .u64 0)] [(0, 1, (.tmp 41))]))
 (.m (jo 43 (.app 33 1 8 [(.int .u64 0)] (.tmp 40) (.tmp 42)))
 (.f (jn 44 28)
 (.f (jf 45 1 44)
 (.m (js 45 36)
 (.f (jn 46 29)
 (.f (jf 47 2 46)
 (.m (js 47 43)
 .done))))))))))
 (.both (.f (jl 40 39)
 (.both (.m (jo 36 (.app 3 1 8 [(.int .i64 0)] (.tmp 33) (.tmp 35)))
 (.m (jo 42 (.blds 33 1 [(.int .u64 0)] [(0, 1, (.tmp 41))]))
 (.m (jo 43 (.app 33 1 8 [(.int .u64 0)] (.tmp 40) (.tmp 42)))
 (.f (jn 44 28)
 (.f (jf 45 1 44)
 (.m (js 45 36)
 (.f (jn 46 29)
 (.f (jf 47 2 46)
 (.m (js 47 43)
 .done)))))))))
 (.m (jo 42 (.blds 33 1 [(.int .u64 0)] [(0, 1, (.tmp 41))]))
 (.m (jo 36 (.app 3 1 8 [(.int .i64 0)] (.tmp 33) (.tmp 35)))
 (.m (jo 43 (.app 33 1 8 [(.int .u64 0)] (.tmp 40) (.tmp 42)))
 (.f (jn 44 28)
 (.f (jf 45 1 44)
 (.m (js 45 36)
 (.f (jn 46 29)
 (.f (jf 47 2 46)
 (.m (js 47 43)
 .done)))))))))))
 (.m (jo 42 (.blds 33 1 [(.int .u64 0)] [(0, 1, (.tmp 41))]))
 (.both (.m (jo 36 (.app 3 1 8 [(.int .i64 0)] (.tmp 33) (.tmp 35)))
 (.f (jl 40 39)
 (.m (jo 43 (.app 33 1 8 [(.int .u64 0)] (.tmp 40) (.tmp 42)))
 (.f (jn 44 28)
 (.f (jf 45 1 44)
 (.m (js 45 36)
 (.f (jn 46 29)
 (.f (jf 47 2 46)
 (.m (js 47 43)
 .done)))))))))
 (.f (jl 40 39)
 (.m (jo 36 (.app 3 1 8 [(.int .i64 0)] (.tmp 33) (.tmp 35)))
 (.m (jo 43 (.app 33 1 8 [(.int .u64 0)] (.tmp 40) (.tmp 42)))
 (.f (jn 44 28)
 (.f (jf 45 1 44)
 (.m (js 45 36)
 (.f (jn 46 29)
 (.f (jf 47 2 46)
 (.m (js 47 43)
 .done))))))))))))))
 (.both (.f (jl 40 39)
 (.both (.m (jo 35 (.blds 3 1 [(.int .i64 0)] [(0, 1, (.tmp 34))]))
 (.both (.m (jo 36 (.app 3 1 8 [(.int .i64 0)] (.tmp 33) (.tmp 35)))
 (.m (jo 42 (.blds 33 1 [(.int .u64 0)] [(0, 1, (.tmp 41))]))
 (.m (jo 43 (.app 33 1 8 [(.int .u64 0)] (.tmp 40) (.tmp 42)))
 (.f (jn 44 28)
 (.f (jf 45 1 44)
 (.m (js 45 36)
 (.f (jn 46 29)
 (.f (jf 47 2 46)
 (.m (js 47 43)
 .done)))))))))
 (.m (jo 42 (.blds 33 1 [(.int .u64 0)] [(0, 1, (.tmp 41))]))
 (.m (jo 36 (.app 3 1 8 [(.int .i64 0)] (.tmp 33) (.tmp 35)))
 (.m (jo 43 (.app 33 1 8 [(.int .u64 0)] (.tmp 40) (.tmp 42)))
 (.f (jn 44 28)
 (.f (jf 45 1 44)
 (.m (js 45 36)
 (.f (jn 46 29)
 (.f (jf 47 2 46)
 (.m (js 47 43)
 .done)))))))))))
 (.m (jo 42 (.blds 33 1 [(.int .u64 0)] [(0, 1, (.tmp 41))]))
 (.m (jo 35 (.blds 3 1 [(.int .i64 0)] [(0, 1, (.tmp 34))]))
 (.m (jo 36 (.app 3 1 8 [(.int .i64 0)] (.tmp 33) (.tmp 35)))
 (.m (jo 43 (.app 33 1 8 [(.int .u64 0)] (.tmp 40) (.tmp 42)))
 (.f (jn 44 28)
 (.f (jf 45 1 44)
 (.m (js 45 36)
 (.f (jn 46 29)
 (.f (jf 47 2 46)
 (.m (js 47 43)
 .done))))))))))))
 (.m (jo 42 (.blds 33 1 [(.int .u64 0)] [(0, 1, (.tmp 41))]))
 (.both (.m (jo 35 (.blds 3 1 [(.int .i64 0)] [(0, 1, (.tmp 34))]))
 (.both (.m (jo 36 (.app 3 1 8 [(.int .i64 0)] (.tmp 33) (.tmp 35)))
 (.f (jl 40 39)
 (.m (jo 43 (.app 33 1 8 [(.int .u64 0)] (.tmp 40) (.tmp 42)))
 (.f (jn 44 28)
 (.f (jf 45 1 44)
 (.m (js 45 36)
 (.f (jn 46 29)
 (.f (jf 47 2 46)
 (.m (js 47 43)
 .done)))))))))
 (.f (jl 40 39)
 (.m (jo 36 (.app 3 1 8 [(.int .i64 0)] (.tmp 33) (.tmp 35)))
 (.m (jo 43 (.app 33 1 8 [(.int .u64 0)] (.tmp 40) (.tmp 42)))
 (.f (jn 44 28)
 (.f (jf 45 1 44)
 (.m (js 45 36)
 (.f (jn 46 29)
 (.f (jf 47 2 46)
 (.m (js 47 43)
 .done)))))))))))
 (.f (jl 40 39)
 (.m (jo 35 (.blds 3 1 [(.int .i64 0)] [(0, 1, (.tmp 34))]))
 (.m (jo 36 (.app 3 1 8 [(.int .i64 0)] (.tmp 33) (.tmp 35)))
 (.m (jo 43 (.app 33 1 8 [(.int .u64 0)] (.tmp 40) (.tmp 42)))
 (.f (jn 44 28)
 (.f (jf 45 1 44)
 (.m (js 45 36)
 (.f (jn 46 29)
 (.f (jf 47 2 46)
 (.m (js 47 43)
 .done))))))))))))))))))))))))))))))))
 (.seq (.region [(jo 6 (.mov (.const (.bool true))))])
 .ret))))),
 [.tmp 6]⟩
theorem low_redo_Log_Put : lowFn Tryz.prog movers 167 = some ⟨ir_redo_Log_Put.n, strip ir_redo_Log_Put.body, ir_redo_Log_Put.res⟩ := by kernel_rfl
def ir_redo_New : IFn := ⟨27,
 (.seq (.region [(jo 2 (.mov (.const (.pointer none))))])
 (.seq (.region [(jm 5 0), (jo 6 (.mm false (.tmp 5) (.const (.int .i64 32)))), (jo 7 (.mm true (.const (.int .i64 0)) (.tmp 6))), (jo 8 (.bld [(.int .i64 0), (.slice none 0 0), (.slice none 0 0), (.slice none 0 0)] [(0, 1, (.tmp 7))])),
 (jb 9 214 8), (jm 3 9)])
 (.seq (.region [(jk 4 1)])
 (.seq (.block 0
 (.loop 523280
 (.seq (.seq (.region [(jm 10 4), (jm 11 3), (jn 12 11), (jf 13 0 12), (jl 14 13), (jo 15 (.bin .mul (.const (.int .i64 2)) (.tmp 14))), (jw 16 10 15)])
 (.cond (.tmp 16)
 .skip
 (.exit 0)))
 (.block 1
 (.region [(jm 17 4), (jo 18 (.bin .mul (.tmp 17) (.const (.int .i64 2)))), (jm 4 18)])))))
 (.seq (.region [(jm 19 3), (jm 20 4), (jo 21 (.mk 3 1 8 [(.int .i64 0)] (.tmp 20) (.tmp 20))), (jn 22 19), (jf 23 3 22), (js 23 21)])
 (.seq (.region [(jm 24 3), (jc 25 199 24)])
 (.seq (.region [(jm 26 3), (jm 2 26)])
 .ret))))))),
 [.tmp 2]⟩
theorem low_redo_New : lowFn Tryz.prog movers 169 = some ⟨ir_redo_New.n, strip ir_redo_New.body, ir_redo_New.res⟩ := by kernel_rfl
def ir_redo_Log_Len : IFn := ⟨10,
 (.seq (.region [(jk 2 0)])
 (.seq (.seq (.region [(jm 3 0), (jo 4 (.nilq false 1 (.tmp 3) (.const (.pointer none))))])
 (.cond (.tmp 4)
 (.seq (.region [(jk 2 0)])
 .ret)
 .skip))
 (.seq (.region [(jm 5 0), (jn 6 5), (jf 7 1 6), (jl 8 7), (jt 9 8), (jm 2 9)])
 .ret))),
 [.tmp 2]⟩
theorem low_redo_Log_Len : lowFn Tryz.prog movers 194 = some ⟨ir_redo_Log_Len.n, strip ir_redo_Log_Len.body, ir_redo_Log_Len.res⟩ := by kernel_rfl
def ir_redo_Log_Clear : IFn := ⟨26,
 (.seq (.seq (.region [(jm 3 0), (jo 4 (.nilq false 1 (.tmp 3) (.const (.pointer none))))])
 (.cond (.tmp 4)
 .ret
 .skip))
 (.seq (.region [(jm 5 0), (jm 6 0), (jn 7 5), (jf 8 1 7),
 ⟨none, .st (.tmp 8) (.const (.slice none 0 0)), none⟩, (jn 9 6), (jf 10 2 9),
 ⟨none, .st (.tmp 10) (.const (.slice none 0 0)), none⟩])
 (.seq (.region [(jm 11 0), (jn 12 11), (jf 13 3 12), (jl 14 13), (jt 15 14), (jk 16 0)])
 (.block 0
 (.loop 67043332
 (.seq (.region [(jw 17 16 15)])
 (.seq (.cond (.tmp 17)
 .skip
 (.exit 0))
 (.seq (.block 1
 (.seq (.region [(jm 18 16), (jm 2 18)])
 (.region [(jm 19 0), (jn 20 19), (jf 21 3 20), (jl 22 21), (jm 23 2), (jx 24 1 22 23),
 ⟨none, .st (.tmp 24) (.const (.int .i64 (-1))), none⟩])))
 (.region [(ja 25 16 1), (jm 16 25)]))))))))),
 []⟩
theorem low_redo_Log_Clear : lowFn Tryz.prog movers 199 = some ⟨ir_redo_Log_Clear.n, strip ir_redo_Log_Clear.body, ir_redo_Log_Clear.res⟩ := by kernel_rfl
end Go.Proofs.YtllddgdmmfmpkaaGreatDoor
namespace Go.Proofs.YtllddgdmmfmpkaaGreatDoor
open Go
set_option maxRecDepth 100000
def ir_attempt_Attempt_Busy : IFn := ⟨8,
 (.seq (.region [(jo 2 (.mov (.const (.bool false))))])
 (.seq (.region [(jm 3 0), (jn 4 3), (jf 5 31 4), (jl 6 5), (jo 7 (.bin .neq (.tmp 6) (.const (.int .i64 0)))), (jm 2 7)])
 .ret)),
 [.tmp 2]⟩
theorem low_attempt_Attempt_Busy : lowFn Tryz.prog movers 29 = some ⟨ir_attempt_Attempt_Busy.n, strip ir_attempt_Attempt_Busy.body, ir_attempt_Attempt_Busy.res⟩ := by kernel_rfl
def ir_attempt_Attempt_Step : IFn := ⟨139,
 (.seq (.region [(jo 4 (.new 49 (.agg #[.int .i64 0, .int .i64 0, .int .i64 0, .int .u64 0, .int .u64 0, .bool false]))), (jk 5 0)])
 (.seq (.seq (.region [(jm 10 0), (jn 11 10), (jf 12 31 11), (jl 13 12)])
 (.block 0
 (.seq (.region [(jq 15 13 1), (jm 14 15)])
 (.cond (.tmp 14)
 (.seq (.region [(jm 16 0), (jn 17 16), (jf 18 31 17),
 ⟨none, .st (.tmp 18) (.const (.int .i64 0)), none⟩])
 (.region [(jm 19 0), (jn 20 19), (jf 21 32 20), (jl 22 21), (jo 23 (.callv (.tmp 22) []))]))
 (.seq (.region [(jq 25 13 2), (jm 24 25)])
 (.cond (.tmp 24)
 (.seq (.region [(jm 26 0), (jm 27 1), (jC 28 71 26 27), (je 29 28 0), (je 30 28 1), (jS 6 4 29), (jm 5 30)])
 .ret)
 (.seq (.region [(jq 32 13 3), (jm 31 32)])
 (.cond (.tmp 31)
 (.seq (.region [(jm 33 0), (jm 34 1), (jC 35 72 33 34), (je 36 35 0), (je 37 35 1), (jS 6 4 36), (jm 5 37)])
 .ret)
 (.seq (.region [(jq 39 13 4), (jm 38 39)])
 (.cond (.tmp 38)
 (.seq (.region [(jm 40 0), (jm 41 1), (jC 42 73 40 41), (je 43 42 0), (je 44 42 1), (jS 6 4 43), (jm 5 44)])
 .ret)
 (.seq (.region [(jq 46 13 5), (jm 45 46)])
 (.cond (.tmp 45)
 (.seq (.region [(jm 47 0), (jm 48 1), (jC 49 74 47 48), (je 50 49 0), (je 51 49 1), (jS 6 4 50), (jm 5 51)])
 .ret)
 (.seq (.region [(jq 53 13 6), (jm 52 53)])
 (.cond (.tmp 52)
 (.seq (.region [(jm 54 0), (jm 55 1), (jC 56 75 54 55), (je 57 56 0), (je 58 56 1), (jS 6 4 57), (jm 5 58)])
 .ret)
 (.seq (.region [(jq 60 13 7), (jm 59 60)])
 (.cond (.tmp 59)
 (.seq (.region [(jm 61 0), (jm 62 1), (jC 63 76 61 62), (je 64 63 0), (je 65 63 1), (jS 6 4 64), (jm 5 65)])
 .ret)
 (.seq (.region [(jq 67 13 8), (jm 66 67)])
 (.cond (.tmp 66)
 (.seq (.region [(jm 68 0), (jm 69 1), (jC 70 77 68 69), (je 71 70 0), (je 72 70 1), (jS 6 4 71), (jm 5 72)])
 .ret)
 (.seq (.region [(jq 74 13 9), (jm 73 74)])
 (.cond (.tmp 73)
 (.seq (.region [(jm 75 0), (jm 76 1), (jC 77 78 75 76), (je 78 77 0), (je 79 77 1), (jS 6 4 78), (jm 5 79)])
 .ret)
 (.seq (.region [(jq 81 13 10), (jm 80 81)])
 (.cond (.tmp 80)
 (.seq (.region [(jm 82 0), (jm 83 1), (jC 84 79 82 83), (je 85 84 0), (je 86 84 1), (jS 6 4 85), (jm 5 86)])
 .ret)
 (.seq (.region [(jq 88 13 11), (jm 87 88)])
 (.cond (.tmp 87)
 (.seq (.region [(jm 90 1), (jm 91 0), (jn 92 91), (jf 93 37 92), (jl 94 93), (jo 95 (.bin .add (.tmp 94) (.const (.int .u64 1)))), (jo 96 (.call 80 [(.tmp 90), (.const (.int .i64 3)), (.const (.int .i64 0)), (.tmp 95)])),
 (jm 89 96), (je 97 89 0), (je 98 89 1), (jo 6 (.new 49 (.agg #[.int .i64 0, .int .i64 0, .int .i64 0, .int .u64 0, .int .u64 0, .bool false]))), (jS 6 6 97), (jm 7 98)])
 (.seq (.region [(jm 99 0), (jn 100 99), (jf 101 31 100),
 ⟨none, .st (.tmp 101) (.const (.int .i64 12)), none⟩])
 (.seq (.region [(jL 102 6 6), (jS 6 4 102), (jk 5 19)])
 .ret)))
 (.seq (.region [(jq 104 13 12), (jm 103 104)])
 (.cond (.tmp 103)
 (.seq (.region [(jm 105 1), (jm 106 0), (jn 107 106), (jf 108 5 107), (jf 109 5 108), (jl 110 109), (jc 111 82 110), (jC 112 81 105 111), (jo 8 (.new 49 (.agg #[.int .i64 0, .int .i64 0, .int .i64 0, .int .u64 0, .int .u64 0, .bool false]))),
 (jS 6 8 112)])
 (.seq (.region [(jm 113 0), (jc 114 83 113)])
 (.seq (.region [(jL 115 6 8), (jS 6 4 115), (jk 5 20)])
 .ret)))
 (.seq (.region [(jq 117 13 13), (jm 116 117)])
 (.cond (.tmp 116)
 (.seq (.region [(jm 118 0), (jm 119 1), (jC 120 84 118 119), (je 121 120 0), (je 122 120 1), (jS 6 4 121), (jm 5 122)])
 .ret)
 (.seq (.region [(jq 124 13 14), (jm 123 124)])
 (.cond (.tmp 123)
 (.seq (.region [(jm 125 1), (jm 126 0), (jn 127 126), (jf 128 28 127), (jl 129 128), (jC 130 85 125 129), (jo 9 (.new 49 (.agg #[.int .i64 0, .int .i64 0, .int .i64 0, .int .u64 0, .int .u64 0, .bool false]))),
 (jS 6 9 130)])
 (.seq (.region [(jm 131 0), (jm 132 0), (jn 133 131), (jf 134 31 133),
 ⟨none, .st (.tmp 134) (.const (.int .i64 0)), none⟩, (jn 135 132), (jf 136 29 135),
 ⟨none, .st (.tmp 136) (.const (.int .i64 2)), none⟩])
 (.seq (.region [(jL 137 6 9), (jS 6 4 137), (jk 5 24)])
 .ret)))
 .skip))))))))))))))))))))))))))))))
 (.seq (.region [(jo 138 (.bld [(.int .i64 0), (.int .i64 0), (.int .i64 0), (.int .u64 0), (.int .u64 0), (.bool false)] [])), (jS 6 4 138), (jk 5 0)])
 .ret))),
 [.cellN 4 6, .tmp 5]⟩
theorem low_attempt_Attempt_Step : lowFn Tryz.prog movers 47 = some ⟨ir_attempt_Attempt_Step.n, strip ir_attempt_Attempt_Step.body, ir_attempt_Attempt_Step.res⟩ := by kernel_rfl
def ir_attempt_Attempt_Decided : IFn := ⟨7,
 (.seq (.region [(jo 2 (.mov (.const (.bool false))))])
 (.seq (.region [(jm 3 0), (jn 4 3), (jf 5 38 4), (jl 6 5), (jm 2 6)])
 .ret)),
 [.tmp 2]⟩
theorem low_attempt_Attempt_Decided : lowFn Tryz.prog movers 48 = some ⟨ir_attempt_Attempt_Decided.n, strip ir_attempt_Attempt_Decided.body, ir_attempt_Attempt_Decided.res⟩ := by kernel_rfl
def ir_attempt_Attempt_Words : IFn := ⟨36,
 (.seq (.region [(jo 2 (.mov (.const (.slice none 0 0)))), (jo 3 (.mov (.const (.slice none 0 0))))])
 (.seq (.seq (.region [(jm 6 0), (jn 7 6), (jf 8 0 7), (jf 9 1 8), (jl 10 9), (jc 11 86 10), (jt 12 11), (jk 13 0)])
 (.block 0
 (.loop 536862760
 (.seq (.region [(jw 14 13 12)])
 (.seq (.cond (.tmp 14)
 .skip
 (.exit 0))
 (.seq (.block 1
 (.seq (.region [(jx 15 1 11 13), (jl 16 15), (jm 5 16)])
 (.seq (.region [(jm 17 5), (jm 18 0), (jn 19 18), (jf 20 15 19), (jf 21 0 20), (jl 22 21), (jw 23 17 22)])
 (.cond (.tmp 23)
 (.region [(jm 24 3), (jm 25 5), (jo 26 (.blds 3 1 [(.int .i64 0)] [(0, 1, (.tmp 25))])), (jo 27 (.app 3 1 8 [(.int .i64 0)] (.tmp 24) (.tmp 26))), (jm 3 27)])
 .skip))))
 (.region [(ja 28 13 1), (jm 13 28)])))))))
 (.seq (.region [(jm 29 0), (jn 30 29), (jf 31 0 30), (jf 32 2 31), (jl 33 32), (jc 34 19 33), (jm 35 3), (jm 2 34), (jm 3 35)])
 .ret))),
 [.tmp 2, .tmp 3]⟩
theorem low_attempt_Attempt_Words : lowFn Tryz.prog movers 49 = some ⟨ir_attempt_Attempt_Words.n, strip ir_attempt_Attempt_Words.body, ir_attempt_Attempt_Words.res⟩ := by kernel_rfl
def ir_attempt_Attempt_Code : IFn := ⟨7,
 (.seq (.region [(jk 2 0)])
 (.seq (.region [(jm 3 0), (jn 4 3), (jf 5 30 4), (jl 6 5), (jm 2 6)])
 .ret)),
 [.tmp 2]⟩
theorem low_attempt_Attempt_Code : lowFn Tryz.prog movers 50 = some ⟨ir_attempt_Attempt_Code.n, strip ir_attempt_Attempt_Code.body, ir_attempt_Attempt_Code.res⟩ := by kernel_rfl
def ir_attempt_Attempt_End : IFn := ⟨20,
 (.seq (.region [(jb 2 98 0), (jb 3 3 1), (jk 4 0)])
 (.seq (.seq (.region [(jl 6 2), (jo 7 (.call 91 [(.tmp 6), (.const (.int .i64 1))])), (jm 5 7)])
 (.seq (.region [(jm 8 5), (jo 9 (.bin .neq (.tmp 8) (.const (.int .i64 0))))])
 (.cond (.tmp 9)
 (.seq (.region [(jm 10 5), (jm 4 10)])
 .ret)
 .skip)))
 (.seq (.seq (.region [(jl 11 3), (jo 12 (.bin .neq (.tmp 11) (.const (.int .i64 1)))), (jm 13 12), (jy 13 (jl 14 3)), (jy 13 (jo 15 (.bin .neq (.tmp 14) (.const (.int .i64 2))))),
 (jA 16 13 15)])
 (.cond (.tmp 16)
 (.seq (.region [(jk 4 2)])
 .ret)
 .skip))
 (.seq (.region [(jl 17 2), (jo 18 (.mkf 93 [(.tmp 2), (.tmp 3)])), (jC 19 92 17 18)])
 (.seq (.region [(jk 4 0)])
 .ret))))),
 [.tmp 4]⟩
theorem low_attempt_Attempt_End : lowFn Tryz.prog movers 52 = some ⟨ir_attempt_Attempt_End.n, strip ir_attempt_Attempt_End.body, ir_attempt_Attempt_End.res⟩ := by kernel_rfl
def ir_attempt_Attempt_Read : IFn := ⟨41,
 (.seq (.region [(jb 2 98 0), (jk 4 0)])
 (.seq (.seq (.region [(jl 9 2), (jo 10 (.call 91 [(.tmp 9), (.const (.int .i64 1))])), (jm 5 10)])
 (.seq (.region [(jm 11 5), (jo 12 (.bin .neq (.tmp 11) (.const (.int .i64 0))))])
 (.cond (.tmp 12)
 (.seq (.region [(jm 13 5), (jm 4 13)])
 .ret)
 .skip)))
 (.seq (.seq (.region [(jl 14 2), (jm 15 1), (jC 16 95 14 15)])
 (.cond (.tmp 16)
 (.seq (.region [(jl 17 2), (jo 18 (.mkf 96 [(.tmp 2)])), (jC 19 92 17 18)])
 (.seq (.region [(jk 4 0)])
 .ret))
 .skip))
 (.seq (.region [(jo 20 (.mkf 97 [(.tmp 2)])), (jo 6 (.new 143 (.nilFunc))), (js 6 20)])
 (.seq (.seq (.region [(jl 22 2), (jn 23 22), (jf 24 0 23), (jf 25 1 24), (jl 26 25), (jm 27 1), (jo 28 (.conv .i64 (.tmp 27))), (jC 29 98 26 28), (jm 21 29), (je 30 21 0),
 (je 31 21 1), (jo 7 (.new 33 (.int .u64 0))), (js 7 30), (jm 8 31)])
 (.seq (.region [(jm 32 8)])
 (.cond (.tmp 32)
 (.region [(jl 33 2), (jo 34 (.mkf 99 [(.tmp 6), (.tmp 7)])), (jC 35 92 33 34)])
 (.region [(jl 36 2), (jm 37 1), (jo 38 (.conv .i64 (.tmp 37))), (jl 39 6), (jo 40 (.call 100 [(.tmp 36), (.tmp 38), (.tmp 39)]))]))))
 (.seq (.region [(jk 4 0)])
 .ret)))))),
 [.tmp 4]⟩
theorem low_attempt_Attempt_Read : lowFn Tryz.prog movers 53 = some ⟨ir_attempt_Attempt_Read.n, strip ir_attempt_Attempt_Read.body, ir_attempt_Attempt_Read.res⟩ := by kernel_rfl
def ir_attempt_Attempt_Write : IFn := ⟨16,
 (.seq (.region [(jb 3 98 0), (jb 4 33 1), (jb 5 33 2), (jk 6 0)])
 (.seq (.seq (.region [(jl 8 3), (jo 9 (.call 91 [(.tmp 8), (.const (.int .i64 1))])), (jm 7 9)])
 (.seq (.region [(jm 10 7), (jo 11 (.bin .neq (.tmp 10) (.const (.int .i64 0))))])
 (.cond (.tmp 11)
 (.seq (.region [(jm 12 7), (jm 6 12)])
 .ret)
 .skip)))
 (.seq (.region [(jl 13 3), (jo 14 (.mkf 102 [(.tmp 3), (.tmp 4), (.tmp 5)])), (jC 15 92 13 14)])
 (.seq (.region [(jk 6 0)])
 .ret)))),
 [.tmp 6]⟩
theorem low_attempt_Attempt_Write : lowFn Tryz.prog movers 55 = some ⟨ir_attempt_Attempt_Write.n, strip ir_attempt_Attempt_Write.body, ir_attempt_Attempt_Write.res⟩ := by kernel_rfl
def ir_attempt_Attempt_stepEnter : IFn := ⟨43,
 (.seq (.region [(jo 4 (.new 49 (.agg #[.int .i64 0, .int .i64 0, .int .i64 0, .int .u64 0, .int .u64 0, .bool false]))), (jk 5 0)])
 (.seq (.region [(jm 8 0), (jn 9 8), (jf 10 5 9), (jf 11 0 10), (jl 12 11), (jc 13 122 12), (jm 6 13)])
 (.seq (.region [(jm 14 0), (jn 15 14), (jf 16 5 15), (jf 17 0 16), (jl 18 17), (jm 19 1), (jC 20 123 18 19), (jo 7 (.new 49 (.agg #[.int .i64 0, .int .i64 0, .int .i64 0, .int .u64 0, .int .u64 0, .bool false]))),
 (jS 6 7 20)])
 (.seq (.block 0
 (.seq (.region [(jm 22 0), (jn 23 22), (jf 24 5 23), (jf 25 0 24), (jl 26 25), (jc 27 124 26), (jm 21 27)])
 (.cond (.tmp 21)
 (.seq (.region [(jm 28 0), (jn 29 28), (jf 30 31 29),
 ⟨none, .st (.tmp 30) (.const (.int .i64 0)), none⟩])
 (.seq (.region [(jL 31 6 7), (jS 6 4 31), (jk 5 4)])
 .ret))
 (.seq (.region [(jm 33 6), (jm 34 0), (jn 35 34), (jf 36 5 35), (jf 37 0 36), (jl 38 37), (jc 39 122 38), (jo 40 (.bin .neq (.tmp 33) (.tmp 39))), (jm 32 40)])
 (.cond (.tmp 32)
 (.seq (.region [(jL 41 6 7), (jS 6 4 41), (jk 5 3)])
 .ret)
 .skip)))))
 (.seq (.region [(jL 42 6 7), (jS 6 4 42), (jk 5 2)])
 .ret))))),
 [.cellN 4 6, .tmp 5]⟩
theorem low_attempt_Attempt_stepEnter : lowFn Tryz.prog movers 71 = some ⟨ir_attempt_Attempt_stepEnter.n, strip ir_attempt_Attempt_stepEnter.body, ir_attempt_Attempt_stepEnter.res⟩ := by kernel_rfl
def ir_attempt_Attempt_stepRead : IFn := ⟨123,
 (.seq (.region [(jo 4 (.new 49 (.agg #[.int .i64 0, .int .i64 0, .int .i64 0, .int .u64 0, .int .u64 0, .bool false]))), (jk 5 0)])
 (.seq (.draw (.f (jm 8 0)
 (.f (jn 9 8)
 (.f (jf 10 5 9)
 (.f (jf 11 1 10)
 (.f (jl 12 11)
 (.f (jm 13 1)
 (.f (jm 15 0)
 (.f (jn 16 15)
 (.f (jf 17 5 16)
 (.f (jf 18 2 17)
 (.both (.m (jC 14 125 12 13)
 (.both (.f (jl 19 18)
 (.f (jo 20 (.bin .add (.const (.int .i64 5)) (.tmp 19)))
 (.m (jo 6 (.new 49 (.agg #[.int .i64 0, .int .i64 0, .int .i64 0, .int .u64 0, .int .u64 0, .bool false])))
 (.m (jS 6 6 14)
 (.f (jm 7 20)
 .done)))))
 (.m (jo 6 (.new 49 (.agg #[.int .i64 0, .int .i64 0, .int .i64 0, .int .u64 0, .int .u64 0, .bool false])))
 (.both (.f (jl 19 18)
 (.f (jo 20 (.bin .add (.const (.int .i64 5)) (.tmp 19)))
 (.m (jS 6 6 14)
 (.f (jm 7 20)
 .done))))
 (.m (jS 6 6 14)
 (.f (jl 19 18)
 (.f (jo 20 (.bin .add (.const (.int .i64 5)) (.tmp 19)))
 (.f (jm 7 20)
 .done))))))))
 (.both (.f (jl 19 18)
 (.f (jo 20 (.bin .add (.const (.int .i64 5)) (.tmp 19)))
 (.both (.m (jC 14 125 12 13)
 (.m (jo 6 (.new 49 (.agg #[.int .i64 0, .int .i64 0, .int .i64 0, .int .u64 0, .int .u64 0, .bool false])))
 (.m (jS 6 6 14)
 (.f (jm 7 20)
 .done))))
 (.m (jo 6 (.new 49 (.agg #[.int .i64 0, .int .i64 0, .int .i64 0, .int .u64 0, .int .u64 0, .bool false])))
 (.m (jC 14 125 12 13)
 (.m (jS 6 6 14)
 (.f (jm 7 20)
 .done)))))))
 (.m (jo 6 (.new 49 (.agg #[.int .i64 0, .int .i64 0, .int .i64 0, .int .u64 0, .int .u64 0, .bool false])))
 (.both (.m (jC 14 125 12 13)
 (.both (.f (jl 19 18)
 (.f (jo 20 (.bin .add (.const (.int .i64 5)) (.tmp 19)))
 (.m (jS 6 6 14)
 (.f (jm 7 20)
 .done))))
 (.m (jS 6 6 14)
 (.f (jl 19 18)
 (.f (jo 20 (.bin .add (.const (.int .i64 5)) (.tmp 19)))
 (.f (jm 7 20)
 .done))))))
 (.f (jl 19 18)
 (.f (jo 20 (.bin .add (.const (.int .i64 5)) (.tmp 19)))
 (.m (jC 14 125 12 13)
 (.m (jS 6 6 14)
 (.f (jm 7 20)
 .done))))))))))))))))))))
 (.seq (.region [(jm 21 0), (jn 22 21), (jf 23 5 22), (jf 24 2 23), (jl 25 24), (ja 26 25 1), (jn 27 21), (jf 28 5 27), (jf 29 2 28), (js 29 26)])
 (.seq (.seq (.region [(jm 30 0), (jn 31 30), (jf 32 5 31), (jf 33 1 32), (jl 34 33), (jc 35 126 34), (jo 36 (.not (.tmp 35)))])
 (.cond (.tmp 36)
 (.seq (.region [(jL 37 6 6), (jm 38 7), (jS 6 4 37), (jm 5 38)])
 .ret)
 .skip))
 (.seq (.seq (.region [(jm 39 0), (jn 40 39), (jf 41 5 40), (jf 42 1 41), (jl 43 42), (jc 44 127 43)])
 (.cond (.tmp 44)
 (.seq (.region [(jm 45 0), (jo 46 (.call 128 [(.tmp 45), (.const (.int .i64 9))]))])
 (.seq (.region [(jL 47 6 6), (jm 48 7), (jS 6 4 47), (jm 5 48)])
 .ret))
 .skip))
 (.seq (.seq (.draw (.f (jm 49 0)
 (.f (jn 50 49)
 (.f (jf 51 34 50)
 (.f (jl 52 51)
 (.f (jm 53 0)
 (.f (jn 54 53)
 (.f (jf 55 15 54)
 (.f (jf 56 0 55)
 (.f (jl 57 56)
 (.f (jw 58 52 57)
 (.f (jm 59 58)
 (.f (jy 59 (jm 60 0))
 (.f (jy 59 (jn 61 60))
 (.f (jy 59 (jf 62 0 61))
 (.f (jy 59 (jf 63 2 62))
 (.f (jy 59 (jl 64 63))
 (.f (jy 59 (jm 65 0))
 (.f (jy 59 (jn 66 65))
 (.f (jy 59 (jf 67 34 66))
 (.f (jy 59 (jl 68 67))
 (.f (jy 59 (jC 69 129 64 68))
 (.f (jy 59 (jo 70 (.not (.tmp 69))))
 (.f (jA 71 59 70)
 .done))))))))))))))))))))))))
 (.cond (.tmp 71)
 (.draw (.f (jm 72 0)
 (.f (jm 73 0)
 (.f (jn 74 73)
 (.f (jf 75 0 74)
 (.f (jf 76 2 75)
 (.f (jl 77 76)
 (.f (jm 78 0)
 (.f (jn 79 78)
 (.f (jf 80 34 79)
 (.f (jl 81 80)
 (.m (jo 82 (.blds 3 1 [(.int .i64 0)] [(0, 1, (.tmp 81))]))
 (.m (jo 83 (.app 3 1 8 [(.int .i64 0)] (.tmp 77) (.tmp 82)))
 (.f (jn 84 72)
 (.f (jf 85 0 84)
 (.f (jf 86 2 85)
 (.m (js 86 83)
 .done)))))))))))))))))
 .skip))
 (.seq (.seq (.draw (.f (jm 87 0)
 (.f (jn 88 87)
 (.f (jf 89 0 88)
 (.f (jf 90 0 89)
 (.f (jl 91 90)
 (.f (jm 92 0)
 (.f (jn 93 92)
 (.f (jf 94 15 93)
 (.f (jL 95 13 94)
 (.f (jm 96 0)
 (.f (jn 97 96)
 (.f (jf 98 34 97)
 (.f (jl 99 98)
 (.f (jC 100 131 95 99)
 (.m (jC 101 130 91 100)
 (.f (jo 102 (.not (.tmp 101)))
 .done)))))))))))))))))
 (.cond (.tmp 102)
 (.seq (.region [(jm 103 0), (jo 104 (.call 128 [(.tmp 103), (.const (.int .i64 3))]))])
 (.seq (.region [(jL 105 6 6), (jm 106 7), (jS 6 4 105), (jm 5 106)])
 .ret))
 .skip))
 (.seq (.region [(jm 107 0), (jn 108 107), (jf 109 31 108),
 ⟨none, .st (.tmp 109) (.const (.int .i64 0)), none⟩])
 (.seq (.draw (.f (jm 110 0)
 (.f (jn 111 110)
 (.f (jf 112 33 111)
 (.f (jl 113 112)
 (.f (jm 114 0)
 (.f (jn 115 114)
 (.f (jf 116 5 115)
 (.f (jf 117 1 116)
 (.f (jl 118 117)
 (.f (jc 119 132 118)
 (.m (jo 120 (.callv (.tmp 113) [(.tmp 119)]))
 .done))))))))))))
 (.seq (.region [(jL 121 6 6), (jm 122 7), (jS 6 4 121), (jm 5 122)])
 .ret)))))))))),
 [.cellN 4 6, .tmp 5]⟩
theorem low_attempt_Attempt_stepRead : lowFn Tryz.prog movers 72 = some ⟨ir_attempt_Attempt_stepRead.n, strip ir_attempt_Attempt_stepRead.body, ir_attempt_Attempt_stepRead.res⟩ := by kernel_rfl
def ir_attempt_Attempt_stepLock : IFn := ⟨34,
 (.seq (.region [(jo 4 (.new 49 (.agg #[.int .i64 0, .int .i64 0, .int .i64 0, .int .u64 0, .int .u64 0, .bool false]))), (jk 5 0)])
 (.seq (.region [(jm 8 0), (jn 9 8), (jf 10 5 9), (jf 11 4 10), (jl 12 11), (jm 13 1), (jC 14 136 12 13), (jo 6 (.new 49 (.agg #[.int .i64 0, .int .i64 0, .int .i64 0, .int .u64 0, .int .u64 0, .bool false]))),
 (jS 6 6 14), (jk 7 11)])
 (.seq (.seq (.region [(jf 15 0 6), (jl 16 15), (jq 17 16 3)])
 (.cond (.tmp 17)
 (.region [(jk 7 12)])
 .skip))
 (.seq (.seq (.region [(jm 18 0), (jn 19 18), (jf 20 5 19), (jf 21 4 20), (jl 22 21), (jc 23 137 22)])
 (.cond (.tmp 23)
 (.region [(jm 24 0), (jm 25 0), (jo 26 (.call 138 [])), (jn 27 24), (jf 28 31 27),
 ⟨none, .st (.tmp 28) (.const (.int .i64 6)), none⟩, (jn 29 25), (jf 30 5 29), (jf 31 5 30), (js 31 26)])
 .skip))
 (.seq (.region [(jL 32 6 6), (jm 33 7), (jS 6 4 32), (jm 5 33)])
 .ret))))),
 [.cellN 4 6, .tmp 5]⟩
theorem low_attempt_Attempt_stepLock : lowFn Tryz.prog movers 74 = some ⟨ir_attempt_Attempt_stepLock.n, strip ir_attempt_Attempt_stepLock.body, ir_attempt_Attempt_stepLock.res⟩ := by kernel_rfl
def ir_attempt_Attempt_stepTurn : IFn := ⟨51,
 (.seq (.region [(jo 4 (.new 49 (.agg #[.int .i64 0, .int .i64 0, .int .i64 0, .int .u64 0, .int .u64 0, .bool false]))), (jk 5 0)])
 (.seq (.region [(jm 8 0), (jn 9 8), (jf 10 5 9), (jf 11 5 10), (jl 12 11), (jm 13 1), (jC 14 139 12 13), (jo 6 (.new 49 (.agg #[.int .i64 0, .int .i64 0, .int .i64 0, .int .u64 0, .int .u64 0, .bool false]))),
 (jS 6 6 14), (jk 7 14)])
 (.seq (.seq (.region [(jf 15 0 6), (jl 16 15), (jq 17 16 4)])
 (.cond (.tmp 17)
 (.region [(jk 7 13)])
 .skip))
 (.seq (.seq (.region [(jm 18 0), (jn 19 18), (jf 20 5 19), (jf 21 5 20), (jl 22 21), (jc 23 140 22)])
 (.cond (.tmp 23)
 (.seq (.region [(jm 24 0), (jm 25 0), (jn 26 25), (jf 27 0 26), (jf 28 0 27), (jl 29 28), (jc 30 142 29), (jm 31 0), (jc 32 143 31), (jC 33 141 30 32), (jn 34 24),
 (jf 35 5 34), (jf 36 6 35), (js 36 33)])
 (.seq (.region [(jm 37 0), (jn 38 37), (jf 39 31 38),
 ⟨none, .st (.tmp 39) (.const (.int .i64 7)), none⟩])
 (.seq (.region [(jm 40 0), (jn 41 40), (jf 42 5 41), (jf 43 6 42), (jl 44 43), (jc 45 144 44)])
 (.cond (.tmp 45)
 (.region [(jm 46 0), (jn 47 46), (jf 48 31 47),
 ⟨none, .st (.tmp 48) (.const (.int .i64 8)), none⟩])
 .skip))))
 .skip))
 (.seq (.region [(jL 49 6 6), (jm 50 7), (jS 6 4 49), (jm 5 50)])
 .ret))))),
 [.cellN 4 6, .tmp 5]⟩
theorem low_attempt_Attempt_stepTurn : lowFn Tryz.prog movers 75 = some ⟨ir_attempt_Attempt_stepTurn.n, strip ir_attempt_Attempt_stepTurn.body, ir_attempt_Attempt_stepTurn.res⟩ := by kernel_rfl
def ir_attempt_Attempt_stepCheck : IFn := ⟨37,
 (.seq (.region [(jo 4 (.new 49 (.agg #[.int .i64 0, .int .i64 0, .int .i64 0, .int .u64 0, .int .u64 0, .bool false]))), (jk 5 0)])
 (.seq (.region [(jm 7 0), (jn 8 7), (jf 9 5 8), (jf 10 6 9), (jl 11 10), (jm 12 1), (jC 13 145 11 12), (jo 6 (.new 49 (.agg #[.int .i64 0, .int .i64 0, .int .i64 0, .int .u64 0, .int .u64 0, .bool false]))),
 (jS 6 6 13)])
 (.seq (.block 0
 (.seq (.region [(jm 15 0), (jn 16 15), (jf 17 5 16), (jf 18 6 17), (jl 19 18), (jc 20 146 19), (jm 14 20)])
 (.cond (.tmp 14)
 (.seq (.region [(jm 21 0), (jn 22 21), (jf 23 30 22),
 ⟨none, .st (.tmp 23) (.const (.int .i64 9)), none⟩])
 (.region [(jm 24 0), (jc 25 147 24)]))
 (.seq (.region [(jm 27 0), (jn 28 27), (jf 29 5 28), (jf 30 6 29), (jl 31 30), (jc 32 144 31), (jm 26 32)])
 (.cond (.tmp 26)
 (.region [(jm 33 0), (jn 34 33), (jf 35 31 34),
 ⟨none, .st (.tmp 35) (.const (.int .i64 8)), none⟩])
 .skip)))))
 (.seq (.region [(jL 36 6 6), (jS 6 4 36), (jk 5 15)])
 .ret)))),
 [.cellN 4 6, .tmp 5]⟩
theorem low_attempt_Attempt_stepCheck : lowFn Tryz.prog movers 76 = some ⟨ir_attempt_Attempt_stepCheck.n, strip ir_attempt_Attempt_stepCheck.body, ir_attempt_Attempt_stepCheck.res⟩ := by kernel_rfl
def ir_attempt_Attempt_stepDecide : IFn := ⟨67,
 (.seq (.region [(jo 4 (.new 49 (.agg #[.int .i64 0, .int .i64 0, .int .i64 0, .int .u64 0, .int .u64 0, .bool false]))), (jk 5 0)])
 (.seq (.region [(jm 9 1), (jo 10 (.call 64 [(.tmp 9), (.const (.int .i64 3)), (.const (.int .i64 0))])), (jm 8 10), (je 11 8 0), (je 12 8 1), (jo 6 (.new 49 (.agg #[.int .i64 0, .int .i64 0, .int .i64 0, .int .u64 0, .int .u64 0, .bool false]))),
 (jS 6 6 11), (jm 7 12)])
 (.seq (.region [(jm 13 0), (jf 14 3 6), (jl 15 14), (jn 16 13), (jf 17 37 16), (js 17 15)])
 (.seq (.seq (.draw (.f (jm 18 0)
 (.f (jc 19 148 18)
 (.f (jm 20 19)
 (.f (jy 20 (jm 21 0))
 (.f (jy 20 (jn 22 21))
 (.f (jy 20 (jf 23 37 22))
 (.f (jy 20 (jl 24 23))
 (.f (jy 20 (jm 25 0))
 (.f (jy 20 (jn 26 25))
 (.f (jy 20 (jf 27 15 26))
 (.f (jy 20 (jf 28 11 27))
 (.f (jy 20 (jl 29 28))
 (.f (jy 20 (jo 30 (.conv .u64 (.tmp 29))))
 (.f (jy 20 (jo 31 (.bin .geq (.tmp 24) (.tmp 30))))
 (.f (jA 32 20 31)
 .done))))))))))))))))
 (.cond (.tmp 32)
 (.seq (.region [(jm 33 0), (jn 34 33), (jf 35 30 34),
 ⟨none, .st (.tmp 35) (.const (.int .i64 6)), none⟩])
 (.seq (.region [(jm 36 0), (jc 37 147 36)])
 (.seq (.region [(jL 38 6 6), (jS 6 4 38), (jk 5 16)])
 .ret)))
 .skip))
 (.seq (.region [(jm 39 0), (jn 40 39), (jf 41 38 40),
 ⟨none, .st (.tmp 41) (.const (.bool true)), none⟩])
 (.seq (.seq (.region [(jm 42 0), (jc 43 148 42)])
 (.cond (.tmp 43)
 (.draw (.f (jm 44 0)
 (.f (jm 45 0)
 (.f (jm 46 0)
 (.f (jn 47 46)
 (.f (jf 48 0 47)
 (.f (jf 49 1 48)
 (.f (jl 50 49)
 (.f (jm 52 0)
 (.f (jn 53 52)
 (.f (jf 54 0 53)
 (.f (jf 55 1 54)
 (.both (.m (jc 51 86 50)
 (.f (jl 56 55)
 (.m (jc 57 150 56)
 (.m (jC 58 149 51 57)
 (.f (jn 59 44)
 (.f (jf 60 31 59)
 (.m ⟨none, .st (.tmp 60) (.const (.int .i64 9)), none⟩
 (.f (jn 61 45)
 (.f (jf 62 5 61)
 (.f (jf 63 7 62)
 (.m (js 63 58)
 .done)))))))))))
 (.f (jl 56 55)
 (.m (jc 51 86 50)
 (.m (jc 57 150 56)
 (.m (jC 58 149 51 57)
 (.f (jn 59 44)
 (.f (jf 60 31 59)
 (.m ⟨none, .st (.tmp 60) (.const (.int .i64 9)), none⟩
 (.f (jn 61 45)
 (.f (jf 62 5 61)
 (.f (jf 63 7 62)
 (.m (js 63 58)
 .done))))))))))))))))))))))))
 (.region [(jm 64 0), (jc 65 147 64)])))
 (.seq (.region [(jL 66 6 6), (jS 6 4 66), (jk 5 16)])
 .ret))))))),
 [.cellN 4 6, .tmp 5]⟩
theorem low_attempt_Attempt_stepDecide : lowFn Tryz.prog movers 77 = some ⟨ir_attempt_Attempt_stepDecide.n, strip ir_attempt_Attempt_stepDecide.body, ir_attempt_Attempt_stepDecide.res⟩ := by kernel_rfl
def ir_attempt_Attempt_stepWrite : IFn := ⟨57,
 (.seq (.region [(jo 4 (.new 49 (.agg #[.int .i64 0, .int .i64 0, .int .i64 0, .int .u64 0, .int .u64 0, .bool false]))), (jk 5 0)])
 (.seq (.region [(jm 9 0), (jn 10 9), (jf 11 5 10), (jf 12 7 11), (jl 13 12), (jm 14 1), (jC 15 151 13 14), (jo 6 (.new 49 (.agg #[.int .i64 0, .int .i64 0, .int .i64 0, .int .u64 0, .int .u64 0, .bool false]))),
 (jS 6 6 15)])
 (.seq (.seq (.region [(jm 16 0), (jn 17 16), (jf 18 5 17), (jf 19 7 18), (jl 20 19), (jc 21 152 20)])
 (.cond (.tmp 21)
 (.seq (.region [(jm 22 0), (jn 23 22), (jf 24 36 23), (jl 25 24), (jt 26 25), (jo 27 (.mk 33 1 8 [(.int .u64 0)] (.tmp 26) (.tmp 26))), (jm 7 27)])
 (.seq (.seq (.region [(jm 28 7), (jt 29 28), (jk 30 0)])
 (.block 0
 (.loop 8795019280640
 (.seq (.region [(jw 31 30 29)])
 (.seq (.cond (.tmp 31)
 .skip
 (.exit 0))
 (.seq (.block 1
 (.seq (.region [(jm 32 30), (jm 8 32)])
 (.region [(jm 34 7), (jm 35 8), (jm 36 0), (jc 37 154 36), (jc 38 153 37), (jm 33 38), (je 39 33 0), (je 40 33 1), (jx 41 1 34 35), (js 41 39)])))
 (.region [(ja 42 30 1), (jm 30 42)])))))))
 (.region [(jm 43 0), (jm 44 0), (jm 45 0), (jn 46 45), (jf 47 36 46), (jl 48 47), (jm 49 7), (jC 50 155 48 49), (jn 51 43), (jf 52 31 51),
 ⟨none, .st (.tmp 52) (.const (.int .i64 10)), none⟩, (jn 53 44), (jf 54 5 53), (jf 55 8 54), (js 55 50)])))
 .skip))
 (.seq (.region [(jL 56 6 6), (jS 6 4 56), (jk 5 17)])
 .ret)))),
 [.cellN 4 6, .tmp 5]⟩
theorem low_attempt_Attempt_stepWrite : lowFn Tryz.prog movers 78 = some ⟨ir_attempt_Attempt_stepWrite.n, strip ir_attempt_Attempt_stepWrite.body, ir_attempt_Attempt_stepWrite.res⟩ := by kernel_rfl
def ir_attempt_Attempt_stepRelease : IFn := ⟨30,
 (.seq (.region [(jo 4 (.new 49 (.agg #[.int .i64 0, .int .i64 0, .int .i64 0, .int .u64 0, .int .u64 0, .bool false]))), (jk 5 0)])
 (.seq (.region [(jm 7 0), (jn 8 7), (jf 9 5 8), (jf 10 8 9), (jl 11 10), (jm 12 1), (jC 13 156 11 12), (jo 6 (.new 49 (.agg #[.int .i64 0, .int .i64 0, .int .i64 0, .int .u64 0, .int .u64 0, .bool false]))),
 (jS 6 6 13)])
 (.seq (.seq (.region [(jm 14 0), (jn 15 14), (jf 16 5 15), (jf 17 8 16), (jl 18 17), (jc 19 157 18)])
 (.cond (.tmp 19)
 (.seq (.region [(jm 20 0), (jn 21 20), (jf 22 31 21),
 ⟨none, .st (.tmp 22) (.const (.int .i64 12)), none⟩])
 (.seq (.region [(jm 23 0), (jc 24 154 23), (jo 25 (.bin .geq (.tmp 24) (.const (.int .i64 0))))])
 (.cond (.tmp 25)
 (.region [(jm 26 0), (jn 27 26), (jf 28 31 27),
 ⟨none, .st (.tmp 28) (.const (.int .i64 11)), none⟩])
 .skip)))
 .skip))
 (.seq (.region [(jL 29 6 6), (jS 6 4 29), (jk 5 18)])
 .ret)))),
 [.cellN 4 6, .tmp 5]⟩
theorem low_attempt_Attempt_stepRelease : lowFn Tryz.prog movers 79 = some ⟨ir_attempt_Attempt_stepRelease.n, strip ir_attempt_Attempt_stepRelease.body, ir_attempt_Attempt_stepRelease.res⟩ := by kernel_rfl
def ir_attempt_Attempt_finish : IFn := ⟨50,
 (.seq (.seq (.draw (.f (jm 3 0)
 (.f (jn 4 3)
 (.f (jf 5 30 4)
 (.f (jl 6 5)
 (.f (jq 7 6 1)
 (.f (jm 8 7)
 (.f (jz 8 (jm 9 0))
 (.f (jz 8 (jn 10 9))
 (.f (jz 8 (jf 11 39 10))
 (.f (jz 8 (jl 12 11))
 (.f (jz 8 (jm 13 0))
 (.f (jz 8 (jn 14 13))
 (.f (jz 8 (jf 15 0 14))
 (.f (jz 8 (jf 16 3 15))
 (.f (jz 8 (jl 17 16))
 (.f (jz 8 (jt 18 17))
 (.f (jz 8 (jo 19 (.bin .eql (.tmp 12) (.tmp 18))))
 (.f (jO 20 8 19)
 .done)))))))))))))))))))
 (.cond (.tmp 20)
 (.seq (.region [(jm 21 0), (jn 22 21), (jf 23 31 22),
 ⟨none, .st (.tmp 23) (.const (.int .i64 14)), none⟩])
 .ret)
 .skip))
 (.seq (.draw (.f (jm 24 0)
 (.f (jn 25 24)
 (.f (jf 26 0 25)
 (.f (jf 27 3 26)
 (.f (jl 28 27)
 (.f (jm 29 0)
 (.f (jn 30 29)
 (.f (jf 31 39 30)
 (.f (jl 32 31)
 (.f (jx 33 1 28 32)
 (.f (jl 34 33)
 (.f (jm 2 34)
 .done)))))))))))))
 (.region [(jm 35 0), (jm 36 0), (jm 37 0), (jn 38 37), (jf 39 15 38), (jL 40 13 39), (jm 41 2), (jC 42 68 40 41), (jm 43 2), (jC 44 67 42 43), (jn 45 35), (jf 46 31 45),
 ⟨none, .st (.tmp 46) (.const (.int .i64 13)), none⟩, (jn 47 36), (jf 48 5 47), (jf 49 9 48), (js 49 44)]))),
 []⟩
theorem low_attempt_Attempt_finish : lowFn Tryz.prog movers 83 = some ⟨ir_attempt_Attempt_finish.n, strip ir_attempt_Attempt_finish.body, ir_attempt_Attempt_finish.res⟩ := by kernel_rfl
def ir_attempt_Attempt_State : IFn := ⟨7,
 (.seq (.region [(jk 2 0)])
 (.seq (.region [(jm 3 0), (jn 4 3), (jf 5 29 4), (jl 6 5), (jm 2 6)])
 .ret)),
 [.tmp 2]⟩
theorem low_attempt_Attempt_State : lowFn Tryz.prog movers 87 = some ⟨ir_attempt_Attempt_State.n, strip ir_attempt_Attempt_State.body, ir_attempt_Attempt_State.res⟩ := by kernel_rfl
def ir_attempt_Attempt_ready : IFn := ⟨15,
 (.seq (.region [(jk 4 0)])
 (.seq (.seq (.region [(jm 5 0), (jc 6 29 5), (jm 7 6), (jz 7 (jm 8 0)), (jz 7 (jn 9 8)), (jz 7 (jf 10 29 9)), (jz 7 (jl 11 10)), (jz 7 (jm 12 1)), (jz 7 (jo 13 (.bin .neq (.tmp 11) (.tmp 12)))),
 (jO 14 7 13)])
 (.cond (.tmp 14)
 (.seq (.region [(jk 4 1)])
 .ret)
 .skip))
 (.seq (.region [(jk 4 0)])
 .ret))),
 [.tmp 4]⟩
theorem low_attempt_Attempt_ready : lowFn Tryz.prog movers 91 = some ⟨ir_attempt_Attempt_ready.n, strip ir_attempt_Attempt_ready.body, ir_attempt_Attempt_ready.res⟩ := by kernel_rfl
def ir_attempt_Attempt_locally : IFn := ⟨11,
 (.region [(jm 4 0), (jm 5 0), (jm 6 1), (jn 7 4), (jf 8 31 7),
 ⟨none, .st (.tmp 8) (.const (.int .i64 1)), none⟩, (jn 9 5), (jf 10 32 9), (js 10 6)]),
 []⟩
theorem low_attempt_Attempt_locally : lowFn Tryz.prog movers 92 = some ⟨ir_attempt_Attempt_locally.n, strip ir_attempt_Attempt_locally.body, ir_attempt_Attempt_locally.res⟩ := by kernel_rfl
def ir_attempt_Attempt_End_1 : IFn := ⟨5,
 (.region [(jl 2 0), (jl 3 1), (jC 4 94 2 3)]),
 []⟩
theorem low_attempt_Attempt_End_1 : lowFn Tryz.prog movers 93 = some ⟨ir_attempt_Attempt_End_1.n, strip ir_attempt_Attempt_End_1.body, ir_attempt_Attempt_End_1.res⟩ := by kernel_rfl
def ir_attempt_Attempt_end : IFn := ⟨64,
 (.seq (.region [(jm 7 0), (jm 8 1), (jn 9 7), (jf 10 30 9), (js 10 8)])
 (.seq (.seq (.region [(jm 11 0), (jc 12 148 11), (jo 13 (.not (.tmp 12)))])
 (.cond (.tmp 13)
 (.seq (.region [(jm 14 0), (jm 15 0), (jo 16 (.call 138 [])), (jn 17 14), (jf 18 31 17),
 ⟨none, .st (.tmp 18) (.const (.int .i64 6)), none⟩, (jn 19 15), (jf 20 5 19), (jf 21 5 20), (js 21 16)])
 .ret)
 .skip))
 (.seq (.region [(jo 4 (.mov (.const (.slice none 0 0))))])
 (.seq (.seq (.region [(jm 22 0), (jn 23 22), (jf 24 0 23), (jf 25 1 24), (jl 26 25), (jc 27 86 26), (jt 28 27), (jk 29 0)])
 (.block 0
 (.loop 8795556151376
 (.seq (.region [(jw 30 29 28)])
 (.seq (.cond (.tmp 30)
 .skip
 (.exit 0))
 (.seq (.block 1
 (.seq (.region [(jx 31 1 27 29), (jl 32 31), (jm 6 32)])
 (.region [(jm 33 4), (jm 34 0), (jn 35 34), (jf 36 15 35), (jL 37 13 36), (jm 38 6), (jC 39 131 37 38), (jo 40 (.blds 3 1 [(.int .i64 0)] [(0, 1, (.tmp 39))])),
 (jo 41 (.app 3 1 8 [(.int .i64 0)] (.tmp 33) (.tmp 40))), (jm 4 41)])))
 (.region [(ja 42 29 1), (jm 29 42)])))))))
 (.seq (.region [(jm 43 0), (jm 44 4), (jc 45 163 44), (jn 46 43), (jf 47 36 46), (js 47 45)])
 (.draw (.f (jm 48 0)
 (.f (jm 49 0)
 (.f (jm 50 0)
 (.f (jn 51 50)
 (.f (jf 52 28 51)
 (.f (jl 53 52)
 (.f (jm 54 0)
 (.f (jn 55 54)
 (.f (jf 56 36 55)
 (.f (jl 57 56)
 (.m (jC 58 164 53 57)
 (.f (jn 59 48)
 (.f (jf 60 31 59)
 (.m ⟨none, .st (.tmp 60) (.const (.int .i64 5)), none⟩
 (.f (jn 61 49)
 (.f (jf 62 5 61)
 (.f (jf 63 4 62)
 (.m (js 63 58)
 .done)))))))))))))))))))))))),
 []⟩
theorem low_attempt_Attempt_end : lowFn Tryz.prog movers 94 = some ⟨ir_attempt_Attempt_end.n, strip ir_attempt_Attempt_end.body, ir_attempt_Attempt_end.res⟩ := by kernel_rfl
def ir_attempt_Attempt_outside : IFn := ⟨13,
 (.seq (.region [(jo 4 (.mov (.const (.bool false))))])
 (.seq (.region [(jm 5 1), (jm 6 0), (jn 7 6), (jf 8 15 7), (jf 9 0 8), (jl 10 9), (jo 11 (.conv .u64 (.tmp 10))), (jo 12 (.bin .geq (.tmp 5) (.tmp 11))), (jm 4 12)])
 .ret)),
 [.tmp 4]⟩
theorem low_attempt_Attempt_outside : lowFn Tryz.prog movers 95 = some ⟨ir_attempt_Attempt_outside.n, strip ir_attempt_Attempt_outside.body, ir_attempt_Attempt_outside.res⟩ := by kernel_rfl
def ir_attempt_Attempt_Read_1 : IFn := ⟨3,
 (.region [(jl 1 0), (jo 2 (.call 94 [(.tmp 1), (.const (.int .i64 7))]))]),
 []⟩
theorem low_attempt_Attempt_Read_1 : lowFn Tryz.prog movers 96 = some ⟨ir_attempt_Attempt_Read_1.n, strip ir_attempt_Attempt_Read_1.body, ir_attempt_Attempt_Read_1.res⟩ := by kernel_rfl
def ir_attempt_Attempt_Read_2 : IFn := ⟨7,
 (.region [(jl 3 1), (jm 4 0), (jn 5 3), (jf 6 35 5), (js 6 4)]),
 []⟩
theorem low_attempt_Attempt_Read_2 : lowFn Tryz.prog movers 97 = some ⟨ir_attempt_Attempt_Read_2.n, strip ir_attempt_Attempt_Read_2.body, ir_attempt_Attempt_Read_2.res⟩ := by kernel_rfl
def ir_attempt_Attempt_Read_3 : IFn := ⟨5,
 (.region [(jl 2 0), (jl 3 1), (jo 4 (.callv (.tmp 2) [(.tmp 3)]))]),
 []⟩
theorem low_attempt_Attempt_Read_3 : lowFn Tryz.prog movers 99 = some ⟨ir_attempt_Attempt_Read_3.n, strip ir_attempt_Attempt_Read_3.body, ir_attempt_Attempt_Read_3.res⟩ := by kernel_rfl
def ir_attempt_Attempt_shared : IFn := ⟨35,
 (.seq (.region [(jm 6 0), (jm 7 0), (jm 8 0), (jm 9 0), (jm 10 1), (jm 11 2), (jn 12 6), (jf 13 31 12),
 ⟨none, .st (.tmp 13) (.const (.int .i64 3)), none⟩, (jn 14 7), (jf 15 34 14), (js 15 10), (jn 16 8), (jf 17 33 16), (js 17 11), (jn 18 9), (jf 19 5 18), (jf 20 2 19),
 ⟨none, .st (.tmp 20) (.const (.int .i64 0)), none⟩])
 (.region [(jm 21 0), (jm 22 1), (jm 23 0), (jn 24 23), (jf 25 15 24), (jL 26 13 25), (jm 27 1), (jC 28 131 26 27), (jm 29 0), (jc 30 143 29), (jo 31 (.call 166 [(.tmp 22), (.tmp 28), (.tmp 30)])),
 (jn 32 21), (jf 33 5 32), (jf 34 1 33), (js 34 31)])),
 []⟩
theorem low_attempt_Attempt_shared : lowFn Tryz.prog movers 100 = some ⟨ir_attempt_Attempt_shared.n, strip ir_attempt_Attempt_shared.body, ir_attempt_Attempt_shared.res⟩ := by kernel_rfl
def ir_attempt_Attempt_Write_1 : IFn := ⟨13,
 (.seq (.region [(jl 3 0), (jl 4 1), (jC 5 95 3 4)])
 (.cond (.tmp 5)
 (.region [(jl 6 0), (jo 7 (.call 94 [(.tmp 6), (.const (.int .i64 7))]))])
 (.region [(jl 8 0), (jl 9 1), (jo 10 (.conv .i64 (.tmp 9))), (jl 11 2), (jo 12 (.call 103 [(.tmp 8), (.tmp 10), (.tmp 11)]))]))),
 []⟩
theorem low_attempt_Attempt_Write_1 : lowFn Tryz.prog movers 102 = some ⟨ir_attempt_Attempt_Write_1.n, strip ir_attempt_Attempt_Write_1.body, ir_attempt_Attempt_Write_1.res⟩ := by kernel_rfl
def ir_attempt_Attempt_put : IFn := ⟨18,
 (.seq (.region [(jo 6 (.mov (.const (.bool false))))])
 (.seq (.seq (.region [(jm 7 0), (jn 8 7), (jf 9 0 8), (jf 10 1 9), (jl 11 10), (jm 12 1), (jm 13 2), (jo 14 (.call 167 [(.tmp 11), (.tmp 12), (.tmp 13)])), (jo 15 (.not (.tmp 14)))])
 (.cond (.tmp 15)
 (.seq (.region [(jm 16 0), (jo 17 (.call 128 [(.tmp 16), (.const (.int .i64 3))]))])
 (.seq (.region [(jo 6 (.mov (.const (.bool false))))])
 .ret))
 .skip))
 (.seq (.region [(jo 6 (.mov (.const (.bool true))))])
 .ret))),
 [.tmp 6]⟩
theorem low_attempt_Attempt_put : lowFn Tryz.prog movers 103 = some ⟨ir_attempt_Attempt_put.n, strip ir_attempt_Attempt_put.body, ir_attempt_Attempt_put.res⟩ := by kernel_rfl
def ir_attempt_New : IFn := ⟨16,
 (.seq (.region [(jb 2 31 0), (jo 4 (.mov (.const (.pointer none))))])
 (.seq (.draw (.f (jf 5 7 2)
 (.f (jl 6 5)
 (.f (jf 8 8 2)
 (.f (jm 13 1)
 (.both (.m (jc 7 168 6)
 (.f (jl 9 8)
 (.both (.m (jc 10 169 9)
 (.f (jo 11 (.bld [(.pointer none), (.pointer none), (.slice none 0 0), (.slice none 0 0), (.slice none 0 0)] [(0, 1, (.tmp 7)), (1, 1, (.tmp 10))]))
 (.f (jL 12 13 2)
 (.f (jo 14 (.bld [(.pointer none), (.pointer none), (.slice none 0 0), (.slice none 0 0), (.slice none 0 0), (.pointer none), (.pointer none), (.int .i64 0), (.pointer none), (.pointer none), (.pointer none), (.pointer none), (.pointer none), (.pointer none), (.pointer none), (.int .i64 0), (.int .i64 0), (.int .i64 0), (.int .i64 0), (.int .i64 0), (.int .i64 0), (.int .i64 0), (.int .i64 0), (.int .i64 0), (.int .i64 0), (.int .i64 0), (.int .i64 0), (.bool false), (.int .i64 0), (.int .i64 0), (.int .i64 0), (.int .i64 0), (.nilFunc), (.nilFunc), (.int .i64 0), (.int .u64 0), (.slice none 0 0), (.int .u64 0), (.bool false), (.int .i64 0)] [(0, 5, (.tmp 11)), (15, 13, (.tmp 12)), (28, 1, (.tmp 13))]))
 (.m (jb 15 145 14)
 (.f (jm 4 15)
 .done))))))
 (.f (jL 12 13 2)
 (.m (jc 10 169 9)
 (.f (jo 11 (.bld [(.pointer none), (.pointer none), (.slice none 0 0), (.slice none 0 0), (.slice none 0 0)] [(0, 1, (.tmp 7)), (1, 1, (.tmp 10))]))
 (.f (jo 14 (.bld [(.pointer none), (.pointer none), (.slice none 0 0), (.slice none 0 0), (.slice none 0 0), (.pointer none), (.pointer none), (.int .i64 0), (.pointer none), (.pointer none), (.pointer none), (.pointer none), (.pointer none), (.pointer none), (.pointer none), (.int .i64 0), (.int .i64 0), (.int .i64 0), (.int .i64 0), (.int .i64 0), (.int .i64 0), (.int .i64 0), (.int .i64 0), (.int .i64 0), (.int .i64 0), (.int .i64 0), (.int .i64 0), (.bool false), (.int .i64 0), (.int .i64 0), (.int .i64 0), (.int .i64 0), (.nilFunc), (.nilFunc), (.int .i64 0), (.int .u64 0), (.slice none 0 0), (.int .u64 0), (.bool false), (.int .i64 0)] [(0, 5, (.tmp 11)), (15, 13, (.tmp 12)), (28, 1, (.tmp 13))]))
 (.m (jb 15 145 14)
 (.f (jm 4 15)
 .done)))))))))
 (.both (.f (jl 9 8)
 (.both (.m (jc 7 168 6)
 (.both (.m (jc 10 169 9)
 (.f (jo 11 (.bld [(.pointer none), (.pointer none), (.slice none 0 0), (.slice none 0 0), (.slice none 0 0)] [(0, 1, (.tmp 7)), (1, 1, (.tmp 10))]))
 (.f (jL 12 13 2)
 (.f (jo 14 (.bld [(.pointer none), (.pointer none), (.slice none 0 0), (.slice none 0 0), (.slice none 0 0), (.pointer none), (.pointer none), (.int .i64 0), (.pointer none), (.pointer none), (.pointer none), (.pointer none), (.pointer none), (.pointer none), (.pointer none), (.int .i64 0), (.int .i64 0), (.int .i64 0), (.int .i64 0), (.int .i64 0), (.int .i64 0), (.int .i64 0), (.int .i64 0), (.int .i64 0), (.int .i64 0), (.int .i64 0), (.int .i64 0), (.bool false), (.int .i64 0), (.int .i64 0), (.int .i64 0), (.int .i64 0), (.nilFunc), (.nilFunc), (.int .i64 0), (.int .u64 0), (.slice none 0 0), (.int .u64 0), (.bool false), (.int .i64 0)] [(0, 5, (.tmp 11)), (15, 13, (.tmp 12)), (28, 1, (.tmp 13))]))
 (.m (jb 15 145 14)
 (.f (jm 4 15)
 .done))))))
 (.f (jL 12 13 2)
 (.m (jc 10 169 9)
 (.f (jo 11 (.bld [(.pointer none), (.pointer none), (.slice none 0 0), (.slice none 0 0), (.slice none 0 0)] [(0, 1, (.tmp 7)), (1, 1, (.tmp 10))]))
 (.f (jo 14 (.bld [(.pointer none), (.pointer none), (.slice none 0 0), (.slice none 0 0), (.slice none 0 0), (.pointer none), (.pointer none), (.int .i64 0), (.pointer none), (.pointer none), (.pointer none), (.pointer none), (.pointer none), (.pointer none), (.pointer none), (.int .i64 0), (.int .i64 0), (.int .i64 0), (.int .i64 0), (.int .i64 0), (.int .i64 0), (.int .i64 0), (.int .i64 0), (.int .i64 0), (.int .i64 0), (.int .i64 0), (.int .i64 0), (.bool false), (.int .i64 0), (.int .i64 0), (.int .i64 0), (.int .i64 0), (.nilFunc), (.nilFunc), (.int .i64 0), (.int .u64 0), (.slice none 0 0), (.int .u64 0), (.bool false), (.int .i64 0)] [(0, 5, (.tmp 11)), (15, 13, (.tmp 12)), (28, 1, (.tmp 13))]))
 (.m (jb 15 145 14)
 (.f (jm 4 15)
 .done))))))))
 (.f (jL 12 13 2)
 (.m (jc 7 168 6)
 (.m (jc 10 169 9)
 (.f (jo 11 (.bld [(.pointer none), (.pointer none), (.slice none 0 0), (.slice none 0 0), (.slice none 0 0)] [(0, 1, (.tmp 7)), (1, 1, (.tmp 10))]))
 (.f (jo 14 (.bld [(.pointer none), (.pointer none), (.slice none 0 0), (.slice none 0 0), (.slice none 0 0), (.pointer none), (.pointer none), (.int .i64 0), (.pointer none), (.pointer none), (.pointer none), (.pointer none), (.pointer none), (.pointer none), (.pointer none), (.int .i64 0), (.int .i64 0), (.int .i64 0), (.int .i64 0), (.int .i64 0), (.int .i64 0), (.int .i64 0), (.int .i64 0), (.int .i64 0), (.int .i64 0), (.int .i64 0), (.int .i64 0), (.bool false), (.int .i64 0), (.int .i64 0), (.int .i64 0), (.int .i64 0), (.nilFunc), (.nilFunc), (.int .i64 0), (.int .u64 0), (.slice none 0 0), (.int .u64 0), (.bool false), (.int .i64 0)] [(0, 5, (.tmp 11)), (15, 13, (.tmp 12)), (28, 1, (.tmp 13))]))
 (.m (jb 15 145 14)
 (.f (jm 4 15)
 .done)))))))))
 (.f (jL 12 13 2)
 (.both (.m (jc 7 168 6)
 (.f (jl 9 8)
 (.m (jc 10 169 9)
 (.f (jo 11 (.bld [(.pointer none), (.pointer none), (.slice none 0 0), (.slice none 0 0), (.slice none 0 0)] [(0, 1, (.tmp 7)), (1, 1, (.tmp 10))]))
 (.f (jo 14 (.bld [(.pointer none), (.pointer none), (.slice none 0 0), (.slice none 0 0), (.slice none 0 0), (.pointer none), (.pointer none), (.int .i64 0), (.pointer none), (.pointer none), (.pointer none), (.pointer none), (.pointer none), (.pointer none), (.pointer none), (.int .i64 0), (.int .i64 0), (.int .i64 0), (.int .i64 0), (.int .i64 0), (.int .i64 0), (.int .i64 0), (.int .i64 0), (.int .i64 0), (.int .i64 0), (.int .i64 0), (.int .i64 0), (.bool false), (.int .i64 0), (.int .i64 0), (.int .i64 0), (.int .i64 0), (.nilFunc), (.nilFunc), (.int .i64 0), (.int .u64 0), (.slice none 0 0), (.int .u64 0), (.bool false), (.int .i64 0)] [(0, 5, (.tmp 11)), (15, 13, (.tmp 12)), (28, 1, (.tmp 13))]))
 (.m (jb 15 145 14)
 (.f (jm 4 15)
 .done)))))))
 (.f (jl 9 8)
 (.m (jc 7 168 6)
 (.m (jc 10 169 9)
 (.f (jo 11 (.bld [(.pointer none), (.pointer none), (.slice none 0 0), (.slice none 0 0), (.slice none 0 0)] [(0, 1, (.tmp 7)), (1, 1, (.tmp 10))]))
 (.f (jo 14 (.bld [(.pointer none), (.pointer none), (.slice none 0 0), (.slice none 0 0), (.slice none 0 0), (.pointer none), (.pointer none), (.int .i64 0), (.pointer none), (.pointer none), (.pointer none), (.pointer none), (.pointer none), (.pointer none), (.pointer none), (.int .i64 0), (.int .i64 0), (.int .i64 0), (.int .i64 0), (.int .i64 0), (.int .i64 0), (.int .i64 0), (.int .i64 0), (.int .i64 0), (.int .i64 0), (.int .i64 0), (.int .i64 0), (.bool false), (.int .i64 0), (.int .i64 0), (.int .i64 0), (.int .i64 0), (.nilFunc), (.nilFunc), (.int .i64 0), (.int .u64 0), (.slice none 0 0), (.int .u64 0), (.bool false), (.int .i64 0)] [(0, 5, (.tmp 11)), (15, 13, (.tmp 12)), (28, 1, (.tmp 13))]))
 (.m (jb 15 145 14)
 (.f (jm 4 15)
 .done))))))))))))))))
 .ret)),
 [.tmp 4]⟩
theorem low_attempt_New : lowFn Tryz.prog movers 104 = some ⟨ir_attempt_New.n, strip ir_attempt_New.body, ir_attempt_New.res⟩ := by kernel_rfl
def ir_attempt_Attempt_Begin : IFn := ⟨24,
 (.seq (.region [(jk 2 0)])
 (.seq (.seq (.region [(jm 4 0), (jo 5 (.call 91 [(.tmp 4), (.const (.int .i64 0))])), (jm 3 5)])
 (.seq (.region [(jm 6 3), (jo 7 (.bin .neq (.tmp 6) (.const (.int .i64 0))))])
 (.cond (.tmp 7)
 (.seq (.region [(jm 8 3), (jm 2 8)])
 .ret)
 .skip)))
 (.seq (.region [(jm 9 0), (jm 10 0), (jm 11 0), (jm 12 0), (jn 13 12), (jf 14 28 13), (jl 15 14), (jc 16 170 15), (jn 17 9), (jf 18 29 17),
 ⟨none, .st (.tmp 18) (.const (.int .i64 1)), none⟩, (jn 19 10), (jf 20 31 19),
 ⟨none, .st (.tmp 20) (.const (.int .i64 2)), none⟩, (jn 21 11), (jf 22 5 21), (jf 23 0 22), (js 23 16)])
 (.seq (.region [(jk 2 0)])
 .ret)))),
 [.tmp 2]⟩
theorem low_attempt_Attempt_Begin : lowFn Tryz.prog movers 105 = some ⟨ir_attempt_Attempt_Begin.n, strip ir_attempt_Attempt_Begin.body, ir_attempt_Attempt_Begin.res⟩ := by kernel_rfl
def ir_attempt_Attempt_undo : IFn := ⟨10,
 (.seq (.region [(jm 4 0), (jm 5 1), (jn 6 4), (jf 7 30 6), (js 7 5)])
 (.region [(jm 8 0), (jc 9 83 8)])),
 []⟩
theorem low_attempt_Attempt_undo : lowFn Tryz.prog movers 128 = some ⟨ir_attempt_Attempt_undo.n, strip ir_attempt_Attempt_undo.body, ir_attempt_Attempt_undo.res⟩ := by kernel_rfl
def ir_attempt_Attempt_Snapshot : IFn := ⟨15,
 (.seq (.region [(jk 2 0)])
 (.seq (.seq (.region [(jm 3 0), (jn 4 3), (jf 5 5 4), (jf 6 0 5), (jl 7 6), (jo 8 (.nilq false 1 (.tmp 7) (.const (.pointer none))))])
 (.cond (.tmp 8)
 (.seq (.region [(jo 2 (.mov (.const (.int .i64 (-1)))))])
 .ret)
 .skip))
 (.seq (.region [(jm 9 0), (jn 10 9), (jf 11 5 10), (jf 12 0 11), (jl 13 12), (jc 14 122 13), (jm 2 14)])
 .ret))),
 [.tmp 2]⟩
theorem low_attempt_Attempt_Snapshot : lowFn Tryz.prog movers 143 = some ⟨ir_attempt_Attempt_Snapshot.n, strip ir_attempt_Attempt_Snapshot.body, ir_attempt_Attempt_Snapshot.res⟩ := by kernel_rfl
def ir_attempt_Attempt_restore : IFn := ⟨29,
 (.seq (.seq (.region [(jm 2 0), (jn 3 2), (jf 4 36 3), (jl 5 4), (jt 6 5), (jq 7 6 0)])
 (.cond (.tmp 7)
 (.seq (.region [(jm 8 0), (jn 9 8), (jf 10 31 9),
 ⟨none, .st (.tmp 10) (.const (.int .i64 12)), none⟩])
 .ret)
 .skip))
 (.draw (.f (jm 11 0)
 (.f (jm 12 0)
 (.f (jm 13 0)
 (.f (jn 14 13)
 (.f (jf 15 36 14)
 (.f (jm 17 0)
 (.f (jn 18 17)
 (.f (jf 19 5 18)
 (.f (jf 20 4 19)
 (.f (jl 21 20)
 (.both (.f (jl 16 15)
 (.m (jc 22 193 21)
 (.m (jC 23 155 16 22)
 (.f (jn 24 11)
 (.f (jf 25 31 24)
 (.m ⟨none, .st (.tmp 25) (.const (.int .i64 10)), none⟩
 (.f (jn 26 12)
 (.f (jf 27 5 26)
 (.f (jf 28 8 27)
 (.m (js 28 23)
 .done))))))))))
 (.m (jc 22 193 21)
 (.f (jl 16 15)
 (.m (jC 23 155 16 22)
 (.f (jn 24 11)
 (.f (jf 25 31 24)
 (.m ⟨none, .st (.tmp 25) (.const (.int .i64 10)), none⟩
 (.f (jn 26 12)
 (.f (jf 27 5 26)
 (.f (jf 28 8 27)
 (.m (js 28 23)
 .done))))))))))))))))))))))),
 []⟩
theorem low_attempt_Attempt_restore : lowFn Tryz.prog movers 147 = some ⟨ir_attempt_Attempt_restore.n, strip ir_attempt_Attempt_restore.body, ir_attempt_Attempt_restore.res⟩ := by kernel_rfl
def ir_attempt_Attempt_stores : IFn := ⟨17,
 (.seq (.region [(jo 2 (.mov (.const (.bool false))))])
 (.seq (.region [(jm 3 0), (jn 4 3), (jf 5 30 4), (jl 6 5), (jq 7 6 1), (jm 8 7), (jy 8 (jm 9 0)), (jy 8 (jn 10 9)), (jy 8 (jf 11 0 10)), (jy 8 (jf 12 1 11)), (jy 8 (jl 13 12)),
 (jy 8 (jc 14 194 13)), (jy 8 (jo 15 (.bin .gtr (.tmp 14) (.const (.int .i64 0))))), (jA 16 8 15), (jm 2 16)])
 .ret)),
 [.tmp 2]⟩
theorem low_attempt_Attempt_stores : lowFn Tryz.prog movers 148 = some ⟨ir_attempt_Attempt_stores.n, strip ir_attempt_Attempt_stores.body, ir_attempt_Attempt_stores.res⟩ := by kernel_rfl
def ir_attempt_Attempt_Version : IFn := ⟨19,
 (.seq (.region [(jk 2 0)])
 (.seq (.seq (.region [(jm 3 0), (jn 4 3), (jf 5 38 4), (jl 6 5), (jo 7 (.not (.tmp 6))), (jm 8 7), (jz 8 (jm 9 0)), (jz 8 (jc 10 148 9)), (jz 8 (jo 11 (.not (.tmp 10)))),
 (jO 12 8 11)])
 (.cond (.tmp 12)
 (.seq (.region [(jo 2 (.mov (.const (.int .i64 (-1)))))])
 .ret)
 .skip))
 (.seq (.region [(jm 13 0), (jn 14 13), (jf 15 37 14), (jl 16 15), (jo 17 (.conv .i64 (.tmp 16))), (ja 18 17 1), (jm 2 18)])
 .ret))),
 [.tmp 2]⟩
theorem low_attempt_Attempt_Version : lowFn Tryz.prog movers 154 = some ⟨ir_attempt_Attempt_Version.n, strip ir_attempt_Attempt_Version.body, ir_attempt_Attempt_Version.res⟩ := by kernel_rfl
def ir_attempt_Attempt_Value : IFn := ⟨7,
 (.seq (.region [(jo 2 (.mov (.const (.int .u64 0))))])
 (.seq (.region [(jm 3 0), (jn 4 3), (jf 5 35 4), (jl 6 5), (jm 2 6)])
 .ret)),
 [.tmp 2]⟩
theorem low_attempt_Attempt_Value : lowFn Tryz.prog movers 159 = some ⟨ir_attempt_Attempt_Value.n, strip ir_attempt_Attempt_Value.body, ir_attempt_Attempt_Value.res⟩ := by kernel_rfl
def ir_attempt_Attempt_Frees : IFn := ⟨9,
 (.seq (.region [(jo 2 (.mov (.const (.slice none 0 0))))])
 (.seq (.region [(jm 3 0), (jn 4 3), (jf 5 0 4), (jf 6 4 5), (jl 7 6), (jc 8 19 7), (jm 2 8)])
 .ret)),
 [.tmp 2]⟩
theorem low_attempt_Attempt_Frees : lowFn Tryz.prog movers 160 = some ⟨ir_attempt_Attempt_Frees.n, strip ir_attempt_Attempt_Frees.body, ir_attempt_Attempt_Frees.res⟩ := by kernel_rfl
end Go.Proofs.YtllddgdmmfmpkaaGreatDoor
