/- What the laws share, part 11. No condition. -/
import Derived.Test.YtfompmhncnkcfaaGreatDoorW10
namespace Go.Proofs.YtfompmhncnkcfaaGreatDoor
open Go
set_option maxRecDepth 100000
def irc_ref22_New : IFn := ⟨50,
 (.seq (.region [(jb 1 32 0), (jo 2 (.mov (.const (.pointer none))))])
 (.cut (.draw (.f (jL 5 16 1)
 (.f (jf 7 13 1)
 (.f (jf 10 0 1)
 (.both (.m (jc 6 33 5)
 (.f (jl 8 7)
 (.both (.m (jc 9 34 8)
 (.f (jL 11 13 10)
 (.f (jc 12 35 11)
 (.m (jo 13 (.mk 4 1 1 [(.bool false)] (.tmp 12) (.tmp 12)))
 (.f (jo 14 (.bld [(.int .i64 0), (.int .i64 0), (.int .i64 0), (.int .i64 0), (.int .i64 0), (.int .i64 0), (.int .i64 0), (.int .i64 0), (.int .i64 0), (.int .i64 0), (.int .i64 0), (.int .i64 0), (.bool false), (.slice none 0 0), (.slice none 0 0), (.slice none 0 0), (.slice none 0 0), (.slice none 0 0), (.slice none 0 0), (.slice none 0 0), (.slice none 0 0), (.int .i64 0)] [(0, 16, (.tmp 6)), (16, 1, (.tmp 9)), (17, 1, (.tmp 13))]))
 (.m (jb 15 79 14)
 (.f (jm 3 15)
 .done)))))))
 (.f (jL 11 13 10)
 (.m (jc 9 34 8)
 (.f (jc 12 35 11)
 (.m (jo 13 (.mk 4 1 1 [(.bool false)] (.tmp 12) (.tmp 12)))
 (.f (jo 14 (.bld [(.int .i64 0), (.int .i64 0), (.int .i64 0), (.int .i64 0), (.int .i64 0), (.int .i64 0), (.int .i64 0), (.int .i64 0), (.int .i64 0), (.int .i64 0), (.int .i64 0), (.int .i64 0), (.bool false), (.slice none 0 0), (.slice none 0 0), (.slice none 0 0), (.slice none 0 0), (.slice none 0 0), (.slice none 0 0), (.slice none 0 0), (.slice none 0 0), (.int .i64 0)] [(0, 16, (.tmp 6)), (16, 1, (.tmp 9)), (17, 1, (.tmp 13))]))
 (.m (jb 15 79 14)
 (.f (jm 3 15)
 .done))))))))))
 (.both (.f (jl 8 7)
 (.both (.m (jc 6 33 5)
 (.both (.m (jc 9 34 8)
 (.f (jL 11 13 10)
 (.f (jc 12 35 11)
 (.m (jo 13 (.mk 4 1 1 [(.bool false)] (.tmp 12) (.tmp 12)))
 (.f (jo 14 (.bld [(.int .i64 0), (.int .i64 0), (.int .i64 0), (.int .i64 0), (.int .i64 0), (.int .i64 0), (.int .i64 0), (.int .i64 0), (.int .i64 0), (.int .i64 0), (.int .i64 0), (.int .i64 0), (.bool false), (.slice none 0 0), (.slice none 0 0), (.slice none 0 0), (.slice none 0 0), (.slice none 0 0), (.slice none 0 0), (.slice none 0 0), (.slice none 0 0), (.int .i64 0)] [(0, 16, (.tmp 6)), (16, 1, (.tmp 9)), (17, 1, (.tmp 13))]))
 (.m (jb 15 79 14)
 (.f (jm 3 15)
 .done)))))))
 (.f (jL 11 13 10)
 (.m (jc 9 34 8)
 (.f (jc 12 35 11)
 (.m (jo 13 (.mk 4 1 1 [(.bool false)] (.tmp 12) (.tmp 12)))
 (.f (jo 14 (.bld [(.int .i64 0), (.int .i64 0), (.int .i64 0), (.int .i64 0), (.int .i64 0), (.int .i64 0), (.int .i64 0), (.int .i64 0), (.int .i64 0), (.int .i64 0), (.int .i64 0), (.int .i64 0), (.bool false), (.slice none 0 0), (.slice none 0 0), (.slice none 0 0), (.slice none 0 0), (.slice none 0 0), (.slice none 0 0), (.slice none 0 0), (.slice none 0 0), (.int .i64 0)] [(0, 16, (.tmp 6)), (16, 1, (.tmp 9)), (17, 1, (.tmp 13))]))
 (.m (jb 15 79 14)
 (.f (jm 3 15)
 .done)))))))))
 (.f (jL 11 13 10)
 (.m (jc 6 33 5)
 (.m (jc 9 34 8)
 (.f (jc 12 35 11)
 (.m (jo 13 (.mk 4 1 1 [(.bool false)] (.tmp 12) (.tmp 12)))
 (.f (jo 14 (.bld [(.int .i64 0), (.int .i64 0), (.int .i64 0), (.int .i64 0), (.int .i64 0), (.int .i64 0), (.int .i64 0), (.int .i64 0), (.int .i64 0), (.int .i64 0), (.int .i64 0), (.int .i64 0), (.bool false), (.slice none 0 0), (.slice none 0 0), (.slice none 0 0), (.slice none 0 0), (.slice none 0 0), (.slice none 0 0), (.slice none 0 0), (.slice none 0 0), (.int .i64 0)] [(0, 16, (.tmp 6)), (16, 1, (.tmp 9)), (17, 1, (.tmp 13))]))
 (.m (jb 15 79 14)
 (.f (jm 3 15)
 .done))))))))))
 (.f (jL 11 13 10)
 (.both (.m (jc 6 33 5)
 (.f (jl 8 7)
 (.m (jc 9 34 8)
 (.f (jc 12 35 11)
 (.m (jo 13 (.mk 4 1 1 [(.bool false)] (.tmp 12) (.tmp 12)))
 (.f (jo 14 (.bld [(.int .i64 0), (.int .i64 0), (.int .i64 0), (.int .i64 0), (.int .i64 0), (.int .i64 0), (.int .i64 0), (.int .i64 0), (.int .i64 0), (.int .i64 0), (.int .i64 0), (.int .i64 0), (.bool false), (.slice none 0 0), (.slice none 0 0), (.slice none 0 0), (.slice none 0 0), (.slice none 0 0), (.slice none 0 0), (.slice none 0 0), (.slice none 0 0), (.int .i64 0)] [(0, 16, (.tmp 6)), (16, 1, (.tmp 9)), (17, 1, (.tmp 13))]))
 (.m (jb 15 79 14)
 (.f (jm 3 15)
 .done))))))))
 (.f (jl 8 7)
 (.m (jc 6 33 5)
 (.m (jc 9 34 8)
 (.f (jc 12 35 11)
 (.m (jo 13 (.mk 4 1 1 [(.bool false)] (.tmp 12) (.tmp 12)))
 (.f (jo 14 (.bld [(.int .i64 0), (.int .i64 0), (.int .i64 0), (.int .i64 0), (.int .i64 0), (.int .i64 0), (.int .i64 0), (.int .i64 0), (.int .i64 0), (.int .i64 0), (.int .i64 0), (.int .i64 0), (.bool false), (.slice none 0 0), (.slice none 0 0), (.slice none 0 0), (.slice none 0 0), (.slice none 0 0), (.slice none 0 0), (.slice none 0 0), (.slice none 0 0), (.int .i64 0)] [(0, 16, (.tmp 6)), (16, 1, (.tmp 9)), (17, 1, (.tmp 13))]))
 (.m (jb 15 79 14)
 (.f (jm 3 15)
 .done))))))))))))))))
 (.seq (.seq (.region [(jk 4 0)])
 (.block 0
 (.loop 562949953355792
 (.seq (.seq (.region [(jm 16 4), (jf 17 14 1), (jl 18 17), (jt 19 18), (jw 20 16 19)])
 (.cond (.tmp 20)
 .skip
 (.exit 0)))
 (.seq (.block 1
 (.seq (.draw (.f (jm 23 3)
 (.f (jm 24 3)
 (.f (jn 25 24)
 (.f (jf 26 18 25)
 (.f (jl 27 26)
 (.f (jf 28 14 1)
 (.f (jm 30 4)
 (.f (jl 29 28)
 (.f (jx 31 1 29 30)
 (.f (jl 32 31)
 (.f (jt 33 32)
 (.f (jq 34 33 0)
 (.f (jo 35 (.bld [(.int .i64 0), (.int .u64 0), (.int .u64 0), (.int .u64 0), (.int .u64 0), (.int .u64 0), (.int .u64 0), (.int .u64 0), (.int .u64 0), (.int .i64 0), (.bool false)] [(10, 1, (.tmp 34))]))
 (.m (jo 36 (.blds 66 1 [(.int .i64 0), (.int .u64 0), (.int .u64 0), (.int .u64 0), (.int .u64 0), (.int .u64 0), (.int .u64 0), (.int .u64 0), (.int .u64 0), (.int .i64 0), (.bool false)] [(0, 11, (.tmp 35))]))
 (.m (jo 37 (.app 66 11 88 [(.int .i64 0), (.int .u64 0), (.int .u64 0), (.int .u64 0), (.int .u64 0), (.int .u64 0), (.int .u64 0), (.int .u64 0), (.int .u64 0), (.int .i64 0), (.bool false)] (.tmp 27) (.tmp 36)))
 (.f (jn 38 23)
 (.f (jf 39 18 38)
 (.m (js 39 37)
 .done)))))))))))))))))))
 (.region [(jm 40 3), (jm 41 3), (jn 42 41), (jf 43 20 42), (jl 44 43), (jo 45 (.blds 72 1 [(.slice none 0 0)] [(0, 1, (.const (.slice none 0 0)))])), (jo 46 (.app 72 1 24 [(.slice none 0 0)] (.tmp 44) (.tmp 45))),
 (jn 47 40), (jf 48 20 47), (js 48 46)])))
 (.region [(jm 21 4), (ja 22 21 1), (jm 4 22)]))))))
 (.seq (.region [(jm 49 3), (jm 2 49)])
 .ret)))),
 [.tmp 2]⟩
theorem lowc_ref22_New : lowFn Tryz.prog movers 12 = some ⟨irc_ref22_New.n, strip irc_ref22_New.body, irc_ref22_New.res⟩ := by kernel_rfl
end Go.Proofs.YtfompmhncnkcfaaGreatDoor
namespace Go.Proofs.YtfompmhncnkcfaaGreatDoor
open Go
set_option maxRecDepth 100000
def ir_law22_SglFollows : IFn := ⟨76,
 (.seq (.region [(jb 4 22 0), (jo 8 (.mov (.const (.bool false))))])
 (.seq (.region [(jL 19 5 4), (jm 20 1), (jm 21 3), (jo 22 (.call 9 [(.tmp 19), (.tmp 20), (.tmp 21)])), (jm 18 22), (je 23 18 0), (je 24 18 1), (jo 9 (.new 32 (.agg #[.int .i64 0, .int .i64 0, .int .i64 0, .int .i64 0, .int .i64 0, .int .i64 0, .int .i64 0, .int .i64 0, .int .i64 0, .int .i64 0, .int .i64 0, .int .i64 0, .bool false, .slice none 0 0, .slice none 0 0, .slice none 0 0]))),
 (jS 16 9 23), (jm 10 24)])
 (.seq (.seq (.region [(jm 25 10), (jo 26 (.not (.tmp 25))), (jm 27 26), (jz 27 (jm 28 2)), (jz 27 (jt 29 28)), (jz 27 (jo 30 (.bin .gtr (.tmp 29) (.const (.int .i64 60))))),
 (jO 31 27 30)])
 (.cond (.tmp 31)
 (.seq (.region [(jo 32 (.call 10 [])), (jm 8 32)])
 .ret)
 .skip))
 (.seq (.region [(jL 34 16 9), (jc 35 11 34), (jm 33 35), (je 36 33 0), (je 37 33 1), (je 38 33 2), (je 39 33 3), (jm 11 36), (jm 12 37), (jm 13 38), (jm 14 39)])
 (.seq (.region [(jL 40 16 9), (jc 41 12 40), (jm 15 41)])
 (.seq (.seq (.region [(jm 42 14), (jo 43 (.bin .neq (.tmp 42) (.const (.int .i64 0)))), (jm 44 43), (jz 44 (jm 45 11)), (jz 44 (jo 46 (.nilq false 1 (.tmp 45) (.const (.pointer none))))),
 (jO 47 44 46)])
 (.cond (.tmp 47)
 (.seq (.region [(jo 8 (.mov (.const (.bool false))))])
 .ret)
 .skip))
 (.seq (.seq (.region [(jk 16 0)])
 (.block 0
 (.loop 37778931581482185195776
 (.seq (.seq (.region [(jm 48 16), (jm 49 2), (jt 50 49), (jw 51 48 50)])
 (.cond (.tmp 51)
 .skip
 (.exit 0)))
 (.seq (.block 1
 (.seq (.region [(jm 54 15), (jm 55 2), (jm 56 16), (jx 57 3 55 56), (jL 58 3 57), (jC 59 13 54 58), (jo 17 (.new 43 (.agg #[.int .i64 0, .int .i64 0, .slice none 0 0]))),
 (jS 3 17 59)])
 (.seq (.draw (.f (jm 60 11)
 (.f (jm 63 15)
 (.both (.f (jL 61 3 17)
 (.both (.m (jC 62 14 60 61)
 (.f (jL 64 3 17)
 (.m (jC 65 15 63 64)
 (.f (jo 66 (.bin .neq (.tmp 62) (.tmp 65)))
 (.f (jm 67 66)
 (.f (jz 67 (jm 68 11))
 (.f (jz 67 (jm 70 15))
 (.m (jz 67 (jc 69 17 68))
 (.m (jz 67 (jc 71 18 70))
 (.f (jz 67 (jC 72 16 69 71))
 (.f (jz 67 (jo 73 (.not (.tmp 72))))
 (.f (jO 74 67 73)
 .done))))))))))))
 (.f (jL 64 3 17)
 (.m (jC 62 14 60 61)
 (.m (jC 65 15 63 64)
 (.f (jo 66 (.bin .neq (.tmp 62) (.tmp 65)))
 (.f (jm 67 66)
 (.f (jz 67 (jm 68 11))
 (.f (jz 67 (jm 70 15))
 (.m (jz 67 (jc 69 17 68))
 (.m (jz 67 (jc 71 18 70))
 (.f (jz 67 (jC 72 16 69 71))
 (.f (jz 67 (jo 73 (.not (.tmp 72))))
 (.f (jO 74 67 73)
 .done))))))))))))))
 (.f (jL 64 3 17)
 (.f (jL 61 3 17)
 (.m (jC 62 14 60 61)
 (.m (jC 65 15 63 64)
 (.f (jo 66 (.bin .neq (.tmp 62) (.tmp 65)))
 (.f (jm 67 66)
 (.f (jz 67 (jm 68 11))
 (.f (jz 67 (jm 70 15))
 (.m (jz 67 (jc 69 17 68))
 (.m (jz 67 (jc 71 18 70))
 (.f (jz 67 (jC 72 16 69 71))
 (.f (jz 67 (jo 73 (.not (.tmp 72))))
 (.f (jO 74 67 73)
 .done)))))))))))))))))
 (.cond (.tmp 74)
 (.seq (.region [(jo 8 (.mov (.const (.bool false))))])
 .ret)
 .skip))))
 (.region [(jm 52 16), (ja 53 52 1), (jm 16 53)]))))))
 (.seq (.region [(jo 75 (.call 10 [])), (jm 8 75)])
 .ret)))))))),
 [.tmp 8]⟩
theorem low_law22_SglFollows : lowFn Tryz.prog movers 3 = some ⟨ir_law22_SglFollows.n, strip ir_law22_SglFollows.body, ir_law22_SglFollows.res⟩ := by kernel_rfl
def ir_law22_script : IFn := ⟨52,
 (.seq (.region [(jb 3 22 0), (jo 6 (.new 32 (.agg #[.int .i64 0, .int .i64 0, .int .i64 0, .int .i64 0, .int .i64 0, .int .i64 0, .int .i64 0, .int .i64 0, .int .i64 0, .int .i64 0, .int .i64 0, .int .i64 0, .bool false, .slice none 0 0, .slice none 0 0, .slice none 0 0]))),
 (jo 7 (.mov (.const (.bool false))))])
 (.seq (.region [(jk 8 0)])
 (.seq (.seq (.region [(jk 9 0)])
 (.block 0
 (.loop 16775936
 (.seq (.seq (.region [(jm 11 9), (jm 12 1), (jt 13 12), (jw 14 11 13)])
 (.cond (.tmp 14)
 .skip
 (.exit 0)))
 (.seq (.block 1
 (.region [(jm 17 8), (jm 18 1), (jm 19 9), (jx 20 1 18 19), (jl 21 20), (jt 22 21), (jo 23 (.bin .add (.tmp 17) (.tmp 22))), (jm 8 23)]))
 (.region [(jm 15 9), (ja 16 15 1), (jm 9 16)]))))))
 (.seq (.seq (.region [(jm 24 1), (jt 25 24), (jo 26 (.bin .gtr (.tmp 25) (.const (.int .i64 3)))), (jm 27 26), (jz 27 (jm 28 8)), (jz 27 (jo 29 (.bin .gtr (.tmp 28) (.const (.int .i64 80))))),
 (jO 30 27 29)])
 (.cond (.tmp 30)
 (.seq (.region [(jo 31 (.bld [(.int .i64 0), (.int .i64 0), (.int .i64 0), (.int .i64 0), (.int .i64 0), (.int .i64 0), (.int .i64 0), (.int .i64 0), (.int .i64 0), (.int .i64 0), (.int .i64 0), (.int .i64 0), (.bool false), (.slice none 0 0), (.slice none 0 0), (.slice none 0 0)] [])),
 (jS 16 6 31), (jo 7 (.mov (.const (.bool false))))])
 .ret)
 .skip))
 (.seq (.region [(jo 32 (.ixa 5 1 (.tmp 3) (.const (.int .i64 0)))), (jl 33 32), (jo 34 (.ixa 5 1 (.tmp 3) (.const (.int .i64 1)))), (jl 35 34), (jo 36 (.ixa 5 1 (.tmp 3) (.const (.int .i64 2)))),
 (jl 37 36), (jo 38 (.ixa 5 1 (.tmp 3) (.const (.int .i64 3)))), (jl 39 38), (jo 40 (.ixa 5 1 (.tmp 3) (.const (.int .i64 4)))), (jl 41 40), (jo 42 (.call 28 [(.tmp 33), (.tmp 35), (.tmp 37), (.tmp 39), (.tmp 41)])),
 (jo 10 (.new 27 (.agg #[.int .i64 0, .int .i64 0, .int .i64 0, .int .i64 0, .int .i64 0, .int .i64 0, .int .i64 0, .int .i64 0, .int .i64 0, .int .i64 0, .int .i64 0, .int .i64 0, .bool false]))),
 (jS 13 10 42)])
 (.seq (.region [(jm 43 2), (jf 44 12 10), (js 44 43)])
 (.seq (.region [(jL 45 13 10), (jm 46 1), (jt 47 46), (jo 48 (.bin .rem (.tmp 47) (.const (.int .i64 2)))), (jo 49 (.bin .add (.const (.int .i64 2)) (.tmp 48))),
 (jm 50 1), (jo 51 (.call 29 [(.tmp 45), (.tmp 49), (.tmp 50), (.const (.int .i64 14)), (.const (.bool true)), (.const (.bool true)), (.const (.slice none 0 0))])),
 (jS 16 6 51), (jo 7 (.mov (.const (.bool true))))])
 .ret))))))),
 [.cellN 6 16, .tmp 7]⟩
theorem low_law22_script : lowFn Tryz.prog movers 9 = some ⟨ir_law22_script.n, strip ir_law22_script.body, ir_law22_script.res⟩ := by kernel_rfl
def ir_law22_awake : IFn := ⟨79,
 (.seq (.region [(jo 0 (.mov (.const (.bool false))))])
 (.seq (.region [(jo 6 (.bld [(.int .i64 0), (.int .i64 0), (.int .i64 0), (.int .i64 0), (.int .i64 0)] [(0, 1, (.const (.int .i64 7))), (4, 1, (.const (.int .i64 1)))])),
 (jo 7 (.bld [(.int .i64 0), (.int .i64 0), (.int .i64 0), (.int .i64 0), (.int .i64 0)] [(0, 1, (.const (.int .i64 11))), (1, 1, (.const (.int .i64 0))), (2, 1, (.const (.int .i64 1))), (4, 1, (.const (.int .i64 1)))])),
 (jo 8 (.bld [(.int .i64 0), (.int .i64 0), (.int .i64 0), (.int .i64 0), (.int .i64 0)] [(0, 1, (.const (.int .i64 8)))])), (jo 9 (.blds 69 3 [(.int .i64 0), (.int .i64 0), (.int .i64 0), (.int .i64 0), (.int .i64 0), (.int .i64 0), (.int .i64 0), (.int .i64 0), (.int .i64 0), (.int .i64 0), (.int .i64 0), (.int .i64 0), (.int .i64 0), (.int .i64 0), (.int .i64 0)] [(0, 5, (.tmp 6)), (5, 5, (.tmp 7)), (10, 5, (.tmp 8))])),
 (jm 1 9)])
 (.seq (.region [(jo 10 (.bld [(.int .i64 0), (.int .i64 0), (.int .i64 0), (.int .i64 0), (.int .i64 0), (.int .i64 0), (.int .i64 0), (.int .i64 0), (.int .i64 0), (.int .i64 0), (.int .i64 0), (.int .i64 0), (.bool false)] [(0, 1, (.const (.int .i64 2))), (1, 1, (.const (.int .i64 1))), (7, 1, (.const (.int .i64 1))), (8, 1, (.const (.int .i64 1)))])),
 (jo 11 (.blds 63 2 [(.int .u64 0), (.int .u64 0)] [(0, 1, (.const (.int .u64 5))), (1, 1, (.const (.int .u64 6)))])), (jm 12 1), (jm 13 1), (jo 14 (.blds 67 2 [(.slice none 0 0), (.slice none 0 0)] [(0, 1, (.tmp 12)), (1, 1, (.tmp 13))])),
 (jo 15 (.bld [(.int .i64 0), (.int .i64 0), (.int .i64 0), (.int .i64 0), (.int .i64 0), (.int .i64 0), (.int .i64 0), (.int .i64 0), (.int .i64 0), (.int .i64 0), (.int .i64 0), (.int .i64 0), (.bool false), (.slice none 0 0), (.slice none 0 0), (.slice none 0 0)] [(0, 13, (.tmp 10)), (13, 1, (.tmp 11)), (14, 1, (.tmp 14))])),
 (jo 2 (.new 32 (.agg #[.int .i64 0, .int .i64 0, .int .i64 0, .int .i64 0, .int .i64 0, .int .i64 0, .int .i64 0, .int .i64 0, .int .i64 0, .int .i64 0, .int .i64 0, .int .i64 0, .bool false, .slice none 0 0, .slice none 0 0, .slice none 0 0]))),
 (jS 16 2 15)])
 (.seq (.region [(jL 17 16 2), (jo 18 (.bld [(.int .i64 0), (.int .i64 0), (.slice none 0 0)] [(0, 1, (.const (.int .i64 1))), (1, 1, (.const (.int .i64 5)))])),
 (jo 19 (.bld [(.int .i64 0), (.int .i64 0), (.slice none 0 0)] [(0, 1, (.const (.int .i64 0)))])), (jo 20 (.blds 43 2 [(.int .i64 0), (.int .i64 0), (.slice none 0 0), (.int .i64 0), (.int .i64 0), (.slice none 0 0)] [(0, 3, (.tmp 18)), (3, 3, (.tmp 19))])),
 (jC 21 19 17 20), (jm 16 21), (je 22 16 0), (je 23 16 1), (je 24 16 2), (jo 3 (.new 52 (.agg #[.slice none 0 0, .slice none 0 0, .slice none 0 0, .slice none 0 0]))),
 (jS 4 3 22), (jm 4 23), (jm 5 24)])
 (.seq (.region [(jm 25 5), (jq 26 25 0), (jm 27 26), (jy 27 (jm 28 4)), (jy 27 (jq 29 28 0)), (jA 30 27 29), (jm 31 30), (jy 31 (jf 32 0 3)), (jy 31 (jl 33 32)),
 (jy 31 (jt 34 33)), (jy 31 (jq 35 34 2)), (jA 36 31 35), (jm 37 36), (jy 37 (jf 38 0 3)), (jy 37 (jl 39 38)), (jy 37 (jo 40 (.ixs 1 (.tmp 39) (.const (.int .i64 0))))),
 (jy 37 (jl 41 40)), (jy 37 (jo 42 (.bin .eql (.tmp 41) (.const (.int .u64 5))))), (jA 43 37 42), (jm 44 43), (jy 44 (jf 45 0 3)), (jy 44 (jl 46 45)), (jy 44 (jo 47 (.ixs 1 (.tmp 46) (.const (.int .i64 1))))),
 (jy 44 (jl 48 47)), (jy 44 (jo 49 (.bin .eql (.tmp 48) (.const (.int .u64 0))))), (jA 50 44 49), (jm 51 50), (jy 51 (jf 52 2 3)), (jy 51 (jl 53 52)), (jy 51 (jt 54 53)),
 (jy 51 (jq 55 54 2)), (jA 56 51 55), (jm 57 56), (jy 57 (jf 58 1 3)), (jy 57 (jl 59 58)), (jy 57 (jt 60 59)), (jy 57 (jq 61 60 2)), (jA 62 57 61), (jm 63 62), (jy 63 (jf 64 1 3)),
 (jy 63 (jl 65 64)), (jy 63 (jo 66 (.ixs 11 (.tmp 65) (.const (.int .i64 1))))), (jy 63 (jf 67 9 66)), (jy 63 (jl 68 67)), (jy 63 (jq 69 68 5)), (jA 70 63 69), (jm 71 70),
 (jy 71 (jf 72 1 3)), (jy 71 (jl 73 72)), (jy 71 (jo 74 (.ixs 11 (.tmp 73) (.const (.int .i64 0))))), (jy 71 (jf 75 9 74)), (jy 71 (jl 76 75)), (jy 71 (jq 77 76 1)),
 (jA 78 71 77), (jm 0 78)])
 .ret))))),
 [.tmp 0]⟩
theorem low_law22_awake : lowFn Tryz.prog movers 10 = some ⟨ir_law22_awake.n, strip ir_law22_awake.body, ir_law22_awake.res⟩ := by kernel_rfl
end Go.Proofs.YtfompmhncnkcfaaGreatDoor
namespace Go.Proofs.YtfompmhncnkcfaaGreatDoor
open Go
set_option maxRecDepth 100000
def irc_law22_choice : IFn := ⟨192,
 (.seq (.region [(jb 3 45 1), (jo 4 (.new 43 (.agg #[.int .i64 0, .int .i64 0, .slice none 0 0])))])
 (.seq (.draw (.f (jf 11 0 3)
 (.f (jl 12 11)
 (.f (jm 13 0)
 (.f (jn 14 13)
 (.f (jf 15 18 14)
 (.f (jl 16 15)
 (.f (jt 17 16)
 (.f (ja 18 17 1)
 (.f (jC 19 23 12 18)
 (.f (jo 20 (.bld [(.int .i64 0), (.int .i64 0), (.slice none 0 0)] [(0, 1, (.tmp 19))]))
 (.m (jo 5 (.new 43 (.agg #[.int .i64 0, .int .i64 0, .slice none 0 0])))
 (.m (jS 3 5 20)
 .done)))))))))))))
 (.cut (.seq (.region [(jf 21 1 3), (jl 22 21), (jo 23 (.call 23 [(.tmp 22), (.const (.int .i64 6))])), (jq 24 23 0)])
 (.cond (.tmp 24)
 (.region [(jf 25 1 3), (jl 26 25), (jo 27 (.bin .quo (.tmp 26) (.const (.int .i64 6)))), (jo 28 (.call 23 [(.tmp 27), (.const (.int .i64 8))])), (jf 29 1 5), (js 29 28)])
 .skip))
 (.seq (.seq (.draw (.f (jf 30 0 5)
 (.f (jl 31 30)
 (.f (jm 32 0)
 (.f (jn 33 32)
 (.f (jf 34 18 33)
 (.f (jl 35 34)
 (.f (jt 36 35)
 (.f (jo 37 (.bin .eql (.tmp 31) (.tmp 36)))
 (.f (jm 38 37)
 (.f (jz 38 (jm 39 0))
 (.f (jz 38 (jn 40 39))
 (.f (jz 38 (jf 41 18 40))
 (.f (jz 38 (jl 42 41))
 (.f (jz 38 (jf 43 0 5))
 (.f (jz 38 (jl 44 43))
 (.f (jz 38 (jx 45 11 42 44))
 (.f (jz 38 (jf 46 10 45))
 (.f (jz 38 (jl 47 46))
 (.f (jO 48 38 47)
 (.f (jm 49 48)
 (.f (jz 49 (jf 50 1 5))
 (.f (jz 49 (jl 51 50))
 (.f (jz 49 (jo 52 (.bin .neq (.tmp 51) (.const (.int .i64 0)))))
 (.f (jO 53 49 52)
 .done)))))))))))))))))))))))))
 (.cond (.tmp 53)
 (.seq (.region [(jL 54 3 5), (jS 3 4 54)])
 .ret)
 .skip))
 (.seq (.draw (.f (jm 55 0)
 (.f (jn 56 55)
 (.f (jf 57 0 56)
 (.f (jf 58 14 57)
 (.f (jl 59 58)
 (.f (jf 60 0 5)
 (.f (jl 61 60)
 (.f (jx 62 1 59 61)
 (.f (jl 63 62)
 (.f (jm 6 63)
 .done)))))))))))
 (.seq (.region [(jo 7 (.mov (.const (.slice none 0 0))))])
 (.cut (.seq (.draw (.f (jm 64 0)
 (.f (jn 65 64)
 (.f (jf 66 18 65)
 (.f (jl 67 66)
 (.f (jf 68 0 5)
 (.f (jl 69 68)
 (.f (jx 70 11 67 69)
 (.f (jf 71 0 70)
 (.f (jl 72 71)
 (.f (ja 73 72 1)
 (.f (jm 8 73)
 .done))))))))))))
 (.block 0
 (.loop 95780971304118053647396689196875434510239716555622272
 (.seq (.seq (.draw (.f (jm 74 8)
 (.f (jm 75 6)
 (.f (jt 76 75)
 (.f (jw 77 74 76)
 (.f (jm 78 77)
 (.f (jy 78 (jm 79 6))
 (.f (jy 78 (jm 80 0))
 (.f (jy 78 (jn 81 80))
 (.f (jy 78 (jf 82 18 81))
 (.f (jy 78 (jl 83 82))
 (.f (jy 78 (jf 84 0 5))
 (.f (jy 78 (jl 85 84))
 (.f (jy 78 (jx 86 11 83 85))
 (.f (jy 78 (jf 87 0 86))
 (.f (jy 78 (jl 88 87))
 (.f (jy 78 (jx 89 5 79 88))
 (.f (jy 78 (jf 90 0 89))
 (.f (jy 78 (jl 91 90))
 (.f (jy 78 (jq 92 91 7))
 (.f (jA 93 78 92)
 (.f (jm 94 93)
 (.f (jy 94 (jm 95 6))
 (.f (jy 94 (jm 96 8))
 (.f (jy 94 (jx 97 5 95 96))
 (.f (jy 94 (jf 98 0 97))
 (.f (jy 94 (jl 99 98))
 (.f (jy 94 (jo 100 (.bin .neq (.tmp 99) (.const (.int .i64 8)))))
 (.f (jA 101 94 100)
 .done)))))))))))))))))))))))))))))
 (.cond (.tmp 101)
 .skip
 (.exit 0)))
 (.seq (.block 1
 (.seq (.seq (.region [(jm 104 6), (jm 105 8), (jx 106 5 104 105), (jf 107 0 106), (jl 108 107), (jo 109 (.bin .neq (.tmp 108) (.const (.int .i64 14))))])
 (.cond (.tmp 109)
 (.exit 1)
 .skip))
 (.seq (.region [(jf 110 2 3), (jl 111 110), (jf 112 2 5), (jl 113 112), (jt 114 113), (jC 115 36 111 114), (jm 9 115)])
 (.cut (.seq (.region [(jk 10 0)])
 (.block 2
 (.loop 1496577676626844505163823532144231755639733656487552
 (.seq (.seq (.region [(jm 116 10), (jm 117 0), (jn 118 117), (jf 119 17 118), (jl 120 119), (jt 121 120), (jw 122 116 121)])
 (.cond (.tmp 122)
 .skip
 (.exit 2)))
 (.seq (.block 3
 (.seq (.draw (.f (jm 125 0)
 (.f (jn 126 125)
 (.f (jf 127 17 126)
 (.f (jl 128 127)
 (.f (jm 129 10)
 (.f (jx 130 1 128 129)
 (.f (jl 131 130)
 (.f (jo 132 (.not (.tmp 131)))
 (.f (jm 133 132)
 (.f (jy 133 (jm 134 7))
 (.f (jy 133 (jm 135 10))
 (.f (jy 133 (jC 136 37 134 135))
 (.f (jy 133 (jo 137 (.not (.tmp 136))))
 (.f (jA 138 133 137)
 (.f (jm 139 138)
 (.f (jy 139 (jm 140 0))
 (.f (jy 139 (jn 141 140))
 (.f (jy 139 (jf 142 0 141))
 (.f (jy 139 (jf 143 0 142))
 (.f (jy 139 (jL 144 13 143))
 (.f (jy 139 (jm 145 10))
 (.f (jy 139 (jC 146 38 144 145))
 (.f (jy 139 (jm 147 6))
 (.f (jy 139 (jm 148 8))
 (.f (jy 139 (jx 149 5 147 148))
 (.f (jy 139 (jf 150 4 149))
 (.f (jy 139 (jl 151 150))
 (.f (jy 139 (jo 152 (.bin .eql (.tmp 146) (.tmp 151))))
 (.f (jA 153 139 152)
 (.f (jm 154 153)
 (.f (jy 154 (jm 155 9))
 (.f (jy 154 (jo 156 (.bin .rem (.tmp 155) (.const (.int .i64 7)))))
 (.f (jy 154 (jo 157 (.bin .neq (.tmp 156) (.const (.int .i64 6)))))
 (.f (jA 158 154 157)
 .done)))))))))))))))))))))))))))))))))))
 (.cond (.tmp 158)
 (.seq (.region [(jm 159 7), (jm 160 10), (jo 161 (.blds 3 1 [(.int .i64 0)] [(0, 1, (.tmp 160))])), (jo 162 (.app 3 1 8 [(.int .i64 0)] (.tmp 159) (.tmp 161))),
 (jm 7 162)])
 (.seq (.region [(jm 163 0), (jn 164 163), (jf 165 0 164), (jf 166 0 165), (jL 167 13 166), (jm 168 10), (jC 169 39 167 168), (jm 9 169)])
 (.exit 2)))
 .skip)))
 (.region [(jm 123 10), (ja 124 123 1), (jm 10 124)]))))))
 (.region [(jf 170 2 5), (jl 171 170), (jm 172 9), (jo 173 (.blds 3 1 [(.int .i64 0)] [(0, 1, (.tmp 172))])), (jo 174 (.app 3 1 8 [(.int .i64 0)] (.tmp 171) (.tmp 173))),
 (jf 175 2 5), (js 175 174)])))))
 (.region [(jm 102 8), (ja 103 102 1), (jm 8 103)]))))))
 (.seq (.seq (.region [(jf 176 2 3), (jl 177 176), (jo 178 (.call 36 [(.tmp 177), (.const (.int .i64 5))])), (jo 179 (.bin .rem (.tmp 178) (.const (.int .i64 5)))),
 (jq 180 179 4), (jm 181 180), (jy 181 (jf 182 2 5)), (jy 181 (jl 183 182)), (jy 181 (jt 184 183)), (jy 181 (jo 185 (.bin .gtr (.tmp 184) (.const (.int .i64 0))))),
 (jA 186 181 185)])
 (.cond (.tmp 186)
 (.region [(jf 187 2 5), (jl 188 187), (jo 189 (.sls 1 (.tmp 188) (some (.const (.int .i64 1))) none none)), (jf 190 2 5), (js 190 189)])
 .skip))
 (.seq (.region [(jL 191 3 5), (jS 3 4 191)])
 .ret))))))))),
 [.cellN 4 3]⟩
theorem lowc_law22_choice : lowFn Tryz.prog movers 13 = some ⟨irc_law22_choice.n, strip irc_law22_choice.body, irc_law22_choice.res⟩ := by kernel_rfl
end Go.Proofs.YtfompmhncnkcfaaGreatDoor
