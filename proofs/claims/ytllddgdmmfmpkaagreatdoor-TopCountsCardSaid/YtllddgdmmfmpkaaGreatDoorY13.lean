/- What the laws share, part 13. No condition. -/
import Derived.Test.YtllddgdmmfmpkaaGreatDoorY12
namespace Go.Proofs.YtllddgdmmfmpkaaGreatDoor
open Go
set_option maxRecDepth 100000
def ir_top_TopCounts : IFn := ⟨155,
 (.seq (.region [(jo 8 (.mov (.const (.bool false))))])
 (.seq (.seq (.region [(jm 26 3), (jt 27 26), (jo 28 (.bin .gtr (.tmp 27) (.const (.int .i64 300))))])
 (.cond (.tmp 28)
 (.seq (.region [(jo 29 (.call 4 [])), (jm 8 29)])
 .ret)
 .skip))
 (.seq (.region [(jm 30 0), (jo 31 (.call 5 [(.tmp 30), (.const (.int .i64 3))])), (jo 32 (.bin .add (.const (.int .i64 2)) (.tmp 31))), (jm 9 32)])
 (.seq (.region [(jo 33 (.bld [(.int .i64 0), (.int .i64 0), (.int .i64 0), (.int .i64 0), (.int .i64 0)] [(0, 1, (.const (.int .i64 1))), (1, 1, (.const (.int .i64 2))), (4, 1, (.const (.int .i64 1)))])),
 (jo 34 (.bld [(.int .i64 0), (.int .i64 0), (.int .i64 0), (.int .i64 0), (.int .i64 0)] [(0, 1, (.const (.int .i64 7))), (4, 1, (.const (.int .i64 8)))])), (jo 35 (.bld [(.int .i64 0), (.int .i64 0), (.int .i64 0), (.int .i64 0), (.int .i64 0)] [(0, 1, (.const (.int .i64 10))), (1, 1, (.const (.int .i64 1))), (2, 1, (.const (.int .i64 0)))])),
 (jo 36 (.bld [(.int .i64 0), (.int .i64 0), (.int .i64 0), (.int .i64 0), (.int .i64 0)] [(0, 1, (.const (.int .i64 3))), (1, 1, (.const (.int .i64 1))), (2, 1, (.const (.int .i64 1))), (3, 1, (.const (.int .i64 2))), (4, 1, (.const (.int .i64 0)))])),
 (jo 37 (.bld [(.int .i64 0), (.int .i64 0), (.int .i64 0), (.int .i64 0), (.int .i64 0)] [(0, 1, (.const (.int .i64 11))), (1, 1, (.const (.int .i64 0))), (2, 1, (.const (.int .i64 1)))])),
 (jo 38 (.bld [(.int .i64 0), (.int .i64 0), (.int .i64 0), (.int .i64 0), (.int .i64 0)] [(0, 1, (.const (.int .i64 8)))])), (jo 39 (.blds 26 6 [(.int .i64 0), (.int .i64 0), (.int .i64 0), (.int .i64 0), (.int .i64 0), (.int .i64 0), (.int .i64 0), (.int .i64 0), (.int .i64 0), (.int .i64 0), (.int .i64 0), (.int .i64 0), (.int .i64 0), (.int .i64 0), (.int .i64 0), (.int .i64 0), (.int .i64 0), (.int .i64 0), (.int .i64 0), (.int .i64 0), (.int .i64 0), (.int .i64 0), (.int .i64 0), (.int .i64 0), (.int .i64 0), (.int .i64 0), (.int .i64 0), (.int .i64 0), (.int .i64 0), (.int .i64 0)] [(0, 5, (.tmp 33)), (5, 5, (.tmp 34)), (10, 5, (.tmp 35)), (15, 5, (.tmp 36)), (20, 5, (.tmp 37)), (25, 5, (.tmp 38))])),
 (jm 10 39)])
 (.seq (.region [(jo 11 (.mov (.const (.slice none 0 0))))])
 (.seq (.seq (.region [(jk 12 0)])
 (.block 0
 (.loop 561850441799680
 (.seq (.seq (.region [(jm 40 12), (jm 41 9), (jw 42 40 41)])
 (.cond (.tmp 42)
 .skip
 (.exit 0)))
 (.seq (.block 1
 (.region [(jm 45 11), (jm 46 10), (jo 47 (.blds 27 1 [(.slice none 0 0)] [(0, 1, (.tmp 46))])), (jo 48 (.app 27 1 24 [(.slice none 0 0)] (.tmp 45) (.tmp 47))),
 (jm 11 48)]))
 (.region [(jm 43 12), (ja 44 43 1), (jm 12 44)]))))))
 (.seq (.region [(jm 49 2), (jo 50 (.call 5 [(.tmp 49), (.const (.int .i64 3))])), (jo 51 (.bin .add (.const (.int .i64 1)) (.tmp 50))), (jo 52 (.bld [(.int .i64 0), (.int .i64 0), (.int .i64 0), (.int .i64 0), (.int .i64 0), (.int .i64 0), (.int .i64 0), (.int .i64 0), (.int .i64 0), (.int .i64 0), (.int .i64 0), (.int .i64 0), (.bool false)] [(0, 1, (.const (.int .i64 2))), (1, 1, (.tmp 51)), (7, 1, (.const (.int .i64 2))), (8, 1, (.const (.int .i64 2))), (11, 1, (.const (.int .i64 1000)))])),
 (jo 13 (.new 31 (.agg #[.int .i64 0, .int .i64 0, .int .i64 0, .int .i64 0, .int .i64 0, .int .i64 0, .int .i64 0, .int .i64 0, .int .i64 0, .int .i64 0, .int .i64 0, .int .i64 0, .bool false]))),
 (jS 13 13 52)])
 (.seq (.draw (.f (jL 54 13 13)
 (.f (jm 56 11)
 (.f (jm 57 1)
 (.f (jo 58 (.call 5 [(.tmp 57), (.const (.int .i64 4))]))
 (.f (jo 59 (.bin .add (.const (.int .i64 1)) (.tmp 58)))
 (.f (jm 60 3)
 (.both (.m (jo 55 (.blds 33 2 [(.int .u64 0), (.int .u64 0)] [(0, 1, (.const (.int .u64 100))), (1, 1, (.const (.int .u64 7)))]))
 (.both (.m (jo 61 (.call 7 [(.tmp 54), (.tmp 55), (.tmp 56), (.tmp 59), (.tmp 60)]))
 (.both (.m (jc 62 6 61)
 (.f (jm 53 62)
 (.f (je 63 53 0)
 (.f (je 64 53 1)
 (.f (je 65 53 2)
 (.f (je 66 53 3)
 (.m (jo 14 (.new 41 (.agg #[.slice none 0 0, .slice none 0 0, .int .u64 0, .int .u64 0, .int .u64 0, .slice none 0 0, .slice none 0 0, .slice none 0 0, .slice none 0 0, .slice none 0 0, .slice none 0 0, .slice none 0 0])))
 (.m (jS 12 14 63)
 (.f (jm 15 64)
 (.f (jm 16 65)
 (.f (jm 17 66)
 .done)))))))))))
 (.m (jo 14 (.new 41 (.agg #[.slice none 0 0, .slice none 0 0, .int .u64 0, .int .u64 0, .int .u64 0, .slice none 0 0, .slice none 0 0, .slice none 0 0, .slice none 0 0, .slice none 0 0, .slice none 0 0, .slice none 0 0])))
 (.m (jc 62 6 61)
 (.f (jm 53 62)
 (.f (je 63 53 0)
 (.f (je 64 53 1)
 (.f (je 65 53 2)
 (.f (je 66 53 3)
 (.m (jS 12 14 63)
 (.f (jm 15 64)
 (.f (jm 16 65)
 (.f (jm 17 66)
 .done)))))))))))))
 (.m (jo 14 (.new 41 (.agg #[.slice none 0 0, .slice none 0 0, .int .u64 0, .int .u64 0, .int .u64 0, .slice none 0 0, .slice none 0 0, .slice none 0 0, .slice none 0 0, .slice none 0 0, .slice none 0 0, .slice none 0 0])))
 (.m (jo 61 (.call 7 [(.tmp 54), (.tmp 55), (.tmp 56), (.tmp 59), (.tmp 60)]))
 (.m (jc 62 6 61)
 (.f (jm 53 62)
 (.f (je 63 53 0)
 (.f (je 64 53 1)
 (.f (je 65 53 2)
 (.f (je 66 53 3)
 (.m (jS 12 14 63)
 (.f (jm 15 64)
 (.f (jm 16 65)
 (.f (jm 17 66)
 .done))))))))))))))
 (.m (jo 14 (.new 41 (.agg #[.slice none 0 0, .slice none 0 0, .int .u64 0, .int .u64 0, .int .u64 0, .slice none 0 0, .slice none 0 0, .slice none 0 0, .slice none 0 0, .slice none 0 0, .slice none 0 0, .slice none 0 0])))
 (.m (jo 55 (.blds 33 2 [(.int .u64 0), (.int .u64 0)] [(0, 1, (.const (.int .u64 100))), (1, 1, (.const (.int .u64 7)))]))
 (.m (jo 61 (.call 7 [(.tmp 54), (.tmp 55), (.tmp 56), (.tmp 59), (.tmp 60)]))
 (.m (jc 62 6 61)
 (.f (jm 53 62)
 (.f (je 63 53 0)
 (.f (je 64 53 1)
 (.f (je 65 53 2)
 (.f (je 66 53 3)
 (.m (jS 12 14 63)
 (.f (jm 15 64)
 (.f (jm 16 65)
 (.f (jm 17 66)
 .done)))))))))))))))))))))
 (.seq (.seq (.region [(jm 67 17), (jo 68 (.bin .neq (.tmp 67) (.const (.int .i64 0))))])
 (.cond (.tmp 68)
 (.seq (.region [(jo 8 (.mov (.const (.bool false))))])
 .ret)
 .skip))
 (.seq (.region [(jo 18 (.mov (.const (.int .u64 100)))), (jo 19 (.mov (.const (.int .u64 0)))), (jo 20 (.mov (.const (.int .u64 0))))])
 (.seq (.region [(jo 21 (.mov (.const (.bool false))))])
 (.seq (.seq (.region [(jk 22 0)])
 (.block 2
 (.loop 1267650599637933591138013020416
 (.seq (.seq (.region [(jm 69 22), (jf 70 9 14), (jl 71 70), (jt 72 71), (jw 73 69 72)])
 (.cond (.tmp 73)
 .skip
 (.exit 2)))
 (.seq (.block 3
 (.seq (.region [(jf 76 9 14), (jl 77 76), (jm 78 22), (jx 79 9 77 78), (jL 80 9 79), (jo 23 (.new 51 (.agg #[.int .i64 0, .int .i64 0, .int .i64 0, .int .i64 0, .int .i64 0, .int .i64 0, .int .u64 0, .int .u64 0, .bool false]))),
 (jS 9 23 80)])
 (.seq (.seq (.region [(jf 81 1 23), (jl 82 81)])
 (.block 4
 (.seq (.region [(jq 84 82 17), (jm 83 84)])
 (.cond (.tmp 83)
 (.seq (.region [(jf 85 3 23), (jf 86 4 85), (jl 87 86), (jm 18 87)])
 (.region [(jo 21 (.mov (.const (.bool true))))]))
 (.seq (.region [(jq 89 82 19), (jm 88 89)])
 (.cond (.tmp 88)
 (.seq (.region [(jm 90 19), (jo 91 (.bin .add (.tmp 90) (.const (.int .u64 1)))), (jm 19 91)])
 (.region [(jo 21 (.mov (.const (.bool false))))]))
 .skip))))))
 (.seq (.region [(jm 92 21), (jo 93 (.not (.tmp 92))), (jm 94 93), (jy 94 (jm 95 18)), (jy 94 (jm 96 19)), (jy 94 (jo 97 (.bin .add (.const (.int .u64 100)) (.tmp 96)))),
 (jy 94 (jo 98 (.bin .neq (.tmp 95) (.tmp 97)))), (jA 99 94 98)])
 (.cond (.tmp 99)
 (.seq (.region [(jo 8 (.mov (.const (.bool false))))])
 .ret)
 .skip)))))
 (.region [(jm 74 22), (ja 75 74 1), (jm 22 75)]))))))
 (.seq (.seq (.region [(jk 24 0)])
 (.block 5
 (.loop 2787593149815060242091736554679548536422400
 (.seq (.seq (.region [(jm 100 24), (jf 101 11 14), (jl 102 101), (jt 103 102), (jw 104 100 103)])
 (.cond (.tmp 104)
 .skip
 (.exit 5)))
 (.seq (.block 6
 (.seq (.region [(jk 25 0)])
 (.block 7
 (.loop 2787593149654068615862751420689467212562432
 (.seq (.seq (.region [(jm 107 25), (jf 108 11 14), (jl 109 108), (jm 110 24), (jx 111 1 109 110), (jl 112 111), (jt 113 112), (jw 114 107 113)])
 (.cond (.tmp 114)
 .skip
 (.exit 7)))
 (.seq (.block 8
 (.seq (.region [(jf 117 11 14), (jl 118 117), (jm 119 24), (jx 120 1 118 119), (jl 121 120), (jm 122 25), (jx 123 3 121 122), (jf 124 1 123), (jl 125 124), (jq 126 125 3),
 (jm 127 126), (jy 127 (jf 128 11 14)), (jy 127 (jl 129 128)), (jy 127 (jm 130 24)), (jy 127 (jx 131 1 129 130)), (jy 127 (jl 132 131)), (jy 127 (jm 133 25)), (jy 127 (jx 134 3 132 133)),
 (jy 127 (jf 135 2 134)), (jy 127 (jl 136 135)), (jy 127 (jo 137 (.bin .eql (.tmp 136) (.const (.int .u64 1))))), (jA 138 127 137)])
 (.cond (.tmp 138)
 (.region [(jm 139 20), (jo 140 (.bin .add (.tmp 139) (.const (.int .u64 1)))), (jm 20 140)])
 .skip)))
 (.region [(jm 115 25), (ja 116 115 1), (jm 25 116)])))))))
 (.region [(jm 105 24), (ja 106 105 1), (jm 24 106)]))))))
 (.seq (.region [(jm 141 20), (jm 142 19), (jo 143 (.bin .leq (.tmp 141) (.tmp 142))), (jm 144 143), (jy 144 (jm 145 19)), (jy 144 (jm 146 20)), (jy 144 (jm 147 9)),
 (jy 144 (jo 148 (.conv .u64 (.tmp 147)))), (jy 144 (jo 149 (.bin .add (.tmp 146) (.tmp 148)))), (jy 144 (jo 150 (.bin .leq (.tmp 145) (.tmp 149)))), (jA 151 144 150),
 (jm 152 151), (jy 152 (jo 153 (.call 4 []))), (jA 154 152 153), (jm 8 154)])
 .ret)))))))))))))),
 [.tmp 8]⟩
theorem low_top_TopCounts : lowFn Tryz.prog movers 3 = some ⟨ir_top_TopCounts.n, strip ir_top_TopCounts.body, ir_top_TopCounts.res⟩ := by kernel_rfl
def ir_top_awake21 : IFn := ⟨41,
 (.seq (.region [(jo 0 (.mov (.const (.bool false))))])
 (.seq (.region [(jo 6 (.bld [(.int .i64 0), (.int .i64 0), (.int .i64 0), (.int .i64 0), (.int .i64 0), (.int .i64 0), (.int .i64 0), (.int .i64 0), (.int .i64 0), (.int .i64 0), (.int .i64 0), (.int .i64 0), (.bool false)] [(0, 1, (.const (.int .i64 1))), (1, 1, (.const (.int .i64 1))), (7, 1, (.const (.int .i64 1))), (8, 1, (.const (.int .i64 1)))])),
 (jo 7 (.blds 33 1 [(.int .u64 0)] [(0, 1, (.const (.int .u64 5)))])), (jo 8 (.bld [(.int .i64 0), (.int .i64 0), (.int .i64 0), (.int .i64 0), (.int .i64 0)] [])),
 (jo 9 (.blds 26 1 [(.int .i64 0), (.int .i64 0), (.int .i64 0), (.int .i64 0), (.int .i64 0)] [(0, 5, (.tmp 8))])), (jo 10 (.blds 27 1 [(.slice none 0 0)] [(0, 1, (.tmp 9))])),
 (jo 11 (.blds 3 1 [(.int .i64 0)] [(0, 1, (.const (.int .i64 0)))])), (jo 12 (.bld [(.int .i64 0), (.int .i64 0), (.int .i64 0), (.int .i64 0), (.int .i64 0), (.int .i64 0), (.int .i64 0), (.int .i64 0), (.int .i64 0), (.int .i64 0), (.int .i64 0), (.int .i64 0), (.bool false), (.slice none 0 0), (.slice none 0 0), (.slice none 0 0)] [(0, 13, (.tmp 6)), (13, 1, (.tmp 7)), (14, 1, (.tmp 10)), (15, 1, (.tmp 11))])),
 (jo 1 (.new 46 (.agg #[.int .i64 0, .int .i64 0, .int .i64 0, .int .i64 0, .int .i64 0, .int .i64 0, .int .i64 0, .int .i64 0, .int .i64 0, .int .i64 0, .int .i64 0, .int .i64 0, .bool false, .slice none 0 0, .slice none 0 0, .slice none 0 0]))),
 (jS 16 1 12)])
 (.seq (.region [(jL 14 16 1), (jc 15 6 14), (jm 13 15), (je 16 13 0), (je 17 13 1), (je 18 13 2), (je 19 13 3), (jo 2 (.new 41 (.agg #[.slice none 0 0, .slice none 0 0, .int .u64 0, .int .u64 0, .int .u64 0, .slice none 0 0, .slice none 0 0, .slice none 0 0, .slice none 0 0, .slice none 0 0, .slice none 0 0, .slice none 0 0]))),
 (jS 12 2 16), (jm 3 17), (jm 4 18), (jm 5 19)])
 (.seq (.region [(jm 20 5), (jq 21 20 0), (jm 22 21), (jy 22 (jf 23 9 2)), (jy 22 (jl 24 23)), (jy 22 (jt 25 24)), (jy 22 (jq 26 25 1)), (jA 27 22 26), (jm 28 27),
 (jy 28 (jf 29 8 2)), (jy 28 (jl 30 29)), (jy 28 (jt 31 30)), (jy 28 (jq 32 31 1)), (jA 33 28 32), (jm 34 33), (jy 34 (jf 35 8 2)), (jy 34 (jl 36 35)), (jy 34 (jo 37 (.ixs 11 (.tmp 36) (.const (.int .i64 0))))),
 (jy 34 (jf 38 10 37)), (jy 34 (jl 39 38)), (jA 40 34 39), (jm 0 40)])
 .ret)))),
 [.tmp 0]⟩
theorem low_top_awake21 : lowFn Tryz.prog movers 4 = some ⟨ir_top_awake21.n, strip ir_top_awake21.body, ir_top_awake21.res⟩ := by kernel_rfl
def ir_top_repeat : IFn := ⟨61,
 (.seq (.region [(jb 5 31 0), (jo 10 (.new 46 (.agg #[.int .i64 0, .int .i64 0, .int .i64 0, .int .i64 0, .int .i64 0, .int .i64 0, .int .i64 0, .int .i64 0, .int .i64 0, .int .i64 0, .int .i64 0, .int .i64 0, .bool false, .slice none 0 0, .slice none 0 0, .slice none 0 0])))])
 (.seq (.region [(jL 16 13 5), (jm 17 1), (jo 18 (.bld [(.int .i64 0), (.int .i64 0), (.int .i64 0), (.int .i64 0), (.int .i64 0), (.int .i64 0), (.int .i64 0), (.int .i64 0), (.int .i64 0), (.int .i64 0), (.int .i64 0), (.int .i64 0), (.bool false), (.slice none 0 0), (.slice none 0 0), (.slice none 0 0)] [(0, 13, (.tmp 16)), (13, 1, (.tmp 17))])),
 (jo 11 (.new 46 (.agg #[.int .i64 0, .int .i64 0, .int .i64 0, .int .i64 0, .int .i64 0, .int .i64 0, .int .i64 0, .int .i64 0, .int .i64 0, .int .i64 0, .int .i64 0, .int .i64 0, .bool false, .slice none 0 0, .slice none 0 0, .slice none 0 0]))),
 (jS 16 11 18)])
 (.seq (.seq (.region [(jk 12 0)])
 (.block 0
 (.loop 4398046015488
 (.seq (.seq (.region [(jm 19 12), (jm 20 2), (jt 21 20), (jw 22 19 21)])
 (.cond (.tmp 22)
 .skip
 (.exit 0)))
 (.seq (.block 1
 (.seq (.region [(jo 13 (.mov (.const (.slice none 0 0))))])
 (.seq (.seq (.region [(jk 14 0)])
 (.block 2
 (.loop 68685946880
 (.seq (.seq (.region [(jm 25 14), (jm 26 3), (jw 27 25 26)])
 (.cond (.tmp 27)
 .skip
 (.exit 2)))
 (.seq (.block 3
 (.region [(jm 30 13), (jm 31 2), (jm 32 12), (jx 33 1 31 32), (jl 34 33), (jo 35 (.app 26 5 40 [(.int .i64 0), (.int .i64 0), (.int .i64 0), (.int .i64 0), (.int .i64 0)] (.tmp 30) (.tmp 34))),
 (jm 13 35)]))
 (.region [(jm 28 14), (ja 29 28 1), (jm 14 29)]))))))
 (.region [(jf 36 14 11), (jl 37 36), (jm 38 13), (jo 39 (.blds 27 1 [(.slice none 0 0)] [(0, 1, (.tmp 38))])), (jo 40 (.app 27 1 24 [(.slice none 0 0)] (.tmp 37) (.tmp 39))),
 (jf 41 14 11), (js 41 40)]))))
 (.region [(jm 23 12), (ja 24 23 1), (jm 12 24)]))))))
 (.seq (.seq (.region [(jk 15 0)])
 (.block 4
 (.loop 1152917106560368640
 (.seq (.seq (.region [(jm 42 15), (jm 43 4), (jt 44 43), (jw 45 42 44)])
 (.cond (.tmp 45)
 .skip
 (.exit 4)))
 (.seq (.block 5
 (.draw (.f (jf 48 15 11)
 (.f (jl 49 48)
 (.f (jm 50 4)
 (.f (jm 51 15)
 (.f (jx 52 1 50 51)
 (.f (jl 53 52)
 (.f (jm 54 2)
 (.f (jt 55 54)
 (.f (jC 56 5 53 55)
 (.m (jo 57 (.blds 3 1 [(.int .i64 0)] [(0, 1, (.tmp 56))]))
 (.m (jo 58 (.app 3 1 8 [(.int .i64 0)] (.tmp 49) (.tmp 57)))
 (.f (jf 59 15 11)
 (.m (js 59 58)
 .done)))))))))))))))
 (.region [(jm 46 15), (ja 47 46 1), (jm 15 47)]))))))
 (.seq (.region [(jL 60 16 11), (jS 16 10 60)])
 .ret))))),
 [.cellN 10 16]⟩
theorem low_top_repeat : lowFn Tryz.prog movers 7 = some ⟨ir_top_repeat.n, strip ir_top_repeat.body, ir_top_repeat.res⟩ := by kernel_rfl
end Go.Proofs.YtllddgdmmfmpkaaGreatDoor
