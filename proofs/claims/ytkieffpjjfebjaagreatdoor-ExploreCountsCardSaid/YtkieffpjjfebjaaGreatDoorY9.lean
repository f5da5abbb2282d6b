/- What the laws share, part 9. No condition. -/
import Derived.Test.YtkieffpjjfebjaaGreatDoorY8
namespace Go.Proofs.YtkieffpjjfebjaaGreatDoor
open Go
set_option maxRecDepth 100000
def irc_sgl_Global_begin : IFn := ⟨101,
 (.seq (.region [(jb 3 79 1), (jo 4 (.mov (.const (.bool false))))])
 (.seq (.draw (.f (jm 8 0)
 (.f (jn 9 8)
 (.f (jf 10 16 9)
 (.f (jl 11 10)
 (.f (jf 12 0 3)
 (.f (jl 13 12)
 (.f (jx 14 11 11 13)
 (.f (jm 5 14)
 .done)))))))))
 (.seq (.region [(jm 15 5), (jn 16 15), (jf 17 0 16), (jl 18 17), (jm 6 18)])
 (.cut (.seq (.region [(jf 19 1 3), (jl 20 19)])
 (.block 0
 (.seq (.region [(jq 22 20 0), (jm 21 22)])
 (.cond (.tmp 21)
 (.cut (.draw (.f (jm 23 0)
 (.f (jn 24 23)
 (.f (jf 25 0 24)
 (.f (jL 26 2 25)
 (.f (jm 28 0)
 (.f (jn 29 28)
 (.f (jf 30 2 29)
 (.f (jm 32 5)
 (.f (jn 33 32)
 (.f (jf 35 2 3)
 (.both (.m (jc 27 62 26)
 (.f (jL 31 13 30)
 (.f (jL 34 11 33)
 (.f (jl 36 35)
 (.f (jo 37 (.bld [(.slice none 0 0), (.map none), (.int .i64 0), (.int .i64 0), (.int .i64 0), (.int .i64 0), (.int .i64 0), (.int .i64 0), (.int .i64 0), (.int .i64 0), (.int .i64 0), (.int .i64 0), (.int .i64 0), (.int .i64 0), (.bool false), (.int .i64 0), (.int .u64 0), (.int .u64 0), (.int .u64 0), (.int .u64 0), (.int .u64 0), (.int .u64 0), (.int .u64 0), (.int .u64 0), (.int .i64 0), (.bool false), (.slice none 0 0), (.slice none 0 0), (.slice none 0 0), (.slice none 0 0), (.int .i64 0)] [(0, 2, (.tmp 27)), (2, 13, (.tmp 31)), (15, 11, (.tmp 34)), (26, 1, (.tmp 36))]))
 (.m (jb 38 158 37)
 (.f (jm 7 38)
 .done)))))))
 (.both (.f (jL 31 13 30)
 (.both (.m (jc 27 62 26)
 (.f (jL 34 11 33)
 (.f (jl 36 35)
 (.f (jo 37 (.bld [(.slice none 0 0), (.map none), (.int .i64 0), (.int .i64 0), (.int .i64 0), (.int .i64 0), (.int .i64 0), (.int .i64 0), (.int .i64 0), (.int .i64 0), (.int .i64 0), (.int .i64 0), (.int .i64 0), (.int .i64 0), (.bool false), (.int .i64 0), (.int .u64 0), (.int .u64 0), (.int .u64 0), (.int .u64 0), (.int .u64 0), (.int .u64 0), (.int .u64 0), (.int .u64 0), (.int .i64 0), (.bool false), (.slice none 0 0), (.slice none 0 0), (.slice none 0 0), (.slice none 0 0), (.int .i64 0)] [(0, 2, (.tmp 27)), (2, 13, (.tmp 31)), (15, 11, (.tmp 34)), (26, 1, (.tmp 36))]))
 (.m (jb 38 158 37)
 (.f (jm 7 38)
 .done))))))
 (.both (.f (jL 34 11 33)
 (.both (.m (jc 27 62 26)
 (.f (jl 36 35)
 (.f (jo 37 (.bld [(.slice none 0 0), (.map none), (.int .i64 0), (.int .i64 0), (.int .i64 0), (.int .i64 0), (.int .i64 0), (.int .i64 0), (.int .i64 0), (.int .i64 0), (.int .i64 0), (.int .i64 0), (.int .i64 0), (.int .i64 0), (.bool false), (.int .i64 0), (.int .u64 0), (.int .u64 0), (.int .u64 0), (.int .u64 0), (.int .u64 0), (.int .u64 0), (.int .u64 0), (.int .u64 0), (.int .i64 0), (.bool false), (.slice none 0 0), (.slice none 0 0), (.slice none 0 0), (.slice none 0 0), (.int .i64 0)] [(0, 2, (.tmp 27)), (2, 13, (.tmp 31)), (15, 11, (.tmp 34)), (26, 1, (.tmp 36))]))
 (.m (jb 38 158 37)
 (.f (jm 7 38)
 .done)))))
 (.f (jl 36 35)
 (.m (jc 27 62 26)
 (.f (jo 37 (.bld [(.slice none 0 0), (.map none), (.int .i64 0), (.int .i64 0), (.int .i64 0), (.int .i64 0), (.int .i64 0), (.int .i64 0), (.int .i64 0), (.int .i64 0), (.int .i64 0), (.int .i64 0), (.int .i64 0), (.int .i64 0), (.bool false), (.int .i64 0), (.int .u64 0), (.int .u64 0), (.int .u64 0), (.int .u64 0), (.int .u64 0), (.int .u64 0), (.int .u64 0), (.int .u64 0), (.int .i64 0), (.bool false), (.slice none 0 0), (.slice none 0 0), (.slice none 0 0), (.slice none 0 0), (.int .i64 0)] [(0, 2, (.tmp 27)), (2, 13, (.tmp 31)), (15, 11, (.tmp 34)), (26, 1, (.tmp 36))]))
 (.m (jb 38 158 37)
 (.f (jm 7 38)
 .done)))))))
 (.f (jl 36 35)
 (.both (.m (jc 27 62 26)
 (.f (jL 34 11 33)
 (.f (jo 37 (.bld [(.slice none 0 0), (.map none), (.int .i64 0), (.int .i64 0), (.int .i64 0), (.int .i64 0), (.int .i64 0), (.int .i64 0), (.int .i64 0), (.int .i64 0), (.int .i64 0), (.int .i64 0), (.int .i64 0), (.int .i64 0), (.bool false), (.int .i64 0), (.int .u64 0), (.int .u64 0), (.int .u64 0), (.int .u64 0), (.int .u64 0), (.int .u64 0), (.int .u64 0), (.int .u64 0), (.int .i64 0), (.bool false), (.slice none 0 0), (.slice none 0 0), (.slice none 0 0), (.slice none 0 0), (.int .i64 0)] [(0, 2, (.tmp 27)), (2, 13, (.tmp 31)), (15, 11, (.tmp 34)), (26, 1, (.tmp 36))]))
 (.m (jb 38 158 37)
 (.f (jm 7 38)
 .done)))))
 (.f (jL 34 11 33)
 (.m (jc 27 62 26)
 (.f (jo 37 (.bld [(.slice none 0 0), (.map none), (.int .i64 0), (.int .i64 0), (.int .i64 0), (.int .i64 0), (.int .i64 0), (.int .i64 0), (.int .i64 0), (.int .i64 0), (.int .i64 0), (.int .i64 0), (.int .i64 0), (.int .i64 0), (.bool false), (.int .i64 0), (.int .u64 0), (.int .u64 0), (.int .u64 0), (.int .u64 0), (.int .u64 0), (.int .u64 0), (.int .u64 0), (.int .u64 0), (.int .i64 0), (.bool false), (.slice none 0 0), (.slice none 0 0), (.slice none 0 0), (.slice none 0 0), (.int .i64 0)] [(0, 2, (.tmp 27)), (2, 13, (.tmp 31)), (15, 11, (.tmp 34)), (26, 1, (.tmp 36))]))
 (.m (jb 38 158 37)
 (.f (jm 7 38)
 .done))))))))))
 (.both (.f (jL 34 11 33)
 (.both (.m (jc 27 62 26)
 (.f (jL 31 13 30)
 (.f (jl 36 35)
 (.f (jo 37 (.bld [(.slice none 0 0), (.map none), (.int .i64 0), (.int .i64 0), (.int .i64 0), (.int .i64 0), (.int .i64 0), (.int .i64 0), (.int .i64 0), (.int .i64 0), (.int .i64 0), (.int .i64 0), (.int .i64 0), (.int .i64 0), (.bool false), (.int .i64 0), (.int .u64 0), (.int .u64 0), (.int .u64 0), (.int .u64 0), (.int .u64 0), (.int .u64 0), (.int .u64 0), (.int .u64 0), (.int .i64 0), (.bool false), (.slice none 0 0), (.slice none 0 0), (.slice none 0 0), (.slice none 0 0), (.int .i64 0)] [(0, 2, (.tmp 27)), (2, 13, (.tmp 31)), (15, 11, (.tmp 34)), (26, 1, (.tmp 36))]))
 (.m (jb 38 158 37)
 (.f (jm 7 38)
 .done))))))
 (.both (.f (jL 31 13 30)
 (.both (.m (jc 27 62 26)
 (.f (jl 36 35)
 (.f (jo 37 (.bld [(.slice none 0 0), (.map none), (.int .i64 0), (.int .i64 0), (.int .i64 0), (.int .i64 0), (.int .i64 0), (.int .i64 0), (.int .i64 0), (.int .i64 0), (.int .i64 0), (.int .i64 0), (.int .i64 0), (.int .i64 0), (.bool false), (.int .i64 0), (.int .u64 0), (.int .u64 0), (.int .u64 0), (.int .u64 0), (.int .u64 0), (.int .u64 0), (.int .u64 0), (.int .u64 0), (.int .i64 0), (.bool false), (.slice none 0 0), (.slice none 0 0), (.slice none 0 0), (.slice none 0 0), (.int .i64 0)] [(0, 2, (.tmp 27)), (2, 13, (.tmp 31)), (15, 11, (.tmp 34)), (26, 1, (.tmp 36))]))
 (.m (jb 38 158 37)
 (.f (jm 7 38)
 .done)))))
 (.f (jl 36 35)
 (.m (jc 27 62 26)
 (.f (jo 37 (.bld [(.slice none 0 0), (.map none), (.int .i64 0), (.int .i64 0), (.int .i64 0), (.int .i64 0), (.int .i64 0), (.int .i64 0), (.int .i64 0), (.int .i64 0), (.int .i64 0), (.int .i64 0), (.int .i64 0), (.int .i64 0), (.bool false), (.int .i64 0), (.int .u64 0), (.int .u64 0), (.int .u64 0), (.int .u64 0), (.int .u64 0), (.int .u64 0), (.int .u64 0), (.int .u64 0), (.int .i64 0), (.bool false), (.slice none 0 0), (.slice none 0 0), (.slice none 0 0), (.slice none 0 0), (.int .i64 0)] [(0, 2, (.tmp 27)), (2, 13, (.tmp 31)), (15, 11, (.tmp 34)), (26, 1, (.tmp 36))]))
 (.m (jb 38 158 37)
 (.f (jm 7 38)
 .done)))))))
 (.f (jl 36 35)
 (.both (.m (jc 27 62 26)
 (.f (jL 31 13 30)
 (.f (jo 37 (.bld [(.slice none 0 0), (.map none), (.int .i64 0), (.int .i64 0), (.int .i64 0), (.int .i64 0), (.int .i64 0), (.int .i64 0), (.int .i64 0), (.int .i64 0), (.int .i64 0), (.int .i64 0), (.int .i64 0), (.int .i64 0), (.bool false), (.int .i64 0), (.int .u64 0), (.int .u64 0), (.int .u64 0), (.int .u64 0), (.int .u64 0), (.int .u64 0), (.int .u64 0), (.int .u64 0), (.int .i64 0), (.bool false), (.slice none 0 0), (.slice none 0 0), (.slice none 0 0), (.slice none 0 0), (.int .i64 0)] [(0, 2, (.tmp 27)), (2, 13, (.tmp 31)), (15, 11, (.tmp 34)), (26, 1, (.tmp 36))]))
 (.m (jb 38 158 37)
 (.f (jm 7 38)
 .done)))))
 (.f (jL 31 13 30)
 (.m (jc 27 62 26)
 (.f (jo 37 (.bld [(.slice none 0 0), (.map none), (.int .i64 0), (.int .i64 0), (.int .i64 0), (.int .i64 0), (.int .i64 0), (.int .i64 0), (.int .i64 0), (.int .i64 0), (.int .i64 0), (.int .i64 0), (.int .i64 0), (.int .i64 0), (.bool false), (.int .i64 0), (.int .u64 0), (.int .u64 0), (.int .u64 0), (.int .u64 0), (.int .u64 0), (.int .u64 0), (.int .u64 0), (.int .u64 0), (.int .i64 0), (.bool false), (.slice none 0 0), (.slice none 0 0), (.slice none 0 0), (.slice none 0 0), (.int .i64 0)] [(0, 2, (.tmp 27)), (2, 13, (.tmp 31)), (15, 11, (.tmp 34)), (26, 1, (.tmp 36))]))
 (.m (jb 38 158 37)
 (.f (jm 7 38)
 .done))))))))))
 (.f (jl 36 35)
 (.both (.m (jc 27 62 26)
 (.f (jL 31 13 30)
 (.f (jL 34 11 33)
 (.f (jo 37 (.bld [(.slice none 0 0), (.map none), (.int .i64 0), (.int .i64 0), (.int .i64 0), (.int .i64 0), (.int .i64 0), (.int .i64 0), (.int .i64 0), (.int .i64 0), (.int .i64 0), (.int .i64 0), (.int .i64 0), (.int .i64 0), (.bool false), (.int .i64 0), (.int .u64 0), (.int .u64 0), (.int .u64 0), (.int .u64 0), (.int .u64 0), (.int .u64 0), (.int .u64 0), (.int .u64 0), (.int .i64 0), (.bool false), (.slice none 0 0), (.slice none 0 0), (.slice none 0 0), (.slice none 0 0), (.int .i64 0)] [(0, 2, (.tmp 27)), (2, 13, (.tmp 31)), (15, 11, (.tmp 34)), (26, 1, (.tmp 36))]))
 (.m (jb 38 158 37)
 (.f (jm 7 38)
 .done))))))
 (.both (.f (jL 31 13 30)
 (.both (.m (jc 27 62 26)
 (.f (jL 34 11 33)
 (.f (jo 37 (.bld [(.slice none 0 0), (.map none), (.int .i64 0), (.int .i64 0), (.int .i64 0), (.int .i64 0), (.int .i64 0), (.int .i64 0), (.int .i64 0), (.int .i64 0), (.int .i64 0), (.int .i64 0), (.int .i64 0), (.int .i64 0), (.bool false), (.int .i64 0), (.int .u64 0), (.int .u64 0), (.int .u64 0), (.int .u64 0), (.int .u64 0), (.int .u64 0), (.int .u64 0), (.int .u64 0), (.int .i64 0), (.bool false), (.slice none 0 0), (.slice none 0 0), (.slice none 0 0), (.slice none 0 0), (.int .i64 0)] [(0, 2, (.tmp 27)), (2, 13, (.tmp 31)), (15, 11, (.tmp 34)), (26, 1, (.tmp 36))]))
 (.m (jb 38 158 37)
 (.f (jm 7 38)
 .done)))))
 (.f (jL 34 11 33)
 (.m (jc 27 62 26)
 (.f (jo 37 (.bld [(.slice none 0 0), (.map none), (.int .i64 0), (.int .i64 0), (.int .i64 0), (.int .i64 0), (.int .i64 0), (.int .i64 0), (.int .i64 0), (.int .i64 0), (.int .i64 0), (.int .i64 0), (.int .i64 0), (.int .i64 0), (.bool false), (.int .i64 0), (.int .u64 0), (.int .u64 0), (.int .u64 0), (.int .u64 0), (.int .u64 0), (.int .u64 0), (.int .u64 0), (.int .u64 0), (.int .i64 0), (.bool false), (.slice none 0 0), (.slice none 0 0), (.slice none 0 0), (.slice none 0 0), (.int .i64 0)] [(0, 2, (.tmp 27)), (2, 13, (.tmp 31)), (15, 11, (.tmp 34)), (26, 1, (.tmp 36))]))
 (.m (jb 38 158 37)
 (.f (jm 7 38)
 .done)))))))
 (.f (jL 34 11 33)
 (.both (.m (jc 27 62 26)
 (.f (jL 31 13 30)
 (.f (jo 37 (.bld [(.slice none 0 0), (.map none), (.int .i64 0), (.int .i64 0), (.int .i64 0), (.int .i64 0), (.int .i64 0), (.int .i64 0), (.int .i64 0), (.int .i64 0), (.int .i64 0), (.int .i64 0), (.int .i64 0), (.int .i64 0), (.bool false), (.int .i64 0), (.int .u64 0), (.int .u64 0), (.int .u64 0), (.int .u64 0), (.int .u64 0), (.int .u64 0), (.int .u64 0), (.int .u64 0), (.int .i64 0), (.bool false), (.slice none 0 0), (.slice none 0 0), (.slice none 0 0), (.slice none 0 0), (.int .i64 0)] [(0, 2, (.tmp 27)), (2, 13, (.tmp 31)), (15, 11, (.tmp 34)), (26, 1, (.tmp 36))]))
 (.m (jb 38 158 37)
 (.f (jm 7 38)
 .done)))))
 (.f (jL 31 13 30)
 (.m (jc 27 62 26)
 (.f (jo 37 (.bld [(.slice none 0 0), (.map none), (.int .i64 0), (.int .i64 0), (.int .i64 0), (.int .i64 0), (.int .i64 0), (.int .i64 0), (.int .i64 0), (.int .i64 0), (.int .i64 0), (.int .i64 0), (.int .i64 0), (.int .i64 0), (.bool false), (.int .i64 0), (.int .u64 0), (.int .u64 0), (.int .u64 0), (.int .u64 0), (.int .u64 0), (.int .u64 0), (.int .u64 0), (.int .u64 0), (.int .i64 0), (.bool false), (.slice none 0 0), (.slice none 0 0), (.slice none 0 0), (.slice none 0 0), (.int .i64 0)] [(0, 2, (.tmp 27)), (2, 13, (.tmp 31)), (15, 11, (.tmp 34)), (26, 1, (.tmp 36))]))
 (.m (jb 38 158 37)
 (.f (jm 7 38)
 .done))))))))))))))))))))))))
 (.seq (.seq (.draw (.f (jm 39 7)
 (.f (jm 40 0)
 (.f (jn 41 40)
 (.f (jf 42 15 41)
 (.f (jl 43 42)
 (.f (jf 44 0 3)
 (.f (jl 45 44)
 (.f (jx 46 1 43 45)
 (.f (jl 47 46)
 (.m (jC 48 89 39 47)
 (.f (jo 49 (.not (.tmp 48)))
 .done))))))))))))
 (.cond (.tmp 49)
 (.seq (.region [(jo 4 (.mov (.const (.bool false))))])
 .ret)
 .skip))
 (.seq (.region [(jm 50 0), (jf 51 0 3), (jl 52 51), (jm 53 7), (jo 54 (.call 90 [(.tmp 50), (.tmp 52), (.tmp 53)]))])
 (.region [(jm 55 5), (jm 56 7), (jn 57 56), (jf 58 30 57), (jl 59 58), (jn 60 55), (jf 61 9 60), (js 61 59)]))))
 (.seq (.seq (.region [(jq 63 20 3), (jm 62 63)])
 (.cond (.tmp 62)
 .skip
 (.seq (.region [(jq 64 20 4), (jm 62 64)])
 (.cond (.tmp 62)
 .skip
 (.seq (.region [(jq 65 20 5), (jm 62 65)])
 (.cond (.tmp 62)
 .skip
 (.region [(jq 66 20 6), (jm 62 66)])))))))
 (.cond (.tmp 62)
 (.seq (.seq (.region [(jf 67 2 3), (jl 68 67), (jt 69 68), (jo 70 (.bin .gtr (.tmp 69) (.const (.int .i64 0))))])
 (.cond (.tmp 70)
 (.seq (.region [(jo 4 (.mov (.const (.bool false))))])
 .ret)
 .skip))
 (.region [(jm 71 5), (jf 72 1 3), (jl 73 72), (jn 74 71), (jf 75 9 74), (js 75 73)]))
 (.seq (.region [(jo 4 (.mov (.const (.bool false))))])
 .ret)))))))
 (.seq (.draw (.f (jm 76 0)
 (.f (jf 77 0 3)
 (.f (jl 78 77)
 (.f (jm 79 6)
 (.f (jm 80 5)
 (.f (jn 81 80)
 (.f (jf 82 9 81)
 (.f (jl 83 82)
 (.f (jo 84 (.conv .u64 (.tmp 83)))
 (.m (jo 85 (.call 91 [(.tmp 76), (.tmp 78), (.tmp 79), (.const (.int .i64 3)), (.tmp 84)]))
 .done)))))))))))
 (.seq (.draw (.f (jm 86 0)
 (.f (jf 87 0 3)
 (.f (jl 88 87)
 (.f (jm 89 0)
 (.f (jn 90 89)
 (.f (jf 91 15 90)
 (.f (jf 93 0 3)
 (.f (jm 97 6)
 (.both (.f (jl 92 91)
 (.f (jl 94 93)
 (.f (jx 95 1 92 94)
 (.f (jl 96 95)
 (.f (jC 98 93 96 97)
 (.f (ja 99 98 1)
 (.m (jo 100 (.call 92 [(.tmp 86), (.tmp 88), (.tmp 99)]))
 .done)))))))
 (.f (jl 94 93)
 (.f (jl 92 91)
 (.f (jx 95 1 92 94)
 (.f (jl 96 95)
 (.f (jC 98 93 96 97)
 (.f (ja 99 98 1)
 (.m (jo 100 (.call 92 [(.tmp 86), (.tmp 88), (.tmp 99)]))
 .done)))))))))))))))))
 (.seq (.region [(jo 4 (.mov (.const (.bool true))))])
 .ret))))))),
 [.tmp 4]⟩
theorem lowc_sgl_Global_begin : lowFn Tryz.prog movers 65 = some ⟨irc_sgl_Global_begin.n, strip irc_sgl_Global_begin.body, irc_sgl_Global_begin.res⟩ := by kernel_rfl
end Go.Proofs.YtkieffpjjfebjaaGreatDoor
namespace Go.Proofs.YtkieffpjjfebjaaGreatDoor
open Go
set_option maxRecDepth 100000
def irc_sgl_Global_Result : IFn := ⟨65,
 (.seq (.region [(jo 2 (.new 52 (.agg #[.slice none 0 0, .slice none 0 0, .slice none 0 0, .slice none 0 0])))])
 (.seq (.seq (.region [(jm 8 0), (jo 9 (.nilq false 1 (.tmp 8) (.const (.pointer none))))])
 (.cond (.tmp 9)
 (.seq (.region [(jo 10 (.bld [(.slice none 0 0), (.slice none 0 0), (.slice none 0 0), (.slice none 0 0)] [])), (jS 4 2 10)])
 .ret)
 .skip))
 (.cut (.draw (.f (jm 11 0)
 (.f (jn 12 11)
 (.f (jf 13 0 12)
 (.f (jf 14 0 13)
 (.f (jl 15 14)
 (.f (jm 17 0)
 (.f (jn 18 17)
 (.f (jf 19 16 18)
 (.both (.m (jc 16 58 15)
 (.f (jl 20 19)
 (.both (.m (jc 21 59 20)
 (.f (jo 22 (.bld [(.slice none 0 0), (.slice none 0 0), (.slice none 0 0), (.slice none 0 0)] [(0, 1, (.tmp 16)), (1, 1, (.tmp 21))]))
 (.m (jo 3 (.new 52 (.agg #[.slice none 0 0, .slice none 0 0, .slice none 0 0, .slice none 0 0])))
 (.m (jS 4 3 22)
 .done))))
 (.m (jo 3 (.new 52 (.agg #[.slice none 0 0, .slice none 0 0, .slice none 0 0, .slice none 0 0])))
 (.m (jc 21 59 20)
 (.f (jo 22 (.bld [(.slice none 0 0), (.slice none 0 0), (.slice none 0 0), (.slice none 0 0)] [(0, 1, (.tmp 16)), (1, 1, (.tmp 21))]))
 (.m (jS 4 3 22)
 .done)))))))
 (.both (.f (jl 20 19)
 (.both (.m (jc 16 58 15)
 (.both (.m (jc 21 59 20)
 (.f (jo 22 (.bld [(.slice none 0 0), (.slice none 0 0), (.slice none 0 0), (.slice none 0 0)] [(0, 1, (.tmp 16)), (1, 1, (.tmp 21))]))
 (.m (jo 3 (.new 52 (.agg #[.slice none 0 0, .slice none 0 0, .slice none 0 0, .slice none 0 0])))
 (.m (jS 4 3 22)
 .done))))
 (.m (jo 3 (.new 52 (.agg #[.slice none 0 0, .slice none 0 0, .slice none 0 0, .slice none 0 0])))
 (.m (jc 21 59 20)
 (.f (jo 22 (.bld [(.slice none 0 0), (.slice none 0 0), (.slice none 0 0), (.slice none 0 0)] [(0, 1, (.tmp 16)), (1, 1, (.tmp 21))]))
 (.m (jS 4 3 22)
 .done))))))
 (.m (jo 3 (.new 52 (.agg #[.slice none 0 0, .slice none 0 0, .slice none 0 0, .slice none 0 0])))
 (.m (jc 16 58 15)
 (.m (jc 21 59 20)
 (.f (jo 22 (.bld [(.slice none 0 0), (.slice none 0 0), (.slice none 0 0), (.slice none 0 0)] [(0, 1, (.tmp 16)), (1, 1, (.tmp 21))]))
 (.m (jS 4 3 22)
 .done)))))))
 (.m (jo 3 (.new 52 (.agg #[.slice none 0 0, .slice none 0 0, .slice none 0 0, .slice none 0 0])))
 (.both (.m (jc 16 58 15)
 (.f (jl 20 19)
 (.m (jc 21 59 20)
 (.f (jo 22 (.bld [(.slice none 0 0), (.slice none 0 0), (.slice none 0 0), (.slice none 0 0)] [(0, 1, (.tmp 16)), (1, 1, (.tmp 21))]))
 (.m (jS 4 3 22)
 .done)))))
 (.f (jl 20 19)
 (.m (jc 16 58 15)
 (.m (jc 21 59 20)
 (.f (jo 22 (.bld [(.slice none 0 0), (.slice none 0 0), (.slice none 0 0), (.slice none 0 0)] [(0, 1, (.tmp 16)), (1, 1, (.tmp 21))]))
 (.m (jS 4 3 22)
 .done))))))))))))))))))
 (.seq (.seq (.region [(jm 23 0), (jn 24 23), (jf 25 17 24), (jl 26 25), (jt 27 26), (jk 28 0)])
 (.block 0
 (.loop 140737219919904
 (.seq (.region [(jw 29 28 27)])
 (.seq (.cond (.tmp 29)
 .skip
 (.exit 0))
 (.seq (.block 1
 (.seq (.region [(jx 30 6 26 28), (jL 31 6 30), (jo 5 (.new 116 (.agg #[.int .i64 0, .int .i64 0, .int .i64 0, .int .i64 0, .slice none 0 0, .slice none 0 0]))),
 (jS 6 5 31)])
 (.seq (.draw (.f (jf 32 4 5)
 (.f (jl 33 32)
 (.f (jf 35 5 5)
 (.both (.m (jc 34 60 33)
 (.f (jl 36 35)
 (.f (jf 38 4 5)
 (.m (jc 37 60 36)
 (.m (js 38 34)
 (.f (jf 39 5 5)
 (.m (js 39 37)
 .done)))))))
 (.f (jl 36 35)
 (.m (jc 34 60 33)
 (.f (jf 38 4 5)
 (.m (jc 37 60 36)
 (.m (js 38 34)
 (.f (jf 39 5 5)
 (.m (js 39 37)
 .done))))))))))))
 (.region [(jf 40 2 3), (jl 41 40), (jL 42 6 5), (jo 43 (.blds 116 1 [(.int .i64 0), (.int .i64 0), (.int .i64 0), (.int .i64 0), (.slice none 0 0), (.slice none 0 0)] [(0, 6, (.tmp 42))])),
 (jo 44 (.app 116 6 80 [(.int .i64 0), (.int .i64 0), (.int .i64 0), (.int .i64 0), (.slice none 0 0), (.slice none 0 0)] (.tmp 41) (.tmp 43))), (jf 45 2 3), (js 45 44)]))))
 (.region [(ja 46 28 1), (jm 28 46)])))))))
 (.seq (.seq (.region [(jm 47 0), (jn 48 47), (jf 49 18 48), (jl 50 49), (jt 51 50), (jk 52 0)])
 (.block 2
 (.loop 18442240474082181248
 (.seq (.region [(jw 53 52 51)])
 (.seq (.cond (.tmp 53)
 .skip
 (.exit 2))
 (.seq (.block 3
 (.seq (.region [(jx 54 1 50 52), (jl 55 54), (jm 7 55)])
 (.draw (.f (jf 56 3 3)
 (.f (jm 58 7)
 (.both (.f (jl 57 56)
 (.m (jc 59 61 58)
 (.m (jo 60 (.blds 124 1 [(.slice none 0 0)] [(0, 1, (.tmp 59))]))
 (.m (jo 61 (.app 124 1 24 [(.slice none 0 0)] (.tmp 57) (.tmp 60)))
 (.f (jf 62 3 3)
 (.m (js 62 61)
 .done))))))
 (.m (jc 59 61 58)
 (.f (jl 57 56)
 (.m (jo 60 (.blds 124 1 [(.slice none 0 0)] [(0, 1, (.tmp 59))]))
 (.m (jo 61 (.app 124 1 24 [(.slice none 0 0)] (.tmp 57) (.tmp 60)))
 (.f (jf 62 3 3)
 (.m (js 62 61)
 .done))))))))))))
 (.region [(ja 63 52 1), (jm 52 63)])))))))
 (.seq (.region [(jL 64 4 3), (jS 4 2 64)])
 .ret)))))),
 [.cellN 2 4]⟩
theorem lowc_sgl_Global_Result : lowFn Tryz.prog movers 28 = some ⟨irc_sgl_Global_Result.n, strip irc_sgl_Global_Result.body, irc_sgl_Global_Result.res⟩ := by kernel_rfl
end Go.Proofs.YtkieffpjjfebjaaGreatDoor
namespace Go.Proofs.YtkieffpjjfebjaaGreatDoor
open Go
set_option maxRecDepth 100000
def irc_sgl_New : IFn := ⟨71,
 (.seq (.region [(jb 1 32 0), (jo 2 (.mov (.const (.pointer none)))), (jk 3 0), (jk 4 0), (jk 5 0)])
 (.seq (.region [(jf 8 15 1),
 ⟨none, .st (.tmp 8) (.const (.slice none 0 0)), none⟩])
 (.seq (.seq (.region [(jL 10 16 1), (jc 11 67 10), (jm 9 11), (je 12 9 0), (je 13 9 1), (je 14 9 2), (jm 3 12), (jm 4 13), (jm 5 14)])
 (.seq (.region [(jm 15 5), (jo 16 (.bin .neq (.tmp 15) (.const (.int .i64 0))))])
 (.cond (.tmp 16)
 (.seq (.region [(jm 17 3), (jm 18 4), (jm 19 5), (jo 2 (.mov (.const (.pointer none)))), (jm 3 17), (jm 4 18), (jm 5 19)])
 .ret)
 .skip)))
 (.cut (.draw (.f (jf 20 13 1)
 (.f (jl 21 20)
 (.f (jf 25 0 1)
 (.both (.m (jc 22 58 21)
 (.f (jL 26 13 25)
 (.m (jo 23 (.mkm))
 (.f (jo 24 (.bld [(.slice none 0 0), (.map none)] [(0, 1, (.tmp 22)), (1, 1, (.tmp 23))]))
 (.f (jo 27 (.bld [(.slice none 0 0), (.map none), (.int .i64 0), (.int .i64 0), (.int .i64 0), (.int .i64 0), (.int .i64 0), (.int .i64 0), (.int .i64 0), (.int .i64 0), (.int .i64 0), (.int .i64 0), (.int .i64 0), (.int .i64 0), (.bool false), (.slice none 0 0), (.slice none 0 0), (.slice none 0 0), (.slice none 0 0), (.int .i64 0)] [(0, 2, (.tmp 24)), (2, 13, (.tmp 26))]))
 (.m (jb 28 122 27)
 (.f (jm 2 28)
 .done)))))))
 (.both (.m (jo 23 (.mkm))
 (.both (.m (jc 22 58 21)
 (.f (jo 24 (.bld [(.slice none 0 0), (.map none)] [(0, 1, (.tmp 22)), (1, 1, (.tmp 23))]))
 (.f (jL 26 13 25)
 (.f (jo 27 (.bld [(.slice none 0 0), (.map none), (.int .i64 0), (.int .i64 0), (.int .i64 0), (.int .i64 0), (.int .i64 0), (.int .i64 0), (.int .i64 0), (.int .i64 0), (.int .i64 0), (.int .i64 0), (.int .i64 0), (.int .i64 0), (.bool false), (.slice none 0 0), (.slice none 0 0), (.slice none 0 0), (.slice none 0 0), (.int .i64 0)] [(0, 2, (.tmp 24)), (2, 13, (.tmp 26))]))
 (.m (jb 28 122 27)
 (.f (jm 2 28)
 .done))))))
 (.f (jL 26 13 25)
 (.m (jc 22 58 21)
 (.f (jo 24 (.bld [(.slice none 0 0), (.map none)] [(0, 1, (.tmp 22)), (1, 1, (.tmp 23))]))
 (.f (jo 27 (.bld [(.slice none 0 0), (.map none), (.int .i64 0), (.int .i64 0), (.int .i64 0), (.int .i64 0), (.int .i64 0), (.int .i64 0), (.int .i64 0), (.int .i64 0), (.int .i64 0), (.int .i64 0), (.int .i64 0), (.int .i64 0), (.bool false), (.slice none 0 0), (.slice none 0 0), (.slice none 0 0), (.slice none 0 0), (.int .i64 0)] [(0, 2, (.tmp 24)), (2, 13, (.tmp 26))]))
 (.m (jb 28 122 27)
 (.f (jm 2 28)
 .done))))))))
 (.f (jL 26 13 25)
 (.both (.m (jc 22 58 21)
 (.m (jo 23 (.mkm))
 (.f (jo 24 (.bld [(.slice none 0 0), (.map none)] [(0, 1, (.tmp 22)), (1, 1, (.tmp 23))]))
 (.f (jo 27 (.bld [(.slice none 0 0), (.map none), (.int .i64 0), (.int .i64 0), (.int .i64 0), (.int .i64 0), (.int .i64 0), (.int .i64 0), (.int .i64 0), (.int .i64 0), (.int .i64 0), (.int .i64 0), (.int .i64 0), (.int .i64 0), (.bool false), (.slice none 0 0), (.slice none 0 0), (.slice none 0 0), (.slice none 0 0), (.int .i64 0)] [(0, 2, (.tmp 24)), (2, 13, (.tmp 26))]))
 (.m (jb 28 122 27)
 (.f (jm 2 28)
 .done))))))
 (.m (jo 23 (.mkm))
 (.m (jc 22 58 21)
 (.f (jo 24 (.bld [(.slice none 0 0), (.map none)] [(0, 1, (.tmp 22)), (1, 1, (.tmp 23))]))
 (.f (jo 27 (.bld [(.slice none 0 0), (.map none), (.int .i64 0), (.int .i64 0), (.int .i64 0), (.int .i64 0), (.int .i64 0), (.int .i64 0), (.int .i64 0), (.int .i64 0), (.int .i64 0), (.int .i64 0), (.int .i64 0), (.int .i64 0), (.bool false), (.slice none 0 0), (.slice none 0 0), (.slice none 0 0), (.slice none 0 0), (.int .i64 0)] [(0, 2, (.tmp 24)), (2, 13, (.tmp 26))]))
 (.m (jb 28 122 27)
 (.f (jm 2 28)
 .done))))))))))))))
 (.seq (.seq (.region [(jf 29 14 1), (jl 30 29), (jt 31 30), (jk 32 0)])
 (.block 0
 (.loop 2305843004918726784
 (.seq (.region [(jw 33 32 31)])
 (.seq (.cond (.tmp 33)
 .skip
 (.exit 0))
 (.seq (.block 1
 (.seq (.region [(jx 34 1 30 32), (jl 35 34), (jm 7 35)])
 (.seq (.draw (.f (jm 36 2)
 (.f (jm 37 2)
 (.f (jn 38 37)
 (.f (jf 39 15 38)
 (.f (jm 41 7)
 (.both (.f (jl 40 39)
 (.m (jc 42 68 41)
 (.m (jo 43 (.blds 66 1 [(.slice none 0 0)] [(0, 1, (.tmp 42))]))
 (.m (jo 44 (.app 66 1 24 [(.slice none 0 0)] (.tmp 40) (.tmp 43)))
 (.f (jn 45 36)
 (.f (jf 46 15 45)
 (.m (js 46 44)
 .done)))))))
 (.m (jc 42 68 41)
 (.f (jl 40 39)
 (.m (jo 43 (.blds 66 1 [(.slice none 0 0)] [(0, 1, (.tmp 42))]))
 (.m (jo 44 (.app 66 1 24 [(.slice none 0 0)] (.tmp 40) (.tmp 43)))
 (.f (jn 45 36)
 (.f (jf 46 15 45)
 (.m (js 46 44)
 .done))))))))))))))
 (.region [(jm 47 2), (jm 48 2), (jn 49 48), (jf 50 16 49), (jl 51 50), (jm 52 7), (jt 53 52), (jq 54 53 0), (jo 55 (.bld [(.int .i64 0), (.int .u64 0), (.int .u64 0), (.int .u64 0), (.int .u64 0), (.int .u64 0), (.int .u64 0), (.int .u64 0), (.int .u64 0), (.int .i64 0), (.bool false)] [(10, 1, (.tmp 54))])),
 (jo 56 (.blds 61 1 [(.int .i64 0), (.int .u64 0), (.int .u64 0), (.int .u64 0), (.int .u64 0), (.int .u64 0), (.int .u64 0), (.int .u64 0), (.int .u64 0), (.int .i64 0), (.bool false)] [(0, 11, (.tmp 55))])),
 (jo 57 (.app 61 11 88 [(.int .i64 0), (.int .u64 0), (.int .u64 0), (.int .u64 0), (.int .u64 0), (.int .u64 0), (.int .u64 0), (.int .u64 0), (.int .u64 0), (.int .i64 0), (.bool false)] (.tmp 51) (.tmp 56))),
 (jn 58 47), (jf 59 16 58), (js 59 57)]))))
 (.region [(ja 60 32 1), (jm 32 60)])))))))
 (.seq (.region [(jm 61 2), (jm 62 2), (jn 63 62), (jf 64 15 63), (jl 65 64), (jt 66 65), (jo 67 (.mk 124 1 24 [(.slice none 0 0)] (.tmp 66) (.tmp 66))), (jn 68 61),
 (jf 69 18 68), (js 69 67)])
 (.seq (.region [(jm 70 2), (jm 2 70), (jk 3 0), (jk 4 0), (jk 5 0)])
 .ret))))))),
 [.tmp 2, .tmp 3, .tmp 4, .tmp 5]⟩
theorem lowc_sgl_New : lowFn Tryz.prog movers 36 = some ⟨irc_sgl_New.n, strip irc_sgl_New.body, irc_sgl_New.res⟩ := by kernel_rfl
end Go.Proofs.YtkieffpjjfebjaaGreatDoor
namespace Go.Proofs.YtkieffpjjfebjaaGreatDoor
open Go
set_option maxRecDepth 100000
def ir_explore_Explore : IFn := ⟨44,
 (.seq (.region [(jb 3 32 0), (jb 4 23 1), (jb 5 3 2), (jo 6 (.new 37 (.agg #[.bool false, .slice none 0 0, .int .i64 0]))), (jk 7 0)])
 (.seq (.seq (.region [(jL 18 16 3), (jl 19 4), (jl 20 5), (jo 21 (.call 25 [(.tmp 18), (.tmp 19), (.tmp 20)])), (jm 8 21)])
 (.seq (.region [(jm 22 8), (jo 23 (.bin .neq (.tmp 22) (.const (.int .i64 0))))])
 (.cond (.tmp 23)
 (.seq (.region [(jo 24 (.bld [(.bool false), (.slice none 0 0), (.int .i64 0)] [])), (jm 25 8), (jS 3 6 24), (jm 7 25)])
 .ret)
 .skip)))
 (.seq (.region [(jo 9 (.new 37 (.agg #[.bool false, .slice none 0 0, .int .i64 0])))])
 (.seq (.region [(jo 10 (.new 4 (.bool false))),
 ⟨none, .st (.tmp 10) (.const (.bool false)), none⟩])
 (.seq (.region [(jf 26 14 3), (jl 27 26), (jt 28 27), (jo 11 (.new 3 (.int .i64 0))), (js 11 28)])
 (.seq (.region [(jo 29 (.mkf 26 [(.tmp 9), (.tmp 5), (.tmp 10), (.tmp 11)])), (jo 12 (.new 80 (.nilFunc))), (js 12 29)])
 (.seq (.region [(jo 13 (.new 80 (.nilFunc)))])
 (.seq (.region [(jo 30 (.mkf 30 [(.tmp 11), (.tmp 13), (.tmp 4), (.tmp 10), (.tmp 9), (.tmp 12)])), (js 13 30)])
 (.seq (.region [(jL 32 16 3), (jc 33 36 32), (jm 31 33), (je 34 31 0), (je 35 31 1), (je 36 31 2), (je 37 31 3), (jm 14 34), (jm 15 35), (jm 16 36), (jm 17 37)])
 (.seq (.region [(jl 38 13), (jm 39 14), (jo 40 (.callv (.tmp 38) [(.tmp 39), (.const (.slice none 0 0))]))])
 (.seq (.seq (.region [(jl 41 10)])
 (.cond (.tmp 41)
 (.seq (.region [(jo 42 (.bld [(.bool false), (.slice none 0 0), (.int .i64 0)] [])), (jS 3 6 42), (jk 7 80)])
 .ret)
 .skip))
 (.seq (.region [(jL 43 3 9), (jS 3 6 43), (jk 7 0)])
 .ret)))))))))))),
 [.cellN 6 3, .tmp 7]⟩
theorem low_explore_Explore : lowFn Tryz.prog movers 13 = some ⟨ir_explore_Explore.n, strip ir_explore_Explore.body, ir_explore_Explore.res⟩ := by kernel_rfl
def ir_explore_check : IFn := ⟨55,
 (.seq (.region [(jb 3 32 0), (jk 6 0)])
 (.seq (.seq (.region [(jL 14 16 3), (jc 15 36 14), (jm 13 15), (je 16 13 0), (je 17 13 1), (je 18 13 2), (je 19 13 3), (jm 7 16), (jm 8 17), (jm 9 18), (jm 10 19)])
 (.seq (.region [(jm 20 10), (jo 21 (.bin .neq (.tmp 20) (.const (.int .i64 0))))])
 (.cond (.tmp 21)
 (.seq (.region [(jm 22 10), (jm 6 22)])
 .ret)
 .skip)))
 (.seq (.seq (.region [(jf 23 0 3), (jf 24 12 23), (jl 25 24), (jm 26 25), (jz 26 (jf 27 14 3)), (jz 26 (jl 28 27)), (jz 26 (jo 29 (.call 53 [(.tmp 28), (.func 54)]))),
 (jO 30 26 29)])
 (.cond (.tmp 30)
 (.seq (.region [(jk 6 1)])
 .ret)
 .skip))
 (.seq (.seq (.region [(jm 31 2), (jo 32 (.bin .lss (.tmp 31) (.const (.int .i64 1)))), (jm 33 32), (jz 33 (jm 34 2)), (jz 33 (jo 35 (.bin .gtr (.tmp 34) (.const (.int .i64 100000))))),
 (jO 36 33 35), (jm 37 36), (jz 37 (jm 38 1)), (jz 37 (jt 39 38)), (jz 37 (jo 40 (.bin .gtr (.tmp 39) (.const (.int .i64 4))))), (jO 41 37 40)])
 (.cond (.tmp 41)
 (.seq (.region [(jk 6 2)])
 .ret)
 .skip))
 (.seq (.seq (.region [(jm 42 1), (jt 43 42), (jk 44 0)])
 (.block 0
 (.loop 36011204832923712
 (.seq (.region [(jw 45 44 43)])
 (.seq (.cond (.tmp 45)
 .skip
 (.exit 0))
 (.seq (.block 1
 (.seq (.region [(jx 46 1 42 44), (jl 47 46), (jm 12 47)])
 (.seq (.region [(jm 48 12), (jo 49 (.bin .lss (.tmp 48) (.const (.int .i64 3)))), (jm 50 49), (jz 50 (jm 51 12)), (jz 50 (jo 52 (.bin .gtr (.tmp 51) (.const (.int .i64 6))))),
 (jO 53 50 52)])
 (.cond (.tmp 53)
 (.seq (.region [(jk 6 2)])
 .ret)
 .skip))))
 (.region [(ja 54 44 1), (jm 44 54)])))))))
 (.seq (.region [(jk 6 0)])
 .ret)))))),
 [.tmp 6]⟩
theorem low_explore_check : lowFn Tryz.prog movers 25 = some ⟨ir_explore_check.n, strip ir_explore_check.body, ir_explore_check.res⟩ := by kernel_rfl
def ir_explore_Explore_1 : IFn := ⟨33,
 (.seq (.seq (.region [(jf 10 2 2), (jl 11 10), (jl 12 3), (jo 13 (.bin .eql (.tmp 11) (.tmp 12)))])
 (.cond (.tmp 13)
 (.seq (.region [
 ⟨none, .st (.tmp 4) (.const (.bool true)), none⟩])
 .ret)
 .skip))
 (.seq (.region [(jf 14 2 2), (jl 15 14), (ja 16 15 1), (jf 17 2 2), (js 17 16)])
 (.seq (.draw (.f (jm 19 0)
 (.both (.m (jc 20 28 19)
 (.f (jo 21 (.fld 2 (.tmp 20)))
 (.f (jl 22 5)
 (.f (jC 23 27 21 22)
 (.f (jm 18 23)
 (.f (je 24 18 0)
 (.f (je 25 18 1)
 (.m (jo 8 (.new 56 (.agg #[.int .i64 0, .int .i64 0, .int .i64 0])))
 (.m (jS 3 8 24)
 (.f (jm 9 25)
 .done))))))))))
 (.both (.f (jl 22 5)
 (.both (.m (jc 20 28 19)
 (.f (jo 21 (.fld 2 (.tmp 20)))
 (.f (jC 23 27 21 22)
 (.f (jm 18 23)
 (.f (je 24 18 0)
 (.f (je 25 18 1)
 (.m (jo 8 (.new 56 (.agg #[.int .i64 0, .int .i64 0, .int .i64 0])))
 (.m (jS 3 8 24)
 (.f (jm 9 25)
 .done)))))))))
 (.m (jo 8 (.new 56 (.agg #[.int .i64 0, .int .i64 0, .int .i64 0])))
 (.m (jc 20 28 19)
 (.f (jo 21 (.fld 2 (.tmp 20)))
 (.f (jC 23 27 21 22)
 (.f (jm 18 23)
 (.f (je 24 18 0)
 (.f (je 25 18 1)
 (.m (jS 3 8 24)
 (.f (jm 9 25)
 .done)))))))))))
 (.m (jo 8 (.new 56 (.agg #[.int .i64 0, .int .i64 0, .int .i64 0])))
 (.both (.m (jc 20 28 19)
 (.f (jo 21 (.fld 2 (.tmp 20)))
 (.f (jl 22 5)
 (.f (jC 23 27 21 22)
 (.f (jm 18 23)
 (.f (je 24 18 0)
 (.f (je 25 18 1)
 (.m (jS 3 8 24)
 (.f (jm 9 25)
 .done)))))))))
 (.f (jl 22 5)
 (.m (jc 20 28 19)
 (.f (jo 21 (.fld 2 (.tmp 20)))
 (.f (jC 23 27 21 22)
 (.f (jm 18 23)
 (.f (je 24 18 0)
 (.f (je 25 18 1)
 (.m (jS 3 8 24)
 (.f (jm 9 25)
 .done)))))))))))))))
 (.seq (.region [(jf 26 1 8), (jl 27 26), (jo 28 (.bin .geq (.tmp 27) (.const (.int .i64 0))))])
 (.cond (.tmp 28)
 (.region [(jm 29 1), (jc 30 29 29), (jf 31 0 2),
 ⟨none, .st (.tmp 31) (.const (.bool true)), none⟩, (jf 32 1 2), (js 32 30)])
 .skip))))),
 []⟩
theorem low_explore_Explore_1 : lowFn Tryz.prog movers 26 = some ⟨ir_explore_Explore_1.n, strip ir_explore_Explore_1.body, ir_explore_Explore_1.res⟩ := by kernel_rfl
def ir_explore_Explore_2 : IFn := ⟨107,
 (.seq (.region [(jo 10 (.mov (.const (.bool true))))])
 (.seq (.seq (.region [(jl 22 2), (jk 23 0)])
 (.block 0
 (.loop 5070602400912917605986808626176
 (.seq (.region [(jw 24 23 22)])
 (.seq (.cond (.tmp 24)
 .skip
 (.exit 0))
 (.seq (.block 1
 (.seq (.region [(jm 25 23), (jm 11 25)])
 (.seq (.seq (.region [(jm 27 0), (jm 28 11), (jC 29 31 27 28), (jm 26 29), (je 30 26 0), (je 31 26 1), (jo 12 (.new 69 (.agg #[.int .i64 0, .int .i64 0, .int .i64 0, .int .i64 0, .int .i64 0]))),
 (jS 5 12 30), (jm 13 31)])
 (.seq (.region [(jm 32 13), (jo 33 (.not (.tmp 32)))])
 (.cond (.tmp 33)
 (.exit 1)
 .skip)))
 (.seq (.region [(jo 10 (.mov (.const (.bool false))))])
 (.seq (.region [(jm 34 0), (jc 35 32 34), (jm 14 35)])
 (.seq (.region [(jm 36 14), (jm 37 11), (jm 38 1), (jo 39 (.call 33 [(.tmp 36), (.tmp 37), (.tmp 38)])), (jm 15 39)])
 (.seq (.region [(jm 41 14), (jm 42 11), (jC 43 31 41 42), (jm 40 43), (je 44 40 0), (je 45 40 1), (jo 16 (.new 69 (.agg #[.int .i64 0, .int .i64 0, .int .i64 0, .int .i64 0, .int .i64 0]))),
 (jS 5 16 44), (jm 17 45)])
 (.seq (.seq (.region [(jm 46 17), (jo 47 (.not (.tmp 46)))])
 (.cond (.tmp 47)
 (.region [(jl 48 3), (jm 49 14), (jm 50 15), (jo 51 (.callv (.tmp 48) [(.tmp 49), (.tmp 50)]))])
 .skip))
 (.seq (.region [(jo 52 (.blds 3 1 [(.int .i64 0)] [(0, 1, (.const (.int .i64 0)))])), (jm 18 52)])
 (.seq (.seq (.region [(jf 53 0 16), (jl 54 53), (jq 55 54 7)])
 (.cond (.tmp 55)
 (.region [(jm 56 18), (jl 57 4), (jo 58 (.app 3 1 8 [(.int .i64 0)] (.tmp 56) (.tmp 57))), (jm 18 58)])
 .skip))
 (.seq (.seq (.region [(jk 19 0)])
 (.block 2
 (.loop 79228162513687876841244196864
 (.seq (.seq (.region [(jm 59 17), (jm 60 59), (jy 60 (jm 61 19)), (jy 60 (jm 62 18)), (jy 60 (jt 63 62)), (jy 60 (jw 64 61 63)), (jA 65 60 64), (jm 66 65), (jy 66 (jl 67 5)),
 (jy 66 (jo 68 (.not (.tmp 67)))), (jA 69 66 68), (jm 70 69), (jy 70 (jf 71 0 6)), (jy 70 (jl 72 71)), (jy 70 (jo 73 (.not (.tmp 72)))), (jA 74 70 73)])
 (.cond (.tmp 74)
 .skip
 (.exit 2)))
 (.seq (.block 3
 (.seq (.draw (.f (jm 77 14)
 (.f (jm 79 11)
 (.f (jm 80 18)
 (.f (jm 81 19)
 (.f (jx 82 1 80 81)
 (.both (.m (jc 78 32 77)
 (.f (jl 83 82)
 (.f (jo 84 (.bld [(.int .i64 0), (.int .i64 0), (.slice none 0 0)] [(0, 1, (.tmp 79)), (1, 1, (.tmp 83))]))
 (.m (jo 21 (.new 79 (.agg #[.int .i64 0, .int .i64 0, .slice none 0 0])))
 (.f (jm 20 78)
 (.m (jS 3 21 84)
 .done))))))
 (.both (.f (jl 83 82)
 (.f (jo 84 (.bld [(.int .i64 0), (.int .i64 0), (.slice none 0 0)] [(0, 1, (.tmp 79)), (1, 1, (.tmp 83))]))
 (.both (.m (jc 78 32 77)
 (.m (jo 21 (.new 79 (.agg #[.int .i64 0, .int .i64 0, .slice none 0 0])))
 (.f (jm 20 78)
 (.m (jS 3 21 84)
 .done))))
 (.m (jo 21 (.new 79 (.agg #[.int .i64 0, .int .i64 0, .slice none 0 0])))
 (.m (jc 78 32 77)
 (.f (jm 20 78)
 (.m (jS 3 21 84)
 .done)))))))
 (.m (jo 21 (.new 79 (.agg #[.int .i64 0, .int .i64 0, .slice none 0 0])))
 (.both (.m (jc 78 32 77)
 (.f (jl 83 82)
 (.f (jo 84 (.bld [(.int .i64 0), (.int .i64 0), (.slice none 0 0)] [(0, 1, (.tmp 79)), (1, 1, (.tmp 83))]))
 (.f (jm 20 78)
 (.m (jS 3 21 84)
 .done)))))
 (.f (jl 83 82)
 (.f (jo 84 (.bld [(.int .i64 0), (.int .i64 0), (.slice none 0 0)] [(0, 1, (.tmp 79)), (1, 1, (.tmp 83))]))
 (.m (jc 78 32 77)
 (.f (jm 20 78)
 (.m (jS 3 21 84)
 .done)))))))))))))))
 (.seq (.region [(jm 85 20), (jL 86 3 21), (jC 87 34 85 86)])
 (.draw (.f (jm 89 20)
 (.f (jm 90 15)
 (.f (jc 91 35 90)
 (.f (jL 92 3 21)
 (.both (.f (jl 88 3)
 (.m (jo 93 (.blds 79 1 [(.int .i64 0), (.int .i64 0), (.slice none 0 0)] [(0, 3, (.tmp 92))]))
 (.m (jo 94 (.app 79 3 40 [(.int .i64 0), (.int .i64 0), (.slice none 0 0)] (.tmp 91) (.tmp 93)))
 (.m (jo 95 (.callv (.tmp 88) [(.tmp 89), (.tmp 94)]))
 .done))))
 (.m (jo 93 (.blds 79 1 [(.int .i64 0), (.int .i64 0), (.slice none 0 0)] [(0, 3, (.tmp 92))]))
 (.both (.f (jl 88 3)
 (.m (jo 94 (.app 79 3 40 [(.int .i64 0), (.int .i64 0), (.slice none 0 0)] (.tmp 91) (.tmp 93)))
 (.m (jo 95 (.callv (.tmp 88) [(.tmp 89), (.tmp 94)]))
 .done)))
 (.m (jo 94 (.app 79 3 40 [(.int .i64 0), (.int .i64 0), (.slice none 0 0)] (.tmp 91) (.tmp 93)))
 (.f (jl 88 3)
 (.m (jo 95 (.callv (.tmp 88) [(.tmp 89), (.tmp 94)]))
 .done))))))))))))))
 (.region [(jm 75 19), (ja 76 75 1), (jm 19 76)]))))))
 (.seq (.region [(jl 96 5), (jm 97 96), (jz 97 (jf 98 0 6)), (jz 97 (jl 99 98)), (jO 100 97 99)])
 (.cond (.tmp 100)
 .ret
 .skip)))))))))))))
 (.region [(ja 101 23 1), (jm 23 101)])))))))
 (.seq (.region [(jm 102 10)])
 (.cond (.tmp 102)
 (.region [(jl 103 7), (jm 104 0), (jm 105 1), (jo 106 (.callv (.tmp 103) [(.tmp 104), (.tmp 105)]))])
 .skip)))),
 []⟩
theorem low_explore_Explore_2 : lowFn Tryz.prog movers 30 = some ⟨ir_explore_Explore_2.n, strip ir_explore_Explore_2.body, ir_explore_Explore_2.res⟩ := by kernel_rfl
def ir_explore_advance : IFn := ⟨41,
 (.seq (.region [(jo 6 (.mov (.const (.slice none 0 0))))])
 (.seq (.region [(jm 11 2), (jc 12 29 11), (jm 7 12)])
 (.seq (.seq (.region [(jm 14 0), (jm 15 1), (jC 16 31 14 15), (jm 13 16), (je 17 13 0), (je 18 13 1), (jo 8 (.new 69 (.agg #[.int .i64 0, .int .i64 0, .int .i64 0, .int .i64 0, .int .i64 0]))),
 (jS 5 8 17), (jm 9 18)])
 (.block 0
 (.loop 1099511105408
 (.seq (.seq (.region [(jm 19 9), (jm 20 19), (jy 20 (jL 21 5 8)), (jy 20 (jc 22 64 21)), (jA 23 20 22)])
 (.cond (.tmp 23)
 .skip
 (.exit 0)))
 (.seq (.block 1
 (.seq (.region [(jm 30 1), (jo 31 (.bld [(.int .i64 0), (.int .i64 0), (.slice none 0 0)] [(0, 1, (.tmp 30))])), (jo 10 (.new 79 (.agg #[.int .i64 0, .int .i64 0, .slice none 0 0]))),
 (jS 3 10 31)])
 (.seq (.region [(jm 32 0), (jL 33 3 10), (jC 34 34 32 33)])
 (.region [(jm 35 7), (jL 36 3 10), (jo 37 (.blds 79 1 [(.int .i64 0), (.int .i64 0), (.slice none 0 0)] [(0, 3, (.tmp 36))])), (jo 38 (.app 79 3 40 [(.int .i64 0), (.int .i64 0), (.slice none 0 0)] (.tmp 35) (.tmp 37))),
 (jm 7 38)]))))
 (.seq (.seq (.region [(jL 39 5 8)])
 (.region [(jo 8 (.new 69 (.agg #[.int .i64 0, .int .i64 0, .int .i64 0, .int .i64 0, .int .i64 0]))), (jS 5 8 39)]))
 (.region [(jm 25 0), (jm 26 1), (jC 27 31 25 26), (jm 24 27), (je 28 24 0), (je 29 24 1), (jS 5 8 28), (jm 9 29)])))))))
 (.seq (.region [(jm 40 7), (jm 6 40)])
 .ret)))),
 [.tmp 6]⟩
theorem low_explore_advance : lowFn Tryz.prog movers 33 = some ⟨ir_explore_advance.n, strip ir_explore_advance.body, ir_explore_advance.res⟩ := by kernel_rfl
def ir_explore_allocates : IFn := ⟨5,
 (.seq (.region [(jo 2 (.mov (.const (.bool false))))])
 (.seq (.region [(jm 3 0), (jo 4 (.call 82 [(.tmp 3), (.func 83)])), (jm 2 4)])
 .ret)),
 [.tmp 2]⟩
theorem low_explore_allocates : lowFn Tryz.prog movers 54 = some ⟨ir_explore_allocates.n, strip ir_explore_allocates.body, ir_explore_allocates.res⟩ := by kernel_rfl
def ir_explore_isLocal : IFn := ⟨14,
 (.seq (.region [(jb 1 69 0), (jo 2 (.mov (.const (.bool false))))])
 (.seq (.seq (.region [(jf 3 0 1), (jl 4 3)])
 (.block 0
 (.seq (.seq (.region [(jq 6 4 0), (jm 5 6)])
 (.cond (.tmp 5)
 .skip
 (.seq (.region [(jq 7 4 1), (jm 5 7)])
 (.cond (.tmp 5)
 .skip
 (.seq (.region [(jq 8 4 2), (jm 5 8)])
 (.cond (.tmp 5)
 .skip
 (.seq (.region [(jq 9 4 3), (jm 5 9)])
 (.cond (.tmp 5)
 .skip
 (.seq (.region [(jq 10 4 4), (jm 5 10)])
 (.cond (.tmp 5)
 .skip
 (.seq (.region [(jq 11 4 5), (jm 5 11)])
 (.cond (.tmp 5)
 .skip
 (.seq (.region [(jq 12 4 6), (jm 5 12)])
 (.cond (.tmp 5)
 .skip
 (.region [(jq 13 4 17), (jm 5 13)])))))))))))))))
 (.cond (.tmp 5)
 (.seq (.region [(jo 2 (.mov (.const (.bool true))))])
 .ret)
 .skip))))
 (.seq (.region [(jo 2 (.mov (.const (.bool false))))])
 .ret))),
 [.tmp 2]⟩
theorem low_explore_isLocal : lowFn Tryz.prog movers 64 = some ⟨ir_explore_isLocal.n, strip ir_explore_isLocal.body, ir_explore_isLocal.res⟩ := by kernel_rfl
def ir_explore_allocates_1 : IFn := ⟨11,
 (.seq (.region [(jb 1 69 0), (jo 2 (.mov (.const (.bool false))))])
 (.seq (.region [(jf 3 0 1), (jl 4 3), (jq 5 4 14), (jm 6 5), (jz 6 (jf 7 0 1)), (jz 6 (jl 8 7)), (jz 6 (jq 9 8 15)), (jO 10 6 9), (jm 2 10)])
 .ret)),
 [.tmp 2]⟩
theorem low_explore_allocates_1 : lowFn Tryz.prog movers 83 = some ⟨ir_explore_allocates_1.n, strip ir_explore_allocates_1.body, ir_explore_allocates_1.res⟩ := by kernel_rfl
end Go.Proofs.YtkieffpjjfebjaaGreatDoor
namespace Go.Proofs.YtkieffpjjfebjaaGreatDoor.Ord
open Go
set_option maxRecDepth 10000
set_option maxHeartbeats 4000000
abbrev encI (n : Int) : List Value := [.int .i64 n]
section
variable {W0 : World} {own : Own} {a : Option Addr} {cap : Nat} {l : List Int}
def ifx (p : Int → Bool) (l : List Int) : Int := match l.findIdx? p with
  | some i => i
  | none => -1
theorem sp_indexf {g : FuncId} {p : Int → Bool} (hg : okF Tryz.prog g = true) (hp : ∀ own x, Pure Tryz.prog W0 g [.int .i64 x] own (.bool (p x))) (hR : RdE encI 1 W0 own a l) (hl : l.length ≤ 9223372036854775807) :
    Pure Tryz.prog W0 162 [.slice a l.length cap, .func (.func g) #[] #[]] own (.int .i64 (ifx p l)) := by
  refine pure_of (spec_of mixed low_slices_IndexFunc_int (by simp [ir_slices_IndexFunc_int]) ?_)
  skip
  refine loop_c (σ := Nat) (fun i => [(8, .int .i64 i)]) (fun i => i ≤ l.length ∧ ∀ j x, j < i → l[j]? = some x → p x = false) (fun i => l.length - i) 0 ⟨by omega, fun j x h => by omega⟩ (by repeat' (first | exact True.intro | refine And.intro ?_ ?_ | exact rfl | exact vi (by omega) | (dsimp only; exact rfl) | (dsimp only; exact vi (by omega)))) rfl ?_
  rintro i junk ⟨hi, hI⟩
  by_cases hlt : i < l.length
  · obtain ⟨x, hx⟩ : ∃ x, l[i]? = some x := ⟨_, List.getElem?_eq_getElem hlt⟩
    have hlt' : (i : Int) < l.length := by omega
    have hpx := hp own x
    cases hb : p x with
    | true =>
      rw [hb] at hpx
      repeat' ((try (conv => whnf)); first | (refine br_te ?_ ?_; exact rfl) | (apply br_pyE; (exact rfl); omega) | (refine ⟨hg, call_p hpx ?_⟩) | ((with_reducible show Ld _ _ _ _); first | (refine ldE0 hR hx rfl ?_)) | ((with_reducible show IxS _ _ _ _ _); first | ((refine ixE hR hx ?_ ?_; (first | rfl | omega)))))
      refine ⟨ret1 (vi ?_), (by first | exact ent_i | (repeat (first | exact Ent.refl | exact Ent.left | refine Ent.cons ?_ | refine Ent.app ?_)))⟩
      have : l.findIdx? p = some i := by
        rw [List.findIdx?_eq_some_iff_getElem]
        have hx2 := (List.getElem?_eq_some_iff.1 hx).2
        refine ⟨hlt, by rw [hx2]; exact hb, fun j hj => ?_⟩
        have := hI j (l[j]'(by omega)) hj (List.getElem?_eq_getElem (by omega))
        simp [this]
      unfold ifx; rw [this]
    | false =>
      rw [hb] at hpx
      repeat' ((try (conv => whnf)); first | (refine br_fe ?_ ?_; exact rfl) | (apply br_pyE; (exact rfl); omega) | (refine ⟨hg, call_p hpx ?_⟩) | ((with_reducible show Ld _ _ _ _); first | (refine ldE0 hR hx rfl ?_)) | ((with_reducible show IxS _ _ _ _ _); first | ((refine ixE hR hx ?_ ?_; (first | rfl | omega)))) | (refine ari ?_ ?_; omega))
      refine ⟨i + 1, ⟨by omega, fun j y hj hy => ?_⟩, by omega, (by repeat' (first | exact True.intro | refine And.intro ?_ ?_ | exact rfl | exact vi (by omega) | (dsimp only; exact rfl) | (dsimp only; exact vi (by omega)))), (by first | exact ent_i | (repeat (first | exact Ent.refl | exact Ent.left | refine Ent.cons ?_ | refine Ent.app ?_)))⟩
      by_cases hji : j = i
      · subst hji
        rw [hx] at hy
        obtain rfl := Option.some.inj hy
        exact hb
      · exact hI j y (by omega) hy
  · have hlt' : ¬ (i : Int) < l.length := by omega
    repeat' ((try (conv => whnf)); first | (apply br_pnE; (exact rfl); omega))
    refine ⟨ret1 (vi ?_), (by first | exact ent_i | (repeat (first | exact Ent.refl | exact Ent.left | refine Ent.cons ?_ | refine Ent.app ?_)))⟩
    have : l.findIdx? p = none := by
      rw [List.findIdx?_eq_none_iff]
      intro x hx
      obtain ⟨j, hj⟩ := List.getElem?_of_mem hx
      have := (List.getElem?_eq_some_iff.1 hj).1
      exact hI j x (by omega) hj
    unfold ifx; rw [this]
theorem ifx_any (p : Int → Bool) (l : List Int) : decide (0 ≤ ifx p l) = l.any p := by
  unfold ifx
  cases h : l.findIdx? p with
  | none =>
    rw [List.findIdx?_eq_none_iff] at h
    have : l.any p = false := by rw [List.any_eq_false]; intro x hx; simp [h x hx]
    rw [this]; rfl
  | some i =>
    rw [List.findIdx?_eq_some_iff_getElem] at h
    obtain ⟨hi, hp, _⟩ := h
    have : l.any p = true := List.any_eq_true.2 ⟨l[i], List.getElem_mem hi, hp⟩
    rw [this]; simp
theorem sp_containsf {g : FuncId} {p : Int → Bool} (hg : okF Tryz.prog g = true) (hp : ∀ own x, Pure Tryz.prog W0 g [.int .i64 x] own (.bool (p x))) (hR : RdE encI 1 W0 own a l) (hl : l.length ≤ 9223372036854775807) :
    Pure Tryz.prog W0 139 [.slice a l.length cap, .func (.func g) #[] #[]] own (.bool (l.any p)) := by
  refine pure_of (spec_of mixed low_slices_ContainsFunc_int (by simp [ir_slices_ContainsFunc_int]) ?_)
  have h := sp_indexf (cap := cap) hg hp hR hl
  repeat' ((try (conv => whnf)); first | ((with_reducible show CallT _ _ _ _ _ _); first | ((refine call_pe (h) ?_ ?_ ?_; (exact rfl); exact rfl))))
  exact ⟨ret1 (vb (ifx_any p l)), (by first | exact ent_i | (repeat (first | exact Ent.refl | exact Ent.left | refine Ent.cons ?_ | refine Ent.app ?_)))⟩
end
structure EvR (W0 : World) (own : Own) (e : EH) : Prop where
  r : RdE encI 1 W0 own e.ra e.rl
  w : RdE encI 1 W0 own e.wa e.wl
  rb : e.rl.length ≤ 17592186043904
  wb : e.wl.length ≤ 17592186043904
theorem EvR.rn {W0 : World} {own : Own} {e : EH} (h : EvR W0 own e) : e.rl.length ≤ 9223372036854775807 := Nat.le_trans h.rb (by decide)
theorem EvR.wn {W0 : World} {own : Own} {e : EH} (h : EvR W0 own e) : e.wl.length ≤ 9223372036854775807 := Nat.le_trans h.wb (by decide)
theorem EvR.up {W0 : World} {own own' : Own} {e : EH} (h : EvR W0 own' e) [m : EntC own own'] : EvR W0 own e := ⟨h.r.up, h.w.up, h.rb, h.wb⟩
end Go.Proofs.YtkieffpjjfebjaaGreatDoor.Ord
namespace Go.Proofs.YtkieffpjjfebjaaGreatDoor.Ord
open Go
set_option maxRecDepth 10000
set_option maxHeartbeats 4000000
theorem drop_at {α : Type} {l : List α} {k : Nat} {x : α} (hx : l[k]? = some x) : l.drop k = x :: l.drop (k + 1) := by
  obtain ⟨hk, he⟩ := List.getElem?_eq_some_iff.1 hx
  rw [List.drop_eq_getElem_cons hk, he]
def paAt (l : List EH) (i : Nat) : Int := if i = 0 then 0 else (at' l (i - 1)).ev
theorem paAt_succ {l : List EH} {i : Nat} {e : EH} (h : l[i]? = some e) : paAt l (i + 1) = e.ev := by
  unfold paAt at'
  rw [if_neg (by omega), Nat.add_sub_cancel, List.getD_eq_getElem?_getD, h]; rfl
theorem fits_rng {n : Nat} {f : Bool} {pa kd : Int} {e : EH} (h : fitsM n f pa kd e = true) : 0 ≤ e.t ∧ e.t < n := by
  unfold fitsM at h
  simp only [Bool.and_eq_true, decide_eq_true_eq] at h
  exact ⟨h.1.1.1.1, h.1.1.1.2.1⟩
theorem fits_out {n : Nat} {f : Bool} {pa kd : Int} {e : EH} (h : ¬(0 ≤ e.t ∧ e.t < n)) : fitsM n f pa kd e = false := by
  cases hb : fitsM n f pa kd e with
  | false => rfl
  | true => exact absurd (fits_rng hb) h
end Go.Proofs.YtkieffpjjfebjaaGreatDoor.Ord
namespace Go.Proofs.YtkieffpjjfebjaaGreatDoor.Ord
open Go
set_option maxRecDepth 10000
set_option maxHeartbeats 4000000
theorem at_get {l : List EH} {i : Nat} {e : EH} (h : l[i]? = some e) : at' l i = e := by
  unfold at'; rw [List.getD_eq_getElem?_getD, h]; rfl
def bgL (l : List EH) (t : Int) : Nat → Int
  | 0 => -1
  | i + 1 => if thr l i = t then i else bgL l t i
theorem bgL_lt (l : List EH) (t : Int) : ∀ i, bgL l t i < i ∧ -1 ≤ bgL l t i
  | 0 => by simp [bgL]
  | i + 1 => by
    have := bgL_lt l t i
    unfold bgL
    split <;> omega
theorem bgL_prev {l : List EH} {p i : Nat} (h : prevT l i p) : ∀ j, p < j → j ≤ i → bgL l (thr l i) j = p
  | 0, h1, _ => by omega
  | j + 1, h1, h2 => by
    unfold bgL
    by_cases hj : j = p
    · subst hj; rw [if_pos h.2.1]
    · rw [if_neg (h.2.2 j (by omega) (by omega))]
      exact bgL_prev h j (by omega) (by omega)
theorem bg_prev {l : List EH} {p i : Nat} (h : prevT l i p) : bgL l (thr l i) i = p := bgL_prev h i h.1 (Nat.le_refl i)
section
variable {W0 : World} {own : Own} {a : Option Addr} {cap : Nat} {l : List EH}
def cntL (l : List EH) : Nat → List Bool
  | 0 => List.replicate l.length false
  | i + 1 => if knd l i = 4 then ((cntL l i).set i (decide (knd l i ≠ 3))).set (bgL l (thr l i) i).toNat true else (cntL l i).set i (decide (knd l i ≠ 3))
theorem cntL_len (l : List EH) : ∀ i, (cntL l i).length = l.length
  | 0 => by simp [cntL]
  | i + 1 => by unfold cntL; split <;> simp [cntL_len l i]
end
end Go.Proofs.YtkieffpjjfebjaaGreatDoor.Ord
namespace Go.Proofs.YtkieffpjjfebjaaGreatDoor.Ord
open Go
set_option maxRecDepth 10000
set_option maxHeartbeats 4000000
def isB (l : List EH) (i : Nat) : Bool := (cntL l l.length).getD i false
def dirB (l : List EH) (i j : Nat) : Bool := decide (i < j) && (isB l i && isB l j && (decide (thr l i = thr l j) || (decide (knd l i = 4) && (decide (knd l j = 4) || decide (knd l j = 3)))))
theorem ldS0 {α : Type} {enc : α → List Value} {sz : Nat} {W0 : World} {own own' : Own} {l : List α} {b j : Nat} {x : α} {v : Value} {K : Value → Prop} (h : RdE enc sz W0 own' (some ⟨b, 0, none⟩) l) (hx : l[j]? = some x) [m : EntC own own'] (hv : (enc x)[0]? = some v) (hk : K v) : Ld W0 own ⟨b, j * sz, none⟩ K := by
  have := ldE0 (own := own) h hx hv hk
  simp only [ab, ao, Nat.zero_add] at this
  exact this
end Go.Proofs.YtkieffpjjfebjaaGreatDoor.Ord
