/- What the laws share, part 1. No condition. -/
import Derived.WalkKit
import Derived.Deep.Quiet
import Derived.OrdersIn
import Derived.TacticsIn
import Derived.RangeFuncCalls
import Derived.Laws.FloatArith
import Derived.Great.BuildSlice
import Derived.Laws.Append
import Derived.Laws.StructEq
import Derived.Laws.MakeOwn
import Derived.ChangeKeysEq
import Derived.Deep.QuietTactic
import Derived.RangeFuncFrom
import Derived.RangeFuncLeaves
import Derived.Test.YtkieffpjjfebjaaGreatDoorRows
import Derived.Lib.SlicesCompact
import Derived.Test.YtkieffpjjfebjaaGreatDoorZ29
set_option maxHeartbeats 4000000
set_option maxRecDepth 100000
namespace Go.Proofs.YtkieffpjjfebjaaGreatDoor
open Go
def q6:IFn:=⟨19,
 (jQ (jR [(jo 2 (.mov (.const (.slice none 0 0))))])
 (jQ (jR [(jo 3 (.mov (.const (.slice none 0 0))))])
 (jQ (.seq (jR [(jk 4 0)])
 (.block 0
 (.loop 262136
 (jQ (.seq (jR [(jm 5 4),(jm 6 0),(jt 7 6),(jw 8 5 7)])
 (.cond 8
 .skip
 (.exit 0)))
 (jQ (.block 1
 (jR [(jm 11 3),(jm 12 0),(jm 13 4),(jx 14 1 12 13),(jl 15 14),(jo 16 (.blds 58 1 [(.int .u64 0)] [(0,1,15)])),(jo 17 (.app 58 1 8 [(.int .u64 0)] 11 16)),
 (jm 3 17)]))
 (jR [(jm 9 4),(ja 10 9 1),(jm 4 10)]))))))
 (jQ (jR [(jm 18 3),(jm 2 18)])
 .ret)))),
 [.tmp 2]⟩
theorem qlO:qn Tryz.prog qd 50=some ⟨q6.n,qi q6.body,q6.res⟩:=by kernel_rfl
def q7:IFn:=⟨19,
 (jQ (jR [(jo 2 (.mov (.const (.slice none 0 0))))])
 (jQ (jR [(jo 3 (.mov (.const (.slice none 0 0))))])
 (jQ (.seq (jR [(jk 4 0)])
 (.block 0
 (.loop 262136
 (jQ (.seq (jR [(jm 5 4),(jm 6 0),(jt 7 6),(jw 8 5 7)])
 (.cond 8
 .skip
 (.exit 0)))
 (jQ (.block 1
 (jR [(jm 11 3),(jm 12 0),(jm 13 4),(jx 14 1 12 13),(jl 15 14),(jo 16 (.blds 3 1 [(.int .i64 0)] [(0,1,15)])),(jo 17 (.app 3 1 8 [(.int .i64 0)] 11 16)),
 (jm 3 17)]))
 (jR [(jm 9 4),(ja 10 9 1),(jm 4 10)]))))))
 (jQ (jR [(jm 18 3),(jm 2 18)])
 .ret)))),
 [.tmp 2]⟩
theorem qlQ:qn Tryz.prog qd 51=some ⟨q7.n,qi q7.body,q7.res⟩:=by kernel_rfl
def q4:IFn:=⟨19,
 (jQ (jR [(jo 2 (.mov (.const (.slice none 0 0))))])
 (jQ (jR [(jo 3 (.mov (.const (.slice none 0 0))))])
 (jQ (.seq (jR [(jk 4 0)])
 (.block 0
 (.loop 262136
 (jQ (.seq (jR [(jm 5 4),(jm 6 0),(jt 7 6),(jw 8 5 7)])
 (.cond 8
 .skip
 (.exit 0)))
 (jQ (.block 1
 (jR [(jm 11 3),(jm 12 0),(jm 13 4),(jx 14 5 12 13),(jL 15 5 14),(jo 16 (.blds 69 1 q88 [(0,5,15)])),
 (jo 17 (.app 69 5 40 q88 11 16)),(jm 3 17)]))
 (jR [(jm 9 4),(ja 10 9 1),(jm 4 10)]))))))
 (jQ (jR [(jm 18 3),(jm 2 18)])
 .ret)))),
 [.tmp 2]⟩
theorem q10:qn Tryz.prog qd 52=some ⟨q4.n,qi q4.body,q4.res⟩:=by kernel_rfl
abbrev qnq:Value:=.agg #[.int .i64 0, .int .i64 0, .int .i64 0, .int .i64 0, .int .i64 0, .int .i64 0, .int .i64 0, .int .i64 0, .int .i64 0, .int .i64 0, .int .i64 0, .int .i64 0, .bool false]
def qb:IFn:=⟨12,
 (jQ (jR [(jo 4 (.new 28 qnq))])
 (jQ (jR [(jm 5 0),(jo 6 (.call 12 [5,(jI 12)])),(jo 7 (.bin .add (jI 1) 6)),(jm 8 1),(jo 9 (.call 12 [8,(jI 12)])),
 (jo 10 (.bin .add (jI 1) 9)),(jo 11 (.bld [(.int .i64 0),(.int .i64 0),(.int .i64 0),(.int .i64 0),(.int .i64 0),(.int .i64 0),(.int .i64 0),(.int .i64 0),(.int .i64 0),(.int .i64 0),(.int .i64 0),(.int .i64 0),(.bool false)] [(0,1,7),(1,1,10),(7,1,(jI 16)),(8,1,(jI 32)),(11,1,(jI 1000))])),
 (jS 13 4 11)])
 .ret)),
 [.cellN 4 13]⟩
theorem qlX:qn Tryz.prog qd 24=some ⟨qb.n,qi qb.body,qb.res⟩:=by kernel_rfl
def q5:IFn:=⟨33,
 (jQ (jR [(jb 1 32 0),(jo 2 (.new 32 eZ4))])
 (.cut (.draw (.f (jf 5 0 1)
 (.f (jf 7 13 1)
 (.f (jl 8 7)
 (.f (jf 10 15 1)
 (.both (.f (jL 6 13 5)
 (.both (.m (jc 9 50 8)
 (.f (jl 11 10)
 (.both (.m (jc 12 51 11)
 (.f (jo 13 (.bld eZ3 [(0,13,6),(13,1,9),(15,1,12)]))
 (.m (jo 3 (.new 32 eZ4))
 (.m (jS 16 3 13)
 .done))))
 (.m (jo 3 (.new 32 eZ4))
 (.m (jc 12 51 11)
 (.f (jo 13 (.bld eZ3 [(0,13,6),(13,1,9),(15,1,12)]))
 (.m (jS 16 3 13)
 .done)))))))
 (.both (.f (jl 11 10)
 (.both (.m (jc 9 50 8)
 (.both (.m (jc 12 51 11)
 (.f (jo 13 (.bld eZ3 [(0,13,6),(13,1,9),(15,1,12)]))
 (.m (jo 3 (.new 32 eZ4))
 (.m (jS 16 3 13)
 .done))))
 (.m (jo 3 (.new 32 eZ4))
 (.m (jc 12 51 11)
 (.f (jo 13 (.bld eZ3 [(0,13,6),(13,1,9),(15,1,12)]))
 (.m (jS 16 3 13)
 .done))))))
 (.m (jo 3 (.new 32 eZ4))
 (.m (jc 9 50 8)
 (.m (jc 12 51 11)
 (.f (jo 13 (.bld eZ3 [(0,13,6),(13,1,9),(15,1,12)]))
 (.m (jS 16 3 13)
 .done)))))))
 (.m (jo 3 (.new 32 eZ4))
 (.both (.m (jc 9 50 8)
 (.f (jl 11 10)
 (.m (jc 12 51 11)
 (.f (jo 13 (.bld eZ3 [(0,13,6),(13,1,9),(15,1,12)]))
 (.m (jS 16 3 13)
 .done)))))
 (.f (jl 11 10)
 (.m (jc 9 50 8)
 (.m (jc 12 51 11)
 (.f (jo 13 (.bld eZ3 [(0,13,6),(13,1,9),(15,1,12)]))
 (.m (jS 16 3 13)
 .done))))))))))
 (.both (.m (jc 9 50 8)
 (.f (jl 11 10)
 (.both (.f (jL 6 13 5)
 (.both (.m (jc 12 51 11)
 (.f (jo 13 (.bld eZ3 [(0,13,6),(13,1,9),(15,1,12)]))
 (.m (jo 3 (.new 32 eZ4))
 (.m (jS 16 3 13)
 .done))))
 (.m (jo 3 (.new 32 eZ4))
 (.m (jc 12 51 11)
 (.f (jo 13 (.bld eZ3 [(0,13,6),(13,1,9),(15,1,12)]))
 (.m (jS 16 3 13)
 .done))))))
 (.both (.m (jc 12 51 11)
 (.f (jL 6 13 5)
 (.f (jo 13 (.bld eZ3 [(0,13,6),(13,1,9),(15,1,12)]))
 (.m (jo 3 (.new 32 eZ4))
 (.m (jS 16 3 13)
 .done)))))
 (.m (jo 3 (.new 32 eZ4))
 (.both (.f (jL 6 13 5)
 (.m (jc 12 51 11)
 (.f (jo 13 (.bld eZ3 [(0,13,6),(13,1,9),(15,1,12)]))
 (.m (jS 16 3 13)
 .done))))
 (.m (jc 12 51 11)
 (.f (jL 6 13 5)
 (.f (jo 13 (.bld eZ3 [(0,13,6),(13,1,9),(15,1,12)]))
 (.m (jS 16 3 13)
 .done))))))))))
 (.both (.f (jl 11 10)
 (.both (.f (jL 6 13 5)
 (.both (.m (jc 9 50 8)
 (.both (.m (jc 12 51 11)
 (.f (jo 13 (.bld eZ3 [(0,13,6),(13,1,9),(15,1,12)]))
 (.m (jo 3 (.new 32 eZ4))
 (.m (jS 16 3 13)
 .done))))
 (.m (jo 3 (.new 32 eZ4))
 (.m (jc 12 51 11)
 (.f (jo 13 (.bld eZ3 [(0,13,6),(13,1,9),(15,1,12)]))
 (.m (jS 16 3 13)
 .done))))))
 (.m (jo 3 (.new 32 eZ4))
 (.m (jc 9 50 8)
 (.m (jc 12 51 11)
 (.f (jo 13 (.bld eZ3 [(0,13,6),(13,1,9),(15,1,12)]))
 (.m (jS 16 3 13)
 .done)))))))
 (.both (.m (jc 9 50 8)
 (.both (.f (jL 6 13 5)
 (.both (.m (jc 12 51 11)
 (.f (jo 13 (.bld eZ3 [(0,13,6),(13,1,9),(15,1,12)]))
 (.m (jo 3 (.new 32 eZ4))
 (.m (jS 16 3 13)
 .done))))
 (.m (jo 3 (.new 32 eZ4))
 (.m (jc 12 51 11)
 (.f (jo 13 (.bld eZ3 [(0,13,6),(13,1,9),(15,1,12)]))
 (.m (jS 16 3 13)
 .done))))))
 (.both (.m (jc 12 51 11)
 (.f (jL 6 13 5)
 (.f (jo 13 (.bld eZ3 [(0,13,6),(13,1,9),(15,1,12)]))
 (.m (jo 3 (.new 32 eZ4))
 (.m (jS 16 3 13)
 .done)))))
 (.m (jo 3 (.new 32 eZ4))
 (.both (.f (jL 6 13 5)
 (.m (jc 12 51 11)
 (.f (jo 13 (.bld eZ3 [(0,13,6),(13,1,9),(15,1,12)]))
 (.m (jS 16 3 13)
 .done))))
 (.m (jc 12 51 11)
 (.f (jL 6 13 5)
 (.f (jo 13 (.bld eZ3 [(0,13,6),(13,1,9),(15,1,12)]))
 (.m (jS 16 3 13)
 .done)))))))))
 (.m (jo 3 (.new 32 eZ4))
 (.both (.f (jL 6 13 5)
 (.m (jc 9 50 8)
 (.m (jc 12 51 11)
 (.f (jo 13 (.bld eZ3 [(0,13,6),(13,1,9),(15,1,12)]))
 (.m (jS 16 3 13)
 .done)))))
 (.m (jc 9 50 8)
 (.both (.f (jL 6 13 5)
 (.m (jc 12 51 11)
 (.f (jo 13 (.bld eZ3 [(0,13,6),(13,1,9),(15,1,12)]))
 (.m (jS 16 3 13)
 .done))))
 (.m (jc 12 51 11)
 (.f (jL 6 13 5)
 (.f (jo 13 (.bld eZ3 [(0,13,6),(13,1,9),(15,1,12)]))
 (.m (jS 16 3 13)
 .done)))))))))))
 (.m (jo 3 (.new 32 eZ4))
 (.both (.f (jL 6 13 5)
 (.both (.m (jc 9 50 8)
 (.f (jl 11 10)
 (.m (jc 12 51 11)
 (.f (jo 13 (.bld eZ3 [(0,13,6),(13,1,9),(15,1,12)]))
 (.m (jS 16 3 13)
 .done)))))
 (.f (jl 11 10)
 (.m (jc 9 50 8)
 (.m (jc 12 51 11)
 (.f (jo 13 (.bld eZ3 [(0,13,6),(13,1,9),(15,1,12)]))
 (.m (jS 16 3 13)
 .done)))))))
 (.both (.m (jc 9 50 8)
 (.f (jl 11 10)
 (.both (.f (jL 6 13 5)
 (.m (jc 12 51 11)
 (.f (jo 13 (.bld eZ3 [(0,13,6),(13,1,9),(15,1,12)]))
 (.m (jS 16 3 13)
 .done))))
 (.m (jc 12 51 11)
 (.f (jL 6 13 5)
 (.f (jo 13 (.bld eZ3 [(0,13,6),(13,1,9),(15,1,12)]))
 (.m (jS 16 3 13)
 .done)))))))
 (.f (jl 11 10)
 (.both (.f (jL 6 13 5)
 (.m (jc 9 50 8)
 (.m (jc 12 51 11)
 (.f (jo 13 (.bld eZ3 [(0,13,6),(13,1,9),(15,1,12)]))
 (.m (jS 16 3 13)
 .done)))))
 (.m (jc 9 50 8)
 (.both (.f (jL 6 13 5)
 (.m (jc 12 51 11)
 (.f (jo 13 (.bld eZ3 [(0,13,6),(13,1,9),(15,1,12)]))
 (.m (jS 16 3 13)
 .done))))
 (.m (jc 12 51 11)
 (.f (jL 6 13 5)
 (.f (jo 13 (.bld eZ3 [(0,13,6),(13,1,9),(15,1,12)]))
 (.m (jS 16 3 13)
 .done)))))))))))))))))))
 (jQ (.seq (jR [(jk 4 0)])
 (.block 0
 (.loop 4294950928
 (jQ (.seq (jR [(jm 14 4),(jf 15 14 1),(jl 16 15),(jt 17 16),(jw 18 14 17)])
 (.cond 18
 .skip
 (.exit 0)))
 (jQ (.block 1
 (.draw (.f (jf 21 14 3)
 (.f (jf 23 14 1)
 (.f (jm 25 4)
 (.both (.f (jl 22 21)
 (.f (jl 24 23)
 (.f (jx 26 1 24 25)
 (.f (jl 27 26)
 (.m (jc 28 52 27)
 (.m (jo 29 (.blds 66 1 [(.slice none 0 0)] [(0,1,28)]))
 (.m (jo 30 (.app 66 1 24 [(.slice none 0 0)] 22 29))
 (.f (jf 31 14 3)
 (.m (js 31 30)
 .done)))))))))
 (.f (jl 24 23)
 (.f (jx 26 1 24 25)
 (.f (jl 27 26)
 (.both (.f (jl 22 21)
 (.m (jc 28 52 27)
 (.m (jo 29 (.blds 66 1 [(.slice none 0 0)] [(0,1,28)]))
 (.m (jo 30 (.app 66 1 24 [(.slice none 0 0)] 22 29))
 (.f (jf 31 14 3)
 (.m (js 31 30)
 .done))))))
 (.m (jc 28 52 27)
 (.f (jl 22 21)
 (.m (jo 29 (.blds 66 1 [(.slice none 0 0)] [(0,1,28)]))
 (.m (jo 30 (.app 66 1 24 [(.slice none 0 0)] 22 29))
 (.f (jf 31 14 3)
 (.m (js 31 30)
 .done))))))))))))))))
 (jR [(jm 19 4),(ja 20 19 1),(jm 4 20)]))))))
 (jQ (jR [(jL 32 16 3),(jS 16 2 32)])
 .ret)))),
 [.cellN 2 16]⟩
theorem q11:qn Tryz.prog qd 22=some ⟨q5.n,qi q5.body,q5.res⟩:=by kernel_rfl
namespace Ord
abbrev qnj(b:Bool):List Value:= [.bool b]
end Ord
open Go
def q3:IFn:=⟨93,
 (jQ (jR [(jo 6 (.mov (.const (.bool false))))])
 (jQ (.seq (jR [(jm 17 2),(jc 18 9 17)])
 (.cond 18
 (jQ (jR [(jo 19 (.call 10 [])),(jm 6 19)])
 .ret)
 .skip))
 (jQ (jR [(jm 20 0),(jm 21 1),(jm 22 2),(jo 23 (.call 11 [20,21,22])),(jo 7 (.new 32 eZ4)),
 (jS 16 7 23)])
 (jQ (jR [(jL 24 16 7),(jc 25 22 24),(jo 8 (.new 32 eZ4)),
 (jS 16 8 25)])
 (jQ (jR [(jf 26 14 8),(jl 27 26),(jt 28 27),(jm 9 28)])
 (jQ (.seq (jR [(jk 10 0)])
 (.block 0
 (.loop 70368207307776
 (jQ (.seq (jR [(jm 29 10),(jm 30 9),(jw 31 29 30)])
 (.cond 31
 .skip
 (.exit 0)))
 (jQ (.block 1
 (.draw (.f (jf 34 14 8)
 (.f (jl 35 34)
 (.f (jm 36 10)
 (.f (jf 37 14 7)
 (.f (jl 38 37)
 (.f (jm 39 9)
 (.f (jo 40 (.bin .sub 39 (jI 1)))
 (.f (jm 41 10)
 (.f (jo 42 (.bin .sub 40 41))
 (.f (jx 43 1 38 42)
 (.f (jl 44 43)
 (.f (jx 45 1 35 36)
 (.m (js 45 44)
 .done)))))))))))))))
 (jR [(jm 32 10),(ja 33 32 1),(jm 10 33)]))))))
 (jQ (jR [(jL 47 16 7),(jo 48 (.call 13 [47,(.const (.slice none 0 0)),(jI 150)])),(jm 46 48),(je 49 46 0),(je 50 46 1),(jo 11 (.new 37 qkm)),
 (jS 3 11 49),(jm 12 50)])
 (jQ (jR [(jL 52 16 8),(jo 53 (.call 13 [52,(.const (.slice none 0 0)),(jI 150)])),(jm 51 53),(je 54 51 0),(je 55 51 1),(jo 13 (.new 37 qkm)),
 (jS 3 13 54),(jm 14 55)])
 (jQ (jR [(jL 57 16 7),(jo 58 (.blds 3 1 [(.int .i64 0)] [(0,1,(jI 5))])),(jo 59 (.call 13 [57,58,(jI 150)])),
 (jm 56 59),(je 60 56 0),(je 61 56 1),(jo 15 (.new 37 qkm)),(jS 3 15 60),(jm 16 61)])
 (jQ (.seq (jR [(jm 62 12),(jq 63 62 0),(jm 64 63),(jy 64 (jm 65 14)),(jy 64 (jq 66 65 0)),(jA 67 64 66),(jm 68 67),(jy 68 (jf 69 0 11)),(jy 68 (jl 70 69)),
 (jy 68 (jf 71 0 13)),(jy 68 (jl 72 71)),(jy 68 (jo 73 (.beq true 70 72))),(jA 74 68 73)])
 (.cond 74
 (jQ (jR [(jo 6 (.mov (.const (.bool false))))])
 .ret)
 .skip))
 (jQ (jR [(jm 75 12),(jo 76 (.bin .neq 75 (jI 0))),(jm 77 76),(jz 77 (jm 78 16)),(jz 77 (jo 79 (.bin .neq 78 (jI 0)))),
 (jO 80 77 79),(jm 81 80),(jz 81 (jf 82 0 11)),(jz 81 (jl 83 82)),(jz 81 (jo 84 (.not 83))),(jO 85 81 84),(jm 86 85),(jz 86 (jf 87 0 15)),(jz 86 (jl 88 87)),
 (jO 89 86 88),(jm 90 89),(jy 90 (jo 91 (.call 10 []))),(jA 92 90 91),(jm 6 92)])
 .ret))))))))))),
 [.tmp 6]⟩
theorem qR:qn Tryz.prog qd 7=some ⟨q3.n,qi q3.body,q3.res⟩:=by kernel_rfl
def q9:IFn:=⟨25,
 (jQ (jR [(jo 2 (.mov (.const (.bool false))))])
 (jQ (jR [(jk 3 0)])
 (jQ (.seq (jR [(jk 4 0)])
 (.block 0
 (.loop 262136
 (jQ (.seq (jR [(jm 5 4),(jm 6 0),(jt 7 6),(jw 8 5 7)])
 (.cond 8
 .skip
 (.exit 0)))
 (jQ (.block 1
 (jR [(jm 11 3),(jm 12 0),(jm 13 4),(jx 14 1 12 13),(jl 15 14),(jt 16 15),(jo 17 (.bin .add 11 16)),(jm 3 17)]))
 (jR [(jm 9 4),(ja 10 9 1),(jm 4 10)]))))))
 (jQ (jR [(jm 18 0),(jt 19 18),(jo 20 (.bin .gtr 19 (jI 3))),(jm 21 20),(jz 21 (jm 22 3)),(jz 21 (jo 23 (.bin .gtr 22 (jI 24)))),
 (jO 24 21 23),(jm 2 24)])
 .ret)))),
 [.tmp 2]⟩
theorem qlW:qn Tryz.prog qd 9=some ⟨q9.n,qi q9.body,q9.res⟩:=by kernel_rfl
def q8:IFn:=⟨24,
 (jQ (jR [(jo 6 (.new 32 eZ4))])
 (jQ (jR [(jm 10 0),(jm 11 1),(jC 12 24 10 11),(jo 7 (.new 28 qnq)),
 (jS 13 7 12)])
 (jQ (jR [(jm 13 2),(jt 14 13),(jo 15 (.bin .rem 14 (jI 2))),(jo 16 (.bin .add (jI 2) 15)),(jm 8 16)])
 (jQ (jR [(jL 17 13 7),(jm 18 8),(jm 19 2),(jm 20 8),(jo 21 (.bin .sub (jI 8) 20)),(jo 22 (.call 18 [17,18,19,21,(.const (.bool false)),(.const (.bool true)),(.const (.slice none 0 0))])),
 (jo 9 (.new 32 eZ4)),
 (jS 16 9 22)])
 (jQ (jR [(jL 23 16 9),(jS 16 6 23)])
 .ret))))),
 [.cellN 6 16]⟩
theorem qlR:qn Tryz.prog qd 11=some ⟨q8.n,qi q8.body,q8.res⟩:=by kernel_rfl
end Go.Proofs.YtkieffpjjfebjaaGreatDoor
