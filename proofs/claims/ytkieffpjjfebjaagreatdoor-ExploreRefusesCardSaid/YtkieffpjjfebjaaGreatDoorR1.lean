/- What the laws share, part 1. No condition. -/
import Derived.WalkKit
import Derived.Deep.Quiet
import Derived.OrdersIn
import Derived.TacticsIn
import Derived.RangeFuncCalls
import Derived.Laws.FloatArith
import Derived.Great.BuildSlice
import Derived.Laws.Append
import Derived.Laws.StructEq
import Derived.Laws.MakeOwn
import Derived.ChangeKeysEq
import Derived.Deep.QuietTactic
import Derived.RangeFuncFrom
import Derived.RangeFuncLeaves
import Derived.Test.YtkieffpjjfebjaaGreatDoorRows
import Derived.Lib.SlicesCompact
import Derived.Test.YtkieffpjjfebjaaGreatDoorZ29
set_option maxHeartbeats 4000000
set_option maxRecDepth 100000
namespace Go.Proofs.YtkieffpjjfebjaaGreatDoor
open Go
section
variable{α:Type}{enc:α→List Value}{sz:Nat}{W0:World}{own:Own}{a:Option Addr}{l:List α}
theorem qmP{W0:World}{own:Own}{a:Addr}{vs:List Value}{n:Nat}{K:Own→Prop}(h:vs.length=n)(h2:StN W0 own a vs K):vs.length=n∧StN W0 own a vs K:=⟨h,h2⟩
end
open Go
def qR:IFn:=⟨83,
 (jQ (jR [(jb 1 32 0),(jk 2 0),(jk 3 0),(jk 4 0)])
 (jQ (.seq (jR [(jf 10 0 1),(jL 11 13 10),(jc 12 71 11),(jm 5 12)])
 (jQ (jR [(jm 13 5),(jo 14 (.bin .neq 13 (jI 0)))])
 (.cond 14
 (jQ (jR [(jm 15 5),(jk 2 0),(jk 3 0),(jm 4 15)])
 .ret)
 .skip)))
 (jQ (.seq (jR [(jf 16 14 1),(jl 17 16),(jt 18 17),(jo 19 (.bin .lss 18 (jI 1))),(jm 20 19),(jz 20 (jf 21 14 1)),(jz 20 (jl 22 21)),
 (jz 20 (jt 23 22)),(jz 20 (jo 24 (.bin .gtr 23 (jI 16)))),(jO 25 20 24)])
 (.cond 25
 (jQ (jR [(jk 2 0),(jk 3 0),(jk 4 54)])
 .ret)
 .skip))
 (jQ (.seq (jR [(jf 26 13 1),(jl 27 26),(jt 28 27),(jf 29 0 1),(jf 30 0 29),(jl 31 30),(jo 32 (.bin .neq 28 31))])
 (.cond 32
 (jQ (jR [(jk 2 0),(jk 3 0),(jk 4 55)])
 .ret)
 .skip))
 (jQ (.seq (jR [(jk 6 0)])
 (.block 0
 (.loop 18014389919547868
 (jQ (.seq (jR [(jm 33 6),(jf 34 14 1),(jl 35 34),(jt 36 35),(jw 37 33 36)])
 (.cond 37
 .skip
 (.exit 0)))
 (jQ (.block 1
 (jQ (jR [(jf 41 14 1),(jl 42 41),(jm 43 6),(jx 44 1 42 43),(jl 45 44),(jc 46 72 45),(jm 40 46),(je 47 40 0),(je 48 40 1),(jm 7 47),(jm 8 48)])
 (jQ (jR [(jm 49 8),(jo 50 (.bin .neq 49 (jI 0)))])
 (.cond 50
 (jQ (jR [(jm 51 6),(jm 52 7),(jm 53 8),(jm 2 51),(jm 3 52),(jm 4 53)])
 .ret)
 .skip))))
 (jR [(jm 38 6),(ja 39 38 1),(jm 6 39)]))))))
 (jQ (.seq (jR [(jf 54 15 1),(jl 55 54),(jt 56 55),(jo 57 (.bin .gtr 56 (jI 65536)))])
 (.cond 57
 (jQ (jR [(jk 2 0),(jk 3 0),(jk 4 56)])
 .ret)
 .skip))
 (jQ (.seq (jR [(jk 9 0)])
 (.block 2
 (.loop 9671406268686657245938204
 (jQ (.seq (jR [(jm 58 9),(jf 59 15 1),(jl 60 59),(jt 61 60),(jw 62 58 61)])
 (.cond 62
 .skip
 (.exit 2)))
 (jQ (.block 3
 (jQ (.draw (.f (jf 65 15 1)
 (.f (jl 66 65)
 (.f (jm 67 9)
 (.f (jx 68 1 66 67)
 (.f (jl 69 68)
 (.f (jo 70 (.bin .lss 69 (jI 0)))
 (.f (jm 71 70)
 (.f (jz 71 (jf 72 15 1))
 (.f (jz 71 (jl 73 72))
 (.f (jz 71 (jm 74 9))
 (.f (jz 71 (jx 75 1 73 74))
 (.f (jz 71 (jl 76 75))
 (.f (jz 71 (jf 77 14 1))
 (.f (jz 71 (jl 78 77))
 (.f (jz 71 (jt 79 78))
 (.f (jz 71 (jo 80 (.bin .geq 76 79)))
 (.f (jO 81 71 80)
 .done))))))))))))))))))
 (.cond 81
 (jQ (jR [(jm 82 9),(jk 2 0),(jm 3 82),(jk 4 56)])
 .ret)
 .skip)))
 (jR [(jm 63 9),(ja 64 63 1),(jm 9 64)]))))))
 (jQ (jR [(jk 2 0),(jk 3 0),(jk 4 0)])
 .ret)))))))),
 [.tmp 2, .tmp 3, .tmp 4]⟩
theorem qlU:qn Tryz.prog qd 39=some ⟨qR.n,qi qR.body,qR.res⟩:=by kernel_rfl
def qlO:IFn:=⟨5,
 (jQ (jR [(jb 1 32 0),(jo 2 (.new 32 eZ4))])
 (jQ (jR [(jf 3 15 1),
 ⟨none, .st 3 (.const (.slice none 0 0)),none⟩])
 (jQ (jR [(jL 4 16 1),(jS 16 2 4)])
 .ret))),
 [.cellN 2 16]⟩
theorem qm4:qn Tryz.prog qd 40=some ⟨qlO.n,qi qlO.body,qlO.res⟩:=by kernel_rfl
abbrev qn1:Value:=.agg #[.int .i64 0, .int .i64 0, .int .i64 0, .int .i64 0, .int .i64 0, .int .i64 0, .int .i64 0, .int .i64 0, .int .i64 0, .int .i64 0, .int .i64 0, .int .i64 0, .bool false]
def qlM:IFn:=⟨78,
 (jQ (jR [(jo 10 (.new 28 qn1))])
 (jQ (jR [(jm 15 0),(jo 16 (.call 12 [15,(jI 9)])),(jo 17 (.bin .add (jI 4) 16)),(jm 18 1),(jo 19 (.call 12 [18,(jI 8)])),
 (jo 20 (.bin .add (jI 1) 19)),(jo 21 (.bld [(.int .i64 0),(.int .i64 0),(.int .i64 0),(.int .i64 0),(.int .i64 0),(.int .i64 0),(.int .i64 0),(.int .i64 0),(.int .i64 0),(.int .i64 0),(.int .i64 0),(.int .i64 0),(.bool false)] [(0,1,17),(1,1,20)])),
 (jo 11 (.new 28 qn1)),
 (jS 13 11 21)])
 (jQ (jR [(jm 22 2),(jo 23 (.call 12 [22,(jI 6)])),(jo 24 (.bin .add (jI 1) 23)),(jf 25 7 11),(js 25 24)])
 (jQ (jR [(jm 26 2),(jo 27 (.bin .quo 26 (jI 7))),(jo 28 (.call 12 [27,(jI 8)])),(jo 29 (.bin .add (jI 1) 28)),
 (jf 30 8 11),(js 30 29)])
 (jQ (jR [(jm 31 3),(jo 32 (.call 12 [31,(jI 3)])),(jf 33 9 11),(js 33 32)])
 (jQ (jR [(jm 34 3),(jo 35 (.bin .quo 34 (jI 3))),(jo 36 (.call 12 [35,(jI 3)])),(jf 37 10 11),(js 37 36)])
 (jQ (jR [(jf 38 11 11),
 ⟨none, .st 38 (jI 50),none⟩])
 (jQ (.seq (jR [(jm 39 4),(jo 40 (.call 12 [39,(jI 5)])),(jq 41 40 0)])
 (.cond 41
 (jR [(jm 42 4),(jo 43 (.bin .quo 42 (jI 5))),(jo 44 (.call 12 [43,(jI 4)])),(jf 45 11 11),(js 45 44)])
 .skip))
 (jQ (jR [(jf 46 2 11),
 ⟨none, .st 46 (jI 2),none⟩])
 (jQ (jR [(jf 47 0 11),(jl 48 47),(jo 49 (.bin .sub 48 (jI 2))),(jm 12 49)])
 (jQ (.seq (jR [(jk 13 0)])
 (.block 0
 (.loop 151115726325928740024320
 (jQ (.seq (jR [(jm 50 13),(jo 51 (.bin .lss 50 (jI 2)))])
 (.cond 51
 .skip
 (.exit 0)))
 (jQ (.block 1
 (jQ (.draw (.f (jm 54 3)
 (.f (jm 55 13)
 (.f (jo 56 (.bin .mul (jI 20) 55))
 (.f (jo 57 (.bin .add (jI 9) 56))
 (.f (jo 58 (.bin .quo 54 57))
 (.f (jm 59 12)
 (.f (jm 60 13)
 (.f (jo 61 (.bin .shr 59 60))
 (.f (ja 62 61 1)
 (.f (jC 63 12 58 62)
 (.f (jm 14 63)
 .done))))))))))))
 (jQ (jR [(jm 64 13),(jm 65 14),(jo 66 (.mm false 65 (jI 2))),(jf 67 3 11),(jo 68 (.ixa 4 1 67 64)),(js 68 66)])
 (jR [(jm 69 12),(jm 70 13),(jf 71 3 11),(jo 72 (.ixa 4 1 71 70)),(jl 73 72),(jm 74 13),(jo 75 (.bin .shl 73 74)),(jo 76 (.bin .sub 69 75)),
 (jm 12 76)]))))
 (jR [(jm 52 13),(ja 53 52 1),(jm 13 53)]))))))
 (jQ (jR [(jL 77 13 11),(jS 13 10 77)])
 .ret)))))))))))),
 [.cellN 10 13]⟩
theorem qm0:qn Tryz.prog qd 17=some ⟨qlM.n,qi qlM.body,qlM.res⟩:=by kernel_rfl
namespace Ord
abbrev qn2(b:Bool):List Value:= [.bool b]
end Ord
open Go
def qlP:IFn:=⟨82,
 (jQ (jR [(jb 3 32 0),(jk 6 0)])
 (jQ (.seq (jR [(jL 15 16 3),(jc 16 40 15),(jc 17 39 16),(jm 14 17),(je 18 14 0),(je 19 14 1),(je 20 14 2),(jm 7 18),(jm 8 19),(jm 9 20)])
 (jQ (jR [(jm 21 9),(jo 22 (.bin .neq 21 (jI 0)))])
 (.cond 22
 (jQ (jR [(jm 23 9),(jm 6 23)])
 .ret)
 .skip)))
 (jQ (.seq (jR [(jf 24 0 3),(jf 25 12 24),(jl 26 25)])
 (.cond 26
 (jQ (jR [(jk 6 1)])
 .ret)
 .skip))
 (jQ (.seq (jR [(jk 10 0)])
 (.block 0
 (.loop 576460752169212992
 (jQ (.seq (jR [(jm 27 10),(jf 28 14 3),(jl 29 28),(jt 30 29),(jw 31 27 30)])
 (.cond 31
 .skip
 (.exit 0)))
 (jQ (.block 1
 (jQ (jR [(jk 11 0)])
 (.block 2
 (.loop 576460735123560512
 (jQ (.seq (jR [(jm 34 11),(jf 35 14 3),(jl 36 35),(jm 37 10),(jx 38 1 36 37),(jl 39 38),(jt 40 39),(jw 41 34 40)])
 (.cond 41
 .skip
 (.exit 2)))
 (jQ (.block 3
 (jQ (jR [(jf 44 14 3),(jl 45 44),(jm 46 10),(jx 47 1 45 46),(jl 48 47),(jm 49 11),(jx 50 5 48 49),(jf 51 0 50),(jl 52 51),(jm 12 52)])
 (jQ (jR [(jm 53 12),(jq 54 53 14),(jm 55 54),(jz 55 (jm 56 12)),(jz 55 (jq 57 56 15)),(jO 58 55 57)])
 (.cond 58
 (jQ (jR [(jk 6 1)])
 .ret)
 .skip))))
 (jR [(jm 42 11),(ja 43 42 1),(jm 11 43)])))))))
 (jR [(jm 32 10),(ja 33 32 1),(jm 10 33)]))))))
 (jQ (.seq (jR [(jm 59 2),(jo 60 (.bin .lss 59 (jI 1))),(jm 61 60),(jz 61 (jm 62 2)),(jz 61 (jo 63 (.bin .gtr 62 (jI 100000)))),
 (jO 64 61 63),(jm 65 64),(jz 65 (jm 66 1)),(jz 65 (jt 67 66)),(jz 65 (jo 68 (.bin .gtr 67 (jI 4)))),(jO 69 65 68)])
 (.cond 69
 (jQ (jR [(jk 6 2)])
 .ret)
 .skip))
 (jQ (.seq (jR [(jk 13 0)])
 (.block 4
 (.loop 4834522686837799287529536
 (jQ (.seq (jR [(jm 70 13),(jm 71 1),(jt 72 71),(jw 73 70 72)])
 (.cond 73
 .skip
 (.exit 4)))
 (jQ (.block 5
 (jQ (jR [(jm 76 1),(jm 77 13),(jx 78 1 76 77),(jl 79 78),(jc 80 41 79),(jo 81 (.not 80))])
 (.cond 81
 (jQ (jR [(jk 6 2)])
 .ret)
 .skip)))
 (jR [(jm 74 13),(ja 75 74 1),(jm 13 75)]))))))
 (jQ (jR [(jk 6 0)])
 .ret))))))),
 [.tmp 6]⟩
theorem qm5:qn Tryz.prog qd 16=some ⟨qlP.n,qi qlP.body,qlP.res⟩:=by kernel_rfl
def qW:IFn:=⟨17,
 (jQ (jR [(jo 2 (.mov (.const (.bool false))))])
 (jQ (jR [(jm 3 0),(jq 4 3 3),(jm 5 4),(jz 5 (jm 6 0)),(jz 5 (jq 7 6 4)),(jO 8 5 7),(jm 9 8),(jz 9 (jm 10 0)),(jz 9 (jq 11 10 5)),(jO 12 9 11),(jm 13 12),
 (jz 13 (jm 14 0)),(jz 13 (jq 15 14 6)),(jO 16 13 15),(jm 2 16)])
 .ret)),
 [.tmp 2]⟩
theorem qlX:qn Tryz.prog qd 41=some ⟨qW.n,qi qW.body,qW.res⟩:=by kernel_rfl
def qb:IFn:=⟨98,
 (jQ (jR [(jb 6 32 0),(jb 7 43 1),(jo 12 (.mov (.const (.bool false))))])
 (jQ (.seq (jR [(jm 20 2),(jc 21 9 20),(jm 22 21),(jz 22 (jf 23 14 6)),(jz 22 (jl 24 23)),(jz 22 (jt 25 24)),(jz 22 (jo 26 (.bin .gtr 25 (jI 20)))),
 (jO 27 22 26),(jm 28 27),(jz 28 (jf 29 13 6)),(jz 28 (jl 30 29)),(jz 28 (jt 31 30)),(jz 28 (jo 32 (.bin .gtr 31 (jI 80)))),(jO 33 28 32),
 (jm 34 33),(jz 34 (jm 35 3)),(jz 34 (jt 36 35)),(jz 34 (jo 37 (.bin .gtr 36 (jI 8)))),(jO 38 34 37)])
 (.cond 38
 (jQ (jR [(jo 39 (.call 10 [])),(jm 12 39)])
 .ret)
 .skip))
 (jQ (jR [(jL 41 16 6),(jm 42 3),(jm 43 4),(jo 44 (.call 13 [41,42,43])),(jm 40 44),(je 45 40 0),(je 46 40 1),(jo 13 (.new 37 qkm)),
 (jS 3 13 45),(jm 14 46)])
 (jQ (jR [(jL 47 16 6),(jm 48 3),(jm 49 4),(jo 50 (.call 16 [47,48,49])),(jm 15 50)])
 (jQ (jR [(jo 51 (.ixa 5 1 7 (jI 0))),(jl 52 51),(jo 53 (.ixa 5 1 7 (jI 1))),(jl 54 53),(jo 55 (.ixa 5 1 7 (jI 2))),
 (jl 56 55),(jo 57 (.ixa 5 1 7 (jI 3))),(jl 58 57),(jo 59 (.ixa 5 1 7 (jI 4))),(jl 60 59),(jo 61 (.call 17 [52,54,56,58,60])),
 (jo 16 (.new 28 qn1)),
 (jS 13 16 61)])
 (jQ (jR [(jm 62 5),(jf 63 12 16),(js 63 62)])
 (jQ (jR [(jL 64 13 16),(jm 65 2),(jo 66 (.call 18 [64,(jI 2),65,(jI 7),(.const (.bool true)),(.const (.bool true)),(.const (.slice none 0 0))])),
 (jo 17 (.new 32 eZ4)),
 (jS 16 17 66)])
 (jQ (.seq (jR [(jL 67 16 17),(jm 68 3),(jm 69 4),(jo 70 (.call 16 [67,68,69])),(jq 71 70 0),(jm 72 71),(jz 72 (jm 73 15)),(jz 72 (jq 74 73 0)),
 (jO 75 72 74)])
 (.cond 75
 (jQ (jR [(jo 76 (.call 10 [])),(jm 12 76)])
 .ret)
 .skip))
 (jQ (jR [(jL 78 16 17),(jm 79 3),(jm 80 4),(jo 81 (.call 13 [78,79,80])),(jm 77 81),(je 82 77 0),(je 83 77 1),(jo 18 (.new 37 qkm)),
 (jS 3 18 82),(jm 19 83)])
 (jQ (jR [(jm 84 14),(jm 85 15),(jo 86 (.bin .eql 84 85)),(jm 87 86),(jy 87 (jm 88 19)),(jy 87 (jL 89 16 17)),(jy 87 (jm 90 3)),(jy 87 (jm 91 4)),
 (jy 87 (jo 92 (.call 16 [89,90,91]))),(jy 87 (jo 93 (.bin .eql 88 92))),(jA 94 87 93),(jm 95 94),(jy 95 (jo 96 (.call 10 []))),
 (jA 97 95 96),(jm 12 97)])
 .ret)))))))))),
 [.tmp 12]⟩
theorem qlR:qn Tryz.prog qd 4=some ⟨qb.n,qi qb.body,qb.res⟩:=by kernel_rfl
def qlN:IFn:=⟨25,
 (jQ (jR [(jo 2 (.mov (.const (.bool false))))])
 (jQ (jR [(jk 3 0)])
 (jQ (.seq (jR [(jk 4 0)])
 (.block 0
 (.loop 262136
 (jQ (.seq (jR [(jm 5 4),(jm 6 0),(jt 7 6),(jw 8 5 7)])
 (.cond 8
 .skip
 (.exit 0)))
 (jQ (.block 1
 (jR [(jm 11 3),(jm 12 0),(jm 13 4),(jx 14 1 12 13),(jl 15 14),(jt 16 15),(jo 17 (.bin .add 11 16)),(jm 3 17)]))
 (jR [(jm 9 4),(ja 10 9 1),(jm 4 10)]))))))
 (jQ (jR [(jm 18 0),(jt 19 18),(jo 20 (.bin .gtr 19 (jI 3))),(jm 21 20),(jz 21 (jm 22 3)),(jz 21 (jo 23 (.bin .gtr 22 (jI 24)))),
 (jO 24 21 23),(jm 2 24)])
 .ret)))),
 [.tmp 2]⟩
theorem qm3:qn Tryz.prog qd 9=some ⟨qlN.n,qi qlN.body,qlN.res⟩:=by kernel_rfl
end Go.Proofs.YtkieffpjjfebjaaGreatDoor
