/- What the laws share, part 10. No condition. -/
import Derived.Test.YtkieffpjjfebjaaGreatDoorZ9
set_option maxHeartbeats 4000000
set_option maxRecDepth 100000
namespace Go.Proofs.YtkieffpjjfebjaaGreatDoor
open Go
abbrev qkd:Value:=.agg #[.bool false, .slice none 0 0, .int .i64 0]
def q0T:IFn:=⟨44,
 (jQ (jR [(jb 3 32 0),(jb 4 23 1),(jb 5 3 2),(jo 6 (.new 37 qkd)),(jk 7 0)])
 (jQ (.seq (jR [(jL 18 16 3),(jl 19 4),(jl 20 5),(jo 21 (.call 25 [18,19,20])),(jm 8 21)])
 (jQ (jR [(jm 22 8),(jo 23 (.bin .neq 22 (jI 0)))])
 (.cond 23
 (jQ (jR [(jo 24 (.bld [(.bool false),(.slice none 0 0),(.int .i64 0)] [])),(jm 25 8),(jS 3 6 24),(jm 7 25)])
 .ret)
 .skip)))
 (jQ (jR [(jo 9 (.new 37 qkd))])
 (jQ (jR [(jo 10 (.new 4 (.bool false))),
 ⟨none, .st 10 (.const (.bool false)),none⟩])
 (jQ (jR [(jf 26 14 3),(jl 27 26),(jt 28 27),(jo 11 (.new 3 (.int .i64 0))),(js 11 28)])
 (jQ (jR [(jo 29 (.mkf 26 [9,5,10,11])),(jo 12 (.new 80 (.nilFunc))),(js 12 29)])
 (jQ (jR [(jo 13 (.new 80 (.nilFunc)))])
 (jQ (jR [(jo 30 (.mkf 30 [11,13,4,10,9,12])),(js 13 30)])
 (jQ (jR [(jL 32 16 3),(jc 33 36 32),(jm 31 33),(je 34 31 0),(je 35 31 1),(je 36 31 2),(je 37 31 3),(jm 14 34),(jm 15 35),(jm 16 36),(jm 17 37)])
 (jQ (jR [(jl 38 13),(jm 39 14),(jo 40 (.callv 38 [39,(.const (.slice none 0 0))]))])
 (jQ (.seq (jR [(jl 41 10)])
 (.cond 41
 (jQ (jR [(jo 42 (.bld [(.bool false),(.slice none 0 0),(.int .i64 0)] [])),(jS 3 6 42),(jk 7 80)])
 .ret)
 .skip))
 (jQ (jR [(jL 43 3 9),(jS 3 6 43),(jk 7 0)])
 .ret)))))))))))),
 [.cellN 6 3, .tmp 7]⟩
theorem q4J:qn Tryz.prog qd 13=some ⟨q0T.n,qi q0T.body,q0T.res⟩:=by kernel_rfl
def q1b:IFn:=⟨55,
 (jQ (jR [(jb 3 32 0),(jk 6 0)])
 (jQ (.seq (jR [(jL 14 16 3),(jc 15 36 14),(jm 13 15),(je 16 13 0),(je 17 13 1),(je 18 13 2),(je 19 13 3),(jm 7 16),(jm 8 17),(jm 9 18),(jm 10 19)])
 (jQ (jR [(jm 20 10),(jo 21 (.bin .neq 20 (jI 0)))])
 (.cond 21
 (jQ (jR [(jm 22 10),(jm 6 22)])
 .ret)
 .skip)))
 (jQ (.seq (jR [(jf 23 0 3),(jf 24 12 23),(jl 25 24),(jm 26 25),(jz 26 (jf 27 14 3)),(jz 26 (jl 28 27)),(jz 26 (jo 29 (.call 53 [28,(.func 54)]))),
 (jO 30 26 29)])
 (.cond 30
 (jQ (jR [(jk 6 1)])
 .ret)
 .skip))
 (jQ (.seq (jR [(jm 31 2),(jo 32 (.bin .lss 31 (jI 1))),(jm 33 32),(jz 33 (jm 34 2)),(jz 33 (jo 35 (.bin .gtr 34 (jI 100000)))),
 (jO 36 33 35),(jm 37 36),(jz 37 (jm 38 1)),(jz 37 (jt 39 38)),(jz 37 (jo 40 (.bin .gtr 39 (jI 4)))),(jO 41 37 40)])
 (.cond 41
 (jQ (jR [(jk 6 2)])
 .ret)
 .skip))
 (jQ (.seq (jR [(jm 42 1),(jt 43 42),(jk 44 0)])
 (.block 0
 (.loop 36011204832923712
 (jQ (jR [(jw 45 44 43)])
 (jQ (.cond 45
 .skip
 (.exit 0))
 (jQ (.block 1
 (jQ (jR [(jx 46 1 42 44),(jl 47 46),(jm 12 47)])
 (jQ (jR [(jm 48 12),(jo 49 (.bin .lss 48 (jI 3))),(jm 50 49),(jz 50 (jm 51 12)),(jz 50 (jo 52 (.bin .gtr 51 (jI 6)))),
 (jO 53 50 52)])
 (.cond 53
 (jQ (jR [(jk 6 2)])
 .ret)
 .skip))))
 (jR [(ja 54 44 1),(jm 44 54)])))))))
 (jQ (jR [(jk 6 0)])
 .ret)))))),
 [.tmp 6]⟩
theorem q5B:qn Tryz.prog qd 25=some ⟨q1b.n,qi q1b.body,q1b.res⟩:=by kernel_rfl
abbrev qgd:Value:=.agg #[.int .i64 0, .int .i64 0, .int .i64 0]
def q0o:IFn:=⟨33,
 (jQ (.seq (jR [(jf 10 2 2),(jl 11 10),(jl 12 3),(jo 13 (.bin .eql 11 12))])
 (.cond 13
 (jQ (jR [
 ⟨none, .st 4 (.const (.bool true)),none⟩])
 .ret)
 .skip))
 (jQ (jR [(jf 14 2 2),(jl 15 14),(ja 16 15 1),(jf 17 2 2),(js 17 16)])
 (jQ (.draw (.f (jm 19 0)
 (.both (.m (jc 20 28 19)
 (.f (jo 21 (.fld 2 20))
 (.f (jl 22 5)
 (.f (jC 23 27 21 22)
 (.f (jm 18 23)
 (.f (je 24 18 0)
 (.f (je 25 18 1)
 (.m (jo 8 (.new 56 qgd))
 (.m (jS 3 8 24)
 (.f (jm 9 25)
 .done))))))))))
 (.both (.f (jl 22 5)
 (.both (.m (jc 20 28 19)
 (.f (jo 21 (.fld 2 20))
 (.f (jC 23 27 21 22)
 (.f (jm 18 23)
 (.f (je 24 18 0)
 (.f (je 25 18 1)
 (.m (jo 8 (.new 56 qgd))
 (.m (jS 3 8 24)
 (.f (jm 9 25)
 .done)))))))))
 (.m (jo 8 (.new 56 qgd))
 (.m (jc 20 28 19)
 (.f (jo 21 (.fld 2 20))
 (.f (jC 23 27 21 22)
 (.f (jm 18 23)
 (.f (je 24 18 0)
 (.f (je 25 18 1)
 (.m (jS 3 8 24)
 (.f (jm 9 25)
 .done)))))))))))
 (.m (jo 8 (.new 56 qgd))
 (.both (.m (jc 20 28 19)
 (.f (jo 21 (.fld 2 20))
 (.f (jl 22 5)
 (.f (jC 23 27 21 22)
 (.f (jm 18 23)
 (.f (je 24 18 0)
 (.f (je 25 18 1)
 (.m (jS 3 8 24)
 (.f (jm 9 25)
 .done)))))))))
 (.f (jl 22 5)
 (.m (jc 20 28 19)
 (.f (jo 21 (.fld 2 20))
 (.f (jC 23 27 21 22)
 (.f (jm 18 23)
 (.f (je 24 18 0)
 (.f (je 25 18 1)
 (.m (jS 3 8 24)
 (.f (jm 9 25)
 .done)))))))))))))))
 (jQ (jR [(jf 26 1 8),(jl 27 26),(jo 28 (.bin .geq 27 (jI 0)))])
 (.cond 28
 (jR [(jm 29 1),(jc 30 29 29),(jf 31 0 2),
 ⟨none, .st 31 (.const (.bool true)),none⟩,(jf 32 1 2),(js 32 30)])
 .skip))))),
 []⟩
theorem q44:qn Tryz.prog qd 26=some ⟨q0o.n,qi q0o.body,q0o.res⟩:=by kernel_rfl
abbrev qiZ:Value:=.agg #[.int .i64 0, .int .i64 0, .slice none 0 0]
def q0p:IFn:=⟨107,
 (jQ (jR [(jo 10 (.mov (.const (.bool true))))])
 (jQ (.seq (jR [(jl 22 2),(jk 23 0)])
 (.block 0
 (.loop 5070602400912917605986808626176
 (jQ (jR [(jw 24 23 22)])
 (jQ (.cond 24
 .skip
 (.exit 0))
 (jQ (.block 1
 (jQ (jR [(jm 25 23),(jm 11 25)])
 (jQ (.seq (jR [(jm 27 0),(jm 28 11),(jC 29 31 27 28),(jm 26 29),(je 30 26 0),(je 31 26 1),(jo 12 (.new 69 eZ9)),
 (jS 5 12 30),(jm 13 31)])
 (jQ (jR [(jm 32 13),(jo 33 (.not 32))])
 (.cond 33
 (.exit 1)
 .skip)))
 (jQ (jR [(jo 10 (.mov (.const (.bool false))))])
 (jQ (jR [(jm 34 0),(jc 35 32 34),(jm 14 35)])
 (jQ (jR [(jm 36 14),(jm 37 11),(jm 38 1),(jo 39 (.call 33 [36,37,38])),(jm 15 39)])
 (jQ (jR [(jm 41 14),(jm 42 11),(jC 43 31 41 42),(jm 40 43),(je 44 40 0),(je 45 40 1),(jo 16 (.new 69 eZ9)),
 (jS 5 16 44),(jm 17 45)])
 (jQ (.seq (jR [(jm 46 17),(jo 47 (.not 46))])
 (.cond 47
 (jR [(jl 48 3),(jm 49 14),(jm 50 15),(jo 51 (.callv 48 [49,50]))])
 .skip))
 (jQ (jR [(jo 52 (.blds 3 1 [(.int .i64 0)] [(0,1,(jI 0))])),(jm 18 52)])
 (jQ (.seq (jR [(jf 53 0 16),(jl 54 53),(jq 55 54 7)])
 (.cond 55
 (jR [(jm 56 18),(jl 57 4),(jo 58 (.app 3 1 8 [(.int .i64 0)] 56 57)),(jm 18 58)])
 .skip))
 (jQ (.seq (jR [(jk 19 0)])
 (.block 2
 (.loop 79228162513687876841244196864
 (jQ (.seq (jR [(jm 59 17),(jm 60 59),(jy 60 (jm 61 19)),(jy 60 (jm 62 18)),(jy 60 (jt 63 62)),(jy 60 (jw 64 61 63)),(jA 65 60 64),(jm 66 65),(jy 66 (jl 67 5)),
 (jy 66 (jo 68 (.not 67))),(jA 69 66 68),(jm 70 69),(jy 70 (jf 71 0 6)),(jy 70 (jl 72 71)),(jy 70 (jo 73 (.not 72))),(jA 74 70 73)])
 (.cond 74
 .skip
 (.exit 2)))
 (jQ (.block 3
 (jQ (.draw (.f (jm 77 14)
 (.f (jm 79 11)
 (.f (jm 80 18)
 (.f (jm 81 19)
 (.f (jx 82 1 80 81)
 (.both (.m (jc 78 32 77)
 (.f (jl 83 82)
 (.f (jo 84 (.bld qc0 [(0,1,79),(1,1,83)]))
 (.m (jo 21 (.new 79 qiZ))
 (.f (jm 20 78)
 (.m (jS 3 21 84)
 .done))))))
 (.both (.f (jl 83 82)
 (.f (jo 84 (.bld qc0 [(0,1,79),(1,1,83)]))
 (.both (.m (jc 78 32 77)
 (.m (jo 21 (.new 79 qiZ))
 (.f (jm 20 78)
 (.m (jS 3 21 84)
 .done))))
 (.m (jo 21 (.new 79 qiZ))
 (.m (jc 78 32 77)
 (.f (jm 20 78)
 (.m (jS 3 21 84)
 .done)))))))
 (.m (jo 21 (.new 79 qiZ))
 (.both (.m (jc 78 32 77)
 (.f (jl 83 82)
 (.f (jo 84 (.bld qc0 [(0,1,79),(1,1,83)]))
 (.f (jm 20 78)
 (.m (jS 3 21 84)
 .done)))))
 (.f (jl 83 82)
 (.f (jo 84 (.bld qc0 [(0,1,79),(1,1,83)]))
 (.m (jc 78 32 77)
 (.f (jm 20 78)
 (.m (jS 3 21 84)
 .done)))))))))))))))
 (jQ (jR [(jm 85 20),(jL 86 3 21),(jC 87 34 85 86)])
 (.draw (.f (jm 89 20)
 (.f (jm 90 15)
 (.f (jc 91 35 90)
 (.f (jL 92 3 21)
 (.both (.f (jl 88 3)
 (.m (jo 93 (.blds 79 1 qc0 [(0,3,92)]))
 (.m (jo 94 (.app 79 3 40 qc0 91 93))
 (.m (jo 95 (.callv 88 [89,94]))
 .done))))
 (.m (jo 93 (.blds 79 1 qc0 [(0,3,92)]))
 (.both (.f (jl 88 3)
 (.m (jo 94 (.app 79 3 40 qc0 91 93))
 (.m (jo 95 (.callv 88 [89,94]))
 .done)))
 (.m (jo 94 (.app 79 3 40 qc0 91 93))
 (.f (jl 88 3)
 (.m (jo 95 (.callv 88 [89,94]))
 .done))))))))))))))
 (jR [(jm 75 19),(ja 76 75 1),(jm 19 76)]))))))
 (jQ (jR [(jl 96 5),(jm 97 96),(jz 97 (jf 98 0 6)),(jz 97 (jl 99 98)),(jO 100 97 99)])
 (.cond 100
 .ret
 .skip)))))))))))))
 (jR [(ja 101 23 1),(jm 23 101)])))))))
 (jQ (jR [(jm 102 10)])
 (.cond 102
 (jR [(jl 103 7),(jm 104 0),(jm 105 1),(jo 106 (.callv 103 [104,105]))])
 .skip)))),
 []⟩
theorem q45:qn Tryz.prog qd 30=some ⟨q0p.n,qi q0p.body,q0p.res⟩:=by kernel_rfl
def q0U:IFn:=⟨41,
 (jQ (jR [(jo 6 (.mov (.const (.slice none 0 0))))])
 (jQ (jR [(jm 11 2),(jc 12 29 11),(jm 7 12)])
 (jQ (.seq (jR [(jm 14 0),(jm 15 1),(jC 16 31 14 15),(jm 13 16),(je 17 13 0),(je 18 13 1),(jo 8 (.new 69 eZ9)),
 (jS 5 8 17),(jm 9 18)])
 (.block 0
 (.loop 1099511105408
 (jQ (.seq (jR [(jm 19 9),(jm 20 19),(jy 20 (jL 21 5 8)),(jy 20 (jc 22 64 21)),(jA 23 20 22)])
 (.cond 23
 .skip
 (.exit 0)))
 (jQ (.block 1
 (jQ (jR [(jm 30 1),(jo 31 (.bld qc0 [(0,1,30)])),(jo 10 (.new 79 qiZ)),
 (jS 3 10 31)])
 (jQ (jR [(jm 32 0),(jL 33 3 10),(jC 34 34 32 33)])
 (jR [(jm 35 7),(jL 36 3 10),(jo 37 (.blds 79 1 qc0 [(0,3,36)])),(jo 38 (.app 79 3 40 qc0 35 37)),
 (jm 7 38)]))))
 (jQ (.seq (jR [(jL 39 5 8)])
 (jR [(jo 8 (.new 69 eZ9)),(jS 5 8 39)]))
 (jR [(jm 25 0),(jm 26 1),(jC 27 31 25 26),(jm 24 27),(je 28 24 0),(je 29 24 1),(jS 5 8 28),(jm 9 29)])))))))
 (jQ (jR [(jm 40 7),(jm 6 40)])
 .ret)))),
 [.tmp 6]⟩
theorem q4K:qn Tryz.prog qd 33=some ⟨q0U.n,qi q0U.body,q0U.res⟩:=by kernel_rfl
def q0q:IFn:=⟨5,
 (jQ (jR [(jo 2 (.mov (.const (.bool false))))])
 (jQ (jR [(jm 3 0),(jo 4 (.call 82 [3,(.func 83)])),(jm 2 4)])
 .ret)),
 [.tmp 2]⟩
theorem q46:qn Tryz.prog qd 54=some ⟨q0q.n,qi q0q.body,q0q.res⟩:=by kernel_rfl
def q0V:IFn:=⟨14,
 (jQ (jR [(jb 1 69 0),(jo 2 (.mov (.const (.bool false))))])
 (jQ (.seq (jR [(jf 3 0 1),(jl 4 3)])
 (.block 0
 (jQ (.seq (jR [(jq 6 4 0),(jm 5 6)])
 (.cond 5
 .skip
 (jQ (jR [(jq 7 4 1),(jm 5 7)])
 (.cond 5
 .skip
 (jQ (jR [(jq 8 4 2),(jm 5 8)])
 (.cond 5
 .skip
 (jQ (jR [(jq 9 4 3),(jm 5 9)])
 (.cond 5
 .skip
 (jQ (jR [(jq 10 4 4),(jm 5 10)])
 (.cond 5
 .skip
 (jQ (jR [(jq 11 4 5),(jm 5 11)])
 (.cond 5
 .skip
 (jQ (jR [(jq 12 4 6),(jm 5 12)])
 (.cond 5
 .skip
 (jR [(jq 13 4 17),(jm 5 13)])))))))))))))))
 (.cond 5
 (jQ (jR [(jo 2 (.mov (.const (.bool true))))])
 .ret)
 .skip))))
 (jQ (jR [(jo 2 (.mov (.const (.bool false))))])
 .ret))),
 [.tmp 2]⟩
theorem q4L:qn Tryz.prog qd 64=some ⟨q0V.n,qi q0V.body,q0V.res⟩:=by kernel_rfl
def q04:IFn:=⟨11,
 (jQ (jR [(jb 1 69 0),(jo 2 (.mov (.const (.bool false))))])
 (jQ (jR [(jf 3 0 1),(jl 4 3),(jq 5 4 14),(jm 6 5),(jz 6 (jf 7 0 1)),(jz 6 (jl 8 7)),(jz 6 (jq 9 8 15)),(jO 10 6 9),(jm 2 10)])
 .ret)),
 [.tmp 2]⟩
theorem q3A:qn Tryz.prog qd 83=some ⟨q04.n,qi q04.body,q04.res⟩:=by kernel_rfl
def q24:IFn:=⟨82,
 (jQ (jR [(jk 4 0),(jk 5 0)])
 (jQ (.seq (jR [(jm 10 1),(jo 11 (.bin .lss 10 (jI 1))),(jm 12 11),(jz 12 (jm 13 1)),(jz 12 (jo 14 (.bin .gtr 13 (jI 16)))),
 (jO 15 12 14)])
 (.cond 15
 (jQ (jR [(jk 4 0),(jk 5 54)])
 .ret)
 .skip))
 (jQ (.seq (jR [(jm 16 0),(jt 17 16),(jo 18 (.bin .gtr 17 (jI 65536)))])
 (.cond 18
 (jQ (jR [(jk 4 0),(jk 5 3)])
 .ret)
 .skip))
 (jQ (jR [(jm 19 1),(jo 20 (.mk 3 1 8 [(.int .i64 0)] 19 19)),(jm 6 20)])
 (jQ (.seq (jR [(jk 7 0)])
 (.block 0
 (.loop 4835703278458516696728496
 (jQ (.seq (jR [(jm 21 7),(jm 22 0),(jt 23 22),(jw 24 21 23)])
 (.cond 24
 .skip
 (.exit 0)))
 (jQ (.block 1
 (jQ (jR [(jk 8 0),(jk 9 0)])
 (jQ (.seq (jR [(jm 27 7),(jo 28 (.bin .gtr 27 (jI 0)))])
 (.cond 28
 (jR [(jm 29 0),(jm 30 7),(jo 31 (.bin .sub 30 (jI 1))),(jx 32 6 29 31),(jf 33 0 32),(jl 34 33),(jm 8 34)])
 .skip))
 (jQ (.seq (jR [(jm 35 0),(jm 36 7),(jx 37 6 35 36),(jf 38 1 37),(jl 39 38),(jo 40 (.bin .geq 39 (jI 0))),(jm 41 40),(jy 41 (jm 42 0)),
 (jy 41 (jm 43 7)),(jy 41 (jx 44 6 42 43)),(jy 41 (jf 45 1 44)),(jy 41 (jl 46 45)),(jy 41 (jm 47 1)),(jy 41 (jw 48 46 47)),(jA 49 41 48)])
 (.cond 49
 (jR [(jm 50 6),(jm 51 0),(jm 52 7),(jx 53 6 51 52),(jf 54 1 53),(jl 55 54),(jx 56 1 50 55),(jl 57 56),(jm 9 57)])
 .skip))
 (jQ (.seq (jR [(jm 58 0),(jm 59 7),(jx 60 6 58 59),(jL 61 6 60),(jm 62 1),(jm 63 7),(jq 64 63 0),(jm 65 8),(jm 66 9),(jo 67 (.call 110 [61,62,64,65,66])),
 (jo 68 (.not 67))])
 (.cond 68
 (jQ (jR [(jm 69 7),(jm 4 69),(jk 5 91)])
 .ret)
 .skip))
 (.draw (.f (jm 70 6)
 (.f (jm 71 0)
 (.f (jm 72 7)
 (.f (jx 73 6 71 72)
 (.f (jf 74 1 73)
 (.f (jl 75 74)
 (.f (jm 76 0)
 (.f (jm 77 7)
 (.f (jx 78 6 76 77)
 (.f (jf 79 2 78)
 (.f (jl 80 79)
 (.f (jx 81 1 70 75)
 (.m (js 81 80)
 .done)))))))))))))))))))
 (jR [(jm 25 7),(ja 26 25 1),(jm 7 26)]))))))
 (jQ (jR [(jk 4 0),(jk 5 0)])
 .ret)))))),
 [.tmp 4, .tmp 5]⟩
theorem q6X:qn Tryz.prog qd 77=some ⟨q24.n,qi q24.body,q24.res⟩:=by kernel_rfl
def q2C:IFn:=⟨75,
 (jQ (jR [(jb 5 116 0),(jo 10 (.mov (.const (.bool false))))])
 (jQ (.seq (jR [(jf 11 1 5),(jl 12 11),(jo 13 (.bin .lss 12 (jI 0))),(jm 14 13),(jz 14 (jf 15 1 5)),(jz 14 (jl 16 15)),(jz 14 (jm 17 1)),
 (jz 14 (jo 18 (.bin .geq 16 17))),(jO 19 14 18),(jm 20 19),(jz 20 (jf 21 2 5)),(jz 20 (jl 22 21)),(jz 20 (jo 23 (.bin .lss 22 (jI 1)))),
 (jO 24 20 23),(jm 25 24),(jz 25 (jf 26 2 5)),(jz 25 (jl 27 26)),(jz 25 (jo 28 (.bin .gtr 27 (jI 4)))),(jO 29 25 28),(jm 30 29),(jz 30 (jm 31 2)),
 (jz 30 (jo 32 (.not 31))),(jz 30 (jm 33 32)),(jy 33 (jf 34 0 5)),(jy 33 (jl 35 34)),(jy 33 (jm 36 3)),(jy 33 (jw 37 35 36)),(jz 30 (jA 38 33 37)),
 (jO 39 30 38)])
 (.cond 39
 (jQ (jR [(jo 10 (.mov (.const (.bool false))))])
 .ret)
 .skip))
 (jQ (.seq (jR [(jf 40 3 5),(jl 41 40),(jo 42 (.bin .lss 41 (jI 0))),(jm 43 42),(jz 43 (jf 44 3 5)),(jz 43 (jl 45 44)),(jz 43 (jo 46 (.bin .geq 45 (jI 64)))),
 (jO 47 43 46),(jm 48 47),(jz 48 (jf 49 4 5)),(jz 48 (jl 50 49)),(jz 48 (jc 51 138 50)),(jz 48 (jo 52 (.not 51))),(jO 53 48 52),(jm 54 53),(jz 54 (jf 55 5 5)),
 (jz 54 (jl 56 55)),(jz 54 (jc 57 138 56)),(jz 54 (jo 58 (.not 57))),(jO 59 54 58)])
 (.cond 59
 (jQ (jR [(jo 10 (.mov (.const (.bool false))))])
 .ret)
 .skip))
 (jQ (.seq (jR [(jf 60 2 5),(jl 61 60),(jq 62 61 4)])
 (.cond 62
 (jQ (jR [(jm 63 4),(jq 64 63 3),(jm 10 64)])
 .ret)
 .skip))
 (jQ (jR [(jf 65 4 5),(jl 66 65),(jt 67 66),(jq 68 67 0),(jm 69 68),(jy 69 (jf 70 5 5)),(jy 69 (jl 71 70)),(jy 69 (jt 72 71)),(jy 69 (jq 73 72 0)),
 (jA 74 69 73),(jm 10 74)])
 .ret))))),
 [.tmp 10]⟩
theorem q7C:qn Tryz.prog qd 110=some ⟨q2C.n,qi q2C.body,q2C.res⟩:=by kernel_rfl
def q25:IFn:=⟨22,
 (jQ (jR [(jo 2 (.mov (.const (.bool false))))])
 (jQ (.seq (jR [(jk 3 0)])
 (.block 0
 (.loop 4194300
 (jQ (.seq (jR [(jm 4 3),(jm 5 0),(jt 6 5),(jw 7 4 6)])
 (.cond 7
 .skip
 (.exit 0)))
 (jQ (.block 1
 (jQ (jR [(jm 10 0),(jm 11 3),(jx 12 1 10 11),(jl 13 12),(jo 14 (.bin .lss 13 (jI 0))),(jm 15 14),(jz 15 (jm 16 0)),(jz 15 (jm 17 3)),
 (jz 15 (jx 18 1 16 17)),(jz 15 (jl 19 18)),(jz 15 (jo 20 (.bin .geq 19 (jI 64)))),(jO 21 15 20)])
 (.cond 21
 (jQ (jR [(jo 2 (.mov (.const (.bool false))))])
 .ret)
 .skip)))
 (jR [(jm 8 3),(ja 9 8 1),(jm 3 9)]))))))
 (jQ (jR [(jo 2 (.mov (.const (.bool true))))])
 .ret))),
 [.tmp 2]⟩
theorem q6Y:qn Tryz.prog qd 138=some ⟨q25.n,qi q25.body,q25.res⟩:=by kernel_rfl
namespace Ord
abbrev qM(n:Int):List Value:= [.int .i64 n]
theorem qeM{p:Int→Bool}{l:List Int}{i:Nat}{x:Int}(hx:l[i]? =some x):(l.take (i+1)).all p=((l.take i).all p&&p x):=by
 rw[List.take_add_one,hx];simp
theorem qcK{p:Int→Bool}{l:List Int}{i:Nat}{x:Int}(hx:l[i]? =some x)(hp:p x=false):l.all p=false:=by
 rw[List.all_eq_false]
 exact⟨x,List.mem_of_getElem? hx,by simp[hp]⟩
section
variable{W0:World}{own:Own}{a:Option Addr}{cap:Nat}{l:List Int}
theorem q9Z(hR:RdE qM 1 W0 own a l)(hl:l.length≤9223372036854775807):qD Tryz.prog W0 138 [.slice a l.length cap] own (.bool (l.all inW)):=by
 refine qe (qa qj q6Y (by simp[q25]) ?_)
 refine q1N (σ:=Nat) (fun i=> [(3, .int .i64 i)]) (fun i=>i≤l.length∧(l.take i).all inW=true) (fun i=>l.length-i) 0 ⟨by omega,rfl⟩ (eF) rfl ?_
 rintro i junk ⟨hi,hI⟩
 by_cases hlt:i<l.length
 ·obtain⟨x,hx⟩:∃x,l[i]? =some x:=⟨_,List.getElem?_eq_getElem hlt⟩
  have hlt':(i:Int)<l.length:=by omega
  by_cases hw:0≤x∧x<64
  ·have hx1:inW x=true:=by unfold inW;exact decide_eq_true hw
   repeat'((try(conv=>whnf));first|(refine fH ?_)|(refine fF ?_)|(refine fG ?_)|(refine fK ?_)|((with_reducible show Ld _ _ _ _);first|(refine q1M hR hx rfl ?_))|((with_reducible show IxS _ _ _ _ _);first|((refine ixE hR hx ?_ ?_;(first|rfl|omega))))|(refine fB ?_))
   exact⟨i+1,⟨by omega,by rw[qeM hx,hI,hx1];rfl⟩,by omega,(eF),(eC)⟩
  ·have hx1:inW x=false:=by unfold inW;exact decide_eq_false hw
   repeat'((try(conv=>whnf));first|(refine fH ?_)|(refine fI ?_)|(refine fE ?_)|(refine fF ?_)|((with_reducible show Ld _ _ _ _);first|(refine q1M hR hx rfl ?_))|((with_reducible show IxS _ _ _ _ _);first|((refine ixE hR hx ?_ ?_;(first|rfl|omega))))|(apply q4P;(exact rfl);(exact rfl);all_goals intro hc))
   all_goals first|(exfalso;omega)|exact⟨q0N (vb (qcK hx hx1).symm),(eC)⟩
 ·have hi2:i=l.length:=by omega
  subst hi2
  rw[List.take_length] at hI
  have hlt':¬(l.length:Int)<l.length:=by omega
  repeat'((try(conv=>whnf));first|(refine fG ?_))
  exact⟨q0N (vb hI.symm),(eC)⟩
def ifx(p:Int→Bool)(l:List Int):Int:=match l.findIdx? p with
 |some i=>i
 |none=> -1
theorem qe5{g:FuncId}{p:Int→Bool}(hg:okF Tryz.prog g=true)(hp:∀own x,qD Tryz.prog W0 g [.int .i64 x] own (.bool (p x)))(hR:RdE qM 1 W0 own a l)(hl:l.length≤9223372036854775807):
  qD Tryz.prog W0 162 [.slice a l.length cap, .func (.func g) #[] #[]] own (.int .i64 (ifx p l)):=by
 refine qe (qa qj q3j (by simp[qV]) ?_)
 refine q1N (σ:=Nat) (fun i=> [(8, .int .i64 i)]) (fun i=>i≤l.length∧∀j x,j<i→l[j]? =some x→p x=false) (fun i=>l.length-i) 0 ⟨by omega,fun j x h=>by omega⟩ (eF) rfl ?_
 rintro i junk ⟨hi,hI⟩
 by_cases hlt:i<l.length
 ·obtain⟨x,hx⟩:∃x,l[i]? =some x:=⟨_,List.getElem?_eq_getElem hlt⟩
  have hlt':(i:Int)<l.length:=by omega
  have hpx:=hp own x
  cases hb:p x with
  |true=>
   rw[hb] at hpx
   repeat'((try(conv=>whnf));first|(refine fE ?_)|(refine fF ?_)|(refine⟨hg,qg hpx ?_⟩)|((with_reducible show Ld _ _ _ _);first|(refine q1M hR hx rfl ?_))|((with_reducible show IxS _ _ _ _ _);first|((refine ixE hR hx ?_ ?_;(first|rfl|omega)))))
   refine⟨q0N (vi ?_),(eC)⟩
   have:l.findIdx? p=some i:=by
    rw[List.findIdx?_eq_some_iff_getElem]
    have hx2:=(List.getElem?_eq_some_iff.1 hx).2
    refine⟨hlt,by rw[hx2];exact hb,fun j hj=> ?_⟩
    have:=hI j (l[j]'(by omega)) hj (List.getElem?_eq_getElem (by omega))
    simp[this]
   unfold ifx;rw[this]
  |false=>
   rw[hb] at hpx
   repeat'((try(conv=>whnf));first|(refine fD ?_)|(refine fF ?_)|(refine⟨hg,qg hpx ?_⟩)|((with_reducible show Ld _ _ _ _);first|(refine q1M hR hx rfl ?_))|((with_reducible show IxS _ _ _ _ _);first|((refine ixE hR hx ?_ ?_;(first|rfl|omega))))|(refine fB ?_))
   refine⟨i+1,⟨by omega,fun j y hj hy=> ?_⟩,by omega,(eF),(eC)⟩
   by_cases hji:j=i
   ·subst hji
    rw[hx] at hy
    obtain rfl:=Option.some.inj hy
    exact hb
   ·exact hI j y (by omega) hy
 ·have hlt':¬(i:Int)<l.length:=by omega
  repeat'((try(conv=>whnf));first|(refine fG ?_))
  refine⟨q0N (vi ?_),(eC)⟩
  have:l.findIdx? p=none:=by
   rw[List.findIdx?_eq_none_iff]
   intro x hx
   obtain⟨j,hj⟩:=List.getElem?_of_mem hx
   have:=(List.getElem?_eq_some_iff.1 hj).1
   exact hI j x (by omega) hj
  unfold ifx;rw[this]
theorem qdp(p:Int→Bool)(l:List Int):decide (0≤ifx p l)=l.any p:=by
 unfold ifx
 cases h:l.findIdx? p with
 |none=>
  rw[List.findIdx?_eq_none_iff] at h
  have:l.any p=false:=by rw[List.any_eq_false];intro x hx;simp[h x hx]
  rw[this];rfl
 |some i=>
  rw[List.findIdx?_eq_some_iff_getElem] at h
  obtain⟨hi,hp,_⟩:=h
  have:l.any p=true:=List.any_eq_true.2 ⟨l[i],List.getElem_mem hi,hp⟩
  rw[this];simp
theorem q9Q{g:FuncId}{p:Int→Bool}(hg:okF Tryz.prog g=true)(hp:∀own x,qD Tryz.prog W0 g [.int .i64 x] own (.bool (p x)))(hR:RdE qM 1 W0 own a l)(hl:l.length≤9223372036854775807):
  qD Tryz.prog W0 139 [.slice a l.length cap, .func (.func g) #[] #[]] own (.bool (l.any p)):=by
 refine qe (qa qj q2M (by simp[qE]) ?_)
 have h:=qe5 (cap:=cap) hg hp hR hl
 repeat'((try(conv=>whnf));first|((with_reducible show qf _ _ _ _ _ _);first|((refine qh (h) ?_ ?_ ?_;(exact rfl);exact rfl))))
 exact⟨q0N (vb (qdp p l)),(eC)⟩
end
structure EvR(W0:World)(own:Own)(e:EH):Prop where
 r:RdE qM 1 W0 own e.ra e.rl
 w:RdE qM 1 W0 own e.wa e.wl
 rb:e.rl.length≤17592186043904
 wb:e.wl.length≤17592186043904
theorem EvR.rn{W0:World}{own:Own}{e:EH}(h:EvR W0 own e):e.rl.length≤9223372036854775807:=Nat.le_trans h.rb (by decide)
theorem EvR.wn{W0:World}{own:Own}{e:EH}(h:EvR W0 own e):e.wl.length≤9223372036854775807:=Nat.le_trans h.wb (by decide)
theorem EvR.up{W0:World}{own own':Own}{e:EH}(h:EvR W0 own' e) [m:qt own own']:EvR W0 own e:=⟨h.r.up,h.w.up,h.rb,h.wb⟩
def qbz(n:Int)(first:Bool)(pa last:Int)(e:EH):Bool:=
 decide (0≤e.t∧e.t<n∧1≤e.k∧e.k≤4∧(first=true∨pa≤e.ev)∧0≤e.w∧e.w<64)&&e.rl.all inW&&e.wl.all inW&&(if e.k=4 then decide (last=3) else decide (e.rl.length=0∧e.wl.length=0))
section
variable{W0:World}{own:Own}{a:Option Addr}{cap:Nat}
theorem qfN{e:EH}(hE:EvR W0 own e)(n:Int)(first:Bool)(pa last:Int):
  qD Tryz.prog W0 110 [e.v, .int .i64 n, .bool first, .int .i64 pa, .int .i64 last] own (.bool (qbz n first pa last e)):=by
 refine qe (qa qj q7C (by simp[q2C]) ?_)
 have hr:∀own' [qt own' own],qD Tryz.prog W0 138 [.slice e.ra e.rl.length e.rc] own' (.bool (e.rl.all inW)):=fun own' h=>q9Z (hE.r.ent (h.h W0)) hE.rn
 have hw:∀own' [qt own' own],qD Tryz.prog W0 138 [.slice e.wa e.wl.length e.wc] own' (.bool (e.wl.all inW)):=fun own' h=>q9Z (hE.w.ent (h.h W0)) hE.wn
 unfold qbz
 clear hE
 obtain⟨ev,t,k,w,ra,rl,rc,wa,wl,wc⟩:=e
 dsimp only[EH.v] at*
 generalize rl.all inW=zr at*
 generalize wl.all inW=zw at*
 generalize rl.length=lr at*
 generalize wl.length=lw at*
 by_cases h1:0≤t∧t<n∧1≤k∧k≤4∧(first=true∨pa≤ev)∧0≤w∧w<64
 ·rw[decide_eq_true h1]
  obtain⟨a1,a2,a3,a4,a5,a6,a7⟩:=h1
  cases first <;>cases zr <;>cases zw
  all_goals(try simp only[Bool.false_eq_true,false_or] at a5)
  all_goals
   repeat'((try(conv=>whnf));first|(refine fH ?_)|(refine fI ?_)|(refine fE ?_)|(refine fD ?_)|(refine fG ?_)|(refine fK ?_)|((with_reducible show qf _ _ _ _ _ _);first|((refine qh (hr _) ?_ ?_ ?_;(exact rfl);exact rfl))|((refine qh (hw _) ?_ ?_ ?_;(exact rfl);exact rfl)))|(refine fA ?_)|(refine qc (fun bk hbk=> ?_))|(apply q0e;(exact rfl);(exact rfl);all_goals intro hc)|(apply q9q;(exact rfl);all_goals intro hc))
   all_goals first|exact⟨rfl,(eC)⟩|(refine⟨q0N (vb ?_),(eC)⟩;simp_all;done)|(refine⟨q0N (vb ?_),(eC)⟩;simp_all;omega)
 ·rw[decide_eq_false h1]
  cases first <;>cases zr <;>cases zw
  all_goals(try simp only[Bool.false_eq_true,false_or,true_or,true_and] at h1)
  all_goals
   repeat'((try(conv=>whnf));first|(refine fH ?_)|(refine fI ?_)|(refine fE ?_)|(refine fD ?_)|(refine fJ ?_)|(refine fA ?_)|(refine qc (fun bk hbk=> ?_))|(apply q4P;(exact rfl);(exact rfl);all_goals intro hc)|(apply q9q;(exact rfl);all_goals intro hc))
   all_goals first|exact⟨rfl,(eC)⟩|(exfalso;omega)
end
theorem q0R{α:Type}{l:List α}{k:Nat}{x:α}(hx:l[k]? =some x):l.drop k=x::l.drop (k+1):=by
 obtain⟨hk,he⟩:=List.getElem?_eq_some_iff.1 hx
 rw[List.drop_eq_getElem_cons hk,he]
def q3V(l:List EH)(i:Nat):Int:=if i=0 then 0 else(at' l (i-1)).ev
theorem q5b{l:List EH}{i:Nat}{e:EH}(h:l[i]? =some e):q3V l (i+1)=e.ev:=by
 unfold q3V at'
 rw[if_neg (by omega),Nat.add_sub_cancel,List.getD_eq_getElem?_getD,h];rfl
theorem qfv{n:Nat}{i:Nat}{pa kd:Int}{e:EH}:qbz n (decide ((i:Int)=0)) pa kd e=q1m n (i==0) pa kd e:=by
 unfold qbz q1m
 have h1:decide ((i:Int)=0)=(i==0):=by rw[Bool.eq_iff_iff];simp
 have h2:decide (e.rl.length=0∧e.wl.length=0)=decide (e.rl= []∧e.wl= []):=by simp[List.length_eq_zero_iff]
 rw[h1,h2]
theorem qb8{n:Nat}{f:Bool}{pa kd:Int}{e:EH}(h:q1m n f pa kd e=true):0≤e.t∧e.t<n:=by
 unfold q1m at h
 simp only[Bool.and_eq_true,decide_eq_true_eq] at h
 exact⟨h.1.1.1.1,h.1.1.1.2.1⟩
theorem q6m{n:Nat}{f:Bool}{pa kd:Int}{e:EH}(h:¬(0≤e.t∧e.t<n)):q1m n f pa kd e=false:=by
 cases hb:q1m n f pa kd e with
 |false=>rfl
 |true=>exact absurd (qb8 hb) h
abbrev qlH(r:Int×Int):Value:= .tuple #[.int .i64 r.1, .int .i64 r.2]
section
variable{W0:World}{own:Own}{a:Option Addr}{cap:Nat}{l:List EH}
theorem q5l(hR:RdE EH.enc 6 W0 own a l)(hE:∀e∈l,EvR W0 own e)(n:Int):
  qD Tryz.prog W0 77 [.slice a l.length cap, .int .i64 n] own (qlH (q7q l n)):=by
 refine qe (qa qj q6X (by simp[q24]) ?_)
 unfold q7q
 by_cases hn:n<1∨16<n
 ·rw[if_pos hn]
  repeat'((try(conv=>whnf));first|(refine fH ?_)|(refine fI ?_)|(refine fE ?_)|(refine fF ?_)|(apply q4P;(exact rfl);(exact rfl);all_goals intro hc))
  all_goals exact⟨rfl,(eC)⟩
 ·rw[if_neg hn]
  by_cases hl:65536<l.length
  ·rw[if_pos hl]
   repeat'((try(conv=>whnf));first|(refine fH ?_)|(refine fF ?_)|(refine fG ?_)|(refine fK ?_))
   all_goals exact⟨rfl,(eC)⟩
  ·rw[if_neg hl]
   obtain⟨m,rfl⟩:∃m:Nat,n=m:=⟨n.toNat,by omega⟩
   rw[Int.toNat_natCast]
   generalize hres:qaT m l 0 0 (List.replicate m 0)=res
   repeat'((try(conv=>whnf));first|(refine fH ?_)|(refine fG ?_)|(refine fK ?_)|(refine mkC (enc:=qM) m 0 rfl rfl rfl (by omega) (fun b=> ?_)))
   refine q0Z (σ:=Nat×List Int) (fun s=> [(7, .int .i64 s.1)]) (fun s=>q2J qM 3 b s.2::own) (fun s=>s.1≤l.length∧s.2.length=m∧qaT m (l.drop s.1) s.1 (q3V l s.1) s.2=res) (fun s=>l.length-s.1) (0,List.replicate m 0) ⟨by simp,by simp,hres⟩ (eF) Ent.refl rfl ?_
   rintro⟨i,last⟩ junk ⟨hi,hlen,hI⟩
   dsimp only at hi hlen hI ⊢
   by_cases hlt:i<l.length
   ·obtain⟨e,he⟩:∃e,l[i]? =some e:=⟨_,List.getElem?_eq_getElem hlt⟩
    have hlt':(i:Int)<l.length:=by omega
    have hEe:=hE e (List.mem_of_getElem? he)
    rw[q0R he,qaT] at hI
    have hf:∀(own':Own) [qt own' own] (pa kd:Int),qD Tryz.prog W0 110 [e.v, .int .i64 m, .bool (decide ((i:Int)=0)), .int .i64 pa, .int .i64 kd] own' (.bool (q1m m (i==0) pa kd e)):=fun own' _ pa kd=>by
     have:=qfN (hEe.up (own:=own')) m (decide ((i:Int)=0)) pa kd
     rw[qfv] at this
     exact this
    have hw:∀x∈last,(qM x).length=1:=fun _ _=>rfl
    by_cases ht:0≤e.t∧e.t<m
    ·obtain⟨kd,hkd⟩:∃kd,last[e.t.toNat]? =some kd:=⟨_,List.getElem?_eq_getElem (by omega)⟩
     have hgd:last.getD e.t.toNat 0=kd:=by rw[List.getD_eq_getElem?_getD,hkd];rfl
     rw[hgd] at hI
     by_cases h0:i=0
     ·have hpa:q3V l i=0:=by unfold q3V;rw[if_pos h0]
      have hfe:=fun own' h=> @hf own' h 0 kd
      rw[hpa] at hI
      cases hb:q1m m (i==0) 0 kd e with
      |true=>
       rw[hb] at hI
       simp only[hb] at hfe
       simp only[if_true] at hI
       repeat'((try(conv=>whnf));first|(refine fH ?_)|(refine fD ?_)|(refine fF ?_)|(refine fG ?_)|(refine fJ ?_)|(apply stC (T:=3) (k:=0) e.k hw hkd;(exact rfl);(omega);(exact rfl);(exact rfl))|((with_reducible show Ld _ _ _ _);first|(refine qgp hR he rfl ?_)|(refine qbj hw hkd rfl ?_))|((with_reducible show IxS _ _ _ _ _);first|((refine ixE hR he ?_ ?_;(first|rfl|omega)))|((refine ixC hkd hlen.symm ?_ ?_;(first|rfl|omega))))|((with_reducible show LdN _ _ _ _ _);first|(refine q2e hR he rfl ?_))|((with_reducible show qf _ _ _ _ _ _);first|((refine qh (hfe _ ⟨fun _=>Ent.drop⟩) ?_ ?_ ?_;(exact rfl);exact rfl)))|(refine fB ?_))
       exact⟨(i+1,last.set e.t.toNat e.k),⟨by simp only;omega,by simp only[List.length_set];exact hlen,by simp only;rw[q5b he];exact hI⟩,by simp only;omega,(eF),Ent.refl⟩
      |false=>
       rw[hb] at hI
       simp only[hb] at hfe
       simp only[Bool.false_eq_true,if_false] at hI
       repeat'((try(conv=>whnf));first|(refine fH ?_)|(refine fE ?_)|(refine fF ?_)|(refine fG ?_)|(refine fJ ?_)|((with_reducible show Ld _ _ _ _);first|(refine qgp hR he rfl ?_)|(refine qbj hw hkd rfl ?_))|((with_reducible show IxS _ _ _ _ _);first|((refine ixE hR he ?_ ?_;(first|rfl|omega)))|((refine ixC hkd hlen.symm ?_ ?_;(first|rfl|omega))))|((with_reducible show LdN _ _ _ _ _);first|(refine q2e hR he rfl ?_))|((with_reducible show qf _ _ _ _ _ _);first|((refine qh (hfe _ ⟨fun _=>Ent.drop⟩) ?_ ?_ ?_;(exact rfl);exact rfl))))
       all_goals(rw[←hI];exact⟨rfl,(eC)⟩)
     ·obtain⟨e',he'⟩:∃e',l[i-1]? =some e':=⟨_,List.getElem?_eq_getElem (by omega)⟩
      have hpa:q3V l i=e'.ev:=by unfold q3V at';rw[if_neg h0,List.getD_eq_getElem?_getD,he'];rfl
      have hfe:=fun own' h=> @hf own' h e'.ev kd
      rw[hpa] at hI
      cases hb:q1m m (i==0) e'.ev kd e with
      |true=>
       rw[hb] at hI
       simp only[hb] at hfe
       simp only[if_true] at hI
       repeat'((try(conv=>whnf));first|(refine fH ?_)|(refine fD ?_)|(refine fF ?_)|(refine fJ ?_)|(apply stC (T:=3) (k:=0) e.k hw hkd;(exact rfl);(omega);(exact rfl);(exact rfl))|((with_reducible show Ld _ _ _ _);first|(refine qgp hR he rfl ?_)|(refine q1M hR he' rfl ?_)|(refine qbj hw hkd rfl ?_))|((with_reducible show IxS _ _ _ _ _);first|((refine ixE hR he ?_ ?_;(first|rfl|omega)))|((refine ixE hR he' ?_ ?_;(first|rfl|omega)))|((refine ixC hkd hlen.symm ?_ ?_;(first|rfl|omega))))|((with_reducible show LdN _ _ _ _ _);first|(refine q2e hR he rfl ?_))|((with_reducible show qf _ _ _ _ _ _);first|((refine qh (hfe _ ⟨fun _=>Ent.drop⟩) ?_ ?_ ?_;(exact rfl);exact rfl)))|(refine fB ?_))
       exact⟨(i+1,last.set e.t.toNat e.k),⟨by simp only;omega,by simp only[List.length_set];exact hlen,by simp only;rw[q5b he];exact hI⟩,by simp only;omega,(eF),Ent.refl⟩
      |false=>
       rw[hb] at hI
       simp only[hb] at hfe
       simp only[Bool.false_eq_true,if_false] at hI
       repeat'((try(conv=>whnf));first|(refine fH ?_)|(refine fE ?_)|(refine fF ?_)|(refine fJ ?_)|((with_reducible show Ld _ _ _ _);first|(refine qgp hR he rfl ?_)|(refine q1M hR he' rfl ?_)|(refine qbj hw hkd rfl ?_))|((with_reducible show IxS _ _ _ _ _);first|((refine ixE hR he ?_ ?_;(first|rfl|omega)))|((refine ixE hR he' ?_ ?_;(first|rfl|omega)))|((refine ixC hkd hlen.symm ?_ ?_;(first|rfl|omega))))|((with_reducible show LdN _ _ _ _ _);first|(refine q2e hR he rfl ?_))|((with_reducible show qf _ _ _ _ _ _);first|((refine qh (hfe _ ⟨fun _=>Ent.drop⟩) ?_ ?_ ?_;(exact rfl);exact rfl)))|(refine fB ?_))
       all_goals(rw[←hI];exact⟨rfl,(eC)⟩)
    ·rw[q6m ht] at hI
     simp only[Bool.false_eq_true,if_false] at hI
     have hfe:∀(own':Own),qt own' own→∀pa,qD Tryz.prog W0 110 [e.v, .int .i64 m, .bool (decide ((i:Int)=0)), .int .i64 pa, .int .i64 0] own' (.bool false):=fun own' h pa=>by
      have:= @hf own' h pa 0
      rw[q6m ht] at this
      exact this
     by_cases h0:i=0
     ·repeat'((try(conv=>whnf));first|(refine fH ?_)|(refine fI ?_)|(refine fE ?_)|(refine fD ?_)|(refine fF ?_)|(refine fG ?_)|((with_reducible show Ld _ _ _ _);first|(refine qgp hR he rfl ?_))|((with_reducible show IxS _ _ _ _ _);first|((refine ixE hR he ?_ ?_;(first|rfl|omega))))|((with_reducible show LdN _ _ _ _ _);first|(refine q2e hR he rfl ?_))|((with_reducible show qf _ _ _ _ _ _);first|((refine qh (hfe _ ⟨fun _=>Ent.drop⟩ 0) ?_ ?_ ?_;(exact rfl);exact rfl)))|(apply q0e;(exact rfl);(exact rfl);all_goals intro hc))
      all_goals first|(exfalso;omega)|(rw[←hI];exact⟨rfl,(eC)⟩)
     ·obtain⟨e',he'⟩:∃e',l[i-1]? =some e':=⟨_,List.getElem?_eq_getElem (by omega)⟩
      repeat'((try(conv=>whnf));first|(refine fH ?_)|(refine fI ?_)|(refine fE ?_)|(refine fD ?_)|(refine fF ?_)|(refine fG ?_)|((with_reducible show Ld _ _ _ _);first|(refine qgp hR he rfl ?_)|(refine q1M hR he' rfl ?_))|((with_reducible show IxS _ _ _ _ _);first|((refine ixE hR he ?_ ?_;(first|rfl|omega)))|((refine ixE hR he' ?_ ?_;(first|rfl|omega))))|((with_reducible show LdN _ _ _ _ _);first|(refine q2e hR he rfl ?_))|((with_reducible show qf _ _ _ _ _ _);first|((refine qh (hfe _ ⟨fun _=>Ent.drop⟩ e'.ev) ?_ ?_ ?_;(exact rfl);exact rfl)))|(refine fB ?_)|(apply q0e;(exact rfl);(exact rfl);all_goals intro hc))
      all_goals first|(exfalso;omega)|(rw[←hI];exact⟨rfl,(eC)⟩)
   ·have hi2:i=l.length:=by omega
    have hlt':¬(i:Int)<l.length:=by omega
    rw[hi2,List.drop_length,qaT] at hI
    repeat'((try(conv=>whnf));first|(refine fG ?_))
    all_goals(rw[←hI];exact⟨rfl,(eC)⟩)
end
theorem qg6{l:List EH}{i:Nat}{e:EH}(h:l[i]? =some e):at' l i=e:=by
 unfold at';rw[List.getD_eq_getElem?_getD,h];rfl
def bgL(l:List EH)(t:Int):Nat→Int
 |0=> -1
 |i+1=>if thr l i=t then i else bgL l t i
theorem qg8(l:List EH)(t:Int):∀i,bgL l t i<i∧ -1≤bgL l t i
 |0=>by simp[bgL]
 |i+1=>by
  have:=qg8 l t i
  unfold bgL
  split <;>omega
theorem qaN{l:List EH}{p i:Nat}(h:qau l i p):∀j,p<j→j≤i→bgL l (thr l i) j=p
 |0,h1,_=>by omega
 |j+1,h1,h2=>by
  unfold bgL
  by_cases hj:j=p
  ·subst hj;rw[if_pos h.2.1]
  ·rw[if_neg (h.2.2 j (by omega) (by omega))]
   exact qaN h j (by omega) (by omega)
theorem qcR{l:List EH}{p i:Nat}(h:qau l i p):bgL l (thr l i) i=p:=qaN h i h.1 (Nat.le_refl i)
section
variable{W0:World}{own:Own}{a:Option Addr}{cap:Nat}{l:List EH}
def qeV(l:List EH):Nat→List Bool
 |0=>List.replicate l.length false
 |i+1=>if knd l i=4 then((qeV l i).set i (decide (knd l i≠3))).set (bgL l (thr l i) i).toNat true else(qeV l i).set i (decide (knd l i≠3))
theorem q8u(l:List EH):∀i,(qeV l i).length=l.length
 |0=>by simp[qeV]
 |i+1=>by unfold qeV;split <;>simp[q8u l i]
end
def isB(l:List EH)(i:Nat):Bool:=(qeV l l.length).getD i false
def qkc(l:List EH)(i j:Nat):Bool:=decide (i<j)&&(isB l i&&isB l j&&(decide (thr l i=thr l j)||(decide (knd l i=4)&&(decide (knd l j=4)||decide (knd l j=3)))))
theorem qkh{α:Type}{enc:α→List Value}{sz:Nat}{W0:World}{own own':Own}{l:List α}{b j:Nat}{x:α}{v:Value}{K:Value→Prop}(h:RdE enc sz W0 own' (some ⟨b,0,none⟩) l)(hx:l[j]? =some x) [m:qt own own'](hv:(enc x)[0]? =some v)(hk:K v):Ld W0 own ⟨b,j*sz,none⟩ K:=by
 have:=q1M (own:=own) h hx hv hk
 simp only[ab,ao,Nat.zero_add] at this
 exact this
theorem qcO{l:List EH}{t:Int}:∀(j p:Nat),bgL l t j=p→p<j∧thr l p=t∧∀q,p<q→q<j→thr l q≠t
 |0,p,h=>by unfold bgL at h;omega
 |j+1,p,h=>by
  unfold bgL at h
  split at h
  ·rename_i ht
   have:p=j:=by omega
   subst this
   exact⟨by omega,ht,fun q a b=>by omega⟩
  ·rename_i hn
   obtain⟨a,b,c⟩:=qcO j p h
   refine⟨by omega,b,fun q h1 h2=> ?_⟩
   by_cases hq:q=j
   ·subst hq;exact hn
   ·exact c q h1 (by omega)
theorem q91{l:List EH}{i p:Nat}:qau l i p↔bgL l (thr l i) i=p:=⟨qcR,fun h=>qcO i p h⟩
theorem qcQ{l:List EH}{n i:Nat}(hw:Wf l n)(hi:i<l.length)(h4:knd l i=4):∃p:Nat,bgL l (thr l i) i=p∧p<i∧knd l p=3∧thr l p=thr l i:=by
 obtain⟨p,hp,h3⟩:=hw.en i hi h4
 exact⟨p,qcR hp,hp.1,h3,hp.2.1⟩
section
open Classical
theorem qaY{l:List EH}{n:Nat}(hw:Wf l n):∀k,k≤l.length→∀i,i<l.length→(qeV l k)[i]? =some (decide ((i<k∧knd l i≠3)∨∃e,e<k∧knd l e=4∧bgL l (thr l e) e=i))
 |0,_,i,hi=>by
  unfold qeV
  simp[hi]
 |k+1,hk,i,hi=>by
  have ih:=qaY hw k (by omega) i hi
  have hlen:=q8u l k
  unfold qeV
  by_cases h4:knd l k=4
  ·rw[if_pos h4]
   obtain⟨p,hp,hpk,h3,_⟩:=qcQ hw (by omega) h4
   rw[hp,Int.toNat_natCast,List.getElem?_set]
   by_cases hip:p=i
   ·subst hip
    rw[if_pos rfl,if_pos (by rw[List.length_set];omega)]
    congr 1
    refine(decide_eq_true ?_).symm
    exact .inr ⟨k,by omega,h4,hp⟩
   ·rw[if_neg hip,List.getElem?_set]
    by_cases hik:k=i
    ·subst hik
     rw[if_pos rfl,if_pos (by omega)]
     congr 1
     rw[decide_eq_true (by omega:knd l k≠3)]
     exact(decide_eq_true (.inl ⟨by omega,by omega⟩)).symm
    ·rw[if_neg hik,ih]
     congr 1
     refine decide_eq_decide.2 ⟨?_,?_⟩
     ·rintro(⟨a,b⟩|⟨e,a,b,c⟩)
      ·exact .inl ⟨by omega,b⟩
      ·exact .inr ⟨e,by omega,b,c⟩
     ·rintro(⟨a,b⟩|⟨e,a,b,c⟩)
      ·exact .inl ⟨by omega,b⟩
      ·by_cases hek:e=k
       ·subst hek;rw[hp] at c;exact absurd (by omega) hip
       ·exact .inr ⟨e,by omega,b,c⟩
  ·rw[if_neg h4,List.getElem?_set]
   by_cases hik:k=i
   ·subst hik
    rw[if_pos rfl,if_pos (by omega)]
    congr 1
    refine decide_eq_decide.2 ⟨fun h=> .inl ⟨by omega,h⟩,?_⟩
    rintro(⟨a,b⟩|⟨e,a,b,c⟩)
    ·exact b
    ·have:=(qcO e k c).1
     omega
   ·rw[if_neg hik,ih]
    congr 1
    refine decide_eq_decide.2 ⟨?_,?_⟩
    ·rintro(⟨a,b⟩|⟨e,a,b,c⟩)
     ·exact .inl ⟨by omega,b⟩
     ·exact .inr ⟨e,by omega,b,c⟩
    ·rintro(⟨a,b⟩|⟨e,a,b,c⟩)
     ·exact .inl ⟨by omega,b⟩
     ·by_cases hek:e=k
      ·subst hek;exact absurd b h4
      ·exact .inr ⟨e,by omega,b,c⟩
end
theorem qhD{l:List EH}{n:Nat}(hw:Wf l n)(i:Nat):isB l i=true↔q8v l i:=by
 unfold isB q8v
 rw[List.getD_eq_getElem?_getD]
 by_cases hi:i<l.length
 ·rw[qaY hw l.length (Nat.le_refl _) i hi]
  simp only[Option.getD_some,decide_eq_true_iff]
  constructor
  ·rintro(⟨a,b⟩|⟨e,a,b,c⟩)
   ·exact⟨hi, .inl b⟩
   ·exact⟨hi, .inr ⟨e,a,q91.2 c,b⟩⟩
  ·rintro⟨_,b|⟨e,a,b,c⟩⟩
   ·exact .inl ⟨hi,b⟩
   ·exact .inr ⟨e,a,c,q91.1 b⟩
 ·rw[List.getElem?_eq_none (by rw[q8u];omega)]
  simp[hi]
theorem qeX{l:List EH}{n:Nat}(hw:Wf l n)(i j:Nat):qkc l i j=true↔DI l i j:=by
 unfold qkc DI
 simp only[Bool.and_eq_true,Bool.or_eq_true,decide_eq_true_eq,qhD hw,and_assoc]
noncomputable def hbB(l:List EH)(i j:Nat):Bool:= @decide (HB l i j) (Classical.propDecidable _)
theorem hbB_iff{l:List EH}{i j:Nat}:hbB l i j=true↔HB l i j:=by unfold hbB;exact @decide_eq_true_iff _ (Classical.propDecidable _)
theorem qiW{l:List EH}{n:Nat}(hw:Wf l n)(i j:Nat):qaf (qkc l) l.length i j=hbB l i j:=by
 rw[Bool.eq_iff_iff,hbB_iff]
 exact qh0 hw (qeX hw) i j
def cfP(a b:EH)(w:Int):Bool:=decide (a.w=w)&&(if b.k=4 then(b.wl.contains w||(decide (a.k=2)&&b.rl.contains w)) else decide (b.w=w)&&(decide (a.k=2)||decide (b.k=2)))
def confB(a b:EH)(w:Int):Bool:= !decide (a.t=b.t)&&(if a.k=4 then !decide (b.k=4)&&cfP b a w else cfP a b w)
abbrev q0G:=Int×Int×Int
abbrev encRc(r:q0G):List Value:= [.int .i64 r.1, .int .i64 r.2.1, .int .i64 r.2.2]
def toP(l:List EH)(y:Nat):Nat:=if knd l y=4 then(bgL l (thr l y) y).toNat else y
noncomputable def rcB(l:List EH)(y:Nat)(w:Int)(x:Nat):Bool:= !decide (knd l x=3)&&(confB (at' l x) (at' l y) w&& !hbB l x (toP l y))
noncomputable def rcL(l:List EH)(y:Nat)(w:Int)(m:Nat):List q0G:=((List.range m).filter (rcB l y w)).map fun(x:Nat)=>((x:Int),(y:Int),w)
theorem q93{l:List EH}{y m:Nat}{w:Int}:rcL l y w (m+1)=rcL l y w m++if rcB l y w m=true then [((m:Int),(y:Int),w)] else []:=by
 unfold rcL
 rw[List.range_succ,List.filter_append,List.map_append]
 congr 1
 cases h:rcB l y w m <;>simp[List.filter,h]
noncomputable def rcW(l:List EH)(y m:Nat):List q0G:=(List.range m).flatMap fun(w:Nat)=>rcL l y w y
theorem qbx{l:List EH}{y m:Nat}:rcW l y (m+1)=rcW l y m++rcL l y m y:=by
 unfold rcW;rw[List.range_succ,List.flatMap_append];simp
noncomputable def rcA(l:List EH)(m:Nat):List q0G:=(List.range m).flatMap fun y=>if knd l y=3 then [] else rcW l y 64
theorem q92{l:List EH}{m:Nat}:rcA l (m+1)=rcA l m++if knd l m=3 then [] else rcW l m 64:=by
 unfold rcA;rw[List.range_succ,List.flatMap_append];simp
def q9s(b r:q0G):q0G:=if r.2.1=b.2.1∧r.2.2=b.2.2∧b.1<r.1 then r else b
def qiS:List q0G→q0G
 | []=>(-1, -1, -1)
 |r::rs=>rs.foldl q9s r
theorem q9C:∀(rs:List q0G) (b:q0G),(∀r∈rs,r.2≠b.2)→rs.foldl q9s b=b
 | [],_,_=>rfl
 |r::rs,b,h=>by
  have h1:q9s b r=b:=by
   unfold q9s
   rw[if_neg (fun hh=>h r List.mem_cons_self (Prod.ext hh.1 hh.2.1))]
  rw[List.foldl_cons,h1]
  exact q9C rs b (fun r hr=>h r (List.mem_cons_of_mem _ hr))
theorem qba:∀(rs:List q0G) (b:q0G),(∀r∈rs,r.2=b.2)→(b::rs).Pairwise (fun a b=>a.1<b.1)→rs.foldl q9s b=(rs.getLast?).getD b
 | [],_,_,_=>rfl
 |r::rs,b,h,hp=>by
  have hr:=h r List.mem_cons_self
  rw[List.pairwise_cons] at hp
  have h1:q9s b r=r:=by
   unfold q9s
   rw[if_pos ⟨by rw[hr],by rw[hr],hp.1 r List.mem_cons_self⟩]
  rw[List.foldl_cons,h1,qba rs r (fun x hx=>(h x (List.mem_cons_of_mem _ hx)).trans hr.symm) hp.2]
  cases rs <;>simp[List.getLast?_cons]
theorem q6v{σ:Type}(key:σ→Int×Int)(g:σ→List q0G)(hk:∀p,∀r∈g p,r.2=key p)(hs:∀p,(g p).Pairwise (fun a b=>a.1<b.1)):
  ∀ps:List σ,ps.Pairwise (fun p q=>key p≠key q)→qiS (ps.flatMap g)=(ps.findSome? fun p=>(g p).getLast?).getD (-1, -1, -1)
 | [],_=>rfl
 |p::ps,hn=>by
  rw[List.pairwise_cons] at hn
  rw[List.flatMap_cons]
  cases hg:g p with
  |nil=>
   rw[List.nil_append,q6v key g hk hs ps hn.2,List.findSome?_cons,hg]
   rfl
  |cons r rs=>
   have hk':=hk p
   rw[hg] at hk'
   have hs':=hs p
   rw[hg] at hs'
   have hr:=hk' r List.mem_cons_self
   rw[List.findSome?_cons,hg]
   show(rs++ps.flatMap g).foldl q9s r=_
   rw[List.foldl_append,qba rs r (fun x hx=>(hk' x (List.mem_cons_of_mem _ hx)).trans hr.symm) hs']
   have e:(r::rs).getLast? =some ((rs.getLast?).getD r):=by rw[List.getLast?_cons]
   rw[e]
   simp only[Option.getD_some]
   refine q9C _ _ ?_
   intro x hx
   obtain⟨q,hq,hx⟩:=List.mem_flatMap.1 hx
   rw[hk q x hx]
   have:((rs.getLast?).getD r).2=key p:=by
    cases hl:rs.getLast? with
    |none=>exact hr
    |some z=>exact hk' z (List.mem_cons_of_mem _ (List.mem_of_getLast? hl))
   rw[this]
   exact fun e=>hn.1 q hq e.symm
def prs(l:List EH)(m:Nat):List (Nat×Int):=(List.range m).flatMap fun y=>if knd l y=3 then [] else(List.range 64).map fun(w:Nat)=>(y,(w:Int))
noncomputable def frst(l:List EH):q0G:=((prs l l.length).findSome? fun p=>(rcL l p.1 p.2 p.1).getLast?).getD (-1, -1, -1)
theorem qdI(l:List EH)(m:Nat):rcA l m=(prs l m).flatMap fun p=>rcL l p.1 p.2 p.1:=by
 unfold rcA prs
 rw[List.flatMap_assoc]
 congr 1
 funext y
 split
 ·rfl
 ·rw[List.flatMap_map];rfl
theorem qhU{l:List EH}{y m:Nat}{w:Int}:∀r∈rcL l y w m,r.2=((y:Int),w):=by
 intro r hr
 unfold rcL at hr
 obtain⟨x,_,rfl⟩:=List.mem_map.1 hr
 rfl
theorem qcc{l:List EH}{y m:Nat}{w:Int}:(rcL l y w m).Pairwise (fun a b=>a.1<b.1):=by
 unfold rcL
 rw[List.pairwise_map]
 refine List.Pairwise.imp ?_ ((List.pairwise_lt_range (n:=m)).filter _)
 intro a b h
 simpa using h
theorem qdH(l:List EH)(m:Nat):(prs l m).Pairwise (fun p q=>((p.1:Int),p.2)≠((q.1:Int),q.2)):=by
 unfold prs
 rw[List.pairwise_flatMap]
 refine⟨fun y _=> ?_,?_⟩
 ·split
  ·exact List.Pairwise.nil
  ·rw[List.pairwise_map]
   refine List.Pairwise.imp ?_ (List.pairwise_lt_range (n:=64))
   intro a b h e
   simp only[Prod.mk.injEq,true_and] at e
   omega
 ·refine List.Pairwise.imp ?_ (List.pairwise_lt_range (n:=m))
  intro a b h p hp q hq e
  have h1:p.1=a:=by
   split at hp
   ·cases hp
   ·obtain⟨_,_,rfl⟩:=List.mem_map.1 hp;rfl
  have h2:q.1=b:=by
   split at hq
   ·cases hq
   ·obtain⟨_,_,rfl⟩:=List.mem_map.1 hq;rfl
  simp only[Prod.mk.injEq] at e
  omega
theorem qeP(l:List EH):qiS (rcA l l.length)=frst l:=by
 rw[qdI]
 exact q6v (fun p=>((p.1:Int),p.2)) _ (fun p r hr=>qhU r hr) (fun p=>qcc) _ (qdH l _)
end Ord
end Go.Proofs.YtkieffpjjfebjaaGreatDoor
