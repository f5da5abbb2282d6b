/- What the laws share, part 8. No condition. -/
import Derived.Test.YtkieffpjjfebjaaGreatDoorZ7
set_option maxRecDepth 100000
namespace Go.Proofs.YtkieffpjjfebjaaGreatDoor
open Go
def q1D:IFn:=⟨21,
 (jQ (jR [(jb 1 28 0),(jk 2 0)])
 (jQ (.seq (jR [(jL 3 13 1),(jc 4 71 3),(jo 5 (.bin .neq 4 (jI 0)))])
 (.cond 5
 (jQ (jR [(jk 2 0)])
 .ret)
 .skip))
 (jQ (jR [(jf 6 3 1),(jo 7 (.ixa 4 1 6 (jI 0))),(jl 8 7),(jf 9 3 1),(jo 10 (.ixa 4 1 9 (jI 1))),(jl 11 10),
 (jo 12 (.bin .add 8 11)),(jf 13 3 1),(jo 14 (.ixa 4 1 13 (jI 2))),(jl 15 14),(jo 16 (.bin .add 12 15)),(jf 17 3 1),
 (jo 18 (.ixa 4 1 17 (jI 3))),(jl 19 18),(jo 20 (.bin .add 16 19)),(jm 2 20)])
 .ret))),
 [.tmp 2]⟩
theorem q6h:qn Tryz.prog qd 43=some ⟨q1D.n,qi q1D.body,q1D.res⟩:=by kernel_rfl
def q23:IFn:=⟨85,
 (jQ (jR [(jb 1 28 0),(jk 2 0)])
 (jQ (.seq (jR [(jf 6 0 1),(jl 7 6),(jo 8 (.call 100 [7,(jI 1),(jI 64)])),(jo 9 (.not 8)),(jm 10 9),(jz 10 (jf 11 1 1)),
 (jz 10 (jl 12 11)),(jz 10 (jo 13 (.call 100 [12,(jI 1),(jI 64)]))),(jz 10 (jo 14 (.not 13))),(jO 15 10 14)])
 (.cond 15
 (jQ (jR [(jk 2 50)])
 .ret)
 .skip))
 (jQ (jR [(jk 3 0),(jk 4 0)])
 (jQ (.seq (jR [(jk 5 0)])
 (.block 0
 (.loop 1099511562300
 (jQ (.seq (jR [(jm 16 5),(jo 17 (.bin .lss 16 (jI 4)))])
 (.cond 17
 .skip
 (.exit 0)))
 (jQ (.block 1
 (jQ (.seq (jR [(jm 20 5),(jf 21 3 1),(jo 22 (.ixa 4 1 21 20)),(jl 23 22),(jo 24 (.call 100 [23,(jI 0),(jI 64)])),
 (jo 25 (.not 24))])
 (.cond 25
 (jQ (jR [(jk 2 51)])
 .ret)
 .skip))
 (jQ (jR [(jm 26 3),(jm 27 5),(jf 28 3 1),(jo 29 (.ixa 4 1 28 27)),(jl 30 29),(jo 31 (.bin .add 26 30)),(jm 3 31)])
 (jR [(jm 32 4),(jm 33 5),(jf 34 3 1),(jo 35 (.ixa 4 1 34 33)),(jl 36 35),(jm 37 5),(jo 38 (.bin .shl 36 37)),(jo 39 (.bin .add 32 38)),
 (jm 4 39)]))))
 (jR [(jm 18 5),(ja 19 18 1),(jm 5 19)]))))))
 (jQ (.seq (jR [(jm 40 3),(jo 41 (.bin .gtr 40 (jI 64))),(jm 42 41),(jz 42 (jf 43 2 1)),(jz 42 (jl 44 43)),(jz 42 (jf 45 0 1)),
 (jz 42 (jl 46 45)),(jz 42 (jo 47 (.call 100 [44,(jI 0),46]))),(jz 42 (jo 48 (.not 47))),(jO 49 42 48),(jm 50 49),(jz 50 (jf 51 2 1)),
 (jz 50 (jl 52 51)),(jz 50 (jm 53 4)),(jz 50 (jo 54 (.bin .add 52 53))),(jz 50 (jf 55 0 1)),(jz 50 (jl 56 55)),(jz 50 (jo 57 (.bin .gtr 54 56))),
 (jO 58 50 57)])
 (.cond 58
 (jQ (jR [(jk 2 51)])
 .ret)
 .skip))
 (jQ (.seq (jR [(jf 59 7 1),(jl 60 59),(jo 61 (.call 100 [60,(jI 1),(jI 32)])),(jo 62 (.not 61)),(jm 63 62),
 (jz 63 (jf 64 8 1)),(jz 63 (jl 65 64)),(jz 63 (jo 66 (.call 100 [65,(jI 1),(jI 32)]))),(jz 63 (jo 67 (.not 66))),
 (jO 68 63 67),(jm 69 68),(jz 69 (jf 70 9 1)),(jz 69 (jl 71 70)),(jz 69 (jo 72 (.call 100 [71,(jI 0),(jI 8)]))),(jz 69 (jo 73 (.not 72))),
 (jO 74 69 73),(jm 75 74),(jz 75 (jf 76 10 1)),(jz 75 (jl 77 76)),(jz 75 (jo 78 (.call 100 [77,(jI 0),(jI 8)]))),(jz 75 (jo 79 (.not 78))),
 (jO 80 75 79)])
 (.cond 80
 (jQ (jR [(jk 2 52)])
 .ret)
 .skip))
 (jQ (.seq (jR [(jf 81 11 1),(jl 82 81),(jo 83 (.call 100 [82,(jI 0),(jI 1099511627776)])),(jo 84 (.not 83))])
 (.cond 84
 (jQ (jR [(jk 2 53)])
 .ret)
 .skip))
 (jQ (jR [(jk 2 0)])
 .ret)))))))),
 [.tmp 2]⟩
theorem q6W:qn Tryz.prog qd 71=some ⟨q23.n,qi q23.body,q23.res⟩:=by kernel_rfl
def q1E:IFn:=⟨15,
 (jQ (jR [(jo 6 (.mov (.const (.bool false))))])
 (jQ (jR [(jm 7 0),(jm 8 1),(jo 9 (.bin .geq 7 8)),(jm 10 9),(jy 10 (jm 11 0)),(jy 10 (jm 12 2)),(jy 10 (jo 13 (.bin .leq 11 12))),
 (jA 14 10 13),(jm 6 14)])
 .ret)),
 [.tmp 6]⟩
theorem q6i:qn Tryz.prog qd 100=some ⟨q1E.n,qi q1E.body,q1E.res⟩:=by kernel_rfl
abbrev qc0:List Value:=[(.int .i64 0),(.int .i64 0),(.slice none 0 0)]
def q07:IFn:=⟨8,
 (jQ (jR [(jo 2 (.mov (.const (.slice none 0 0))))])
 (jQ (.seq (jR [(jm 3 0),(jo 4 (.nilq false 0 3 (.const (.slice none 0 0))))])
 (.cond 4
 (jQ (jR [(jo 2 (.mov (.const (.slice none 0 0))))])
 .ret)
 .skip))
 (jQ (jR [(jo 5 (.blds 79 0 [] [])),(jm 6 0),(jo 7 (.app 79 3 40 qc0 5 6)),(jm 2 7)])
 .ret))),
 [.tmp 2]⟩
theorem q3D:qn Tryz.prog qd 29=some ⟨q07.n,qi q07.body,q07.res⟩:=by kernel_rfl
def q0i:IFn:=⟨9,
 (jQ (jR [(jo 2 (.mov (.const (.slice none 0 0))))])
 (jQ (jR [(jm 3 0),(jm 4 0),(jt 5 4),(jm 6 0),(jt 7 6),(jo 8 (.sls 3 3 none (some 5) (some 7))),(jm 2 8)])
 .ret)),
 [.tmp 2]⟩
theorem q3P:qn Tryz.prog qd 35=some ⟨q0i.n,qi q0i.body,q0i.res⟩:=by kernel_rfl
def qw:IFn:=⟨9,
 (jQ (jR [(jo 4 (.mov (.const (.bool false))))])
 (jQ (jR [(jm 5 0),(jm 6 1),(jC 7 81 5 6),(jo 8 (.bin .geq 7 (jI 0))),(jm 4 8)])
 .ret)),
 [.tmp 4]⟩
theorem q1K:qn Tryz.prog qd 53=some ⟨qw.n,qi qw.body,qw.res⟩:=by kernel_rfl
def q09:IFn:=⟨8,
 (jQ (jR [(jo 2 (.mov (.const (.slice none 0 0))))])
 (jQ (.seq (jR [(jm 3 0),(jo 4 (.nilq false 0 3 (.const (.slice none 0 0))))])
 (.cond 4
 (jQ (jR [(jo 2 (.mov (.const (.slice none 0 0))))])
 .ret)
 .skip))
 (jQ (jR [(jo 5 (.blds 58 0 [] [])),(jm 6 0),(jo 7 (.app 58 1 8 [(.int .u64 0)] 5 6)),(jm 2 7)])
 .ret))),
 [.tmp 2]⟩
theorem q3F:qn Tryz.prog qd 58=some ⟨q09.n,qi q09.body,q09.res⟩:=by kernel_rfl
abbrev eZ5:List Value:=[(.int .i64 0),(.int .u64 0),(.int .u64 0),(.int .u64 0),(.int .u64 0),(.int .u64 0),(.int .u64 0),(.int .u64 0),(.int .u64 0),(.int .i64 0),(.bool false)]
def q08:IFn:=⟨8,
 (jQ (jR [(jo 2 (.mov (.const (.slice none 0 0))))])
 (jQ (.seq (jR [(jm 3 0),(jo 4 (.nilq false 0 3 (.const (.slice none 0 0))))])
 (.cond 4
 (jQ (jR [(jo 2 (.mov (.const (.slice none 0 0))))])
 .ret)
 .skip))
 (jQ (jR [(jo 5 (.blds 61 0 [] [])),(jm 6 0),(jo 7 (.app 61 11 88 eZ5 5 6)),
 (jm 2 7)])
 .ret))),
 [.tmp 2]⟩
theorem q3E:qn Tryz.prog qd 59=some ⟨q08.n,qi q08.body,q08.res⟩:=by kernel_rfl
def q00:IFn:=⟨8,
 (jQ (jR [(jo 2 (.mov (.const (.slice none 0 0))))])
 (jQ (.seq (jR [(jm 3 0),(jo 4 (.nilq false 0 3 (.const (.slice none 0 0))))])
 (.cond 4
 (jQ (jR [(jo 2 (.mov (.const (.slice none 0 0))))])
 .ret)
 .skip))
 (jQ (jR [(jo 5 (.blds 3 0 [] [])),(jm 6 0),(jo 7 (.app 3 1 8 [(.int .i64 0)] 5 6)),(jm 2 7)])
 .ret))),
 [.tmp 2]⟩
theorem q2s:qn Tryz.prog qd 60=some ⟨q00.n,qi q00.body,q00.res⟩:=by kernel_rfl
abbrev qcA:List Value:=[(.int .i64 0),(.int .i64 0),(.int .u64 0)]
def q0L:IFn:=⟨8,
 (jQ (jR [(jo 2 (.mov (.const (.slice none 0 0))))])
 (jQ (.seq (jR [(jm 3 0),(jo 4 (.nilq false 0 3 (.const (.slice none 0 0))))])
 (.cond 4
 (jQ (jR [(jo 2 (.mov (.const (.slice none 0 0))))])
 .ret)
 .skip))
 (jQ (jR [(jo 5 (.blds 127 0 [] [])),(jm 6 0),(jo 7 (.app 127 3 24 qcA 5 6)),(jm 2 7)])
 .ret))),
 [.tmp 2]⟩
theorem q4y:qn Tryz.prog qd 61=some ⟨q0L.n,qi q0L.body,q0L.res⟩:=by kernel_rfl
abbrev eZ7:List Value:=[(.int .i64 0),(.int .i64 0),(.int .i64 0),(.int .i64 0),(.slice none 0 0),(.slice none 0 0)]
def q0j:IFn:=⟨8,
 (jQ (jR [(jo 2 (.mov (.const (.slice none 0 0))))])
 (jQ (.seq (jR [(jm 3 0),(jo 4 (.nilq false 0 3 (.const (.slice none 0 0))))])
 (.cond 4
 (jQ (jR [(jo 2 (.mov (.const (.slice none 0 0))))])
 .ret)
 .skip))
 (jQ (jR [(jo 5 (.blds 116 0 [] [])),(jm 6 0),(jo 7 (.app 116 6 80 eZ7 5 6)),
 (jm 2 7)])
 .ret))),
 [.tmp 2]⟩
theorem q3Q:qn Tryz.prog qd 63=some ⟨q0j.n,qi q0j.body,q0j.res⟩:=by kernel_rfl
abbrev q7Y:List Value:=[(.int .i64 0),(.int .i64 0),(.int .i64 0),(.int .i64 0),(.int .i64 0)]
def q0k:IFn:=⟨8,
 (jQ (jR [(jo 2 (.mov (.const (.slice none 0 0))))])
 (jQ (.seq (jR [(jm 3 0),(jo 4 (.nilq false 0 3 (.const (.slice none 0 0))))])
 (.cond 4
 (jQ (jR [(jo 2 (.mov (.const (.slice none 0 0))))])
 .ret)
 .skip))
 (jQ (jR [(jo 5 (.blds 69 0 [] [])),(jm 6 0),(jo 7 (.app 69 5 40 q7Y 5 6)),
 (jm 2 7)])
 .ret))),
 [.tmp 2]⟩
theorem q3R:qn Tryz.prog qd 68=some ⟨q0k.n,qi q0k.body,q0k.res⟩:=by kernel_rfl
def qB:IFn:=⟨19,
 (jQ (jR [(jk 4 0)])
 (jQ (.seq (jR [(jm 6 0),(jt 7 6),(jk 8 0)])
 (.block 0
 (.loop 524080
 (jQ (jR [(jw 9 8 7)])
 (jQ (.cond 9
 .skip
 (.exit 0))
 (jQ (.block 1
 (jQ (jR [(jm 10 8),(jm 5 10)])
 (jQ (jR [(jm 11 1),(jm 12 0),(jm 13 5),(jx 14 1 12 13),(jl 15 14),(jo 16 (.callv 11 [15]))])
 (.cond 16
 (jQ (jR [(jm 17 5),(jm 4 17)])
 .ret)
 .skip))))
 (jR [(ja 18 8 1),(jm 8 18)])))))))
 (jQ (jR [(jo 4 (.mov (.const (.int .i64 (-1)))))])
 .ret))),
 [.tmp 4]⟩
theorem q2n:qn Tryz.prog qd 81=some ⟨qB.n,qi qB.body,qB.res⟩:=by kernel_rfl
def qA:IFn:=⟨9,
 (jQ (jR [(jo 4 (.mov (.const (.bool false))))])
 (jQ (jR [(jm 5 0),(jm 6 1),(jC 7 113 5 6),(jo 8 (.bin .geq 7 (jI 0))),(jm 4 8)])
 .ret)),
 [.tmp 4]⟩
theorem q2m:qn Tryz.prog qd 82=some ⟨qA.n,qi qA.body,qA.res⟩:=by kernel_rfl
def qK:IFn:=⟨19,
 (jQ (jR [(jk 4 0)])
 (jQ (.seq (jR [(jm 6 0),(jt 7 6),(jk 8 0)])
 (.block 0
 (.loop 524080
 (jQ (jR [(jw 9 8 7)])
 (jQ (.cond 9
 .skip
 (.exit 0))
 (jQ (.block 1
 (jQ (jR [(jm 10 8),(jm 5 10)])
 (jQ (jR [(jm 11 1),(jm 12 0),(jm 13 5),(jx 14 5 12 13),(jL 15 5 14),(jo 16 (.callv 11 [15]))])
 (.cond 16
 (jQ (jR [(jm 17 5),(jm 4 17)])
 .ret)
 .skip))))
 (jR [(ja 18 8 1),(jm 8 18)])))))))
 (jQ (jR [(jo 4 (.mov (.const (.int .i64 (-1)))))])
 .ret))),
 [.tmp 4]⟩
theorem q2S:qn Tryz.prog qd 113=some ⟨qK.n,qi qK.body,qK.res⟩:=by kernel_rfl
def q0t:IFn:=⟨36,
 (jQ (jR [(jo 2 (.mov (.const (.slice none 0 0))))])
 (jQ (jR [(jk 3 0)])
 (jQ (.seq (jR [(jm 9 0),(jt 10 9),(jk 11 0)])
 (.block 0
 (.loop 8386600
 (jQ (jR [(jw 12 11 10)])
 (jQ (.cond 12
 .skip
 (.exit 0))
 (jQ (.block 1
 (jQ (jR [(jx 13 1 9 11),(jl 14 13),(jm 5 14)])
 (jQ (jR [(jm 15 3),(jm 16 5),(jt 17 16),(jo 18 (.bin .add 15 17)),(jm 3 18)])
 (jQ (jR [(jm 19 3),(jo 20 (.bin .lss 19 (jI 0)))])
 (.cond 20
 (jR [(jo 21 (.bad)),
 ⟨none, .bad,none⟩])
 .skip)))))
 (jR [(ja 22 11 1),(jm 11 22)])))))))
 (jQ (jR [(jm 23 3),(jo 24 (.call 141 [(.const (.slice none 0 0)),23])),(jm 6 24)])
 (jQ (.seq (jR [(jm 25 0),(jt 26 25),(jk 27 0)])
 (.block 2
 (.loop 34225520960
 (jQ (jR [(jw 28 27 26)])
 (jQ (.cond 28
 .skip
 (.exit 2))
 (jQ (.block 3
 (jQ (jR [(jx 29 1 25 27),(jl 30 29),(jm 8 30)])
 (jR [(jm 31 6),(jm 32 8),(jo 33 (.app 3 1 8 [(.int .i64 0)] 31 32)),(jm 6 33)])))
 (jR [(ja 34 27 1),(jm 27 34)])))))))
 (jQ (jR [(jm 35 6),(jm 2 35)])
 .ret)))))),
 [.tmp 2]⟩
theorem q4a:qn Tryz.prog qd 115=some ⟨q0t.n,qi q0t.body,q0t.res⟩:=by kernel_rfl
def q0l:IFn:=⟨61,
 (jQ (jR [(jo 2 (.mov (.const (.slice none 0 0))))])
 (jQ (.seq (jR [(jm 6 0),(jt 7 6),(jo 8 (.bin .lss 7 (jI 2)))])
 (.cond 8
 (jQ (jR [(jm 9 0),(jm 2 9)])
 .ret)
 .skip))
 (jQ (.seq (jR [(jk 3 1)])
 (.block 0
 (.loop 1152921504606846012
 (jQ (.seq (jR [(jm 10 3),(jm 11 0),(jt 12 11),(jw 13 10 12)])
 (.cond 13
 .skip
 (.exit 0)))
 (jQ (.block 1
 (jQ (.draw (.f (jm 16 0)
 (.f (jm 17 3)
 (.f (jx 18 1 16 17)
 (.f (jl 19 18)
 (.f (jm 20 0)
 (.f (jm 21 3)
 (.f (jo 22 (.bin .sub 21 (jI 1)))
 (.f (jx 23 1 20 22)
 (.f (jl 24 23)
 (.f (jo 25 (.bin .eql 19 24))
 .done)))))))))))
 (.cond 25
 (jQ (jR [(jm 26 0),(jm 27 3),(jo 28 (.sls 1 26 (some 27) none none)),(jm 4 28)])
 (jQ (.seq (jR [(jk 5 1)])
 (.block 2
 (.loop 18014397972611112
 (jQ (.seq (jR [(jm 29 5),(jm 30 4),(jt 31 30),(jw 32 29 31)])
 (.cond 32
 .skip
 (.exit 2)))
 (jQ (.block 3
 (jQ (.draw (.f (jm 35 4)
 (.f (jm 36 5)
 (.f (jx 37 1 35 36)
 (.f (jl 38 37)
 (.f (jm 39 4)
 (.f (jm 40 5)
 (.f (jo 41 (.bin .sub 40 (jI 1)))
 (.f (jx 42 1 39 41)
 (.f (jl 43 42)
 (.f (jo 44 (.bin .neq 38 43))
 .done)))))))))))
 (.cond 44
 (jQ (jR [(jm 45 0),(jm 46 3),(jm 47 4),(jm 48 5),(jx 49 1 47 48),(jl 50 49),(jx 51 1 45 46),(js 51 50)])
 (jR [(jm 52 3),(ja 53 52 1),(jm 3 53)]))
 .skip)))
 (jR [(jm 33 5),(ja 34 33 1),(jm 5 34)]))))))
 (jQ (jR [(jm 54 0),(jm 55 3),(jo 56 (.sls 1 54 (some 55) none none)),
 ⟨none, .clr [(.int .i64 0)] 56,none⟩])
 (jQ (jR [(jm 57 0),(jm 58 3),(jo 59 (.sls 1 57 none (some 58) none)),(jm 2 59)])
 .ret))))
 .skip)))
 (jR [(jm 14 3),(ja 15 14 1),(jm 3 15)]))))))
 (jQ (jR [(jm 60 0),(jm 2 60)])
 .ret)))),
 [.tmp 2]⟩
theorem q3S:qn Tryz.prog qd 117=some ⟨q0l.n,qi q0l.body,q0l.res⟩:=by kernel_rfl
def qF:IFn:=⟨9,
 (jQ (jR [(jo 4 (.mov (.const (.bool false))))])
 (jQ (jR [(jm 5 0),(jm 6 1),(jC 7 145 5 6),(jo 8 (.bin .geq 7 (jI 0))),(jm 4 8)])
 .ret)),
 [.tmp 4]⟩
theorem q1H:qn Tryz.prog qd 119=some ⟨qF.n,qi qF.body,qF.res⟩:=by kernel_rfl
def qE:IFn:=⟨9,
 (jQ (jR [(jo 4 (.mov (.const (.bool false))))])
 (jQ (jR [(jm 5 0),(jm 6 1),(jC 7 162 5 6),(jo 8 (.bin .geq 7 (jI 0))),(jm 4 8)])
 .ret)),
 [.tmp 4]⟩
theorem q2M:qn Tryz.prog qd 139=some ⟨qE.n,qi qE.body,qE.res⟩:=by kernel_rfl
def q0W:IFn:=⟨27,
 (jQ (jR [(jo 4 (.mov (.const (.slice none 0 0))))])
 (jQ (.seq (jR [(jm 5 1),(jo 6 (.bin .lss 5 (jI 0)))])
 (.cond 6
 (jR [(jo 7 (.bad)),
 ⟨none, .bad,none⟩])
 .skip))
 (jQ (.seq (jR [(jm 8 1),(jm 9 0),(jo 10 (.capb 9)),(jm 11 0),(jt 12 11),(jo 13 (.bin .sub 10 12)),(jo 14 (.bin .sub 8 13)),
 (jm 1 14)])
 (jQ (jR [(jm 15 1),(jo 16 (.bin .gtr 15 (jI 0)))])
 (.cond 16
 (jR [(jm 17 0),(jm 18 0),(jo 19 (.capb 18)),(jo 20 (.sls 1 17 none (some 19) none)),(jm 21 1),(jo 22 (.appz 3 8 [(.int .i64 0)] 20 21)),
 (jm 23 0),(jt 24 23),(jo 25 (.sls 1 22 none (some 24) none)),(jm 0 25)])
 .skip)))
 (jQ (jR [(jm 26 0),(jm 4 26)])
 .ret)))),
 [.tmp 4]⟩
theorem q4M:qn Tryz.prog qd 141=some ⟨q0W.n,qi q0W.body,q0W.res⟩:=by kernel_rfl
def q01:IFn:=⟨19,
 (jQ (jR [(jk 4 0)])
 (jQ (.seq (jR [(jm 6 0),(jt 7 6),(jk 8 0)])
 (.block 0
 (.loop 524080
 (jQ (jR [(jw 9 8 7)])
 (jQ (.cond 9
 .skip
 (.exit 0))
 (jQ (.block 1
 (jQ (jR [(jm 10 8),(jm 5 10)])
 (jQ (jR [(jm 11 1),(jm 12 0),(jm 13 5),(jx 14 1 12 13),(jl 15 14),(jo 16 (.bin .eql 11 15))])
 (.cond 16
 (jQ (jR [(jm 17 5),(jm 4 17)])
 .ret)
 .skip))))
 (jR [(ja 18 8 1),(jm 8 18)])))))))
 (jQ (jR [(jo 4 (.mov (.const (.int .i64 (-1)))))])
 .ret))),
 [.tmp 4]⟩
theorem q2t:qn Tryz.prog qd 145=some ⟨q01.n,qi q01.body,q01.res⟩:=by kernel_rfl
def qV:IFn:=⟨19,
 (jQ (jR [(jk 4 0)])
 (jQ (.seq (jR [(jm 6 0),(jt 7 6),(jk 8 0)])
 (.block 0
 (.loop 524080
 (jQ (jR [(jw 9 8 7)])
 (jQ (.cond 9
 .skip
 (.exit 0))
 (jQ (.block 1
 (jQ (jR [(jm 10 8),(jm 5 10)])
 (jQ (jR [(jm 11 1),(jm 12 0),(jm 13 5),(jx 14 1 12 13),(jl 15 14),(jo 16 (.callv 11 [15]))])
 (.cond 16
 (jQ (jR [(jm 17 5),(jm 4 17)])
 .ret)
 .skip))))
 (jR [(ja 18 8 1),(jm 8 18)])))))))
 (jQ (jR [(jo 4 (.mov (.const (.int .i64 (-1)))))])
 .ret))),
 [.tmp 4]⟩
theorem q3j:qn Tryz.prog qd 162=some ⟨qV.n,qi qV.body,qV.res⟩:=by kernel_rfl
def q2c:IFn:=⟨11,
 (jQ (jR [(jk 4 0)])
 (jQ (jR [(jm 5 0),(jo 6 (.conv .u64 5)),(jm 7 1),(jo 8 (.conv .u64 7)),(jo 9 (.bin .rem 6 8)),(jo 10 (.conv .i64 9)),
 (jm 4 10)])
 .ret)),
 [.tmp 4]⟩
theorem q56:qn Tryz.prog qd 12=some ⟨q2c.n,qi q2c.body,q2c.res⟩:=by kernel_rfl
def q1l:IFn:=⟨191,
 (jQ (jR [(jo 8 (.mov (.const (.slice none 0 0))))])
 (jQ (jR [(jo 9 (.mov (.const (.slice none 0 0))))])
 (jQ (jR [(jo 10 (.mov (.const (.bool false))))])
 (jQ (jR [(jo 11 (.mov (.const (.slice none 0 0))))])
 (jQ (.seq (jR [(jk 12 0)])
 (.block 0
 (.loop 365375409332725729550921208179070754913982217728
 (jQ (.seq (jR [(jm 20 12),(jm 21 0),(jt 22 21),(jw 23 20 22),(jm 24 23),(jy 24 (jm 25 9)),(jy 24 (jt 26 25)),(jy 24 (jm 27 1)),(jy 24 (jo 28 (.bin .sub 27 (jI 1)))),
 (jy 24 (jw 29 26 28)),(jA 30 24 29)])
 (.cond 30
 .skip
 (.exit 0)))
 (jQ (.block 1
 (jQ (jR [(jm 33 0),(jm 34 12),(jx 35 1 33 34),(jl 36 35),(jo 37 (.conv .u64 36)),(jm 13 37)])
 (jQ (jR [(jm 38 13),(jo 39 (.bin .rem 38 (.const (.int .u64 16)))),(jo 40 (.conv .i64 39)),(jm 14 40)])
 (jQ (jR [(jm 41 13),(jo 42 (.bin .quo 41 (.const (.int .u64 16)))),(jm 13 42)])
 (jQ (jR [(jk 15 0)])
 (.cut (.block 2
 (jQ (jR [(jm 44 14),(jo 45 (.bin .lss 44 (jI 2))),(jm 43 45)])
 (.cond 43
 (jQ (jR [(jo 46 (.blds 3 3 qke [(0,1,(jI 1)),(1,1,(jI 3)),(2,1,(jI 2))])),
 (jm 47 13),(jo 48 (.bin .rem 47 (.const (.int .u64 3)))),(jx 49 1 46 48),(jl 50 49),(jm 15 50)])
 (jR [(jm 51 13),(jo 52 (.bin .quo 51 (.const (.int .u64 3)))),(jm 13 52)]))
 (jQ (jR [(jm 54 14),(jq 55 54 2),(jm 56 55),(jy 56 (jm 57 9)),(jy 56 (jt 58 57)),(jy 56 (jo 59 (.bin .gtr 58 (jI 0)))),(jA 60 56 59),
 (jm 53 60)])
 (.cond 53
 (jQ (jR [(jo 61 (.blds 3 3 qke [(0,1,(jI 5)),(1,1,(jI 6)),(2,1,(jI 4))])),
 (jm 62 13),(jo 63 (.bin .rem 62 (.const (.int .u64 3)))),(jx 64 1 61 63),(jl 65 64),(jm 15 65)])
 (jR [(jm 66 13),(jo 67 (.bin .quo 66 (.const (.int .u64 3)))),(jm 13 67)]))
 (jQ (jR [(jm 69 10),(jo 70 (.not 69)),(jm 71 70),(jy 71 (jm 72 14)),(jy 71 (jo 73 (.bin .lss 72 (jI 7)))),(jA 74 71 73),
 (jm 75 74),(jy 75 (jm 76 3)),(jA 77 75 76),(jm 68 77)])
 (.cond 68
 (jQ (jR [(jo 78 (.blds 3 5 q7Y [(0,1,(jI 12)),(1,1,(jI 13)),(2,1,(jI 12)),(3,1,(jI 13)),(4,1,(jI 16))])),
 (jm 79 13),(jo 80 (.bin .rem 79 (.const (.int .u64 5)))),(jx 81 1 78 80),(jl 82 81),(jm 15 82)])
 (jR [(jm 83 13),(jo 84 (.bin .quo 83 (.const (.int .u64 5)))),(jm 13 84)]))
 (jQ (jR [(jm 86 10),(jo 87 (.not 86)),(jm 88 87),(jy 88 (jm 89 14)),(jy 88 (jq 90 89 7)),(jA 91 88 90),(jm 85 91)])
 (.cond 85
 (jR [(jk 15 17)])
 (jQ (jR [(jm 93 10),(jo 94 (.not 93)),(jm 92 94)])
 (.cond 92
 (jR [(jk 15 7)])
 (jQ (jR [(jm 96 14),(jo 97 (.bin .lss 96 (jI 8))),(jm 95 97)])
 (.cond 95
 (jR [(jk 15 10)])
 (jQ (jR [(jm 99 14),(jo 100 (.bin .lss 99 (jI 12))),(jm 98 100)])
 (.cond 98
 (jR [(jk 15 11)])
 (jQ (jR [(jm 102 14),(jq 103 102 12),(jm 104 103),(jy 104 (jm 105 2)),(jA 106 104 105),(jm 101 106)])
 (.cond 101
 (jR [(jk 15 14)])
 (jQ (jR [(jm 108 14),(jq 109 108 13),(jm 110 109),(jy 110 (jm 111 2)),(jA 112 110 111),(jm 107 112)])
 (.cond 107
 (jR [(jk 15 15)])
 (jQ (jR [(jm 114 14),(jq 115 114 14),(jm 116 115),(jy 116 (jm 117 13)),(jy 116 (jo 118 (.bin .rem 117 (.const (.int .u64 4))))),(jy 116 (jo 119 (.bin .eql 118 (.const (.int .u64 0))))),
 (jA 120 116 119),(jm 113 120)])
 (.cond 113
 (jR [(jk 15 9)])
 (jR [(jk 15 8)]))))))))))))))))))))))
 (jQ (jR [(jm 121 15),(jm 122 13),(jC 123 73 121 122),(jo 16 (.new 69 eZ9)),(jS 5 16 123)])
 (.cut (jQ (jR [(jm 124 15),(jq 125 124 5),(jm 126 125),(jz 126 (jm 127 15)),(jz 126 (jq 128 127 6)),(jO 129 126 128)])
 (.cond 129
 (jR [(jm 130 13),(jo 131 (.bin .rem 130 (.const (.int .u64 4)))),(jo 132 (.conv .i64 131)),(jf 133 1 16),(js 133 132)])
 .skip))
 (.cut (jQ (jR [(jm 134 15),(jq 135 134 5),(jm 136 135),(jz 136 (jm 137 15)),(jz 136 (jq 138 137 6)),(jO 139 136 138),(jm 140 139),(jz 140 (jm 141 15)),
 (jz 140 (jq 142 141 4)),(jO 143 140 142)])
 (.cond 143
 (jR [(jm 144 11),(jm 145 9),(jt 146 145),(jo 147 (.blds 3 1 [(.int .i64 0)] [(0,1,146)])),(jo 148 (.app 3 1 8 [(.int .i64 0)] 144 147)),
 (jm 11 148)])
 .skip))
 (jQ (jR [(jm 149 9),(jL 150 5 16),(jo 151 (.blds 69 1 q7Y [(0,5,150)])),
 (jo 152 (.app 69 5 40 q7Y 149 151)),(jm 9 152)])
 (jQ (jR [(jm 153 15)])
 (.block 3
 (jQ (jR [(jq 155 153 7),(jm 154 155)])
 (.cond 154
 (jR [(jo 10 (.mov (.const (.bool true))))])
 (jQ (jR [(jq 157 153 8),(jm 156 157)])
 (.cond 156
 (jR [(jo 10 (.mov (.const (.bool false))))])
 .skip))))))))))))))))
 (jR [(jm 31 12),(ja 32 31 1),(jm 12 32)]))))))
 (.cut (jQ (jR [(jm 158 10)])
 (.cond 158
 (jR [(jm 159 9),(jo 160 (.bld q7Y [(0,1,(jI 8))])),(jo 161 (.blds 69 1 q7Y [(0,5,160)])),
 (jo 162 (.app 69 5 40 q7Y 159 161)),(jm 9 162)])
 .skip))
 (jQ (.seq (jR [(jk 17 0)])
 (.block 4
 (.loop 1569275422154657092311724010172437942295324703868549201920
 (jQ (.seq (jR [(jm 163 17),(jm 164 11),(jt 165 164),(jw 166 163 165)])
 (.cond 166
 .skip
 (.exit 4)))
 (jQ (.block 5
 (jQ (jR [(jm 169 9),(jm 170 11),(jm 171 17),(jx 172 1 170 171),(jl 173 172),(jx 174 5 169 173),(jf 175 4 174),
 ⟨none, .st 175 (jI 1),none⟩])
 (jQ (jR [(jm 177 9),(jc 178 72 177),(jm 176 178),(je 179 176 0),(je 180 176 1),(jm 18 179),(jm 19 180)])
 (jQ (jR [(jm 181 19),(jo 182 (.bin .neq 181 (jI 0)))])
 (.cond 182
 (jR [(jm 183 9),(jm 184 11),(jm 185 17),(jx 186 1 184 185),(jl 187 186),(jx 188 5 183 187),(jf 189 4 188),
 ⟨none, .st 189 (jI 0),none⟩])
 .skip)))))
 (jR [(jm 167 17),(ja 168 167 1),(jm 17 168)]))))))
 (jQ (jR [(jm 190 9),(jm 8 190)])
 .ret)))))))),
 [.tmp 8]⟩
theorem q5L:qn Tryz.prog qd 42=some ⟨q1l.n,qi q1l.body,q1l.res⟩:=by kernel_rfl
abbrev eZ3:List Value:=[(.int .i64 0),(.int .i64 0),(.int .i64 0),(.int .i64 0),(.int .i64 0),(.int .i64 0),(.int .i64 0),(.int .i64 0),(.int .i64 0),(.int .i64 0),(.int .i64 0),(.int .i64 0),(.bool false),(.slice none 0 0),(.slice none 0 0),(.slice none 0 0)]
abbrev eZ4:Value:=.agg #[.int .i64 0, .int .i64 0, .int .i64 0, .int .i64 0, .int .i64 0, .int .i64 0, .int .i64 0, .int .i64 0, .int .i64 0, .int .i64 0, .int .i64 0, .int .i64 0, .bool false, .slice none 0 0, .slice none 0 0, .slice none 0 0]
def q1W:IFn:=⟨82,
 (jQ (jR [(jb 7 28 0),(jo 14 (.new 32 eZ4))])
 (jQ (jR [(jL 20 13 7),(jo 21 (.bld eZ3 [(0,13,20)])),
 (jo 15 (.new 32 eZ4)),
 (jS 16 15 21)])
 (jQ (.seq (jR [(jk 16 0)])
 (.block 0
 (.loop 68715347968
 (jQ (.seq (jR [(jm 22 16),(jf 23 0 7),(jl 24 23),(jw 25 22 24)])
 (.cond 25
 .skip
 (.exit 0)))
 (jQ (.block 1
 (jR [(jf 28 13 15),(jl 29 28),(jm 30 16),(jo 31 (.bin .rem 30 (jI 4))),(jo 32 (.conv .u64 31)),(jo 33 (.blds 58 1 [(.int .u64 0)] [(0,1,32)])),
 (jo 34 (.app 58 1 8 [(.int .u64 0)] 29 33)),(jf 35 13 15),(js 35 34)]))
 (jR [(jm 26 16),(ja 27 26 1),(jm 16 27)]))))))
 (jQ (.seq (jR [(jk 17 0)])
 (.block 2
 (.loop 18446744004990468096
 (jQ (.seq (jR [(jm 36 17),(jm 37 1),(jw 38 36 37)])
 (.cond 38
 .skip
 (.exit 2)))
 (jQ (.block 3
 (jQ (jR [(jo 18 (.mov (.const (.slice none 0 0))))])
 (jQ (.seq (jR [(jm 41 17),(jm 42 2),(jt 43 42),(jw 44 41 43)])
 (.cond 44
 (jR [(jm 45 2),(jm 46 17),(jx 47 1 45 46),(jl 48 47),(jm 18 48)])
 .skip))
 (.draw (.f (jf 49 14 15)
 (.f (jm 51 18)
 (.f (jm 52 3)
 (.f (jm 53 4)
 (.f (jm 54 53)
 (.f (jy 54 (jL 55 13 7))
 (.f (jy 54 (jc 56 43 55))
 (.f (jy 54 (jo 57 (.bin .gtr 56 (jI 0))))
 (.f (jA 58 54 57)
 (.f (jm 59 5)
 (.both (.f (jl 50 49)
 (.m (jo 60 (.call 42 [51,52,58,59]))
 (.m (jo 61 (.blds 66 1 [(.slice none 0 0)] [(0,1,60)]))
 (.m (jo 62 (.app 66 1 24 [(.slice none 0 0)] 50 61))
 (.f (jf 63 14 15)
 (.m (js 63 62)
 .done))))))
 (.m (jo 60 (.call 42 [51,52,58,59]))
 (.f (jl 50 49)
 (.m (jo 61 (.blds 66 1 [(.slice none 0 0)] [(0,1,60)]))
 (.m (jo 62 (.app 66 1 24 [(.slice none 0 0)] 50 61))
 (.f (jf 63 14 15)
 (.m (js 63 62)
 .done)))))))))))))))))))))
 (jR [(jm 39 17),(ja 40 39 1),(jm 17 40)]))))))
 (jQ (.seq (jR [(jk 19 0)])
 (.block 4
 (.loop 2417833192485184640385024
 (jQ (.seq (jR [(jm 64 19),(jm 65 6),(jt 66 65),(jw 67 64 66)])
 (.cond 67
 .skip
 (.exit 4)))
 (jQ (.block 5
 (.draw (.f (jf 70 15 15)
 (.f (jl 71 70)
 (.f (jm 72 6)
 (.f (jm 73 19)
 (.f (jx 74 1 72 73)
 (.f (jl 75 74)
 (.f (jm 76 1)
 (.f (jC 77 12 75 76)
 (.m (jo 78 (.blds 3 1 [(.int .i64 0)] [(0,1,77)]))
 (.m (jo 79 (.app 3 1 8 [(.int .i64 0)] 71 78))
 (.f (jf 80 15 15)
 (.m (js 80 79)
 .done))))))))))))))
 (jR [(jm 68 19),(ja 69 68 1),(jm 19 69)]))))))
 (jQ (jR [(jL 81 16 15),(jS 16 14 81)])
 .ret)))))),
 [.cellN 14 16]⟩
theorem q6P:qn Tryz.prog qd 18=some ⟨q1W.n,qi q1W.body,q1W.res⟩:=by kernel_rfl
def q0H:IFn:=⟨84,
 (jQ (jR [(jo 4 (.new 69 eZ9))])
 (jQ (jR [(jm 9 1),(jo 10 (.bin .rem 9 (.const (.int .u64 4)))),(jo 11 (.conv .i64 10)),(jm 12 1),(jo 13 (.bin .quo 12 (.const (.int .u64 4)))),
 (jo 14 (.bin .rem 13 (.const (.int .u64 4)))),(jo 15 (.conv .i64 14)),(jm 16 1),(jo 17 (.bin .quo 16 (.const (.int .u64 16)))),(jo 18 (.bin .rem 17 (.const (.int .u64 4)))),
 (jo 19 (.conv .i64 18)),(jm 5 11),(jm 6 15),(jm 7 19)])
 (jQ (jR [(jm 20 1),(jo 21 (.bin .quo 20 (.const (.int .u64 64)))),(jo 22 (.bin .rem 21 (.const (.int .u64 1024)))),(jo 23 (.conv .i64 22)),
 (jm 8 23)])
 (jQ (.seq (jR [(jm 24 0)])
 (.block 0
 (jQ (jR [(jq 26 24 1),(jm 25 26)])
 (.cond 25
 (jQ (jR [(jm 27 0),(jm 28 5),(jm 29 8),(jo 30 (.bin .rem 29 (jI 7))),(jo 31 (.bld q7Y [(0,1,27),(1,1,28),(4,1,30)])),
 (jS 5 4 31)])
 .ret)
 (jQ (jR [(jq 33 24 2),(jm 32 33)])
 (.cond 32
 (jQ (jR [(jm 34 0),(jm 35 5),(jm 36 6),(jo 37 (.bld q7Y [(0,1,34),(1,1,35),(2,1,36)])),
 (jS 5 4 37)])
 .ret)
 (jQ (jR [(jq 39 24 3),(jm 38 39)])
 (.cond 38
 (jQ (jR [(jm 40 0),(jm 41 5),(jm 42 6),(jm 43 7),(jo 44 (.blds 3 6 [(.int .i64 0),(.int .i64 0),(.int .i64 0),(.int .i64 0),(.int .i64 0),(.int .i64 0)] [(0,1,(jI 0)),(1,1,(jI 1)),(2,1,(jI 5)),(3,1,(jI 8)),(4,1,(jI 11)),(5,1,(jI 12))])),
 (jm 45 8),(jo 46 (.bin .rem 45 (jI 6))),(jx 47 1 44 46),(jl 48 47),(jo 49 (.bld q7Y [(0,1,40),(1,1,41),(2,1,42),(3,1,43),(4,1,48)])),
 (jS 5 4 49)])
 .ret)
 (jQ (.seq (jR [(jq 51 24 10),(jm 50 51)])
 (.cond 50
 .skip
 (jQ (jR [(jq 52 24 11),(jm 50 52)])
 (.cond 50
 .skip
 (jQ (jR [(jq 53 24 12),(jm 50 53)])
 (.cond 50
 .skip
 (jR [(jq 54 24 13),(jm 50 54)])))))))
 (.cond 50
 (jQ (jR [(jm 55 0),(jm 56 5),(jm 57 6),(jm 58 8),(jo 59 (.bin .rem 58 (jI 5))),(jo 60 (.bld q7Y [(0,1,55),(1,1,56),(2,1,57),(4,1,59)])),
 (jS 5 4 60)])
 .ret)
 (jQ (jR [(jq 62 24 14),(jm 61 62)])
 (.cond 61
 (jQ (jR [(jm 63 0),(jm 64 5),(jm 65 8),(jo 66 (.bin .rem 65 (jI 3))),(jo 67 (.bin .rem 66 (jI 2))),(jo 68 (.bld q7Y [(0,1,63),(1,1,64),(4,1,67)])),
 (jS 5 4 68)])
 .ret)
 (jQ (.seq (jR [(jq 70 24 15),(jm 69 70)])
 (.cond 69
 .skip
 (jR [(jq 71 24 17),(jm 69 71)])))
 (.cond 69
 (jQ (jR [(jm 72 0),(jm 73 5),(jo 74 (.bld q7Y [(0,1,72),(1,1,73)])),
 (jS 5 4 74)])
 .ret)
 (jQ (jR [(jq 76 24 7),(jm 75 76)])
 (.cond 75
 (jQ (jR [(jm 77 0),(jm 78 8),(jo 79 (.bin .rem 78 (jI 3))),(jo 80 (.bin .add (jI 1) 79)),(jo 81 (.bld q7Y [(0,1,77),(4,1,80)])),
 (jS 5 4 81)])
 .ret)
 .skip))))))))))))))))
 (jQ (jR [(jm 82 0),(jo 83 (.bld q7Y [(0,1,82)])),(jS 5 4 83)])
 .ret))))),
 [.cellN 4 5]⟩
theorem q4u:qn Tryz.prog qd 73=some ⟨q0H.n,qi q0H.body,q0H.res⟩:=by kernel_rfl
end Go.Proofs.YtkieffpjjfebjaaGreatDoor
