/- What the laws share, part 1. No condition. -/
import Derived.WalkKit
import Derived.Deep.Quiet
import Derived.OrdersIn
import Derived.TacticsIn
import Derived.RangeFuncCalls
import Derived.Laws.FloatArith
import Derived.Great.BuildSlice
import Derived.Laws.Append
import Derived.Laws.StructEq
import Derived.Laws.MakeOwn
import Derived.ChangeKeysEq
import Derived.Deep.QuietTactic
import Derived.RangeFuncFrom
import Derived.RangeFuncLeaves
import Derived.Test.YtkieffpjjfebjaaGreatDoorRows
import Derived.Test.YtkieffpjjfebjaaGreatDoorZ29
set_option maxHeartbeats 4000000
set_option maxRecDepth 100000
namespace Go.Proofs.YtkieffpjjfebjaaGreatDoor
open Go
section rules
variable{P:Program}{W0:World}{own:Own}{f:Fr}
theorem qqm{k:FuncId}{args:List Value}{R K:Value→Own→Prop}(h:q0E P W0 k args own R)(hk:∀v own',R v own'→K v own'):qf P W0 own k args K:=
 ⟨fun w hw=>(h w hw).mono fun _ _ ⟨v,own',he,hs,hr⟩=>⟨v,own',he,hs,hk _ _ hr⟩⟩
end rules
open Go
section
variable{P:Program}{W0:World}{own:Own}{k k0:FuncId}{args args0:List Value}{v:Value}
theorem qpS{R K:Value→Own→Prop}(h:q0E P W0 k0 args0 own R)(ek:k=k0)(ea:args=args0)(hk:∀v own',R v own'→K v own'):qf P W0 own k args K:=by
 subst ek;subst ea;exact qqm h hk
end
open Go
def q10:IFn:=⟨150,
 (jQ (jR [(jo 6 (.mov (.const (.int .u64 0)))),(jk 7 0)])
 (jQ (jR [(jm 11 1),(jo 12 (.ffrom 11)),(jm 13 2),(jo 14 (.ffrom 13)),(jm 8 12),(jm 9 14)])
 (jQ (.seq (jR [(jm 15 0)])
 (.block 0
 (jQ (jR [(jq 17 15 0),(jm 16 17)])
 (.cond 16
 (jQ (jR [(jm 18 1),(jm 19 2),(jo 20 (.bin .add 18 19)),(jm 6 20),(jk 7 0)])
 .ret)
 (jQ (jR [(jq 22 15 1),(jm 21 22)])
 (.cond 21
 (jQ (jR [(jm 23 1),(jm 24 2),(jo 25 (.bin .sub 23 24)),(jm 6 25),(jk 7 0)])
 .ret)
 (jQ (jR [(jq 27 15 2),(jm 26 27)])
 (.cond 26
 (jQ (jR [(jm 28 1),(jm 29 2),(jo 30 (.bin .mul 28 29)),(jm 6 30),(jk 7 0)])
 .ret)
 (jQ (jR [(jq 32 15 3),(jm 31 32)])
 (.cond 31
 (jQ (jR [(jm 33 1),(jm 34 2),(jo 35 (.bin .and 33 34)),(jm 6 35),(jk 7 0)])
 .ret)
 (jQ (jR [(jq 37 15 4),(jm 36 37)])
 (.cond 36
 (jQ (jR [(jm 38 1),(jm 39 2),(jo 40 (.bin .or 38 39)),(jm 6 40),(jk 7 0)])
 .ret)
 (jQ (jR [(jq 42 15 5),(jm 41 42)])
 (.cond 41
 (jQ (jR [(jm 43 1),(jm 44 2),(jo 45 (.bin .xor 43 44)),(jm 6 45),(jk 7 0)])
 .ret)
 (jQ (jR [(jq 47 15 6),(jm 46 47)])
 (.cond 46
 (jQ (jR [(jm 48 1),(jm 49 2),(jo 50 (.bin .rem 49 (.const (.int .u64 64)))),(jo 51 (.bin .shl 48 50)),(jm 6 51),(jk 7 0)])
 .ret)
 (jQ (jR [(jq 53 15 7),(jm 52 53)])
 (.cond 52
 (jQ (jR [(jm 54 1),(jm 55 2),(jo 56 (.bin .rem 55 (.const (.int .u64 64)))),(jo 57 (.bin .shr 54 56)),(jm 6 57),(jk 7 0)])
 .ret)
 (jQ (jR [(jq 59 15 8),(jm 58 59)])
 (.cond 58
 (jQ (jR [(jm 60 1),(jm 61 2),(jo 62 (.bin .eql 60 61)),(jc 63 157 62),(jm 6 63),(jk 7 0)])
 .ret)
 (jQ (jR [(jq 65 15 9),(jm 64 65)])
 (.cond 64
 (jQ (jR [(jm 66 1),(jm 67 2),(jo 68 (.bin .neq 66 67)),(jc 69 157 68),(jm 6 69),(jk 7 0)])
 .ret)
 (jQ (jR [(jq 71 15 10),(jm 70 71)])
 (.cond 70
 (jQ (jR [(jm 72 1),(jo 73 (.conv .i64 72)),(jm 74 2),(jo 75 (.conv .i64 74)),(jw 76 73 75),(jc 77 157 76),(jm 6 77),(jk 7 0)])
 .ret)
 (jQ (jR [(jq 79 15 11),(jm 78 79)])
 (.cond 78
 (jQ (jR [(jm 80 1),(jm 81 2),(jw 82 80 81),(jc 83 157 82),(jm 6 83),(jk 7 0)])
 .ret)
 (jQ (jR [(jq 85 15 12),(jm 84 85)])
 (.cond 84
 (jQ (jR [(jm 86 8),(jm 87 9),(jo 88 (.flt .add 86 87)),(jc 89 158 88),(jm 6 89),(jk 7 0)])
 .ret)
 (jQ (jR [(jq 91 15 13),(jm 90 91)])
 (.cond 90
 (jQ (jR [(jm 92 8),(jm 93 9),(jo 94 (.flt .sub 92 93)),(jc 95 158 94),(jm 6 95),(jk 7 0)])
 .ret)
 (jQ (jR [(jq 97 15 14),(jm 96 97)])
 (.cond 96
 (jQ (jR [(jm 98 8),(jm 99 9),(jo 100 (.flt .mul 98 99)),(jc 101 158 100),(jm 6 101),(jk 7 0)])
 .ret)
 (jQ (jR [(jq 103 15 15),(jm 102 103)])
 (.cond 102
 (jQ (jR [(jm 104 8),(jm 105 9),(jo 106 (.flt .quo 104 105)),(jc 107 158 106),(jm 6 107),(jk 7 0)])
 .ret)
 (jQ (.seq (jR [(jq 109 15 16),(jm 108 109)])
 (.cond 108
 .skip
 (jR [(jq 110 15 17),(jm 108 110)])))
 (.cond 108
 (jQ (.seq (jR [(jm 111 1),(jc 112 159 111),(jm 113 112),(jz 113 (jm 114 2)),(jz 113 (jc 115 159 114)),(jO 116 113 115)])
 (.cond 116
 (jQ (jR [(jo 6 (.mov (.const (.int .u64 9221120237041090560)))),(jk 7 0)])
 .ret)
 .skip))
 (jQ (jR [(jm 117 1),(jm 118 2),(jC 119 160 117 118),(jm 10 119)])
 (jQ (.seq (jR [(jm 120 0),(jq 121 120 17)])
 (.cond 121
 (jR [(jm 122 1),(jm 123 2),(jo 124 (.bin .xor 122 123)),(jm 125 10),(jo 126 (.bin .xor 124 125)),(jm 10 126)])
 .skip))
 (jQ (jR [(jm 127 10),(jm 6 127),(jk 7 0)])
 .ret))))
 (jQ (jR [(jq 129 15 18),(jm 128 129)])
 (.cond 128
 (jQ (jR [(jm 130 8),(jm 131 9),(jo 132 (.fbin .eql 130 131)),(jc 133 157 132),(jm 6 133),(jk 7 0)])
 .ret)
 (jQ (jR [(jq 135 15 19),(jm 134 135)])
 (.cond 134
 (jQ (jR [(jm 136 8),(jm 137 9),(jo 138 (.fbin .lss 136 137)),(jc 139 157 138),(jm 6 139),(jk 7 0)])
 .ret)
 (jQ (jR [(jq 141 15 20),(jm 140 141)])
 (.cond 140
 (jQ (jR [(jm 142 1),(jo 143 (.conv .i64 142)),(jo 144 (.i2f 143)),(jo 145 (.fbits 144)),(jm 6 145),(jk 7 0)])
 .ret)
 (jQ (jR [(jq 147 15 21),(jm 146 147)])
 (.cond 146
 (jQ (jR [(jm 148 1),(jc 149 161 148),(jm 6 149),(jk 7 0)])
 .ret)
 .skip))))))))))))))))))))))))))))))))))))))))))))
 (jQ (jR [(jo 6 (.mov (.const (.int .u64 0)))),(jk 7 10)])
 .ret)))),
 [.tmp 6, .tmp 7]⟩
theorem qm2:qn Tryz.prog qd 137=some ⟨q10.n,qi q10.body,q10.res⟩:=by kernel_rfl
def qm5:IFn:=⟨4,
 (jQ (jR [(jo 2 (.mov (.const (.int .u64 0))))])
 (jQ (.seq (jR [(jm 3 0)])
 (.cond 3
 (jQ (jR [(jo 2 (.mov (.const (.int .u64 1))))])
 .ret)
 .skip))
 (jQ (jR [(jo 2 (.mov (.const (.int .u64 0))))])
 .ret))),
 [.tmp 2]⟩
theorem qnd:qn Tryz.prog qd 157=some ⟨qm5.n,qi qm5.body,qm5.res⟩:=by kernel_rfl
def qm3:IFn:=⟨26,
 (jQ (jR [(jo 4 (.mov (.const (.int .u64 0))))])
 (jQ (jR [(jm 7 0),(jo 8 (.ffrom 7)),(jm 9 1),(jo 10 (.ffrom 9)),(jm 5 8),(jm 6 10)])
 (jQ (.seq (jR [(jm 11 5),(jm 12 6),(jo 13 (.fbin .lss 11 12)),(jm 14 13),(jz 14 (jm 15 5)),(jz 14 (jm 16 6)),(jz 14 (jo 17 (.fbin .eql 15 16))),
 (jz 14 (jm 18 17)),(jy 18 (jm 19 0)),(jy 18 (jo 20 (.bin .shr 19 (.const (.int .u64 63))))),(jy 18 (jo 21 (.bin .eql 20 (.const (.int .u64 1))))),
 (jz 14 (jA 22 18 21)),(jO 23 14 22)])
 (.cond 23
 (jQ (jR [(jm 24 0),(jm 4 24)])
 .ret)
 .skip))
 (jQ (jR [(jm 25 1),(jm 4 25)])
 .ret)))),
 [.tmp 4]⟩
theorem qnb:qn Tryz.prog qd 160=some ⟨qm3.n,qi qm3.body,qm3.res⟩:=by kernel_rfl
def qm4:IFn:=⟨18,
 (jQ (jR [(jo 2 (.mov (.const (.int .u64 0))))])
 (jQ (jR [(jm 4 0),(jo 5 (.ffrom 4)),(jm 3 5)])
 (jQ (.block 0
 (jQ (jR [(jm 7 0),(jc 8 159 7),(jm 6 8)])
 (.cond 6
 (jQ (jR [(jo 2 (.mov (.const (.int .u64 0))))])
 .ret)
 (jQ (jR [(jm 10 3),(jo 11 (.fbin .geq 10 (.const (.float .f64 4890909195324358656)))),(jm 9 11)])
 (.cond 9
 (jQ (jR [(jo 2 (.mov (.const (.int .u64 9223372036854775807))))])
 .ret)
 (jQ (jR [(jm 13 3),(jo 14 (.fbin .lss 13 (.const (.float .f64 14114281232179134464)))),(jm 12 14)])
 (.cond 12
 (jQ (jR [(jo 2 (.mov (.const (.int .u64 9223372036854775808))))])
 .ret)
 .skip)))))))
 (jQ (jR [(jm 15 3),(jo 16 (.f2i .i64 15)),(jo 17 (.conv .u64 16)),(jm 2 17)])
 .ret)))),
 [.tmp 2]⟩
theorem qnc:qn Tryz.prog qd 161=some ⟨qm4.n,qi qm4.body,qm4.res⟩:=by kernel_rfl
def q11:IFn:=⟨83,
 (jQ (jR [(jb 1 32 0),(jk 2 0),(jk 3 0),(jk 4 0)])
 (jQ (.seq (jR [(jf 10 0 1),(jL 11 13 10),(jc 12 71 11),(jm 5 12)])
 (jQ (jR [(jm 13 5),(jo 14 (.bin .neq 13 (jI 0)))])
 (.cond 14
 (jQ (jR [(jm 15 5),(jk 2 0),(jk 3 0),(jm 4 15)])
 .ret)
 .skip)))
 (jQ (.seq (jR [(jf 16 14 1),(jl 17 16),(jt 18 17),(jo 19 (.bin .lss 18 (jI 1))),(jm 20 19),(jz 20 (jf 21 14 1)),(jz 20 (jl 22 21)),
 (jz 20 (jt 23 22)),(jz 20 (jo 24 (.bin .gtr 23 (jI 16)))),(jO 25 20 24)])
 (.cond 25
 (jQ (jR [(jk 2 0),(jk 3 0),(jk 4 54)])
 .ret)
 .skip))
 (jQ (.seq (jR [(jf 26 13 1),(jl 27 26),(jt 28 27),(jf 29 0 1),(jf 30 0 29),(jl 31 30),(jo 32 (.bin .neq 28 31))])
 (.cond 32
 (jQ (jR [(jk 2 0),(jk 3 0),(jk 4 55)])
 .ret)
 .skip))
 (jQ (.seq (jR [(jk 6 0)])
 (.block 0
 (.loop 18014389919547868
 (jQ (.seq (jR [(jm 33 6),(jf 34 14 1),(jl 35 34),(jt 36 35),(jw 37 33 36)])
 (.cond 37
 .skip
 (.exit 0)))
 (jQ (.block 1
 (jQ (jR [(jf 41 14 1),(jl 42 41),(jm 43 6),(jx 44 1 42 43),(jl 45 44),(jc 46 72 45),(jm 40 46),(je 47 40 0),(je 48 40 1),(jm 7 47),(jm 8 48)])
 (jQ (jR [(jm 49 8),(jo 50 (.bin .neq 49 (jI 0)))])
 (.cond 50
 (jQ (jR [(jm 51 6),(jm 52 7),(jm 53 8),(jm 2 51),(jm 3 52),(jm 4 53)])
 .ret)
 .skip))))
 (jR [(jm 38 6),(ja 39 38 1),(jm 6 39)]))))))
 (jQ (.seq (jR [(jf 54 15 1),(jl 55 54),(jt 56 55),(jo 57 (.bin .gtr 56 (jI 65536)))])
 (.cond 57
 (jQ (jR [(jk 2 0),(jk 3 0),(jk 4 56)])
 .ret)
 .skip))
 (jQ (.seq (jR [(jk 9 0)])
 (.block 2
 (.loop 9671406268686657245938204
 (jQ (.seq (jR [(jm 58 9),(jf 59 15 1),(jl 60 59),(jt 61 60),(jw 62 58 61)])
 (.cond 62
 .skip
 (.exit 2)))
 (jQ (.block 3
 (jQ (.draw (.f (jf 65 15 1)
 (.f (jl 66 65)
 (.f (jm 67 9)
 (.f (jx 68 1 66 67)
 (.f (jl 69 68)
 (.f (jo 70 (.bin .lss 69 (jI 0)))
 (.f (jm 71 70)
 (.f (jz 71 (jf 72 15 1))
 (.f (jz 71 (jl 73 72))
 (.f (jz 71 (jm 74 9))
 (.f (jz 71 (jx 75 1 73 74))
 (.f (jz 71 (jl 76 75))
 (.f (jz 71 (jf 77 14 1))
 (.f (jz 71 (jl 78 77))
 (.f (jz 71 (jt 79 78))
 (.f (jz 71 (jo 80 (.bin .geq 76 79)))
 (.f (jO 81 71 80)
 .done))))))))))))))))))
 (.cond 81
 (jQ (jR [(jm 82 9),(jk 2 0),(jm 3 82),(jk 4 56)])
 .ret)
 .skip)))
 (jR [(jm 63 9),(ja 64 63 1),(jm 9 64)]))))))
 (jQ (jR [(jk 2 0),(jk 3 0),(jk 4 0)])
 .ret)))))))),
 [.tmp 2, .tmp 3, .tmp 4]⟩
theorem qmA:qn Tryz.prog qd 39=some ⟨q11.n,qi q11.body,q11.res⟩:=by kernel_rfl
def qmd:IFn:=⟨5,
 (jQ (jR [(jb 1 32 0),(jo 2 (.new 32 eZ4))])
 (jQ (jR [(jf 3 15 1),
 ⟨none, .st 3 (.const (.slice none 0 0)),none⟩])
 (jQ (jR [(jL 4 16 1),(jS 16 2 4)])
 .ret))),
 [.cellN 2 16]⟩
theorem qnp:qn Tryz.prog qd 40=some ⟨qmd.n,qi qmd.body,qmd.res⟩:=by kernel_rfl
def qme:IFn:=⟨19,
 (jQ (jR [(jb 2 28 0),(jk 4 0)])
 (jQ (.seq (jR [(jk 5 0)])
 (.block 0
 (.loop 524272
 (jQ (.seq (jR [(jm 6 5),(jL 7 13 2),(jc 8 43 7),(jw 9 6 8)])
 (.cond 9
 .skip
 (.exit 0)))
 (jQ (.block 1
 (jQ (jR [(jL 12 13 2),(jm 13 5),(jC 14 136 12 13),(jo 15 (.conv .u64 14)),(jm 16 1),(jo 17 (.bin .eql 15 16))])
 (.cond 17
 (jQ (jR [(jm 18 5),(jm 4 18)])
 .ret)
 .skip)))
 (jR [(jm 10 5),(ja 11 10 1),(jm 5 11)]))))))
 (jQ (jR [(jo 4 (.mov (.const (.int .i64 (-1)))))])
 .ret))),
 [.tmp 4]⟩
theorem qnq:qn Tryz.prog qd 134=some ⟨qme.n,qi qme.body,qme.res⟩:=by kernel_rfl
def qm6:IFn:=⟨29,
 (jQ (jR [(jb 2 28 0),(jk 4 0)])
 (jQ (.seq (jR [(jm 6 1),(jo 7 (.bin .lss 6 (jI 0))),(jm 8 7),(jz 8 (jm 9 1)),(jz 8 (jL 10 13 2)),(jz 8 (jc 11 43 10)),(jz 8 (jo 12 (.bin .geq 9 11))),
 (jO 13 8 12)])
 (.cond 13
 (jQ (jR [(jo 4 (.mov (.const (.int .i64 (-1)))))])
 .ret)
 .skip))
 (jQ (jR [(jk 5 0)])
 (jQ (.block 0
 (.loop 268419106
 (jQ (.seq (jR [(jm 14 1),(jm 15 5),(jf 16 3 2),(jo 17 (.ixa 4 1 16 15)),(jl 18 17),(jo 19 (.bin .geq 14 18))])
 (.cond 19
 .skip
 (.exit 0)))
 (.block 1
 (jQ (jR [(jm 20 1),(jm 21 5),(jf 22 3 2),(jo 23 (.ixa 4 1 22 21)),(jl 24 23),(jo 25 (.bin .sub 20 24)),(jm 1 25)])
 (jR [(jm 26 5),(ja 27 26 1),(jm 5 27)]))))))
 (jQ (jR [(jm 28 5),(jm 4 28)])
 .ret))))),
 [.tmp 4]⟩
theorem qne:qn Tryz.prog qd 135=some ⟨qm6.n,qi qm6.body,qm6.res⟩:=by kernel_rfl
def qm7:IFn:=⟨29,
 (jQ (jR [(jb 2 28 0),(jk 4 0)])
 (jQ (.seq (jR [(jm 7 1),(jo 8 (.bin .lss 7 (jI 0))),(jm 9 8),(jz 9 (jm 10 1)),(jz 9 (jL 11 13 2)),(jz 9 (jc 12 43 11)),(jz 9 (jo 13 (.bin .geq 10 12))),
 (jO 14 9 13)])
 (.cond 14
 (jQ (jR [(jo 4 (.mov (.const (.int .i64 (-1)))))])
 .ret)
 .skip))
 (jQ (jR [(jf 15 2 2),(jl 16 15),(jm 5 16)])
 (jQ (.seq (jR [(jk 6 0)])
 (.block 0
 (.loop 268304480
 (jQ (.seq (jR [(jm 17 6),(jm 18 1),(jw 19 17 18)])
 (.cond 19
 .skip
 (.exit 0)))
 (jQ (.block 1
 (jR [(jm 22 5),(jL 23 13 2),(jm 24 6),(jC 25 135 23 24),(jo 26 (.bin .shl (jI 1) 25)),(jo 27 (.bin .add 22 26)),
 (jm 5 27)]))
 (jR [(jm 20 6),(ja 21 20 1),(jm 6 21)]))))))
 (jQ (jR [(jm 28 5),(jm 4 28)])
 .ret))))),
 [.tmp 4]⟩
theorem qnf:qn Tryz.prog qd 136=some ⟨qm7.n,qi qm7.body,qm7.res⟩:=by kernel_rfl
def qmO:IFn:=⟨17,
 (jQ (jR [(jk 4 0)])
 (jQ (.seq (jR [(jm 5 1),(jo 6 (.bin .geq 5 (jI 0))),(jm 7 6),(jy 7 (jm 8 1)),(jy 7 (jm 9 0)),(jy 7 (jt 10 9)),(jy 7 (jw 11 8 10)),
 (jA 12 7 11)])
 (.cond 12
 (jQ (jR [(jm 13 0),(jm 14 1),(jx 15 1 13 14),(jl 16 15),(jm 4 16)])
 .ret)
 .skip))
 (jQ (jR [(jk 4 0)])
 .ret))),
 [.tmp 4]⟩
theorem qot:qn Tryz.prog qd 49=some ⟨qmO.n,qi qmO.body,qmO.res⟩:=by kernel_rfl
def qlU:IFn:=⟨19,
 (jQ (jR [(jo 2 (.mov (.const (.slice none 0 0))))])
 (jQ (jR [(jo 3 (.mov (.const (.slice none 0 0))))])
 (jQ (.seq (jR [(jk 4 0)])
 (.block 0
 (.loop 262136
 (jQ (.seq (jR [(jm 5 4),(jm 6 0),(jt 7 6),(jw 8 5 7)])
 (.cond 8
 .skip
 (.exit 0)))
 (jQ (.block 1
 (jR [(jm 11 3),(jm 12 0),(jm 13 4),(jx 14 1 12 13),(jl 15 14),(jo 16 (.blds 58 1 [(.int .u64 0)] [(0,1,15)])),(jo 17 (.app 58 1 8 [(.int .u64 0)] 11 16)),
 (jm 3 17)]))
 (jR [(jm 9 4),(ja 10 9 1),(jm 4 10)]))))))
 (jQ (jR [(jm 18 3),(jm 2 18)])
 .ret)))),
 [.tmp 2]⟩
theorem qmV:qn Tryz.prog qd 50=some ⟨qlU.n,qi qlU.body,qlU.res⟩:=by kernel_rfl
def qlY:IFn:=⟨19,
 (jQ (jR [(jo 2 (.mov (.const (.slice none 0 0))))])
 (jQ (jR [(jo 3 (.mov (.const (.slice none 0 0))))])
 (jQ (.seq (jR [(jk 4 0)])
 (.block 0
 (.loop 262136
 (jQ (.seq (jR [(jm 5 4),(jm 6 0),(jt 7 6),(jw 8 5 7)])
 (.cond 8
 .skip
 (.exit 0)))
 (jQ (.block 1
 (jR [(jm 11 3),(jm 12 0),(jm 13 4),(jx 14 1 12 13),(jl 15 14),(jo 16 (.blds 3 1 [(.int .i64 0)] [(0,1,15)])),(jo 17 (.app 3 1 8 [(.int .i64 0)] 11 16)),
 (jm 3 17)]))
 (jR [(jm 9 4),(ja 10 9 1),(jm 4 10)]))))))
 (jQ (jR [(jm 18 3),(jm 2 18)])
 .ret)))),
 [.tmp 2]⟩
theorem qmY:qn Tryz.prog qd 51=some ⟨qlY.n,qi qlY.body,qlY.res⟩:=by kernel_rfl
def qlO:IFn:=⟨19,
 (jQ (jR [(jo 2 (.mov (.const (.slice none 0 0))))])
 (jQ (jR [(jo 3 (.mov (.const (.slice none 0 0))))])
 (jQ (.seq (jR [(jk 4 0)])
 (.block 0
 (.loop 262136
 (jQ (.seq (jR [(jm 5 4),(jm 6 0),(jt 7 6),(jw 8 5 7)])
 (.cond 8
 .skip
 (.exit 0)))
 (jQ (.block 1
 (jR [(jm 11 3),(jm 12 0),(jm 13 4),(jx 14 5 12 13),(jL 15 5 14),(jo 16 (.blds 69 1 q7Y [(0,5,15)])),
 (jo 17 (.app 69 5 40 q7Y 11 16)),(jm 3 17)]))
 (jR [(jm 9 4),(ja 10 9 1),(jm 4 10)]))))))
 (jQ (jR [(jm 18 3),(jm 2 18)])
 .ret)))),
 [.tmp 2]⟩
theorem qmJ:qn Tryz.prog qd 52=some ⟨qlO.n,qi qlO.body,qlO.res⟩:=by kernel_rfl
def qlR:IFn:=⟨29,
 (jQ (jR [(jo 2 (.mov (.const (.slice none 0 0))))])
 (jQ (jR [(jo 3 (.mov (.const (.slice none 0 0))))])
 (jQ (.seq (jR [(jk 4 0)])
 (.block 0
 (.loop 268435448
 (jQ (.seq (jR [(jm 6 4),(jm 7 0),(jt 8 7),(jw 9 6 8)])
 (.cond 9
 .skip
 (.exit 0)))
 (jQ (.block 1
 (jQ (jR [(jm 12 0),(jm 13 4),(jx 14 6 12 13),(jL 15 6 14),(jo 5 (.new 116 eZ6)),
 (jS 6 5 15)])
 (jQ (.draw (.f (jf 16 4 5)
 (.f (jl 17 16)
 (.f (jf 19 5 5)
 (.both (.m (jc 18 51 17)
 (.f (jl 20 19)
 (.f (jf 22 4 5)
 (.m (jc 21 51 20)
 (.m (js 22 18)
 (.f (jf 23 5 5)
 (.m (js 23 21)
 .done)))))))
 (.f (jl 20 19)
 (.m (jc 18 51 17)
 (.f (jf 22 4 5)
 (.m (jc 21 51 20)
 (.m (js 22 18)
 (.f (jf 23 5 5)
 (.m (js 23 21)
 .done))))))))))))
 (jR [(jm 24 3),(jL 25 6 5),(jo 26 (.blds 116 1 eZ7 [(0,6,25)])),
 (jo 27 (.app 116 6 80 eZ7 24 26)),(jm 3 27)]))))
 (jR [(jm 10 4),(ja 11 10 1),(jm 4 11)]))))))
 (jQ (jR [(jm 28 3),(jm 2 28)])
 .ret)))),
 [.tmp 2]⟩
theorem qmQ:qn Tryz.prog qd 76=some ⟨qlR.n,qi qlR.body,qlR.res⟩:=by kernel_rfl
def qmz:IFn:=⟨18,
 (jQ (jR [(jo 4 (.mov (.const (.bool false))))])
 (jQ (.seq (jR [(jk 5 0)])
 (.block 0
 (.loop 262128
 (jQ (.seq (jR [(jm 6 5),(jm 7 0),(jt 8 7),(jw 9 6 8)])
 (.cond 9
 .skip
 (.exit 0)))
 (jQ (.block 1
 (jQ (jR [(jm 12 0),(jm 13 5),(jx 14 1 12 13),(jl 15 14),(jm 16 1),(jo 17 (.bin .eql 15 16))])
 (.cond 17
 (jQ (jR [(jo 4 (.mov (.const (.bool true))))])
 .ret)
 .skip)))
 (jR [(jm 10 5),(ja 11 10 1),(jm 5 11)]))))))
 (jQ (jR [(jo 4 (.mov (.const (.bool false))))])
 .ret))),
 [.tmp 4]⟩
theorem qnu:qn Tryz.prog qd 112=some ⟨qmz.n,qi qmz.body,qmz.res⟩:=by kernel_rfl
abbrev qrg:Value:=.agg #[.int .i64 0, .int .i64 0, .int .i64 0, .int .i64 0, .int .i64 0, .int .i64 0, .int .i64 0, .int .i64 0, .int .i64 0, .int .i64 0, .int .i64 0, .int .i64 0, .bool false]
def qmc:IFn:=⟨12,
 (jQ (jR [(jo 4 (.new 28 qrg))])
 (jQ (jR [(jm 5 0),(jo 6 (.call 12 [5,(jI 12)])),(jo 7 (.bin .add (jI 1) 6)),(jm 8 1),(jo 9 (.call 12 [8,(jI 12)])),
 (jo 10 (.bin .add (jI 1) 9)),(jo 11 (.bld [(.int .i64 0),(.int .i64 0),(.int .i64 0),(.int .i64 0),(.int .i64 0),(.int .i64 0),(.int .i64 0),(.int .i64 0),(.int .i64 0),(.int .i64 0),(.int .i64 0),(.int .i64 0),(.bool false)] [(0,1,7),(1,1,10),(7,1,(jI 16)),(8,1,(jI 32)),(11,1,(jI 1000))])),
 (jS 13 4 11)])
 .ret)),
 [.cellN 4 13]⟩
theorem qno:qn Tryz.prog qd 24=some ⟨qmc.n,qi qmc.body,qmc.res⟩:=by kernel_rfl
def qm8:IFn:=⟨57,
 (jQ (jR [(jo 4 (.new 56 qgd))])
 (jQ (jR [(jm 8 0),(jm 9 1),(jC 10 47 8 9),(jm 5 10)])
 (jQ (.seq (jR [(jm 11 5),(jt 12 11),(jq 13 12 0)])
 (.cond 13
 (jQ (jR [(jo 14 (.call 48 [])),(jS 3 4 14)])
 .ret)
 .skip))
 (jQ (jR [(jm 15 5),(jo 16 (.ixs 3 15 (jI 0))),(jL 17 3 16),(jo 6 (.new 56 qgd)),(jS 3 6 17)])
 (jQ (.seq (jR [(jk 7 1)])
 (.block 0
 (.loop 72057594037665920
 (jQ (.seq (jR [(jm 18 7),(jm 19 5),(jt 20 19),(jw 21 18 20)])
 (.cond 21
 .skip
 (.exit 0)))
 (jQ (.block 1
 (jQ (.draw (.f (jm 24 5)
 (.f (jm 25 7)
 (.f (jx 26 3 24 25)
 (.f (jf 27 1 26)
 (.f (jl 28 27)
 (.f (jf 29 1 6)
 (.f (jl 30 29)
 (.f (jo 31 (.bin .eql 28 30))
 (.f (jm 32 31)
 (.f (jy 32 (jm 33 5))
 (.f (jy 32 (jm 34 7))
 (.f (jy 32 (jx 35 3 33 34))
 (.f (jy 32 (jf 36 2 35))
 (.f (jy 32 (jl 37 36))
 (.f (jy 32 (jf 38 2 6))
 (.f (jy 32 (jl 39 38))
 (.f (jy 32 (jo 40 (.bin .eql 37 39)))
 (.f (jA 41 32 40)
 (.f (jm 42 41)
 (.f (jy 42 (jm 43 5))
 (.f (jy 42 (jm 44 7))
 (.f (jy 42 (jx 45 3 43 44))
 (.f (jy 42 (jf 46 0 45))
 (.f (jy 42 (jl 47 46))
 (.f (jy 42 (jf 48 0 6))
 (.f (jy 42 (jl 49 48))
 (.f (jy 42 (jo 50 (.bin .gtr 47 49)))
 (.f (jA 51 42 50)
 .done)))))))))))))))))))))))))))))
 (.cond 51
 (jR [(jm 52 5),(jm 53 7),(jx 54 3 52 53),(jL 55 3 54),(jS 3 6 55)])
 .skip)))
 (jR [(jm 22 7),(ja 23 22 1),(jm 7 23)]))))))
 (jQ (jR [(jL 56 3 6),(jS 3 4 56)])
 .ret)))))),
 [.cellN 4 3]⟩
theorem qng:qn Tryz.prog qd 20=some ⟨qm8.n,qi qm8.body,qm8.res⟩:=by kernel_rfl
def qm9:IFn:=⟨90,
 (jQ (jR [(jo 4 (.mov (.const (.slice none 0 0))))])
 (jQ (.seq (jR [(jm 14 0),(jm 15 1),(jC 16 77 14 15),(jm 13 16),(je 17 13 0),(je 18 13 1),(jm 5 17),(jm 6 18)])
 (jQ (jR [(jm 19 6),(jo 20 (.bin .neq 19 (jI 0)))])
 (.cond 20
 (jQ (jR [(jo 4 (.mov (.const (.slice none 0 0))))])
 .ret)
 .skip)))
 (jQ (jR [(jm 21 0),(jc 22 78 21),(jm 7 22)])
 (jQ (jR [(jo 8 (.mov (.const (.slice none 0 0))))])
 (jQ (.seq (jR [(jk 9 0)])
 (.block 0
 (.loop 618970019642690137441181440
 (jQ (.seq (jR [(jm 23 9),(jm 24 0),(jt 25 24),(jw 26 23 25)])
 (.cond 26
 .skip
 (.exit 0)))
 (jQ (.block 1
 (jQ (.seq (jR [(jm 29 0),(jm 30 9),(jx 31 6 29 30),(jf 32 2 31),(jl 33 32),(jq 34 33 3)])
 (.cond 34
 (.exit 1)
 .skip))
 (jQ (jR [(jm 35 9),(jm 10 35)])
 (jQ (.seq (jR [(jm 36 0),(jm 37 9),(jx 38 6 36 37),(jf 39 2 38),(jl 40 39),(jq 41 40 4)])
 (.cond 41
 (jR [(jm 42 0),(jm 43 9),(jC 44 79 42 43),(jm 10 44)])
 .skip))
 (jQ (jR [(jk 11 0)])
 (.block 2
 (.loop 618970019642654953077479680
 (jQ (.seq (jR [(jm 45 11),(jo 46 (.bin .lss 45 (jI 64)))])
 (.cond 46
 .skip
 (.exit 2)))
 (jQ (.block 3
 (jQ (jR [(jk 12 0)])
 (.block 4
 (.loop 618970019642127187496145152
 (jQ (.seq (jR [(jm 49 12),(jm 50 9),(jw 51 49 50)])
 (.cond 51
 .skip
 (.exit 4)))
 (jQ (.block 5
 (jQ (.draw (.f (jm 54 0)
 (.f (jm 55 12)
 (.f (jx 56 6 54 55)
 (.f (jf 57 2 56)
 (.f (jl 58 57)
 (.f (jo 59 (.bin .neq 58 (jI 3)))
 (.f (jm 60 59)
 (.f (jy 60 (jm 61 0))
 (.f (jy 60 (jm 62 12))
 (.f (jy 60 (jx 63 6 61 62))
 (.f (jy 60 (jL 64 6 63))
 (.f (jy 60 (jm 65 0))
 (.f (jy 60 (jm 66 9))
 (.f (jy 60 (jx 67 6 65 66))
 (.f (jy 60 (jL 68 6 67))
 (.f (jy 60 (jm 69 11))
 (.f (jy 60 (jo 70 (.call 80 [64,68,69])))
 (.f (jA 71 60 70)
 (.f (jm 72 71)
 (.f (jy 72 (jm 73 7))
 (.f (jy 72 (jm 74 12))
 (.f (jy 72 (jx 75 1 73 74))
 (.f (jy 72 (jl 76 75))
 (.f (jy 72 (jm 77 10))
 (.f (jy 72 (jx 78 1 76 77))
 (.f (jy 72 (jl 79 78))
 (.f (jy 72 (jo 80 (.not 79)))
 (.f (jA 81 72 80)
 .done)))))))))))))))))))))))))))))
 (.cond 81
 (jR [(jm 82 8),(jm 83 12),(jm 84 9),(jm 85 11),(jo 86 (.bld qke [(0,1,83),(1,1,84),(2,1,85)])),
 (jo 87 (.blds 56 1 qke [(0,3,86)])),(jo 88 (.app 56 3 24 qke 82 87)),
 (jm 8 88)])
 .skip)))
 (jR [(jm 52 12),(ja 53 52 1),(jm 12 53)])))))))
 (jR [(jm 47 11),(ja 48 47 1),(jm 11 48)]))))))))))
 (jR [(jm 27 9),(ja 28 27 1),(jm 9 28)]))))))
 (jQ (jR [(jm 89 8),(jm 4 89)])
 .ret)))))),
 [.tmp 4]⟩
theorem qnh:qn Tryz.prog qd 47=some ⟨qm9.n,qi qm9.body,qm9.res⟩:=by kernel_rfl
def qmf:IFn:=⟨2,
 (jQ (jR [(jo 0 (.new 56 qgd))])
 (jQ (jR [(jo 1 (.bld qke [(0,1,(.const (.int .i64 (-1)))),(1,1,(.const (.int .i64 (-1)))),(2,1,(.const (.int .i64 (-1))))])),
 (jS 3 0 1)])
 .ret)),
 [.cellN 0 3]⟩
theorem qnr:qn Tryz.prog qd 48=some ⟨qmf.n,qi qmf.body,qmf.res⟩:=by kernel_rfl
def qlV:IFn:=⟨135,
 (jQ (jR [(jo 2 (.mov (.const (.slice none 0 0))))])
 (jQ (jR [(jm 13 0),(jt 14 13),(jm 3 14)])
 (jQ (jR [(jm 15 0),(jc 16 111 15),(jm 4 16)])
 (jQ (jR [(jo 5 (.mov (.const (.slice none 0 0))))])
 (jQ (.seq (jR [(jk 6 0)])
 (.block 0
 (.loop 77371252455336267181065184
 (jQ (.seq (jR [(jm 17 6),(jm 18 3),(jw 19 17 18)])
 (.cond 19
 .skip
 (.exit 0)))
 (jQ (.block 1
 (jQ (jR [(jm 22 3),(jo 23 (.mk 4 1 1 [(.bool false)] 22 22)),(jm 7 23)])
 (jQ (.seq (jR [(jm 24 6),(ja 25 24 1),(jm 8 25)])
 (.block 2
 (.loop 4835703278458516631716608
 (jQ (.seq (jR [(jm 26 8),(jm 27 3),(jw 28 26 27)])
 (.cond 28
 .skip
 (.exit 2)))
 (jQ (.block 3
 (jQ (.draw (.f (jm 31 0)
 (.f (jm 32 6)
 (.f (jx 33 6 31 32)
 (.f (jf 34 1 33)
 (.f (jl 35 34)
 (.f (jm 36 0)
 (.f (jm 37 8)
 (.f (jx 38 6 36 37)
 (.f (jf 39 1 38)
 (.f (jl 40 39)
 (.f (jo 41 (.bin .eql 35 40))
 (.f (jm 42 41)
 (.f (jz 42 (jm 43 0))
 (.f (jz 42 (jm 44 6))
 (.f (jz 42 (jx 45 6 43 44))
 (.f (jz 42 (jf 46 2 45))
 (.f (jz 42 (jl 47 46))
 (.f (jz 42 (jq 48 47 4))
 (.f (jz 42 (jm 49 48))
 (.f (jy 49 (jm 50 0))
 (.f (jy 49 (jm 51 8))
 (.f (jy 49 (jx 52 6 50 51))
 (.f (jy 49 (jf 53 2 52))
 (.f (jy 49 (jl 54 53))
 (.f (jy 49 (jq 55 54 4))
 (.f (jy 49 (jm 56 55))
 (.f (jz 56 (jm 57 0))
 (.f (jz 56 (jm 58 8))
 (.f (jz 56 (jx 59 6 57 58))
 (.f (jz 56 (jf 60 2 59))
 (.f (jz 56 (jl 61 60))
 (.f (jz 56 (jq 62 61 3))
 (.f (jy 49 (jO 63 56 62))
 (.f (jz 42 (jA 64 49 63))
 (.f (jO 65 42 64)
 (.f (jm 9 65)
 .done)))))))))))))))))))))))))))))))))))))
 (jR [(jm 66 7),(jm 67 8),(jm 68 4),(jm 69 6),(jx 70 1 68 69),(jl 71 70),(jm 72 71),(jy 72 (jm 73 4)),(jy 72 (jm 74 8)),(jy 72 (jx 75 1 73 74)),(jy 72 (jl 76 75)),
 (jA 77 72 76),(jm 78 77),(jy 78 (jm 79 9)),(jA 80 78 79),(jx 81 1 66 67),(js 81 80)])))
 (jR [(jm 29 8),(ja 30 29 1),(jm 8 30)]))))))
 (jR [(jm 82 5),(jm 83 7),(jo 84 (.blds 104 1 [(.slice none 0 0)] [(0,1,83)])),(jo 85 (.app 104 1 24 [(.slice none 0 0)] 82 84)),
 (jm 5 85)]))))
 (jR [(jm 20 6),(ja 21 20 1),(jm 6 21)]))))))
 (jQ (.seq (jR [(jk 10 0)])
 (.block 4
 (.loop 21778071482939984290403519539365984345088
 (jQ (.seq (jR [(jm 86 10),(jm 87 3),(jw 88 86 87)])
 (.cond 88
 .skip
 (.exit 4)))
 (jQ (.block 5
 (jQ (jR [(jk 11 0)])
 (.block 6
 (.loop 21778071482937585781577404115083367290880
 (jQ (.seq (jR [(jm 91 11),(jm 92 10),(jw 93 91 92)])
 (.cond 93
 .skip
 (.exit 6)))
 (jQ (.block 7
 (jQ (jR [(jm 96 10),(ja 97 96 1),(jm 12 97)])
 (.block 8
 (.loop 21778071482623149011598917525258989735936
 (jQ (.seq (jR [(jm 98 12),(jm 99 3),(jw 100 98 99),(jm 101 100),(jy 101 (jm 102 5)),(jy 101 (jm 103 11)),(jy 101 (jx 104 1 102 103)),(jy 101 (jl 105 104)),
 (jy 101 (jm 106 10)),(jy 101 (jx 107 1 105 106)),(jy 101 (jl 108 107)),(jA 109 101 108)])
 (.cond 109
 .skip
 (.exit 8)))
 (jQ (.block 9
 (.draw (.f (jm 112 5)
 (.f (jm 113 11)
 (.f (jx 114 1 112 113)
 (.f (jl 115 114)
 (.f (jm 116 12)
 (.f (jm 117 5)
 (.f (jm 118 11)
 (.f (jx 119 1 117 118)
 (.f (jl 120 119)
 (.f (jm 121 12)
 (.f (jx 122 1 120 121)
 (.f (jl 123 122)
 (.f (jm 124 123)
 (.f (jz 124 (jm 125 5))
 (.f (jz 124 (jm 126 10))
 (.f (jz 124 (jx 127 1 125 126))
 (.f (jz 124 (jl 128 127))
 (.f (jz 124 (jm 129 12))
 (.f (jz 124 (jx 130 1 128 129))
 (.f (jz 124 (jl 131 130))
 (.f (jO 132 124 131)
 (.f (jx 133 1 115 116)
 (.m (js 133 132)
 .done)))))))))))))))))))))))))
 (jR [(jm 110 12),(ja 111 110 1),(jm 12 111)])))))))
 (jR [(jm 94 11),(ja 95 94 1),(jm 11 95)])))))))
 (jR [(jm 89 10),(ja 90 89 1),(jm 10 90)]))))))
 (jQ (jR [(jm 134 5),(jm 2 134)])
 .ret))))))),
 [.tmp 2]⟩
theorem qmW:qn Tryz.prog qd 78=some ⟨qlV.n,qi qlV.body,qlV.res⟩:=by kernel_rfl
def qma:IFn:=⟨24,
 (jQ (jR [(jk 4 0)])
 (jQ (.seq (jR [(jm 6 1),(jo 7 (.bin .sub 6 (jI 1))),(jm 5 7)])
 (.block 0
 (.loop 16777008
 (jQ (.seq (jR [(jm 8 5),(jo 9 (.bin .geq 8 (jI 0)))])
 (.cond 9
 .skip
 (.exit 0)))
 (jQ (.block 1
 (jQ (.draw (.f (jm 12 0)
 (.f (jm 13 5)
 (.f (jx 14 6 12 13)
 (.f (jf 15 1 14)
 (.f (jl 16 15)
 (.f (jm 17 0)
 (.f (jm 18 1)
 (.f (jx 19 6 17 18)
 (.f (jf 20 1 19)
 (.f (jl 21 20)
 (.f (jo 22 (.bin .eql 16 21))
 .done))))))))))))
 (.cond 22
 (jQ (jR [(jm 23 5),(jm 4 23)])
 .ret)
 .skip)))
 (jR [(jm 10 5),(jo 11 (.bin .sub 10 (jI 1))),(jm 5 11)]))))))
 (jQ (jR [(jo 4 (.mov (.const (.int .i64 (-1)))))])
 .ret))),
 [.tmp 4]⟩
theorem qni:qn Tryz.prog qd 79=some ⟨qma.n,qi qma.body,qma.res⟩:=by kernel_rfl
def qlS:IFn:=⟨60,
 (jQ (jR [(jb 3 116 0),(jb 4 116 1),(jo 6 (.mov (.const (.bool false))))])
 (jQ (.seq (jR [(jf 7 1 3),(jl 8 7),(jf 9 1 4),(jl 10 9),(jo 11 (.bin .eql 8 10))])
 (.cond 11
 (jQ (jR [(jo 6 (.mov (.const (.bool false))))])
 .ret)
 .skip))
 (jQ (.seq (jR [(jf 12 2 3),(jl 13 12),(jq 14 13 4)])
 (.cond 14
 (jR [(jL 15 6 4),(jL 16 6 3),(jS 6 3 15),(jS 6 4 16)])
 .skip))
 (jQ (.block 0
 (jQ (jR [(jf 18 2 3),(jl 19 18),(jq 20 19 4),(jm 21 20),(jz 21 (jf 22 3 3)),(jz 21 (jl 23 22)),(jz 21 (jm 24 2)),(jz 21 (jo 25 (.bin .neq 23 24))),
 (jO 26 21 25),(jm 17 26)])
 (.cond 17
 (jQ (jR [(jo 6 (.mov (.const (.bool false))))])
 .ret)
 (jQ (jR [(jf 28 2 4),(jl 29 28),(jo 30 (.bin .neq 29 (jI 4))),(jm 27 30)])
 (.cond 27
 (jQ (jR [(jf 31 3 4),(jl 32 31),(jm 33 2),(jo 34 (.bin .eql 32 33)),(jm 35 34),(jy 35 (jf 36 2 3)),(jy 35 (jl 37 36)),(jy 35 (jq 38 37 2)),
 (jy 35 (jm 39 38)),(jz 39 (jf 40 2 4)),(jz 39 (jl 41 40)),(jz 39 (jq 42 41 2)),(jy 35 (jO 43 39 42)),(jA 44 35 43),(jm 6 44)])
 .ret)
 .skip)))))
 (jQ (jR [(jf 45 5 4),(jl 46 45),(jm 47 2),(jC 48 112 46 47),(jm 49 48),(jz 49 (jf 50 2 3)),(jz 49 (jl 51 50)),(jz 49 (jq 52 51 2)),(jz 49 (jm 53 52)),
 (jy 53 (jf 54 4 4)),(jy 53 (jl 55 54)),(jy 53 (jm 56 2)),(jy 53 (jC 57 112 55 56)),(jz 49 (jA 58 53 57)),(jO 59 49 58),(jm 6 59)])
 .ret))))),
 [.tmp 6]⟩
theorem qmR:qn Tryz.prog qd 80=some ⟨qlS.n,qi qlS.body,qlS.res⟩:=by kernel_rfl
def qm1:IFn:=⟨35,
 (jQ (jR [(jo 2 (.mov (.const (.slice none 0 0))))])
 (jQ (jR [(jm 5 0),(jt 6 5),(jo 7 (.mk 4 1 1 [(.bool false)] 6 6)),(jm 3 7)])
 (jQ (.seq (jR [(jk 4 0)])
 (.block 0
 (.loop 17179868944
 (jQ (.seq (jR [(jm 8 4),(jm 9 0),(jt 10 9),(jw 11 8 10)])
 (.cond 11
 .skip
 (.exit 0)))
 (jQ (.block 1
 (jQ (jR [(jm 14 3),(jm 15 4),(jm 16 0),(jm 17 4),(jx 18 6 16 17),(jf 19 2 18),(jl 20 19),(jo 21 (.bin .neq 20 (jI 3))),(jx 22 1 14 15),
 (js 22 21)])
 (jQ (jR [(jm 23 0),(jm 24 4),(jx 25 6 23 24),(jf 26 2 25),(jl 27 26),(jq 28 27 4)])
 (.cond 28
 (jR [(jm 29 3),(jm 30 0),(jm 31 4),(jC 32 79 30 31),(jx 33 1 29 32),
 ⟨none, .st 33 (.const (.bool true)),none⟩])
 .skip))))
 (jR [(jm 12 4),(ja 13 12 1),(jm 4 13)]))))))
 (jQ (jR [(jm 34 3),(jm 2 34)])
 .ret)))),
 [.tmp 2]⟩
theorem qn1:qn Tryz.prog qd 111=some ⟨qm1.n,qi qm1.body,qm1.res⟩:=by kernel_rfl
namespace Ord
abbrev qmx(b:Bool):List Value:= [.bool b]
section
variable{W0:World}{own:Own}{a:Option Addr}{cap:Nat}{l:List EH}
theorem qnP(hR:RdE EH.enc 6 W0 own a l)(hl:l.length≤65536){i:Nat}(hi:i<l.length):qD Tryz.prog W0 79 [.slice a l.length cap, .int .i64 i] own (.int .i64 (bgL l (thr l i) i)):=by
 refine qe (qa qj qni (by simp[qma]) ?_)
 obtain⟨e,he⟩:∃e,l[i]? =some e:=⟨_,List.getElem?_eq_getElem hi⟩
 generalize hres:bgL l (thr l i) i=res
 have hte:thr l i=e.t:=by unfold thr;rw[qg6 he]
 rw[hte] at hres
 repeat'((try(conv=>whnf));first|(refine fB ?_))
 refine q1N (σ:=Nat) (fun c=> [(5, .int .i64 ((c:Int)-1))]) (fun c=>c≤i∧bgL l e.t c=res) (fun c=>c) i ⟨Nat.le_refl i,hres⟩ (eF) rfl ?_
 rintro c junk ⟨hc1,hI⟩
 cases c with
 |zero=>
  rw[bgL] at hI
  have h0:¬((0:Nat):Int)-1≥0:=by omega
  repeat'((try(conv=>whnf));first|(refine fD ?_))
  exact⟨q0N (vi hI),(eC)⟩
 |succ c=>
  obtain⟨x,hx⟩:∃x,l[c]? =some x:=⟨_,List.getElem?_eq_getElem (by omega)⟩
  have htx:thr l c=x.t:=by unfold thr;rw[qg6 hx]
  rw[bgL,htx] at hI
  have hcc:((c+1:Nat):Int)-1=c:=by omega
  rw[hcc]
  have h0:(c:Int)≥0:=by omega
  by_cases ht:x.t=e.t
  ·rw[if_pos ht] at hI
   repeat'((try(conv=>whnf));first|(refine fE ?_)|(refine fF ?_)|((with_reducible show Ld _ _ _ _);first|(refine qgp hR hx rfl ?_)|(refine qgp hR he rfl ?_))|((with_reducible show IxS _ _ _ _ _);first|((refine ixE hR hx ?_ ?_;(first|rfl|omega)))|((refine ixE hR he ?_ ?_;(first|rfl|omega)))))
   exact⟨q0N (vi hI),(eC)⟩
  ·rw[if_neg ht] at hI
   repeat'((try(conv=>whnf));first|(refine fE ?_)|(refine fG ?_)|((with_reducible show Ld _ _ _ _);first|(refine qgp hR hx rfl ?_)|(refine qgp hR he rfl ?_))|((with_reducible show IxS _ _ _ _ _);first|((refine ixE hR hx ?_ ?_;(first|rfl|omega)))|((refine ixE hR he ?_ ?_;(first|rfl|omega))))|(refine fB ?_))
   exact⟨c,⟨by omega,hI⟩,by omega,(eF),(eC)⟩
theorem qow{n:Nat}(hw:Wf l n)(hR:RdE EH.enc 6 W0 own a l)(hl:l.length≤65536):
  q0E Tryz.prog W0 111 [.slice a l.length cap] own fun v own'=>∃b,v= .slice (some ⟨b,0,none⟩) l.length l.length∧own'=q2J qmx 4 b (qeV l l.length)::own:=by
 refine qa qj qn1 (by simp[qm1]) ?_
 repeat'((try(conv=>whnf));first|(refine mkC (enc:=qmx) l.length false rfl rfl rfl (by omega) (fun b=> ?_)))
 refine q0Z (σ:=Nat) (fun i=> [(4, .int .i64 i)]) (fun i=>q2J qmx 4 b (qeV l i)::own) (fun i=>i≤l.length) (fun i=>l.length-i) 0 (by omega) (eF) Ent.refl rfl ?_
 intro i junk hi
 have hcl:=q8u l i
 by_cases hlt:i<l.length
 ·obtain⟨e,he⟩:∃e,l[i]? =some e:=⟨_,List.getElem?_eq_getElem hlt⟩
  have hlt':(i:Int)<l.length:=by omega
  have hke:knd l i=e.k:=by unfold knd;rw[qg6 he]
  have hnx:qeV l (i+1)=if e.k=4 then((qeV l i).set i (decide (e.k≠3))).set (bgL l (thr l i) i).toNat true else(qeV l i).set i (decide (e.k≠3)):=by rw[qeV,hke]
  generalize qeV l i=c at*
  obtain⟨x,hx⟩:∃x,c[i]? =some x:=⟨_,List.getElem?_eq_getElem (by omega)⟩
  have hw1:∀x∈c,(qmx x).length=1:=fun _ _=>rfl
  have hw2:∀x∈c.set i (decide (e.k≠3)),(qmx x).length=1:=fun _ _=>rfl
  have hl2:l.length=(c.set i (decide (e.k≠3))).length:=by rw[List.length_set,hcl]
  by_cases h4:e.k=4
  ·rw[if_pos h4] at hnx
   obtain⟨p,hp,hp3⟩:=hw.en i hlt (hke.trans h4)
   have hbg:=qnP (W0:=W0) (own:=q2J qmx 4 b (c.set i (decide (e.k≠3)))::own) (cap:=cap) hR.up hl hlt
   rw[qcR hp] at hbg hnx
   rw[Int.toNat_natCast] at hnx
   have hp1:=hp.1
   obtain⟨y,hy⟩:∃y,(c.set i (decide (e.k≠3)))[p]? =some y:=⟨_,List.getElem?_eq_getElem (by rw[List.length_set];omega)⟩
   repeat'((try(conv=>whnf));first|(refine fF ?_)|(apply stC (T:=4) (k:=0) (decide (e.k≠3)) hw1 hx;(exact rfl);(omega);(first|exact rfl|simp);(exact rfl))|(apply stC (T:=4) (k:=0) true hw2 hy;(exact rfl);(omega);(exact rfl);(exact rfl))|((with_reducible show Ld _ _ _ _);first|(refine qgp hR he rfl ?_))|((with_reducible show IxS _ _ _ _ _);first|((refine ixE hR he ?_ ?_;(first|rfl|omega)))|((refine ixC hx hcl.symm ?_ ?_;(first|rfl|omega)))|((refine ixC hy hl2 ?_ ?_;(first|rfl|omega))))|((with_reducible show qf _ _ _ _ _ _);first|((refine qh (hbg) ?_ ?_ ?_;(exact rfl);exact rfl)))|(refine fB ?_))
   exact⟨i+1,by omega,by omega,(eF),by rw[hnx];exact Ent.refl⟩
  ·rw[if_neg h4] at hnx
   repeat'((try(conv=>whnf));first|(refine fF ?_)|(refine fG ?_)|(apply stC (T:=4) (k:=0) (decide (e.k≠3)) hw1 hx;(exact rfl);(omega);(first|exact rfl|simp);(exact rfl))|((with_reducible show Ld _ _ _ _);first|(refine qgp hR he rfl ?_))|((with_reducible show IxS _ _ _ _ _);first|((refine ixE hR he ?_ ?_;(first|rfl|omega)))|((refine ixC hx hcl.symm ?_ ?_;(first|rfl|omega))))|(refine fB ?_))
   exact⟨i+1,by omega,by omega,(eF),by rw[hnx];exact Ent.refl⟩
 ·have hlt':¬(i:Int)<l.length:=by omega
  have hi2:i=l.length:=by omega
  repeat'((try(conv=>whnf));first|(refine fG ?_))
  exact⟨b,rfl,by rw[hi2]⟩
end
end Ord
end Go.Proofs.YtkieffpjjfebjaaGreatDoor
