/- What the laws share, part 1. No condition. -/
import Derived.WalkKit
import Derived.Deep.Quiet
import Derived.OrdersIn
import Derived.TacticsIn
import Derived.RangeFuncCalls
import Derived.Laws.FloatArith
import Derived.Great.BuildSlice
import Derived.Laws.Append
import Derived.Laws.StructEq
import Derived.Laws.MakeOwn
import Derived.ChangeKeysEq
import Derived.Deep.QuietTactic
import Derived.RangeFuncFrom
import Derived.RangeFuncLeaves
import Derived.Test.YtkieffpjjfebjaaGreatDoorRows
import Derived.Test.YtkieffpjjfebjaaGreatDoorZ29
set_option maxHeartbeats 4000000
set_option maxRecDepth 100000
namespace Go.Proofs.YtkieffpjjfebjaaGreatDoor
open Go
section rules
variable{P:Program}{W0:World}{own:Own}{f:Fr}
theorem qqm{k:FuncId}{args:List Value}{R K:Value→Own→Prop}(h:q0E P W0 k args own R)(hk:∀v own',R v own'→K v own'):qf P W0 own k args K:=
 ⟨fun w hw=>(h w hw).mono fun _ _ ⟨v,own',he,hs,hr⟩=>⟨v,own',he,hs,hk _ _ hr⟩⟩
end rules
open Go
section
variable{P:Program}{W0:World}{own:Own}{k k0:FuncId}{args args0:List Value}{v:Value}
theorem qpS{R K:Value→Own→Prop}(h:q0E P W0 k0 args0 own R)(ek:k=k0)(ea:args=args0)(hk:∀v own',R v own'→K v own'):qf P W0 own k args K:=by
 subst ek;subst ea;exact qqm h hk
end
open Go
def qlR:IFn:=⟨150,
 (jQ (jR [(jo 6 (.mov (.const (.int .u64 0)))),(jk 7 0)])
 (jQ (jR [(jm 11 1),(jo 12 (.ffrom 11)),(jm 13 2),(jo 14 (.ffrom 13)),(jm 8 12),(jm 9 14)])
 (jQ (.seq (jR [(jm 15 0)])
 (.block 0
 (jQ (jR [(jq 17 15 0),(jm 16 17)])
 (.cond 16
 (jQ (jR [(jm 18 1),(jm 19 2),(jo 20 (.bin .add 18 19)),(jm 6 20),(jk 7 0)])
 .ret)
 (jQ (jR [(jq 22 15 1),(jm 21 22)])
 (.cond 21
 (jQ (jR [(jm 23 1),(jm 24 2),(jo 25 (.bin .sub 23 24)),(jm 6 25),(jk 7 0)])
 .ret)
 (jQ (jR [(jq 27 15 2),(jm 26 27)])
 (.cond 26
 (jQ (jR [(jm 28 1),(jm 29 2),(jo 30 (.bin .mul 28 29)),(jm 6 30),(jk 7 0)])
 .ret)
 (jQ (jR [(jq 32 15 3),(jm 31 32)])
 (.cond 31
 (jQ (jR [(jm 33 1),(jm 34 2),(jo 35 (.bin .and 33 34)),(jm 6 35),(jk 7 0)])
 .ret)
 (jQ (jR [(jq 37 15 4),(jm 36 37)])
 (.cond 36
 (jQ (jR [(jm 38 1),(jm 39 2),(jo 40 (.bin .or 38 39)),(jm 6 40),(jk 7 0)])
 .ret)
 (jQ (jR [(jq 42 15 5),(jm 41 42)])
 (.cond 41
 (jQ (jR [(jm 43 1),(jm 44 2),(jo 45 (.bin .xor 43 44)),(jm 6 45),(jk 7 0)])
 .ret)
 (jQ (jR [(jq 47 15 6),(jm 46 47)])
 (.cond 46
 (jQ (jR [(jm 48 1),(jm 49 2),(jo 50 (.bin .rem 49 (.const (.int .u64 64)))),(jo 51 (.bin .shl 48 50)),(jm 6 51),(jk 7 0)])
 .ret)
 (jQ (jR [(jq 53 15 7),(jm 52 53)])
 (.cond 52
 (jQ (jR [(jm 54 1),(jm 55 2),(jo 56 (.bin .rem 55 (.const (.int .u64 64)))),(jo 57 (.bin .shr 54 56)),(jm 6 57),(jk 7 0)])
 .ret)
 (jQ (jR [(jq 59 15 8),(jm 58 59)])
 (.cond 58
 (jQ (jR [(jm 60 1),(jm 61 2),(jo 62 (.bin .eql 60 61)),(jc 63 157 62),(jm 6 63),(jk 7 0)])
 .ret)
 (jQ (jR [(jq 65 15 9),(jm 64 65)])
 (.cond 64
 (jQ (jR [(jm 66 1),(jm 67 2),(jo 68 (.bin .neq 66 67)),(jc 69 157 68),(jm 6 69),(jk 7 0)])
 .ret)
 (jQ (jR [(jq 71 15 10),(jm 70 71)])
 (.cond 70
 (jQ (jR [(jm 72 1),(jo 73 (.conv .i64 72)),(jm 74 2),(jo 75 (.conv .i64 74)),(jw 76 73 75),(jc 77 157 76),(jm 6 77),(jk 7 0)])
 .ret)
 (jQ (jR [(jq 79 15 11),(jm 78 79)])
 (.cond 78
 (jQ (jR [(jm 80 1),(jm 81 2),(jw 82 80 81),(jc 83 157 82),(jm 6 83),(jk 7 0)])
 .ret)
 (jQ (jR [(jq 85 15 12),(jm 84 85)])
 (.cond 84
 (jQ (jR [(jm 86 8),(jm 87 9),(jo 88 (.flt .add 86 87)),(jc 89 158 88),(jm 6 89),(jk 7 0)])
 .ret)
 (jQ (jR [(jq 91 15 13),(jm 90 91)])
 (.cond 90
 (jQ (jR [(jm 92 8),(jm 93 9),(jo 94 (.flt .sub 92 93)),(jc 95 158 94),(jm 6 95),(jk 7 0)])
 .ret)
 (jQ (jR [(jq 97 15 14),(jm 96 97)])
 (.cond 96
 (jQ (jR [(jm 98 8),(jm 99 9),(jo 100 (.flt .mul 98 99)),(jc 101 158 100),(jm 6 101),(jk 7 0)])
 .ret)
 (jQ (jR [(jq 103 15 15),(jm 102 103)])
 (.cond 102
 (jQ (jR [(jm 104 8),(jm 105 9),(jo 106 (.flt .quo 104 105)),(jc 107 158 106),(jm 6 107),(jk 7 0)])
 .ret)
 (jQ (.seq (jR [(jq 109 15 16),(jm 108 109)])
 (.cond 108
 .skip
 (jR [(jq 110 15 17),(jm 108 110)])))
 (.cond 108
 (jQ (.seq (jR [(jm 111 1),(jc 112 159 111),(jm 113 112),(jz 113 (jm 114 2)),(jz 113 (jc 115 159 114)),(jO 116 113 115)])
 (.cond 116
 (jQ (jR [(jo 6 (.mov (.const (.int .u64 9221120237041090560)))),(jk 7 0)])
 .ret)
 .skip))
 (jQ (jR [(jm 117 1),(jm 118 2),(jC 119 160 117 118),(jm 10 119)])
 (jQ (.seq (jR [(jm 120 0),(jq 121 120 17)])
 (.cond 121
 (jR [(jm 122 1),(jm 123 2),(jo 124 (.bin .xor 122 123)),(jm 125 10),(jo 126 (.bin .xor 124 125)),(jm 10 126)])
 .skip))
 (jQ (jR [(jm 127 10),(jm 6 127),(jk 7 0)])
 .ret))))
 (jQ (jR [(jq 129 15 18),(jm 128 129)])
 (.cond 128
 (jQ (jR [(jm 130 8),(jm 131 9),(jo 132 (.fbin .eql 130 131)),(jc 133 157 132),(jm 6 133),(jk 7 0)])
 .ret)
 (jQ (jR [(jq 135 15 19),(jm 134 135)])
 (.cond 134
 (jQ (jR [(jm 136 8),(jm 137 9),(jo 138 (.fbin .lss 136 137)),(jc 139 157 138),(jm 6 139),(jk 7 0)])
 .ret)
 (jQ (jR [(jq 141 15 20),(jm 140 141)])
 (.cond 140
 (jQ (jR [(jm 142 1),(jo 143 (.conv .i64 142)),(jo 144 (.i2f 143)),(jo 145 (.fbits 144)),(jm 6 145),(jk 7 0)])
 .ret)
 (jQ (jR [(jq 147 15 21),(jm 146 147)])
 (.cond 146
 (jQ (jR [(jm 148 1),(jc 149 161 148),(jm 6 149),(jk 7 0)])
 .ret)
 .skip))))))))))))))))))))))))))))))))))))))))))))
 (jQ (jR [(jo 6 (.mov (.const (.int .u64 0)))),(jk 7 10)])
 .ret)))),
 [.tmp 6, .tmp 7]⟩
theorem qmb:qn Tryz.prog qd 137=some ⟨qlR.n,qi qlR.body,qlR.res⟩:=by kernel_rfl
def qmf:IFn:=⟨4,
 (jQ (jR [(jo 2 (.mov (.const (.int .u64 0))))])
 (jQ (.seq (jR [(jm 3 0)])
 (.cond 3
 (jQ (jR [(jo 2 (.mov (.const (.int .u64 1))))])
 .ret)
 .skip))
 (jQ (jR [(jo 2 (.mov (.const (.int .u64 0))))])
 .ret))),
 [.tmp 2]⟩
theorem qnn:qn Tryz.prog qd 157=some ⟨qmf.n,qi qmf.body,qmf.res⟩:=by kernel_rfl
def qmd:IFn:=⟨26,
 (jQ (jR [(jo 4 (.mov (.const (.int .u64 0))))])
 (jQ (jR [(jm 7 0),(jo 8 (.ffrom 7)),(jm 9 1),(jo 10 (.ffrom 9)),(jm 5 8),(jm 6 10)])
 (jQ (.seq (jR [(jm 11 5),(jm 12 6),(jo 13 (.fbin .lss 11 12)),(jm 14 13),(jz 14 (jm 15 5)),(jz 14 (jm 16 6)),(jz 14 (jo 17 (.fbin .eql 15 16))),
 (jz 14 (jm 18 17)),(jy 18 (jm 19 0)),(jy 18 (jo 20 (.bin .shr 19 (.const (.int .u64 63))))),(jy 18 (jo 21 (.bin .eql 20 (.const (.int .u64 1))))),
 (jz 14 (jA 22 18 21)),(jO 23 14 22)])
 (.cond 23
 (jQ (jR [(jm 24 0),(jm 4 24)])
 .ret)
 .skip))
 (jQ (jR [(jm 25 1),(jm 4 25)])
 .ret)))),
 [.tmp 4]⟩
theorem qnl:qn Tryz.prog qd 160=some ⟨qmd.n,qi qmd.body,qmd.res⟩:=by kernel_rfl
def qme:IFn:=⟨18,
 (jQ (jR [(jo 2 (.mov (.const (.int .u64 0))))])
 (jQ (jR [(jm 4 0),(jo 5 (.ffrom 4)),(jm 3 5)])
 (jQ (.block 0
 (jQ (jR [(jm 7 0),(jc 8 159 7),(jm 6 8)])
 (.cond 6
 (jQ (jR [(jo 2 (.mov (.const (.int .u64 0))))])
 .ret)
 (jQ (jR [(jm 10 3),(jo 11 (.fbin .geq 10 (.const (.float .f64 4890909195324358656)))),(jm 9 11)])
 (.cond 9
 (jQ (jR [(jo 2 (.mov (.const (.int .u64 9223372036854775807))))])
 .ret)
 (jQ (jR [(jm 13 3),(jo 14 (.fbin .lss 13 (.const (.float .f64 14114281232179134464)))),(jm 12 14)])
 (.cond 12
 (jQ (jR [(jo 2 (.mov (.const (.int .u64 9223372036854775808))))])
 .ret)
 .skip)))))))
 (jQ (jR [(jm 15 3),(jo 16 (.f2i .i64 15)),(jo 17 (.conv .u64 16)),(jm 2 17)])
 .ret)))),
 [.tmp 2]⟩
theorem qnm:qn Tryz.prog qd 161=some ⟨qme.n,qi qme.body,qme.res⟩:=by kernel_rfl
def qlS:IFn:=⟨83,
 (jQ (jR [(jb 1 32 0),(jk 2 0),(jk 3 0),(jk 4 0)])
 (jQ (.seq (jR [(jf 10 0 1),(jL 11 13 10),(jc 12 71 11),(jm 5 12)])
 (jQ (jR [(jm 13 5),(jo 14 (.bin .neq 13 (jI 0)))])
 (.cond 14
 (jQ (jR [(jm 15 5),(jk 2 0),(jk 3 0),(jm 4 15)])
 .ret)
 .skip)))
 (jQ (.seq (jR [(jf 16 14 1),(jl 17 16),(jt 18 17),(jo 19 (.bin .lss 18 (jI 1))),(jm 20 19),(jz 20 (jf 21 14 1)),(jz 20 (jl 22 21)),
 (jz 20 (jt 23 22)),(jz 20 (jo 24 (.bin .gtr 23 (jI 16)))),(jO 25 20 24)])
 (.cond 25
 (jQ (jR [(jk 2 0),(jk 3 0),(jk 4 54)])
 .ret)
 .skip))
 (jQ (.seq (jR [(jf 26 13 1),(jl 27 26),(jt 28 27),(jf 29 0 1),(jf 30 0 29),(jl 31 30),(jo 32 (.bin .neq 28 31))])
 (.cond 32
 (jQ (jR [(jk 2 0),(jk 3 0),(jk 4 55)])
 .ret)
 .skip))
 (jQ (.seq (jR [(jk 6 0)])
 (.block 0
 (.loop 18014389919547868
 (jQ (.seq (jR [(jm 33 6),(jf 34 14 1),(jl 35 34),(jt 36 35),(jw 37 33 36)])
 (.cond 37
 .skip
 (.exit 0)))
 (jQ (.block 1
 (jQ (jR [(jf 41 14 1),(jl 42 41),(jm 43 6),(jx 44 1 42 43),(jl 45 44),(jc 46 72 45),(jm 40 46),(je 47 40 0),(je 48 40 1),(jm 7 47),(jm 8 48)])
 (jQ (jR [(jm 49 8),(jo 50 (.bin .neq 49 (jI 0)))])
 (.cond 50
 (jQ (jR [(jm 51 6),(jm 52 7),(jm 53 8),(jm 2 51),(jm 3 52),(jm 4 53)])
 .ret)
 .skip))))
 (jR [(jm 38 6),(ja 39 38 1),(jm 6 39)]))))))
 (jQ (.seq (jR [(jf 54 15 1),(jl 55 54),(jt 56 55),(jo 57 (.bin .gtr 56 (jI 65536)))])
 (.cond 57
 (jQ (jR [(jk 2 0),(jk 3 0),(jk 4 56)])
 .ret)
 .skip))
 (jQ (.seq (jR [(jk 9 0)])
 (.block 2
 (.loop 9671406268686657245938204
 (jQ (.seq (jR [(jm 58 9),(jf 59 15 1),(jl 60 59),(jt 61 60),(jw 62 58 61)])
 (.cond 62
 .skip
 (.exit 2)))
 (jQ (.block 3
 (jQ (.draw (.f (jf 65 15 1)
 (.f (jl 66 65)
 (.f (jm 67 9)
 (.f (jx 68 1 66 67)
 (.f (jl 69 68)
 (.f (jo 70 (.bin .lss 69 (jI 0)))
 (.f (jm 71 70)
 (.f (jz 71 (jf 72 15 1))
 (.f (jz 71 (jl 73 72))
 (.f (jz 71 (jm 74 9))
 (.f (jz 71 (jx 75 1 73 74))
 (.f (jz 71 (jl 76 75))
 (.f (jz 71 (jf 77 14 1))
 (.f (jz 71 (jl 78 77))
 (.f (jz 71 (jt 79 78))
 (.f (jz 71 (jo 80 (.bin .geq 76 79)))
 (.f (jO 81 71 80)
 .done))))))))))))))))))
 (.cond 81
 (jQ (jR [(jm 82 9),(jk 2 0),(jm 3 82),(jk 4 56)])
 .ret)
 .skip)))
 (jR [(jm 63 9),(ja 64 63 1),(jm 9 64)]))))))
 (jQ (jR [(jk 2 0),(jk 3 0),(jk 4 0)])
 .ret)))))))),
 [.tmp 2, .tmp 3, .tmp 4]⟩
theorem qmL:qn Tryz.prog qd 39=some ⟨qlS.n,qi qlS.body,qlS.res⟩:=by kernel_rfl
def qmo:IFn:=⟨5,
 (jQ (jR [(jb 1 32 0),(jo 2 (.new 32 eZ4))])
 (jQ (jR [(jf 3 15 1),
 ⟨none, .st 3 (.const (.slice none 0 0)),none⟩])
 (jQ (jR [(jL 4 16 1),(jS 16 2 4)])
 .ret))),
 [.cellN 2 16]⟩
theorem qnz:qn Tryz.prog qd 40=some ⟨qmo.n,qi qmo.body,qmo.res⟩:=by kernel_rfl
def qmp:IFn:=⟨19,
 (jQ (jR [(jb 2 28 0),(jk 4 0)])
 (jQ (.seq (jR [(jk 5 0)])
 (.block 0
 (.loop 524272
 (jQ (.seq (jR [(jm 6 5),(jL 7 13 2),(jc 8 43 7),(jw 9 6 8)])
 (.cond 9
 .skip
 (.exit 0)))
 (jQ (.block 1
 (jQ (jR [(jL 12 13 2),(jm 13 5),(jC 14 136 12 13),(jo 15 (.conv .u64 14)),(jm 16 1),(jo 17 (.bin .eql 15 16))])
 (.cond 17
 (jQ (jR [(jm 18 5),(jm 4 18)])
 .ret)
 .skip)))
 (jR [(jm 10 5),(ja 11 10 1),(jm 5 11)]))))))
 (jQ (jR [(jo 4 (.mov (.const (.int .i64 (-1)))))])
 .ret))),
 [.tmp 4]⟩
theorem qnA:qn Tryz.prog qd 134=some ⟨qmp.n,qi qmp.body,qmp.res⟩:=by kernel_rfl
def qmg:IFn:=⟨29,
 (jQ (jR [(jb 2 28 0),(jk 4 0)])
 (jQ (.seq (jR [(jm 6 1),(jo 7 (.bin .lss 6 (jI 0))),(jm 8 7),(jz 8 (jm 9 1)),(jz 8 (jL 10 13 2)),(jz 8 (jc 11 43 10)),(jz 8 (jo 12 (.bin .geq 9 11))),
 (jO 13 8 12)])
 (.cond 13
 (jQ (jR [(jo 4 (.mov (.const (.int .i64 (-1)))))])
 .ret)
 .skip))
 (jQ (jR [(jk 5 0)])
 (jQ (.block 0
 (.loop 268419106
 (jQ (.seq (jR [(jm 14 1),(jm 15 5),(jf 16 3 2),(jo 17 (.ixa 4 1 16 15)),(jl 18 17),(jo 19 (.bin .geq 14 18))])
 (.cond 19
 .skip
 (.exit 0)))
 (.block 1
 (jQ (jR [(jm 20 1),(jm 21 5),(jf 22 3 2),(jo 23 (.ixa 4 1 22 21)),(jl 24 23),(jo 25 (.bin .sub 20 24)),(jm 1 25)])
 (jR [(jm 26 5),(ja 27 26 1),(jm 5 27)]))))))
 (jQ (jR [(jm 28 5),(jm 4 28)])
 .ret))))),
 [.tmp 4]⟩
theorem qno:qn Tryz.prog qd 135=some ⟨qmg.n,qi qmg.body,qmg.res⟩:=by kernel_rfl
def qmh:IFn:=⟨29,
 (jQ (jR [(jb 2 28 0),(jk 4 0)])
 (jQ (.seq (jR [(jm 7 1),(jo 8 (.bin .lss 7 (jI 0))),(jm 9 8),(jz 9 (jm 10 1)),(jz 9 (jL 11 13 2)),(jz 9 (jc 12 43 11)),(jz 9 (jo 13 (.bin .geq 10 12))),
 (jO 14 9 13)])
 (.cond 14
 (jQ (jR [(jo 4 (.mov (.const (.int .i64 (-1)))))])
 .ret)
 .skip))
 (jQ (jR [(jf 15 2 2),(jl 16 15),(jm 5 16)])
 (jQ (.seq (jR [(jk 6 0)])
 (.block 0
 (.loop 268304480
 (jQ (.seq (jR [(jm 17 6),(jm 18 1),(jw 19 17 18)])
 (.cond 19
 .skip
 (.exit 0)))
 (jQ (.block 1
 (jR [(jm 22 5),(jL 23 13 2),(jm 24 6),(jC 25 135 23 24),(jo 26 (.bin .shl (jI 1) 25)),(jo 27 (.bin .add 22 26)),
 (jm 5 27)]))
 (jR [(jm 20 6),(ja 21 20 1),(jm 6 21)]))))))
 (jQ (jR [(jm 28 5),(jm 4 28)])
 .ret))))),
 [.tmp 4]⟩
theorem qnp:qn Tryz.prog qd 136=some ⟨qmh.n,qi qmh.body,qmh.res⟩:=by kernel_rfl
def qmc:IFn:=⟨55,
 (jQ (jR [(jo 4 (.mov (.const (.bool false))))])
 (jQ (.seq (jR [(jm 6 0),(jt 7 6),(jm 8 1),(jt 9 8),(jo 10 (.bin .neq 7 9))])
 (.cond 10
 (jQ (jR [(jo 4 (.mov (.const (.bool false))))])
 .ret)
 .skip))
 (jQ (.seq (jR [(jk 5 0)])
 (.block 0
 (.loop 36028797018961968
 (jQ (.seq (jR [(jm 11 5),(jm 12 0),(jt 13 12),(jw 14 11 13)])
 (.cond 14
 .skip
 (.exit 0)))
 (jQ (.block 1
 (jQ (.draw (.f (jm 17 0)
 (.f (jm 18 5)
 (.f (jx 19 3 17 18)
 (.f (jf 20 0 19)
 (.f (jl 21 20)
 (.f (jm 22 1)
 (.f (jm 23 5)
 (.f (jx 24 3 22 23)
 (.f (jf 25 0 24)
 (.f (jl 26 25)
 (.f (jo 27 (.bin .neq 21 26))
 (.f (jm 28 27)
 (.f (jz 28 (jm 29 0))
 (.f (jz 28 (jm 30 5))
 (.f (jz 28 (jx 31 3 29 30))
 (.f (jz 28 (jf 32 1 31))
 (.f (jz 28 (jl 33 32))
 (.f (jz 28 (jm 34 1))
 (.f (jz 28 (jm 35 5))
 (.f (jz 28 (jx 36 3 34 35))
 (.f (jz 28 (jf 37 1 36))
 (.f (jz 28 (jl 38 37))
 (.f (jz 28 (jo 39 (.bin .neq 33 38)))
 (.f (jO 40 28 39)
 (.f (jm 41 40)
 (.f (jz 41 (jm 42 0))
 (.f (jz 41 (jm 43 5))
 (.f (jz 41 (jx 44 3 42 43))
 (.f (jz 41 (jf 45 2 44))
 (.f (jz 41 (jl 46 45))
 (.f (jz 41 (jm 47 1))
 (.f (jz 41 (jm 48 5))
 (.f (jz 41 (jx 49 3 47 48))
 (.f (jz 41 (jf 50 2 49))
 (.f (jz 41 (jl 51 50))
 (.f (jz 41 (jC 52 38 46 51))
 (.f (jz 41 (jo 53 (.not 52)))
 (.f (jO 54 41 53)
 .done)))))))))))))))))))))))))))))))))))))))
 (.cond 54
 (jQ (jR [(jo 4 (.mov (.const (.bool false))))])
 .ret)
 .skip)))
 (jR [(jm 15 5),(ja 16 15 1),(jm 5 16)]))))))
 (jQ (jR [(jo 4 (.mov (.const (.bool true))))])
 .ret)))),
 [.tmp 4]⟩
theorem qnk:qn Tryz.prog qd 15=some ⟨qmc.n,qi qmc.body,qmc.res⟩:=by kernel_rfl
def qmB:IFn:=⟨26,
 (jQ (jR [(jo 4 (.mov (.const (.bool false))))])
 (jQ (.seq (jR [(jm 6 0),(jt 7 6),(jm 8 1),(jt 9 8),(jo 10 (.bin .neq 7 9))])
 (.cond 10
 (jQ (jR [(jo 4 (.mov (.const (.bool false))))])
 .ret)
 .skip))
 (jQ (.seq (jR [(jk 5 0)])
 (.block 0
 (.loop 67106864
 (jQ (.seq (jR [(jm 11 5),(jm 12 0),(jt 13 12),(jw 14 11 13)])
 (.cond 14
 .skip
 (.exit 0)))
 (jQ (.block 1
 (jQ (.draw (.f (jm 17 0)
 (.f (jm 18 5)
 (.f (jx 19 1 17 18)
 (.f (jl 20 19)
 (.f (jm 21 1)
 (.f (jm 22 5)
 (.f (jx 23 1 21 22)
 (.f (jl 24 23)
 (.f (jo 25 (.bin .neq 20 24))
 .done))))))))))
 (.cond 25
 (jQ (jR [(jo 4 (.mov (.const (.bool false))))])
 .ret)
 .skip)))
 (jR [(jm 15 5),(ja 16 15 1),(jm 5 16)]))))))
 (jQ (jR [(jo 4 (.mov (.const (.bool true))))])
 .ret)))),
 [.tmp 4]⟩
theorem qnU:qn Tryz.prog qd 38=some ⟨qmB.n,qi qmB.body,qmB.res⟩:=by kernel_rfl
def qm3:IFn:=⟨19,
 (jQ (jR [(jo 2 (.mov (.const (.slice none 0 0))))])
 (jQ (jR [(jo 3 (.mov (.const (.slice none 0 0))))])
 (jQ (.seq (jR [(jk 4 0)])
 (.block 0
 (.loop 262136
 (jQ (.seq (jR [(jm 5 4),(jm 6 0),(jt 7 6),(jw 8 5 7)])
 (.cond 8
 .skip
 (.exit 0)))
 (jQ (.block 1
 (jR [(jm 11 3),(jm 12 0),(jm 13 4),(jx 14 1 12 13),(jl 15 14),(jo 16 (.blds 58 1 [(.int .u64 0)] [(0,1,15)])),(jo 17 (.app 58 1 8 [(.int .u64 0)] 11 16)),
 (jm 3 17)]))
 (jR [(jm 9 4),(ja 10 9 1),(jm 4 10)]))))))
 (jQ (jR [(jm 18 3),(jm 2 18)])
 .ret)))),
 [.tmp 2]⟩
theorem qn5:qn Tryz.prog qd 50=some ⟨qm3.n,qi qm3.body,qm3.res⟩:=by kernel_rfl
def qm8:IFn:=⟨19,
 (jQ (jR [(jo 2 (.mov (.const (.slice none 0 0))))])
 (jQ (jR [(jo 3 (.mov (.const (.slice none 0 0))))])
 (jQ (.seq (jR [(jk 4 0)])
 (.block 0
 (.loop 262136
 (jQ (.seq (jR [(jm 5 4),(jm 6 0),(jt 7 6),(jw 8 5 7)])
 (.cond 8
 .skip
 (.exit 0)))
 (jQ (.block 1
 (jR [(jm 11 3),(jm 12 0),(jm 13 4),(jx 14 1 12 13),(jl 15 14),(jo 16 (.blds 3 1 [(.int .i64 0)] [(0,1,15)])),(jo 17 (.app 3 1 8 [(.int .i64 0)] 11 16)),
 (jm 3 17)]))
 (jR [(jm 9 4),(ja 10 9 1),(jm 4 10)]))))))
 (jQ (jR [(jm 18 3),(jm 2 18)])
 .ret)))),
 [.tmp 2]⟩
theorem qn9:qn Tryz.prog qd 51=some ⟨qm8.n,qi qm8.body,qm8.res⟩:=by kernel_rfl
def qlX:IFn:=⟨19,
 (jQ (jR [(jo 2 (.mov (.const (.slice none 0 0))))])
 (jQ (jR [(jo 3 (.mov (.const (.slice none 0 0))))])
 (jQ (.seq (jR [(jk 4 0)])
 (.block 0
 (.loop 262136
 (jQ (.seq (jR [(jm 5 4),(jm 6 0),(jt 7 6),(jw 8 5 7)])
 (.cond 8
 .skip
 (.exit 0)))
 (jQ (.block 1
 (jR [(jm 11 3),(jm 12 0),(jm 13 4),(jx 14 5 12 13),(jL 15 5 14),(jo 16 (.blds 69 1 q7Y [(0,5,15)])),
 (jo 17 (.app 69 5 40 q7Y 11 16)),(jm 3 17)]))
 (jR [(jm 9 4),(ja 10 9 1),(jm 4 10)]))))))
 (jQ (jR [(jm 18 3),(jm 2 18)])
 .ret)))),
 [.tmp 2]⟩
theorem qmU:qn Tryz.prog qd 52=some ⟨qlX.n,qi qlX.body,qlX.res⟩:=by kernel_rfl
def qmK:IFn:=⟨18,
 (jQ (jR [(jo 4 (.mov (.const (.bool false))))])
 (jQ (.seq (jR [(jk 5 0)])
 (.block 0
 (.loop 262128
 (jQ (.seq (jR [(jm 6 5),(jm 7 0),(jt 8 7),(jw 9 6 8)])
 (.cond 9
 .skip
 (.exit 0)))
 (jQ (.block 1
 (jQ (jR [(jm 12 0),(jm 13 5),(jx 14 1 12 13),(jl 15 14),(jm 16 1),(jo 17 (.bin .eql 15 16))])
 (.cond 17
 (jQ (jR [(jo 4 (.mov (.const (.bool true))))])
 .ret)
 .skip)))
 (jR [(jm 10 5),(ja 11 10 1),(jm 5 11)]))))))
 (jQ (jR [(jo 4 (.mov (.const (.bool false))))])
 .ret))),
 [.tmp 4]⟩
theorem qnG:qn Tryz.prog qd 112=some ⟨qmK.n,qi qmK.body,qmK.res⟩:=by kernel_rfl
abbrev qr4:Value:=.agg #[.int .i64 0, .int .i64 0, .int .i64 0, .int .i64 0, .int .i64 0, .int .i64 0, .int .i64 0, .int .i64 0, .int .i64 0, .int .i64 0, .int .i64 0, .int .i64 0, .bool false]
def qmn:IFn:=⟨12,
 (jQ (jR [(jo 4 (.new 28 qr4))])
 (jQ (jR [(jm 5 0),(jo 6 (.call 12 [5,(jI 12)])),(jo 7 (.bin .add (jI 1) 6)),(jm 8 1),(jo 9 (.call 12 [8,(jI 12)])),
 (jo 10 (.bin .add (jI 1) 9)),(jo 11 (.bld [(.int .i64 0),(.int .i64 0),(.int .i64 0),(.int .i64 0),(.int .i64 0),(.int .i64 0),(.int .i64 0),(.int .i64 0),(.int .i64 0),(.int .i64 0),(.int .i64 0),(.int .i64 0),(.bool false)] [(0,1,7),(1,1,10),(7,1,(jI 16)),(8,1,(jI 32)),(11,1,(jI 1000))])),
 (jS 13 4 11)])
 .ret)),
 [.cellN 4 13]⟩
theorem qny:qn Tryz.prog qd 24=some ⟨qmn.n,qi qmn.body,qmn.res⟩:=by kernel_rfl
def qmi:IFn:=⟨57,
 (jQ (jR [(jo 4 (.new 56 qgd))])
 (jQ (jR [(jm 8 0),(jm 9 1),(jC 10 47 8 9),(jm 5 10)])
 (jQ (.seq (jR [(jm 11 5),(jt 12 11),(jq 13 12 0)])
 (.cond 13
 (jQ (jR [(jo 14 (.call 48 [])),(jS 3 4 14)])
 .ret)
 .skip))
 (jQ (jR [(jm 15 5),(jo 16 (.ixs 3 15 (jI 0))),(jL 17 3 16),(jo 6 (.new 56 qgd)),(jS 3 6 17)])
 (jQ (.seq (jR [(jk 7 1)])
 (.block 0
 (.loop 72057594037665920
 (jQ (.seq (jR [(jm 18 7),(jm 19 5),(jt 20 19),(jw 21 18 20)])
 (.cond 21
 .skip
 (.exit 0)))
 (jQ (.block 1
 (jQ (.draw (.f (jm 24 5)
 (.f (jm 25 7)
 (.f (jx 26 3 24 25)
 (.f (jf 27 1 26)
 (.f (jl 28 27)
 (.f (jf 29 1 6)
 (.f (jl 30 29)
 (.f (jo 31 (.bin .eql 28 30))
 (.f (jm 32 31)
 (.f (jy 32 (jm 33 5))
 (.f (jy 32 (jm 34 7))
 (.f (jy 32 (jx 35 3 33 34))
 (.f (jy 32 (jf 36 2 35))
 (.f (jy 32 (jl 37 36))
 (.f (jy 32 (jf 38 2 6))
 (.f (jy 32 (jl 39 38))
 (.f (jy 32 (jo 40 (.bin .eql 37 39)))
 (.f (jA 41 32 40)
 (.f (jm 42 41)
 (.f (jy 42 (jm 43 5))
 (.f (jy 42 (jm 44 7))
 (.f (jy 42 (jx 45 3 43 44))
 (.f (jy 42 (jf 46 0 45))
 (.f (jy 42 (jl 47 46))
 (.f (jy 42 (jf 48 0 6))
 (.f (jy 42 (jl 49 48))
 (.f (jy 42 (jo 50 (.bin .gtr 47 49)))
 (.f (jA 51 42 50)
 .done)))))))))))))))))))))))))))))
 (.cond 51
 (jR [(jm 52 5),(jm 53 7),(jx 54 3 52 53),(jL 55 3 54),(jS 3 6 55)])
 .skip)))
 (jR [(jm 22 7),(ja 23 22 1),(jm 7 23)]))))))
 (jQ (jR [(jL 56 3 6),(jS 3 4 56)])
 .ret)))))),
 [.cellN 4 3]⟩
theorem qnq:qn Tryz.prog qd 20=some ⟨qmi.n,qi qmi.body,qmi.res⟩:=by kernel_rfl
def qmj:IFn:=⟨90,
 (jQ (jR [(jo 4 (.mov (.const (.slice none 0 0))))])
 (jQ (.seq (jR [(jm 14 0),(jm 15 1),(jC 16 77 14 15),(jm 13 16),(je 17 13 0),(je 18 13 1),(jm 5 17),(jm 6 18)])
 (jQ (jR [(jm 19 6),(jo 20 (.bin .neq 19 (jI 0)))])
 (.cond 20
 (jQ (jR [(jo 4 (.mov (.const (.slice none 0 0))))])
 .ret)
 .skip)))
 (jQ (jR [(jm 21 0),(jc 22 78 21),(jm 7 22)])
 (jQ (jR [(jo 8 (.mov (.const (.slice none 0 0))))])
 (jQ (.seq (jR [(jk 9 0)])
 (.block 0
 (.loop 618970019642690137441181440
 (jQ (.seq (jR [(jm 23 9),(jm 24 0),(jt 25 24),(jw 26 23 25)])
 (.cond 26
 .skip
 (.exit 0)))
 (jQ (.block 1
 (jQ (.seq (jR [(jm 29 0),(jm 30 9),(jx 31 6 29 30),(jf 32 2 31),(jl 33 32),(jq 34 33 3)])
 (.cond 34
 (.exit 1)
 .skip))
 (jQ (jR [(jm 35 9),(jm 10 35)])
 (jQ (.seq (jR [(jm 36 0),(jm 37 9),(jx 38 6 36 37),(jf 39 2 38),(jl 40 39),(jq 41 40 4)])
 (.cond 41
 (jR [(jm 42 0),(jm 43 9),(jC 44 79 42 43),(jm 10 44)])
 .skip))
 (jQ (jR [(jk 11 0)])
 (.block 2
 (.loop 618970019642654953077479680
 (jQ (.seq (jR [(jm 45 11),(jo 46 (.bin .lss 45 (jI 64)))])
 (.cond 46
 .skip
 (.exit 2)))
 (jQ (.block 3
 (jQ (jR [(jk 12 0)])
 (.block 4
 (.loop 618970019642127187496145152
 (jQ (.seq (jR [(jm 49 12),(jm 50 9),(jw 51 49 50)])
 (.cond 51
 .skip
 (.exit 4)))
 (jQ (.block 5
 (jQ (.draw (.f (jm 54 0)
 (.f (jm 55 12)
 (.f (jx 56 6 54 55)
 (.f (jf 57 2 56)
 (.f (jl 58 57)
 (.f (jo 59 (.bin .neq 58 (jI 3)))
 (.f (jm 60 59)
 (.f (jy 60 (jm 61 0))
 (.f (jy 60 (jm 62 12))
 (.f (jy 60 (jx 63 6 61 62))
 (.f (jy 60 (jL 64 6 63))
 (.f (jy 60 (jm 65 0))
 (.f (jy 60 (jm 66 9))
 (.f (jy 60 (jx 67 6 65 66))
 (.f (jy 60 (jL 68 6 67))
 (.f (jy 60 (jm 69 11))
 (.f (jy 60 (jo 70 (.call 80 [64,68,69])))
 (.f (jA 71 60 70)
 (.f (jm 72 71)
 (.f (jy 72 (jm 73 7))
 (.f (jy 72 (jm 74 12))
 (.f (jy 72 (jx 75 1 73 74))
 (.f (jy 72 (jl 76 75))
 (.f (jy 72 (jm 77 10))
 (.f (jy 72 (jx 78 1 76 77))
 (.f (jy 72 (jl 79 78))
 (.f (jy 72 (jo 80 (.not 79)))
 (.f (jA 81 72 80)
 .done)))))))))))))))))))))))))))))
 (.cond 81
 (jR [(jm 82 8),(jm 83 12),(jm 84 9),(jm 85 11),(jo 86 (.bld qke [(0,1,83),(1,1,84),(2,1,85)])),
 (jo 87 (.blds 56 1 qke [(0,3,86)])),(jo 88 (.app 56 3 24 qke 82 87)),
 (jm 8 88)])
 .skip)))
 (jR [(jm 52 12),(ja 53 52 1),(jm 12 53)])))))))
 (jR [(jm 47 11),(ja 48 47 1),(jm 11 48)]))))))))))
 (jR [(jm 27 9),(ja 28 27 1),(jm 9 28)]))))))
 (jQ (jR [(jm 89 8),(jm 4 89)])
 .ret)))))),
 [.tmp 4]⟩
theorem qnr:qn Tryz.prog qd 47=some ⟨qmj.n,qi qmj.body,qmj.res⟩:=by kernel_rfl
def qmq:IFn:=⟨2,
 (jQ (jR [(jo 0 (.new 56 qgd))])
 (jQ (jR [(jo 1 (.bld qke [(0,1,(.const (.int .i64 (-1)))),(1,1,(.const (.int .i64 (-1)))),(2,1,(.const (.int .i64 (-1))))])),
 (jS 3 0 1)])
 .ret)),
 [.cellN 0 3]⟩
theorem qnB:qn Tryz.prog qd 48=some ⟨qmq.n,qi qmq.body,qmq.res⟩:=by kernel_rfl
def qm4:IFn:=⟨135,
 (jQ (jR [(jo 2 (.mov (.const (.slice none 0 0))))])
 (jQ (jR [(jm 13 0),(jt 14 13),(jm 3 14)])
 (jQ (jR [(jm 15 0),(jc 16 111 15),(jm 4 16)])
 (jQ (jR [(jo 5 (.mov (.const (.slice none 0 0))))])
 (jQ (.seq (jR [(jk 6 0)])
 (.block 0
 (.loop 77371252455336267181065184
 (jQ (.seq (jR [(jm 17 6),(jm 18 3),(jw 19 17 18)])
 (.cond 19
 .skip
 (.exit 0)))
 (jQ (.block 1
 (jQ (jR [(jm 22 3),(jo 23 (.mk 4 1 1 [(.bool false)] 22 22)),(jm 7 23)])
 (jQ (.seq (jR [(jm 24 6),(ja 25 24 1),(jm 8 25)])
 (.block 2
 (.loop 4835703278458516631716608
 (jQ (.seq (jR [(jm 26 8),(jm 27 3),(jw 28 26 27)])
 (.cond 28
 .skip
 (.exit 2)))
 (jQ (.block 3
 (jQ (.draw (.f (jm 31 0)
 (.f (jm 32 6)
 (.f (jx 33 6 31 32)
 (.f (jf 34 1 33)
 (.f (jl 35 34)
 (.f (jm 36 0)
 (.f (jm 37 8)
 (.f (jx 38 6 36 37)
 (.f (jf 39 1 38)
 (.f (jl 40 39)
 (.f (jo 41 (.bin .eql 35 40))
 (.f (jm 42 41)
 (.f (jz 42 (jm 43 0))
 (.f (jz 42 (jm 44 6))
 (.f (jz 42 (jx 45 6 43 44))
 (.f (jz 42 (jf 46 2 45))
 (.f (jz 42 (jl 47 46))
 (.f (jz 42 (jq 48 47 4))
 (.f (jz 42 (jm 49 48))
 (.f (jy 49 (jm 50 0))
 (.f (jy 49 (jm 51 8))
 (.f (jy 49 (jx 52 6 50 51))
 (.f (jy 49 (jf 53 2 52))
 (.f (jy 49 (jl 54 53))
 (.f (jy 49 (jq 55 54 4))
 (.f (jy 49 (jm 56 55))
 (.f (jz 56 (jm 57 0))
 (.f (jz 56 (jm 58 8))
 (.f (jz 56 (jx 59 6 57 58))
 (.f (jz 56 (jf 60 2 59))
 (.f (jz 56 (jl 61 60))
 (.f (jz 56 (jq 62 61 3))
 (.f (jy 49 (jO 63 56 62))
 (.f (jz 42 (jA 64 49 63))
 (.f (jO 65 42 64)
 (.f (jm 9 65)
 .done)))))))))))))))))))))))))))))))))))))
 (jR [(jm 66 7),(jm 67 8),(jm 68 4),(jm 69 6),(jx 70 1 68 69),(jl 71 70),(jm 72 71),(jy 72 (jm 73 4)),(jy 72 (jm 74 8)),(jy 72 (jx 75 1 73 74)),(jy 72 (jl 76 75)),
 (jA 77 72 76),(jm 78 77),(jy 78 (jm 79 9)),(jA 80 78 79),(jx 81 1 66 67),(js 81 80)])))
 (jR [(jm 29 8),(ja 30 29 1),(jm 8 30)]))))))
 (jR [(jm 82 5),(jm 83 7),(jo 84 (.blds 104 1 [(.slice none 0 0)] [(0,1,83)])),(jo 85 (.app 104 1 24 [(.slice none 0 0)] 82 84)),
 (jm 5 85)]))))
 (jR [(jm 20 6),(ja 21 20 1),(jm 6 21)]))))))
 (jQ (.seq (jR [(jk 10 0)])
 (.block 4
 (.loop 21778071482939984290403519539365984345088
 (jQ (.seq (jR [(jm 86 10),(jm 87 3),(jw 88 86 87)])
 (.cond 88
 .skip
 (.exit 4)))
 (jQ (.block 5
 (jQ (jR [(jk 11 0)])
 (.block 6
 (.loop 21778071482937585781577404115083367290880
 (jQ (.seq (jR [(jm 91 11),(jm 92 10),(jw 93 91 92)])
 (.cond 93
 .skip
 (.exit 6)))
 (jQ (.block 7
 (jQ (jR [(jm 96 10),(ja 97 96 1),(jm 12 97)])
 (.block 8
 (.loop 21778071482623149011598917525258989735936
 (jQ (.seq (jR [(jm 98 12),(jm 99 3),(jw 100 98 99),(jm 101 100),(jy 101 (jm 102 5)),(jy 101 (jm 103 11)),(jy 101 (jx 104 1 102 103)),(jy 101 (jl 105 104)),
 (jy 101 (jm 106 10)),(jy 101 (jx 107 1 105 106)),(jy 101 (jl 108 107)),(jA 109 101 108)])
 (.cond 109
 .skip
 (.exit 8)))
 (jQ (.block 9
 (.draw (.f (jm 112 5)
 (.f (jm 113 11)
 (.f (jx 114 1 112 113)
 (.f (jl 115 114)
 (.f (jm 116 12)
 (.f (jm 117 5)
 (.f (jm 118 11)
 (.f (jx 119 1 117 118)
 (.f (jl 120 119)
 (.f (jm 121 12)
 (.f (jx 122 1 120 121)
 (.f (jl 123 122)
 (.f (jm 124 123)
 (.f (jz 124 (jm 125 5))
 (.f (jz 124 (jm 126 10))
 (.f (jz 124 (jx 127 1 125 126))
 (.f (jz 124 (jl 128 127))
 (.f (jz 124 (jm 129 12))
 (.f (jz 124 (jx 130 1 128 129))
 (.f (jz 124 (jl 131 130))
 (.f (jO 132 124 131)
 (.f (jx 133 1 115 116)
 (.m (js 133 132)
 .done)))))))))))))))))))))))))
 (jR [(jm 110 12),(ja 111 110 1),(jm 12 111)])))))))
 (jR [(jm 94 11),(ja 95 94 1),(jm 11 95)])))))))
 (jR [(jm 89 10),(ja 90 89 1),(jm 10 90)]))))))
 (jQ (jR [(jm 134 5),(jm 2 134)])
 .ret))))))),
 [.tmp 2]⟩
theorem qn6:qn Tryz.prog qd 78=some ⟨qm4.n,qi qm4.body,qm4.res⟩:=by kernel_rfl
def qmk:IFn:=⟨24,
 (jQ (jR [(jk 4 0)])
 (jQ (.seq (jR [(jm 6 1),(jo 7 (.bin .sub 6 (jI 1))),(jm 5 7)])
 (.block 0
 (.loop 16777008
 (jQ (.seq (jR [(jm 8 5),(jo 9 (.bin .geq 8 (jI 0)))])
 (.cond 9
 .skip
 (.exit 0)))
 (jQ (.block 1
 (jQ (.draw (.f (jm 12 0)
 (.f (jm 13 5)
 (.f (jx 14 6 12 13)
 (.f (jf 15 1 14)
 (.f (jl 16 15)
 (.f (jm 17 0)
 (.f (jm 18 1)
 (.f (jx 19 6 17 18)
 (.f (jf 20 1 19)
 (.f (jl 21 20)
 (.f (jo 22 (.bin .eql 16 21))
 .done))))))))))))
 (.cond 22
 (jQ (jR [(jm 23 5),(jm 4 23)])
 .ret)
 .skip)))
 (jR [(jm 10 5),(jo 11 (.bin .sub 10 (jI 1))),(jm 5 11)]))))))
 (jQ (jR [(jo 4 (.mov (.const (.int .i64 (-1)))))])
 .ret))),
 [.tmp 4]⟩
theorem qns:qn Tryz.prog qd 79=some ⟨qmk.n,qi qmk.body,qmk.res⟩:=by kernel_rfl
def qm0:IFn:=⟨60,
 (jQ (jR [(jb 3 116 0),(jb 4 116 1),(jo 6 (.mov (.const (.bool false))))])
 (jQ (.seq (jR [(jf 7 1 3),(jl 8 7),(jf 9 1 4),(jl 10 9),(jo 11 (.bin .eql 8 10))])
 (.cond 11
 (jQ (jR [(jo 6 (.mov (.const (.bool false))))])
 .ret)
 .skip))
 (jQ (.seq (jR [(jf 12 2 3),(jl 13 12),(jq 14 13 4)])
 (.cond 14
 (jR [(jL 15 6 4),(jL 16 6 3),(jS 6 3 15),(jS 6 4 16)])
 .skip))
 (jQ (.block 0
 (jQ (jR [(jf 18 2 3),(jl 19 18),(jq 20 19 4),(jm 21 20),(jz 21 (jf 22 3 3)),(jz 21 (jl 23 22)),(jz 21 (jm 24 2)),(jz 21 (jo 25 (.bin .neq 23 24))),
 (jO 26 21 25),(jm 17 26)])
 (.cond 17
 (jQ (jR [(jo 6 (.mov (.const (.bool false))))])
 .ret)
 (jQ (jR [(jf 28 2 4),(jl 29 28),(jo 30 (.bin .neq 29 (jI 4))),(jm 27 30)])
 (.cond 27
 (jQ (jR [(jf 31 3 4),(jl 32 31),(jm 33 2),(jo 34 (.bin .eql 32 33)),(jm 35 34),(jy 35 (jf 36 2 3)),(jy 35 (jl 37 36)),(jy 35 (jq 38 37 2)),
 (jy 35 (jm 39 38)),(jz 39 (jf 40 2 4)),(jz 39 (jl 41 40)),(jz 39 (jq 42 41 2)),(jy 35 (jO 43 39 42)),(jA 44 35 43),(jm 6 44)])
 .ret)
 .skip)))))
 (jQ (jR [(jf 45 5 4),(jl 46 45),(jm 47 2),(jC 48 112 46 47),(jm 49 48),(jz 49 (jf 50 2 3)),(jz 49 (jl 51 50)),(jz 49 (jq 52 51 2)),(jz 49 (jm 53 52)),
 (jy 53 (jf 54 4 4)),(jy 53 (jl 55 54)),(jy 53 (jm 56 2)),(jy 53 (jC 57 112 55 56)),(jz 49 (jA 58 53 57)),(jO 59 49 58),(jm 6 59)])
 .ret))))),
 [.tmp 6]⟩
theorem qn0:qn Tryz.prog qd 80=some ⟨qm0.n,qi qm0.body,qm0.res⟩:=by kernel_rfl
def qma:IFn:=⟨35,
 (jQ (jR [(jo 2 (.mov (.const (.slice none 0 0))))])
 (jQ (jR [(jm 5 0),(jt 6 5),(jo 7 (.mk 4 1 1 [(.bool false)] 6 6)),(jm 3 7)])
 (jQ (.seq (jR [(jk 4 0)])
 (.block 0
 (.loop 17179868944
 (jQ (.seq (jR [(jm 8 4),(jm 9 0),(jt 10 9),(jw 11 8 10)])
 (.cond 11
 .skip
 (.exit 0)))
 (jQ (.block 1
 (jQ (jR [(jm 14 3),(jm 15 4),(jm 16 0),(jm 17 4),(jx 18 6 16 17),(jf 19 2 18),(jl 20 19),(jo 21 (.bin .neq 20 (jI 3))),(jx 22 1 14 15),
 (js 22 21)])
 (jQ (jR [(jm 23 0),(jm 24 4),(jx 25 6 23 24),(jf 26 2 25),(jl 27 26),(jq 28 27 4)])
 (.cond 28
 (jR [(jm 29 3),(jm 30 0),(jm 31 4),(jC 32 79 30 31),(jx 33 1 29 32),
 ⟨none, .st 33 (.const (.bool true)),none⟩])
 .skip))))
 (jR [(jm 12 4),(ja 13 12 1),(jm 4 13)]))))))
 (jQ (jR [(jm 34 3),(jm 2 34)])
 .ret)))),
 [.tmp 2]⟩
theorem qnb:qn Tryz.prog qd 111=some ⟨qma.n,qi qma.body,qma.res⟩:=by kernel_rfl
namespace Ord
abbrev qmI(b:Bool):List Value:= [.bool b]
section
variable{W0:World}{own:Own}{a:Option Addr}{cap:Nat}{l:List EH}
theorem qnZ(hR:RdE EH.enc 6 W0 own a l)(hl:l.length≤65536){i:Nat}(hi:i<l.length):qD Tryz.prog W0 79 [.slice a l.length cap, .int .i64 i] own (.int .i64 (bgL l (thr l i) i)):=by
 refine qe (qa qj qns (by simp[qmk]) ?_)
 obtain⟨e,he⟩:∃e,l[i]? =some e:=⟨_,List.getElem?_eq_getElem hi⟩
 generalize hres:bgL l (thr l i) i=res
 have hte:thr l i=e.t:=by unfold thr;rw[qg6 he]
 rw[hte] at hres
 repeat'((try(conv=>whnf));first|(refine fB ?_))
 refine q1N (σ:=Nat) (fun c=> [(5, .int .i64 ((c:Int)-1))]) (fun c=>c≤i∧bgL l e.t c=res) (fun c=>c) i ⟨Nat.le_refl i,hres⟩ (eF) rfl ?_
 rintro c junk ⟨hc1,hI⟩
 cases c with
 |zero=>
  rw[bgL] at hI
  have h0:¬((0:Nat):Int)-1≥0:=by omega
  repeat'((try(conv=>whnf));first|(refine fD ?_))
  exact⟨q0N (vi hI),(eC)⟩
 |succ c=>
  obtain⟨x,hx⟩:∃x,l[c]? =some x:=⟨_,List.getElem?_eq_getElem (by omega)⟩
  have htx:thr l c=x.t:=by unfold thr;rw[qg6 hx]
  rw[bgL,htx] at hI
  have hcc:((c+1:Nat):Int)-1=c:=by omega
  rw[hcc]
  have h0:(c:Int)≥0:=by omega
  by_cases ht:x.t=e.t
  ·rw[if_pos ht] at hI
   repeat'((try(conv=>whnf));first|(refine fE ?_)|(refine fF ?_)|((with_reducible show Ld _ _ _ _);first|(refine qgp hR hx rfl ?_)|(refine qgp hR he rfl ?_))|((with_reducible show IxS _ _ _ _ _);first|((refine ixE hR hx ?_ ?_;(first|rfl|omega)))|((refine ixE hR he ?_ ?_;(first|rfl|omega)))))
   exact⟨q0N (vi hI),(eC)⟩
  ·rw[if_neg ht] at hI
   repeat'((try(conv=>whnf));first|(refine fE ?_)|(refine fG ?_)|((with_reducible show Ld _ _ _ _);first|(refine qgp hR hx rfl ?_)|(refine qgp hR he rfl ?_))|((with_reducible show IxS _ _ _ _ _);first|((refine ixE hR hx ?_ ?_;(first|rfl|omega)))|((refine ixE hR he ?_ ?_;(first|rfl|omega))))|(refine fB ?_))
   exact⟨c,⟨by omega,hI⟩,by omega,(eF),(eC)⟩
theorem qoF{n:Nat}(hw:Wf l n)(hR:RdE EH.enc 6 W0 own a l)(hl:l.length≤65536):
  q0E Tryz.prog W0 111 [.slice a l.length cap] own fun v own'=>∃b,v= .slice (some ⟨b,0,none⟩) l.length l.length∧own'=q2J qmI 4 b (qeV l l.length)::own:=by
 refine qa qj qnb (by simp[qma]) ?_
 repeat'((try(conv=>whnf));first|(refine mkC (enc:=qmI) l.length false rfl rfl rfl (by omega) (fun b=> ?_)))
 refine q0Z (σ:=Nat) (fun i=> [(4, .int .i64 i)]) (fun i=>q2J qmI 4 b (qeV l i)::own) (fun i=>i≤l.length) (fun i=>l.length-i) 0 (by omega) (eF) Ent.refl rfl ?_
 intro i junk hi
 have hcl:=q8u l i
 by_cases hlt:i<l.length
 ·obtain⟨e,he⟩:∃e,l[i]? =some e:=⟨_,List.getElem?_eq_getElem hlt⟩
  have hlt':(i:Int)<l.length:=by omega
  have hke:knd l i=e.k:=by unfold knd;rw[qg6 he]
  have hnx:qeV l (i+1)=if e.k=4 then((qeV l i).set i (decide (e.k≠3))).set (bgL l (thr l i) i).toNat true else(qeV l i).set i (decide (e.k≠3)):=by rw[qeV,hke]
  generalize qeV l i=c at*
  obtain⟨x,hx⟩:∃x,c[i]? =some x:=⟨_,List.getElem?_eq_getElem (by omega)⟩
  have hw1:∀x∈c,(qmI x).length=1:=fun _ _=>rfl
  have hw2:∀x∈c.set i (decide (e.k≠3)),(qmI x).length=1:=fun _ _=>rfl
  have hl2:l.length=(c.set i (decide (e.k≠3))).length:=by rw[List.length_set,hcl]
  by_cases h4:e.k=4
  ·rw[if_pos h4] at hnx
   obtain⟨p,hp,hp3⟩:=hw.en i hlt (hke.trans h4)
   have hbg:=qnZ (W0:=W0) (own:=q2J qmI 4 b (c.set i (decide (e.k≠3)))::own) (cap:=cap) hR.up hl hlt
   rw[qcR hp] at hbg hnx
   rw[Int.toNat_natCast] at hnx
   have hp1:=hp.1
   obtain⟨y,hy⟩:∃y,(c.set i (decide (e.k≠3)))[p]? =some y:=⟨_,List.getElem?_eq_getElem (by rw[List.length_set];omega)⟩
   repeat'((try(conv=>whnf));first|(refine fF ?_)|(apply stC (T:=4) (k:=0) (decide (e.k≠3)) hw1 hx;(exact rfl);(omega);(first|exact rfl|simp);(exact rfl))|(apply stC (T:=4) (k:=0) true hw2 hy;(exact rfl);(omega);(exact rfl);(exact rfl))|((with_reducible show Ld _ _ _ _);first|(refine qgp hR he rfl ?_))|((with_reducible show IxS _ _ _ _ _);first|((refine ixE hR he ?_ ?_;(first|rfl|omega)))|((refine ixC hx hcl.symm ?_ ?_;(first|rfl|omega)))|((refine ixC hy hl2 ?_ ?_;(first|rfl|omega))))|((with_reducible show qf _ _ _ _ _ _);first|((refine qh (hbg) ?_ ?_ ?_;(exact rfl);exact rfl)))|(refine fB ?_))
   exact⟨i+1,by omega,by omega,(eF),by rw[hnx];exact Ent.refl⟩
  ·rw[if_neg h4] at hnx
   repeat'((try(conv=>whnf));first|(refine fF ?_)|(refine fG ?_)|(apply stC (T:=4) (k:=0) (decide (e.k≠3)) hw1 hx;(exact rfl);(omega);(first|exact rfl|simp);(exact rfl))|((with_reducible show Ld _ _ _ _);first|(refine qgp hR he rfl ?_))|((with_reducible show IxS _ _ _ _ _);first|((refine ixE hR he ?_ ?_;(first|rfl|omega)))|((refine ixC hx hcl.symm ?_ ?_;(first|rfl|omega))))|(refine fB ?_))
   exact⟨i+1,by omega,by omega,(eF),by rw[hnx];exact Ent.refl⟩
 ·have hlt':¬(i:Int)<l.length:=by omega
  have hi2:i=l.length:=by omega
  repeat'((try(conv=>whnf));first|(refine fG ?_))
  exact⟨b,rfl,by rw[hi2]⟩
end
def qne(n:Nat)(g:Nat→Bool):List Bool:=(List.range n).map g
theorem qmx(n:Nat)(g:Nat→Bool):(qne n g).length=n:=by simp[qne]
theorem qmw{n j:Nat}{g:Nat→Bool}(hj:j<n):(qne n g)[j]? =some (g j):=by simp[qne,hj]
theorem qmz{n:Nat}{g g':Nat→Bool}(h:∀j,j<n→g j=g' j):qne n g=qne n g':=List.map_congr_left fun j hj=>h j (List.mem_range.1 hj)
theorem qoy{n j:Nat}{g:Nat→Bool}{v:Bool}:(qne n g).set j v=qne n (fun i=>if i=j then v else g i):=by
 apply List.ext_getElem?
 intro i
 by_cases hi:i<n
 ·rw[qmw hi,List.getElem?_set]
  by_cases hij:j=i
  ·subst hij;rw[if_pos rfl,if_pos (by rw[qmx];exact hi),if_pos rfl]
  ·rw[if_neg hij,qmw hi,if_neg (Ne.symm hij)]
 ·rw[List.getElem?_eq_none (by rw[List.length_set,qmx];omega),List.getElem?_eq_none (by rw[qmx];omega)]
theorem qpx(n:Nat):List.replicate n false=qne n (fun _=>false):=by
 apply List.ext_getElem?
 intro i
 by_cases hi:i<n
 ·rw[qmw hi];simp[hi]
 ·rw[List.getElem?_eq_none (by simp;omega),List.getElem?_eq_none (by rw[qmx];omega)]
def qmu(T:TypeId)(n:Nat)(f:Nat→Nat→Bool):List Nat→Nat→Own
 | [],_=> []
 |b::bs,i=>q2J qmI T b (qne n (f i))::qmu T n f bs (i+1)
theorem qnH(T:TypeId)(n:Nat)(f:Nat→Nat→Bool)(b:Nat):∀(bs:List Nat) (i:Nat),qmu T n f (bs++ [b]) i=qmu T n f bs i++ [q2J qmI T b (qne n (f (i+bs.length)))]
 | [],i=>rfl
 |c::bs,i=>by
  simp only[List.cons_append,qmu,List.length_cons]
  rw[qnH T n f b bs (i+1),show i+1+bs.length=i+(bs.length+1) by omega]
theorem qm6{T:TypeId}{n:Nat}{f f':Nat→Nat→Bool}:∀(bs:List Nat) (i:Nat),(∀a j,i≤a→a<i+bs.length→j<n→f a j=f' a j)→qmu T n f bs i=qmu T n f' bs i
 | [],_,_=>rfl
 |b::bs,i,h=>by
  simp only[qmu]
  rw[qmz (fun j hj=>h i j (Nat.le_refl i) (by simp) hj),qm6 bs (i+1) (fun a j h1 h2 hj=>h a j (by omega) (by simp only[List.length_cons];omega) hj)]
theorem qnM{T:TypeId}{n:Nat}{f:Nat→Nat→Bool}:∀(bs:List Nat) (s i b:Nat),bs[i]? =some b→∃C:Own→Own,At [q2J qmI T b (qne n (f (s+i)))] (qmu T n f bs s) C∧∀g:Nat→Bool,C [q2J qmI T b (qne n g)]=qmu T n (fun a=>if a=s+i then g else f a) bs s
 | [],_,_,_,h=>by simp at h
 |c::bs,s,0,b,h=>by
  simp only[List.getElem?_cons_zero,Option.some.injEq] at h
  subst h
  refine⟨fun X=>X++qmu T n f bs (s+1),At.head (D:= [_]),fun g=> ?_⟩
  simp only[qmu,Nat.add_zero,if_true,List.cons_append,List.nil_append]
  rw[qm6 (f':=fun a=>if a=s then g else f a) bs (s+1) (fun a j h1 _ _=>by rw[if_neg (by omega)])]
 |c::bs,s,i+1,b,h=>by
  obtain⟨C,h1,h2⟩:=qnM (T:=T) (n:=n) (f:=f) bs (s+1) i b (by simpa using h)
  rw[show s+1+i=s+(i+1) by omega] at h1 h2
  refine⟨fun X=>q2J qmI T c (qne n (f s))::C X,At.tail h1,fun g=> ?_⟩
  simp only[qmu]
  rw[h2 g,if_neg (by omega)]
abbrev qr0(n b:Nat):List Value:= [.slice (some ⟨b,0,none⟩) n n]
def clS(h:Nat→Nat→Bool)(k i j:Nat):Nat→Nat→Bool:=fun a b=>if a<i∨(a=i∧b<j) then qcw h k a b else h a b
section
variable{h:Nat→Nat→Bool}{k i j:Nat}
theorem qng{a b:Nat}(hb:b≤k):qcw h k a b=h a b:=by unfold qcw;rw[if_neg (by omega)]
theorem qr2(a b:Nat):clS h k 0 (k+1) a b=h a b:=by
 unfold clS
 split
 ·exact qng (by omega)
 ·rfl
theorem qqp(hj:k<j):clS h k i j i k=h i k:=by unfold clS;rw[if_pos (.inr ⟨rfl,hj⟩),qng (Nat.le_refl k)]
theorem qqo:clS h k i j i j=h i j:=by unfold clS;rw[if_neg (by omega)]
theorem qqq(hik:i<k):clS h k i j k j=h k j:=by unfold clS;rw[if_neg (by omega)]
theorem qpl{a b:Nat}(hik:i<k)(hj:k<j)(ht:h i k=true):(if a=i then(fun x=>if x=j then h i j||h k j else clS h k i j i x) else clS h k i j a) b=clS h k i (j+1) a b:=by
 by_cases ha:a=i
 ·subst ha
  rw[if_pos rfl]
  by_cases hb:b=j
  ·subst hb
   simp only[if_true]
   unfold clS
   rw[if_pos (.inr ⟨rfl,by omega⟩)]
   unfold qcw
   rw[if_pos ⟨hik,hj,ht⟩]
  ·simp only[hb,if_false]
   unfold clS
   by_cases hbj:b<j
   ·rw[if_pos (.inr ⟨rfl,hbj⟩),if_pos (.inr ⟨rfl,by omega⟩)]
   ·rw[if_neg (by omega),if_neg (by omega)]
 ·rw[if_neg ha]
  unfold clS
  by_cases hai:a<i
  ·rw[if_pos (.inl hai),if_pos (.inl hai)]
  ·rw[if_neg (by omega),if_neg (by omega)]
theorem qpV{n a b:Nat}(hb:b<n):clS h k i n a b=clS h k (i+1) (k+1) a b:=by
 unfold clS
 by_cases ha:a<i
 ·rw[if_pos (.inl ha),if_pos (.inl (by omega))]
 ·by_cases ha2:a=i
  ·rw[if_pos (.inr ⟨ha2,hb⟩),if_pos (.inl (by omega))]
  ·rw[if_neg (by omega)]
   split
   ·exact(qng (by omega)).symm
   ·rfl
theorem qpm{a b:Nat}(hf:h i k=false):clS h k i j a b=clS h k (i+1) (k+1) a b:=by
 have hs:∀b,qcw h k i b=h i b:=fun b=>by unfold qcw;rw[if_neg (fun hh=>by rw[hf] at hh;cases hh.2.2)]
 unfold clS
 by_cases ha:a<i
 ·rw[if_pos (.inl ha),if_pos (.inl (by omega))]
 ·by_cases ha2:a=i
  ·subst ha2
   rw[if_pos (c:=a<a+1∨_) (.inl (by omega)),hs]
   split <;>rfl
  ·rw[if_neg (by omega)]
   split
   ·exact(qng (by omega)).symm
   ·rfl
theorem qpU(a b:Nat):clS h k k (k+1) a b=qcw h k a b:=by
 unfold clS
 split
 ·rfl
 ·unfold qcw;rw[if_neg (by omega)]
end
theorem qnN{W0:World}{T:TypeId}{n:Nat}{f:Nat→Nat→Bool}{bs:List Nat}{i b:Nat}(hb:bs[i]? =some b):RdE qmI 1 W0 (qmu T n f bs 0) (some ⟨b,0,none⟩) (qne n (f i)):=by
 obtain⟨C,h,_⟩:=qnM (T:=T) (n:=n) (f:=f) bs 0 i b hb
 rw[Nat.zero_add] at h
 exact(q9t (enc:=qmI) (sz:=1) (fun _ _=>rfl)).ent h.self
section
variable{W0:World}{own:Own}{a:Option Addr}{cap:Nat}{l:List EH}
theorem qon{m:Nat}(hw:Wf l m)(hR:RdE EH.enc 6 W0 own a l)(hl:l.length≤65536):
  q0E Tryz.prog W0 78 [.slice a l.length cap] own fun v own'=>∃ha hc D bs,v= .slice ha (List.length bs) hc∧qr (qr0 l.length) 104 1 ha hc bs D∧List.length bs=l.length∧Ent W0 own' (D++(qmu 4 l.length (qaf (qkc l) l.length) bs 0++own)):=by
 refine qa qj qn6 (by simp[qm4]) ?_
 have hcn:=qoF (cap:=cap) hw hR hl
 repeat'((try(conv=>whnf));first|((with_reducible show qf _ _ _ _ _ _);first|((refine qpS hcn ?_ ?_ (fun v own' hv=> ?_);(exact rfl);(exact rfl);(obtain⟨b,rfl,rfl⟩:=hv)))))
 have hcl:=q8u l l.length
 have hisb:∀i,i<l.length→(qeV l l.length)[i]? =some (isB l i):=fun i hi=>by
  unfold isB
  rw[List.getD_eq_getElem?_getD,List.getElem?_eq_getElem (by omega)]
  rfl
 generalize qeV l l.length=c at*
 have hwc:∀x∈c,(qmI x).length=1:=fun _ _=>rfl
 --the rows are made
 refine q0Z (σ:=List Nat×Option Addr×Nat×Own) (fun s=> [(5, .slice s.2.1 s.1.length s.2.2.1),(6, .int .i64 s.1.length)]) (fun s=>s.2.2.2++(qmu 4 l.length (qkc l) s.1 0++(q2J qmI 4 b c::own)))
  (fun s=>s.1.length≤l.length∧qr (qr0 l.length) 104 1 s.2.1 s.2.2.1 s.1 s.2.2.2) (fun s=>l.length-s.1.length) ([],none,0,[]) ⟨by simp,qr.nil⟩ (eF) Ent.refl rfl ?_
 rintro⟨bs,ha,hc,D⟩ junk ⟨hi,hB⟩
 dsimp only at hi hB ⊢
 by_cases hlt:bs.length<l.length
 ·obtain⟨e,he⟩:∃e,l[bs.length]? =some e:=⟨_,List.getElem?_eq_getElem hlt⟩
  have hlt':(bs.length:Int)<l.length:=by omega
  repeat'((try(conv=>whnf));first|(apply qaR;(exact rfl);omega)|(refine mkC (enc:=qmI) l.length false rfl rfl rfl (by omega) (fun br=> ?_))|(refine ari ?_ ?_;omega))
  refine q0Z (σ:=Nat) (fun j=> [(8, .int .i64 j)]) (fun j=>q2J qmI 4 br (qne l.length fun j'=>decide (j'<j)&&qkc l bs.length j')::(D++(qmu 4 l.length (qkc l) bs 0++(q2J qmI 4 b c::own))))
   (fun j=>bs.length<j∧j≤l.length) (fun j=>l.length-j) (bs.length+1) ⟨by omega,by omega⟩ (eF) ?_ rfl ?_
  ·rw[qpx,qmz (g':=fun j'=>decide (j'<bs.length+1)&&qkc l bs.length j')]
   ·exact Ent.refl
   ·intro j hj
    unfold qkc
    by_cases h1:bs.length<j
    ·simp;omega
    ·simp[h1]
  rintro j junk2 ⟨hj1,hj2⟩
  by_cases hjl:j<l.length
  ·obtain⟨x,hx⟩:∃x,l[j]? =some x:=⟨_,List.getElem?_eq_getElem hjl⟩
   have hjl':(j:Int)<l.length:=by omega
   have hci:=hisb bs.length hlt
   have hcj:=hisb j hjl
   have hd:qkc l bs.length j=(isB l bs.length&&isB l j&&(decide (e.t=x.t)||(decide (e.k=4)&&(decide (x.k=4)||decide (x.k=3))))):=by
    unfold qkc thr knd
    rw[qg6 he,qg6 hx,decide_eq_true hj1,Bool.true_and]
   have hw1:∀y∈qne l.length (fun j'=>decide (j'<j)&&qkc l bs.length j'),(qmI y).length=1:=fun _ _=>rfl
   have hn1:=(qmx l.length (fun j'=>decide (j'<j)&&qkc l bs.length j')).symm
   have hx1:=qmw (g:=fun j'=>decide (j'<j)&&qkc l bs.length j') hjl
   have hset:(qne l.length (fun j'=>decide (j'<j)&&qkc l bs.length j')).set j (qkc l bs.length j)=qne l.length (fun j'=>decide (j'<j+1)&&qkc l bs.length j'):=by
    rw[qoy]
    refine qmz fun i _=> ?_
    by_cases hij:i=j
    ·subst hij;simp
    ·rw[if_neg hij]
     by_cases h2:i<j
     ·simp[h2,show i<j+1 by omega]
     ·simp[h2,show ¬i<j+1 by omega]
   generalize hdv:qkc l bs.length j=dv at hd hset
   generalize isB l bs.length=ci at*
   generalize isB l j=cj at*
   cases ci <;>cases cj
   all_goals
    repeat'((try(conv=>whnf));first|(refine q1P ?_ ?_;exact rfl)|(refine fI ?_)|(apply qaR;(exact rfl);omega)|(apply stC (T:=4) (k:=0) dv hw1 hx1;(exact rfl);(omega);(subst hd;simp[*]);(exact rfl))|((with_reducible show Ld _ _ _ _);first|(refine qgp hR he rfl ?_)|(refine qgp hR hx rfl ?_)|(refine qbj hwc hci rfl ?_)|(refine qbj hwc hcj rfl ?_))|((with_reducible show IxS _ _ _ _ _);first|((refine ixE hR he ?_ ?_;(first|rfl|omega)))|((refine ixE hR hx ?_ ?_;(first|rfl|omega)))|((refine ixC hci hcl.symm ?_ ?_;(first|rfl|omega)))|((refine ixC hcj hcl.symm ?_ ?_;(first|rfl|omega))))|(refine ari ?_ ?_;omega)|(apply q0e;(exact rfl);(exact rfl);all_goals intro hc)|(apply q4P;(exact rfl);(exact rfl);all_goals intro hc))
    all_goals exact⟨j+1,⟨by omega,by omega⟩,by omega,(eF),by rw[hset];exact Ent.refl⟩
  ·have hjl':¬(j:Int)<l.length:=by omega
   have hj3:j=l.length:=by omega
   subst hj3
   rw[qmz (g':=qkc l bs.length) (fun j hj=>by simp[hj])]
   repeat'((try(conv=>whnf));first|(apply qaQ;(exact rfl);omega)|(apply q69 (enc:=qr0 l.length) br hB;(exact rfl);(exact rfl);(omega);(exact rfl);(exact rfl);(omega);intro a1 c1 D1 hb1)|(refine ari ?_ ?_;omega)|(refine qc (fun bk hbk=> ?_)))
   refine⟨(bs++ [br],a1,c1,D1),⟨by simp;omega,hb1⟩,by simp;omega,?_,?_⟩
   ·simp only[List.length_append,List.length_cons,List.length_nil,Nat.zero_add]
    exact(eF)
   ·simp only[qnH,Nat.zero_add]
    refine Ent.cons (Ent.of_perm ?_)
    have e:D1++((qmu 4 l.length (qkc l) bs 0++ [q2J qmI 4 br (qne l.length (qkc l bs.length))])++(q2J qmI 4 b c::own))=(D1++qmu 4 l.length (qkc l) bs 0)++q2J qmI 4 br (qne l.length (qkc l bs.length))::(q2J qmI 4 b c::own):=by simp
    rw[e]
    refine List.Perm.trans ?_ List.perm_middle.symm
    rw[List.append_assoc]
 ·have hlt':¬(bs.length:Int)<l.length:=by omega
  have hbl:bs.length=l.length:=by omega
  have hbr:=hB.rd (W0:=W0)
  repeat'((try(conv=>whnf));first|(apply qaQ;(exact rfl);omega))
  refine q0Z (σ:=Nat) (fun k=> [(10, .int .i64 k)]) (fun k=>D++(qmu 4 l.length (qaf (qkc l) k) bs 0++(q2J qmI 4 b c::own))) (fun k=>k≤l.length) (fun k=>l.length-k) 0 (by omega) (eF) Ent.refl rfl ?_
  intro k junk3 hk
  by_cases hkl:k<l.length
  ·have hkl':(k:Int)<l.length:=by omega
   have hclos:qaf (qkc l) (k+1)=qcw (qaf (qkc l) k) k:=rfl
   generalize qaf (qkc l) k=h at*
   repeat'((try(conv=>whnf));first|(apply qaR;(exact rfl);omega))
   refine q0Z (σ:=Nat) (fun i=> [(11, .int .i64 i)]) (fun i=>D++(qmu 4 l.length (clS h k i (k+1)) bs 0++(q2J qmI 4 b c::own))) (fun i=>i≤k) (fun i=>k-i) 0 (by omega) (eF) ?_ rfl ?_
   ·rw[qm6 (f:=h) (f':=clS h k 0 (k+1)) bs 0 (fun a j _ _ _=>(qr2 a j).symm)]
    exact Ent.refl
   intro i junk4 hik
   by_cases hikl:i<k
   ·have hikl':(i:Int)<k:=by omega
    repeat'((try(conv=>whnf));first|(apply qaR;(exact rfl);omega)|(refine ari ?_ ?_;omega))
    refine q0Z (σ:=Nat) (fun j=> [(12, .int .i64 j)]) (fun j=>D++(qmu 4 l.length (clS h k i j) bs 0++(q2J qmI 4 b c::own))) (fun j=>k<j∧j≤l.length) (fun j=>l.length-j) (k+1) ⟨by omega,by omega⟩ (eF) Ent.refl rfl ?_
    rintro j junk5 ⟨hj1,hj2⟩
    by_cases hjl:j<l.length
    ·have hjl':(j:Int)<l.length:=by omega
     obtain⟨bi,hbi⟩:∃x,bs[i]? =some x:=⟨_,List.getElem?_eq_getElem (by omega)⟩
     obtain⟨bk2,hbk2⟩:∃x,bs[k]? =some x:=⟨_,List.getElem?_eq_getElem (by omega)⟩
     have hri:=qnN (W0:=W0) (T:=4) (n:=l.length) (f:=clS h k i j) hbi
     have hrk:=qnN (W0:=W0) (T:=4) (n:=l.length) (f:=clS h k i j) hbk2
     have gik:=qmw (g:=clS h k i j i) hkl
     have gij:=qmw (g:=clS h k i j i) hjl
     have gkj:=qmw (g:=clS h k i j k) hjl
     have e1:clS h k i j i k=h i k:=qqp hj1
     have e2:clS h k i j i j=h i j:=qqo
     have e3:clS h k i j k j=h k j:=qqq hikl
     rw[e1] at gik
     rw[e2] at gij
     rw[e3] at gkj
     have hlr:=(qmx l.length (clS h k i j i)).symm
     have hlk:=(qmx l.length (clS h k i j k)).symm
     obtain⟨C,hC,hC2⟩:=qnM (T:=4) (n:=l.length) (f:=clS h k i j) bs 0 i bi hbi
     rw[Nat.zero_add] at hC
     have hwi:∀y∈qne l.length (clS h k i j i),(qmI y).length=1:=fun _ _=>rfl
     cases ht:h i k with
     |true=>
      have hnx:∀v:Bool,v=(h i j||h k j)→C [q2J qmI 4 bi ((qne l.length (clS h k i j i)).set j v)]=qmu 4 l.length (clS h k i (j+1)) bs 0:=fun v hv=>by
       rw[qoy,hC2]
       refine qm6 bs 0 (fun a b _ _ _=> ?_)
       rw[Nat.zero_add,hv]
       exact qpl hikl hj1 ht
      rw[ht] at gik
      cases hv1:h i j <;>cases hv2:h k j
      all_goals
       rw[hv1] at gij
       rw[hv2] at gkj
       repeat'((try(conv=>whnf));first|(refine q1P ?_ ?_;exact rfl)|(refine fI ?_)|(refine q5s ?_ ?_;exact rfl)|(apply q9g;(exact rfl);omega)|(apply stC (T:=4) (k:=0) (m:=⟨At.skip (At.left hC)⟩) (false||false) hwi gij;(exact rfl);(omega);(exact rfl);(exact rfl))|(apply stC (T:=4) (k:=0) (m:=⟨At.skip (At.left hC)⟩) true hwi gij;(exact rfl);(omega);(exact rfl);(exact rfl))|((with_reducible show Ld _ _ _ _);first|(refine q1M hbr hbi rfl ?_)|(refine q1M hbr hbk2 rfl ?_)|(refine qkh hri gik rfl ?_)|(refine qkh hri gij rfl ?_)|(refine qkh hrk gkj rfl ?_))|((with_reducible show IxS _ _ _ _ _);first|((refine ixE hbr hbi ?_ ?_;(first|rfl|omega)))|((refine ixE hbr hbk2 ?_ ?_;(first|rfl|omega)))|((refine ixC gik hlr ?_ ?_;(first|rfl|omega)))|((refine ixC gij hlr ?_ ?_;(first|rfl|omega))))|(refine ari ?_ ?_;omega))
       all_goals exact⟨j+1,⟨by omega,by omega⟩,by omega,(eF),by rw[hnx _ (by simp[hv1,hv2])];exact Ent.refl⟩
     |false=>
      rw[ht] at gik
      repeat'((try(conv=>whnf));first|(refine q1P ?_ ?_;exact rfl)|(refine fD ?_)|(apply q9g;(exact rfl);omega)|((with_reducible show Ld _ _ _ _);first|(refine q1M hbr hbi rfl ?_)|(refine qkh hri gik rfl ?_))|((with_reducible show IxS _ _ _ _ _);first|((refine ixE hbr hbi ?_ ?_;(first|rfl|omega)))|((refine ixC gik hlr ?_ ?_;(first|rfl|omega))))|(refine ari ?_ ?_;omega))
      exact⟨i+1,by omega,by omega,(eF),by rw[qm6 bs 0 (fun a b _ _ _=>qpm ht)];exact Ent.refl⟩
    ·have hjl':¬(j:Int)<l.length:=by omega
     have hj3:j=l.length:=by omega
     subst hj3
     repeat'((try(conv=>whnf));first|(refine fI ?_)|(refine fD ?_)|(apply q9f;(exact rfl);omega)|(refine ari ?_ ?_;omega))
     exact⟨i+1,by omega,by omega,(eF),by rw[qm6 bs 0 (fun a b _ _ hb=>qpV hb)];exact Ent.refl⟩
   ·have hikl':¬(i:Int)<k:=by omega
    have hik2:i=k:=by omega
    subst hik2
    repeat'((try(conv=>whnf));first|(apply qaQ;(exact rfl);omega)|(refine ari ?_ ?_;omega))
    exact⟨i+1,by omega,by omega,(eF),by rw[hclos,qm6 bs 0 (fun a b _ _ _=>qpU a b)];exact Ent.refl⟩
  ·have hkl':¬(k:Int)<l.length:=by omega
   have hk2:k=l.length:=by omega
   subst hk2
   repeat'((try(conv=>whnf));first|(apply qaQ;(exact rfl);omega))
   refine⟨ha,hc,D,bs,rfl,hB,hbl,?_⟩
   rw[←List.append_assoc,←List.append_assoc]
   exact Ent.of_sub ((List.Sublist.refl own).cons _|>.append_left _)
end
theorem qox{l:List EH}{y:Nat}{w:Int}:rcL l y w 0= []:=rfl
theorem qp2(l:List EH)(y:Nat)(w:Int)(m:Nat):(rcL l y w m).length≤m:=by
 unfold rcL
 rw[List.length_map]
 exact Nat.le_trans (List.length_filter_le _ _) (by simp)
theorem qof(l:List EH)(y:Nat):∀m,(rcW l y m).length≤m*y
 |0=>by simp[rcW]
 |m+1=>by
  rw[qbx,List.length_append,Nat.succ_mul]
  have:=qof l y m
  have:=qp2 l y m y
  omega
theorem qoe(l:List EH)(n:Nat):∀m,m≤n→(rcA l m).length≤m*(64*n)
 |0,_=>by simp[rcA]
 |m+1,h=>by
  rw[q92,List.length_append,Nat.succ_mul]
  have:=qoe l n m (by omega)
  split
  ·simp;omega
  ·have:=qof l m 64
   omega
theorem qos{n:Nat}:∀(l:List EH) (i:Nat) (pa:Int) (last:List Int),(qaT n l i pa last).2=0→qaT n l i pa last=(0,0)
 | [],_,_,_,_=>rfl
 |e::l,i,pa,last,h=>by
  unfold qaT at h ⊢
  split
  ·rename_i hf
   rw[if_pos hf] at h
   exact qos l _ _ _ h
  ·rename_i hf
   rw[if_neg hf] at h
   simp at h
theorem qqn{l:List EH}{n:Int}(h:(q7q l n).2=0):q7q l n=(0,0):=by
 unfold q7q at h ⊢
 split
 ·rename_i hc;rw[if_pos hc] at h;simp at h
 ·rename_i hc;rw[if_neg hc] at h
  split
  ·rename_i hc2;rw[if_pos hc2] at h;simp at h
  ·rename_i hc2;rw[if_neg hc2] at h;exact qos _ _ _ _ h
section
variable{W0:World}{own:Own}{a:Option Addr}{cap:Nat}
theorem qnY{l:List Int}(hR:RdE qM 1 W0 own a l)(hl:l.length≤9223372036854775807)(v:Int):qD Tryz.prog W0 112 [.slice a l.length cap, .int .i64 v] own (.bool (l.contains v)):=by
 refine qe (qa qj qnG (by simp[qmK]) ?_)
 refine q1N (σ:=Nat) (fun i=> [(5, .int .i64 i)]) (fun i=>i≤l.length∧v∉l.take i) (fun i=>l.length-i) 0 ⟨by omega,by simp⟩ (eF) rfl ?_
 rintro i junk ⟨hi,hI⟩
 by_cases hlt:i<l.length
 ·obtain⟨x,hx⟩:∃x,l[i]? =some x:=⟨_,List.getElem?_eq_getElem hlt⟩
  have hlt':(i:Int)<l.length:=by omega
  by_cases hxv:x=v
  ·have hc:l.contains v=true:=by rw[List.contains_iff_mem];subst hxv;exact List.mem_of_getElem? hx
   repeat'((try(conv=>whnf));first|(refine fF ?_)|((with_reducible show Ld _ _ _ _);first|(refine q1M hR hx rfl ?_))|((with_reducible show IxS _ _ _ _ _);first|((refine ixE hR hx ?_ ?_;(first|rfl|omega)))))
   exact⟨q0N (vb hc.symm),(eC)⟩
  ·repeat'((try(conv=>whnf));first|(refine fF ?_)|(refine fG ?_)|((with_reducible show Ld _ _ _ _);first|(refine q1M hR hx rfl ?_))|((with_reducible show IxS _ _ _ _ _);first|((refine ixE hR hx ?_ ?_;(first|rfl|omega))))|(refine fB ?_))
   exact⟨i+1,⟨by omega,by rw[List.take_add_one,hx];simp[hI,Ne.symm hxv]⟩,by omega,(eF),(eC)⟩
 ·have hlt':¬(i:Int)<l.length:=by omega
  have hi2:i=l.length:=by omega
  subst hi2
  rw[List.take_length] at hI
  have hc:l.contains v=false:=by rw[←Bool.not_eq_true,List.contains_iff_mem];exact hI
  repeat'((try(conv=>whnf));first|(refine fG ?_))
  exact⟨q0N (vb hc.symm),(eC)⟩
theorem qo1{x y:EH}(hx:EvR W0 own x)(hy:EvR W0 own y)(w:Int):qD Tryz.prog W0 80 [x.v,y.v, .int .i64 w] own (.bool (confB x y w)):=by
 refine qe (qa qj qn0 (by simp[qm0]) ?_)
 have h1:∀own' [qt own' own],qD Tryz.prog W0 112 [.slice x.ra x.rl.length x.rc, .int .i64 w] own' (.bool (x.rl.contains w)):=fun own' h=>qnY (hx.r.ent (h.h W0)) hx.rn w
 have h2:∀own' [qt own' own],qD Tryz.prog W0 112 [.slice x.wa x.wl.length x.wc, .int .i64 w] own' (.bool (x.wl.contains w)):=fun own' h=>qnY (hx.w.ent (h.h W0)) hx.wn w
 have h3:∀own' [qt own' own],qD Tryz.prog W0 112 [.slice y.ra y.rl.length y.rc, .int .i64 w] own' (.bool (y.rl.contains w)):=fun own' h=>qnY (hy.r.ent (h.h W0)) hy.rn w
 have h4:∀own' [qt own' own],qD Tryz.prog W0 112 [.slice y.wa y.wl.length y.wc, .int .i64 w] own' (.bool (y.wl.contains w)):=fun own' h=>qnY (hy.w.ent (h.h W0)) hy.wn w
 unfold confB cfP
 clear hx hy
 obtain⟨ev,t,k,wd,ra,rl,rc,wa,wl,wc⟩:=x
 obtain⟨ev2,t2,k2,wd2,ra2,rl2,rc2,wa2,wl2,wc2⟩:=y
 dsimp only[EH.v] at*
 generalize rl.contains w=z1 at*
 generalize wl.contains w=z2 at*
 generalize rl2.contains w=z3 at*
 generalize wl2.contains w=z4 at*
 generalize rl.length=n1 at*
 generalize wl.length=n2 at*
 generalize rl2.length=n3 at*
 generalize wl2.length=n4 at*
 by_cases e1:t=t2
 ·subst e1
  repeat'((try(conv=>whnf));first|(refine fF ?_)|(refine fA ?_)|(refine qc (fun bk hbk=> ?_)))
  all_goals exact⟨q0N (by simp),(eC)⟩
 ·by_cases e2:k=4
  ·by_cases e3:k2=4
   ·repeat'((try(conv=>whnf));first|(refine fI ?_)|(refine fE ?_)|(refine fF ?_)|(refine fG ?_)|(refine fJ ?_)|(refine fA ?_)|(refine fL ?_)|(refine fM ?_)|(refine qc (fun bk hbk=> ?_)))
    all_goals exact⟨q0N (by simp[*]),(eC)⟩
   ·by_cases e4:wd2=w
    ·cases z1 <;>cases z2
     all_goals
      repeat'((try(conv=>whnf));first|(refine fH ?_)|(refine fI ?_)|(refine fF ?_)|(refine fG ?_)|(refine fK ?_)|((with_reducible show qf _ _ _ _ _ _);first|((refine qh (h1 _) ?_ ?_ ?_;(exact rfl);exact rfl))|((refine qh (h2 _) ?_ ?_ ?_;(exact rfl);exact rfl)))|(refine fA ?_)|(refine fL ?_)|(refine fM ?_)|(refine qc (fun bk hbk=> ?_))|(apply q0e;(exact rfl);(exact rfl);all_goals intro hc))
      all_goals exact⟨q0N (by simp[*]),(eC)⟩
    ·repeat'((try(conv=>whnf));first|(refine fH ?_)|(refine fF ?_)|(refine fG ?_)|(refine fK ?_)|(refine fA ?_)|(refine fL ?_)|(refine fM ?_)|(refine qc (fun bk hbk=> ?_)))
     all_goals exact⟨q0N (by simp[*]),(eC)⟩
  ·by_cases e4:wd=w
   ·by_cases e3:k2=4
    ·cases z3 <;>cases z4
     all_goals
      repeat'((try(conv=>whnf));first|(refine fH ?_)|(refine fI ?_)|(refine fG ?_)|(refine fK ?_)|((with_reducible show qf _ _ _ _ _ _);first|((refine qh (h3 _) ?_ ?_ ?_;(exact rfl);exact rfl))|((refine qh (h4 _) ?_ ?_ ?_;(exact rfl);exact rfl)))|(refine fA ?_)|(refine qc (fun bk hbk=> ?_))|(apply q0e;(exact rfl);(exact rfl);all_goals intro hc))
      all_goals exact⟨q0N (by simp[*]),(eC)⟩
    ·by_cases e5:wd2=w
     ·repeat'((try(conv=>whnf));first|(refine fH ?_)|(refine fI ?_)|(refine fF ?_)|(refine fG ?_)|(refine fJ ?_)|(refine fK ?_)|(refine fA ?_)|(refine qc (fun bk hbk=> ?_))|(apply q4P;(exact rfl);(exact rfl);all_goals intro hc))
      all_goals exact⟨q0N (by simp[*]),(eC)⟩
     ·repeat'((try(conv=>whnf));first|(refine fH ?_)|(refine fI ?_)|(refine fF ?_)|(refine fG ?_)|(refine fK ?_)|(refine fA ?_)|(refine qc (fun bk hbk=> ?_)))
      all_goals exact⟨q0N (by simp[*]),(eC)⟩
   ·repeat'((try(conv=>whnf));first|(refine fH ?_)|(refine fF ?_)|(refine fG ?_)|(refine fK ?_)|(refine fA ?_)|(refine qc (fun bk hbk=> ?_)))
    all_goals exact⟨q0N (by simp[*]),(eC)⟩
end
structure HbR(W0:World)(H:Own)(l:List EH)(ha:Option Addr)(bs:List Nat):Prop where
 len:bs.length=l.length
 rd:RdE (qr0 l.length) 1 W0 H ha bs
 rows:∀i b,bs[i]? =some b→RdE qmI 1 W0 H (some ⟨b,0,none⟩) (qne l.length (hbB l i))
section
variable{W0:World}{own:Own}{a:Option Addr}{cap:Nat}{l:List EH}
theorem qo0{m:Nat}(hw:Wf l m)(hR:RdE EH.enc 6 W0 own a l)(hl:l.length≤65536):
  q0E Tryz.prog W0 78 [.slice a l.length cap] own fun v own'=>∃s:Option Addr×Nat×List Nat×Own,(v= .slice s.1 s.2.2.1.length s.2.1∧HbR W0 s.2.2.2 l s.1 s.2.2.1)∧Ent W0 own' (s.2.2.2++own):=by
 intro w hs
 refine(qon hw hR hl w hs).mono ?_
 rintro e w' ⟨v,own',he,hst,ha,hc,D,bs,rfl,hB,hlen,hent⟩
 refine⟨_,own',he,hst,(ha,hc,bs,D++qmu 4 l.length (qaf (qkc l) l.length) bs 0),⟨rfl,hlen,?_,?_⟩,?_⟩
 ·exact(hB.rd (W0:=W0)).ent Ent.left
 ·intro i b hb
  have:=qnN (W0:=W0) (T:=4) (n:=l.length) (f:=qaf (qkc l) l.length) hb
  rw[qmz (g':=hbB l i) (fun j _=>qiW hw i j)] at this
  exact this.ent (Ent.app Ent.refl)
 ·rw[List.append_assoc];exact hent
noncomputable def rcR(l:List EH)(n:Int):List q0G:=if(q7q l n).2=0 then rcA l l.length else []
theorem qpc(hR:RdE EH.enc 6 W0 own a l)(hE:∀e∈l,EvR W0 own e)(n:Int):
  q0E Tryz.prog W0 47 [.slice a l.length cap, .int .i64 n] own fun v own'=>∃s:Option Addr×Nat×Own,(v= .slice s.1 (rcR l n).length s.2.1∧qr encRc 56 3 s.1 s.2.1 (rcR l n) s.2.2)∧Ent W0 own' (s.2.2++own):=by
 refine qa qj qnr (by simp[qmj]) ?_
 have hck:=q5l (cap:=cap) hR hE n
 unfold rcR
 by_cases hc:(q7q l n).2=0
 ·obtain⟨hw,hl,_,_⟩:=chk_wf hc
  rw[qqn hc] at hck
  rw[if_pos hc]
  have hcl:=qo0 (cap:=cap) hw hR hl
  repeat'((try(conv=>whnf));first|(refine fD ?_)|((with_reducible show qf _ _ _ _ _ _);first|((refine qh (hck) ?_ ?_ ?_;(exact rfl);exact rfl))|((refine qZ hcl ?_ ?_ (fun s v hv=> ?_);(exact rfl);(exact rfl);(obtain⟨ha,hcc,bs,X⟩:=s;obtain⟨rfl,hb⟩:=hv;dsimp only at hb))))|(refine fO ?_))
  have hbl:=hb.len
  have hbr:=hb.rd
  clear hck hcl
  refine q0Z (σ:=Nat×Option Addr×Nat×Own) (fun s=> [(8, .slice s.2.1 (rcA l s.1).length s.2.2.1),(9, .int .i64 s.1)]) (fun s=>s.2.2.2++(X++own))
   (fun s=>s.1≤l.length∧qr encRc 56 3 s.2.1 s.2.2.1 (rcA l s.1) s.2.2.2) (fun s=>l.length-s.1) (0,none,0,[]) ⟨by simp,qr.nil⟩ (eF) Ent.refl rfl ?_
  rintro⟨y,ra,rc,D⟩ junk ⟨hy,hB⟩
  dsimp only at hy hB ⊢
  by_cases hyl:y<l.length
  ·have hyl':(y:Int)<l.length:=by omega
   obtain⟨e,he⟩:∃e,l[y]? =some e:=⟨_,List.getElem?_eq_getElem hyl⟩
   have hae:at' l y=e:=qg6 he
   have hke:knd l y=e.k:=by unfold knd;rw[hae]
   have hlenA:=qoe l l.length y (by omega)
   have hmulA:y*(64*l.length)≤65536*(64*65536):=Nat.mul_le_mul (by omega) (by omega)
   by_cases h3:e.k=3
   ·have hnx:rcA l (y+1)=rcA l y:=by rw[q92,hke,if_pos h3,List.append_nil]
    repeat'((try(conv=>whnf));first|(apply qaR;(exact rfl);omega)|((with_reducible show Ld _ _ _ _);first|(refine qgp hR he rfl ?_))|((with_reducible show IxS _ _ _ _ _);first|((refine ixE hR he ?_ ?_;(first|rfl|omega))))|(refine ari ?_ ?_;omega))
    refine⟨(y+1,ra,rc,D),⟨by simp only;omega,by simp only;rw[hnx];exact hB⟩,by simp only;omega,?_,Ent.refl⟩
    simp only
    rw[hnx]
    exact(eF)
   ·have hnx:rcA l (y+1)=rcA l y++rcW l y 64:=by rw[q92,hke,if_neg h3]
    have hbg:=qnZ (W0:=W0) (own:=D++(X++own)) (cap:=cap) hR.up hl hyl
    obtain⟨p,hto⟩:∃p,toP l y=p:=⟨_,rfl⟩
    rcases Decidable.em (e.k=4) with h4|h4
    case' inl=>
     obtain⟨p',hp',hpl',_,_⟩:=qcQ hw hyl (hke.trans h4)
     have hpp:p=p':=by rw[←hto];unfold toP;rw[hke,if_pos h4,hp'];rfl
     subst hpp
     have hpl:p<l.length:=by omega
     rw[hp'] at hbg
     repeat'((try(conv=>whnf));first|(apply qaR;(exact rfl);omega)|(apply qaQ;(exact rfl);omega)|((with_reducible show Ld _ _ _ _);first|(refine qgp hR he rfl ?_))|((with_reducible show IxS _ _ _ _ _);first|((refine ixE hR he ?_ ?_;(first|rfl|omega))))|((with_reducible show qf _ _ _ _ _ _);first|((refine qh (hbg) ?_ ?_ ?_;(exact rfl);exact rfl))))
     clear hbg hpl' hp'
    case' inr=>
     have hpp:p=y:=by rw[←hto];unfold toP;rw[hke,if_neg h4]
     have hpl:p<l.length:=by omega
     repeat'((try(conv=>whnf));first|(apply qaR;(exact rfl);omega)|(apply qaQ;(exact rfl);omega)|((with_reducible show Ld _ _ _ _);first|(refine qgp hR he rfl ?_))|((with_reducible show IxS _ _ _ _ _);first|((refine ixE hR he ?_ ?_;(first|rfl|omega)))))
    all_goals
     refine q0Z (σ:=Nat×Option Addr×Nat×Own) (fun s=> [(8, .slice s.2.1 (rcA l y++rcW l y s.1).length s.2.2.1),(11, .int .i64 s.1)]) (fun s=>s.2.2.2++(X++own))
      (fun s=>s.1≤64∧qr encRc 56 3 s.2.1 s.2.2.1 (rcA l y++rcW l y s.1) s.2.2.2) (fun s=>64-s.1) (0,ra,rc,D) ⟨by simp,by simpa [rcW] using hB⟩ (by simp only[rcW,List.range_zero,List.flatMap_nil,List.append_nil];exact(eF)) Ent.refl rfl ?_
     rintro⟨wd,ra2,rc2,D2⟩ junk2 ⟨hwd,hB2⟩
     dsimp only at hwd hB2 ⊢
     by_cases hwl:wd<64
     ·have hwl':(wd:Int)<64:=by omega
      have hlenW:=qof l y wd
      have hmulW:wd*y≤64*65536:=Nat.mul_le_mul (by omega) (by omega)
      repeat'((try(conv=>whnf));first|(apply qaR;(exact rfl);omega))
      refine q0Z (σ:=Nat×Option Addr×Nat×Own) (fun s=> [(8, .slice s.2.1 ((rcA l y++rcW l y wd)++rcL l y wd s.1).length s.2.2.1),(12, .int .i64 s.1)]) (fun s=>s.2.2.2++(X++own))
       (fun s=>s.1≤y∧qr encRc 56 3 s.2.1 s.2.2.1 ((rcA l y++rcW l y wd)++rcL l y wd s.1) s.2.2.2) (fun s=>y-s.1) (0,ra2,rc2,D2) ⟨by simp,by simpa [qox] using hB2⟩ (by simp only[qox,List.append_nil];exact(eF)) Ent.refl rfl ?_
      rintro⟨x,ra3,rc3,D3⟩ junk3 ⟨hx,hB3⟩
      dsimp only at hx hB3 ⊢
      by_cases hxl:x<y
      ·have hxl':(x:Int)<y:=by omega
       obtain⟨e',he'⟩:∃e,l[x]? =some e:=⟨_,List.getElem?_eq_getElem (by omega)⟩
       have hae':at' l x=e':=qg6 he'
       have hke':knd l x=e'.k:=by unfold knd;rw[hae']
       have hcf:∀own' [qt own' (X++own)],qD Tryz.prog W0 80 [e'.v,e.v, .int .i64 wd] own' (.bool (confB e' e wd)):=fun own' h=>
        qo1 ((hE e' (List.mem_of_getElem? he')).up (own:=X++own)|>.up) ((hE e (List.mem_of_getElem? he)).up (own:=X++own)|>.up) wd
       have hrB:rcB l y wd x=(!decide (e'.k=3)&&(confB e' e wd&& !hbB l x p)):=by unfold rcB;rw[hke',hae,hae',hto]
       have hsc:rcL l y wd (x+1)=rcL l y wd x++if rcB l y wd x=true then [((x:Int),(y:Int),(wd:Int))] else []:=q93
       have hlenL:=qp2 l y wd x
       obtain⟨bx,hbx⟩:∃b,bs[x]? =some b:=⟨_,List.getElem?_eq_getElem (by omega)⟩
       have hrx:=hb.rows x bx hbx
       have gxp:=qmw (n:=l.length) (g:=hbB l x) (j:=p) hpl
       have hlr:=(qmx l.length (hbB l x)).symm
       generalize confB e' e wd=cf at*
       generalize hbB l x p=hv at*
       have hlen3:(rcA l y++rcW l y wd++rcL l y wd x).length≤65536*(64*65536)+64*65536+65536:=by
        simp only[List.length_append];omega
       generalize hG:rcA l y++rcW l y wd++rcL l y wd x=G at*
       have hGn:∀z,rcA l y++rcW l y wd++(rcL l y wd x++z)=G++z:=fun z=>by rw[←hG];simp
       by_cases hk3:e'.k=3
       ·have hb0:rcB l y wd x=false:=by rw[hrB,decide_eq_true hk3];rfl
        rw[hb0] at hsc
        repeat'((try(conv=>whnf));first|(refine fI ?_)|(refine fD ?_)|(apply qaR;(exact rfl);omega)|(apply q9f;(exact rfl);omega)|((with_reducible show Ld _ _ _ _);first|(refine qgp hR he' rfl ?_))|((with_reducible show IxS _ _ _ _ _);first|((refine ixE hR he' ?_ ?_;(first|rfl|omega))))|(refine ari ?_ ?_;omega))
        refine⟨(x+1,ra3,rc3,D3),⟨by simp only;omega,by simp only;rw[hsc,hGn];simpa using hB3⟩,by simp only;omega,?_,Ent.refl⟩
        simp only
        rw[hsc,hGn]
        simp only[Bool.false_eq_true,if_false,List.append_nil]
        exact(eF)
       ·cases cf with
        |false=>
         have hb0:rcB l y wd x=false:=by rw[hrB];simp
         rw[hb0] at hsc
         repeat'((try(conv=>whnf));first|(refine q1P ?_ ?_;exact rfl)|(refine fI ?_)|(refine fD ?_)|(apply qaR;(exact rfl);omega)|(apply q9g;(exact rfl);omega)|((with_reducible show Ld _ _ _ _);first|(refine qgp hR he' rfl ?_))|((with_reducible show IxS _ _ _ _ _);first|((refine ixE hR he ?_ ?_;(first|rfl|omega)))|((refine ixE hR he' ?_ ?_;(first|rfl|omega))))|((with_reducible show LdN _ _ _ _ _);first|(refine q2e hR he rfl ?_)|(refine q2e hR he' rfl ?_))|((with_reducible show q0b _ _ _ _ _ _);first|(((refine qq (fun ex=>hcf _) ?_ ?_ ?_;(exact rfl);exact rfl))))|(refine ari ?_ ?_;omega))
         refine⟨(x+1,ra3,rc3,D3),⟨by simp only;omega,by simp only;rw[hsc,hGn];simpa using hB3⟩,by simp only;omega,?_,Ent.refl⟩
         simp only
         rw[hsc,hGn]
         simp only[Bool.false_eq_true,if_false,List.append_nil]
         exact(eF)
        |true=>
         cases hv with
         |true=>
          have hb0:rcB l y wd x=false:=by rw[hrB];simp
          rw[hb0] at hsc
          repeat'((try(conv=>whnf));first|(refine q1P ?_ ?_;exact rfl)|(refine fD ?_)|(apply qaR;(exact rfl);omega)|(apply q9g;(exact rfl);omega)|((with_reducible show Ld _ _ _ _);first|(refine qgp hR he' rfl ?_)|(refine q1M hbr hbx rfl ?_)|(refine qkh hrx gxp rfl ?_))|((with_reducible show IxS _ _ _ _ _);first|((refine ixE hR he ?_ ?_;(first|rfl|omega)))|((refine ixE hR he' ?_ ?_;(first|rfl|omega)))|((refine ixE hbr hbx ?_ ?_;(first|rfl|omega)))|((refine ixC gxp hlr ?_ ?_;(first|rfl|omega))))|((with_reducible show LdN _ _ _ _ _);first|(refine q2e hR he rfl ?_)|(refine q2e hR he' rfl ?_))|((with_reducible show q0b _ _ _ _ _ _);first|(((refine qq (fun ex=>hcf _) ?_ ?_ ?_;(exact rfl);exact rfl))))|(refine ari ?_ ?_;omega))
          refine⟨(x+1,ra3,rc3,D3),⟨by simp only;omega,by simp only;rw[hsc,hGn];simpa using hB3⟩,by simp only;omega,?_,Ent.refl⟩
          simp only
          rw[hsc,hGn]
          simp only[Bool.false_eq_true,if_false,List.append_nil]
          exact(eF)
         |false=>
          have hb0:rcB l y wd x=true:=by rw[hrB,decide_eq_false hk3];rfl
          rw[hb0] at hsc
          repeat'((try(conv=>whnf));first|(refine q1P ?_ ?_;exact rfl)|(refine q5s ?_ ?_;exact rfl)|(apply qaR;(exact rfl);omega)|(apply q9g;(exact rfl);omega)|(apply q69 (enc:=encRc) ((x:Int),(y:Int),(wd:Int)) hB3;(exact rfl);(exact rfl);(omega);(exact rfl);(exact rfl);(omega);intro a1 c1 D1 hb1)|((with_reducible show Ld _ _ _ _);first|(refine qgp hR he' rfl ?_)|(refine q1M hbr hbx rfl ?_)|(refine qkh hrx gxp rfl ?_))|((with_reducible show IxS _ _ _ _ _);first|((refine ixE hR he ?_ ?_;(first|rfl|omega)))|((refine ixE hR he' ?_ ?_;(first|rfl|omega)))|((refine ixE hbr hbx ?_ ?_;(first|rfl|omega)))|((refine ixC gxp hlr ?_ ?_;(first|rfl|omega))))|((with_reducible show LdN _ _ _ _ _);first|(refine q2e hR he rfl ?_)|(refine q2e hR he' rfl ?_))|((with_reducible show q0b _ _ _ _ _ _);first|(((refine qq (fun ex=>hcf _) ?_ ?_ ?_;(exact rfl);exact rfl))))|(refine ari ?_ ?_;omega)|(refine qc (fun bk hbk=> ?_)))
          refine⟨(x+1,a1,c1,D1),⟨by simp only;omega,by simp only;rw[hsc,hGn];exact hb1⟩,by simp only;omega,?_,Ent.cons Ent.refl⟩
          simp only
          rw[hsc,hGn]
          simp only[if_true,List.length_append,List.length_cons,List.length_nil,Nat.zero_add]
          exact(eF)
      ·have hxl':¬(x:Int)<y:=by omega
       have hx2:x=y:=by omega
       subst hx2
       repeat'((try(conv=>whnf));first|(apply qaQ;(exact rfl);omega)|(refine ari ?_ ?_;omega))
       refine⟨(wd+1,ra3,rc3,D3),⟨by simp only;omega,by simp only;rw[qbx,←List.append_assoc];exact hB3⟩,by simp only;omega,?_,Ent.refl⟩
       simp only
       rw[qbx,←List.append_assoc]
       exact(eF)
     ·have hwl':¬(wd:Int)<64:=by omega
      have hw2:wd=64:=by omega
      subst hw2
      repeat'((try(conv=>whnf));first|(refine fD ?_)|(refine ari ?_ ?_;omega))
      refine⟨(y+1,ra2,rc2,D2),⟨by simp only;omega,by simp only;rw[hnx];exact hB2⟩,by simp only;omega,?_,Ent.refl⟩
      simp only
      rw[hnx]
      exact(eF)
  ·have hyl':¬(y:Int)<l.length:=by omega
   have hy2:y=l.length:=by omega
   subst hy2
   repeat'((try(conv=>whnf));first|(apply qaQ;(exact rfl);omega))
   exact⟨(ra,rc,D),⟨rfl,hB⟩,Ent.of_sub ((List.sublist_append_right X own).append_left D)⟩
 ·rw[if_neg hc]
  generalize q7q l n=r at*
  repeat'((try(conv=>whnf));first|(apply qaR;(exact rfl);omega)|((with_reducible show qf _ _ _ _ _ _);first|((refine qh (hck) ?_ ?_ ?_;(exact rfl);exact rfl)))|(refine fO ?_))
  all_goals exact⟨(none,0,[]),⟨rfl,qr.nil⟩,(eC)⟩
end
theorem qpj(l:List EH)(n:Int):qiS (rcR l n)=frR l n:=by
 unfold rcR frR
 split
 ·exact qeP l
 ·rfl
section
variable{W0:World}{own:Own}{a:Option Addr}{cap:Nat}{l:List EH}
theorem qpH(W0:World)(own:Own):qD Tryz.prog W0 48 [] own (.agg #[.int .i64 (-1), .int .i64 (-1), .int .i64 (-1)]):=by
 refine qe (qa qj qnB (by simp[qmq]) ?_)
 repeat'((try(conv=>whnf));first|(refine fL ?_)|(refine fM ?_)|(refine qc (fun bk hbk=> ?_)))
 exact⟨rfl,(eC)⟩
theorem sp_rfirst(hR:RdE EH.enc 6 W0 own a l)(hE:∀e∈l,EvR W0 own e)(n:Int):
  qD Tryz.prog W0 20 [.slice a l.length cap, .int .i64 n] own (.agg (encRc (frR l n)).toArray):=by
 refine qe (qa qj qnq (by simp[qmi]) ?_)
 rw[←qpj]
 have hlen:(rcR l n).length≤65536*(64*65536):=by
  unfold rcR
  split
  ·rename_i hc
   have hl:=(chk_wf hc).2.1
   exact Nat.le_trans (qoe l l.length l.length (Nat.le_refl _)) (Nat.mul_le_mul hl (by omega))
  ·simp
 have hrc:∀own' [qt own' own],q0E Tryz.prog W0 47 [.slice a l.length cap, .int .i64 n] own' _:=fun own' h=>qpc (hR.up (own:=own')) (fun e he=>(hE e he).up (own:=own')) n
 repeat'((try(conv=>whnf));first|((with_reducible show qf _ _ _ _ _ _);first|((refine qZ (hrc _) ?_ ?_ (fun s v hv=> ?_);(exact rfl);(exact rfl);(obtain⟨ra,rc,D⟩:=s;obtain⟨rfl,hB⟩:=hv;dsimp only at hB);(apply Stop.h))))|(refine qc (fun bk hbk=> ?_)))
 refine Stop.mk ?_
 clear hrc
 have hno:=qpH W0
 generalize rcR l n=L at*
 cases L with
 |nil=>
  have h0:((([]:List q0G).length:Nat):Int)=0:=rfl
  repeat'((try(conv=>whnf));first|(refine fE ?_)|((with_reducible show qf _ _ _ _ _ _);first|((refine qh (hno _) ?_ ?_ ?_;(exact rfl);exact rfl)))|(refine fL ?_)|(refine fM ?_))
  exact⟨rfl,(eC)⟩
 |cons r0 rs=>
  have hrd:=hB.rd (W0:=W0)
  have hl0:¬(((r0::rs).length:Nat):Int)=0:=by simp;omega
  have hx0:(r0::rs)[0]? =some r0:=rfl
  obtain⟨res,hres⟩:∃res,res=qiS (r0::rs):=⟨_,rfl⟩
  rw[←hres]
  have hrs:rs.foldl q9s r0=res:=hres.symm
  clear hres
  generalize hL:r0::rs=L at*
  have hLl:L.length=rs.length+1:=by rw[←hL];rfl
  have hLg:∀c x,rs[c]? =some x→L[c+1]? =some x:=fun c x h=>by rw[←hL];simpa using h
  repeat'((try(conv=>whnf));first|(refine fG ?_)|(refine qc (fun bk1 hbk1=> ?_))|((with_reducible show IxS _ _ _ _ _);first|((refine ixE hrd hx0 ?_ ?_;(first|rfl|omega))))|((with_reducible show LdN _ _ _ _ _);first|(refine q2e hrd hx0 rfl ?_))|(refine fM ?_))
  refine q0Z (σ:=Nat×q0G) (fun s=> [(7, .int .i64 ((s.1:Nat)+1:Int))]) (fun s=>(bk1,fun o=>o=Obj.cells (encRc s.2).toArray 56)::(D++((bk,fun o=>o=Obj.cells #[.int .i64 0, .int .i64 0, .int .i64 0] 56)::own)))
   (fun s=>s.1≤rs.length∧(rs.drop s.1).foldl q9s s.2=res) (fun s=>rs.length-s.1) (0,r0) ⟨by simp,by simpa using hrs⟩ (eF) Ent.refl rfl ?_
  rintro⟨c,b⟩ junk ⟨hc,hI⟩
  dsimp only at hc hI ⊢
  by_cases hlt:c<rs.length
  ·obtain⟨x,hx⟩:∃x,rs[c]? =some x:=⟨_,List.getElem?_eq_getElem hlt⟩
   have hx':=hLg c x hx
   have hlt':((c:Int)+1)<L.length:=by omega
   rw[q0R hx,List.foldl_cons] at hI
   obtain⟨x1,x2,x3⟩:=x
   obtain⟨b1,b2,b3⟩:=b
   by_cases h1:x2=b2∧x3=b3∧b1<x1
   ·have hb:q9s (b1,b2,b3) (x1,x2,x3)=(x1,x2,x3):=by unfold q9s;rw[if_pos h1]
    rw[hb] at hI
    obtain⟨h1,h2,h3⟩:=h1
    have hx4:L[c+1]? =some (x1,x2,x3):=hx'
    repeat'((try(conv=>whnf));first|(refine fH ?_)|(refine fF ?_)|(refine fJ ?_)|((with_reducible show Ld _ _ _ _);first|(refine q1M hrd hx' rfl ?_)|(refine qgp hrd hx' rfl ?_))|((with_reducible show IxS _ _ _ _ _);first|((refine ixE hrd hx' ?_ ?_;(first|rfl|omega))))|((with_reducible show LdN _ _ _ _ _);first|(refine q2e hrd hx' rfl ?_))|(refine fB ?_)|(refine fA ?_)|(refine fM ?_))
    exact⟨(c+1,x1,x2,x3),⟨by simp only;omega,hI⟩,by simp only;omega,(eF),Ent.refl⟩
   ·have hb:q9s (b1,b2,b3) (x1,x2,x3)=(b1,b2,b3):=by unfold q9s;rw[if_neg h1]
    rw[hb] at hI
    repeat'((try(conv=>whnf));first|(refine fH ?_)|(refine fI ?_)|(refine fD ?_)|(refine fF ?_)|((with_reducible show Ld _ _ _ _);first|(refine q1M hrd hx' rfl ?_)|(refine qgp hrd hx' rfl ?_))|((with_reducible show IxS _ _ _ _ _);first|((refine ixE hrd hx' ?_ ?_;(first|rfl|omega))))|((with_reducible show LdN _ _ _ _ _);first|(refine q2e hrd hx' rfl ?_))|(refine fB ?_)|(refine fA ?_)|(refine fM ?_)|(apply q0e;(exact rfl);(exact rfl);all_goals intro hc)|(apply q9q;(exact rfl);all_goals intro hc))
    all_goals first|(exfalso;omega)|(exfalso;dsimp only at*;omega)|exact⟨(c+1,b1,b2,b3),⟨by simp only;omega,hI⟩,by simp only;omega,(eF),Ent.refl⟩
  ·have hlt':¬((c:Int)+1)<L.length:=by omega
   have hb:b=res:=by rw[List.drop_eq_nil_of_le (by omega)] at hI;exact hI
   subst hb
   repeat'((try(conv=>whnf));first|(refine fG ?_)|(refine fL ?_)|(refine fM ?_))
   exact⟨rfl,(eC)⟩
end
end Ord
open Go
def qlN:IFn:=⟨92,
 (jQ (jR [(jo 10 (.mov (.const (.bool false))))])
 (jQ (.seq (jR [(jm 19 2),(jc 20 9 19),(jm 21 20),(jz 21 (jm 22 3)),(jz 21 (jt 23 22)),(jz 21 (jo 24 (.bin .gtr 23 (jI 2)))),
 (jO 25 21 24)])
 (.cond 25
 (jQ (jR [(jo 26 (.call 10 [])),(jm 10 26)])
 .ret)
 .skip))
 (jQ (jR [(jm 27 0),(jm 28 1),(jm 29 2),(jo 30 (.call 11 [27,28,29])),(jo 11 (.new 32 eZ4)),
 (jS 16 11 30)])
 (jQ (jR [(jo 12 (.mov (.const (.slice none 0 0))))])
 (jQ (.seq (jR [(jk 13 0)])
 (.block 0
 (.loop 281472829239296
 (jQ (.seq (jR [(jm 31 13),(jm 32 3),(jt 33 32),(jw 34 31 33)])
 (.cond 34
 .skip
 (.exit 0)))
 (jQ (.block 1
 (jR [(jm 37 12),(jo 38 (.blds 3 4 [(.int .i64 0),(.int .i64 0),(.int .i64 0),(.int .i64 0)] [(0,1,(jI 3)),(1,1,(jI 4)),(2,1,(jI 5)),(3,1,(jI 6))])),
 (jm 39 3),(jm 40 13),(jx 41 1 39 40),(jl 42 41),(jo 43 (.call 12 [42,(jI 4)])),(jx 44 1 38 43),(jl 45 44),(jo 46 (.blds 3 1 [(.int .i64 0)] [(0,1,45)])),
 (jo 47 (.app 3 1 8 [(.int .i64 0)] 37 46)),(jm 12 47)]))
 (jR [(jm 35 13),(ja 36 35 1),(jm 13 36)]))))))
 (jQ (jR [(jm 48 4),(jo 49 (.call 12 [48,(jI 60)])),(jo 50 (.bin .add (jI 1) 49)),(jm 14 50)])
 (jQ (jR [(jL 52 16 11),(jm 53 12),(jm 54 14),(jo 55 (.call 13 [52,53,54])),(jm 51 55),(je 56 51 0),(je 57 51 1),(jo 15 (.new 37 qkd)),
 (jS 3 15 56),(jm 16 57)])
 (jQ (jR [(jL 59 16 11),(jm 60 12),(jm 61 14),(jo 62 (.call 14 [59,60,61])),(jm 58 62),(je 63 58 0),(je 64 58 1),(jo 17 (.new 37 qkd)),
 (jS 3 17 63),(jm 18 64)])
 (jQ (jR [(jm 65 16),(jm 66 18),(jo 67 (.bin .eql 65 66)),(jm 68 67),(jy 68 (jf 69 0 15)),(jy 68 (jl 70 69)),(jy 68 (jf 71 0 17)),(jy 68 (jl 72 71)),
 (jy 68 (jo 73 (.beq false 70 72))),(jA 74 68 73),(jm 75 74),(jy 75 (jf 76 2 15)),(jy 75 (jl 77 76)),(jy 75 (jf 78 2 17)),(jy 75 (jl 79 78)),
 (jy 75 (jo 80 (.bin .eql 77 79))),(jA 81 75 80),(jm 82 81),(jy 82 (jf 83 1 15)),(jy 82 (jl 84 83)),(jy 82 (jf 85 1 17)),(jy 82 (jl 86 85)),
 (jy 82 (jC 87 15 84 86)),(jA 88 82 87),(jm 89 88),(jy 89 (jo 90 (.call 10 []))),(jA 91 89 90),(jm 10 91)])
 .ret))))))))),
 [.tmp 10]⟩
theorem qmy:qn Tryz.prog qd 3=some ⟨qlN.n,qi qlN.body,qlN.res⟩:=by kernel_rfl
def qmm:IFn:=⟨25,
 (jQ (jR [(jo 2 (.mov (.const (.bool false))))])
 (jQ (jR [(jk 3 0)])
 (jQ (.seq (jR [(jk 4 0)])
 (.block 0
 (.loop 262136
 (jQ (.seq (jR [(jm 5 4),(jm 6 0),(jt 7 6),(jw 8 5 7)])
 (.cond 8
 .skip
 (.exit 0)))
 (jQ (.block 1
 (jR [(jm 11 3),(jm 12 0),(jm 13 4),(jx 14 1 12 13),(jl 15 14),(jt 16 15),(jo 17 (.bin .add 11 16)),(jm 3 17)]))
 (jR [(jm 9 4),(ja 10 9 1),(jm 4 10)]))))))
 (jQ (jR [(jm 18 0),(jt 19 18),(jo 20 (.bin .gtr 19 (jI 3))),(jm 21 20),(jz 21 (jm 22 3)),(jz 21 (jo 23 (.bin .gtr 22 (jI 24)))),
 (jO 24 21 23),(jm 2 24)])
 .ret)))),
 [.tmp 2]⟩
theorem qnx:qn Tryz.prog qd 9=some ⟨qmm.n,qi qmm.body,qmm.res⟩:=by kernel_rfl
def qm9:IFn:=⟨24,
 (jQ (jR [(jo 6 (.new 32 eZ4))])
 (jQ (jR [(jm 10 0),(jm 11 1),(jC 12 24 10 11),(jo 7 (.new 28 qr4)),
 (jS 13 7 12)])
 (jQ (jR [(jm 13 2),(jt 14 13),(jo 15 (.bin .rem 14 (jI 2))),(jo 16 (.bin .add (jI 2) 15)),(jm 8 16)])
 (jQ (jR [(jL 17 13 7),(jm 18 8),(jm 19 2),(jm 20 8),(jo 21 (.bin .sub (jI 8) 20)),(jo 22 (.call 18 [17,18,19,21,(.const (.bool false)),(.const (.bool true)),(.const (.slice none 0 0))])),
 (jo 9 (.new 32 eZ4)),
 (jS 16 9 22)])
 (jQ (jR [(jL 23 16 9),(jS 16 6 23)])
 .ret))))),
 [.cellN 6 16]⟩
theorem qna:qn Tryz.prog qd 11=some ⟨qm9.n,qi qm9.body,qm9.res⟩:=by kernel_rfl
end Go.Proofs.YtkieffpjjfebjaaGreatDoor
