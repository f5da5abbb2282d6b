/- What the laws share, part 8. No condition. -/
import Derived.Test.YtkieffpjjfebjaaGreatDoorY7
namespace Go.Proofs.YtkieffpjjfebjaaGreatDoor
open Go
set_option maxRecDepth 100000
def ir_slices_Clone_Choice : IFn := ⟨8,
 (.seq (.region [(jo 2 (.mov (.const (.slice none 0 0))))])
 (.seq (.seq (.region [(jm 3 0), (jo 4 (.nilq false 0 (.tmp 3) (.const (.slice none 0 0))))])
 (.cond (.tmp 4)
 (.seq (.region [(jo 2 (.mov (.const (.slice none 0 0))))])
 .ret)
 .skip))
 (.seq (.region [(jo 5 (.blds 79 0 [] [])), (jm 6 0), (jo 7 (.app 79 3 40 [(.int .i64 0), (.int .i64 0), (.slice none 0 0)] (.tmp 5) (.tmp 6))), (jm 2 7)])
 .ret))),
 [.tmp 2]⟩
theorem low_slices_Clone_Choice : lowFn Tryz.prog movers 29 = some ⟨ir_slices_Clone_Choice.n, strip ir_slices_Clone_Choice.body, ir_slices_Clone_Choice.res⟩ := by kernel_rfl
def ir_slices_Clip_Choice : IFn := ⟨9,
 (.seq (.region [(jo 2 (.mov (.const (.slice none 0 0))))])
 (.seq (.region [(jm 3 0), (jm 4 0), (jt 5 4), (jm 6 0), (jt 7 6), (jo 8 (.sls 3 (.tmp 3) none (some (.tmp 5)) (some (.tmp 7)))), (jm 2 8)])
 .ret)),
 [.tmp 2]⟩
theorem low_slices_Clip_Choice : lowFn Tryz.prog movers 35 = some ⟨ir_slices_Clip_Choice.n, strip ir_slices_Clip_Choice.body, ir_slices_Clip_Choice.res⟩ := by kernel_rfl
def ir_slices_ContainsFunc_Instr_of : IFn := ⟨9,
 (.seq (.region [(jo 4 (.mov (.const (.bool false))))])
 (.seq (.region [(jm 5 0), (jm 6 1), (jC 7 81 5 6), (jo 8 (.bin .geq (.tmp 7) (.const (.int .i64 0)))), (jm 4 8)])
 .ret)),
 [.tmp 4]⟩
theorem low_slices_ContainsFunc_Instr_of : lowFn Tryz.prog movers 53 = some ⟨ir_slices_ContainsFunc_Instr_of.n, strip ir_slices_ContainsFunc_Instr_of.body, ir_slices_ContainsFunc_Instr_of.res⟩ := by kernel_rfl
def ir_slices_Clone_uint64 : IFn := ⟨8,
 (.seq (.region [(jo 2 (.mov (.const (.slice none 0 0))))])
 (.seq (.seq (.region [(jm 3 0), (jo 4 (.nilq false 0 (.tmp 3) (.const (.slice none 0 0))))])
 (.cond (.tmp 4)
 (.seq (.region [(jo 2 (.mov (.const (.slice none 0 0))))])
 .ret)
 .skip))
 (.seq (.region [(jo 5 (.blds 58 0 [] [])), (jm 6 0), (jo 7 (.app 58 1 8 [(.int .u64 0)] (.tmp 5) (.tmp 6))), (jm 2 7)])
 .ret))),
 [.tmp 2]⟩
theorem low_slices_Clone_uint64 : lowFn Tryz.prog movers 58 = some ⟨ir_slices_Clone_uint64.n, strip ir_slices_Clone_uint64.body, ir_slices_Clone_uint64.res⟩ := by kernel_rfl
def ir_slices_Clone_Thread : IFn := ⟨8,
 (.seq (.region [(jo 2 (.mov (.const (.slice none 0 0))))])
 (.seq (.seq (.region [(jm 3 0), (jo 4 (.nilq false 0 (.tmp 3) (.const (.slice none 0 0))))])
 (.cond (.tmp 4)
 (.seq (.region [(jo 2 (.mov (.const (.slice none 0 0))))])
 .ret)
 .skip))
 (.seq (.region [(jo 5 (.blds 61 0 [] [])), (jm 6 0), (jo 7 (.app 61 11 88 [(.int .i64 0), (.int .u64 0), (.int .u64 0), (.int .u64 0), (.int .u64 0), (.int .u64 0), (.int .u64 0), (.int .u64 0), (.int .u64 0), (.int .i64 0), (.bool false)] (.tmp 5) (.tmp 6))),
 (jm 2 7)])
 .ret))),
 [.tmp 2]⟩
theorem low_slices_Clone_Thread : lowFn Tryz.prog movers 59 = some ⟨ir_slices_Clone_Thread.n, strip ir_slices_Clone_Thread.body, ir_slices_Clone_Thread.res⟩ := by kernel_rfl
def ir_slices_Clone_int : IFn := ⟨8,
 (.seq (.region [(jo 2 (.mov (.const (.slice none 0 0))))])
 (.seq (.seq (.region [(jm 3 0), (jo 4 (.nilq false 0 (.tmp 3) (.const (.slice none 0 0))))])
 (.cond (.tmp 4)
 (.seq (.region [(jo 2 (.mov (.const (.slice none 0 0))))])
 .ret)
 .skip))
 (.seq (.region [(jo 5 (.blds 3 0 [] [])), (jm 6 0), (jo 7 (.app 3 1 8 [(.int .i64 0)] (.tmp 5) (.tmp 6))), (jm 2 7)])
 .ret))),
 [.tmp 2]⟩
theorem low_slices_Clone_int : lowFn Tryz.prog movers 60 = some ⟨ir_slices_Clone_int.n, strip ir_slices_Clone_int.body, ir_slices_Clone_int.res⟩ := by kernel_rfl
def ir_slices_Clone_Obs : IFn := ⟨8,
 (.seq (.region [(jo 2 (.mov (.const (.slice none 0 0))))])
 (.seq (.seq (.region [(jm 3 0), (jo 4 (.nilq false 0 (.tmp 3) (.const (.slice none 0 0))))])
 (.cond (.tmp 4)
 (.seq (.region [(jo 2 (.mov (.const (.slice none 0 0))))])
 .ret)
 .skip))
 (.seq (.region [(jo 5 (.blds 127 0 [] [])), (jm 6 0), (jo 7 (.app 127 3 24 [(.int .i64 0), (.int .i64 0), (.int .u64 0)] (.tmp 5) (.tmp 6))), (jm 2 7)])
 .ret))),
 [.tmp 2]⟩
theorem low_slices_Clone_Obs : lowFn Tryz.prog movers 61 = some ⟨ir_slices_Clone_Obs.n, strip ir_slices_Clone_Obs.body, ir_slices_Clone_Obs.res⟩ := by kernel_rfl
def ir_slices_Clone_Event : IFn := ⟨8,
 (.seq (.region [(jo 2 (.mov (.const (.slice none 0 0))))])
 (.seq (.seq (.region [(jm 3 0), (jo 4 (.nilq false 0 (.tmp 3) (.const (.slice none 0 0))))])
 (.cond (.tmp 4)
 (.seq (.region [(jo 2 (.mov (.const (.slice none 0 0))))])
 .ret)
 .skip))
 (.seq (.region [(jo 5 (.blds 116 0 [] [])), (jm 6 0), (jo 7 (.app 116 6 80 [(.int .i64 0), (.int .i64 0), (.int .i64 0), (.int .i64 0), (.slice none 0 0), (.slice none 0 0)] (.tmp 5) (.tmp 6))),
 (jm 2 7)])
 .ret))),
 [.tmp 2]⟩
theorem low_slices_Clone_Event : lowFn Tryz.prog movers 63 = some ⟨ir_slices_Clone_Event.n, strip ir_slices_Clone_Event.body, ir_slices_Clone_Event.res⟩ := by kernel_rfl
def ir_slices_Clone_Instr : IFn := ⟨8,
 (.seq (.region [(jo 2 (.mov (.const (.slice none 0 0))))])
 (.seq (.seq (.region [(jm 3 0), (jo 4 (.nilq false 0 (.tmp 3) (.const (.slice none 0 0))))])
 (.cond (.tmp 4)
 (.seq (.region [(jo 2 (.mov (.const (.slice none 0 0))))])
 .ret)
 .skip))
 (.seq (.region [(jo 5 (.blds 69 0 [] [])), (jm 6 0), (jo 7 (.app 69 5 40 [(.int .i64 0), (.int .i64 0), (.int .i64 0), (.int .i64 0), (.int .i64 0)] (.tmp 5) (.tmp 6))),
 (jm 2 7)])
 .ret))),
 [.tmp 2]⟩
theorem low_slices_Clone_Instr : lowFn Tryz.prog movers 68 = some ⟨ir_slices_Clone_Instr.n, strip ir_slices_Clone_Instr.body, ir_slices_Clone_Instr.res⟩ := by kernel_rfl
def ir_slices_IndexFunc_Instr_of : IFn := ⟨19,
 (.seq (.region [(jk 4 0)])
 (.seq (.seq (.region [(jm 6 0), (jt 7 6), (jk 8 0)])
 (.block 0
 (.loop 524080
 (.seq (.region [(jw 9 8 7)])
 (.seq (.cond (.tmp 9)
 .skip
 (.exit 0))
 (.seq (.block 1
 (.seq (.region [(jm 10 8), (jm 5 10)])
 (.seq (.region [(jm 11 1), (jm 12 0), (jm 13 5), (jx 14 1 12 13), (jl 15 14), (jo 16 (.callv (.tmp 11) [(.tmp 15)]))])
 (.cond (.tmp 16)
 (.seq (.region [(jm 17 5), (jm 4 17)])
 .ret)
 .skip))))
 (.region [(ja 18 8 1), (jm 8 18)])))))))
 (.seq (.region [(jo 4 (.mov (.const (.int .i64 (-1)))))])
 .ret))),
 [.tmp 4]⟩
theorem low_slices_IndexFunc_Instr_of : lowFn Tryz.prog movers 81 = some ⟨ir_slices_IndexFunc_Instr_of.n, strip ir_slices_IndexFunc_Instr_of.body, ir_slices_IndexFunc_Instr_of.res⟩ := by kernel_rfl
def ir_slices_ContainsFunc_Instr : IFn := ⟨9,
 (.seq (.region [(jo 4 (.mov (.const (.bool false))))])
 (.seq (.region [(jm 5 0), (jm 6 1), (jC 7 113 5 6), (jo 8 (.bin .geq (.tmp 7) (.const (.int .i64 0)))), (jm 4 8)])
 .ret)),
 [.tmp 4]⟩
theorem low_slices_ContainsFunc_Instr : lowFn Tryz.prog movers 82 = some ⟨ir_slices_ContainsFunc_Instr.n, strip ir_slices_ContainsFunc_Instr.body, ir_slices_ContainsFunc_Instr.res⟩ := by kernel_rfl
def ir_slices_IndexFunc_Instr : IFn := ⟨19,
 (.seq (.region [(jk 4 0)])
 (.seq (.seq (.region [(jm 6 0), (jt 7 6), (jk 8 0)])
 (.block 0
 (.loop 524080
 (.seq (.region [(jw 9 8 7)])
 (.seq (.cond (.tmp 9)
 .skip
 (.exit 0))
 (.seq (.block 1
 (.seq (.region [(jm 10 8), (jm 5 10)])
 (.seq (.region [(jm 11 1), (jm 12 0), (jm 13 5), (jx 14 5 12 13), (jL 15 5 14), (jo 16 (.callv (.tmp 11) [(.tmp 15)]))])
 (.cond (.tmp 16)
 (.seq (.region [(jm 17 5), (jm 4 17)])
 .ret)
 .skip))))
 (.region [(ja 18 8 1), (jm 8 18)])))))))
 (.seq (.region [(jo 4 (.mov (.const (.int .i64 (-1)))))])
 .ret))),
 [.tmp 4]⟩
theorem low_slices_IndexFunc_Instr : lowFn Tryz.prog movers 113 = some ⟨ir_slices_IndexFunc_Instr.n, strip ir_slices_IndexFunc_Instr.body, ir_slices_IndexFunc_Instr.res⟩ := by kernel_rfl
def ir_slices_Concat_int : IFn := ⟨36,
 (.seq (.region [(jo 2 (.mov (.const (.slice none 0 0))))])
 (.seq (.region [(jk 3 0)])
 (.seq (.seq (.region [(jm 9 0), (jt 10 9), (jk 11 0)])
 (.block 0
 (.loop 8386600
 (.seq (.region [(jw 12 11 10)])
 (.seq (.cond (.tmp 12)
 .skip
 (.exit 0))
 (.seq (.block 1
 (.seq (.region [(jx 13 1 9 11), (jl 14 13), (jm 5 14)])
 (.seq (.region [(jm 15 3), (jm 16 5), (jt 17 16), (jo 18 (.bin .add (.tmp 15) (.tmp 17))), (jm 3 18)])
 (.seq (.region [(jm 19 3), (jo 20 (.bin .lss (.tmp 19) (.const (.int .i64 0))))])
 (.cond (.tmp 20)
 (.region [(jo 21 (.bad)),
 ⟨none, .bad, none⟩])
 .skip)))))
 (.region [(ja 22 11 1), (jm 11 22)])))))))
 (.seq (.region [(jm 23 3), (jo 24 (.call 141 [(.const (.slice none 0 0)), (.tmp 23)])), (jm 6 24)])
 (.seq (.seq (.region [(jm 25 0), (jt 26 25), (jk 27 0)])
 (.block 2
 (.loop 34225520960
 (.seq (.region [(jw 28 27 26)])
 (.seq (.cond (.tmp 28)
 .skip
 (.exit 2))
 (.seq (.block 3
 (.seq (.region [(jx 29 1 25 27), (jl 30 29), (jm 8 30)])
 (.region [(jm 31 6), (jm 32 8), (jo 33 (.app 3 1 8 [(.int .i64 0)] (.tmp 31) (.tmp 32))), (jm 6 33)])))
 (.region [(ja 34 27 1), (jm 27 34)])))))))
 (.seq (.region [(jm 35 6), (jm 2 35)])
 .ret)))))),
 [.tmp 2]⟩
theorem low_slices_Concat_int : lowFn Tryz.prog movers 115 = some ⟨ir_slices_Concat_int.n, strip ir_slices_Concat_int.body, ir_slices_Concat_int.res⟩ := by kernel_rfl
def ir_slices_Compact_int : IFn := ⟨61,
 (.seq (.region [(jo 2 (.mov (.const (.slice none 0 0))))])
 (.seq (.seq (.region [(jm 6 0), (jt 7 6), (jo 8 (.bin .lss (.tmp 7) (.const (.int .i64 2))))])
 (.cond (.tmp 8)
 (.seq (.region [(jm 9 0), (jm 2 9)])
 .ret)
 .skip))
 (.seq (.seq (.region [(jk 3 1)])
 (.block 0
 (.loop 1152921504606846012
 (.seq (.seq (.region [(jm 10 3), (jm 11 0), (jt 12 11), (jw 13 10 12)])
 (.cond (.tmp 13)
 .skip
 (.exit 0)))
 (.seq (.block 1
 (.seq (.draw (.f (jm 16 0)
 (.f (jm 17 3)
 (.f (jx 18 1 16 17)
 (.f (jl 19 18)
 (.f (jm 20 0)
 (.f (jm 21 3)
 (.f (jo 22 (.bin .sub (.tmp 21) (.const (.int .i64 1))))
 (.f (jx 23 1 20 22)
 (.f (jl 24 23)
 (.f (jo 25 (.bin .eql (.tmp 19) (.tmp 24)))
 .done)))))))))))
 (.cond (.tmp 25)
 (.seq (.region [(jm 26 0), (jm 27 3), (jo 28 (.sls 1 (.tmp 26) (some (.tmp 27)) none none)), (jm 4 28)])
 (.seq (.seq (.region [(jk 5 1)])
 (.block 2
 (.loop 18014397972611112
 (.seq (.seq (.region [(jm 29 5), (jm 30 4), (jt 31 30), (jw 32 29 31)])
 (.cond (.tmp 32)
 .skip
 (.exit 2)))
 (.seq (.block 3
 (.seq (.draw (.f (jm 35 4)
 (.f (jm 36 5)
 (.f (jx 37 1 35 36)
 (.f (jl 38 37)
 (.f (jm 39 4)
 (.f (jm 40 5)
 (.f (jo 41 (.bin .sub (.tmp 40) (.const (.int .i64 1))))
 (.f (jx 42 1 39 41)
 (.f (jl 43 42)
 (.f (jo 44 (.bin .neq (.tmp 38) (.tmp 43)))
 .done)))))))))))
 (.cond (.tmp 44)
 (.seq (.region [(jm 45 0), (jm 46 3), (jm 47 4), (jm 48 5), (jx 49 1 47 48), (jl 50 49), (jx 51 1 45 46), (js 51 50)])
 (.region [(jm 52 3), (ja 53 52 1), (jm 3 53)]))
 .skip)))
 (.region [(jm 33 5), (ja 34 33 1), (jm 5 34)]))))))
 (.seq (.region [(jm 54 0), (jm 55 3), (jo 56 (.sls 1 (.tmp 54) (some (.tmp 55)) none none)),
 ⟨none, .clr [(.int .i64 0)] (.tmp 56), none⟩])
 (.seq (.region [(jm 57 0), (jm 58 3), (jo 59 (.sls 1 (.tmp 57) none (some (.tmp 58)) none)), (jm 2 59)])
 .ret))))
 .skip)))
 (.region [(jm 14 3), (ja 15 14 1), (jm 3 15)]))))))
 (.seq (.region [(jm 60 0), (jm 2 60)])
 .ret)))),
 [.tmp 2]⟩
theorem low_slices_Compact_int : lowFn Tryz.prog movers 117 = some ⟨ir_slices_Compact_int.n, strip ir_slices_Compact_int.body, ir_slices_Compact_int.res⟩ := by kernel_rfl
def ir_slices_Contains_int : IFn := ⟨9,
 (.seq (.region [(jo 4 (.mov (.const (.bool false))))])
 (.seq (.region [(jm 5 0), (jm 6 1), (jC 7 145 5 6), (jo 8 (.bin .geq (.tmp 7) (.const (.int .i64 0)))), (jm 4 8)])
 .ret)),
 [.tmp 4]⟩
theorem low_slices_Contains_int : lowFn Tryz.prog movers 119 = some ⟨ir_slices_Contains_int.n, strip ir_slices_Contains_int.body, ir_slices_Contains_int.res⟩ := by kernel_rfl
def ir_slices_ContainsFunc_int : IFn := ⟨9,
 (.seq (.region [(jo 4 (.mov (.const (.bool false))))])
 (.seq (.region [(jm 5 0), (jm 6 1), (jC 7 162 5 6), (jo 8 (.bin .geq (.tmp 7) (.const (.int .i64 0)))), (jm 4 8)])
 .ret)),
 [.tmp 4]⟩
theorem low_slices_ContainsFunc_int : lowFn Tryz.prog movers 139 = some ⟨ir_slices_ContainsFunc_int.n, strip ir_slices_ContainsFunc_int.body, ir_slices_ContainsFunc_int.res⟩ := by kernel_rfl
def ir_slices_Grow_int : IFn := ⟨27,
 (.seq (.region [(jo 4 (.mov (.const (.slice none 0 0))))])
 (.seq (.seq (.region [(jm 5 1), (jo 6 (.bin .lss (.tmp 5) (.const (.int .i64 0))))])
 (.cond (.tmp 6)
 (.region [(jo 7 (.bad)),
 ⟨none, .bad, none⟩])
 .skip))
 (.seq (.seq (.region [(jm 8 1), (jm 9 0), (jo 10 (.capb (.tmp 9))), (jm 11 0), (jt 12 11), (jo 13 (.bin .sub (.tmp 10) (.tmp 12))), (jo 14 (.bin .sub (.tmp 8) (.tmp 13))),
 (jm 1 14)])
 (.seq (.region [(jm 15 1), (jo 16 (.bin .gtr (.tmp 15) (.const (.int .i64 0))))])
 (.cond (.tmp 16)
 (.region [(jm 17 0), (jm 18 0), (jo 19 (.capb (.tmp 18))), (jo 20 (.sls 1 (.tmp 17) none (some (.tmp 19)) none)), (jm 21 1), (jo 22 (.appz 3 8 [(.int .i64 0)] (.tmp 20) (.tmp 21))),
 (jm 23 0), (jt 24 23), (jo 25 (.sls 1 (.tmp 22) none (some (.tmp 24)) none)), (jm 0 25)])
 .skip)))
 (.seq (.region [(jm 26 0), (jm 4 26)])
 .ret)))),
 [.tmp 4]⟩
theorem low_slices_Grow_int : lowFn Tryz.prog movers 141 = some ⟨ir_slices_Grow_int.n, strip ir_slices_Grow_int.body, ir_slices_Grow_int.res⟩ := by kernel_rfl
def ir_slices_Index_int : IFn := ⟨19,
 (.seq (.region [(jk 4 0)])
 (.seq (.seq (.region [(jm 6 0), (jt 7 6), (jk 8 0)])
 (.block 0
 (.loop 524080
 (.seq (.region [(jw 9 8 7)])
 (.seq (.cond (.tmp 9)
 .skip
 (.exit 0))
 (.seq (.block 1
 (.seq (.region [(jm 10 8), (jm 5 10)])
 (.seq (.region [(jm 11 1), (jm 12 0), (jm 13 5), (jx 14 1 12 13), (jl 15 14), (jo 16 (.bin .eql (.tmp 11) (.tmp 15)))])
 (.cond (.tmp 16)
 (.seq (.region [(jm 17 5), (jm 4 17)])
 .ret)
 .skip))))
 (.region [(ja 18 8 1), (jm 8 18)])))))))
 (.seq (.region [(jo 4 (.mov (.const (.int .i64 (-1)))))])
 .ret))),
 [.tmp 4]⟩
theorem low_slices_Index_int : lowFn Tryz.prog movers 145 = some ⟨ir_slices_Index_int.n, strip ir_slices_Index_int.body, ir_slices_Index_int.res⟩ := by kernel_rfl
def ir_slices_IndexFunc_int : IFn := ⟨19,
 (.seq (.region [(jk 4 0)])
 (.seq (.seq (.region [(jm 6 0), (jt 7 6), (jk 8 0)])
 (.block 0
 (.loop 524080
 (.seq (.region [(jw 9 8 7)])
 (.seq (.cond (.tmp 9)
 .skip
 (.exit 0))
 (.seq (.block 1
 (.seq (.region [(jm 10 8), (jm 5 10)])
 (.seq (.region [(jm 11 1), (jm 12 0), (jm 13 5), (jx 14 1 12 13), (jl 15 14), (jo 16 (.callv (.tmp 11) [(.tmp 15)]))])
 (.cond (.tmp 16)
 (.seq (.region [(jm 17 5), (jm 4 17)])
 .ret)
 .skip))))
 (.region [(ja 18 8 1), (jm 8 18)])))))))
 (.seq (.region [(jo 4 (.mov (.const (.int .i64 (-1)))))])
 .ret))),
 [.tmp 4]⟩
theorem low_slices_IndexFunc_int : lowFn Tryz.prog movers 162 = some ⟨ir_slices_IndexFunc_int.n, strip ir_slices_IndexFunc_int.body, ir_slices_IndexFunc_int.res⟩ := by kernel_rfl
end Go.Proofs.YtkieffpjjfebjaaGreatDoor
namespace Go.Proofs.YtkieffpjjfebjaaGreatDoor
open Go
set_option maxRecDepth 100000
def ir_kit_Place : IFn := ⟨11,
 (.seq (.region [(jk 4 0)])
 (.seq (.region [(jm 5 0), (jo 6 (.conv .u64 (.tmp 5))), (jm 7 1), (jo 8 (.conv .u64 (.tmp 7))), (jo 9 (.bin .rem (.tmp 6) (.tmp 8))), (jo 10 (.conv .i64 (.tmp 9))),
 (jm 4 10)])
 .ret)),
 [.tmp 4]⟩
theorem low_kit_Place : lowFn Tryz.prog movers 12 = some ⟨ir_kit_Place.n, strip ir_kit_Place.body, ir_kit_Place.res⟩ := by kernel_rfl
end Go.Proofs.YtkieffpjjfebjaaGreatDoor
namespace Go.Proofs.YtkieffpjjfebjaaGreatDoor
open Go
set_option maxRecDepth 100000
def ir_sgl_Global_Next : IFn := ⟨49,
 (.seq (.region [(jo 4 (.new 69 (.agg #[.int .i64 0, .int .i64 0, .int .i64 0, .int .i64 0, .int .i64 0]))), (jo 5 (.mov (.const (.bool false))))])
 (.seq (.seq (.region [(jm 6 0), (jo 7 (.nilq false 1 (.tmp 6) (.const (.pointer none)))), (jm 8 7), (jz 8 (jm 9 1)), (jz 8 (jo 10 (.bin .lss (.tmp 9) (.const (.int .i64 0))))),
 (jO 11 8 10), (jm 12 11), (jz 12 (jm 13 1)), (jz 12 (jm 14 0)), (jz 12 (jn 15 14)), (jz 12 (jf 16 16 15)), (jz 12 (jl 17 16)), (jz 12 (jt 18 17)), (jz 12 (jo 19 (.bin .geq (.tmp 13) (.tmp 18)))),
 (jO 20 12 19), (jm 21 20), (jz 21 (jm 22 0)), (jz 21 (jn 23 22)), (jz 21 (jf 24 16 23)), (jz 21 (jl 25 24)), (jz 21 (jm 26 1)), (jz 21 (jx 27 11 25 26)), (jz 21 (jf 28 10 27)),
 (jz 21 (jl 29 28)), (jO 30 21 29)])
 (.cond (.tmp 30)
 (.seq (.region [(jo 31 (.bld [(.int .i64 0), (.int .i64 0), (.int .i64 0), (.int .i64 0), (.int .i64 0)] [])), (jS 5 4 31), (jo 5 (.mov (.const (.bool false))))])
 .ret)
 .skip))
 (.seq (.draw (.f (jm 32 0)
 (.f (jn 33 32)
 (.f (jf 34 15 33)
 (.f (jl 35 34)
 (.f (jm 36 1)
 (.f (jx 37 1 35 36)
 (.f (jl 38 37)
 (.f (jm 39 0)
 (.f (jn 40 39)
 (.f (jf 41 16 40)
 (.f (jl 42 41)
 (.f (jm 43 1)
 (.f (jx 44 11 42 43)
 (.f (jf 45 0 44)
 (.f (jl 46 45)
 (.f (jx 47 5 38 46)
 (.f (jL 48 5 47)
 (.m (jS 5 4 48)
 (.f (jo 5 (.mov (.const (.bool true))))
 .done))))))))))))))))))))
 .ret))),
 [.cellN 4 5, .tmp 5]⟩
theorem low_sgl_Global_Next : lowFn Tryz.prog movers 31 = some ⟨ir_sgl_Global_Next.n, strip ir_sgl_Global_Next.body, ir_sgl_Global_Next.res⟩ := by kernel_rfl
def ir_sgl_Global_Clone : IFn := ⟨45,
 (.seq (.region [(jo 2 (.mov (.const (.pointer none))))])
 (.seq (.region [(jm 6 0), (jn 7 6), (jL 8 20 7), (jo 3 (.new 122 (.agg #[.slice none 0 0, .map none, .int .i64 0, .int .i64 0, .int .i64 0, .int .i64 0, .int .i64 0, .int .i64 0, .int .i64 0, .int .i64 0, .int .i64 0, .int .i64 0, .int .i64 0, .int .i64 0, .bool false, .slice none 0 0, .slice none 0 0, .slice none 0 0, .slice none 0 0, .int .i64 0]))),
 (jS 20 3 8)])
 (.seq (.region [(jm 9 0), (jn 10 9), (jf 11 0 10), (jL 12 2 11), (jc 13 62 12), (jf 14 0 3), (jS 2 14 13)])
 (.seq (.region [(jm 15 0), (jn 16 15), (jf 17 16 16), (jl 18 17), (jc 19 59 18), (jf 20 16 3), (js 20 19)])
 (.seq (.region [(jm 21 0), (jn 22 21), (jf 23 17 22), (jl 24 23), (jc 25 63 24), (jf 26 17 3), (js 26 25)])
 (.seq (.region [(jf 27 18 3),
 ⟨none, .st (.tmp 27) (.const (.slice none 0 0)), none⟩])
 (.seq (.seq (.region [(jm 28 0), (jn 29 28), (jf 30 18 29), (jl 31 30), (jt 32 31), (jk 33 0)])
 (.block 0
 (.loop 35175782154272
 (.seq (.region [(jw 34 33 32)])
 (.seq (.cond (.tmp 34)
 .skip
 (.exit 0))
 (.seq (.block 1
 (.seq (.region [(jx 35 1 31 33), (jl 36 35), (jm 5 36)])
 (.draw (.f (jf 37 18 3)
 (.f (jm 39 5)
 (.both (.f (jl 38 37)
 (.m (jc 40 61 39)
 (.m (jo 41 (.blds 124 1 [(.slice none 0 0)] [(0, 1, (.tmp 40))]))
 (.m (jo 42 (.app 124 1 24 [(.slice none 0 0)] (.tmp 38) (.tmp 41)))
 (.f (jf 43 18 3)
 (.m (js 43 42)
 .done))))))
 (.m (jc 40 61 39)
 (.f (jl 38 37)
 (.m (jo 41 (.blds 124 1 [(.slice none 0 0)] [(0, 1, (.tmp 40))]))
 (.m (jo 42 (.app 124 1 24 [(.slice none 0 0)] (.tmp 38) (.tmp 41)))
 (.f (jf 43 18 3)
 (.m (js 43 42)
 .done))))))))))))
 (.region [(ja 44 33 1), (jm 33 44)])))))))
 (.seq (.region [(jm 2 3)])
 .ret)))))))),
 [.tmp 2]⟩
theorem low_sgl_Global_Clone : lowFn Tryz.prog movers 32 = some ⟨ir_sgl_Global_Clone.n, strip ir_sgl_Global_Clone.body, ir_sgl_Global_Clone.res⟩ := by kernel_rfl
def ir_sgl_Global_Do : IFn := ⟨43,
 (.seq (.region [(jb 3 79 1), (jk 4 0)])
 (.seq (.seq (.region [(jm 7 0), (jo 8 (.nilq false 1 (.tmp 7) (.const (.pointer none))))])
 (.cond (.tmp 8)
 (.seq (.region [(jk 4 1)])
 .ret)
 .skip))
 (.seq (.region [(jm 10 0), (jf 11 0 3), (jl 12 11), (jC 13 31 10 12), (jm 9 13), (je 14 9 0), (je 15 9 1), (jo 5 (.new 69 (.agg #[.int .i64 0, .int .i64 0, .int .i64 0, .int .i64 0, .int .i64 0]))),
 (jS 5 5 14), (jm 6 15)])
 (.seq (.seq (.region [(jm 16 6), (jo 17 (.not (.tmp 16)))])
 (.cond (.tmp 17)
 (.seq (.region [(jk 4 70)])
 .ret)
 .skip))
 (.seq (.seq (.region [(jf 18 0 5), (jl 19 18), (jq 20 19 7)])
 (.cond (.tmp 20)
 (.region [(jm 21 0), (jL 22 3 3), (jC 23 65 21 22), (jm 6 23)])
 (.region [(jf 24 2 3), (jl 25 24), (jt 26 25), (jq 27 26 0), (jm 28 27), (jy 28 (jm 29 0)), (jy 28 (jL 30 3 3)), (jy 28 (jL 31 5 5)), (jy 28 (jo 32 (.call 66 [(.tmp 29), (.tmp 30), (.tmp 31)]))),
 (jA 33 28 32), (jm 6 33)])))
 (.seq (.seq (.region [(jm 34 6), (jo 35 (.not (.tmp 34)))])
 (.cond (.tmp 35)
 (.seq (.region [(jk 4 70)])
 .ret)
 .skip))
 (.seq (.region [(jm 36 0), (jn 37 36), (jf 38 19 37), (jl 39 38), (ja 40 39 1), (jn 41 36), (jf 42 19 41), (js 42 40)])
 (.seq (.region [(jk 4 0)])
 .ret)))))))),
 [.tmp 4]⟩
theorem low_sgl_Global_Do : lowFn Tryz.prog movers 34 = some ⟨ir_sgl_Global_Do.n, strip ir_sgl_Global_Do.body, ir_sgl_Global_Do.res⟩ := by kernel_rfl
def ir_sgl_memory_clone : IFn := ⟨10,
 (.seq (.region [(jb 1 120 0), (jo 2 (.new 120 (.agg #[.slice none 0 0, .map none])))])
 (.seq (.draw (.f (jf 3 0 1)
 (.f (jl 4 3)
 (.f (jf 6 1 1)
 (.both (.m (jc 5 58 4)
 (.f (jl 7 6)
 (.m (jc 8 88 7)
 (.f (jo 9 (.bld [(.slice none 0 0), (.map none)] [(0, 1, (.tmp 5)), (1, 1, (.tmp 8))]))
 (.m (jS 2 2 9)
 .done)))))
 (.f (jl 7 6)
 (.m (jc 5 58 4)
 (.m (jc 8 88 7)
 (.f (jo 9 (.bld [(.slice none 0 0), (.map none)] [(0, 1, (.tmp 5)), (1, 1, (.tmp 8))]))
 (.m (jS 2 2 9)
 .done))))))))))
 .ret)),
 [.cellN 2 2]⟩
theorem low_sgl_memory_clone : lowFn Tryz.prog movers 62 = some ⟨ir_sgl_memory_clone.n, strip ir_sgl_memory_clone.body, ir_sgl_memory_clone.res⟩ := by kernel_rfl
def ir_sgl_Global_single : IFn := ⟨48,
 (.seq (.region [(jb 4 79 1), (jb 5 69 2), (jo 6 (.mov (.const (.bool false))))])
 (.seq (.seq (.region [(jf 8 0 5), (jl 9 8), (jq 10 9 12), (jm 11 10), (jz 11 (jf 12 0 5)), (jz 11 (jl 13 12)), (jz 11 (jq 14 13 13)), (jO 15 11 14)])
 (.cond (.tmp 15)
 (.seq (.region [(jm 16 0), (jL 17 3 4), (jL 18 5 5), (jo 19 (.call 94 [(.tmp 16), (.tmp 17), (.tmp 18)])), (jm 6 19)])
 .ret)
 .skip))
 (.seq (.seq (.region [(jf 20 1 4), (jl 21 20), (jo 22 (.bin .neq (.tmp 21) (.const (.int .i64 0))))])
 (.cond (.tmp 22)
 (.seq (.region [(jo 6 (.mov (.const (.bool false))))])
 .ret)
 .skip))
 (.seq (.draw (.f (jm 23 0)
 (.f (jn 24 23)
 (.f (jf 25 16 24)
 (.f (jl 26 25)
 (.f (jf 27 0 4)
 (.f (jl 28 27)
 (.f (jx 29 11 26 28)
 (.f (jm 7 29)
 .done)))))))))
 (.seq (.seq (.region [(jf 30 0 5), (jl 31 30), (jq 32 31 16)])
 (.cond (.tmp 32)
 (.draw (.f (jm 33 0)
 (.f (jf 34 0 4)
 (.f (jl 35 34)
 (.f (jm 36 7)
 (.f (jn 37 36)
 (.f (jf 38 0 37)
 (.f (jl 39 38)
 (.m (jo 40 (.call 91 [(.tmp 33), (.tmp 35), (.tmp 39), (.const (.int .i64 6)), (.const (.int .u64 0))]))
 .done)))))))))
 .skip))
 (.seq (.draw (.f (jm 41 0)
 (.f (jf 42 0 4)
 (.f (jm 44 7)
 (.f (jL 45 5 5)
 (.both (.f (jl 43 42)
 (.m (jC 46 95 44 45)
 (.m (jo 47 (.call 92 [(.tmp 41), (.tmp 43), (.tmp 46)]))
 .done)))
 (.m (jC 46 95 44 45)
 (.f (jl 43 42)
 (.m (jo 47 (.call 92 [(.tmp 41), (.tmp 43), (.tmp 46)]))
 .done)))))))))
 (.seq (.region [(jo 6 (.mov (.const (.bool true))))])
 .ret))))))),
 [.tmp 6]⟩
theorem low_sgl_Global_single : lowFn Tryz.prog movers 66 = some ⟨ir_sgl_Global_single.n, strip ir_sgl_Global_single.body, ir_sgl_Global_single.res⟩ := by kernel_rfl
def ir_sgl_transaction_run : IFn := ⟨36,
 (.seq (.region [(jo 4 (.mov (.const (.bool false))))])
 (.seq (.region [(jm 5 0), (jn 6 5), (jf 7 15 6), (jf 8 0 7), (jl 9 8), (ja 10 9 1), (jn 11 5), (jf 12 15 11), (jf 13 0 12), (js 13 10)])
 (.seq (.block 0
 (.loop 1073725456
 (.seq (.seq (.region [(jm 14 0), (jn 15 14), (jf 16 30 15), (jl 17 16), (jq 18 17 0)])
 (.cond (.tmp 18)
 .skip
 (.exit 0)))
 (.block 1
 (.seq (.region [(jm 19 0), (jm 20 1), (jm 21 0), (jn 22 21), (jf 23 15 22), (jf 24 0 23), (jl 25 24), (jx 26 5 20 25), (jL 27 5 26), (jC 28 121 19 27), (jo 29 (.not (.tmp 28)))])
 (.cond (.tmp 29)
 (.seq (.region [(jo 4 (.mov (.const (.bool false))))])
 .ret)
 .skip))))))
 (.seq (.region [(jm 30 0), (jn 31 30), (jf 32 26 31), (jl 33 32), (jt 34 33), (jq 35 34 0), (jm 4 35)])
 .ret)))),
 [.tmp 4]⟩
theorem low_sgl_transaction_run : lowFn Tryz.prog movers 89 = some ⟨ir_sgl_transaction_run.n, strip ir_sgl_transaction_run.body, ir_sgl_transaction_run.res⟩ := by kernel_rfl
def ir_sgl_Global_commit : IFn := ⟨67,
 (.seq (.region [(jm 7 1), (jm 8 2), (jn 9 8), (jf 10 27 9), (jl 11 10), (jo 12 (.bld [(.int .i64 0), (.int .i64 0), (.int .i64 0), (.int .i64 0), (.slice none 0 0), (.slice none 0 0)] [(1, 1, (.tmp 7)), (2, 1, (.const (.int .i64 4))), (4, 1, (.tmp 11))])),
 (jo 6 (.new 116 (.agg #[.int .i64 0, .int .i64 0, .int .i64 0, .int .i64 0, .slice none 0 0, .slice none 0 0]))), (jS 6 6 12)])
 (.seq (.seq (.region [(jm 13 2), (jn 14 13), (jf 15 30 14), (jl 16 15), (jq 17 16 1)])
 (.cond (.tmp 17)
 (.seq (.region [(jm 18 0), (jm 19 2), (jn 20 19), (jf 21 0 20), (jL 22 2 21), (jn 23 18), (jf 24 0 23), (jS 2 24 22)])
 (.seq (.draw (.f (jm 25 0)
 (.f (jn 26 25)
 (.f (jf 27 16 26)
 (.f (jl 28 27)
 (.f (jm 29 1)
 (.f (jm 30 2)
 (.f (jn 31 30)
 (.f (jf 32 15 31)
 (.f (jf 33 1 32)
 (.f (jL 34 8 33)
 (.f (jx 35 11 28 29)
 (.f (jf 36 1 35)
 (.m (jS 8 36 34)
 .done))))))))))))))
 (.seq (.draw (.f (jm 37 0)
 (.f (jn 38 37)
 (.f (jf 39 18 38)
 (.f (jm 41 1)
 (.f (jm 42 0)
 (.f (jn 43 42)
 (.f (jf 44 18 43)
 (.f (jl 45 44)
 (.f (jm 46 1)
 (.f (jx 47 1 45 46)
 (.f (jl 48 47)
 (.f (jm 49 2)
 (.f (jn 50 49)
 (.f (jf 51 29 50)
 (.f (jl 52 51)
 (.both (.f (jl 40 39)
 (.m (jo 53 (.app 127 3 24 [(.int .i64 0), (.int .i64 0), (.int .u64 0)] (.tmp 48) (.tmp 52)))
 (.f (jx 54 1 40 41)
 (.m (js 54 53)
 .done))))
 (.m (jo 53 (.app 127 3 24 [(.int .i64 0), (.int .i64 0), (.int .u64 0)] (.tmp 48) (.tmp 52)))
 (.f (jl 40 39)
 (.f (jx 54 1 40 41)
 (.m (js 54 53)
 .done)))))))))))))))))))))
 (.region [(jm 55 2), (jn 56 55), (jf 57 28 56), (jl 58 57), (jf 59 5 6), (js 59 58)]))))
 .skip))
 (.seq (.region [(jm 60 0), (jm 61 1), (jo 62 (.bld [(.int .i64 0), (.int .i64 0), (.int .i64 0), (.int .i64 0), (.slice none 0 0), (.slice none 0 0)] [(1, 1, (.tmp 61)), (2, 1, (.const (.int .i64 3)))])),
 (jC 63 122 60 62)])
 (.region [(jm 64 0), (jL 65 6 6), (jC 66 122 64 65)])))),
 []⟩
theorem low_sgl_Global_commit : lowFn Tryz.prog movers 90 = some ⟨ir_sgl_Global_commit.n, strip ir_sgl_Global_commit.body, ir_sgl_Global_commit.res⟩ := by kernel_rfl
def ir_sgl_Global_observe : IFn := ⟨29,
 (.draw (.f (jm 10 0)
 (.f (jn 11 10)
 (.f (jf 12 18 11)
 (.f (jm 14 1)
 (.f (jm 15 0)
 (.f (jn 16 15)
 (.f (jf 17 18 16)
 (.f (jl 18 17)
 (.f (jm 19 1)
 (.f (jx 20 1 18 19)
 (.f (jl 21 20)
 (.f (jm 22 2)
 (.f (jm 23 3)
 (.f (jm 24 4)
 (.f (jo 25 (.bld [(.int .i64 0), (.int .i64 0), (.int .u64 0)] [(0, 1, (.tmp 22)), (1, 1, (.tmp 23)), (2, 1, (.tmp 24))]))
 (.both (.f (jl 13 12)
 (.m (jo 26 (.blds 127 1 [(.int .i64 0), (.int .i64 0), (.int .u64 0)] [(0, 3, (.tmp 25))]))
 (.m (jo 27 (.app 127 3 24 [(.int .i64 0), (.int .i64 0), (.int .u64 0)] (.tmp 21) (.tmp 26)))
 (.f (jx 28 1 13 14)
 (.m (js 28 27)
 .done)))))
 (.m (jo 26 (.blds 127 1 [(.int .i64 0), (.int .i64 0), (.int .u64 0)] [(0, 3, (.tmp 25))]))
 (.both (.f (jl 13 12)
 (.m (jo 27 (.app 127 3 24 [(.int .i64 0), (.int .i64 0), (.int .u64 0)] (.tmp 21) (.tmp 26)))
 (.f (jx 28 1 13 14)
 (.m (js 28 27)
 .done))))
 (.m (jo 27 (.app 127 3 24 [(.int .i64 0), (.int .i64 0), (.int .u64 0)] (.tmp 21) (.tmp 26)))
 (.f (jl 13 12)
 (.f (jx 28 1 13 14)
 (.m (js 28 27)
 .done))))))))))))))))))))))),
 []⟩
theorem low_sgl_Global_observe : lowFn Tryz.prog movers 91 = some ⟨ir_sgl_Global_observe.n, strip ir_sgl_Global_observe.body, ir_sgl_Global_observe.res⟩ := by kernel_rfl
def ir_sgl_Global_to : IFn := ⟨31,
 (.draw (.f (jm 6 0)
 (.f (jn 7 6)
 (.f (jf 8 16 7)
 (.f (jl 9 8)
 (.f (jm 10 1)
 (.f (jm 11 0)
 (.f (jn 12 11)
 (.f (jf 13 16 12)
 (.f (jl 14 13)
 (.f (jm 15 1)
 (.f (jm 16 2)
 (.f (jm 17 2)
 (.f (jm 18 0)
 (.f (jn 19 18)
 (.f (jf 20 15 19)
 (.f (jl 21 20)
 (.f (jm 22 1)
 (.f (jx 23 1 21 22)
 (.f (jl 24 23)
 (.f (jt 25 24)
 (.f (jo 26 (.bin .eql (.tmp 17) (.tmp 25)))
 (.f (jx 27 11 9 10)
 (.f (jf 28 0 27)
 (.m (js 28 16)
 (.f (jx 29 11 14 15)
 (.f (jf 30 10 29)
 (.m (js 30 26)
 .done)))))))))))))))))))))))))))),
 []⟩
theorem low_sgl_Global_to : lowFn Tryz.prog movers 92 = some ⟨ir_sgl_Global_to.n, strip ir_sgl_Global_to.body, ir_sgl_Global_to.res⟩ := by kernel_rfl
def ir_sgl_local : IFn := ⟨110,
 (.seq (.region [(jb 3 69 1), (jk 4 0)])
 (.seq (.region [(jm 7 0), (jn 8 7), (jf 9 1 8), (jm 5 9)])
 (.seq (.region [(jm 10 0), (jn 11 10), (jf 12 0 11), (jl 13 12), (ja 14 13 1), (jm 6 14)])
 (.seq (.seq (.region [(jf 15 0 3), (jl 16 15)])
 (.block 0
 (.seq (.region [(jq 18 16 1), (jm 17 18)])
 (.cond (.tmp 17)
 (.draw (.f (jm 19 5)
 (.f (jf 20 1 3)
 (.f (jl 21 20)
 (.f (jf 22 4 3)
 (.f (jl 23 22)
 (.f (jo 24 (.conv .u64 (.tmp 23)))
 (.f (jn 25 19)
 (.f (jo 26 (.ixa 8 1 (.tmp 25) (.tmp 21)))
 (.m (js 26 24)
 .done))))))))))
 (.seq (.region [(jq 28 16 2), (jm 27 28)])
 (.cond (.tmp 27)
 (.draw (.f (jm 29 5)
 (.f (jf 30 1 3)
 (.f (jl 31 30)
 (.f (jm 32 5)
 (.f (jf 33 2 3)
 (.f (jl 34 33)
 (.f (jn 35 32)
 (.f (jo 36 (.ixa 8 1 (.tmp 35) (.tmp 34)))
 (.f (jl 37 36)
 (.f (jn 38 29)
 (.f (jo 39 (.ixa 8 1 (.tmp 38) (.tmp 31)))
 (.m (js 39 37)
 .done)))))))))))))
 (.seq (.region [(jq 41 16 3), (jm 40 41)])
 (.cond (.tmp 40)
 (.draw (.f (jm 43 5)
 (.f (jf 44 1 3)
 (.f (jl 45 44)
 (.f (jf 46 4 3)
 (.f (jl 47 46)
 (.f (jm 48 5)
 (.f (jf 49 2 3)
 (.f (jl 50 49)
 (.f (jn 51 48)
 (.f (jo 52 (.ixa 8 1 (.tmp 51) (.tmp 50)))
 (.f (jl 53 52)
 (.f (jm 54 5)
 (.f (jf 55 3 3)
 (.f (jl 56 55)
 (.f (jn 57 54)
 (.f (jo 58 (.ixa 8 1 (.tmp 57) (.tmp 56)))
 (.f (jl 59 58)
 (.f (jo 60 (.call 127 [(.tmp 47), (.tmp 53), (.tmp 59)]))
 (.f (jm 42 60)
 (.f (je 61 42 0)
 (.f (je 62 42 1)
 (.f (jn 63 43)
 (.f (jo 64 (.ixa 8 1 (.tmp 63) (.tmp 45)))
 (.m (js 64 61)
 .done)))))))))))))))))))))))))
 (.seq (.region [(jq 66 16 17), (jm 65 66)])
 (.cond (.tmp 65)
 (.draw (.f (jm 67 5)
 (.f (jf 68 1 3)
 (.f (jl 69 68)
 (.f (jm 70 0)
 (.f (jn 71 70)
 (.f (jf 72 9 71)
 (.f (jl 73 72)
 (.f (jo 74 (.conv .u64 (.tmp 73)))
 (.f (jn 75 67)
 (.f (jo 76 (.ixa 8 1 (.tmp 75) (.tmp 69)))
 (.m (js 76 74)
 .done))))))))))))
 (.seq (.region [(jq 78 16 4), (jm 77 78)])
 (.cond (.tmp 77)
 (.region [(jm 79 6), (jf 80 4 3), (jl 81 80), (jo 82 (.bin .add (.tmp 79) (.tmp 81))), (jm 6 82)])
 (.seq (.region [(jq 84 16 5), (jm 83 84)])
 (.cond (.tmp 83)
 (.seq (.draw (.f (jm 85 5)
 (.f (jf 86 1 3)
 (.f (jl 87 86)
 (.f (jn 88 85)
 (.f (jo 89 (.ixa 8 1 (.tmp 88) (.tmp 87)))
 (.f (jl 90 89)
 (.f (jo 91 (.bin .eql (.tmp 90) (.const (.int .u64 0))))
 .done))))))))
 (.cond (.tmp 91)
 (.region [(jm 92 6), (jf 93 4 3), (jl 94 93), (jo 95 (.bin .add (.tmp 92) (.tmp 94))), (jm 6 95)])
 .skip))
 (.seq (.region [(jq 97 16 6), (jm 96 97)])
 (.cond (.tmp 96)
 (.seq (.draw (.f (jm 98 5)
 (.f (jf 99 1 3)
 (.f (jl 100 99)
 (.f (jn 101 98)
 (.f (jo 102 (.ixa 8 1 (.tmp 101) (.tmp 100)))
 (.f (jl 103 102)
 (.f (jo 104 (.bin .neq (.tmp 103) (.const (.int .u64 0))))
 .done))))))))
 (.cond (.tmp 104)
 (.region [(jm 105 6), (jf 106 4 3), (jl 107 106), (jo 108 (.bin .add (.tmp 105) (.tmp 107))), (jm 6 108)])
 .skip))
 .skip))))))))))))))))
 (.seq (.region [(jm 109 6), (jm 4 109)])
 .ret))))),
 [.tmp 4]⟩
theorem low_sgl_local : lowFn Tryz.prog movers 95 = some ⟨ir_sgl_local.n, strip ir_sgl_local.body, ir_sgl_local.res⟩ := by kernel_rfl
def ir_sgl_transaction_step : IFn := ⟨51,
 (.seq (.region [(jb 3 69 1), (jo 4 (.mov (.const (.bool false))))])
 (.seq (.region [(jm 6 0), (jn 7 6), (jf 8 15 7), (jf 9 0 8), (jl 10 9), (ja 11 10 1), (jm 5 11)])
 (.seq (.seq (.region [(jf 12 0 3), (jl 13 12)])
 (.block 0
 (.seq (.seq (.region [(jq 20 13 10), (jm 19 20)])
 (.cond (.tmp 19)
 .skip
 (.region [(jq 21 13 11), (jm 19 21)])))
 (.cond (.tmp 19)
 (.region [(jm 22 0), (jL 23 5 3), (jC 24 146 22 23)])
 (.seq (.region [(jq 26 13 14), (jm 25 26)])
 (.cond (.tmp 25)
 (.seq (.region [(jm 27 0), (jL 28 5 3), (jC 29 147 27 28), (jo 30 (.not (.tmp 29)))])
 (.cond (.tmp 30)
 (.seq (.region [(jo 4 (.mov (.const (.bool false))))])
 .ret)
 .skip))
 (.seq (.region [(jq 32 13 15), (jm 31 32)])
 (.cond (.tmp 31)
 (.region [(jm 33 0), (jL 34 5 3), (jC 35 148 33 34)])
 (.seq (.region [(jq 37 13 8), (jm 36 37)])
 (.cond (.tmp 36)
 (.region [(jm 38 0), (jn 39 38), (jf 40 30 39),
 ⟨none, .st (.tmp 40) (.const (.int .i64 1)), none⟩])
 (.seq (.region [(jq 42 13 9), (jm 41 42)])
 (.cond (.tmp 41)
 (.region [(jm 43 0), (jn 44 43), (jf 45 30 44),
 ⟨none, .st (.tmp 45) (.const (.int .i64 2)), none⟩])
 (.draw (.f (jm 14 0)
 (.f (jn 15 14)
 (.f (jf 16 15 15)
 (.f (jL 17 5 3)
 (.m (jC 18 95 16 17)
 (.f (jm 5 18)
 .done)))))))))))))))))))
 (.seq (.region [(jm 46 0), (jm 47 5), (jn 48 46), (jf 49 15 48), (jf 50 0 49), (js 50 47)])
 (.seq (.region [(jo 4 (.mov (.const (.bool true))))])
 .ret))))),
 [.tmp 4]⟩
theorem low_sgl_transaction_step : lowFn Tryz.prog movers 121 = some ⟨ir_sgl_transaction_step.n, strip ir_sgl_transaction_step.body, ir_sgl_transaction_step.res⟩ := by kernel_rfl
def ir_sgl_Global_event : IFn := ⟨19,
 (.seq (.region [(jb 3 116 1)])
 (.seq (.region [(jm 4 0), (jn 5 4), (jf 6 19 5), (jl 7 6), (jf 8 0 3), (js 8 7)])
 (.draw (.f (jm 9 0)
 (.f (jm 10 0)
 (.f (jn 11 10)
 (.f (jf 12 17 11)
 (.f (jl 13 12)
 (.f (jL 14 6 3)
 (.m (jo 15 (.blds 116 1 [(.int .i64 0), (.int .i64 0), (.int .i64 0), (.int .i64 0), (.slice none 0 0), (.slice none 0 0)] [(0, 6, (.tmp 14))]))
 (.m (jo 16 (.app 116 6 80 [(.int .i64 0), (.int .i64 0), (.int .i64 0), (.int .i64 0), (.slice none 0 0), (.slice none 0 0)] (.tmp 13) (.tmp 15)))
 (.f (jn 17 9)
 (.f (jf 18 17 17)
 (.m (js 18 16)
 .done)))))))))))))),
 []⟩
theorem low_sgl_Global_event : lowFn Tryz.prog movers 122 = some ⟨ir_sgl_Global_event.n, strip ir_sgl_Global_event.body, ir_sgl_Global_event.res⟩ := by kernel_rfl
def ir_sgl_address : IFn := ⟨35,
 (.seq (.region [(jb 3 69 1), (jo 4 (.mov (.const (.int .u64 0))))])
 (.seq (.seq (.region [(jf 5 0 3), (jl 6 5), (jq 7 6 12), (jm 8 7), (jz 8 (jf 9 0 3)), (jz 8 (jl 10 9)), (jz 8 (jq 11 10 10)), (jO 12 8 11)])
 (.cond (.tmp 12)
 (.seq (.draw (.f (jm 13 0)
 (.f (jf 14 2 3)
 (.f (jl 15 14)
 (.f (jn 16 13)
 (.f (jf 17 1 16)
 (.f (jo 18 (.ixa 8 1 (.tmp 17) (.tmp 15)))
 (.f (jl 19 18)
 (.f (jf 20 4 3)
 (.f (jl 21 20)
 (.f (jo 22 (.conv .u64 (.tmp 21)))
 (.f (jo 23 (.bin .add (.tmp 19) (.tmp 22)))
 (.f (jm 4 23)
 .done)))))))))))))
 .ret)
 .skip))
 (.seq (.draw (.f (jm 24 0)
 (.f (jf 25 1 3)
 (.f (jl 26 25)
 (.f (jn 27 24)
 (.f (jf 28 1 27)
 (.f (jo 29 (.ixa 8 1 (.tmp 28) (.tmp 26)))
 (.f (jl 30 29)
 (.f (jf 31 4 3)
 (.f (jl 32 31)
 (.f (jo 33 (.conv .u64 (.tmp 32)))
 (.f (jo 34 (.bin .add (.tmp 30) (.tmp 33)))
 (.f (jm 4 34)
 .done)))))))))))))
 .ret))),
 [.tmp 4]⟩
theorem low_sgl_address : lowFn Tryz.prog movers 125 = some ⟨ir_sgl_address.n, strip ir_sgl_address.body, ir_sgl_address.res⟩ := by kernel_rfl
def ir_sgl_Global_access : IFn := ⟨38,
 (.seq (.seq (.region [(jm 9 0), (jn 10 9), (jf 11 2 10), (jf 12 12 11), (jl 13 12), (jo 14 (.not (.tmp 13)))])
 (.cond (.tmp 14)
 (.seq (.region [(jm 15 0), (jm 16 1), (jm 17 3), (jm 18 2), (jo 19 (.bld [(.int .i64 0), (.int .i64 0), (.int .i64 0), (.int .i64 0), (.slice none 0 0), (.slice none 0 0)] [(1, 1, (.tmp 16)), (2, 1, (.tmp 17)), (3, 1, (.tmp 18))])),
 (jC 20 122 15 19)])
 .ret)
 .skip))
 (.seq (.region [(jm 21 1), (jo 22 (.bld [(.int .i64 0), (.int .i64 0), (.int .i64 0), (.int .i64 0), (.slice none 0 0), (.slice none 0 0)] [(1, 1, (.tmp 21)), (2, 1, (.const (.int .i64 4)))])),
 (jo 8 (.new 116 (.agg #[.int .i64 0, .int .i64 0, .int .i64 0, .int .i64 0, .slice none 0 0, .slice none 0 0]))), (jS 6 8 22)])
 (.seq (.seq (.region [(jm 23 3), (jq 24 23 1)])
 (.cond (.tmp 24)
 (.region [(jm 25 2), (jo 26 (.blds 3 1 [(.int .i64 0)] [(0, 1, (.tmp 25))])), (jf 27 4 8), (js 27 26)])
 (.region [(jm 28 2), (jo 29 (.blds 3 1 [(.int .i64 0)] [(0, 1, (.tmp 28))])), (jf 30 5 8), (js 30 29)])))
 (.seq (.region [(jm 31 0), (jm 32 1), (jo 33 (.bld [(.int .i64 0), (.int .i64 0), (.int .i64 0), (.int .i64 0), (.slice none 0 0), (.slice none 0 0)] [(1, 1, (.tmp 32)), (2, 1, (.const (.int .i64 3)))])),
 (jC 34 122 31 33)])
 (.region [(jm 35 0), (jL 36 6 8), (jC 37 122 35 36)]))))),
 []⟩
theorem low_sgl_Global_access : lowFn Tryz.prog movers 126 = some ⟨ir_sgl_Global_access.n, strip ir_sgl_Global_access.body, ir_sgl_Global_access.res⟩ := by kernel_rfl
def ir_sgl_transaction_access : IFn := ⟨76,
 (.seq (.region [(jb 3 69 1)])
 (.seq (.draw (.f (jm 6 0)
 (.f (jn 7 6)
 (.f (jf 8 15 7)
 (.f (jL 9 5 3)
 (.f (jC 10 125 8 9)
 (.f (jm 4 10)
 .done)))))))
 (.seq (.seq (.region [(jm 11 4), (jm 12 0), (jn 13 12), (jf 14 2 13), (jf 15 0 14), (jl 16 15), (jo 17 (.conv .u64 (.tmp 16))), (jo 18 (.bin .geq (.tmp 11) (.tmp 17)))])
 (.cond (.tmp 18)
 (.seq (.region [(jm 19 0), (jn 20 19), (jf 21 30 20),
 ⟨none, .st (.tmp 21) (.const (.int .i64 7)), none⟩])
 .ret)
 .skip))
 (.seq (.region [(jm 22 4), (jo 23 (.conv .i64 (.tmp 22))), (jm 5 23)])
 (.seq (.seq (.region [(jf 24 0 3), (jl 25 24), (jq 26 25 11)])
 (.cond (.tmp 26)
 (.seq (.draw (.f (jm 27 0)
 (.f (jm 28 5)
 (.f (jm 29 0)
 (.f (jf 30 2 3)
 (.f (jl 31 30)
 (.f (jn 32 29)
 (.f (jf 33 15 32)
 (.f (jf 34 1 33)
 (.f (jo 35 (.ixa 8 1 (.tmp 34) (.tmp 31)))
 (.f (jl 36 35)
 (.m (jo 37 (.call 175 [(.tmp 27), (.tmp 28), (.tmp 36)]))
 .done))))))))))))
 .ret)
 .skip))
 (.seq (.seq (.region [(jm 38 0), (jn 39 38), (jf 40 28 39), (jl 41 40), (jm 42 5), (jC 43 119 41 42), (jo 44 (.not (.tmp 43))), (jm 45 44), (jy 45 (jm 46 0)), (jy 45 (jn 47 46)),
 (jy 45 (jf 48 27 47)), (jy 45 (jl 49 48)), (jy 45 (jm 50 5)), (jy 45 (jC 51 119 49 50)), (jy 45 (jo 52 (.not (.tmp 51)))), (jA 53 45 52)])
 (.cond (.tmp 53)
 (.region [(jm 54 0), (jm 55 0), (jn 56 55), (jf 57 27 56), (jl 58 57), (jm 59 5), (jo 60 (.blds 3 1 [(.int .i64 0)] [(0, 1, (.tmp 59))])), (jo 61 (.app 3 1 8 [(.int .i64 0)] (.tmp 58) (.tmp 60))),
 (jn 62 54), (jf 63 27 62), (js 63 61)])
 .skip))
 (.draw (.f (jm 64 0)
 (.f (jf 65 1 3)
 (.f (jl 66 65)
 (.f (jm 67 0)
 (.f (jn 68 67)
 (.f (jf 69 0 68)
 (.f (jf 70 0 69)
 (.f (jl 71 70)
 (.f (jm 72 5)
 (.f (jx 73 1 71 72)
 (.f (jl 74 73)
 (.m (jo 75 (.call 176 [(.tmp 64), (.tmp 66), (.const (.int .i64 1)), (.tmp 74)]))
 .done))))))))))))))))))),
 []⟩
theorem low_sgl_transaction_access : lowFn Tryz.prog movers 146 = some ⟨ir_sgl_transaction_access.n, strip ir_sgl_transaction_access.body, ir_sgl_transaction_access.res⟩ := by kernel_rfl
def ir_sgl_transaction_alloc : IFn := ⟨90,
 (.seq (.region [(jb 3 69 1), (jo 4 (.mov (.const (.bool false))))])
 (.seq (.seq (.region [(jm 8 0), (jn 9 8), (jf 10 26 9), (jl 11 10), (jt 12 11), (jq 13 12 0), (jm 14 13), (jz 14 (jm 15 0)), (jz 14 (jn 16 15)), (jz 14 (jf 17 26 16)),
 (jz 14 (jl 18 17)), (jz 14 (jo 19 (.ixs 1 (.tmp 18) (.const (.int .i64 0))))), (jz 14 (jl 20 19)), (jz 14 (jo 21 (.bin .lss (.tmp 20) (.const (.int .i64 0))))),
 (jO 22 14 21)])
 (.cond (.tmp 22)
 (.seq (.region [(jo 4 (.mov (.const (.bool false))))])
 .ret)
 .skip))
 (.seq (.region [(jm 23 0), (jn 24 23), (jf 25 26 24), (jl 26 25), (jo 27 (.ixs 1 (.tmp 26) (.const (.int .i64 0)))), (jl 28 27), (jm 5 28)])
 (.seq (.region [(jm 29 0), (jm 30 0), (jn 31 30), (jf 32 26 31), (jl 33 32), (jo 34 (.sls 1 (.tmp 33) (some (.const (.int .i64 1))) none none)), (jn 35 29), (jf 36 26 35),
 (js 36 34)])
 (.seq (.region [(jm 37 0), (jn 38 37), (jf 39 2 38), (jL 40 13 39), (jm 41 5), (jo 42 (.conv .u64 (.tmp 41))), (jC 43 177 40 42), (jm 6 43)])
 (.seq (.seq (.draw (.f (jm 44 6)
 (.f (jo 45 (.bin .lss (.tmp 44) (.const (.int .i64 0))))
 (.f (jm 46 45)
 (.f (jz 46 (jm 47 0))
 (.f (jz 46 (jn 48 47))
 (.f (jz 46 (jf 49 2 48))
 (.f (jz 46 (jL 50 13 49))
 (.f (jz 46 (jm 51 6))
 (.f (jz 46 (jC 52 178 50 51))
 (.f (jz 46 (jf 53 4 3))
 (.f (jz 46 (jl 54 53))
 (.f (jz 46 (jo 55 (.bin .neq (.tmp 52) (.tmp 54))))
 (.f (jO 56 46 55)
 (.f (jm 57 56)
 (.f (jz 57 (jm 58 0))
 (.f (jz 57 (jn 59 58))
 (.f (jz 57 (jf 60 0 59))
 (.f (jz 57 (jf 61 1 60))
 (.f (jz 57 (jl 62 61))
 (.f (jz 57 (jm 63 6))
 (.f (jz 57 (jo 64 (.mlk 0 (.bool false) false (.tmp 62) (.tmp 63))))
 (.f (jO 65 57 64)
 .done)))))))))))))))))))))))
 (.cond (.tmp 65)
 (.seq (.region [(jo 4 (.mov (.const (.bool false))))])
 .ret)
 .skip))
 (.seq (.region [(jm 66 0), (jn 67 66), (jf 68 0 67), (jf 69 1 68), (jl 70 69), (jm 71 6),
 ⟨none, .mup 0 (.tmp 70) (.tmp 71) (.const (.bool true)), none⟩])
 (.seq (.seq (.region [(jf 72 4 3), (jl 73 72), (jo 74 (.bin .shl (.const (.int .i64 1)) (.tmp 73))), (jk 75 0)])
 (.block 0
 (.loop 19305034181971109633589376
 (.seq (.region [(jw 76 75 74)])
 (.seq (.cond (.tmp 76)
 .skip
 (.exit 0))
 (.seq (.block 1
 (.seq (.region [(jm 77 75), (jm 7 77)])
 (.region [(jm 78 0), (jm 79 5), (jm 80 7), (jo 81 (.bin .add (.tmp 79) (.tmp 80))), (jo 82 (.call 175 [(.tmp 78), (.tmp 81), (.const (.int .u64 0))]))])))
 (.region [(ja 83 75 1), (jm 75 83)])))))))
 (.seq (.region [(jm 84 0), (jf 85 1 3), (jl 86 85), (jm 87 5), (jo 88 (.conv .u64 (.tmp 87))), (jo 89 (.call 176 [(.tmp 84), (.tmp 86), (.const (.int .i64 2)), (.tmp 88)]))])
 (.seq (.region [(jo 4 (.mov (.const (.bool true))))])
 .ret)))))))))),
 [.tmp 4]⟩
theorem low_sgl_transaction_alloc : lowFn Tryz.prog movers 147 = some ⟨ir_sgl_transaction_alloc.n, strip ir_sgl_transaction_alloc.body, ir_sgl_transaction_alloc.res⟩ := by kernel_rfl
def ir_sgl_transaction_free : IFn := ⟨39,
 (.seq (.region [(jb 3 69 1)])
 (.seq (.draw (.f (jm 5 0)
 (.f (jn 6 5)
 (.f (jf 7 2 6)
 (.f (jL 8 13 7)
 (.f (jm 9 0)
 (.f (jf 10 1 3)
 (.f (jl 11 10)
 (.f (jn 12 9)
 (.f (jf 13 15 12)
 (.f (jf 14 1 13)
 (.f (jo 15 (.ixa 8 1 (.tmp 14) (.tmp 11)))
 (.f (jl 16 15)
 (.f (jC 17 177 8 16)
 (.f (jm 4 17)
 .done)))))))))))))))
 (.seq (.seq (.region [(jm 18 4), (jo 19 (.bin .lss (.tmp 18) (.const (.int .i64 0)))), (jm 20 19), (jz 20 (jm 21 0)), (jz 20 (jn 22 21)), (jz 20 (jf 23 0 22)),
 (jz 20 (jf 24 1 23)), (jz 20 (jl 25 24)), (jz 20 (jm 26 4)), (jz 20 (jo 27 (.mlk 0 (.bool false) false (.tmp 25) (.tmp 26)))), (jz 20 (jo 28 (.not (.tmp 27)))),
 (jO 29 20 28)])
 (.cond (.tmp 29)
 (.seq (.region [(jm 30 0), (jn 31 30), (jf 32 30 31),
 ⟨none, .st (.tmp 32) (.const (.int .i64 8)), none⟩])
 .ret)
 .skip))
 (.region [(jm 33 0), (jn 34 33), (jf 35 0 34), (jf 36 1 35), (jl 37 36), (jm 38 4),
 ⟨none, .mup 0 (.tmp 37) (.tmp 38) (.const (.bool false)), none⟩])))),
 []⟩
theorem low_sgl_transaction_free : lowFn Tryz.prog movers 148 = some ⟨ir_sgl_transaction_free.n, strip ir_sgl_transaction_free.body, ir_sgl_transaction_free.res⟩ := by kernel_rfl
def ir_sgl_transaction_write : IFn := ⟨31,
 (.seq (.region [(jm 6 0), (jn 7 6), (jf 8 0 7), (jf 9 0 8), (jl 10 9), (jm 11 1), (jm 12 2), (jx 13 1 10 11), (js 13 12)])
 (.seq (.region [(jm 14 0), (jn 15 14), (jf 16 28 15), (jl 17 16), (jm 18 1), (jC 19 119 17 18), (jo 20 (.not (.tmp 19)))])
 (.cond (.tmp 20)
 (.region [(jm 21 0), (jm 22 0), (jn 23 22), (jf 24 28 23), (jl 25 24), (jm 26 1), (jo 27 (.blds 3 1 [(.int .i64 0)] [(0, 1, (.tmp 26))])), (jo 28 (.app 3 1 8 [(.int .i64 0)] (.tmp 25) (.tmp 27))),
 (jn 29 21), (jf 30 28 29), (js 30 28)])
 .skip))),
 []⟩
theorem low_sgl_transaction_write : lowFn Tryz.prog movers 175 = some ⟨ir_sgl_transaction_write.n, strip ir_sgl_transaction_write.body, ir_sgl_transaction_write.res⟩ := by kernel_rfl
def ir_sgl_transaction_got : IFn := ⟨32,
 (.seq (.region [(jm 8 0), (jm 9 1), (jm 10 3), (jn 11 8), (jf 12 15 11), (jf 13 1 12), (jo 14 (.ixa 8 1 (.tmp 13) (.tmp 9))), (js 14 10)])
 (.draw (.f (jm 15 0)
 (.f (jm 16 0)
 (.f (jn 17 16)
 (.f (jf 18 29 17)
 (.f (jl 19 18)
 (.f (jm 20 0)
 (.f (jn 21 20)
 (.f (jf 22 15 21)
 (.f (jf 23 0 22)
 (.f (jl 24 23)
 (.f (jm 25 2)
 (.f (jm 26 3)
 (.f (jo 27 (.bld [(.int .i64 0), (.int .i64 0), (.int .u64 0)] [(0, 1, (.tmp 24)), (1, 1, (.tmp 25)), (2, 1, (.tmp 26))]))
 (.m (jo 28 (.blds 127 1 [(.int .i64 0), (.int .i64 0), (.int .u64 0)] [(0, 3, (.tmp 27))]))
 (.m (jo 29 (.app 127 3 24 [(.int .i64 0), (.int .i64 0), (.int .u64 0)] (.tmp 19) (.tmp 28)))
 (.f (jn 30 15)
 (.f (jf 31 29 30)
 (.m (js 31 29)
 .done)))))))))))))))))))),
 []⟩
theorem low_sgl_transaction_got : lowFn Tryz.prog movers 176 = some ⟨ir_sgl_transaction_got.n, strip ir_sgl_transaction_got.body, ir_sgl_transaction_got.res⟩ := by kernel_rfl
end Go.Proofs.YtkieffpjjfebjaaGreatDoor
namespace Go.Proofs.YtkieffpjjfebjaaGreatDoor
open Go
set_option maxRecDepth 100000
def irc_sgl_Global_plain : IFn := ⟨158,
 (.seq (.region [(jb 4 79 1), (jb 5 69 2), (jo 6 (.mov (.const (.bool false))))])
 (.seq (.draw (.f (jm 10 0)
 (.f (jn 11 10)
 (.f (jf 12 16 11)
 (.f (jl 13 12)
 (.f (jf 14 0 4)
 (.f (jl 15 14)
 (.f (jx 16 11 13 15)
 (.f (jm 7 16)
 .done)))))))))
 (.seq (.region [(jm 17 7), (jL 18 5 5), (jC 19 125 17 18), (jm 8 19)])
 (.seq (.region [(jk 9 0)])
 (.seq (.seq (.region [(jm 20 8), (jm 21 0), (jn 22 21), (jf 23 2 22), (jf 24 0 23), (jl 25 24), (jo 26 (.conv .u64 (.tmp 25))), (jo 27 (.bin .geq (.tmp 20) (.tmp 26)))])
 (.cond (.tmp 27)
 (.region [(jk 9 7)])
 .skip))
 (.seq (.seq (.region [(jf 28 1 4), (jl 29 28), (jo 30 (.bin .neq (.tmp 29) (.const (.int .i64 0))))])
 (.cond (.tmp 30)
 (.seq (.seq (.region [(jf 31 1 4), (jl 32 31), (jo 33 (.bin .neq (.tmp 32) (.const (.int .i64 6)))), (jm 34 33), (jz 34 (jm 35 0)), (jz 34 (jn 36 35)), (jz 34 (jf 37 2 36)),
 (jz 34 (jf 38 12 37)), (jz 34 (jl 39 38)), (jz 34 (jo 40 (.not (.tmp 39)))), (jO 41 34 40), (jm 42 41), (jz 42 (jf 43 0 5)), (jz 42 (jl 44 43)), (jz 42 (jo 45 (.bin .neq (.tmp 44) (.const (.int .i64 13))))),
 (jO 46 42 45), (jm 47 46), (jz 47 (jm 48 9)), (jz 47 (jo 49 (.bin .neq (.tmp 48) (.const (.int .i64 0))))), (jO 50 47 49)])
 (.cond (.tmp 50)
 (.seq (.region [(jo 6 (.mov (.const (.bool false))))])
 .ret)
 .skip))
 (.region [(jk 9 6)]))
 .skip))
 (.cut (.block 0
 (.seq (.region [(jm 88 9), (jo 89 (.bin .neq (.tmp 88) (.const (.int .i64 0)))), (jm 87 89)])
 (.cond (.tmp 87)
 (.seq (.seq (.region [(jf 90 0 5), (jl 91 90), (jq 92 91 12)])
 (.cond (.tmp 92)
 (.draw (.f (jm 93 7)
 (.f (jf 94 1 5)
 (.f (jl 95 94)
 (.f (jn 96 93)
 (.f (jf 97 1 96)
 (.f (jo 98 (.ixa 8 1 (.tmp 97) (.tmp 95)))
 (.m ⟨none, .st (.tmp 98) (.const (.int .u64 0)), none⟩
 .done))))))))
 .skip))
 (.draw (.f (jm 99 0)
 (.f (jf 100 0 4)
 (.f (jl 101 100)
 (.f (jm 102 7)
 (.f (jn 103 102)
 (.f (jf 104 0 103)
 (.f (jl 105 104)
 (.f (jm 106 9)
 (.f (jo 107 (.conv .u64 (.tmp 106)))
 (.m (jo 108 (.call 91 [(.tmp 99), (.tmp 101), (.tmp 105), (.const (.int .i64 7)), (.tmp 107)]))
 .done))))))))))))
 (.seq (.region [(jf 110 0 5), (jl 111 110), (jq 112 111 12), (jm 109 112)])
 (.cond (.tmp 109)
 (.seq (.region [(jm 113 0), (jf 114 0 4), (jl 115 114), (jm 116 8), (jo 117 (.conv .i64 (.tmp 116))), (jo 118 (.call 126 [(.tmp 113), (.tmp 115), (.tmp 117), (.const (.int .i64 1))]))])
 (.seq (.draw (.f (jm 119 7)
 (.f (jf 120 1 5)
 (.f (jl 121 120)
 (.f (jm 122 0)
 (.f (jn 123 122)
 (.f (jf 124 0 123)
 (.f (jf 125 0 124)
 (.f (jl 126 125)
 (.f (jm 127 8)
 (.f (jx 128 1 126 127)
 (.f (jl 129 128)
 (.f (jn 130 119)
 (.f (jf 131 1 130)
 (.f (jo 132 (.ixa 8 1 (.tmp 131) (.tmp 121)))
 (.m (js 132 129)
 .done))))))))))))))))
 (.draw (.f (jm 133 0)
 (.f (jf 134 0 4)
 (.f (jl 135 134)
 (.f (jm 136 7)
 (.f (jn 137 136)
 (.f (jf 138 0 137)
 (.f (jl 139 138)
 (.f (jm 140 0)
 (.f (jn 141 140)
 (.f (jf 142 0 141)
 (.f (jf 143 0 142)
 (.f (jl 144 143)
 (.f (jm 145 8)
 (.f (jx 146 1 144 145)
 (.f (jl 147 146)
 (.m (jo 148 (.call 91 [(.tmp 133), (.tmp 135), (.tmp 139), (.const (.int .i64 4)), (.tmp 147)]))
 .done)))))))))))))))))))
 (.seq (.region [(jm 51 0), (jf 52 0 4), (jl 53 52), (jm 54 8), (jo 55 (.conv .i64 (.tmp 54))), (jo 56 (.call 126 [(.tmp 51), (.tmp 53), (.tmp 55), (.const (.int .i64 2))]))])
 (.seq (.draw (.f (jm 57 0)
 (.f (jn 58 57)
 (.f (jf 59 0 58)
 (.f (jf 60 0 59)
 (.f (jl 61 60)
 (.f (jm 62 8)
 (.f (jm 63 7)
 (.f (jf 64 2 5)
 (.f (jl 65 64)
 (.f (jn 66 63)
 (.f (jf 67 1 66)
 (.f (jo 68 (.ixa 8 1 (.tmp 67) (.tmp 65)))
 (.f (jl 69 68)
 (.f (jx 70 1 61 62)
 (.m (js 70 69)
 .done))))))))))))))))
 (.draw (.f (jm 71 0)
 (.f (jf 72 0 4)
 (.f (jl 73 72)
 (.f (jm 74 7)
 (.f (jn 75 74)
 (.f (jf 76 0 75)
 (.f (jl 77 76)
 (.f (jm 78 0)
 (.f (jn 79 78)
 (.f (jf 80 0 79)
 (.f (jf 81 0 80)
 (.f (jl 82 81)
 (.f (jm 83 8)
 (.f (jx 84 1 82 83)
 (.f (jl 85 84)
 (.m (jo 86 (.call 91 [(.tmp 71), (.tmp 73), (.tmp 77), (.const (.int .i64 5)), (.tmp 85)]))
 .done))))))))))))))))))))))))
 (.seq (.draw (.f (jm 149 0)
 (.f (jf 150 0 4)
 (.f (jl 151 150)
 (.f (jm 152 7)
 (.f (jn 153 152)
 (.f (jf 154 0 153)
 (.f (jl 155 154)
 (.f (ja 156 155 1)
 (.m (jo 157 (.call 92 [(.tmp 149), (.tmp 151), (.tmp 156)]))
 .done))))))))))
 (.seq (.region [(jo 6 (.mov (.const (.bool true))))])
 .ret))))))))),
 [.tmp 6]⟩
theorem lowc_sgl_Global_plain : lowFn Tryz.prog movers 94 = some ⟨irc_sgl_Global_plain.n, strip irc_sgl_Global_plain.body, irc_sgl_Global_plain.res⟩ := by kernel_rfl
end Go.Proofs.YtkieffpjjfebjaaGreatDoor
