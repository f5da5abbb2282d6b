/- What the laws share, part 10. No condition. -/
import Derived.Test.YtllddgdmmfmpkaaGreatDoorY9
namespace Go.Proofs.YtllddgdmmfmpkaaGreatDoor
open Go
set_option maxRecDepth 100000
def ir_cells_New : IFn := ⟨51,
 (.seq (.region [(jb 3 31 0), (jo 6 (.mov (.const (.pointer none)))), (jk 7 0)])
 (.seq (.seq (.region [(jL 11 13 3), (jc 12 20 11), (jm 8 12)])
 (.seq (.region [(jm 13 8), (jo 14 (.bin .neq (.tmp 13) (.const (.int .i64 0))))])
 (.cond (.tmp 14)
 (.seq (.region [(jm 15 8), (jo 6 (.mov (.const (.pointer none)))), (jm 7 15)])
 .ret)
 .skip)))
 (.seq (.seq (.region [(jm 16 1), (jo 17 (.bin .lss (.tmp 16) (.const (.int .i64 1)))), (jm 18 17), (jz 18 (jm 19 1)), (jz 18 (jo 20 (.bin .gtr (.tmp 19) (.const (.int .i64 16))))),
 (jO 21 18 20)])
 (.cond (.tmp 21)
 (.seq (.region [(jo 6 (.mov (.const (.pointer none)))), (jk 7 54)])
 .ret)
 .skip))
 (.seq (.seq (.region [(jm 22 2), (jt 23 22), (jf 24 0 3), (jl 25 24), (jo 26 (.bin .neq (.tmp 23) (.tmp 25)))])
 (.cond (.tmp 26)
 (.seq (.region [(jo 6 (.mov (.const (.pointer none)))), (jk 7 55)])
 .ret)
 .skip))
 (.seq (.region [(jL 28 13 3), (jc 29 23 28), (jm 27 29), (je 30 27 0), (je 31 27 1), (jm 9 30), (jm 10 31)])
 (.seq (.par [
 ((jo 32 (.mkm)), []),
 ((jm 33 2), []),
 ((jc 34 24 33), [1]),
 ((jm 35 10), []),
 ((jt 36 35), [3]),
 ((jo 37 (.appz 33 8 [(.int .u64 0)] (.tmp 34) (.tmp 36))), [2, 4, 2]),
 (⟨none, .mup 0 (.tmp 32) (.const (.int .i64 1)) (.tmp 37), none⟩, [0, 5]),
 ((jf 38 1 3), []),
 ((jl 39 38), [7]),
 ((jo 40 (.mk 33 1 8 [(.int .u64 0)] (.tmp 39) (.tmp 39))), [8, 8]),
 (⟨none, .mup 0 (.tmp 32) (.const (.int .i64 2)) (.tmp 40), none⟩, [0, 9]),
 ((jo 41 (.mk 33 1 8 [(.int .u64 0)] (.const (.int .i64 1)) (.const (.int .i64 1)))), []),
 (⟨none, .mup 0 (.tmp 32) (.const (.int .i64 3)) (.tmp 41), none⟩, [0, 11]),
 ((jo 42 (.mk 33 1 8 [(.int .u64 0)] (.const (.int .i64 1)) (.const (.int .i64 1)))), []),
 (⟨none, .mup 0 (.tmp 32) (.const (.int .i64 4)) (.tmp 42), none⟩, [0, 13]),
 ((jo 43 (.mk 33 1 8 [(.int .u64 0)] (.const (.int .i64 1)) (.const (.int .i64 1)))), []),
 (⟨none, .mup 0 (.tmp 32) (.const (.int .i64 5)) (.tmp 43), none⟩, [0, 15]),
 ((jm 44 1), []),
 ((jo 45 (.mk 33 1 8 [(.int .u64 0)] (.tmp 44) (.tmp 44))), [17, 17]),
 (⟨none, .mup 0 (.tmp 32) (.const (.int .i64 6)) (.tmp 45), none⟩, [0, 18]),
 ((jm 46 9), []),
 (⟨none, .mup 0 (.tmp 32) (.const (.int .i64 7)) (.tmp 46), none⟩, [0, 20]),
 ((jm 47 10), []),
 (⟨none, .mup 0 (.tmp 32) (.const (.int .i64 8)) (.tmp 47), none⟩, [0, 22]),
 ((jm 48 32), [0, 1, 2, 3, 4, 5, 6, 7, 8, 9, 10, 11, 12, 13, 14, 15, 16, 17, 18, 19, 20, 21, 22, 23]),
 ((jo 49 (.bld [(.map none)] [(0, 1, (.tmp 48))])), [24]),
 ((jb 50 94 49), [25]),
 ((jm 6 50), [26, 5, 0, 1, 2, 3, 4, 5, 6, 7, 8, 9, 10, 11, 12, 13, 14, 15, 16, 17, 18, 19, 20, 21, 22, 23, 24, 25, 26]),
 ((jk 7 0), [27, 0, 1, 2, 3, 4, 5, 6, 7, 8, 9, 10, 11, 12, 13, 14, 15, 16, 17, 18, 19, 20, 21, 22, 23, 24, 25, 26, 27])])
 .ret)))))),
 [.tmp 6, .tmp 7]⟩
theorem low_cells_New : lowFn Tryz.prog movers 12 = some ⟨ir_cells_New.n, strip ir_cells_New.body, ir_cells_New.res⟩ := by kernel_rfl
def ir_cells_Mem_Image : IFn := ⟨58,
 (.seq (.region [(jo 2 (.new 35 (.agg #[.slice none 0 0, .slice none 0 0, .int .u64 0, .int .u64 0, .int .u64 0, .slice none 0 0, .slice none 0 0, .slice none 0 0])))])
 (.seq (.seq (.region [(jm 3 0), (jo 4 (.nilq false 1 (.tmp 3) (.const (.pointer none))))])
 (.cond (.tmp 4)
 (.seq (.region [(jo 5 (.bld [(.slice none 0 0), (.slice none 0 0), (.int .u64 0), (.int .u64 0), (.int .u64 0), (.slice none 0 0), (.slice none 0 0), (.slice none 0 0)] [])),
 (jS 8 2 5)])
 .ret)
 .skip))
 (.seq (.par [
 ((jm 6 0), []),
 ((jn 7 6), [0]),
 ((jf 8 0 7), [1]),
 ((jl 9 8), [2]),
 ((jo 10 (.mlk 0 (.slice none 0 0) false (.tmp 9) (.const (.int .i64 1)))), [3]),
 ((jc 11 24 10), [4]),
 ((jm 12 0), []),
 ((jn 13 12), [6]),
 ((jf 14 0 13), [7]),
 ((jl 15 14), [8]),
 ((jo 16 (.mlk 0 (.slice none 0 0) false (.tmp 15) (.const (.int .i64 2)))), [9]),
 ((jc 17 24 16), [10, 5]),
 ((jm 18 0), []),
 ((jn 19 18), [12]),
 ((jf 20 0 19), [13]),
 ((jl 21 20), [14]),
 ((jo 22 (.mlk 0 (.slice none 0 0) false (.tmp 21) (.const (.int .i64 3)))), [15]),
 ((jo 23 (.ixs 1 (.tmp 22) (.const (.int .i64 0)))), [16]),
 ((jl 24 23), [17]),
 ((jm 25 0), []),
 ((jn 26 25), [19]),
 ((jf 27 0 26), [20]),
 ((jl 28 27), [21]),
 ((jo 29 (.mlk 0 (.slice none 0 0) false (.tmp 28) (.const (.int .i64 4)))), [22]),
 ((jo 30 (.ixs 1 (.tmp 29) (.const (.int .i64 0)))), [23]),
 ((jl 31 30), [24]),
 ((jm 32 0), []),
 ((jn 33 32), [26]),
 ((jf 34 0 33), [27]),
 ((jl 35 34), [28]),
 ((jo 36 (.mlk 0 (.slice none 0 0) false (.tmp 35) (.const (.int .i64 5)))), [29]),
 ((jo 37 (.ixs 1 (.tmp 36) (.const (.int .i64 0)))), [30]),
 ((jl 38 37), [31]),
 ((jm 39 0), []),
 ((jn 40 39), [33]),
 ((jf 41 0 40), [34]),
 ((jl 42 41), [35]),
 ((jo 43 (.mlk 0 (.slice none 0 0) false (.tmp 42) (.const (.int .i64 6)))), [36]),
 ((jc 44 24 43), [37, 11]),
 ((jm 45 0), []),
 ((jn 46 45), [39]),
 ((jf 47 0 46), [40]),
 ((jl 48 47), [41]),
 ((jo 49 (.mlk 0 (.slice none 0 0) false (.tmp 48) (.const (.int .i64 7)))), [42]),
 ((jc 50 24 49), [43, 38]),
 ((jm 51 0), []),
 ((jn 52 51), [45]),
 ((jf 53 0 52), [46]),
 ((jl 54 53), [47]),
 ((jo 55 (.mlk 0 (.slice none 0 0) false (.tmp 54) (.const (.int .i64 8)))), [48]),
 ((jc 56 24 55), [49, 44]),
 ((jo 57 (.bld [(.slice none 0 0), (.slice none 0 0), (.int .u64 0), (.int .u64 0), (.int .u64 0), (.slice none 0 0), (.slice none 0 0), (.slice none 0 0)] [(0, 1, (.tmp 11)), (1, 1, (.tmp 17)), (2, 1, (.tmp 24)), (3, 1, (.tmp 31)), (4, 1, (.tmp 38)), (5, 1, (.tmp 44)), (6, 1, (.tmp 50)), (7, 1, (.tmp 56))])), [5, 11, 18, 25, 32, 38, 44, 50]),
 ((jS 8 2 57), [51, 50, 0, 1, 2, 3, 4, 5, 6, 7, 8, 9, 10, 11, 12, 13, 14, 15, 16, 17, 18, 19, 20, 21, 22, 23, 24, 25, 26, 27, 28, 29, 30, 31, 32, 33, 34, 35, 36, 37, 38, 39, 40, 41, 42, 43, 44, 45, 46, 47, 48, 49, 50, 51])])
 .ret))),
 [.cellN 2 8]⟩
theorem low_cells_Mem_Image : lowFn Tryz.prog movers 15 = some ⟨ir_cells_Mem_Image.n, strip ir_cells_Mem_Image.body, ir_cells_Mem_Image.res⟩ := by kernel_rfl
def ir_cells_lists : IFn := ⟨51,
 (.seq (.region [(jb 1 31 0), (jo 2 (.mov (.const (.slice none 0 0)))), (jo 3 (.mov (.const (.slice none 0 0))))])
 (.seq (.region [(jo 9 (.mk 33 1 8 [(.int .u64 0)] (.const (.int .i64 4)) (.const (.int .i64 4)))), (jm 2 9)])
 (.seq (.region [(jL 10 13 1), (jc 11 36 10), (jo 12 (.mk 33 1 8 [(.int .u64 0)] (.tmp 11) (.tmp 11))), (jm 3 12)])
 (.seq (.region [(jk 4 0)])
 (.seq (.seq (.region [(jf 13 3 1), (jL 14 4 13), (jk 15 0)])
 (.block 0
 (.loop 562949953389040
 (.seq (.region [(jo 16 (.bin .lss (.tmp 15) (.const (.int .i64 4))))])
 (.seq (.cond (.tmp 16)
 .skip
 (.exit 0))
 (.seq (.block 1
 (.seq (.region [(jm 17 15), (jo 18 (.idx 4 (.tmp 14) (.tmp 15))), (jm 5 17), (jm 6 18)])
 (.seq (.region [(jo 7 (.mov (.const (.int .i64 (-1)))))])
 (.seq (.seq (.region [(jm 19 6), (jo 20 (.bin .gtr (.tmp 19) (.const (.int .i64 0))))])
 (.cond (.tmp 20)
 (.region [(jm 21 4), (jm 7 21)])
 .skip))
 (.seq (.region [(jm 23 2), (jm 24 5), (jm 25 7), (jo 26 (.call 37 [(.const (.int .i64 0)), (.tmp 25)])), (jm 22 26), (je 27 22 0), (je 28 22 1), (jx 29 1 23 24),
 (js 29 27)])
 (.seq (.seq (.region [(jm 30 4), (jm 8 30)])
 (.block 2
 (.loop 35182224605440
 (.seq (.seq (.region [(jm 31 8), (jm 32 4), (jm 33 6), (jo 34 (.bin .add (.tmp 32) (.tmp 33))), (jo 35 (.bin .sub (.tmp 34) (.const (.int .i64 1)))), (jw 36 31 35)])
 (.cond (.tmp 36)
 .skip
 (.exit 2)))
 (.seq (.block 3
 (.region [(jm 39 3), (jm 40 8), (jm 41 8), (ja 42 41 2), (jo 43 (.conv .u64 (.tmp 42))), (jx 44 1 39 40), (js 44 43)]))
 (.region [(jm 37 8), (ja 38 37 1), (jm 8 38)]))))))
 (.region [(jm 45 4), (jm 46 6), (jo 47 (.bin .add (.tmp 45) (.tmp 46))), (jm 4 47)])))))))
 (.region [(ja 48 15 1), (jm 15 48)])))))))
 (.seq (.region [(jm 49 2), (jm 50 3), (jm 2 49), (jm 3 50)])
 .ret)))))),
 [.tmp 2, .tmp 3]⟩
theorem low_cells_lists : lowFn Tryz.prog movers 23 = some ⟨ir_cells_lists.n, strip ir_cells_lists.body, ir_cells_lists.res⟩ := by kernel_rfl
def ir_cells_Mem_Load : IFn := ⟨14,
 (.seq (.region [(jo 6 (.new 49 (.agg #[.int .i64 0, .int .i64 0, .int .i64 0, .int .u64 0, .int .u64 0, .bool false]))), (jk 7 0)])
 (.seq (.region [(jm 8 0), (jm 9 1), (jm 10 2), (jo 11 (.call 115 [(.tmp 8), (.const (.int .i64 1)), (.tmp 9), (.tmp 10), (.func 116)])), (je 12 11 0), (je 13 11 1),
 (jS 6 6 12), (jm 7 13)])
 .ret)),
 [.cellN 6 6, .tmp 7]⟩
theorem low_cells_Mem_Load : lowFn Tryz.prog movers 64 = some ⟨ir_cells_Mem_Load.n, strip ir_cells_Mem_Load.body, ir_cells_Mem_Load.res⟩ := by kernel_rfl
def ir_cells_Mem_Store : IFn := ⟨17,
 (.seq (.region [(jb 7 33 3), (jo 8 (.new 49 (.agg #[.int .i64 0, .int .i64 0, .int .i64 0, .int .u64 0, .int .u64 0, .bool false]))), (jk 9 0)])
 (.seq (.region [(jm 10 0), (jm 11 1), (jm 12 2), (jo 13 (.mkf 158 [(.tmp 7)])), (jo 14 (.call 115 [(.tmp 10), (.const (.int .i64 2)), (.tmp 11), (.tmp 12), (.tmp 13)])),
 (je 15 14 0), (je 16 14 1), (jS 6 8 15), (jm 9 16)])
 .ret)),
 [.cellN 8 6, .tmp 9]⟩
theorem low_cells_Mem_Store : lowFn Tryz.prog movers 80 = some ⟨ir_cells_Mem_Store.n, strip ir_cells_Mem_Store.body, ir_cells_Mem_Store.res⟩ := by kernel_rfl
def ir_cells_Mem_operate : IFn := ⟨59,
 (.seq (.region [(jo 10 (.new 49 (.agg #[.int .i64 0, .int .i64 0, .int .i64 0, .int .u64 0, .int .u64 0, .bool false]))), (jk 11 0)])
 (.seq (.seq (.region [(jm 16 0), (jo 17 (.nilq false 1 (.tmp 16) (.const (.pointer none))))])
 (.cond (.tmp 17)
 (.seq (.region [(jo 18 (.bld [(.int .i64 0), (.int .i64 0), (.int .i64 0), (.int .u64 0), (.int .u64 0), (.bool false)] [])), (jS 6 10 18), (jk 11 1)])
 .ret)
 .skip))
 (.seq (.region [(jm 19 0), (jn 20 19), (jf 21 0 20), (jl 22 21), (jm 23 2), (jo 24 (.mlk 0 (.slice none 0 0) false (.tmp 22) (.tmp 23))), (jm 12 24)])
 (.seq (.seq (.region [(jm 25 3), (jo 26 (.bin .lss (.tmp 25) (.const (.int .i64 0)))), (jm 27 26), (jz 27 (jm 28 3)), (jz 27 (jm 29 12)), (jz 27 (jt 30 29)), (jz 27 (jo 31 (.bin .geq (.tmp 28) (.tmp 30)))),
 (jO 32 27 31)])
 (.cond (.tmp 32)
 (.seq (.region [(jo 33 (.bld [(.int .i64 0), (.int .i64 0), (.int .i64 0), (.int .u64 0), (.int .u64 0), (.bool false)] [])), (jS 6 10 33), (jk 11 60)])
 .ret)
 .skip))
 (.seq (.region [(jm 34 12), (jm 35 3), (jx 36 1 34 35), (jl 37 36), (jm 13 37)])
 (.seq (.region [(jm 39 4), (jm 40 13), (jo 41 (.callv (.tmp 39) [(.tmp 40)])), (jm 38 41), (je 42 38 0), (je 43 38 1), (jm 14 42), (jm 15 43)])
 (.seq (.seq (.region [(jm 44 15)])
 (.cond (.tmp 44)
 (.region [(jm 45 12), (jm 46 3), (jm 47 14), (jx 48 1 45 46), (js 48 47)])
 .skip))
 (.seq (.region [(jm 49 1), (jm 50 2), (jm 51 3), (jm 52 13), (jm 53 12), (jm 54 3), (jx 55 1 53 54), (jl 56 55), (jm 57 15), (jo 58 (.bld [(.int .i64 0), (.int .i64 0), (.int .i64 0), (.int .u64 0), (.int .u64 0), (.bool false)] [(0, 1, (.tmp 49)), (1, 1, (.tmp 50)), (2, 1, (.tmp 51)), (3, 1, (.tmp 52)), (4, 1, (.tmp 56)), (5, 1, (.tmp 57))])),
 (jS 6 10 58), (jk 11 0)])
 .ret)))))))),
 [.cellN 10 6, .tmp 11]⟩
theorem low_cells_Mem_operate : lowFn Tryz.prog movers 115 = some ⟨ir_cells_Mem_operate.n, strip ir_cells_Mem_operate.body, ir_cells_Mem_operate.res⟩ := by kernel_rfl
def ir_cells_Mem_Load_1 : IFn := ⟨5,
 (.seq (.region [(jo 2 (.mov (.const (.int .u64 0)))), (jo 3 (.mov (.const (.bool false))))])
 (.seq (.region [(jm 4 0), (jm 2 4), (jo 3 (.mov (.const (.bool true))))])
 .ret)),
 [.tmp 2, .tmp 3]⟩
theorem low_cells_Mem_Load_1 : lowFn Tryz.prog movers 116 = some ⟨ir_cells_Mem_Load_1.n, strip ir_cells_Mem_Load_1.body, ir_cells_Mem_Load_1.res⟩ := by kernel_rfl
def ir_cells_Mem_Swap : IFn := ⟨19,
 (.seq (.region [(jb 8 33 3), (jb 9 33 4), (jo 10 (.new 49 (.agg #[.int .i64 0, .int .i64 0, .int .i64 0, .int .u64 0, .int .u64 0, .bool false]))), (jk 11 0)])
 (.seq (.region [(jm 12 0), (jm 13 1), (jm 14 2), (jo 15 (.mkf 187 [(.tmp 9), (.tmp 8)])), (jo 16 (.call 115 [(.tmp 12), (.const (.int .i64 3)), (.tmp 13), (.tmp 14), (.tmp 15)])),
 (je 17 16 0), (je 18 16 1), (jS 6 10 17), (jm 11 18)])
 .ret)),
 [.cellN 10 6, .tmp 11]⟩
theorem low_cells_Mem_Swap : lowFn Tryz.prog movers 121 = some ⟨ir_cells_Mem_Swap.n, strip ir_cells_Mem_Swap.body, ir_cells_Mem_Swap.res⟩ := by kernel_rfl
def ir_cells_Mem_Store_1 : IFn := ⟨6,
 (.seq (.region [(jo 3 (.mov (.const (.int .u64 0)))), (jo 4 (.mov (.const (.bool false))))])
 (.seq (.region [(jl 5 1), (jm 3 5), (jo 4 (.mov (.const (.bool true))))])
 .ret)),
 [.tmp 3, .tmp 4]⟩
theorem low_cells_Mem_Store_1 : lowFn Tryz.prog movers 158 = some ⟨ir_cells_Mem_Store_1.n, strip ir_cells_Mem_Store_1.body, ir_cells_Mem_Store_1.res⟩ := by kernel_rfl
def ir_cells_Mem_Swap_1 : IFn := ⟨10,
 (.seq (.region [(jo 4 (.mov (.const (.int .u64 0)))), (jo 5 (.mov (.const (.bool false))))])
 (.seq (.draw (.f (jl 6 1)
 (.f (jm 7 0)
 (.f (jl 8 2)
 (.f (jo 9 (.bin .eql (.tmp 7) (.tmp 8)))
 (.f (jm 4 6)
 (.f (jm 5 9)
 .done)))))))
 .ret)),
 [.tmp 4, .tmp 5]⟩
theorem low_cells_Mem_Swap_1 : lowFn Tryz.prog movers 187 = some ⟨ir_cells_Mem_Swap_1.n, strip ir_cells_Mem_Swap_1.body, ir_cells_Mem_Swap_1.res⟩ := by kernel_rfl
def ir_cells_Mem_Add : IFn := ⟨17,
 (.seq (.region [(jb 7 33 3), (jo 8 (.new 49 (.agg #[.int .i64 0, .int .i64 0, .int .i64 0, .int .u64 0, .int .u64 0, .bool false]))), (jk 9 0)])
 (.seq (.region [(jm 10 0), (jm 11 1), (jm 12 2), (jo 13 (.mkf 208 [(.tmp 7)])), (jo 14 (.call 115 [(.tmp 10), (.const (.int .i64 4)), (.tmp 11), (.tmp 12), (.tmp 13)])),
 (je 15 14 0), (je 16 14 1), (jS 6 8 15), (jm 9 16)])
 .ret)),
 [.cellN 8 6, .tmp 9]⟩
theorem low_cells_Mem_Add : lowFn Tryz.prog movers 192 = some ⟨ir_cells_Mem_Add.n, strip ir_cells_Mem_Add.body, ir_cells_Mem_Add.res⟩ := by kernel_rfl
def ir_cells_Mem_Add_1 : IFn := ⟨8,
 (.seq (.region [(jo 3 (.mov (.const (.int .u64 0)))), (jo 4 (.mov (.const (.bool false))))])
 (.seq (.region [(jm 5 0), (jl 6 1), (jo 7 (.bin .add (.tmp 5) (.tmp 6))), (jm 3 7), (jo 4 (.mov (.const (.bool true))))])
 .ret)),
 [.tmp 3, .tmp 4]⟩
theorem low_cells_Mem_Add_1 : lowFn Tryz.prog movers 208 = some ⟨ir_cells_Mem_Add_1.n, strip ir_cells_Mem_Add_1.body, ir_cells_Mem_Add_1.res⟩ := by kernel_rfl
end Go.Proofs.YtllddgdmmfmpkaaGreatDoor
namespace Go.Proofs.YtllddgdmmfmpkaaGreatDoor
open Go
set_option maxRecDepth 100000
def ir_epoch_Leave : IFn := ⟨14,
 (.seq (.region [(jo 4 (.new 49 (.agg #[.int .i64 0, .int .i64 0, .int .i64 0, .int .u64 0, .int .u64 0, .bool false])))])
 (.seq (.region [(jm 8 0), (jm 9 1), (jo 10 (.call 80 [(.tmp 8), (.const (.int .i64 6)), (.tmp 9), (.const (.int .u64 0))])), (jm 7 10), (je 11 7 0), (je 12 7 1),
 (jo 5 (.new 49 (.agg #[.int .i64 0, .int .i64 0, .int .i64 0, .int .u64 0, .int .u64 0, .bool false]))), (jS 6 5 11), (jm 6 12)])
 (.seq (.region [(jL 13 6 5), (jS 6 4 13)])
 .ret))),
 [.cellN 4 6]⟩
theorem low_epoch_Leave : lowFn Tryz.prog movers 85 = some ⟨ir_epoch_Leave.n, strip ir_epoch_Leave.body, ir_epoch_Leave.res⟩ := by kernel_rfl
def ir_epoch_Enter_Snapshot : IFn := ⟨13,
 (.seq (.region [(jk 2 0)])
 (.seq (.seq (.region [(jm 3 0), (jn 4 3), (jf 5 1 4), (jl 6 5), (jo 7 (.bin .leq (.tmp 6) (.const (.int .i64 1))))])
 (.cond (.tmp 7)
 (.seq (.region [(jo 2 (.mov (.const (.int .i64 (-1)))))])
 .ret)
 .skip))
 (.seq (.region [(jm 8 0), (jn 9 8), (jf 10 2 9), (jl 11 10), (jo 12 (.conv .i64 (.tmp 11))), (jm 2 12)])
 .ret))),
 [.tmp 2]⟩
theorem low_epoch_Enter_Snapshot : lowFn Tryz.prog movers 122 = some ⟨ir_epoch_Enter_Snapshot.n, strip ir_epoch_Enter_Snapshot.body, ir_epoch_Enter_Snapshot.res⟩ := by kernel_rfl
def ir_epoch_Enter_Step : IFn := ⟨58,
 (.seq (.region [(jo 4 (.new 49 (.agg #[.int .i64 0, .int .i64 0, .int .i64 0, .int .u64 0, .int .u64 0, .bool false])))])
 (.seq (.region [(jo 5 (.new 49 (.agg #[.int .i64 0, .int .i64 0, .int .i64 0, .int .u64 0, .int .u64 0, .bool false])))])
 (.seq (.seq (.region [(jm 6 0), (jn 7 6), (jf 8 1 7), (jl 9 8)])
 (.block 0
 (.seq (.region [(jq 12 9 0), (jm 11 12)])
 (.cond (.tmp 11)
 (.region [(jm 14 1), (jm 15 0), (jn 16 15), (jf 17 0 16), (jl 18 17), (jo 19 (.call 80 [(.tmp 14), (.const (.int .i64 6)), (.tmp 18), (.const (.int .u64 1))])),
 (jm 13 19), (je 20 13 0), (je 21 13 1), (jS 6 5 20)])
 (.seq (.region [(jq 23 9 1), (jm 22 23)])
 (.cond (.tmp 22)
 (.seq (.region [(jm 25 1), (jo 26 (.call 64 [(.tmp 25), (.const (.int .i64 3)), (.const (.int .i64 0))])), (jm 24 26), (je 27 24 0), (je 28 24 1), (jS 6 5 27)])
 (.region [(jm 29 0), (jf 30 3 5), (jl 31 30), (jn 32 29), (jf 33 2 32), (js 33 31)]))
 (.seq (.region [(jq 35 9 2), (jm 34 35)])
 (.cond (.tmp 34)
 (.draw (.f (jm 37 1)
 (.f (jm 38 0)
 (.f (jn 39 38)
 (.f (jf 40 0 39)
 (.f (jl 41 40)
 (.f (jm 42 0)
 (.f (jn 43 42)
 (.f (jf 44 2 43)
 (.f (jl 45 44)
 (.f (jo 46 (.bin .add (.tmp 45) (.const (.int .u64 2))))
 (.m (jo 47 (.call 80 [(.tmp 37), (.const (.int .i64 6)), (.tmp 41), (.tmp 46)]))
 (.f (jm 36 47)
 (.f (je 48 36 0)
 (.f (je 49 36 1)
 (.m (jS 6 5 48)
 .done))))))))))))))))
 (.seq (.region [(jL 10 6 5), (jS 6 4 10)])
 .ret)))))))))
 (.seq (.region [(jm 50 0), (jn 51 50), (jf 52 1 51), (jl 53 52), (ja 54 53 1), (jn 55 50), (jf 56 1 55), (js 56 54)])
 (.seq (.region [(jL 57 6 5), (jS 6 4 57)])
 .ret))))),
 [.cellN 4 6]⟩
theorem low_epoch_Enter_Step : lowFn Tryz.prog movers 123 = some ⟨ir_epoch_Enter_Step.n, strip ir_epoch_Enter_Step.body, ir_epoch_Enter_Step.res⟩ := by kernel_rfl
def ir_epoch_Enter_Done : IFn := ⟨8,
 (.seq (.region [(jo 2 (.mov (.const (.bool false))))])
 (.seq (.region [(jm 3 0), (jn 4 3), (jf 5 1 4), (jl 6 5), (jq 7 6 3), (jm 2 7)])
 .ret)),
 [.tmp 2]⟩
theorem low_epoch_Enter_Done : lowFn Tryz.prog movers 124 = some ⟨ir_epoch_Enter_Done.n, strip ir_epoch_Enter_Done.body, ir_epoch_Enter_Done.res⟩ := by kernel_rfl
def ir_epoch_NewEnter : IFn := ⟨6,
 (.seq (.region [(jo 2 (.mov (.const (.pointer none))))])
 (.seq (.region [(jm 3 0), (jo 4 (.bld [(.int .i64 0), (.int .i64 0), (.int .u64 0)] [(0, 1, (.tmp 3))])), (jb 5 232 4), (jm 2 5)])
 .ret)),
 [.tmp 2]⟩
theorem low_epoch_NewEnter : lowFn Tryz.prog movers 170 = some ⟨ir_epoch_NewEnter.n, strip ir_epoch_NewEnter.body, ir_epoch_NewEnter.res⟩ := by kernel_rfl
end Go.Proofs.YtllddgdmmfmpkaaGreatDoor
namespace Go.Proofs.YtllddgdmmfmpkaaGreatDoor
open Go
set_option maxRecDepth 100000
def ir_turn_Pass : IFn := ⟨16,
 (.seq (.region [(jo 4 (.new 49 (.agg #[.int .i64 0, .int .i64 0, .int .i64 0, .int .u64 0, .int .u64 0, .bool false])))])
 (.seq (.region [(jm 8 0), (jm 9 1), (jo 10 (.conv .u64 (.tmp 9))), (jo 11 (.bin .add (.tmp 10) (.const (.int .u64 1)))), (jo 12 (.call 80 [(.tmp 8), (.const (.int .i64 5)), (.const (.int .i64 0)), (.tmp 11)])),
 (jm 7 12), (je 13 7 0), (je 14 7 1), (jo 5 (.new 49 (.agg #[.int .i64 0, .int .i64 0, .int .i64 0, .int .u64 0, .int .u64 0, .bool false]))), (jS 6 5 13), (jm 6 14)])
 (.seq (.region [(jL 15 6 5), (jS 6 4 15)])
 .ret))),
 [.cellN 4 6]⟩
theorem low_turn_Pass : lowFn Tryz.prog movers 81 = some ⟨ir_turn_Pass.n, strip ir_turn_Pass.body, ir_turn_Pass.res⟩ := by kernel_rfl
def ir_turn_Turn_Ticket : IFn := ⟨13,
 (.seq (.region [(jk 2 0)])
 (.seq (.seq (.region [(jm 3 0), (jn 4 3), (jf 5 0 4), (jl 6 5), (jo 7 (.not (.tmp 6)))])
 (.cond (.tmp 7)
 (.seq (.region [(jo 2 (.mov (.const (.int .i64 (-1)))))])
 .ret)
 .skip))
 (.seq (.region [(jm 8 0), (jn 9 8), (jf 10 1 9), (jl 11 10), (jo 12 (.conv .i64 (.tmp 11))), (jm 2 12)])
 .ret))),
 [.tmp 2]⟩
theorem low_turn_Turn_Ticket : lowFn Tryz.prog movers 82 = some ⟨ir_turn_Turn_Ticket.n, strip ir_turn_Turn_Ticket.body, ir_turn_Turn_Ticket.res⟩ := by kernel_rfl
def ir_turn_New : IFn := ⟨3,
 (.seq (.region [(jo 0 (.mov (.const (.pointer none))))])
 (.seq (.region [(jo 1 (.bld [(.bool false), (.int .u64 0), (.bool false)] [])), (jb 2 212 1), (jm 0 2)])
 .ret)),
 [.tmp 0]⟩
theorem low_turn_New : lowFn Tryz.prog movers 138 = some ⟨ir_turn_New.n, strip ir_turn_New.body, ir_turn_New.res⟩ := by kernel_rfl
def ir_turn_Turn_Step : IFn := ⟨46,
 (.seq (.region [(jo 4 (.new 49 (.agg #[.int .i64 0, .int .i64 0, .int .i64 0, .int .u64 0, .int .u64 0, .bool false])))])
 (.seq (.region [(jo 5 (.new 49 (.agg #[.int .i64 0, .int .i64 0, .int .i64 0, .int .u64 0, .int .u64 0, .bool false])))])
 (.seq (.block 0
 (.seq (.region [(jm 22 0), (jn 23 22), (jf 24 2 23), (jl 25 24), (jm 21 25)])
 (.cond (.tmp 21)
 .skip
 (.seq (.region [(jm 27 0), (jn 28 27), (jf 29 0 28), (jl 30 29), (jo 31 (.not (.tmp 30))), (jm 26 31)])
 (.cond (.tmp 26)
 (.seq (.region [(jm 33 1), (jo 34 (.call 192 [(.tmp 33), (.const (.int .i64 4)), (.const (.int .i64 0)), (.const (.int .u64 1))])), (jm 32 34), (je 35 32 0), (je 36 32 1),
 (jS 6 5 35)])
 (.draw (.f (jm 37 0)
 (.f (jm 38 0)
 (.f (jf 39 3 5)
 (.f (jn 41 37)
 (.f (jf 42 0 41)
 (.both (.f (jl 40 39)
 (.m ⟨none, .st (.tmp 42) (.const (.bool true)), none⟩
 (.f (jn 43 38)
 (.f (jf 44 1 43)
 (.m (js 44 40)
 .done)))))
 (.m ⟨none, .st (.tmp 42) (.const (.bool true)), none⟩
 (.f (jl 40 39)
 (.f (jn 43 38)
 (.f (jf 44 1 43)
 (.m (js 44 40)
 .done)))))))))))))
 (.seq (.region [(jm 7 1), (jo 8 (.call 64 [(.tmp 7), (.const (.int .i64 5)), (.const (.int .i64 0))])), (jm 6 8), (je 9 6 0), (je 10 6 1), (jS 6 5 9)])
 (.draw (.f (jm 11 0)
 (.f (jf 12 3 5)
 (.f (jl 13 12)
 (.f (jm 14 0)
 (.f (jn 15 14)
 (.f (jf 16 1 15)
 (.f (jl 17 16)
 (.f (jo 18 (.bin .eql (.tmp 13) (.tmp 17)))
 (.f (jn 19 11)
 (.f (jf 20 2 19)
 (.m (js 20 18)
 .done))))))))))))))))))
 (.seq (.region [(jL 45 6 5), (jS 6 4 45)])
 .ret)))),
 [.cellN 4 6]⟩
theorem low_turn_Turn_Step : lowFn Tryz.prog movers 139 = some ⟨ir_turn_Turn_Step.n, strip ir_turn_Turn_Step.body, ir_turn_Turn_Step.res⟩ := by kernel_rfl
def ir_turn_Turn_Done : IFn := ⟨7,
 (.seq (.region [(jo 2 (.mov (.const (.bool false))))])
 (.seq (.region [(jm 3 0), (jn 4 3), (jf 5 2 4), (jl 6 5), (jm 2 6)])
 .ret)),
 [.tmp 2]⟩
theorem low_turn_Turn_Done : lowFn Tryz.prog movers 140 = some ⟨ir_turn_Turn_Done.n, strip ir_turn_Turn_Done.body, ir_turn_Turn_Done.res⟩ := by kernel_rfl
end Go.Proofs.YtllddgdmmfmpkaaGreatDoor
namespace Go.Proofs.YtllddgdmmfmpkaaGreatDoor
open Go
set_option maxRecDepth 100000
def ir_reader_Read_Step : IFn := ⟨97,
 (.seq (.region [(jo 4 (.new 49 (.agg #[.int .i64 0, .int .i64 0, .int .i64 0, .int .u64 0, .int .u64 0, .bool false])))])
 (.seq (.region [(jo 5 (.new 49 (.agg #[.int .i64 0, .int .i64 0, .int .i64 0, .int .u64 0, .int .u64 0, .bool false])))])
 (.seq (.seq (.region [(jm 6 0), (jn 7 6), (jf 8 3 7), (jl 9 8)])
 (.block 0
 (.seq (.region [(jq 11 9 0), (jm 10 11)])
 (.cond (.tmp 10)
 (.seq (.region [(jm 13 1), (jm 14 0), (jn 15 14), (jf 16 1 15), (jl 17 16), (jo 18 (.call 64 [(.tmp 13), (.const (.int .i64 2)), (.tmp 17)])), (jm 12 18), (je 19 12 0),
 (je 20 12 1), (jS 6 5 19)])
 (.seq (.region [(jm 21 0), (jm 22 0), (jf 23 3 5), (jl 24 23), (jn 25 21), (jf 26 4 25), (js 26 24), (jn 27 22), (jf 28 3 27),
 ⟨none, .st (.tmp 28) (.const (.int .i64 1)), none⟩])
 (.seq (.draw (.f (jm 29 0)
 (.f (jn 30 29)
 (.f (jf 31 4 30)
 (.f (jl 32 31)
 (.f (jc 33 188 32)
 (.f (jo 34 (.bin .geq (.tmp 33) (.const (.int .i64 0))))
 (.f (jm 35 34)
 (.f (jz 35 (jm 36 0))
 (.f (jz 35 (jn 37 36))
 (.f (jz 35 (jf 38 4 37))
 (.f (jz 35 (jl 39 38))
 (.f (jz 35 (jc 40 189 39))
 (.f (jz 35 (jm 41 0))
 (.f (jz 35 (jn 42 41))
 (.f (jz 35 (jf 43 2 42))
 (.f (jz 35 (jl 44 43))
 (.f (jz 35 (jo 45 (.bin .gtr (.tmp 40) (.tmp 44))))
 (.f (jO 46 35 45)
 .done)))))))))))))))))))
 (.cond (.tmp 46)
 (.region [(jm 47 0), (jm 48 0), (jn 49 47), (jf 50 6 49),
 ⟨none, .st (.tmp 50) (.const (.bool true)), none⟩, (jn 51 48), (jf 52 3 51),
 ⟨none, .st (.tmp 52) (.const (.int .i64 3)), none⟩])
 .skip))))
 (.seq (.region [(jq 54 9 1), (jm 53 54)])
 (.cond (.tmp 53)
 (.seq (.region [(jm 56 1), (jm 57 0), (jn 58 57), (jf 59 0 58), (jl 60 59), (jo 61 (.call 64 [(.tmp 56), (.const (.int .i64 1)), (.tmp 60)])), (jm 55 61), (je 62 55 0),
 (je 63 55 1), (jS 6 5 62)])
 (.region [(jm 64 0), (jm 65 0), (jf 66 3 5), (jl 67 66), (jn 68 64), (jf 69 5 68), (js 69 67), (jn 70 65), (jf 71 3 70),
 ⟨none, .st (.tmp 71) (.const (.int .i64 2)), none⟩]))
 (.seq (.region [(jq 73 9 2), (jm 72 73)])
 (.cond (.tmp 72)
 (.seq (.region [(jm 75 1), (jm 76 0), (jn 77 76), (jf 78 1 77), (jl 79 78), (jo 80 (.call 64 [(.tmp 75), (.const (.int .i64 2)), (.tmp 79)])), (jm 74 80), (je 81 74 0),
 (je 82 74 1), (jS 6 5 81)])
 (.draw (.f (jm 83 0)
 (.f (jm 84 0)
 (.f (jf 85 3 5)
 (.f (jl 86 85)
 (.f (jm 87 0)
 (.f (jn 88 87)
 (.f (jf 89 4 88)
 (.f (jl 90 89)
 (.f (jo 91 (.bin .neq (.tmp 86) (.tmp 90)))
 (.f (jn 92 83)
 (.f (jf 93 6 92)
 (.m (js 93 91)
 (.f (jn 94 84)
 (.f (jf 95 3 94)
 (.m ⟨none, .st (.tmp 95) (.const (.int .i64 3)), none⟩
 .done)))))))))))))))))
 .skip))))))))
 (.seq (.region [(jL 96 6 5), (jS 6 4 96)])
 .ret)))),
 [.cellN 4 6]⟩
theorem low_reader_Read_Step : lowFn Tryz.prog movers 125 = some ⟨ir_reader_Read_Step.n, strip ir_reader_Read_Step.body, ir_reader_Read_Step.res⟩ := by kernel_rfl
def ir_reader_Read_Done : IFn := ⟨8,
 (.seq (.region [(jo 2 (.mov (.const (.bool false))))])
 (.seq (.region [(jm 3 0), (jn 4 3), (jf 5 3 4), (jl 6 5), (jq 7 6 3), (jm 2 7)])
 .ret)),
 [.tmp 2]⟩
theorem low_reader_Read_Done : lowFn Tryz.prog movers 126 = some ⟨ir_reader_Read_Done.n, strip ir_reader_Read_Done.body, ir_reader_Read_Done.res⟩ := by kernel_rfl
def ir_reader_Read_Conflict : IFn := ⟨7,
 (.seq (.region [(jo 2 (.mov (.const (.bool false))))])
 (.seq (.region [(jm 3 0), (jn 4 3), (jf 5 6 4), (jl 6 5), (jm 2 6)])
 .ret)),
 [.tmp 2]⟩
theorem low_reader_Read_Conflict : lowFn Tryz.prog movers 127 = some ⟨ir_reader_Read_Conflict.n, strip ir_reader_Read_Conflict.body, ir_reader_Read_Conflict.res⟩ := by kernel_rfl
def ir_reader_Read_Value : IFn := ⟨16,
 (.seq (.region [(jo 2 (.mov (.const (.int .u64 0))))])
 (.seq (.seq (.region [(jm 3 0), (jc 4 126 3), (jo 5 (.not (.tmp 4))), (jm 6 5), (jz 6 (jm 7 0)), (jz 6 (jn 8 7)), (jz 6 (jf 9 6 8)), (jz 6 (jl 10 9)), (jO 11 6 10)])
 (.cond (.tmp 11)
 (.seq (.region [(jo 2 (.mov (.const (.int .u64 0))))])
 .ret)
 .skip))
 (.seq (.region [(jm 12 0), (jn 13 12), (jf 14 5 13), (jl 15 14), (jm 2 15)])
 .ret))),
 [.tmp 2]⟩
theorem low_reader_Read_Value : lowFn Tryz.prog movers 132 = some ⟨ir_reader_Read_Value.n, strip ir_reader_Read_Value.body, ir_reader_Read_Value.res⟩ := by kernel_rfl
def ir_reader_New : IFn := ⟨12,
 (.seq (.region [(jo 6 (.mov (.const (.pointer none))))])
 (.seq (.region [(jm 7 0), (jm 8 1), (jm 9 2), (jo 10 (.bld [(.int .i64 0), (.int .i64 0), (.int .i64 0), (.int .i64 0), (.int .u64 0), (.int .u64 0), (.bool false)] [(0, 1, (.tmp 7)), (1, 1, (.tmp 8)), (2, 1, (.tmp 9))])),
 (jb 11 234 10), (jm 6 11)])
 .ret)),
 [.tmp 6]⟩
theorem low_reader_New : lowFn Tryz.prog movers 166 = some ⟨ir_reader_New.n, strip ir_reader_New.body, ir_reader_New.res⟩ := by kernel_rfl
end Go.Proofs.YtllddgdmmfmpkaaGreatDoor
namespace Go.Proofs.YtllddgdmmfmpkaaGreatDoor
open Go
set_option maxRecDepth 100000
def ir_word_Head : IFn := ⟨27,
 (.seq (.region [(jo 4 (.mov (.const (.int .u64 0)))), (jk 5 0)])
 (.seq (.seq (.region [(jm 6 0), (jo 7 (.bin .lss (.tmp 6) (.const (.int .i64 0)))), (jm 8 7), (jz 8 (jm 9 0)), (jz 8 (jo 10 (.bin .geq (.tmp 9) (.const (.int .i64 281474976710656))))),
 (jO 11 8 10), (jm 12 11), (jz 12 (jm 13 1)), (jz 12 (jo 14 (.bin .lss (.tmp 13) (.const (.int .i64 (-1)))))), (jO 15 12 14), (jm 16 15), (jz 16 (jm 17 1)), (jz 16 (jo 18 (.bin .geq (.tmp 17) (.const (.int .i64 64))))),
 (jO 19 16 18)])
 (.cond (.tmp 19)
 (.seq (.region [(jo 4 (.mov (.const (.int .u64 0)))), (jk 5 2)])
 .ret)
 .skip))
 (.seq (.region [(jm 20 0), (jo 21 (.conv .u64 (.tmp 20))), (jo 22 (.bin .mul (.tmp 21) (.const (.int .u64 65536)))), (jm 23 1), (ja 24 23 1), (jo 25 (.conv .u64 (.tmp 24))),
 (jo 26 (.bin .add (.tmp 22) (.tmp 25))), (jm 4 26), (jk 5 0)])
 .ret))),
 [.tmp 4, .tmp 5]⟩
theorem low_word_Head : lowFn Tryz.prog movers 37 = some ⟨ir_word_Head.n, strip ir_word_Head.body, ir_word_Head.res⟩ := by kernel_rfl
def ir_word_Free : IFn := ⟨10,
 (.seq (.region [(jo 2 (.mov (.const (.int .u64 0)))), (jk 3 0)])
 (.seq (.seq (.region [(jm 4 0), (jc 5 195 4), (jo 6 (.not (.tmp 5)))])
 (.cond (.tmp 6)
 (.seq (.region [(jo 2 (.mov (.const (.int .u64 0)))), (jk 3 2)])
 .ret)
 .skip))
 (.seq (.region [(jm 7 0), (jo 8 (.conv .u64 (.tmp 7))), (jo 9 (.bin .mul (.tmp 8) (.const (.int .u64 64)))), (jm 2 9), (jk 3 0)])
 .ret))),
 [.tmp 2, .tmp 3]⟩
theorem low_word_Free : lowFn Tryz.prog movers 153 = some ⟨ir_word_Free.n, strip ir_word_Free.body, ir_word_Free.res⟩ := by kernel_rfl
def ir_word_Holder : IFn := ⟨7,
 (.seq (.region [(jk 2 0)])
 (.seq (.region [(jm 3 0), (jo 4 (.bin .rem (.tmp 3) (.const (.int .u64 64)))), (jo 5 (.conv .i64 (.tmp 4))), (jo 6 (.bin .sub (.tmp 5) (.const (.int .i64 1)))),
 (jm 2 6)])
 .ret)),
 [.tmp 2]⟩
theorem low_word_Holder : lowFn Tryz.prog movers 188 = some ⟨ir_word_Holder.n, strip ir_word_Holder.body, ir_word_Holder.res⟩ := by kernel_rfl
def ir_word_Version : IFn := ⟨6,
 (.seq (.region [(jk 2 0)])
 (.seq (.region [(jm 3 0), (jo 4 (.bin .quo (.tmp 3) (.const (.int .u64 64)))), (jo 5 (.conv .i64 (.tmp 4))), (jm 2 5)])
 .ret)),
 [.tmp 2]⟩
theorem low_word_Version : lowFn Tryz.prog movers 189 = some ⟨ir_word_Version.n, strip ir_word_Version.body, ir_word_Version.res⟩ := by kernel_rfl
def ir_word_version : IFn := ⟨9,
 (.seq (.region [(jo 2 (.mov (.const (.bool false))))])
 (.seq (.region [(jm 3 0), (jo 4 (.bin .geq (.tmp 3) (.const (.int .i64 0)))), (jm 5 4), (jy 5 (jm 6 0)), (jy 5 (jo 7 (.bin .leq (.tmp 6) (.const (.int .i64 1099511627776))))),
 (jA 8 5 7), (jm 2 8)])
 .ret)),
 [.tmp 2]⟩
theorem low_word_version : lowFn Tryz.prog movers 195 = some ⟨ir_word_version.n, strip ir_word_version.body, ir_word_version.res⟩ := by kernel_rfl
end Go.Proofs.YtllddgdmmfmpkaaGreatDoor
namespace Go.Proofs.YtllddgdmmfmpkaaGreatDoor
open Go
set_option maxRecDepth 100000
def ir_validator_New : IFn := ⟨10,
 (.seq (.region [(jo 4 (.mov (.const (.pointer none))))])
 (.seq (.region [(jm 5 0), (jc 6 19 5), (jm 7 1), (jo 8 (.bld [(.slice none 0 0), (.int .i64 0), (.bool false)] [(0, 1, (.tmp 6)), (1, 1, (.tmp 7))])), (jb 9 243 8),
 (jm 4 9)])
 .ret)),
 [.tmp 4]⟩
theorem low_validator_New : lowFn Tryz.prog movers 141 = some ⟨ir_validator_New.n, strip ir_validator_New.body, ir_validator_New.res⟩ := by kernel_rfl
def ir_validator_Check_Done : IFn := ⟨15,
 (.seq (.region [(jo 2 (.mov (.const (.bool false))))])
 (.seq (.region [(jm 3 0), (jn 4 3), (jf 5 2 4), (jl 6 5), (jm 7 6), (jz 7 (jm 8 0)), (jz 7 (jn 9 8)), (jz 7 (jf 10 0 9)), (jz 7 (jl 11 10)), (jz 7 (jt 12 11)),
 (jz 7 (jq 13 12 0)), (jO 14 7 13), (jm 2 14)])
 .ret)),
 [.tmp 2]⟩
theorem low_validator_Check_Done : lowFn Tryz.prog movers 144 = some ⟨ir_validator_Check_Done.n, strip ir_validator_Check_Done.body, ir_validator_Check_Done.res⟩ := by kernel_rfl
def ir_validator_Check_Step : IFn := ⟨41,
 (.seq (.region [(jo 4 (.new 49 (.agg #[.int .i64 0, .int .i64 0, .int .i64 0, .int .u64 0, .int .u64 0, .bool false])))])
 (.seq (.seq (.region [(jm 7 0), (jc 8 144 7)])
 (.cond (.tmp 8)
 (.seq (.region [(jo 9 (.bld [(.int .i64 0), (.int .i64 0), (.int .i64 0), (.int .u64 0), (.int .u64 0), (.bool false)] [])), (jS 6 4 9)])
 .ret)
 .skip))
 (.seq (.region [(jm 11 1), (jm 12 0), (jn 13 12), (jf 14 0 13), (jl 15 14), (jo 16 (.ixs 1 (.tmp 15) (.const (.int .i64 0)))), (jl 17 16), (jo 18 (.call 64 [(.tmp 11), (.const (.int .i64 2)), (.tmp 17)])),
 (jm 10 18), (je 19 10 0), (je 20 10 1), (jo 5 (.new 49 (.agg #[.int .i64 0, .int .i64 0, .int .i64 0, .int .u64 0, .int .u64 0, .bool false]))), (jS 6 5 19), (jm 6 20)])
 (.seq (.region [(jm 21 0), (jm 22 0), (jn 23 22), (jf 24 0 23), (jl 25 24), (jo 26 (.sls 1 (.tmp 25) (some (.const (.int .i64 1))) none none)), (jn 27 21), (jf 28 0 27),
 (js 28 26)])
 (.seq (.draw (.f (jm 29 0)
 (.f (jf 30 3 5)
 (.f (jl 31 30)
 (.f (jc 32 189 31)
 (.f (jm 33 0)
 (.f (jn 34 33)
 (.f (jf 35 1 34)
 (.f (jl 36 35)
 (.f (jo 37 (.bin .gtr (.tmp 32) (.tmp 36)))
 (.f (jn 38 29)
 (.f (jf 39 2 38)
 (.m (js 39 37)
 .done)))))))))))))
 (.seq (.region [(jL 40 6 5), (jS 6 4 40)])
 .ret)))))),
 [.cellN 4 6]⟩
theorem low_validator_Check_Step : lowFn Tryz.prog movers 145 = some ⟨ir_validator_Check_Step.n, strip ir_validator_Check_Step.body, ir_validator_Check_Step.res⟩ := by kernel_rfl
def ir_validator_Check_Failed : IFn := ⟨7,
 (.seq (.region [(jo 2 (.mov (.const (.bool false))))])
 (.seq (.region [(jm 3 0), (jn 4 3), (jf 5 2 4), (jl 6 5), (jm 2 6)])
 .ret)),
 [.tmp 2]⟩
theorem low_validator_Check_Failed : lowFn Tryz.prog movers 146 = some ⟨ir_validator_Check_Failed.n, strip ir_validator_Check_Failed.body, ir_validator_Check_Failed.res⟩ := by kernel_rfl
end Go.Proofs.YtllddgdmmfmpkaaGreatDoor
namespace Go.Proofs.YtllddgdmmfmpkaaGreatDoor
open Go
set_option maxRecDepth 100000
def ir_writer_New : IFn := ⟨21,
 (.seq (.region [(jo 4 (.mov (.const (.pointer none))))])
 (.seq (.region [(jm 6 0), (jt 7 6), (jm 8 1), (jt 9 8), (jo 10 (.mm false (.tmp 7) (.tmp 9))), (jm 5 10)])
 (.seq (.draw (.f (jm 11 0)
 (.f (jm 12 5)
 (.f (jo 13 (.sls 1 (.tmp 11) none (some (.tmp 12)) none))
 (.f (jm 15 1)
 (.f (jm 16 5)
 (.f (jo 17 (.sls 1 (.tmp 15) none (some (.tmp 16)) none))
 (.m (jc 14 19 13)
 (.m (jc 18 24 17)
 (.f (jo 19 (.bld [(.slice none 0 0), (.slice none 0 0)] [(0, 1, (.tmp 14)), (1, 1, (.tmp 18))]))
 (.m (jb 20 245 19)
 (.f (jm 4 20)
 .done))))))))))))
 .ret))),
 [.tmp 4]⟩
theorem low_writer_New : lowFn Tryz.prog movers 149 = some ⟨ir_writer_New.n, strip ir_writer_New.body, ir_writer_New.res⟩ := by kernel_rfl
def ir_writer_Write_Step : IFn := ⟨44,
 (.seq (.region [(jo 4 (.new 49 (.agg #[.int .i64 0, .int .i64 0, .int .i64 0, .int .u64 0, .int .u64 0, .bool false])))])
 (.seq (.seq (.region [(jm 7 0), (jc 8 152 7)])
 (.cond (.tmp 8)
 (.seq (.region [(jo 9 (.bld [(.int .i64 0), (.int .i64 0), (.int .i64 0), (.int .u64 0), (.int .u64 0), (.bool false)] [])), (jS 6 4 9)])
 .ret)
 .skip))
 (.seq (.draw (.f (jm 11 1)
 (.f (jm 12 0)
 (.f (jn 13 12)
 (.f (jf 14 0 13)
 (.f (jl 15 14)
 (.f (jo 16 (.ixs 1 (.tmp 15) (.const (.int .i64 0))))
 (.f (jl 17 16)
 (.f (jm 18 0)
 (.f (jn 19 18)
 (.f (jf 20 1 19)
 (.f (jl 21 20)
 (.f (jo 22 (.ixs 1 (.tmp 21) (.const (.int .i64 0))))
 (.f (jl 23 22)
 (.both (.m (jo 24 (.call 80 [(.tmp 11), (.const (.int .i64 1)), (.tmp 17), (.tmp 23)]))
 (.f (jm 10 24)
 (.f (je 25 10 0)
 (.f (je 26 10 1)
 (.m (jo 5 (.new 49 (.agg #[.int .i64 0, .int .i64 0, .int .i64 0, .int .u64 0, .int .u64 0, .bool false])))
 (.m (jS 6 5 25)
 (.f (jm 6 26)
 .done)))))))
 (.m (jo 5 (.new 49 (.agg #[.int .i64 0, .int .i64 0, .int .i64 0, .int .u64 0, .int .u64 0, .bool false])))
 (.m (jo 24 (.call 80 [(.tmp 11), (.const (.int .i64 1)), (.tmp 17), (.tmp 23)]))
 (.f (jm 10 24)
 (.f (je 25 10 0)
 (.f (je 26 10 1)
 (.m (jS 6 5 25)
 (.f (jm 6 26)
 .done))))))))))))))))))))))
 (.seq (.draw (.f (jm 27 0)
 (.f (jm 28 0)
 (.f (jm 29 0)
 (.f (jn 30 29)
 (.f (jf 31 0 30)
 (.f (jl 32 31)
 (.f (jo 33 (.sls 1 (.tmp 32) (some (.const (.int .i64 1))) none none))
 (.f (jm 34 0)
 (.f (jn 35 34)
 (.f (jf 36 1 35)
 (.f (jl 37 36)
 (.f (jo 38 (.sls 1 (.tmp 37) (some (.const (.int .i64 1))) none none))
 (.f (jn 39 27)
 (.f (jf 40 0 39)
 (.m (js 40 33)
 (.f (jn 41 28)
 (.f (jf 42 1 41)
 (.m (js 42 38)
 .done)))))))))))))))))))
 (.seq (.region [(jL 43 6 5), (jS 6 4 43)])
 .ret))))),
 [.cellN 4 6]⟩
theorem low_writer_Write_Step : lowFn Tryz.prog movers 151 = some ⟨ir_writer_Write_Step.n, strip ir_writer_Write_Step.body, ir_writer_Write_Step.res⟩ := by kernel_rfl
def ir_writer_Write_Done : IFn := ⟨9,
 (.seq (.region [(jo 2 (.mov (.const (.bool false))))])
 (.seq (.region [(jm 3 0), (jn 4 3), (jf 5 0 4), (jl 6 5), (jt 7 6), (jq 8 7 0), (jm 2 8)])
 .ret)),
 [.tmp 2]⟩
theorem low_writer_Write_Done : lowFn Tryz.prog movers 152 = some ⟨ir_writer_Write_Done.n, strip ir_writer_Write_Done.body, ir_writer_Write_Done.res⟩ := by kernel_rfl
end Go.Proofs.YtllddgdmmfmpkaaGreatDoor
namespace Go.Proofs.YtllddgdmmfmpkaaGreatDoor
open Go
set_option maxRecDepth 100000
def ir_locker_Lock_Step : IFn := ⟨93,
 (.seq (.region [(jo 4 (.new 49 (.agg #[.int .i64 0, .int .i64 0, .int .i64 0, .int .u64 0, .int .u64 0, .bool false])))])
 (.seq (.region [(jo 5 (.new 49 (.agg #[.int .i64 0, .int .i64 0, .int .i64 0, .int .u64 0, .int .u64 0, .bool false])))])
 (.seq (.block 0
 (.seq (.region [(jm 56 0), (jc 57 137 56), (jm 55 57)])
 (.cond (.tmp 55)
 .skip
 (.seq (.region [(jm 59 0), (jn 60 59), (jf 61 4 60), (jl 62 61), (jo 63 (.not (.tmp 62))), (jm 58 63)])
 (.cond (.tmp 58)
 (.seq (.draw (.f (jm 65 1)
 (.f (jm 66 0)
 (.f (jn 67 66)
 (.f (jf 68 1 67)
 (.f (jl 69 68)
 (.f (jm 70 0)
 (.f (jn 71 70)
 (.f (jf 72 2 71)
 (.f (jl 73 72)
 (.f (jt 74 73)
 (.f (jx 75 1 69 74)
 (.f (jl 76 75)
 (.m (jo 77 (.call 64 [(.tmp 65), (.const (.int .i64 2)), (.tmp 76)]))
 (.f (jm 64 77)
 (.f (je 78 64 0)
 (.f (je 79 64 1)
 (.m (jS 6 5 78)
 .done))))))))))))))))))
 (.draw (.f (jm 80 0)
 (.f (jm 81 0)
 (.f (jf 82 3 5)
 (.f (jl 83 82)
 (.f (jf 84 3 5)
 (.f (jl 85 84)
 (.f (jc 86 188 85)
 (.f (jo 87 (.bin .lss (.tmp 86) (.const (.int .i64 0))))
 (.f (jn 88 80)
 (.f (jf 89 3 88)
 (.m (js 89 83)
 (.f (jn 90 81)
 (.f (jf 91 4 90)
 (.m (js 91 87)
 .done))))))))))))))))
 (.seq (.draw (.f (jm 7 1)
 (.f (jm 8 0)
 (.f (jn 9 8)
 (.f (jf 10 1 9)
 (.f (jl 11 10)
 (.f (jm 12 0)
 (.f (jn 13 12)
 (.f (jf 14 2 13)
 (.f (jm 19 0)
 (.f (jn 20 19)
 (.f (jf 21 3 20)
 (.f (jl 22 21)
 (.f (jm 23 0)
 (.f (jn 24 23)
 (.f (jf 25 3 24)
 (.f (jl 26 25)
 (.f (jm 27 0)
 (.f (jn 28 27)
 (.f (jf 29 0 28)
 (.both (.f (jl 15 14)
 (.f (jt 16 15)
 (.f (jx 17 1 11 16)
 (.f (jl 18 17)
 (.f (jl 30 29)
 (.f (jo 31 (.conv .u64 (.tmp 30)))
 (.f (jo 32 (.bin .add (.tmp 26) (.tmp 31)))
 (.f (jo 33 (.bin .add (.tmp 32) (.const (.int .u64 1))))
 (.m (jo 34 (.call 121 [(.tmp 7), (.const (.int .i64 2)), (.tmp 18), (.tmp 22), (.tmp 33)]))
 (.f (jm 6 34)
 (.f (je 35 6 0)
 (.f (je 36 6 1)
 (.m (jS 6 5 35)
 .done)))))))))))))
 (.f (jl 30 29)
 (.f (jo 31 (.conv .u64 (.tmp 30)))
 (.f (jo 32 (.bin .add (.tmp 26) (.tmp 31)))
 (.f (jo 33 (.bin .add (.tmp 32) (.const (.int .u64 1))))
 (.f (jl 15 14)
 (.f (jt 16 15)
 (.f (jx 17 1 11 16)
 (.f (jl 18 17)
 (.m (jo 34 (.call 121 [(.tmp 7), (.const (.int .i64 2)), (.tmp 18), (.tmp 22), (.tmp 33)]))
 (.f (jm 6 34)
 (.f (je 35 6 0)
 (.f (je 36 6 1)
 (.m (jS 6 5 35)
 .done))))))))))))))))))))))))))))))))))
 (.seq (.region [(jm 37 0), (jn 38 37), (jf 39 4 38),
 ⟨none, .st (.tmp 39) (.const (.bool false)), none⟩])
 (.seq (.region [(jf 40 5 5), (jl 41 40)])
 (.cond (.tmp 41)
 (.draw (.f (jm 42 0)
 (.f (jm 43 0)
 (.f (jn 44 43)
 (.f (jf 45 2 44)
 (.f (jl 46 45)
 (.f (jm 47 0)
 (.f (jn 48 47)
 (.f (jf 49 3 48)
 (.f (jl 50 49)
 (.m (jo 51 (.blds 33 1 [(.int .u64 0)] [(0, 1, (.tmp 50))]))
 (.m (jo 52 (.app 33 1 8 [(.int .u64 0)] (.tmp 46) (.tmp 51)))
 (.f (jn 53 42)
 (.f (jf 54 2 53)
 (.m (js 54 52)
 .done)))))))))))))))
 .skip)))))))))
 (.seq (.region [(jL 92 6 5), (jS 6 4 92)])
 .ret)))),
 [.cellN 4 6]⟩
theorem low_locker_Lock_Step : lowFn Tryz.prog movers 136 = some ⟨ir_locker_Lock_Step.n, strip ir_locker_Lock_Step.body, ir_locker_Lock_Step.res⟩ := by kernel_rfl
def ir_locker_Lock_Done : IFn := ⟨14,
 (.seq (.region [(jo 2 (.mov (.const (.bool false))))])
 (.seq (.draw (.f (jm 3 0)
 (.f (jn 4 3)
 (.f (jf 5 2 4)
 (.f (jl 6 5)
 (.f (jt 7 6)
 (.f (jm 8 0)
 (.f (jn 9 8)
 (.f (jf 10 1 9)
 (.f (jl 11 10)
 (.f (jt 12 11)
 (.f (jo 13 (.bin .eql (.tmp 7) (.tmp 12)))
 (.f (jm 2 13)
 .done)))))))))))))
 .ret)),
 [.tmp 2]⟩
theorem low_locker_Lock_Done : lowFn Tryz.prog movers 137 = some ⟨ir_locker_Lock_Done.n, strip ir_locker_Lock_Done.body, ir_locker_Lock_Done.res⟩ := by kernel_rfl
def ir_locker_NewRelease : IFn := ⟨21,
 (.seq (.region [(jo 4 (.mov (.const (.pointer none))))])
 (.seq (.region [(jm 6 0), (jt 7 6), (jm 8 1), (jt 9 8), (jo 10 (.mm false (.tmp 7) (.tmp 9))), (jm 5 10)])
 (.seq (.draw (.f (jm 11 0)
 (.f (jm 12 5)
 (.f (jo 13 (.sls 1 (.tmp 11) none (some (.tmp 12)) none))
 (.f (jm 15 1)
 (.f (jm 16 5)
 (.f (jo 17 (.sls 1 (.tmp 15) none (some (.tmp 16)) none))
 (.m (jc 14 19 13)
 (.m (jc 18 24 17)
 (.f (jo 19 (.bld [(.slice none 0 0), (.slice none 0 0)] [(0, 1, (.tmp 14)), (1, 1, (.tmp 18))]))
 (.m (jb 20 247 19)
 (.f (jm 4 20)
 .done))))))))))))
 .ret))),
 [.tmp 4]⟩
theorem low_locker_NewRelease : lowFn Tryz.prog movers 155 = some ⟨ir_locker_NewRelease.n, strip ir_locker_NewRelease.body, ir_locker_NewRelease.res⟩ := by kernel_rfl
def ir_locker_Release_Step : IFn := ⟨44,
 (.seq (.region [(jo 4 (.new 49 (.agg #[.int .i64 0, .int .i64 0, .int .i64 0, .int .u64 0, .int .u64 0, .bool false])))])
 (.seq (.seq (.region [(jm 7 0), (jc 8 157 7)])
 (.cond (.tmp 8)
 (.seq (.region [(jo 9 (.bld [(.int .i64 0), (.int .i64 0), (.int .i64 0), (.int .u64 0), (.int .u64 0), (.bool false)] [])), (jS 6 4 9)])
 .ret)
 .skip))
 (.seq (.draw (.f (jm 11 1)
 (.f (jm 12 0)
 (.f (jn 13 12)
 (.f (jf 14 0 13)
 (.f (jl 15 14)
 (.f (jo 16 (.ixs 1 (.tmp 15) (.const (.int .i64 0))))
 (.f (jl 17 16)
 (.f (jm 18 0)
 (.f (jn 19 18)
 (.f (jf 20 1 19)
 (.f (jl 21 20)
 (.f (jo 22 (.ixs 1 (.tmp 21) (.const (.int .i64 0))))
 (.f (jl 23 22)
 (.both (.m (jo 24 (.call 80 [(.tmp 11), (.const (.int .i64 2)), (.tmp 17), (.tmp 23)]))
 (.f (jm 10 24)
 (.f (je 25 10 0)
 (.f (je 26 10 1)
 (.m (jo 5 (.new 49 (.agg #[.int .i64 0, .int .i64 0, .int .i64 0, .int .u64 0, .int .u64 0, .bool false])))
 (.m (jS 6 5 25)
 (.f (jm 6 26)
 .done)))))))
 (.m (jo 5 (.new 49 (.agg #[.int .i64 0, .int .i64 0, .int .i64 0, .int .u64 0, .int .u64 0, .bool false])))
 (.m (jo 24 (.call 80 [(.tmp 11), (.const (.int .i64 2)), (.tmp 17), (.tmp 23)]))
 (.f (jm 10 24)
 (.f (je 25 10 0)
 (.f (je 26 10 1)
 (.m (jS 6 5 25)
 (.f (jm 6 26)
 .done))))))))))))))))))))))
 (.seq (.draw (.f (jm 27 0)
 (.f (jm 28 0)
 (.f (jm 29 0)
 (.f (jn 30 29)
 (.f (jf 31 0 30)
 (.f (jl 32 31)
 (.f (jo 33 (.sls 1 (.tmp 32) (some (.const (.int .i64 1))) none none))
 (.f (jm 34 0)
 (.f (jn 35 34)
 (.f (jf 36 1 35)
 (.f (jl 37 36)
 (.f (jo 38 (.sls 1 (.tmp 37) (some (.const (.int .i64 1))) none none))
 (.f (jn 39 27)
 (.f (jf 40 0 39)
 (.m (js 40 33)
 (.f (jn 41 28)
 (.f (jf 42 1 41)
 (.m (js 42 38)
 .done)))))))))))))))))))
 (.seq (.region [(jL 43 6 5), (jS 6 4 43)])
 .ret))))),
 [.cellN 4 6]⟩
theorem low_locker_Release_Step : lowFn Tryz.prog movers 156 = some ⟨ir_locker_Release_Step.n, strip ir_locker_Release_Step.body, ir_locker_Release_Step.res⟩ := by kernel_rfl
def ir_locker_Release_Done : IFn := ⟨9,
 (.seq (.region [(jo 2 (.mov (.const (.bool false))))])
 (.seq (.region [(jm 3 0), (jn 4 3), (jf 5 0 4), (jl 6 5), (jt 7 6), (jq 8 7 0), (jm 2 8)])
 .ret)),
 [.tmp 2]⟩
theorem low_locker_Release_Done : lowFn Tryz.prog movers 157 = some ⟨ir_locker_Release_Done.n, strip ir_locker_Release_Done.body, ir_locker_Release_Done.res⟩ := by kernel_rfl
def ir_locker_Sorted : IFn := ⟨10,
 (.seq (.region [(jo 2 (.mov (.const (.slice none 0 0))))])
 (.seq (.region [(jm 4 0), (jc 5 19 4), (jm 3 5)])
 (.seq (.region [(jm 6 3), (jc 7 197 6)])
 (.seq (.region [(jm 8 3), (jc 9 198 8), (jm 2 9)])
 .ret)))),
 [.tmp 2]⟩
theorem low_locker_Sorted : lowFn Tryz.prog movers 163 = some ⟨ir_locker_Sorted.n, strip ir_locker_Sorted.body, ir_locker_Sorted.res⟩ := by kernel_rfl
def ir_locker_NewLock : IFn := ⟨10,
 (.seq (.region [(jo 4 (.mov (.const (.pointer none))))])
 (.seq (.region [(jm 5 0), (jm 6 1), (jc 7 163 6), (jo 8 (.bld [(.int .i64 0), (.slice none 0 0), (.slice none 0 0), (.int .u64 0), (.bool false)] [(0, 1, (.tmp 5)), (1, 1, (.tmp 7))])),
 (jb 9 241 8), (jm 4 9)])
 .ret)),
 [.tmp 4]⟩
theorem low_locker_NewLock : lowFn Tryz.prog movers 164 = some ⟨ir_locker_NewLock.n, strip ir_locker_NewLock.body, ir_locker_NewLock.res⟩ := by kernel_rfl
def ir_locker_Lock_Old : IFn := ⟨8,
 (.seq (.region [(jo 2 (.mov (.const (.slice none 0 0))))])
 (.seq (.region [(jm 3 0), (jn 4 3), (jf 5 2 4), (jl 6 5), (jc 7 24 6), (jm 2 7)])
 .ret)),
 [.tmp 2]⟩
theorem low_locker_Lock_Old : lowFn Tryz.prog movers 193 = some ⟨ir_locker_Lock_Old.n, strip ir_locker_Lock_Old.body, ir_locker_Lock_Old.res⟩ := by kernel_rfl
end Go.Proofs.YtllddgdmmfmpkaaGreatDoor
namespace Go.Proofs.YtllddgdmmfmpkaaGreatDoor
open Go
set_option maxRecDepth 100000
def ir_readset_Set_Add : IFn := ⟨33,
 (.seq (.region [(jo 4 (.mov (.const (.bool false))))])
 (.seq (.block 0
 (.seq (.region [(jm 6 0), (jo 7 (.nilq false 1 (.tmp 6) (.const (.pointer none)))), (jm 5 7)])
 (.cond (.tmp 5)
 (.seq (.region [(jo 4 (.mov (.const (.bool false))))])
 .ret)
 (.seq (.region [(jm 9 0), (jm 10 1), (jC 11 191 9 10), (jm 8 11)])
 (.cond (.tmp 8)
 (.seq (.region [(jo 4 (.mov (.const (.bool true))))])
 .ret)
 (.seq (.draw (.f (jm 13 0)
 (.f (jn 14 13)
 (.f (jf 15 1 14)
 (.f (jl 16 15)
 (.f (jt 17 16)
 (.f (jm 18 0)
 (.f (jn 19 18)
 (.f (jf 20 0 19)
 (.f (jl 21 20)
 (.f (jo 22 (.bin .geq (.tmp 17) (.tmp 21)))
 (.f (jm 12 22)
 .done))))))))))))
 (.cond (.tmp 12)
 (.seq (.region [(jo 4 (.mov (.const (.bool false))))])
 .ret)
 .skip)))))))
 (.seq (.region [(jm 23 0), (jm 24 0), (jn 25 24), (jf 26 1 25), (jl 27 26), (jm 28 1), (jo 29 (.blds 3 1 [(.int .i64 0)] [(0, 1, (.tmp 28))])), (jo 30 (.app 3 1 8 [(.int .i64 0)] (.tmp 27) (.tmp 29))),
 (jn 31 23), (jf 32 1 31), (js 32 30)])
 (.seq (.region [(jo 4 (.mov (.const (.bool true))))])
 .ret)))),
 [.tmp 4]⟩
theorem low_readset_Set_Add : lowFn Tryz.prog movers 130 = some ⟨ir_readset_Set_Add.n, strip ir_readset_Set_Add.body, ir_readset_Set_Add.res⟩ := by kernel_rfl
def ir_readset_Set_List : IFn := ⟨10,
 (.seq (.region [(jo 2 (.mov (.const (.slice none 0 0))))])
 (.seq (.seq (.region [(jm 3 0), (jo 4 (.nilq false 1 (.tmp 3) (.const (.pointer none))))])
 (.cond (.tmp 4)
 (.seq (.region [(jo 2 (.mov (.const (.slice none 0 0))))])
 .ret)
 .skip))
 (.seq (.region [(jm 5 0), (jn 6 5), (jf 7 1 6), (jl 8 7), (jc 9 19 8), (jm 2 9)])
 .ret))),
 [.tmp 2]⟩
theorem low_readset_Set_List : lowFn Tryz.prog movers 142 = some ⟨ir_readset_Set_List.n, strip ir_readset_Set_List.body, ir_readset_Set_List.res⟩ := by kernel_rfl
def ir_readset_New : IFn := ⟨8,
 (.seq (.region [(jo 2 (.mov (.const (.pointer none))))])
 (.seq (.region [(jm 3 0), (jo 4 (.mm false (.tmp 3) (.const (.int .i64 32)))), (jo 5 (.mm true (.const (.int .i64 0)) (.tmp 4))), (jo 6 (.bld [(.int .i64 0), (.slice none 0 0)] [(0, 1, (.tmp 5))])),
 (jb 7 237 6), (jm 2 7)])
 .ret)),
 [.tmp 2]⟩
theorem low_readset_New : lowFn Tryz.prog movers 168 = some ⟨ir_readset_New.n, strip ir_readset_New.body, ir_readset_New.res⟩ := by kernel_rfl
def ir_readset_Set_Has : IFn := ⟨15,
 (.seq (.region [(jo 4 (.mov (.const (.bool false))))])
 (.seq (.region [(jm 5 0), (jo 6 (.nilq true 1 (.tmp 5) (.const (.pointer none)))), (jm 7 6), (jy 7 (jm 8 0)), (jy 7 (jn 9 8)), (jy 7 (jf 10 1 9)), (jy 7 (jl 11 10)),
 (jy 7 (jm 12 1)), (jy 7 (jC 13 129 11 12)), (jA 14 7 13), (jm 4 14)])
 .ret)),
 [.tmp 4]⟩
theorem low_readset_Set_Has : lowFn Tryz.prog movers 191 = some ⟨ir_readset_Set_Has.n, strip ir_readset_Set_Has.body, ir_readset_Set_Has.res⟩ := by kernel_rfl
end Go.Proofs.YtllddgdmmfmpkaaGreatDoor
