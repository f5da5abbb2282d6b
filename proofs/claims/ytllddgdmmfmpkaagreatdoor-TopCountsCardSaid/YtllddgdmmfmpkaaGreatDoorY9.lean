/- What the laws share, part 9. No condition. -/
import Derived.Test.YtllddgdmmfmpkaaGreatDoorRows
import Derived.Test.YtllddgdmmfmpkaaGreatDoorY8
namespace Go.Proofs.YtllddgdmmfmpkaaGreatDoor
open Go
set_option maxRecDepth 100000
theorem mixed : Tryz.prog.follows .mixedOrders = true := by kernel_rfl
def movers : List Nat := [6, 7, 8, 9, 10, 12, 13, 14, 15, 16, 18, 19, 23, 24, 25, 26, 27, 28, 30, 31, 32, 33, 38, 40, 42, 45, 46, 47, 49, 51, 52, 53, 55, 56, 57, 58, 59, 60, 64, 65, 67, 69, 71, 72, 73, 74, 75, 76, 77, 78, 79, 80, 81, 83, 84, 85, 86, 88, 89, 90, 92, 93, 94, 96, 97, 99, 100, 102, 103, 104, 105, 106, 107, 108, 115, 121, 123, 125, 128, 130, 133, 136, 138, 139, 141, 142, 145, 147, 149, 150, 151, 155, 156, 160, 161, 163, 164, 166, 167, 168, 169, 170, 171, 172, 173, 174, 176, 177, 178, 179, 192, 193, 197, 198, 199]
end Go.Proofs.YtllddgdmmfmpkaaGreatDoor
namespace Go.Proofs.YtllddgdmmfmpkaaGreatDoor
open Go
set_option maxRecDepth 100000
abbrev jm (n x : Nat) : IOpr := ⟨some n, .mov (.tmp x), none⟩
abbrev jk (n : Nat) (k : Int) : IOpr := ⟨some n, .mov (.const (.int .i64 k)), none⟩
abbrev jf (n k x : Nat) : IOpr := ⟨some n, .fad k (.tmp x), none⟩
abbrev jl (n x : Nat) : IOpr := ⟨some n, .ld (.tmp x), none⟩
abbrev jL (n k x : Nat) : IOpr := ⟨some n, .ldN k (.tmp x), none⟩
abbrev jn (n x : Nat) : IOpr := ⟨some n, .nilc (.tmp x), none⟩
abbrev jb (n k x : Nat) : IOpr := ⟨some n, .box k (.tmp x), none⟩
abbrev jt (n x : Nat) : IOpr := ⟨some n, .len (.tmp x), none⟩
abbrev jq (n x : Nat) (k : Int) : IOpr := ⟨some n, .bin .eql (.tmp x) (.const (.int .i64 k)), none⟩
abbrev ja (n x : Nat) (k : Int) : IOpr := ⟨some n, .bin .add (.tmp x) (.const (.int .i64 k)), none⟩
abbrev jw (n x y : Nat) : IOpr := ⟨some n, .bin .lss (.tmp x) (.tmp y), none⟩
abbrev jc (n k x : Nat) : IOpr := ⟨some n, .call k [.tmp x], none⟩
abbrev jC (n k x y : Nat) : IOpr := ⟨some n, .call k [.tmp x, .tmp y], none⟩
abbrev jx (n k x y : Nat) : IOpr := ⟨some n, .ixs k (.tmp x) (.tmp y), none⟩
abbrev jA (n c x : Nat) : IOpr := ⟨some n, .pick (.tmp c) (.tmp x) (.const (.bool false)), none⟩
abbrev jO (n c x : Nat) : IOpr := ⟨some n, .pick (.tmp c) (.const (.bool true)) (.tmp x), none⟩
abbrev js (x y : Nat) : IOpr := ⟨none, .st (.tmp x) (.tmp y), none⟩
abbrev jS (n x y : Nat) : IOpr := ⟨none, .stN n (.tmp x) (.tmp y), none⟩
abbrev je (n x k : Nat) : IOpr := ⟨some n, .ext (.tmp x) k, none⟩
abbrev jo (n : Nat) (o : IOp) : IOpr := ⟨some n, o, none⟩
abbrev jy (g : Nat) (r : IOpr) : IOpr := ⟨r.dst, r.op, some (g, true)⟩
abbrev jz (g : Nat) (r : IOpr) : IOpr := ⟨r.dst, r.op, some (g, false)⟩
def ir_alu_Apply : IFn := ⟨42,
 (.seq (.region [(jo 6 (.mov (.const (.int .u64 0)))), (jk 7 0)])
 (.seq (.block 0
 (.seq (.region [(jm 9 0), (jo 10 (.bin .lss (.tmp 9) (.const (.int .i64 0)))), (jm 11 10), (jz 11 (jm 12 0)), (jz 11 (jo 13 (.bin .geq (.tmp 12) (.const (.int .i64 22))))),
 (jO 14 11 13), (jm 8 14)])
 (.cond (.tmp 8)
 (.seq (.region [(jo 6 (.mov (.const (.int .u64 0)))), (jk 7 10)])
 .ret)
 (.seq (.region [(jm 16 0), (jq 17 16 20), (jm 15 17)])
 (.cond (.tmp 15)
 (.seq (.region [(jm 18 1), (jo 19 (.conv .i64 (.tmp 18))), (jo 20 (.i2f (.tmp 19))), (jo 21 (.fbits (.tmp 20))), (jm 6 21), (jk 7 0)])
 .ret)
 (.seq (.region [(jm 23 0), (jq 24 23 21), (jm 22 24)])
 (.cond (.tmp 22)
 (.seq (.region [(jm 25 1), (jo 26 (.ffrom (.tmp 25))), (jc 27 181 26), (jo 28 (.conv .u64 (.tmp 27))), (jm 6 28), (jk 7 0)])
 .ret)
 (.seq (.region [(jm 30 0), (jo 31 (.bin .geq (.tmp 30) (.const (.int .i64 12)))), (jm 29 31)])
 (.cond (.tmp 29)
 (.seq (.region [(jm 32 0), (jm 33 1), (jo 34 (.ffrom (.tmp 33))), (jm 35 2), (jo 36 (.ffrom (.tmp 35))), (jo 37 (.call 183 [(.tmp 32), (.tmp 34), (.tmp 36)])),
 (jm 6 37), (jk 7 0)])
 .ret)
 .skip)))))))))
 (.seq (.region [(jm 38 0), (jm 39 1), (jm 40 2), (jo 41 (.call 184 [(.tmp 38), (.tmp 39), (.tmp 40)])), (jm 6 41), (jk 7 0)])
 .ret))),
 [.tmp 6, .tmp 7]⟩
theorem low_alu_Apply : lowFn Tryz.prog movers 109 = some ⟨ir_alu_Apply.n, strip ir_alu_Apply.body, ir_alu_Apply.res⟩ := by kernel_rfl
def ir_alu_toInt : IFn := ⟨14,
 (.seq (.region [(jk 2 0)])
 (.seq (.block 0
 (.seq (.region [(jm 4 0), (jc 5 202 4), (jm 3 5)])
 (.cond (.tmp 3)
 (.seq (.region [(jk 2 0)])
 .ret)
 (.seq (.region [(jm 7 0), (jo 8 (.fbin .geq (.tmp 7) (.const (.float .f64 4890909195324358656)))), (jm 6 8)])
 (.cond (.tmp 6)
 (.seq (.region [(jk 2 9223372036854775807)])
 .ret)
 (.seq (.region [(jm 10 0), (jo 11 (.fbin .lss (.tmp 10) (.const (.float .f64 14114281232179134464)))), (jm 9 11)])
 (.cond (.tmp 9)
 (.seq (.region [(jo 2 (.mov (.const (.int .i64 (-9223372036854775808)))))])
 .ret)
 .skip)))))))
 (.seq (.region [(jm 12 0), (jo 13 (.f2i .i64 (.tmp 12))), (jm 2 13)])
 .ret))),
 [.tmp 2]⟩
theorem low_alu_toInt : lowFn Tryz.prog movers 181 = some ⟨ir_alu_toInt.n, strip ir_alu_toInt.body, ir_alu_toInt.res⟩ := by kernel_rfl
def ir_alu_floats : IFn := ⟨64,
 (.seq (.region [(jo 6 (.mov (.const (.int .u64 0))))])
 (.seq (.region [(jm 8 1), (jc 9 202 8), (jm 10 9), (jz 10 (jm 11 2)), (jz 10 (jc 12 202 11)), (jO 13 10 12), (jm 7 13)])
 (.seq (.seq (.region [(jm 14 0)])
 (.block 0
 (.seq (.region [(jq 16 14 12), (jm 15 16)])
 (.cond (.tmp 15)
 (.seq (.region [(jm 17 1), (jm 18 2), (jo 19 (.flt .add (.tmp 17) (.tmp 18))), (jc 20 203 19), (jm 6 20)])
 .ret)
 (.seq (.region [(jq 22 14 13), (jm 21 22)])
 (.cond (.tmp 21)
 (.seq (.region [(jm 23 1), (jm 24 2), (jo 25 (.flt .sub (.tmp 23) (.tmp 24))), (jc 26 203 25), (jm 6 26)])
 .ret)
 (.seq (.region [(jq 28 14 14), (jm 27 28)])
 (.cond (.tmp 27)
 (.seq (.region [(jm 29 1), (jm 30 2), (jo 31 (.flt .mul (.tmp 29) (.tmp 30))), (jc 32 203 31), (jm 6 32)])
 .ret)
 (.seq (.region [(jq 34 14 15), (jm 33 34)])
 (.cond (.tmp 33)
 (.seq (.region [(jm 35 1), (jm 36 2), (jo 37 (.flt .quo (.tmp 35) (.tmp 36))), (jc 38 203 37), (jm 6 38)])
 .ret)
 (.seq (.region [(jq 40 14 18), (jm 39 40)])
 (.cond (.tmp 39)
 (.seq (.region [(jm 41 1), (jm 42 2), (jo 43 (.fbin .eql (.tmp 41) (.tmp 42))), (jc 44 204 43), (jm 6 44)])
 .ret)
 (.seq (.region [(jq 46 14 19), (jm 45 46)])
 (.cond (.tmp 45)
 (.seq (.region [(jm 47 1), (jm 48 2), (jo 49 (.fbin .lss (.tmp 47) (.tmp 48))), (jc 50 204 49), (jm 6 50)])
 .ret)
 .skip))))))))))))))
 (.seq (.block 1
 (.seq (.region [(jm 52 7), (jm 51 52)])
 (.cond (.tmp 51)
 (.seq (.region [(jo 6 (.mov (.const (.int .u64 9221120237041090560))))])
 .ret)
 (.seq (.region [(jm 54 0), (jq 55 54 16), (jm 53 55)])
 (.cond (.tmp 53)
 (.seq (.region [(jm 56 1), (jm 57 2), (jC 58 205 56 57), (jc 59 203 58), (jm 6 59)])
 .ret)
 .skip)))))
 (.seq (.region [(jm 60 1), (jm 61 2), (jC 62 206 60 61), (jc 63 203 62), (jm 6 63)])
 .ret))))),
 [.tmp 6]⟩
theorem low_alu_floats : lowFn Tryz.prog movers 183 = some ⟨ir_alu_floats.n, strip ir_alu_floats.body, ir_alu_floats.res⟩ := by kernel_rfl
def ir_alu_integers : IFn := ⟨74,
 (.seq (.region [(jo 6 (.mov (.const (.int .u64 0))))])
 (.seq (.seq (.region [(jm 7 0)])
 (.block 0
 (.seq (.region [(jq 9 7 0), (jm 8 9)])
 (.cond (.tmp 8)
 (.seq (.region [(jm 10 1), (jm 11 2), (jo 12 (.bin .add (.tmp 10) (.tmp 11))), (jm 6 12)])
 .ret)
 (.seq (.region [(jq 14 7 1), (jm 13 14)])
 (.cond (.tmp 13)
 (.seq (.region [(jm 15 1), (jm 16 2), (jo 17 (.bin .sub (.tmp 15) (.tmp 16))), (jm 6 17)])
 .ret)
 (.seq (.region [(jq 19 7 2), (jm 18 19)])
 (.cond (.tmp 18)
 (.seq (.region [(jm 20 1), (jm 21 2), (jo 22 (.bin .mul (.tmp 20) (.tmp 21))), (jm 6 22)])
 .ret)
 (.seq (.region [(jq 24 7 3), (jm 23 24)])
 (.cond (.tmp 23)
 (.seq (.region [(jm 25 1), (jm 26 2), (jo 27 (.bin .and (.tmp 25) (.tmp 26))), (jm 6 27)])
 .ret)
 (.seq (.region [(jq 29 7 4), (jm 28 29)])
 (.cond (.tmp 28)
 (.seq (.region [(jm 30 1), (jm 31 2), (jo 32 (.bin .or (.tmp 30) (.tmp 31))), (jm 6 32)])
 .ret)
 (.seq (.region [(jq 34 7 5), (jm 33 34)])
 (.cond (.tmp 33)
 (.seq (.region [(jm 35 1), (jm 36 2), (jo 37 (.bin .xor (.tmp 35) (.tmp 36))), (jm 6 37)])
 .ret)
 (.seq (.region [(jq 39 7 6), (jm 38 39)])
 (.cond (.tmp 38)
 (.seq (.region [(jm 40 1), (jm 41 2), (jo 42 (.bin .rem (.tmp 41) (.const (.int .u64 64)))), (jo 43 (.bin .shl (.tmp 40) (.tmp 42))), (jm 6 43)])
 .ret)
 (.seq (.region [(jq 45 7 7), (jm 44 45)])
 (.cond (.tmp 44)
 (.seq (.region [(jm 46 1), (jm 47 2), (jo 48 (.bin .rem (.tmp 47) (.const (.int .u64 64)))), (jo 49 (.bin .shr (.tmp 46) (.tmp 48))), (jm 6 49)])
 .ret)
 (.seq (.region [(jq 51 7 8), (jm 50 51)])
 (.cond (.tmp 50)
 (.seq (.region [(jm 52 1), (jm 53 2), (jo 54 (.bin .eql (.tmp 52) (.tmp 53))), (jc 55 204 54), (jm 6 55)])
 .ret)
 (.seq (.region [(jq 57 7 9), (jm 56 57)])
 (.cond (.tmp 56)
 (.seq (.region [(jm 58 1), (jm 59 2), (jo 60 (.bin .neq (.tmp 58) (.tmp 59))), (jc 61 204 60), (jm 6 61)])
 .ret)
 (.seq (.region [(jq 63 7 10), (jm 62 63)])
 (.cond (.tmp 62)
 (.seq (.region [(jm 64 1), (jo 65 (.conv .i64 (.tmp 64))), (jm 66 2), (jo 67 (.conv .i64 (.tmp 66))), (jw 68 65 67), (jc 69 204 68), (jm 6 69)])
 .ret)
 .skip))))))))))))))))))))))))
 (.seq (.region [(jm 70 1), (jm 71 2), (jw 72 70 71), (jc 73 204 72), (jm 6 73)])
 .ret))),
 [.tmp 6]⟩
theorem low_alu_integers : lowFn Tryz.prog movers 184 = some ⟨ir_alu_integers.n, strip ir_alu_integers.body, ir_alu_integers.res⟩ := by kernel_rfl
def ir_alu_plain : IFn := ⟨7,
 (.seq (.region [(jo 2 (.mov (.const (.int .u64 0))))])
 (.seq (.seq (.region [(jm 3 0), (jc 4 202 3)])
 (.cond (.tmp 4)
 (.seq (.region [(jo 2 (.mov (.const (.int .u64 9221120237041090560))))])
 .ret)
 .skip))
 (.seq (.region [(jm 5 0), (jo 6 (.fbits (.tmp 5))), (jm 2 6)])
 .ret))),
 [.tmp 2]⟩
theorem low_alu_plain : lowFn Tryz.prog movers 203 = some ⟨ir_alu_plain.n, strip ir_alu_plain.body, ir_alu_plain.res⟩ := by kernel_rfl
def ir_alu_truth : IFn := ⟨4,
 (.seq (.region [(jo 2 (.mov (.const (.int .u64 0))))])
 (.seq (.seq (.region [(jm 3 0)])
 (.cond (.tmp 3)
 (.seq (.region [(jo 2 (.mov (.const (.int .u64 1))))])
 .ret)
 .skip))
 (.seq (.region [(jo 2 (.mov (.const (.int .u64 0))))])
 .ret))),
 [.tmp 2]⟩
theorem low_alu_truth : lowFn Tryz.prog movers 204 = some ⟨ir_alu_truth.n, strip ir_alu_truth.body, ir_alu_truth.res⟩ := by kernel_rfl
end Go.Proofs.YtllddgdmmfmpkaaGreatDoor
namespace Go.Proofs.YtllddgdmmfmpkaaGreatDoor
open Go
set_option maxRecDepth 100000
def ir_math_IsNaN : IFn := ⟨6,
 (.seq (.region [(jo 2 (.mov (.const (.bool false))))])
 (.seq (.region [(jm 3 0), (jm 4 0), (jo 5 (.fbin .neq (.tmp 3) (.tmp 4))), (jm 2 5)])
 .ret)),
 [.tmp 2]⟩
theorem low_math_IsNaN : lowFn Tryz.prog movers 202 = some ⟨ir_math_IsNaN.n, strip ir_math_IsNaN.body, ir_math_IsNaN.res⟩ := by kernel_rfl
def ir_math_Min : IFn := ⟨11,
 (.seq (.region [(jo 4 (.mov (.const (.float .f64 0))))])
 (.seq (.cond (.const (.bool true))
 (.seq (.region [(jm 5 0), (jm 6 1), (jo 7 (.fpk true (.tmp 5) (.tmp 6))), (jm 4 7)])
 .ret)
 .skip)
 (.seq (.region [(jm 8 0), (jm 9 1), (jC 10 212 8 9), (jm 4 10)])
 .ret))),
 [.tmp 4]⟩
theorem low_math_Min : lowFn Tryz.prog movers 205 = some ⟨ir_math_Min.n, strip ir_math_Min.body, ir_math_Min.res⟩ := by kernel_rfl
def ir_math_Max : IFn := ⟨11,
 (.seq (.region [(jo 4 (.mov (.const (.float .f64 0))))])
 (.seq (.cond (.const (.bool true))
 (.seq (.region [(jm 5 0), (jm 6 1), (jo 7 (.fpk false (.tmp 5) (.tmp 6))), (jm 4 7)])
 .ret)
 .skip)
 (.seq (.region [(jm 8 0), (jm 9 1), (jC 10 214 8 9), (jm 4 10)])
 .ret))),
 [.tmp 4]⟩
theorem low_math_Max : lowFn Tryz.prog movers 206 = some ⟨ir_math_Max.n, strip ir_math_Max.body, ir_math_Max.res⟩ := by kernel_rfl
end Go.Proofs.YtllddgdmmfmpkaaGreatDoor
namespace Go.Proofs.YtllddgdmmfmpkaaGreatDoor
open Go
set_option maxRecDepth 100000
def ir_isa_Check : IFn := ⟨56,
 (.seq (.region [(jb 1 26 0), (jk 2 0)])
 (.seq (.seq (.region [(jf 6 0 1), (jl 7 6), (jo 8 (.bin .lss (.tmp 7) (.const (.int .i64 0)))), (jm 9 8), (jz 9 (jf 10 0 1)), (jz 9 (jl 11 10)), (jz 9 (jo 12 (.bin .geq (.tmp 11) (.const (.int .i64 18))))),
 (jO 13 9 12)])
 (.cond (.tmp 13)
 (.seq (.region [(jk 2 10)])
 .ret)
 .skip))
 (.seq (.seq (.region [(jf 14 1 1), (jl 15 14), (jf 16 2 1), (jl 17 16), (jf 18 3 1), (jl 19 18), (jo 20 (.bld [(.int .i64 0), (.int .i64 0), (.int .i64 0)] [(0, 1, (.tmp 15)), (1, 1, (.tmp 17)), (2, 1, (.tmp 19))])),
 (jk 21 0)])
 (.block 0
 (.loop 9007199252643900
 (.seq (.region [(jo 22 (.bin .lss (.tmp 21) (.const (.int .i64 3))))])
 (.seq (.cond (.tmp 22)
 .skip
 (.exit 0))
 (.seq (.block 1
 (.seq (.region [(jm 23 21), (jo 24 (.idx 3 (.tmp 20) (.tmp 21))), (jm 3 23), (jm 4 24)])
 (.seq (.draw (.f (jf 25 0 1)
 (.f (jl 26 25)
 (.f (jo 27 (.ixa 18 2 (.global 0) (.tmp 26)))
 (.f (jf 28 1 27)
 (.f (jl 29 28)
 (.f (jm 30 3)
 (.f (jm 31 3)
 (.f (ja 32 31 1)
 (.f ⟨some 33, .sslc (.const (.string ⟨#[65, 66, 67]⟩)) (some (.tmp 30)) (some (.tmp 32)), none⟩
 (.f (jC 34 110 29 33)
 (.f (jm 5 34)
 .done))))))))))))
 (.seq (.region [(jm 35 5), (jm 36 35), (jy 36 (jm 37 4)), (jy 36 (jo 38 (.bin .lss (.tmp 37) (.const (.int .i64 0))))), (jy 36 (jm 39 38)), (jz 39 (jm 40 4)), (jz 39 (jo 41 (.bin .geq (.tmp 40) (.const (.int .i64 8))))),
 (jy 36 (jO 42 39 41)), (jA 43 36 42), (jm 44 43), (jz 44 (jm 45 5)), (jz 44 (jo 46 (.not (.tmp 45)))), (jz 44 (jm 47 46)), (jy 47 (jm 48 4)), (jy 47 (jo 49 (.bin .neq (.tmp 48) (.const (.int .i64 0))))),
 (jz 44 (jA 50 47 49)), (jO 51 44 50)])
 (.cond (.tmp 51)
 (.seq (.region [(jk 2 11)])
 .ret)
 .skip)))))
 (.region [(ja 52 21 1), (jm 21 52)])))))))
 (.seq (.seq (.region [(jL 53 5 1), (jc 54 111 53), (jo 55 (.not (.tmp 54)))])
 (.cond (.tmp 55)
 (.seq (.region [(jk 2 11)])
 .ret)
 .skip))
 (.seq (.region [(jk 2 0)])
 .ret))))),
 [.tmp 2]⟩
theorem low_isa_Check : lowFn Tryz.prog movers 61 = some ⟨ir_isa_Check.n, strip ir_isa_Check.body, ir_isa_Check.res⟩ := by kernel_rfl
def ir_isa_Place : IFn := ⟨21,
 (.seq (.region [(jb 1 26 0), (jk 2 0)])
 (.seq (.seq (.region [(jL 3 5 1), (jc 4 61 3), (jq 5 4 0)])
 (.cond (.tmp 5)
 (.seq (.region [(jf 6 0 1), (jl 7 6)])
 (.block 0
 (.seq (.seq (.region [(jq 9 7 8), (jm 8 9)])
 (.cond (.tmp 8)
 .skip
 (.seq (.region [(jq 10 7 9), (jm 8 10)])
 (.cond (.tmp 8)
 .skip
 (.seq (.region [(jq 11 7 10), (jm 8 11)])
 (.cond (.tmp 8)
 .skip
 (.seq (.region [(jq 12 7 11), (jm 8 12)])
 (.cond (.tmp 8)
 .skip
 (.seq (.region [(jq 13 7 14), (jm 8 13)])
 (.cond (.tmp 8)
 .skip
 (.region [(jq 14 7 15), (jm 8 14)])))))))))))
 (.cond (.tmp 8)
 (.seq (.region [(jk 2 1)])
 .ret)
 (.seq (.seq (.region [(jq 16 7 7), (jm 15 16)])
 (.cond (.tmp 15)
 .skip
 (.seq (.region [(jq 17 7 12), (jm 15 17)])
 (.cond (.tmp 15)
 .skip
 (.seq (.region [(jq 18 7 13), (jm 15 18)])
 (.cond (.tmp 15)
 .skip
 (.seq (.region [(jq 19 7 16), (jm 15 19)])
 (.cond (.tmp 15)
 .skip
 (.region [(jq 20 7 17), (jm 15 20)])))))))))
 (.cond (.tmp 15)
 (.seq (.region [(jk 2 2)])
 .ret)
 .skip))))))
 .skip))
 (.seq (.region [(jk 2 0)])
 .ret))),
 [.tmp 2]⟩
theorem low_isa_Place : lowFn Tryz.prog movers 62 = some ⟨ir_isa_Place.n, strip ir_isa_Place.body, ir_isa_Place.res⟩ := by kernel_rfl
def ir_isa_number : IFn := ⟨56,
 (.seq (.region [(jb 1 26 0), (jo 2 (.mov (.const (.bool false))))])
 (.seq (.seq (.region [(jf 3 0 1), (jl 4 3)])
 (.block 0
 (.seq (.seq (.region [(jq 6 4 1), (jm 5 6)])
 (.cond (.tmp 5)
 .skip
 (.seq (.region [(jq 7 4 10), (jm 5 7)])
 (.cond (.tmp 5)
 .skip
 (.seq (.region [(jq 8 4 11), (jm 5 8)])
 (.cond (.tmp 5)
 .skip
 (.seq (.region [(jq 9 4 12), (jm 5 9)])
 (.cond (.tmp 5)
 .skip
 (.region [(jq 10 4 13), (jm 5 10)])))))))))
 (.cond (.tmp 5)
 (.seq (.region [(jo 2 (.mov (.const (.bool true))))])
 .ret)
 (.seq (.region [(jq 12 4 3), (jm 11 12)])
 (.cond (.tmp 11)
 (.seq (.region [(jf 13 4 1), (jl 14 13), (jo 15 (.bin .geq (.tmp 14) (.const (.int .i64 0)))), (jm 16 15), (jy 16 (jf 17 4 1)), (jy 16 (jl 18 17)), (jy 16 (jo 19 (.bin .lss (.tmp 18) (.const (.int .i64 22))))),
 (jA 20 16 19), (jm 2 20)])
 .ret)
 (.seq (.seq (.region [(jq 22 4 4), (jm 21 22)])
 (.cond (.tmp 21)
 .skip
 (.seq (.region [(jq 23 4 5), (jm 21 23)])
 (.cond (.tmp 21)
 .skip
 (.region [(jq 24 4 6), (jm 21 24)])))))
 (.cond (.tmp 21)
 (.seq (.region [(jf 25 4 1), (jl 26 25), (jo 27 (.bin .geq (.tmp 26) (.const (.int .i64 0)))), (jm 28 27), (jy 28 (jf 29 4 1)), (jy 28 (jl 30 29)), (jy 28 (jo 31 (.bin .leq (.tmp 30) (.const (.int .i64 64))))),
 (jA 32 28 31), (jm 2 32)])
 .ret)
 (.seq (.region [(jq 34 4 7), (jm 33 34)])
 (.cond (.tmp 33)
 (.seq (.region [(jf 35 4 1), (jl 36 35), (jo 37 (.bin .geq (.tmp 36) (.const (.int .i64 1)))), (jm 38 37), (jy 38 (jf 39 4 1)), (jy 38 (jl 40 39)), (jy 38 (jo 41 (.bin .leq (.tmp 40) (.const (.int .i64 8))))),
 (jA 42 38 41), (jm 2 42)])
 .ret)
 (.seq (.region [(jq 44 4 14), (jm 43 44)])
 (.cond (.tmp 43)
 (.seq (.region [(jf 45 4 1), (jl 46 45), (jo 47 (.bin .geq (.tmp 46) (.const (.int .i64 0)))), (jm 48 47), (jy 48 (jf 49 4 1)), (jy 48 (jl 50 49)), (jy 48 (jo 51 (.bin .lss (.tmp 50) (.const (.int .i64 4))))),
 (jA 52 48 51), (jm 2 52)])
 .ret)
 .skip))))))))))))
 (.seq (.region [(jf 53 4 1), (jl 54 53), (jq 55 54 0), (jm 2 55)])
 .ret))),
 [.tmp 2]⟩
theorem low_isa_number : lowFn Tryz.prog movers 111 = some ⟨ir_isa_number.n, strip ir_isa_number.body, ir_isa_number.res⟩ := by kernel_rfl
def ir_isa_Skips : IFn := ⟨15,
 (.seq (.region [(jb 1 26 0), (jk 2 0), (jo 3 (.mov (.const (.bool false))))])
 (.seq (.seq (.region [(jL 4 5 1), (jc 5 61 4), (jq 6 5 0)])
 (.cond (.tmp 6)
 (.seq (.region [(jf 7 0 1), (jl 8 7)])
 (.block 0
 (.seq (.seq (.region [(jq 10 8 4), (jm 9 10)])
 (.cond (.tmp 9)
 .skip
 (.seq (.region [(jq 11 8 5), (jm 9 11)])
 (.cond (.tmp 9)
 .skip
 (.region [(jq 12 8 6), (jm 9 12)])))))
 (.cond (.tmp 9)
 (.seq (.region [(jf 13 4 1), (jl 14 13), (jm 2 14), (jo 3 (.mov (.const (.bool true))))])
 .ret)
 .skip))))
 .skip))
 (.seq (.region [(jk 2 0), (jo 3 (.mov (.const (.bool false))))])
 .ret))),
 [.tmp 2, .tmp 3]⟩
theorem low_isa_Skips : lowFn Tryz.prog movers 112 = some ⟨ir_isa_Skips.n, strip ir_isa_Skips.body, ir_isa_Skips.res⟩ := by kernel_rfl
end Go.Proofs.YtllddgdmmfmpkaaGreatDoor
namespace Go.Proofs.YtllddgdmmfmpkaaGreatDoor
open Go
set_option maxRecDepth 100000
def ir_strings_Contains : IFn := ⟨9,
 (.seq (.region [(jo 4 (.mov (.const (.bool false))))])
 (.seq (.region [(jm 5 0), (jm 6 1), (jC 7 185 5 6), (jo 8 (.bin .geq (.tmp 7) (.const (.int .i64 0)))), (jm 4 8)])
 .ret)),
 [.tmp 4]⟩
theorem low_strings_Contains : lowFn Tryz.prog movers 110 = some ⟨ir_strings_Contains.n, strip ir_strings_Contains.body, ir_strings_Contains.res⟩ := by kernel_rfl
def ir_strings_Index : IFn := ⟨8,
 (.seq (.region [(jk 4 0)])
 (.seq (.region [(jm 5 0), (jm 6 1), (jC 7 207 5 6), (jm 4 7)])
 .ret)),
 [.tmp 4]⟩
theorem low_strings_Index : lowFn Tryz.prog movers 185 = some ⟨ir_strings_Index.n, strip ir_strings_Index.body, ir_strings_Index.res⟩ := by kernel_rfl
end Go.Proofs.YtllddgdmmfmpkaaGreatDoor
namespace Go.Proofs.YtllddgdmmfmpkaaGreatDoor
open Go
set_option maxRecDepth 100000
def ir_internal_stringslite_Index : IFn := ⟨143,
 (.seq (.region [(jk 4 0)])
 (.seq (.region [(jm 14 1), (jo 15 (.lens (.tmp 14))), (jm 5 15)])
 (.seq (.block 0
 (.seq (.region [(jm 17 5), (jq 18 17 0), (jm 19 18), (jz 19 (jm 20 1)), (jz 19 (jm 21 0)), (jz 19 (jo 22 (.sbin .eql (.tmp 20) (.tmp 21)))), (jO 23 19 22), (jm 16 23)])
 (.cond (.tmp 16)
 (.seq (.region [(jk 4 0)])
 .ret)
 (.seq (.region [(jm 25 5), (jq 26 25 1), (jm 24 26)])
 (.cond (.tmp 24)
 (.seq (.region [(jm 27 0), (jm 28 1), (jo 29 (.sidx (.tmp 28) (.const (.int .i64 0)))), (jC 30 215 27 29), (jm 4 30)])
 .ret)
 (.seq (.region [(jm 32 5), (jm 33 0), (jo 34 (.lens (.tmp 33))), (jo 35 (.bin .geq (.tmp 32) (.tmp 34))), (jm 31 35)])
 (.cond (.tmp 31)
 (.seq (.region [(jo 4 (.mov (.const (.int .i64 (-1)))))])
 .ret)
 (.seq (.region [(jm 37 5), (jo 38 (.ld (.global 2))), (jo 39 (.bin .leq (.tmp 37) (.tmp 38))), (jm 40 39), (jy 40 (jm 41 0)), (jy 40 (jo 42 (.lens (.tmp 41)))),
 (jy 40 (jo 43 (.bin .leq (.tmp 42) (.const (.int .i64 64))))), (jA 44 40 43), (jm 36 44)])
 (.cond (.tmp 36)
 (.seq (.region [(jm 45 0), (jm 46 1), (jo 47 (.bad)), (jm 4 47)])
 .ret)
 .skip)))))))))
 (.seq (.region [(jm 48 1), (jo 49 (.sidx (.tmp 48) (.const (.int .i64 0)))), (jm 6 49)])
 (.seq (.region [(jm 50 1), (jo 51 (.sidx (.tmp 50) (.const (.int .i64 1)))), (jm 7 51)])
 (.seq (.region [(jk 8 0)])
 (.seq (.region [(jm 52 0), (jo 53 (.lens (.tmp 52))), (jm 54 5), (jo 55 (.bin .sub (.tmp 53) (.tmp 54))), (ja 56 55 1), (jm 9 56)])
 (.seq (.region [(jk 10 0)])
 (.seq (.block 1
 (.loop 11150372599265311570767858992208992677149968
 (.seq (.seq (.region [(jm 57 8), (jm 58 9), (jw 59 57 58)])
 (.cond (.tmp 59)
 .skip
 (.exit 1)))
 (.block 2
 (.seq (.seq (.region [(jm 60 0), (jm 61 8), (jo 62 (.sidx (.tmp 60) (.tmp 61))), (jm 63 6), (jo 64 (.bin .neq (.tmp 62) (.tmp 63)))])
 (.cond (.tmp 64)
 (.seq (.region [(jm 65 0), (jm 66 8), (ja 67 66 1), (jm 68 9), (jo 69 (.sslc (.tmp 65) (some (.tmp 67)) (some (.tmp 68)))), (jm 70 6), (jC 71 215 69 70), (jm 11 71)])
 (.seq (.seq (.region [(jm 72 11), (jo 73 (.bin .lss (.tmp 72) (.const (.int .i64 0))))])
 (.cond (.tmp 73)
 (.seq (.region [(jo 4 (.mov (.const (.int .i64 (-1)))))])
 .ret)
 .skip))
 (.region [(jm 74 8), (jm 75 11), (ja 76 75 1), (jo 77 (.bin .add (.tmp 74) (.tmp 76))), (jm 8 77)])))
 .skip))
 (.seq (.seq (.region [(jm 78 0), (jm 79 8), (ja 80 79 1), (jo 81 (.sidx (.tmp 78) (.tmp 80))), (jm 82 7), (jo 83 (.bin .eql (.tmp 81) (.tmp 82))), (jm 84 83), (jy 84 (jm 85 0)),
 (jy 84 (jm 86 8)), (jy 84 (jm 87 8)), (jy 84 (jm 88 5)), (jy 84 (jo 89 (.bin .add (.tmp 87) (.tmp 88)))), (jy 84 (jo 90 (.sslc (.tmp 85) (some (.tmp 86)) (some (.tmp 89))))),
 (jy 84 (jm 91 1)), (jy 84 (jo 92 (.sbin .eql (.tmp 90) (.tmp 91)))), (jA 93 84 92)])
 (.cond (.tmp 93)
 (.seq (.region [(jm 94 8), (jm 4 94)])
 .ret)
 .skip))
 (.seq (.region [(jm 95 8), (ja 96 95 1), (jm 8 96)])
 (.seq (.region [(jm 97 10), (ja 98 97 1), (jm 10 98)])
 (.seq (.region [(jm 99 5), (jo 100 (.ld (.global 2))), (jo 101 (.bin .leq (.tmp 99) (.tmp 100))), (jm 102 101), (jy 102 (jm 103 10)), (jy 102 (jm 104 8)), (jy 102 (jc 105 217 104)),
 (jy 102 (jo 106 (.bin .gtr (.tmp 103) (.tmp 105)))), (jA 107 102 106)])
 (.cond (.tmp 107)
 (.seq (.region [(jm 108 0), (jm 109 8), (jo 110 (.sslc (.tmp 108) (some (.tmp 109)) none)), (jm 111 1), (jo 112 (.bad)), (jm 12 112)])
 (.seq (.seq (.region [(jm 113 12), (jo 114 (.bin .geq (.tmp 113) (.const (.int .i64 0))))])
 (.cond (.tmp 114)
 (.seq (.region [(jm 115 12), (jm 116 8), (jo 117 (.bin .add (.tmp 115) (.tmp 116))), (jm 4 117)])
 .ret)
 .skip))
 (.seq (.region [(jo 4 (.mov (.const (.int .i64 (-1)))))])
 .ret)))
 (.seq (.region [(jm 118 5), (jo 119 (.ld (.global 2))), (jo 120 (.bin .gtr (.tmp 118) (.tmp 119))), (jm 121 120), (jy 121 (jm 122 10)), (jy 121 (jm 123 8)), (jy 121 (jo 124 (.bin .shr (.tmp 123) (.const (.int .u64 4))))),
 (jy 121 (jo 125 (.bin .add (.const (.int .i64 4)) (.tmp 124)))), (jy 121 (jo 126 (.bin .geq (.tmp 122) (.tmp 125)))), (jA 127 121 126), (jm 128 127), (jy 128 (jm 129 8)),
 (jy 128 (jm 130 9)), (jy 128 (jw 131 129 130)), (jA 132 128 131)])
 (.cond (.tmp 132)
 (.seq (.region [(jm 133 0), (jm 134 8), (jo 135 (.sslc (.tmp 133) (some (.tmp 134)) none)), (jm 136 1), (jC 137 218 135 136), (jm 13 137)])
 (.seq (.seq (.region [(jm 138 13), (jo 139 (.bin .lss (.tmp 138) (.const (.int .i64 0))))])
 (.cond (.tmp 139)
 (.seq (.region [(jo 4 (.mov (.const (.int .i64 (-1)))))])
 .ret)
 .skip))
 (.seq (.region [(jm 140 8), (jm 141 13), (jo 142 (.bin .add (.tmp 140) (.tmp 141))), (jm 4 142)])
 .ret)))
 .skip))))))))))))
 (.seq (.region [(jo 4 (.mov (.const (.int .i64 (-1)))))])
 .ret)))))))))),
 [.tmp 4]⟩
theorem low_internal_stringslite_Index : lowFn Tryz.prog movers 207 = some ⟨ir_internal_stringslite_Index.n, strip ir_internal_stringslite_Index.body, ir_internal_stringslite_Index.res⟩ := by kernel_rfl
def ir_internal_stringslite_IndexByte : IFn := ⟨8,
 (.seq (.region [(jk 4 0)])
 (.seq (.region [(jm 5 0), (jm 6 1), (jo 7 (.ibs (.tmp 5) (.tmp 6))), (jm 4 7)])
 .ret)),
 [.tmp 4]⟩
theorem low_internal_stringslite_IndexByte : lowFn Tryz.prog movers 215 = some ⟨ir_internal_stringslite_IndexByte.n, strip ir_internal_stringslite_IndexByte.body, ir_internal_stringslite_IndexByte.res⟩ := by kernel_rfl
end Go.Proofs.YtllddgdmmfmpkaaGreatDoor
namespace Go.Proofs.YtllddgdmmfmpkaaGreatDoor
open Go
set_option maxRecDepth 100000
def ir_program_Check : IFn := ⟨37,
 (.seq (.region [(jk 2 0), (jk 3 0)])
 (.seq (.seq (.region [(jm 8 0), (jt 9 8), (jo 10 (.bin .gtr (.tmp 9) (.const (.int .i64 64))))])
 (.cond (.tmp 10)
 (.seq (.region [(jk 2 0), (jk 3 3)])
 .ret)
 .skip))
 (.seq (.region [(jo 4 (.mov (.const (.int .i64 (-1)))))])
 (.seq (.seq (.region [(jm 11 0), (jt 12 11), (jk 13 0)])
 (.block 0
 (.loop 17179861244
 (.seq (.region [(jw 14 13 12)])
 (.seq (.cond (.tmp 14)
 .skip
 (.exit 0))
 (.seq (.block 1
 (.seq (.region [(jm 15 13), (jx 16 5 11 13), (jL 17 5 16), (jo 6 (.new 26 (.agg #[.int .i64 0, .int .i64 0, .int .i64 0, .int .i64 0, .int .i64 0]))), (jm 5 15),
 (jS 5 6 17)])
 (.seq (.seq (.region [(jm 18 0), (jm 19 5), (jm 20 4), (jo 21 (.call 35 [(.tmp 18), (.tmp 19), (.tmp 20)])), (jm 7 21)])
 (.seq (.region [(jm 22 7), (jo 23 (.bin .neq (.tmp 22) (.const (.int .i64 0))))])
 (.cond (.tmp 23)
 (.seq (.region [(jm 24 5), (jm 25 7), (jm 2 24), (jm 3 25)])
 .ret)
 .skip)))
 (.seq (.region [(jf 26 0 6), (jl 27 26)])
 (.block 2
 (.seq (.region [(jq 29 27 7), (jm 28 29)])
 (.cond (.tmp 28)
 (.region [(jm 30 5), (jm 4 30)])
 (.seq (.region [(jq 32 27 8), (jm 31 32)])
 (.cond (.tmp 31)
 (.region [(jo 4 (.mov (.const (.int .i64 (-1)))))])
 .skip)))))))))
 (.region [(ja 33 13 1), (jm 13 33)])))))))
 (.seq (.seq (.region [(jm 34 4), (jo 35 (.bin .geq (.tmp 34) (.const (.int .i64 0))))])
 (.cond (.tmp 35)
 (.seq (.region [(jm 36 4), (jm 2 36), (jk 3 43)])
 .ret)
 .skip))
 (.seq (.region [(jk 2 0), (jk 3 0)])
 .ret)))))),
 [.tmp 2, .tmp 3]⟩
theorem low_program_Check : lowFn Tryz.prog movers 22 = some ⟨ir_program_Check.n, strip ir_program_Check.body, ir_program_Check.res⟩ := by kernel_rfl
def ir_program_one : IFn := ⟨61,
 (.seq (.region [(jk 6 0)])
 (.seq (.seq (.region [(jm 10 0), (jm 11 1), (jx 12 5 10 11), (jL 13 5 12), (jc 14 61 13), (jm 7 14)])
 (.seq (.region [(jm 15 7), (jo 16 (.bin .neq (.tmp 15) (.const (.int .i64 0))))])
 (.cond (.tmp 16)
 (.seq (.region [(jm 17 7), (jm 6 17)])
 .ret)
 .skip)))
 (.seq (.region [(jm 18 2), (jo 19 (.bin .geq (.tmp 18) (.const (.int .i64 0)))), (jm 8 19)])
 (.seq (.seq (.region [(jm 20 0), (jm 21 1), (jx 22 5 20 21), (jL 23 5 22), (jc 24 62 23), (jm 9 24)])
 (.block 0
 (.seq (.seq (.region [(jm 26 0), (jm 27 1), (jx 28 5 26 27), (jf 29 0 28), (jl 30 29), (jq 31 30 7), (jm 32 31), (jy 32 (jm 33 8)), (jA 34 32 33), (jm 25 34)])
 (.cond (.tmp 25)
 .skip
 (.region [(jm 35 0), (jm 36 1), (jx 37 5 35 36), (jf 38 0 37), (jl 39 38), (jq 40 39 8), (jm 41 40), (jy 41 (jm 42 8)), (jy 41 (jo 43 (.not (.tmp 42)))), (jA 44 41 43),
 (jm 25 44)])))
 (.cond (.tmp 25)
 (.seq (.region [(jk 6 40)])
 .ret)
 (.seq (.seq (.region [(jm 46 9), (jq 47 46 1), (jm 48 47), (jy 48 (jm 49 8)), (jy 48 (jo 50 (.not (.tmp 49)))), (jA 51 48 50), (jm 45 51)])
 (.cond (.tmp 45)
 .skip
 (.region [(jm 52 9), (jq 53 52 2), (jm 54 53), (jy 54 (jm 55 8)), (jA 56 54 55), (jm 45 56)])))
 (.cond (.tmp 45)
 (.seq (.region [(jk 6 41)])
 .ret)
 .skip))))))
 (.seq (.region [(jm 57 0), (jm 58 1), (jm 59 2), (jo 60 (.call 63 [(.tmp 57), (.tmp 58), (.tmp 59)])), (jm 6 60)])
 .ret))))),
 [.tmp 6]⟩
theorem low_program_one : lowFn Tryz.prog movers 35 = some ⟨ir_program_one.n, strip ir_program_one.body, ir_program_one.res⟩ := by kernel_rfl
def ir_program_target : IFn := ⟨48,
 (.seq (.region [(jk 6 0)])
 (.seq (.region [(jm 11 0), (jm 12 1), (jx 13 5 11 12), (jL 14 5 13), (jc 15 112 14), (jm 10 15), (je 16 10 0), (je 17 10 1), (jm 7 16), (jm 8 17)])
 (.seq (.seq (.region [(jm 18 8), (jo 19 (.not (.tmp 18)))])
 (.cond (.tmp 19)
 (.seq (.region [(jk 6 0)])
 .ret)
 .skip))
 (.seq (.region [(jm 20 1), (ja 21 20 1), (jm 22 7), (jo 23 (.bin .add (.tmp 21) (.tmp 22))), (jm 9 23)])
 (.seq (.block 0
 (.seq (.region [(jm 25 9), (jm 26 0), (jt 27 26), (jo 28 (.bin .gtr (.tmp 25) (.tmp 27))), (jm 24 28)])
 (.cond (.tmp 24)
 (.seq (.region [(jk 6 42)])
 .ret)
 (.seq (.region [(jm 30 2), (jo 31 (.bin .geq (.tmp 30) (.const (.int .i64 0)))), (jm 32 31), (jy 32 (jm 33 9)), (jy 32 (jm 34 0)), (jy 32 (jm 35 2)), (jy 32 (jC 36 113 34 35)),
 (jy 32 (jo 37 (.bin .gtr (.tmp 33) (.tmp 36)))), (jA 38 32 37), (jm 29 38)])
 (.cond (.tmp 29)
 (.seq (.region [(jk 6 42)])
 .ret)
 (.seq (.region [(jm 40 2), (jo 41 (.bin .lss (.tmp 40) (.const (.int .i64 0)))), (jm 42 41), (jy 42 (jm 43 0)), (jy 42 (jm 44 1)), (jy 42 (jm 45 9)), (jy 42 (jo 46 (.call 114 [(.tmp 43), (.tmp 44), (.tmp 45)]))),
 (jA 47 42 46), (jm 39 47)])
 (.cond (.tmp 39)
 (.seq (.region [(jk 6 42)])
 .ret)
 .skip)))))))
 (.seq (.region [(jk 6 0)])
 .ret)))))),
 [.tmp 6]⟩
theorem low_program_target : lowFn Tryz.prog movers 63 = some ⟨ir_program_target.n, strip ir_program_target.body, ir_program_target.res⟩ := by kernel_rfl
def ir_program_end : IFn := ⟨23,
 (.seq (.region [(jk 4 0)])
 (.seq (.seq (.region [(jm 6 1), (ja 7 6 1), (jm 5 7)])
 (.block 0
 (.loop 2096944
 (.seq (.seq (.region [(jm 8 5), (jm 9 0), (jt 10 9), (jw 11 8 10)])
 (.cond (.tmp 11)
 .skip
 (.exit 0)))
 (.seq (.block 1
 (.seq (.region [(jm 14 0), (jm 15 5), (jx 16 5 14 15), (jf 17 0 16), (jl 18 17), (jq 19 18 8)])
 (.cond (.tmp 19)
 (.seq (.region [(jm 20 5), (jm 4 20)])
 .ret)
 .skip)))
 (.region [(jm 12 5), (ja 13 12 1), (jm 5 13)]))))))
 (.seq (.region [(jm 21 0), (jt 22 21), (jm 4 22)])
 .ret))),
 [.tmp 4]⟩
theorem low_program_end : lowFn Tryz.prog movers 113 = some ⟨ir_program_end.n, strip ir_program_end.body, ir_program_end.res⟩ := by kernel_rfl
def ir_program_into : IFn := ⟨32,
 (.seq (.region [(jo 6 (.mov (.const (.bool false))))])
 (.seq (.seq (.region [(jm 8 1), (ja 9 8 1), (jm 7 9)])
 (.block 0
 (.loop 4294966464
 (.seq (.seq (.region [(jm 10 7), (jm 11 2), (jw 12 10 11)])
 (.cond (.tmp 12)
 .skip
 (.exit 0)))
 (.seq (.block 1
 (.seq (.region [(jm 15 0), (jm 16 7), (jx 17 5 15 16), (jf 18 0 17), (jl 19 18), (jq 20 19 7), (jm 21 20), (jy 21 (jm 22 2)), (jy 21 (jm 23 0)), (jy 21 (jm 24 7)),
 (jy 21 (jC 25 113 23 24)), (jy 21 (jm 26 0)), (jy 21 (jt 27 26)), (jy 21 (jo 28 (.bin .sub (.tmp 27) (.const (.int .i64 1))))), (jy 21 (jo 29 (.mm false (.tmp 25) (.tmp 28)))),
 (jy 21 (jo 30 (.bin .leq (.tmp 22) (.tmp 29)))), (jA 31 21 30)])
 (.cond (.tmp 31)
 (.seq (.region [(jo 6 (.mov (.const (.bool true))))])
 .ret)
 .skip)))
 (.region [(jm 13 7), (ja 14 13 1), (jm 7 14)]))))))
 (.seq (.region [(jo 6 (.mov (.const (.bool false))))])
 .ret))),
 [.tmp 6]⟩
theorem low_program_into : lowFn Tryz.prog movers 114 = some ⟨ir_program_into.n, strip ir_program_into.body, ir_program_into.res⟩ := by kernel_rfl
def ir_program_Commit : IFn := ⟨29,
 (.seq (.region [(jk 4 0)])
 (.seq (.seq (.region [(jm 5 0), (jc 6 196 5), (jo 7 (.not (.tmp 6))), (jm 8 7), (jz 8 (jm 9 1)), (jz 8 (jo 10 (.bin .lss (.tmp 9) (.const (.int .i64 0))))), (jO 11 8 10),
 (jm 12 11), (jz 12 (jm 13 1)), (jz 12 (jm 14 0)), (jz 12 (jt 15 14)), (jz 12 (jo 16 (.bin .geq (.tmp 13) (.tmp 15)))), (jO 17 12 16), (jm 18 17), (jz 18 (jm 19 0)),
 (jz 18 (jm 20 1)), (jz 18 (jx 21 5 19 20)), (jz 18 (jf 22 0 21)), (jz 18 (jl 23 22)), (jz 18 (jo 24 (.bin .neq (.tmp 23) (.const (.int .i64 7))))), (jO 25 18 24)])
 (.cond (.tmp 25)
 (.seq (.region [(jo 4 (.mov (.const (.int .i64 (-1)))))])
 .ret)
 .skip))
 (.seq (.region [(jm 26 0), (jm 27 1), (jC 28 113 26 27), (jm 4 28)])
 .ret))),
 [.tmp 4]⟩
theorem low_program_Commit : lowFn Tryz.prog movers 162 = some ⟨ir_program_Commit.n, strip ir_program_Commit.body, ir_program_Commit.res⟩ := by kernel_rfl
def ir_program_valid : IFn := ⟨12,
 (.seq (.region [(jo 2 (.mov (.const (.bool false))))])
 (.seq (.region [(jm 6 0), (jc 7 22 6), (jm 5 7), (je 8 5 0), (je 9 5 1), (jm 3 8), (jm 4 9)])
 (.seq (.region [(jm 10 4), (jq 11 10 0), (jm 2 11)])
 .ret))),
 [.tmp 2]⟩
theorem low_program_valid : lowFn Tryz.prog movers 196 = some ⟨ir_program_valid.n, strip ir_program_valid.body, ir_program_valid.res⟩ := by kernel_rfl
end Go.Proofs.YtllddgdmmfmpkaaGreatDoor
namespace Go.Proofs.YtllddgdmmfmpkaaGreatDoor
open Go
set_option maxRecDepth 100000
def ir_layout_CheckScript : IFn := ⟨72,
 (.seq (.region [(jb 1 46 0), (jk 2 0), (jk 3 0), (jk 4 0)])
 (.seq (.seq (.region [(jf 12 0 1), (jL 13 13 12), (jc 14 20 13), (jm 5 14)])
 (.seq (.region [(jm 15 5), (jo 16 (.bin .neq (.tmp 15) (.const (.int .i64 0))))])
 (.cond (.tmp 16)
 (.seq (.region [(jm 17 5), (jk 2 0), (jk 3 0), (jm 4 17)])
 .ret)
 .skip)))
 (.seq (.seq (.region [(jf 18 14 1), (jl 19 18), (jt 20 19), (jo 21 (.call 21 [(.tmp 20), (.const (.int .i64 1)), (.const (.int .i64 16))])), (jo 22 (.not (.tmp 21)))])
 (.cond (.tmp 22)
 (.seq (.region [(jk 2 0), (jk 3 0), (jk 4 54)])
 .ret)
 .skip))
 (.seq (.seq (.region [(jf 23 13 1), (jl 24 23), (jt 25 24), (jf 26 0 1), (jf 27 0 26), (jl 28 27), (jo 29 (.bin .neq (.tmp 25) (.tmp 28)))])
 (.cond (.tmp 29)
 (.seq (.region [(jk 2 0), (jk 3 0), (jk 4 55)])
 .ret)
 .skip))
 (.seq (.seq (.region [(jf 30 14 1), (jl 31 30), (jt 32 31), (jk 33 0)])
 (.block 0
 (.loop 562941363487708
 (.seq (.region [(jw 34 33 32)])
 (.seq (.cond (.tmp 34)
 .skip
 (.exit 0))
 (.seq (.block 1
 (.seq (.region [(jm 35 33), (jx 36 1 31 33), (jl 37 36), (jm 6 35), (jm 7 37)])
 (.seq (.region [(jm 39 7), (jc 40 22 39), (jm 38 40), (je 41 38 0), (je 42 38 1), (jm 8 41), (jm 9 42)])
 (.seq (.region [(jm 43 9), (jo 44 (.bin .neq (.tmp 43) (.const (.int .i64 0))))])
 (.cond (.tmp 44)
 (.seq (.region [(jm 45 6), (jm 46 8), (jm 47 9), (jm 2 45), (jm 3 46), (jm 4 47)])
 .ret)
 .skip)))))
 (.region [(ja 48 33 1), (jm 33 48)])))))))
 (.seq (.seq (.region [(jf 49 15 1), (jl 50 49), (jt 51 50), (jo 52 (.bin .gtr (.tmp 51) (.const (.int .i64 65536))))])
 (.cond (.tmp 52)
 (.seq (.region [(jk 2 0), (jk 3 0), (jk 4 56)])
 .ret)
 .skip))
 (.seq (.seq (.region [(jf 53 15 1), (jl 54 53), (jt 55 54), (jk 56 0)])
 (.block 2
 (.loop 4722294425275607288860
 (.seq (.region [(jw 57 56 55)])
 (.seq (.cond (.tmp 57)
 .skip
 (.exit 2))
 (.seq (.block 3
 (.seq (.region [(jm 58 56), (jx 59 1 54 56), (jl 60 59), (jm 10 58), (jm 11 60)])
 (.seq (.region [(jm 61 11), (jo 62 (.bin .lss (.tmp 61) (.const (.int .i64 0)))), (jm 63 62), (jz 63 (jm 64 11)), (jz 63 (jf 65 14 1)), (jz 63 (jl 66 65)), (jz 63 (jt 67 66)),
 (jz 63 (jo 68 (.bin .geq (.tmp 64) (.tmp 67)))), (jO 69 63 68)])
 (.cond (.tmp 69)
 (.seq (.region [(jm 70 10), (jk 2 0), (jm 3 70), (jk 4 56)])
 .ret)
 .skip))))
 (.region [(ja 71 56 1), (jm 56 71)])))))))
 (.seq (.region [(jk 2 0), (jk 3 0), (jk 4 0)])
 .ret)))))))),
 [.tmp 2, .tmp 3, .tmp 4]⟩
theorem low_layout_CheckScript : lowFn Tryz.prog movers 11 = some ⟨ir_layout_CheckScript.n, strip ir_layout_CheckScript.body, ir_layout_CheckScript.res⟩ := by kernel_rfl
def ir_layout_Check : IFn := ⟨70,
 (.seq (.region [(jb 1 31 0), (jk 2 0)])
 (.seq (.region [(jL 7 13 1), (jc 8 34 7), (jm 6 8), (je 9 6 0), (je 10 6 1), (je 11 6 2), (jm 3 9), (jm 4 10), (jm 5 11)])
 (.seq (.block 0
 (.seq (.region [(jf 13 0 1), (jl 14 13), (jo 15 (.call 21 [(.tmp 14), (.const (.int .i64 1)), (.const (.int .i64 64))])), (jo 16 (.not (.tmp 15))), (jm 17 16),
 (jz 17 (jf 18 1 1)), (jz 17 (jl 19 18)), (jz 17 (jo 20 (.call 21 [(.tmp 19), (.const (.int .i64 1)), (.const (.int .i64 64))]))), (jz 17 (jo 21 (.not (.tmp 20)))),
 (jO 22 17 21), (jm 12 22)])
 (.cond (.tmp 12)
 (.seq (.region [(jk 2 50)])
 .ret)
 (.seq (.region [(jm 24 5), (jo 25 (.not (.tmp 24))), (jm 26 25), (jz 26 (jf 27 2 1)), (jz 26 (jl 28 27)), (jz 26 (jf 29 0 1)), (jz 26 (jl 30 29)), (jz 26 (jo 31 (.call 21 [(.tmp 28), (.const (.int .i64 0)), (.tmp 30)]))),
 (jz 26 (jo 32 (.not (.tmp 31)))), (jO 33 26 32), (jm 34 33), (jz 34 (jm 35 4)), (jz 34 (jf 36 0 1)), (jz 34 (jl 37 36)), (jz 34 (jf 38 2 1)), (jz 34 (jl 39 38)),
 (jz 34 (jo 40 (.bin .sub (.tmp 37) (.tmp 39)))), (jz 34 (jo 41 (.bin .gtr (.tmp 35) (.tmp 40)))), (jO 42 34 41), (jm 23 42)])
 (.cond (.tmp 23)
 (.seq (.region [(jk 2 51)])
 .ret)
 (.seq (.region [(jf 44 7 1), (jl 45 44), (jo 46 (.call 21 [(.tmp 45), (.const (.int .i64 1)), (.const (.int .i64 32))])), (jo 47 (.not (.tmp 46))), (jm 48 47),
 (jz 48 (jf 49 8 1)), (jz 48 (jl 50 49)), (jz 48 (jo 51 (.call 21 [(.tmp 50), (.const (.int .i64 1)), (.const (.int .i64 32))]))), (jz 48 (jo 52 (.not (.tmp 51)))),
 (jO 53 48 52), (jm 43 53)])
 (.cond (.tmp 43)
 (.seq (.region [(jk 2 52)])
 .ret)
 (.seq (.region [(jf 55 9 1), (jl 56 55), (jo 57 (.call 21 [(.tmp 56), (.const (.int .i64 0)), (.const (.int .i64 8))])), (jo 58 (.not (.tmp 57))), (jm 59 58), (jz 59 (jf 60 10 1)),
 (jz 59 (jl 61 60)), (jz 59 (jo 62 (.call 21 [(.tmp 61), (.const (.int .i64 0)), (.const (.int .i64 8))]))), (jz 59 (jo 63 (.not (.tmp 62)))), (jO 64 59 63), (jm 54 64)])
 (.cond (.tmp 54)
 (.seq (.region [(jk 2 52)])
 .ret)
 (.seq (.region [(jf 66 11 1), (jl 67 66), (jo 68 (.call 21 [(.tmp 67), (.const (.int .i64 0)), (.const (.int .i64 1099511627776))])), (jo 69 (.not (.tmp 68))),
 (jm 65 69)])
 (.cond (.tmp 65)
 (.seq (.region [(jk 2 53)])
 .ret)
 .skip)))))))))))
 (.seq (.region [(jk 2 0)])
 .ret)))),
 [.tmp 2]⟩
theorem low_layout_Check : lowFn Tryz.prog movers 20 = some ⟨ir_layout_Check.n, strip ir_layout_Check.body, ir_layout_Check.res⟩ := by kernel_rfl
def ir_layout_within : IFn := ⟨15,
 (.seq (.region [(jo 6 (.mov (.const (.bool false))))])
 (.seq (.region [(jm 7 0), (jm 8 1), (jo 9 (.bin .geq (.tmp 7) (.tmp 8))), (jm 10 9), (jy 10 (jm 11 0)), (jy 10 (jm 12 2)), (jy 10 (jo 13 (.bin .leq (.tmp 11) (.tmp 12)))),
 (jA 14 10 13), (jm 6 14)])
 .ret)),
 [.tmp 6]⟩
theorem low_layout_within : lowFn Tryz.prog movers 21 = some ⟨ir_layout_within.n, strip ir_layout_within.body, ir_layout_within.res⟩ := by kernel_rfl
def ir_layout_heap : IFn := ⟨32,
 (.seq (.region [(jb 1 31 0), (jk 2 0), (jk 3 0), (jo 4 (.mov (.const (.bool false))))])
 (.seq (.seq (.region [(jf 7 3 1), (jL 8 4 7), (jk 9 0)])
 (.block 0
 (.loop 268435068
 (.seq (.region [(jo 10 (.bin .lss (.tmp 9) (.const (.int .i64 4))))])
 (.seq (.cond (.tmp 10)
 .skip
 (.exit 0))
 (.seq (.block 1
 (.seq (.region [(jm 11 9), (jo 12 (.idx 4 (.tmp 8) (.tmp 9))), (jm 5 11), (jm 6 12)])
 (.seq (.seq (.region [(jm 13 6), (jo 14 (.bin .lss (.tmp 13) (.const (.int .i64 0)))), (jm 15 14), (jz 15 (jm 16 6)), (jz 15 (jo 17 (.bin .gtr (.tmp 16) (.const (.int .i64 64))))),
 (jO 18 15 17)])
 (.cond (.tmp 18)
 (.seq (.region [(jk 2 0), (jk 3 0), (jo 4 (.mov (.const (.bool false))))])
 .ret)
 .skip))
 (.seq (.region [(jm 19 2), (jm 20 6), (jo 21 (.bin .add (.tmp 19) (.tmp 20))), (jm 2 21)])
 (.region [(jm 22 3), (jm 23 6), (jm 24 5), (jo 25 (.bin .shl (.tmp 23) (.tmp 24))), (jo 26 (.bin .add (.tmp 22) (.tmp 25))), (jm 3 26)])))))
 (.region [(ja 27 9 1), (jm 9 27)])))))))
 (.seq (.region [(jm 28 2), (jm 29 3), (jm 30 2), (jo 31 (.bin .leq (.tmp 30) (.const (.int .i64 64)))), (jm 2 28), (jm 3 29), (jm 4 31)])
 .ret))),
 [.tmp 2, .tmp 3, .tmp 4]⟩
theorem low_layout_heap : lowFn Tryz.prog movers 34 = some ⟨ir_layout_heap.n, strip ir_layout_heap.body, ir_layout_heap.res⟩ := by kernel_rfl
def ir_layout_Blocks : IFn := ⟨16,
 (.seq (.region [(jb 1 31 0), (jk 2 0)])
 (.seq (.seq (.region [(jL 6 13 1), (jc 7 20 6), (jo 8 (.bin .neq (.tmp 7) (.const (.int .i64 0))))])
 (.cond (.tmp 8)
 (.seq (.region [(jk 2 0)])
 .ret)
 .skip))
 (.seq (.region [(jL 10 13 1), (jc 11 34 10), (jm 9 11), (je 12 9 0), (je 13 9 1), (je 14 9 2), (jm 3 12), (jm 4 13), (jm 5 14)])
 (.seq (.region [(jm 15 3), (jm 2 15)])
 .ret)))),
 [.tmp 2]⟩
theorem low_layout_Blocks : lowFn Tryz.prog movers 36 = some ⟨ir_layout_Blocks.n, strip ir_layout_Blocks.body, ir_layout_Blocks.res⟩ := by kernel_rfl
def ir_layout_Orec : IFn := ⟨25,
 (.seq (.region [(jb 2 31 0), (jk 4 0)])
 (.seq (.seq (.draw (.f (jL 5 13 2)
 (.f (jc 6 20 5)
 (.f (jo 7 (.bin .neq (.tmp 6) (.const (.int .i64 0))))
 (.f (jm 8 7)
 (.f (jz 8 (jm 9 1))
 (.f (jz 8 (jo 10 (.bin .lss (.tmp 9) (.const (.int .i64 0)))))
 (.f (jO 11 8 10)
 (.f (jm 12 11)
 (.f (jz 12 (jm 13 1))
 (.f (jz 12 (jf 14 0 2))
 (.f (jz 12 (jl 15 14))
 (.f (jz 12 (jL 16 13 2))
 (.f (jz 12 (jc 17 36 16))
 (.f (jz 12 (jo 18 (.bin .add (.tmp 15) (.tmp 17))))
 (.f (jz 12 (jo 19 (.bin .geq (.tmp 13) (.tmp 18))))
 (.f (jO 20 12 19)
 .done)))))))))))))))))
 (.cond (.tmp 20)
 (.seq (.region [(jo 4 (.mov (.const (.int .i64 (-1)))))])
 .ret)
 .skip))
 (.seq (.region [(jm 21 1), (jf 22 1 2), (jl 23 22), (jo 24 (.bin .rem (.tmp 21) (.tmp 23))), (jm 4 24)])
 .ret))),
 [.tmp 4]⟩
theorem low_layout_Orec : lowFn Tryz.prog movers 131 = some ⟨ir_layout_Orec.n, strip ir_layout_Orec.body, ir_layout_Orec.res⟩ := by kernel_rfl
end Go.Proofs.YtllddgdmmfmpkaaGreatDoor
namespace Go.Proofs.YtllddgdmmfmpkaaGreatDoor
open Go
set_option maxRecDepth 100000
def ir_slices_Clone_Step : IFn := ⟨8,
 (.seq (.region [(jo 2 (.mov (.const (.slice none 0 0))))])
 (.seq (.seq (.region [(jm 3 0), (jo 4 (.nilq false 0 (.tmp 3) (.const (.slice none 0 0))))])
 (.cond (.tmp 4)
 (.seq (.region [(jo 2 (.mov (.const (.slice none 0 0))))])
 .ret)
 .skip))
 (.seq (.region [(jo 5 (.blds 51 0 [] [])), (jm 6 0), (jo 7 (.app 51 9 72 [(.int .i64 0), (.int .i64 0), (.int .i64 0), (.int .i64 0), (.int .i64 0), (.int .i64 0), (.int .u64 0), (.int .u64 0), (.bool false)] (.tmp 5) (.tmp 6))),
 (jm 2 7)])
 .ret))),
 [.tmp 2]⟩
theorem low_slices_Clone_Step : lowFn Tryz.prog movers 16 = some ⟨ir_slices_Clone_Step.n, strip ir_slices_Clone_Step.body, ir_slices_Clone_Step.res⟩ := by kernel_rfl
def ir_slices_Clone_int : IFn := ⟨8,
 (.seq (.region [(jo 2 (.mov (.const (.slice none 0 0))))])
 (.seq (.seq (.region [(jm 3 0), (jo 4 (.nilq false 0 (.tmp 3) (.const (.slice none 0 0))))])
 (.cond (.tmp 4)
 (.seq (.region [(jo 2 (.mov (.const (.slice none 0 0))))])
 .ret)
 .skip))
 (.seq (.region [(jo 5 (.blds 3 0 [] [])), (jm 6 0), (jo 7 (.app 3 1 8 [(.int .i64 0)] (.tmp 5) (.tmp 6))), (jm 2 7)])
 .ret))),
 [.tmp 2]⟩
theorem low_slices_Clone_int : lowFn Tryz.prog movers 19 = some ⟨ir_slices_Clone_int.n, strip ir_slices_Clone_int.body, ir_slices_Clone_int.res⟩ := by kernel_rfl
def ir_slices_Clone_uint64 : IFn := ⟨8,
 (.seq (.region [(jo 2 (.mov (.const (.slice none 0 0))))])
 (.seq (.seq (.region [(jm 3 0), (jo 4 (.nilq false 0 (.tmp 3) (.const (.slice none 0 0))))])
 (.cond (.tmp 4)
 (.seq (.region [(jo 2 (.mov (.const (.slice none 0 0))))])
 .ret)
 .skip))
 (.seq (.region [(jo 5 (.blds 33 0 [] [])), (jm 6 0), (jo 7 (.app 33 1 8 [(.int .u64 0)] (.tmp 5) (.tmp 6))), (jm 2 7)])
 .ret))),
 [.tmp 2]⟩
theorem low_slices_Clone_uint64 : lowFn Tryz.prog movers 24 = some ⟨ir_slices_Clone_uint64.n, strip ir_slices_Clone_uint64.body, ir_slices_Clone_uint64.res⟩ := by kernel_rfl
def ir_slices_Clone_Instr : IFn := ⟨8,
 (.seq (.region [(jo 2 (.mov (.const (.slice none 0 0))))])
 (.seq (.seq (.region [(jm 3 0), (jo 4 (.nilq false 0 (.tmp 3) (.const (.slice none 0 0))))])
 (.cond (.tmp 4)
 (.seq (.region [(jo 2 (.mov (.const (.slice none 0 0))))])
 .ret)
 .skip))
 (.seq (.region [(jo 5 (.blds 26 0 [] [])), (jm 6 0), (jo 7 (.app 26 5 40 [(.int .i64 0), (.int .i64 0), (.int .i64 0), (.int .i64 0), (.int .i64 0)] (.tmp 5) (.tmp 6))),
 (jm 2 7)])
 .ret))),
 [.tmp 2]⟩
theorem low_slices_Clone_Instr : lowFn Tryz.prog movers 25 = some ⟨ir_slices_Clone_Instr.n, strip ir_slices_Clone_Instr.body, ir_slices_Clone_Instr.res⟩ := by kernel_rfl
def ir_slices_Clone_Obs : IFn := ⟨8,
 (.seq (.region [(jo 2 (.mov (.const (.slice none 0 0))))])
 (.seq (.seq (.region [(jm 3 0), (jo 4 (.nilq false 0 (.tmp 3) (.const (.slice none 0 0))))])
 (.cond (.tmp 4)
 (.seq (.region [(jo 2 (.mov (.const (.slice none 0 0))))])
 .ret)
 .skip))
 (.seq (.region [(jo 5 (.blds 54 0 [] [])), (jm 6 0), (jo 7 (.app 54 3 24 [(.int .i64 0), (.int .i64 0), (.int .u64 0)] (.tmp 5) (.tmp 6))), (jm 2 7)])
 .ret))),
 [.tmp 2]⟩
theorem low_slices_Clone_Obs : lowFn Tryz.prog movers 33 = some ⟨ir_slices_Clone_Obs.n, strip ir_slices_Clone_Obs.body, ir_slices_Clone_Obs.res⟩ := by kernel_rfl
def ir_slices_Contains_int : IFn := ⟨9,
 (.seq (.region [(jo 4 (.mov (.const (.bool false))))])
 (.seq (.region [(jm 5 0), (jm 6 1), (jC 7 190 5 6), (jo 8 (.bin .geq (.tmp 7) (.const (.int .i64 0)))), (jm 4 8)])
 .ret)),
 [.tmp 4]⟩
theorem low_slices_Contains_int : lowFn Tryz.prog movers 129 = some ⟨ir_slices_Contains_int.n, strip ir_slices_Contains_int.body, ir_slices_Contains_int.res⟩ := by kernel_rfl
def ir_slices_Index_int : IFn := ⟨19,
 (.seq (.region [(jk 4 0)])
 (.seq (.seq (.region [(jm 6 0), (jt 7 6), (jk 8 0)])
 (.block 0
 (.loop 524080
 (.seq (.region [(jw 9 8 7)])
 (.seq (.cond (.tmp 9)
 .skip
 (.exit 0))
 (.seq (.block 1
 (.seq (.region [(jm 10 8), (jm 5 10)])
 (.seq (.region [(jm 11 1), (jm 12 0), (jm 13 5), (jx 14 1 12 13), (jl 15 14), (jo 16 (.bin .eql (.tmp 11) (.tmp 15)))])
 (.cond (.tmp 16)
 (.seq (.region [(jm 17 5), (jm 4 17)])
 .ret)
 .skip))))
 (.region [(ja 18 8 1), (jm 8 18)])))))))
 (.seq (.region [(jo 4 (.mov (.const (.int .i64 (-1)))))])
 .ret))),
 [.tmp 4]⟩
theorem low_slices_Index_int : lowFn Tryz.prog movers 190 = some ⟨ir_slices_Index_int.n, strip ir_slices_Index_int.body, ir_slices_Index_int.res⟩ := by kernel_rfl
def ir_slices_Compact_int : IFn := ⟨61,
 (.seq (.region [(jo 2 (.mov (.const (.slice none 0 0))))])
 (.seq (.seq (.region [(jm 6 0), (jt 7 6), (jo 8 (.bin .lss (.tmp 7) (.const (.int .i64 2))))])
 (.cond (.tmp 8)
 (.seq (.region [(jm 9 0), (jm 2 9)])
 .ret)
 .skip))
 (.seq (.seq (.region [(jk 3 1)])
 (.block 0
 (.loop 1152921504606846012
 (.seq (.seq (.region [(jm 10 3), (jm 11 0), (jt 12 11), (jw 13 10 12)])
 (.cond (.tmp 13)
 .skip
 (.exit 0)))
 (.seq (.block 1
 (.seq (.draw (.f (jm 16 0)
 (.f (jm 17 3)
 (.f (jx 18 1 16 17)
 (.f (jl 19 18)
 (.f (jm 20 0)
 (.f (jm 21 3)
 (.f (jo 22 (.bin .sub (.tmp 21) (.const (.int .i64 1))))
 (.f (jx 23 1 20 22)
 (.f (jl 24 23)
 (.f (jo 25 (.bin .eql (.tmp 19) (.tmp 24)))
 .done)))))))))))
 (.cond (.tmp 25)
 (.seq (.region [(jm 26 0), (jm 27 3), (jo 28 (.sls 1 (.tmp 26) (some (.tmp 27)) none none)), (jm 4 28)])
 (.seq (.seq (.region [(jk 5 1)])
 (.block 2
 (.loop 18014397972611112
 (.seq (.seq (.region [(jm 29 5), (jm 30 4), (jt 31 30), (jw 32 29 31)])
 (.cond (.tmp 32)
 .skip
 (.exit 2)))
 (.seq (.block 3
 (.seq (.draw (.f (jm 35 4)
 (.f (jm 36 5)
 (.f (jx 37 1 35 36)
 (.f (jl 38 37)
 (.f (jm 39 4)
 (.f (jm 40 5)
 (.f (jo 41 (.bin .sub (.tmp 40) (.const (.int .i64 1))))
 (.f (jx 42 1 39 41)
 (.f (jl 43 42)
 (.f (jo 44 (.bin .neq (.tmp 38) (.tmp 43)))
 .done)))))))))))
 (.cond (.tmp 44)
 (.seq (.region [(jm 45 0), (jm 46 3), (jm 47 4), (jm 48 5), (jx 49 1 47 48), (jl 50 49), (jx 51 1 45 46), (js 51 50)])
 (.region [(jm 52 3), (ja 53 52 1), (jm 3 53)]))
 .skip)))
 (.region [(jm 33 5), (ja 34 33 1), (jm 5 34)]))))))
 (.seq (.region [(jm 54 0), (jm 55 3), (jo 56 (.sls 1 (.tmp 54) (some (.tmp 55)) none none)),
 ⟨none, .clr [(.int .i64 0)] (.tmp 56), none⟩])
 (.seq (.region [(jm 57 0), (jm 58 3), (jo 59 (.sls 1 (.tmp 57) none (some (.tmp 58)) none)), (jm 2 59)])
 .ret))))
 .skip)))
 (.region [(jm 14 3), (ja 15 14 1), (jm 3 15)]))))))
 (.seq (.region [(jm 60 0), (jm 2 60)])
 .ret)))),
 [.tmp 2]⟩
theorem low_slices_Compact_int : lowFn Tryz.prog movers 198 = some ⟨ir_slices_Compact_int.n, strip ir_slices_Compact_int.body, ir_slices_Compact_int.res⟩ := by kernel_rfl
end Go.Proofs.YtllddgdmmfmpkaaGreatDoor
