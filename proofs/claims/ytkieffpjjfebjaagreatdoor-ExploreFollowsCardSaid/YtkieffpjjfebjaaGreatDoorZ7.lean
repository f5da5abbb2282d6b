/- What the laws share, part 7. No condition. -/
import Derived.Test.YtkieffpjjfebjaaGreatDoorRows
import Derived.Test.YtkieffpjjfebjaaGreatDoorZ6
set_option maxRecDepth 100000
namespace Go.Proofs.YtkieffpjjfebjaaGreatDoor
open Go
theorem qj:Tryz.prog.follows .mixedOrders=true:=by kernel_rfl
def qd:List Nat:= [11,13,14,18,19,21,22,23,26,28,29,30,32,33,34,36,37,42,44,45,46,47,50,51,52,55,56,58,59,60,61,62,63,65,66,68,69,74,75,76,78,84,86,87,88,89,90,91,92,94,95,105,106,107,108,109,111,115,116,117,118,121,122,126,133,141,146,147,148,175,176]
abbrev jm(n x:Nat):q3o:=⟨some n, .mov (.tmp x),none⟩
abbrev jk(n:Nat)(k:Int):q3o:=⟨some n, .mov (.const (.int .i64 k)),none⟩
abbrev jf(n k x:Nat):q3o:=⟨some n, .fad k (.tmp x),none⟩
abbrev jl(n x:Nat):q3o:=⟨some n, .ld (.tmp x),none⟩
abbrev jL(n k x:Nat):q3o:=⟨some n, .ldN k (.tmp x),none⟩
abbrev jn(n x:Nat):q3o:=⟨some n, .nilc (.tmp x),none⟩
abbrev jb(n k x:Nat):q3o:=⟨some n, .box k (.tmp x),none⟩
abbrev jt(n x:Nat):q3o:=⟨some n, .len (.tmp x),none⟩
abbrev jq(n x:Nat)(k:Int):q3o:=⟨some n, .bin .eql (.tmp x) (.const (.int .i64 k)),none⟩
abbrev ja(n x:Nat)(k:Int):q3o:=⟨some n, .bin .add (.tmp x) (.const (.int .i64 k)),none⟩
abbrev jw(n x y:Nat):q3o:=⟨some n, .bin .lss (.tmp x) (.tmp y),none⟩
abbrev jc(n k x:Nat):q3o:=⟨some n, .call k [.tmp x],none⟩
abbrev jC(n k x y:Nat):q3o:=⟨some n, .call k [.tmp x, .tmp y],none⟩
abbrev jx(n k x y:Nat):q3o:=⟨some n, .ixs k (.tmp x) (.tmp y),none⟩
abbrev jA(n c x:Nat):q3o:=⟨some n, .pick (.tmp c) (.tmp x) (.const (.bool false)),none⟩
abbrev jO(n c x:Nat):q3o:=⟨some n, .pick (.tmp c) (.const (.bool true)) (.tmp x),none⟩
abbrev js(x y:Nat):q3o:=⟨none, .st (.tmp x) (.tmp y),none⟩
abbrev jS(n x y:Nat):q3o:=⟨none, .stN n (.tmp x) (.tmp y),none⟩
abbrev je(n x k:Nat):q3o:=⟨some n, .ext (.tmp x) k,none⟩
abbrev jo(n:Nat)(o:IOp):q3o:=⟨some n,o,none⟩
abbrev jy(g:Nat)(r:q3o):q3o:=⟨r.dst,r.op,some (g,true)⟩
abbrev jz(g:Nat)(r:q3o):q3o:=⟨r.dst,r.op,some (g,false)⟩
abbrev jI(k:Int):Operand:= .const (.int .i64 k)
instance(n:Nat):OfNat Operand n:=⟨.tmp n⟩
abbrev jQ:=IC.seq
abbrev jR:=IC.region
def q2Z:IFn:=⟨42,
 (jQ (jR [(jo 6 (.mov (.const (.int .u64 0)))),(jk 7 0)])
 (jQ (.block 0
 (jQ (jR [(jm 9 0),(jo 10 (.bin .lss 9 (jI 0))),(jm 11 10),(jz 11 (jm 12 0)),(jz 11 (jo 13 (.bin .geq 12 (jI 22)))),
 (jO 14 11 13),(jm 8 14)])
 (.cond 8
 (jQ (jR [(jo 6 (.mov (.const (.int .u64 0)))),(jk 7 10)])
 .ret)
 (jQ (jR [(jm 16 0),(jq 17 16 20),(jm 15 17)])
 (.cond 15
 (jQ (jR [(jm 18 1),(jo 19 (.conv .i64 18)),(jo 20 (.i2f 19)),(jo 21 (.fbits 20)),(jm 6 21),(jk 7 0)])
 .ret)
 (jQ (jR [(jm 23 0),(jq 24 23 21),(jm 22 24)])
 (.cond 22
 (jQ (jR [(jm 25 1),(jo 26 (.ffrom 25)),(jc 27 150 26),(jo 28 (.conv .u64 27)),(jm 6 28),(jk 7 0)])
 .ret)
 (jQ (jR [(jm 30 0),(jo 31 (.bin .geq 30 (jI 12))),(jm 29 31)])
 (.cond 29
 (jQ (jR [(jm 32 0),(jm 33 1),(jo 34 (.ffrom 33)),(jm 35 2),(jo 36 (.ffrom 35)),(jo 37 (.call 152 [32,34,36])),
 (jm 6 37),(jk 7 0)])
 .ret)
 .skip)))))))))
 (jQ (jR [(jm 38 0),(jm 39 1),(jm 40 2),(jo 41 (.call 153 [38,39,40])),(jm 6 41),(jk 7 0)])
 .ret))),
 [.tmp 6, .tmp 7]⟩
theorem q8L:qn Tryz.prog qd 127=some ⟨q2Z.n,qi q2Z.body,q2Z.res⟩:=by kernel_rfl
def q31:IFn:=⟨14,
 (jQ (jR [(jk 2 0)])
 (jQ (.block 0
 (jQ (jR [(jm 4 0),(jc 5 179 4),(jm 3 5)])
 (.cond 3
 (jQ (jR [(jk 2 0)])
 .ret)
 (jQ (jR [(jm 7 0),(jo 8 (.fbin .geq 7 (.const (.float .f64 4890909195324358656)))),(jm 6 8)])
 (.cond 6
 (jQ (jR [(jk 2 9223372036854775807)])
 .ret)
 (jQ (jR [(jm 10 0),(jo 11 (.fbin .lss 10 (.const (.float .f64 14114281232179134464)))),(jm 9 11)])
 (.cond 9
 (jQ (jR [(jo 2 (.mov (.const (.int .i64 (-9223372036854775808)))))])
 .ret)
 .skip)))))))
 (jQ (jR [(jm 12 0),(jo 13 (.f2i .i64 12)),(jm 2 13)])
 .ret))),
 [.tmp 2]⟩
theorem q8N:qn Tryz.prog qd 150=some ⟨q31.n,qi q31.body,q31.res⟩:=by kernel_rfl
def q2x:IFn:=⟨64,
 (jQ (jR [(jo 6 (.mov (.const (.int .u64 0))))])
 (jQ (jR [(jm 8 1),(jc 9 179 8),(jm 10 9),(jz 10 (jm 11 2)),(jz 10 (jc 12 179 11)),(jO 13 10 12),(jm 7 13)])
 (jQ (.seq (jR [(jm 14 0)])
 (.block 0
 (jQ (jR [(jq 16 14 12),(jm 15 16)])
 (.cond 15
 (jQ (jR [(jm 17 1),(jm 18 2),(jo 19 (.flt .add 17 18)),(jc 20 180 19),(jm 6 20)])
 .ret)
 (jQ (jR [(jq 22 14 13),(jm 21 22)])
 (.cond 21
 (jQ (jR [(jm 23 1),(jm 24 2),(jo 25 (.flt .sub 23 24)),(jc 26 180 25),(jm 6 26)])
 .ret)
 (jQ (jR [(jq 28 14 14),(jm 27 28)])
 (.cond 27
 (jQ (jR [(jm 29 1),(jm 30 2),(jo 31 (.flt .mul 29 30)),(jc 32 180 31),(jm 6 32)])
 .ret)
 (jQ (jR [(jq 34 14 15),(jm 33 34)])
 (.cond 33
 (jQ (jR [(jm 35 1),(jm 36 2),(jo 37 (.flt .quo 35 36)),(jc 38 180 37),(jm 6 38)])
 .ret)
 (jQ (jR [(jq 40 14 18),(jm 39 40)])
 (.cond 39
 (jQ (jR [(jm 41 1),(jm 42 2),(jo 43 (.fbin .eql 41 42)),(jc 44 181 43),(jm 6 44)])
 .ret)
 (jQ (jR [(jq 46 14 19),(jm 45 46)])
 (.cond 45
 (jQ (jR [(jm 47 1),(jm 48 2),(jo 49 (.fbin .lss 47 48)),(jc 50 181 49),(jm 6 50)])
 .ret)
 .skip))))))))))))))
 (jQ (.block 1
 (jQ (jR [(jm 52 7),(jm 51 52)])
 (.cond 51
 (jQ (jR [(jo 6 (.mov (.const (.int .u64 9221120237041090560))))])
 .ret)
 (jQ (jR [(jm 54 0),(jq 55 54 16),(jm 53 55)])
 (.cond 53
 (jQ (jR [(jm 56 1),(jm 57 2),(jC 58 182 56 57),(jc 59 180 58),(jm 6 59)])
 .ret)
 .skip)))))
 (jQ (jR [(jm 60 1),(jm 61 2),(jC 62 183 60 61),(jc 63 180 62),(jm 6 63)])
 .ret))))),
 [.tmp 6]⟩
theorem q7x:qn Tryz.prog qd 152=some ⟨q2x.n,qi q2x.body,q2x.res⟩:=by kernel_rfl
def q1x:IFn:=⟨74,
 (jQ (jR [(jo 6 (.mov (.const (.int .u64 0))))])
 (jQ (.seq (jR [(jm 7 0)])
 (.block 0
 (jQ (jR [(jq 9 7 0),(jm 8 9)])
 (.cond 8
 (jQ (jR [(jm 10 1),(jm 11 2),(jo 12 (.bin .add 10 11)),(jm 6 12)])
 .ret)
 (jQ (jR [(jq 14 7 1),(jm 13 14)])
 (.cond 13
 (jQ (jR [(jm 15 1),(jm 16 2),(jo 17 (.bin .sub 15 16)),(jm 6 17)])
 .ret)
 (jQ (jR [(jq 19 7 2),(jm 18 19)])
 (.cond 18
 (jQ (jR [(jm 20 1),(jm 21 2),(jo 22 (.bin .mul 20 21)),(jm 6 22)])
 .ret)
 (jQ (jR [(jq 24 7 3),(jm 23 24)])
 (.cond 23
 (jQ (jR [(jm 25 1),(jm 26 2),(jo 27 (.bin .and 25 26)),(jm 6 27)])
 .ret)
 (jQ (jR [(jq 29 7 4),(jm 28 29)])
 (.cond 28
 (jQ (jR [(jm 30 1),(jm 31 2),(jo 32 (.bin .or 30 31)),(jm 6 32)])
 .ret)
 (jQ (jR [(jq 34 7 5),(jm 33 34)])
 (.cond 33
 (jQ (jR [(jm 35 1),(jm 36 2),(jo 37 (.bin .xor 35 36)),(jm 6 37)])
 .ret)
 (jQ (jR [(jq 39 7 6),(jm 38 39)])
 (.cond 38
 (jQ (jR [(jm 40 1),(jm 41 2),(jo 42 (.bin .rem 41 (.const (.int .u64 64)))),(jo 43 (.bin .shl 40 42)),(jm 6 43)])
 .ret)
 (jQ (jR [(jq 45 7 7),(jm 44 45)])
 (.cond 44
 (jQ (jR [(jm 46 1),(jm 47 2),(jo 48 (.bin .rem 47 (.const (.int .u64 64)))),(jo 49 (.bin .shr 46 48)),(jm 6 49)])
 .ret)
 (jQ (jR [(jq 51 7 8),(jm 50 51)])
 (.cond 50
 (jQ (jR [(jm 52 1),(jm 53 2),(jo 54 (.bin .eql 52 53)),(jc 55 181 54),(jm 6 55)])
 .ret)
 (jQ (jR [(jq 57 7 9),(jm 56 57)])
 (.cond 56
 (jQ (jR [(jm 58 1),(jm 59 2),(jo 60 (.bin .neq 58 59)),(jc 61 181 60),(jm 6 61)])
 .ret)
 (jQ (jR [(jq 63 7 10),(jm 62 63)])
 (.cond 62
 (jQ (jR [(jm 64 1),(jo 65 (.conv .i64 64)),(jm 66 2),(jo 67 (.conv .i64 66)),(jw 68 65 67),(jc 69 181 68),(jm 6 69)])
 .ret)
 .skip))))))))))))))))))))))))
 (jQ (jR [(jm 70 1),(jm 71 2),(jw 72 70 71),(jc 73 181 72),(jm 6 73)])
 .ret))),
 [.tmp 6]⟩
theorem q6b:qn Tryz.prog qd 153=some ⟨q1x.n,qi q1x.body,q1x.res⟩:=by kernel_rfl
def q30:IFn:=⟨7,
 (jQ (jR [(jo 2 (.mov (.const (.int .u64 0))))])
 (jQ (.seq (jR [(jm 3 0),(jc 4 179 3)])
 (.cond 4
 (jQ (jR [(jo 2 (.mov (.const (.int .u64 9221120237041090560))))])
 .ret)
 .skip))
 (jQ (jR [(jm 5 0),(jo 6 (.fbits 5)),(jm 2 6)])
 .ret))),
 [.tmp 2]⟩
theorem q8M:qn Tryz.prog qd 180=some ⟨q30.n,qi q30.body,q30.res⟩:=by kernel_rfl
def q32:IFn:=⟨4,
 (jQ (jR [(jo 2 (.mov (.const (.int .u64 0))))])
 (jQ (.seq (jR [(jm 3 0)])
 (.cond 3
 (jQ (jR [(jo 2 (.mov (.const (.int .u64 1))))])
 .ret)
 .skip))
 (jQ (jR [(jo 2 (.mov (.const (.int .u64 0))))])
 .ret))),
 [.tmp 2]⟩
theorem q8O:qn Tryz.prog qd 181=some ⟨q32.n,qi q32.body,q32.res⟩:=by kernel_rfl
def q1C:IFn:=⟨9,
 (jQ (jR [(jo 2 (.mov (.const (.int .u64 0))))])
 (jQ (jR [(jm 4 0),(jo 5 (.fbits 4)),(jm 3 5)])
 (jQ (.seq (jR [(jm 6 3),(jc 7 159 6)])
 (.cond 7
 (jQ (jR [(jo 2 (.mov (.const (.int .u64 9221120237041090560))))])
 .ret)
 .skip))
 (jQ (jR [(jm 8 3),(jm 2 8)])
 .ret)))),
 [.tmp 2]⟩
theorem q6g:qn Tryz.prog qd 158=some ⟨q1C.n,qi q1C.body,q1C.res⟩:=by kernel_rfl
def q37:IFn:=⟨12,
 (jQ (jR [(jo 2 (.mov (.const (.bool false))))])
 (jQ (jR [(jm 3 0),(jo 4 (.bin .shr 3 (.const (.int .u64 52)))),(jo 5 (.bin .and 4 (.const (.int .u64 2047)))),(jo 6 (.bin .eql 5 (.const (.int .u64 2047)))),
 (jm 7 6),(jy 7 (jm 8 0)),(jy 7 (jo 9 (.bin .and 8 (.const (.int .u64 4503599627370495))))),(jy 7 (jo 10 (.bin .neq 9 (.const (.int .u64 0))))),
 (jA 11 7 10),(jm 2 11)])
 .ret)),
 [.tmp 2]⟩
theorem q8T:qn Tryz.prog qd 159=some ⟨q37.n,qi q37.body,q37.res⟩:=by kernel_rfl
def q2z:IFn:=⟨6,
 (jQ (jR [(jo 2 (.mov (.const (.bool false))))])
 (jQ (jR [(jm 3 0),(jm 4 0),(jo 5 (.fbin .neq 3 4)),(jm 2 5)])
 .ret)),
 [.tmp 2]⟩
theorem q7z:qn Tryz.prog qd 179=some ⟨q2z.n,qi q2z.body,q2z.res⟩:=by kernel_rfl
def q3v:IFn:=⟨11,
 (jQ (jR [(jo 4 (.mov (.const (.float .f64 0))))])
 (jQ (.cond (.const (.bool true))
 (jQ (jR [(jm 5 0),(jm 6 1),(jo 7 (.fpk true 5 6)),(jm 4 7)])
 .ret)
 .skip)
 (jQ (jR [(jm 8 0),(jm 9 1),(jC 10 198 8 9),(jm 4 10)])
 .ret))),
 [.tmp 4]⟩
theorem q9F:qn Tryz.prog qd 182=some ⟨q3v.n,qi q3v.body,q3v.res⟩:=by kernel_rfl
def q3u:IFn:=⟨11,
 (jQ (jR [(jo 4 (.mov (.const (.float .f64 0))))])
 (jQ (.cond (.const (.bool true))
 (jQ (jR [(jm 5 0),(jm 6 1),(jo 7 (.fpk false 5 6)),(jm 4 7)])
 .ret)
 .skip)
 (jQ (jR [(jm 8 0),(jm 9 1),(jC 10 200 8 9),(jm 4 10)])
 .ret))),
 [.tmp 4]⟩
theorem q9E:qn Tryz.prog qd 183=some ⟨q3u.n,qi q3u.body,q3u.res⟩:=by kernel_rfl
abbrev qke:List Value:=[(.int .i64 0),(.int .i64 0),(.int .i64 0)]
def q33:IFn:=⟨56,
 (jQ (jR [(jb 1 69 0),(jk 2 0)])
 (jQ (.seq (jR [(jf 6 0 1),(jl 7 6),(jo 8 (.bin .lss 7 (jI 0))),(jm 9 8),(jz 9 (jf 10 0 1)),(jz 9 (jl 11 10)),(jz 9 (jo 12 (.bin .geq 11 (jI 18)))),
 (jO 13 9 12)])
 (.cond 13
 (jQ (jR [(jk 2 10)])
 .ret)
 .skip))
 (jQ (.seq (jR [(jf 14 1 1),(jl 15 14),(jf 16 2 1),(jl 17 16),(jf 18 3 1),(jl 19 18),(jo 20 (.bld qke [(0,1,15),(1,1,17),(2,1,19)])),
 (jk 21 0)])
 (.block 0
 (.loop 9007199252643900
 (jQ (jR [(jo 22 (.bin .lss 21 (jI 3)))])
 (jQ (.cond 22
 .skip
 (.exit 0))
 (jQ (.block 1
 (jQ (jR [(jm 23 21),(jo 24 (.idx 3 20 21)),(jm 3 23),(jm 4 24)])
 (jQ (.draw (.f (jf 25 0 1)
 (.f (jl 26 25)
 (.f (jo 27 (.ixa 18 2 (.global 2) 26))
 (.f (jf 28 1 27)
 (.f (jl 29 28)
 (.f (jm 30 3)
 (.f (jm 31 3)
 (.f (ja 32 31 1)
 (.f ⟨some 33, .sslc (.const (.string ⟨#[65,66,67]⟩)) (some 30) (some 32),none⟩
 (.f (jC 34 184 29 33)
 (.f (jm 5 34)
 .done))))))))))))
 (jQ (jR [(jm 35 5),(jm 36 35),(jy 36 (jm 37 4)),(jy 36 (jo 38 (.bin .lss 37 (jI 0)))),(jy 36 (jm 39 38)),(jz 39 (jm 40 4)),(jz 39 (jo 41 (.bin .geq 40 (jI 8)))),
 (jy 36 (jO 42 39 41)),(jA 43 36 42),(jm 44 43),(jz 44 (jm 45 5)),(jz 44 (jo 46 (.not 45))),(jz 44 (jm 47 46)),(jy 47 (jm 48 4)),(jy 47 (jo 49 (.bin .neq 48 (jI 0)))),
 (jz 44 (jA 50 47 49)),(jO 51 44 50)])
 (.cond 51
 (jQ (jR [(jk 2 11)])
 .ret)
 .skip)))))
 (jR [(ja 52 21 1),(jm 21 52)])))))))
 (jQ (.seq (jR [(jL 53 5 1),(jc 54 185 53),(jo 55 (.not 54))])
 (.cond 55
 (jQ (jR [(jk 2 11)])
 .ret)
 .skip))
 (jQ (jR [(jk 2 0)])
 .ret))))),
 [.tmp 2]⟩
theorem q8P:qn Tryz.prog qd 154=some ⟨q33.n,qi q33.body,q33.res⟩:=by kernel_rfl
def q34:IFn:=⟨21,
 (jQ (jR [(jb 1 69 0),(jk 2 0)])
 (jQ (.seq (jR [(jL 3 5 1),(jc 4 154 3),(jq 5 4 0)])
 (.cond 5
 (jQ (jR [(jf 6 0 1),(jl 7 6)])
 (.block 0
 (jQ (.seq (jR [(jq 9 7 8),(jm 8 9)])
 (.cond 8
 .skip
 (jQ (jR [(jq 10 7 9),(jm 8 10)])
 (.cond 8
 .skip
 (jQ (jR [(jq 11 7 10),(jm 8 11)])
 (.cond 8
 .skip
 (jQ (jR [(jq 12 7 11),(jm 8 12)])
 (.cond 8
 .skip
 (jQ (jR [(jq 13 7 14),(jm 8 13)])
 (.cond 8
 .skip
 (jR [(jq 14 7 15),(jm 8 14)])))))))))))
 (.cond 8
 (jQ (jR [(jk 2 1)])
 .ret)
 (jQ (.seq (jR [(jq 16 7 7),(jm 15 16)])
 (.cond 15
 .skip
 (jQ (jR [(jq 17 7 12),(jm 15 17)])
 (.cond 15
 .skip
 (jQ (jR [(jq 18 7 13),(jm 15 18)])
 (.cond 15
 .skip
 (jQ (jR [(jq 19 7 16),(jm 15 19)])
 (.cond 15
 .skip
 (jR [(jq 20 7 17),(jm 15 20)])))))))))
 (.cond 15
 (jQ (jR [(jk 2 2)])
 .ret)
 .skip))))))
 .skip))
 (jQ (jR [(jk 2 0)])
 .ret))),
 [.tmp 2]⟩
theorem q8Q:qn Tryz.prog qd 155=some ⟨q34.n,qi q34.body,q34.res⟩:=by kernel_rfl
def q2y:IFn:=⟨56,
 (jQ (jR [(jb 1 69 0),(jo 2 (.mov (.const (.bool false))))])
 (jQ (.seq (jR [(jf 3 0 1),(jl 4 3)])
 (.block 0
 (jQ (.seq (jR [(jq 6 4 1),(jm 5 6)])
 (.cond 5
 .skip
 (jQ (jR [(jq 7 4 10),(jm 5 7)])
 (.cond 5
 .skip
 (jQ (jR [(jq 8 4 11),(jm 5 8)])
 (.cond 5
 .skip
 (jQ (jR [(jq 9 4 12),(jm 5 9)])
 (.cond 5
 .skip
 (jR [(jq 10 4 13),(jm 5 10)])))))))))
 (.cond 5
 (jQ (jR [(jo 2 (.mov (.const (.bool true))))])
 .ret)
 (jQ (jR [(jq 12 4 3),(jm 11 12)])
 (.cond 11
 (jQ (jR [(jf 13 4 1),(jl 14 13),(jo 15 (.bin .geq 14 (jI 0))),(jm 16 15),(jy 16 (jf 17 4 1)),(jy 16 (jl 18 17)),(jy 16 (jo 19 (.bin .lss 18 (jI 22)))),
 (jA 20 16 19),(jm 2 20)])
 .ret)
 (jQ (.seq (jR [(jq 22 4 4),(jm 21 22)])
 (.cond 21
 .skip
 (jQ (jR [(jq 23 4 5),(jm 21 23)])
 (.cond 21
 .skip
 (jR [(jq 24 4 6),(jm 21 24)])))))
 (.cond 21
 (jQ (jR [(jf 25 4 1),(jl 26 25),(jo 27 (.bin .geq 26 (jI 0))),(jm 28 27),(jy 28 (jf 29 4 1)),(jy 28 (jl 30 29)),(jy 28 (jo 31 (.bin .leq 30 (jI 64)))),
 (jA 32 28 31),(jm 2 32)])
 .ret)
 (jQ (jR [(jq 34 4 7),(jm 33 34)])
 (.cond 33
 (jQ (jR [(jf 35 4 1),(jl 36 35),(jo 37 (.bin .geq 36 (jI 1))),(jm 38 37),(jy 38 (jf 39 4 1)),(jy 38 (jl 40 39)),(jy 38 (jo 41 (.bin .leq 40 (jI 8)))),
 (jA 42 38 41),(jm 2 42)])
 .ret)
 (jQ (jR [(jq 44 4 14),(jm 43 44)])
 (.cond 43
 (jQ (jR [(jf 45 4 1),(jl 46 45),(jo 47 (.bin .geq 46 (jI 0))),(jm 48 47),(jy 48 (jf 49 4 1)),(jy 48 (jl 50 49)),(jy 48 (jo 51 (.bin .lss 50 (jI 4)))),
 (jA 52 48 51),(jm 2 52)])
 .ret)
 .skip))))))))))))
 (jQ (jR [(jf 53 4 1),(jl 54 53),(jq 55 54 0),(jm 2 55)])
 .ret))),
 [.tmp 2]⟩
theorem q7y:qn Tryz.prog qd 185=some ⟨q2y.n,qi q2y.body,q2y.res⟩:=by kernel_rfl
def q35:IFn:=⟨15,
 (jQ (jR [(jb 1 69 0),(jk 2 0),(jo 3 (.mov (.const (.bool false))))])
 (jQ (.seq (jR [(jL 4 5 1),(jc 5 154 4),(jq 6 5 0)])
 (.cond 6
 (jQ (jR [(jf 7 0 1),(jl 8 7)])
 (.block 0
 (jQ (.seq (jR [(jq 10 8 4),(jm 9 10)])
 (.cond 9
 .skip
 (jQ (jR [(jq 11 8 5),(jm 9 11)])
 (.cond 9
 .skip
 (jR [(jq 12 8 6),(jm 9 12)])))))
 (.cond 9
 (jQ (jR [(jf 13 4 1),(jl 14 13),(jm 2 14),(jo 3 (.mov (.const (.bool true))))])
 .ret)
 .skip))))
 .skip))
 (jQ (jR [(jk 2 0),(jo 3 (.mov (.const (.bool false))))])
 .ret))),
 [.tmp 2, .tmp 3]⟩
theorem q8R:qn Tryz.prog qd 186=some ⟨q35.n,qi q35.body,q35.res⟩:=by kernel_rfl
def q20:IFn:=⟨21,
 (jQ (jR [(jb 1 69 0),(jk 2 0)])
 (jQ (.seq (jR [(jL 3 5 1),(jc 4 101 3),(jo 5 (.bin .neq 4 (jI 0)))])
 (.cond 5
 (jQ (jR [(jk 2 0)])
 .ret)
 .skip))
 (jQ (.seq (jR [(jf 6 0 1),(jl 7 6)])
 (.block 0
 (jQ (.seq (jR [(jq 9 7 8),(jm 8 9)])
 (.cond 8
 .skip
 (jQ (jR [(jq 10 7 9),(jm 8 10)])
 (.cond 8
 .skip
 (jQ (jR [(jq 11 7 10),(jm 8 11)])
 (.cond 8
 .skip
 (jQ (jR [(jq 12 7 11),(jm 8 12)])
 (.cond 8
 .skip
 (jQ (jR [(jq 13 7 14),(jm 8 13)])
 (.cond 8
 .skip
 (jR [(jq 14 7 15),(jm 8 14)])))))))))))
 (.cond 8
 (jQ (jR [(jk 2 1)])
 .ret)
 (jQ (.seq (jR [(jq 16 7 7),(jm 15 16)])
 (.cond 15
 .skip
 (jQ (jR [(jq 17 7 12),(jm 15 17)])
 (.cond 15
 .skip
 (jQ (jR [(jq 18 7 13),(jm 15 18)])
 (.cond 15
 .skip
 (jQ (jR [(jq 19 7 16),(jm 15 19)])
 (.cond 15
 .skip
 (jR [(jq 20 7 17),(jm 15 20)])))))))))
 (.cond 15
 (jQ (jR [(jk 2 2)])
 .ret)
 .skip))))))
 (jQ (jR [(jk 2 0)])
 .ret)))),
 [.tmp 2]⟩
theorem q6T:qn Tryz.prog qd 99=some ⟨q20.n,qi q20.body,q20.res⟩:=by kernel_rfl
def q1Z:IFn:=⟨64,
 (jQ (jR [(jb 1 69 0),(jk 2 0)])
 (jQ (.seq (jR [(jf 6 0 1),(jl 7 6),(jo 8 (.bin .lss 7 (jI 0))),(jm 9 8),(jz 9 (jf 10 0 1)),(jz 9 (jl 11 10)),(jz 9 (jo 12 (.bin .geq 11 (jI 18)))),
 (jO 13 9 12)])
 (.cond 13
 (jQ (jR [(jk 2 10)])
 .ret)
 .skip))
 (jQ (jR [(jf 14 0 1),(jl 15 14),(jc 16 130 15),(jm 3 16)])
 (jQ (.seq (.draw (.f (jf 17 1 1)
 (.f (jl 18 17)
 (.f (jm 19 3)
 (.f (jo 20 (.call 132 [19,(.const (.int .u8 114))]))
 (.f (jC 21 131 18 20)
 (.f (jo 22 (.not 21))
 (.f (jm 23 22)
 (.f (jz 23 (jf 24 2 1))
 (.f (jz 23 (jl 25 24))
 (.f (jz 23 (jm 26 3))
 (.f (jz 23 (jo 27 (.call 132 [26,(.const (.int .u8 115))])))
 (.f (jz 23 (jC 28 131 25 27))
 (.f (jz 23 (jo 29 (.not 28)))
 (.f (jO 30 23 29)
 (.f (jm 31 30)
 (.f (jz 31 (jf 32 3 1))
 (.f (jz 31 (jl 33 32))
 (.f (jz 31 (jm 34 3))
 (.f (jz 31 (jo 35 (.call 132 [34,(.const (.int .u8 116))])))
 (.f (jz 31 (jC 36 131 33 35))
 (.f (jz 31 (jo 37 (.not 36)))
 (.f (jO 38 31 37)
 .done)))))))))))))))))))))))
 (.cond 38
 (jQ (jR [(jk 2 11)])
 .ret)
 .skip))
 (jQ (jR [(jk 4 0),(jk 5 0)])
 (jQ (.block 0
 (jQ (jR [(jm 40 3),(jo 41 (.call 132 [40,(.const (.int .u8 105))])),(jm 39 41)])
 (.cond 39
 (jQ (jR [(jk 2 0)])
 .ret)
 (jQ (jR [(jm 43 3),(jo 44 (.call 132 [43,(.const (.int .u8 102))])),(jm 42 44)])
 (.cond 42
 (jR [(jk 5 21)])
 (jQ (jR [(jm 46 3),(jo 47 (.call 132 [46,(.const (.int .u8 106))])),(jm 45 47)])
 (.cond 45
 (jR [(jk 5 64)])
 (jQ (jR [(jm 49 3),(jo 50 (.call 132 [49,(.const (.int .u8 97))])),(jm 48 50)])
 (.cond 48
 (jR [(jk 4 1),(jk 5 8)])
 (jQ (jR [(jm 52 3),(jo 53 (.call 132 [52,(.const (.int .u8 99))])),(jm 51 53)])
 (.cond 51
 (jR [(jk 5 3)])
 .skip)))))))))))
 (jQ (.seq (jR [(jf 54 4 1),(jl 55 54),(jm 56 4),(jw 57 55 56),(jm 58 57),(jz 58 (jf 59 4 1)),(jz 58 (jl 60 59)),(jz 58 (jm 61 5)),(jz 58 (jo 62 (.bin .gtr 60 61))),
 (jO 63 58 62)])
 (.cond 63
 (jQ (jR [(jk 2 11)])
 .ret)
 .skip))
 (jQ (jR [(jk 2 0)])
 .ret)))))))),
 [.tmp 2]⟩
theorem q6S:qn Tryz.prog qd 101=some ⟨q1Z.n,qi q1Z.body,q1Z.res⟩:=by kernel_rfl
def q21:IFn:=⟨16,
 (jQ (jR [(jb 1 69 0),(jk 2 0),(jo 3 (.mov (.const (.bool false))))])
 (jQ (.seq (jR [(jL 4 5 1),(jc 5 101 4),(jo 6 (.bin .neq 5 (jI 0))),(jm 7 6),(jz 7 (jf 8 0 1)),(jz 7 (jl 9 8)),(jz 7 (jc 10 130 9)),
 (jz 7 (jo 11 (.call 132 [10,(.const (.int .u8 106))]))),(jz 7 (jo 12 (.not 11))),(jO 13 7 12)])
 (.cond 13
 (jQ (jR [(jk 2 0),(jo 3 (.mov (.const (.bool false))))])
 .ret)
 .skip))
 (jQ (jR [(jf 14 4 1),(jl 15 14),(jm 2 15),(jo 3 (.mov (.const (.bool true))))])
 .ret))),
 [.tmp 2, .tmp 3]⟩
theorem q6U:qn Tryz.prog qd 102=some ⟨q21.n,qi q21.body,q21.res⟩:=by kernel_rfl
def q2A:IFn:=⟨7,
 (jQ (jR [
 ⟨some 2, .mov (.const (.string ⟨#[]⟩)),none⟩])
 (jQ (jR [
 ⟨some 3, .blds 9 18 [(.string ⟨#[]⟩),(.string ⟨#[]⟩),(.string ⟨#[]⟩),(.string ⟨#[]⟩),(.string ⟨#[]⟩),(.string ⟨#[]⟩),(.string ⟨#[]⟩),(.string ⟨#[]⟩),(.string ⟨#[]⟩),(.string ⟨#[]⟩),(.string ⟨#[]⟩),(.string ⟨#[]⟩),(.string ⟨#[]⟩),(.string ⟨#[]⟩),(.string ⟨#[]⟩),(.string ⟨#[]⟩),(.string ⟨#[]⟩),(.string ⟨#[]⟩)] [(0,1,(.const (.string ⟨#[]⟩))),(1,1,(.const (.string ⟨#[114,105]⟩))),(2,1,(.const (.string ⟨#[114,115]⟩))),(3,1,(.const (.string ⟨#[114,115,116,102]⟩))),(4,1,(.const (.string ⟨#[106]⟩))),(5,1,(.const (.string ⟨#[114,106]⟩))),(6,1,(.const (.string ⟨#[114,106]⟩))),(7,1,(.const (.string ⟨#[97]⟩))),(8,1,(.const (.string ⟨#[]⟩))),(9,1,(.const (.string ⟨#[]⟩))),(10,1,(.const (.string ⟨#[114,115,105]⟩))),(11,1,(.const (.string ⟨#[114,115,105]⟩))),(12,1,(.const (.string ⟨#[114,115,105]⟩))),(13,1,(.const (.string ⟨#[114,115,105]⟩))),(14,1,(.const (.string ⟨#[114,99]⟩))),(15,1,(.const (.string ⟨#[114]⟩))),(16,1,(.const (.string ⟨#[]⟩))),(17,1,(.const (.string ⟨#[114]⟩)))],none⟩,
 (jm 4 0),(jx 5 1 3 4),(jl 6 5),(jm 2 6)])
 .ret)),
 [.tmp 2]⟩
theorem q7A:qn Tryz.prog qd 130=some ⟨q2A.n,qi q2A.body,q2A.res⟩:=by kernel_rfl
def q14:IFn:=⟨14,
 (jQ (jR [(jo 4 (.mov (.const (.bool false))))])
 (jQ (.seq (jR [(jm 5 1)])
 (.cond 5
 (jQ (jR [(jm 6 0),(jo 7 (.bin .geq 6 (jI 0))),(jm 8 7),(jy 8 (jm 9 0)),(jy 8 (jo 10 (.bin .lss 9 (jI 8)))),
 (jA 11 8 10),(jm 4 11)])
 .ret)
 .skip))
 (jQ (jR [(jm 12 0),(jq 13 12 0),(jm 4 13)])
 .ret))),
 [.tmp 4]⟩
theorem q59:qn Tryz.prog qd 131=some ⟨q14.n,qi q14.body,q14.res⟩:=by kernel_rfl
def q38:IFn:=⟨17,
 (jQ (jR [(jo 4 (.mov (.const (.bool false))))])
 (jQ (.seq (jR [(jk 5 0)])
 (.block 0
 (.loop 131056
 (jQ (.seq (jR [(jm 6 5),(jm 7 0),(jo 8 (.lens 7)),(jw 9 6 8)])
 (.cond 9
 .skip
 (.exit 0)))
 (jQ (.block 1
 (jQ (jR [(jm 12 0),(jm 13 5),(jo 14 (.sidx 12 13)),(jm 15 1),(jo 16 (.bin .eql 14 15))])
 (.cond 16
 (jQ (jR [(jo 4 (.mov (.const (.bool true))))])
 .ret)
 .skip)))
 (jR [(jm 10 5),(ja 11 10 1),(jm 5 11)]))))))
 (jQ (jR [(jo 4 (.mov (.const (.bool false))))])
 .ret))),
 [.tmp 4]⟩
theorem q8U:qn Tryz.prog qd 132=some ⟨q38.n,qi q38.body,q38.res⟩:=by kernel_rfl
def q0M:IFn:=⟨9,
 (jQ (jR [(jo 4 (.mov (.const (.bool false))))])
 (jQ (jR [(jm 5 0),(jm 6 1),(jC 7 201 5 6),(jo 8 (.bin .geq 7 (jI 0))),(jm 4 8)])
 .ret)),
 [.tmp 4]⟩
theorem q4z:qn Tryz.prog qd 184=some ⟨q0M.n,qi q0M.body,q0M.res⟩:=by kernel_rfl
def q1k:IFn:=⟨8,
 (jQ (jR [(jk 4 0)])
 (jQ (jR [(jm 5 0),(jm 6 1),(jC 7 207 5 6),(jm 4 7)])
 .ret)),
 [.tmp 4]⟩
theorem q5K:qn Tryz.prog qd 201=some ⟨q1k.n,qi q1k.body,q1k.res⟩:=by kernel_rfl
def qz:IFn:=⟨143,
 (jQ (jR [(jk 4 0)])
 (jQ (jR [(jm 14 1),(jo 15 (.lens 14)),(jm 5 15)])
 (jQ (.block 0
 (jQ (jR [(jm 17 5),(jq 18 17 0),(jm 19 18),(jz 19 (jm 20 1)),(jz 19 (jm 21 0)),(jz 19 (jo 22 (.sbin .eql 20 21))),(jO 23 19 22),(jm 16 23)])
 (.cond 16
 (jQ (jR [(jk 4 0)])
 .ret)
 (jQ (jR [(jm 25 5),(jq 26 25 1),(jm 24 26)])
 (.cond 24
 (jQ (jR [(jm 27 0),(jm 28 1),(jo 29 (.sidx 28 (jI 0))),(jC 30 209 27 29),(jm 4 30)])
 .ret)
 (jQ (jR [(jm 32 5),(jm 33 0),(jo 34 (.lens 33)),(jo 35 (.bin .geq 32 34)),(jm 31 35)])
 (.cond 31
 (jQ (jR [(jo 4 (.mov (.const (.int .i64 (-1)))))])
 .ret)
 (jQ (jR [(jm 37 5),(jo 38 (.ld (.global 3))),(jo 39 (.bin .leq 37 38)),(jm 40 39),(jy 40 (jm 41 0)),(jy 40 (jo 42 (.lens 41))),
 (jy 40 (jo 43 (.bin .leq 42 (jI 64)))),(jA 44 40 43),(jm 36 44)])
 (.cond 36
 (jQ (jR [(jm 45 0),(jm 46 1),(jo 47 (.bad)),(jm 4 47)])
 .ret)
 .skip)))))))))
 (jQ (jR [(jm 48 1),(jo 49 (.sidx 48 (jI 0))),(jm 6 49)])
 (jQ (jR [(jm 50 1),(jo 51 (.sidx 50 (jI 1))),(jm 7 51)])
 (jQ (jR [(jk 8 0)])
 (jQ (jR [(jm 52 0),(jo 53 (.lens 52)),(jm 54 5),(jo 55 (.bin .sub 53 54)),(ja 56 55 1),(jm 9 56)])
 (jQ (jR [(jk 10 0)])
 (jQ (.block 1
 (.loop 11150372599265311570767858992208992677149968
 (jQ (.seq (jR [(jm 57 8),(jm 58 9),(jw 59 57 58)])
 (.cond 59
 .skip
 (.exit 1)))
 (.block 2
 (jQ (.seq (jR [(jm 60 0),(jm 61 8),(jo 62 (.sidx 60 61)),(jm 63 6),(jo 64 (.bin .neq 62 63))])
 (.cond 64
 (jQ (jR [(jm 65 0),(jm 66 8),(ja 67 66 1),(jm 68 9),(jo 69 (.sslc 65 (some 67) (some 68))),(jm 70 6),(jC 71 209 69 70),(jm 11 71)])
 (jQ (.seq (jR [(jm 72 11),(jo 73 (.bin .lss 72 (jI 0)))])
 (.cond 73
 (jQ (jR [(jo 4 (.mov (.const (.int .i64 (-1)))))])
 .ret)
 .skip))
 (jR [(jm 74 8),(jm 75 11),(ja 76 75 1),(jo 77 (.bin .add 74 76)),(jm 8 77)])))
 .skip))
 (jQ (.seq (jR [(jm 78 0),(jm 79 8),(ja 80 79 1),(jo 81 (.sidx 78 80)),(jm 82 7),(jo 83 (.bin .eql 81 82)),(jm 84 83),(jy 84 (jm 85 0)),
 (jy 84 (jm 86 8)),(jy 84 (jm 87 8)),(jy 84 (jm 88 5)),(jy 84 (jo 89 (.bin .add 87 88))),(jy 84 (jo 90 (.sslc 85 (some 86) (some 89)))),
 (jy 84 (jm 91 1)),(jy 84 (jo 92 (.sbin .eql 90 91))),(jA 93 84 92)])
 (.cond 93
 (jQ (jR [(jm 94 8),(jm 4 94)])
 .ret)
 .skip))
 (jQ (jR [(jm 95 8),(ja 96 95 1),(jm 8 96)])
 (jQ (jR [(jm 97 10),(ja 98 97 1),(jm 10 98)])
 (jQ (jR [(jm 99 5),(jo 100 (.ld (.global 3))),(jo 101 (.bin .leq 99 100)),(jm 102 101),(jy 102 (jm 103 10)),(jy 102 (jm 104 8)),(jy 102 (jc 105 211 104)),
 (jy 102 (jo 106 (.bin .gtr 103 105))),(jA 107 102 106)])
 (.cond 107
 (jQ (jR [(jm 108 0),(jm 109 8),(jo 110 (.sslc 108 (some 109) none)),(jm 111 1),(jo 112 (.bad)),(jm 12 112)])
 (jQ (.seq (jR [(jm 113 12),(jo 114 (.bin .geq 113 (jI 0)))])
 (.cond 114
 (jQ (jR [(jm 115 12),(jm 116 8),(jo 117 (.bin .add 115 116)),(jm 4 117)])
 .ret)
 .skip))
 (jQ (jR [(jo 4 (.mov (.const (.int .i64 (-1)))))])
 .ret)))
 (jQ (jR [(jm 118 5),(jo 119 (.ld (.global 3))),(jo 120 (.bin .gtr 118 119)),(jm 121 120),(jy 121 (jm 122 10)),(jy 121 (jm 123 8)),(jy 121 (jo 124 (.bin .shr 123 (.const (.int .u64 4))))),
 (jy 121 (jo 125 (.bin .add (jI 4) 124))),(jy 121 (jo 126 (.bin .geq 122 125))),(jA 127 121 126),(jm 128 127),(jy 128 (jm 129 8)),
 (jy 128 (jm 130 9)),(jy 128 (jw 131 129 130)),(jA 132 128 131)])
 (.cond 132
 (jQ (jR [(jm 133 0),(jm 134 8),(jo 135 (.sslc 133 (some 134) none)),(jm 136 1),(jC 137 212 135 136),(jm 13 137)])
 (jQ (.seq (jR [(jm 138 13),(jo 139 (.bin .lss 138 (jI 0)))])
 (.cond 139
 (jQ (jR [(jo 4 (.mov (.const (.int .i64 (-1)))))])
 .ret)
 .skip))
 (jQ (jR [(jm 140 8),(jm 141 13),(jo 142 (.bin .add 140 141)),(jm 4 142)])
 .ret)))
 .skip))))))))))))
 (jQ (jR [(jo 4 (.mov (.const (.int .i64 (-1)))))])
 .ret)))))))))),
 [.tmp 4]⟩
theorem q2f:qn Tryz.prog qd 207=some ⟨qz.n,qi qz.body,qz.res⟩:=by kernel_rfl
def qu:IFn:=⟨8,
 (jQ (jR [(jk 4 0)])
 (jQ (jR [(jm 5 0),(jm 6 1),(jo 7 (.ibs 5 6)),(jm 4 7)])
 .ret)),
 [.tmp 4]⟩
theorem q1q:qn Tryz.prog qd 209=some ⟨qu.n,qi qu.body,qu.res⟩:=by kernel_rfl
def q12:IFn:=⟨29,
 (jQ (jR [(jk 4 0)])
 (jQ (.seq (jR [(jm 5 0),(jc 6 123 5),(jo 7 (.not 6)),(jm 8 7),(jz 8 (jm 9 1)),(jz 8 (jo 10 (.bin .lss 9 (jI 0)))),(jO 11 8 10),
 (jm 12 11),(jz 12 (jm 13 1)),(jz 12 (jm 14 0)),(jz 12 (jt 15 14)),(jz 12 (jo 16 (.bin .geq 13 15))),(jO 17 12 16),(jm 18 17),(jz 18 (jm 19 0)),
 (jz 18 (jm 20 1)),(jz 18 (jx 21 5 19 20)),(jz 18 (jf 22 0 21)),(jz 18 (jl 23 22)),(jz 18 (jo 24 (.bin .neq 23 (jI 7)))),(jO 25 18 24)])
 (.cond 25
 (jQ (jR [(jo 4 (.mov (.const (.int .i64 (-1)))))])
 .ret)
 .skip))
 (jQ (jR [(jm 26 0),(jm 27 1),(jC 28 124 26 27),(jm 4 28)])
 .ret))),
 [.tmp 4]⟩
theorem q57:qn Tryz.prog qd 93=some ⟨q12.n,qi q12.body,q12.res⟩:=by kernel_rfl
abbrev eZ9:Value:=.agg #[.int .i64 0, .int .i64 0, .int .i64 0, .int .i64 0, .int .i64 0]
def q1f:IFn:=⟨37,
 (jQ (jR [(jk 2 0),(jk 3 0)])
 (jQ (.seq (jR [(jm 8 0),(jt 9 8),(jo 10 (.bin .gtr 9 (jI 64)))])
 (.cond 10
 (jQ (jR [(jk 2 0),(jk 3 3)])
 .ret)
 .skip))
 (jQ (jR [(jo 4 (.mov (.const (.int .i64 (-1)))))])
 (jQ (.seq (jR [(jm 11 0),(jt 12 11),(jk 13 0)])
 (.block 0
 (.loop 17179861244
 (jQ (jR [(jw 14 13 12)])
 (jQ (.cond 14
 .skip
 (.exit 0))
 (jQ (.block 1
 (jQ (jR [(jm 15 13),(jx 16 5 11 13),(jL 17 5 16),(jo 6 (.new 69 eZ9)),(jm 5 15),
 (jS 5 6 17)])
 (jQ (.seq (jR [(jm 18 0),(jm 19 5),(jm 20 4),(jo 21 (.call 129 [18,19,20])),(jm 7 21)])
 (jQ (jR [(jm 22 7),(jo 23 (.bin .neq 22 (jI 0)))])
 (.cond 23
 (jQ (jR [(jm 24 5),(jm 25 7),(jm 2 24),(jm 3 25)])
 .ret)
 .skip)))
 (jQ (jR [(jf 26 0 6),(jl 27 26)])
 (.block 2
 (jQ (jR [(jq 29 27 7),(jm 28 29)])
 (.cond 28
 (jR [(jm 30 5),(jm 4 30)])
 (jQ (jR [(jq 32 27 8),(jm 31 32)])
 (.cond 31
 (jR [(jo 4 (.mov (.const (.int .i64 (-1)))))])
 .skip)))))))))
 (jR [(ja 33 13 1),(jm 13 33)])))))))
 (jQ (.seq (jR [(jm 34 4),(jo 35 (.bin .geq 34 (jI 0)))])
 (.cond 35
 (jQ (jR [(jm 36 4),(jm 2 36),(jk 3 43)])
 .ret)
 .skip))
 (jQ (jR [(jk 2 0),(jk 3 0)])
 .ret)))))),
 [.tmp 2, .tmp 3]⟩
theorem q5F:qn Tryz.prog qd 98=some ⟨q1f.n,qi q1f.body,q1f.res⟩:=by kernel_rfl
def q1g:IFn:=⟨12,
 (jQ (jR [(jo 2 (.mov (.const (.bool false))))])
 (jQ (jR [(jm 6 0),(jc 7 98 6),(jm 5 7),(je 8 5 0),(je 9 5 1),(jm 3 8),(jm 4 9)])
 (jQ (jR [(jm 10 4),(jq 11 10 0),(jm 2 11)])
 .ret))),
 [.tmp 2]⟩
theorem q5G:qn Tryz.prog qd 123=some ⟨q1g.n,qi q1g.body,q1g.res⟩:=by kernel_rfl
def q1X:IFn:=⟨23,
 (jQ (jR [(jk 4 0)])
 (jQ (.seq (jR [(jm 6 1),(ja 7 6 1),(jm 5 7)])
 (.block 0
 (.loop 2096944
 (jQ (.seq (jR [(jm 8 5),(jm 9 0),(jt 10 9),(jw 11 8 10)])
 (.cond 11
 .skip
 (.exit 0)))
 (jQ (.block 1
 (jQ (jR [(jm 14 0),(jm 15 5),(jx 16 5 14 15),(jf 17 0 16),(jl 18 17),(jq 19 18 8)])
 (.cond 19
 (jQ (jR [(jm 20 5),(jm 4 20)])
 .ret)
 .skip)))
 (jR [(jm 12 5),(ja 13 12 1),(jm 5 13)]))))))
 (jQ (jR [(jm 21 0),(jt 22 21),(jm 4 22)])
 .ret))),
 [.tmp 4]⟩
theorem q6Q:qn Tryz.prog qd 124=some ⟨q1X.n,qi q1X.body,q1X.res⟩:=by kernel_rfl
def q1Y:IFn:=⟨61,
 (jQ (jR [(jk 6 0)])
 (jQ (.seq (jR [(jm 10 0),(jm 11 1),(jx 12 5 10 11),(jL 13 5 12),(jc 14 154 13),(jm 7 14)])
 (jQ (jR [(jm 15 7),(jo 16 (.bin .neq 15 (jI 0)))])
 (.cond 16
 (jQ (jR [(jm 17 7),(jm 6 17)])
 .ret)
 .skip)))
 (jQ (jR [(jm 18 2),(jo 19 (.bin .geq 18 (jI 0))),(jm 8 19)])
 (jQ (.seq (jR [(jm 20 0),(jm 21 1),(jx 22 5 20 21),(jL 23 5 22),(jc 24 155 23),(jm 9 24)])
 (.block 0
 (jQ (.seq (jR [(jm 26 0),(jm 27 1),(jx 28 5 26 27),(jf 29 0 28),(jl 30 29),(jq 31 30 7),(jm 32 31),(jy 32 (jm 33 8)),(jA 34 32 33),(jm 25 34)])
 (.cond 25
 .skip
 (jR [(jm 35 0),(jm 36 1),(jx 37 5 35 36),(jf 38 0 37),(jl 39 38),(jq 40 39 8),(jm 41 40),(jy 41 (jm 42 8)),(jy 41 (jo 43 (.not 42))),(jA 44 41 43),
 (jm 25 44)])))
 (.cond 25
 (jQ (jR [(jk 6 40)])
 .ret)
 (jQ (.seq (jR [(jm 46 9),(jq 47 46 1),(jm 48 47),(jy 48 (jm 49 8)),(jy 48 (jo 50 (.not 49))),(jA 51 48 50),(jm 45 51)])
 (.cond 45
 .skip
 (jR [(jm 52 9),(jq 53 52 2),(jm 54 53),(jy 54 (jm 55 8)),(jA 56 54 55),(jm 45 56)])))
 (.cond 45
 (jQ (jR [(jk 6 41)])
 .ret)
 .skip))))))
 (jQ (jR [(jm 57 0),(jm 58 1),(jm 59 2),(jo 60 (.call 156 [57,58,59])),(jm 6 60)])
 .ret))))),
 [.tmp 6]⟩
theorem q6R:qn Tryz.prog qd 129=some ⟨q1Y.n,qi q1Y.body,q1Y.res⟩:=by kernel_rfl
def q13:IFn:=⟨48,
 (jQ (jR [(jk 6 0)])
 (jQ (jR [(jm 11 0),(jm 12 1),(jx 13 5 11 12),(jL 14 5 13),(jc 15 186 14),(jm 10 15),(je 16 10 0),(je 17 10 1),(jm 7 16),(jm 8 17)])
 (jQ (.seq (jR [(jm 18 8),(jo 19 (.not 18))])
 (.cond 19
 (jQ (jR [(jk 6 0)])
 .ret)
 .skip))
 (jQ (jR [(jm 20 1),(ja 21 20 1),(jm 22 7),(jo 23 (.bin .add 21 22)),(jm 9 23)])
 (jQ (.block 0
 (jQ (jR [(jm 25 9),(jm 26 0),(jt 27 26),(jo 28 (.bin .gtr 25 27)),(jm 24 28)])
 (.cond 24
 (jQ (jR [(jk 6 42)])
 .ret)
 (jQ (jR [(jm 30 2),(jo 31 (.bin .geq 30 (jI 0))),(jm 32 31),(jy 32 (jm 33 9)),(jy 32 (jm 34 0)),(jy 32 (jm 35 2)),(jy 32 (jC 36 124 34 35)),
 (jy 32 (jo 37 (.bin .gtr 33 36))),(jA 38 32 37),(jm 29 38)])
 (.cond 29
 (jQ (jR [(jk 6 42)])
 .ret)
 (jQ (jR [(jm 40 2),(jo 41 (.bin .lss 40 (jI 0))),(jm 42 41),(jy 42 (jm 43 0)),(jy 42 (jm 44 1)),(jy 42 (jm 45 9)),(jy 42 (jo 46 (.call 187 [43,44,45]))),
 (jA 47 42 46),(jm 39 47)])
 (.cond 39
 (jQ (jR [(jk 6 42)])
 .ret)
 .skip)))))))
 (jQ (jR [(jk 6 0)])
 .ret)))))),
 [.tmp 6]⟩
theorem q58:qn Tryz.prog qd 156=some ⟨q13.n,qi q13.body,q13.res⟩:=by kernel_rfl
def q1B:IFn:=⟨32,
 (jQ (jR [(jo 6 (.mov (.const (.bool false))))])
 (jQ (.seq (jR [(jm 8 1),(ja 9 8 1),(jm 7 9)])
 (.block 0
 (.loop 4294966464
 (jQ (.seq (jR [(jm 10 7),(jm 11 2),(jw 12 10 11)])
 (.cond 12
 .skip
 (.exit 0)))
 (jQ (.block 1
 (jQ (jR [(jm 15 0),(jm 16 7),(jx 17 5 15 16),(jf 18 0 17),(jl 19 18),(jq 20 19 7),(jm 21 20),(jy 21 (jm 22 2)),(jy 21 (jm 23 0)),(jy 21 (jm 24 7)),
 (jy 21 (jC 25 124 23 24)),(jy 21 (jm 26 0)),(jy 21 (jt 27 26)),(jy 21 (jo 28 (.bin .sub 27 (jI 1)))),(jy 21 (jo 29 (.mm false 25 28))),
 (jy 21 (jo 30 (.bin .leq 22 29))),(jA 31 21 30)])
 (.cond 31
 (jQ (jR [(jo 6 (.mov (.const (.bool true))))])
 .ret)
 .skip)))
 (jR [(jm 13 7),(ja 14 13 1),(jm 7 14)]))))))
 (jQ (jR [(jo 6 (.mov (.const (.bool false))))])
 .ret))),
 [.tmp 6]⟩
theorem q6f:qn Tryz.prog qd 187=some ⟨q1B.n,qi q1B.body,q1B.res⟩:=by kernel_rfl
def q22:IFn:=⟨91,
 (jQ (jR [(jk 2 0),(jk 3 0)])
 (jQ (.seq (jR [(jm 11 0),(jt 12 11),(jo 13 (.bin .gtr 12 (jI 64)))])
 (.cond 13
 (jQ (jR [(jk 2 0),(jk 3 3)])
 .ret)
 .skip))
 (jQ (jR [(jo 4 (.mov (.const (.int .i64 (-1)))))])
 (jQ (.seq (jR [(jk 5 0)])
 (.block 0
 (.loop 309485009821345068724766716
 (jQ (.seq (jR [(jm 14 5),(jm 15 0),(jt 16 15),(jw 17 14 16)])
 (.cond 17
 .skip
 (.exit 0)))
 (jQ (.block 1
 (jQ (jR [(jm 20 0),(jm 21 5),(jx 22 5 20 21),(jL 23 5 22),(jo 6 (.new 69 eZ9)),
 (jS 5 6 23)])
 (jQ (.seq (jR [(jL 24 5 6),(jc 25 101 24),(jm 7 25)])
 (jQ (jR [(jm 26 7),(jo 27 (.bin .neq 26 (jI 0)))])
 (.cond 27
 (jQ (jR [(jm 28 5),(jm 29 7),(jm 2 28),(jm 3 29)])
 .ret)
 .skip)))
 (jQ (.seq (jR [(jf 30 0 6),(jl 31 30),(jq 32 31 7),(jm 33 32),(jy 33 (jm 34 4)),(jy 33 (jo 35 (.bin .geq 34 (jI 0)))),(jA 36 33 35),
 (jm 37 36),(jz 37 (jf 38 0 6)),(jz 37 (jl 39 38)),(jz 37 (jq 40 39 8)),(jz 37 (jm 41 40)),(jy 41 (jm 42 4)),(jy 41 (jo 43 (.bin .lss 42 (jI 0)))),
 (jz 37 (jA 44 41 43)),(jO 45 37 44)])
 (.cond 45
 (jQ (jR [(jm 46 5),(jm 2 46),(jk 3 40)])
 .ret)
 .skip))
 (jQ (.seq (jR [(jL 47 5 6),(jc 48 99 47),(jm 8 48)])
 (jQ (jR [(jm 49 8),(jq 50 49 1),(jm 51 50),(jy 51 (jm 52 4)),(jy 51 (jo 53 (.bin .lss 52 (jI 0)))),(jA 54 51 53),(jm 55 54),
 (jz 55 (jm 56 8)),(jz 55 (jq 57 56 2)),(jz 55 (jm 58 57)),(jy 58 (jm 59 4)),(jy 58 (jo 60 (.bin .geq 59 (jI 0)))),(jz 55 (jA 61 58 60)),
 (jO 62 55 61)])
 (.cond 62
 (jQ (jR [(jm 63 5),(jm 2 63),(jk 3 41)])
 .ret)
 .skip)))
 (jQ (.seq (jR [(jL 65 5 6),(jc 66 102 65),(jm 64 66),(je 67 64 0),(je 68 64 1),(jm 9 67),(jm 10 68)])
 (jQ (jR [(jm 69 10),(jm 70 69),(jy 70 (jm 71 0)),(jy 70 (jm 72 5)),(jy 70 (jm 73 5)),(jy 70 (ja 74 73 1)),(jy 70 (jm 75 9)),(jy 70 (jo 76 (.bin .add 74 75))),
 (jy 70 (jo 77 (.call 103 [71,72,76]))),(jy 70 (jo 78 (.not 77))),(jA 79 70 78)])
 (.cond 79
 (jQ (jR [(jm 80 5),(jm 2 80),(jk 3 42)])
 .ret)
 .skip)))
 (jQ (jR [(jf 81 0 6),(jl 82 81)])
 (.block 2
 (jQ (jR [(jq 84 82 7),(jm 83 84)])
 (.cond 83
 (jR [(jm 85 5),(jm 4 85)])
 (jQ (jR [(jq 87 82 8),(jm 86 87)])
 (.cond 86
 (jR [(jo 4 (.mov (.const (.int .i64 (-1)))))])
 .skip))))))))))))
 (jR [(jm 18 5),(ja 19 18 1),(jm 5 19)]))))))
 (jQ (.seq (jR [(jm 88 4),(jo 89 (.bin .geq 88 (jI 0)))])
 (.cond 89
 (jQ (jR [(jm 90 4),(jm 2 90),(jk 3 43)])
 .ret)
 .skip))
 (jQ (jR [(jk 2 0),(jk 3 0)])
 .ret)))))),
 [.tmp 2, .tmp 3]⟩
theorem q6V:qn Tryz.prog qd 72=some ⟨q22.n,qi q22.body,q22.res⟩:=by kernel_rfl
def q1h:IFn:=⟨37,
 (jQ (jR [(jo 6 (.mov (.const (.bool false))))])
 (jQ (.seq (jR [(jm 9 2),(jm 10 0),(jt 11 10),(jo 12 (.bin .gtr 9 11))])
 (.cond 12
 (jQ (jR [(jo 6 (.mov (.const (.bool false))))])
 .ret)
 .skip))
 (jQ (jR [(jm 14 0),(jm 15 1),(jC 16 104 14 15),(jm 13 16),(je 17 13 0),(je 18 13 1),(jm 7 17),(jm 8 18)])
 (jQ (.seq (jR [(jm 19 7),(jo 20 (.bin .geq 19 (jI 0)))])
 (.cond 20
 (jQ (jR [(jm 21 2),(jm 22 8),(jo 23 (.bin .leq 21 22)),(jm 6 23)])
 .ret)
 .skip))
 (jQ (jR [(jm 25 0),(jm 26 2),(jC 27 104 25 26),(jm 24 27),(je 28 24 0),(je 29 24 1),(jm 7 28)])
 (jQ (jR [(jm 30 7),(jo 31 (.bin .lss 30 (jI 0))),(jm 32 31),(jz 32 (jm 33 7)),(jz 32 (jm 34 2)),(jz 32 (jo 35 (.bin .eql 33 34))),
 (jO 36 32 35),(jm 6 36)])
 .ret)))))),
 [.tmp 6]⟩
theorem q5H:qn Tryz.prog qd 103=some ⟨q1h.n,qi q1h.body,q1h.res⟩:=by kernel_rfl
def q2B:IFn:=⟨61,
 (jQ (jR [(jk 4 0),(jk 5 0)])
 (jQ (jR [(jo 6 (.mov (.const (.int .i64 (-1)))))])
 (jQ (.seq (jR [(jk 7 0)])
 (.block 0
 (.loop 35184372088816
 (jQ (.seq (jR [(jm 8 7),(jm 9 0),(jt 10 9),(jw 11 8 10)])
 (.cond 11
 .skip
 (.exit 0)))
 (jQ (.block 1
 (jQ (jR [(jm 14 6),(jo 15 (.bin .lss 14 (jI 0))),(jm 16 15),(jy 16 (jm 17 0)),(jy 16 (jm 18 7)),(jy 16 (jx 19 5 17 18)),(jy 16 (jf 20 0 19)),
 (jy 16 (jl 21 20)),(jy 16 (jq 22 21 7)),(jA 23 16 22)])
 (.cond 23
 (jR [(jm 24 7),(jm 6 24)])
 (jQ (jR [(jm 25 6),(jo 26 (.bin .geq 25 (jI 0))),(jm 27 26),(jy 27 (jm 28 0)),(jy 27 (jm 29 7)),(jy 27 (jx 30 5 28 29)),(jy 27 (jf 31 0 30)),
 (jy 27 (jl 32 31)),(jy 27 (jq 33 32 8)),(jA 34 27 33)])
 (.cond 34
 (jQ (.seq (jR [(jm 35 6),(jm 36 1),(jo 37 (.bin .leq 35 36)),(jm 38 37),(jy 38 (jm 39 1)),(jy 38 (jm 40 7)),(jy 38 (jo 41 (.bin .leq 39 40))),
 (jA 42 38 41)])
 (.cond 42
 (jQ (jR [(jm 43 6),(jm 44 7),(jm 4 43),(jm 5 44)])
 .ret)
 .skip))
 (jR [(jo 6 (.mov (.const (.int .i64 (-1)))))]))
 .skip)))))
 (jR [(jm 12 7),(ja 13 12 1),(jm 7 13)]))))))
 (jQ (.seq (jR [(jm 45 6),(jo 46 (.bin .geq 45 (jI 0))),(jm 47 46),(jy 47 (jm 48 6)),(jy 47 (jm 49 1)),(jy 47 (jo 50 (.bin .leq 48 49))),
 (jA 51 47 50),(jm 52 51),(jy 52 (jm 53 1)),(jy 52 (jm 54 0)),(jy 52 (jt 55 54)),(jy 52 (jw 56 53 55)),(jA 57 52 56)])
 (.cond 57
 (jQ (jR [(jm 58 6),(jm 59 0),(jt 60 59),(jm 4 58),(jm 5 60)])
 .ret)
 .skip))
 (jQ (jR [(jo 4 (.mov (.const (.int .i64 (-1))))),(jo 5 (.mov (.const (.int .i64 (-1)))))])
 .ret))))),
 [.tmp 4, .tmp 5]⟩
theorem q7B:qn Tryz.prog qd 104=some ⟨q2B.n,qi q2B.body,q2B.res⟩:=by kernel_rfl
def q0f:IFn:=⟨72,
 (jQ (jR [(jb 1 32 0),(jk 2 0),(jk 3 0),(jk 4 0)])
 (jQ (.seq (jR [(jf 12 0 1),(jL 13 13 12),(jc 14 96 13),(jm 5 14)])
 (jQ (jR [(jm 15 5),(jo 16 (.bin .neq 15 (jI 0)))])
 (.cond 16
 (jQ (jR [(jm 17 5),(jk 2 0),(jk 3 0),(jm 4 17)])
 .ret)
 .skip)))
 (jQ (.seq (jR [(jf 18 14 1),(jl 19 18),(jt 20 19),(jo 21 (.call 97 [20,(jI 1),(jI 16)])),(jo 22 (.not 21))])
 (.cond 22
 (jQ (jR [(jk 2 0),(jk 3 0),(jk 4 54)])
 .ret)
 .skip))
 (jQ (.seq (jR [(jf 23 13 1),(jl 24 23),(jt 25 24),(jf 26 0 1),(jf 27 0 26),(jl 28 27),(jo 29 (.bin .neq 25 28))])
 (.cond 29
 (jQ (jR [(jk 2 0),(jk 3 0),(jk 4 55)])
 .ret)
 .skip))
 (jQ (.seq (jR [(jf 30 14 1),(jl 31 30),(jt 32 31),(jk 33 0)])
 (.block 0
 (.loop 562941363487708
 (jQ (jR [(jw 34 33 32)])
 (jQ (.cond 34
 .skip
 (.exit 0))
 (jQ (.block 1
 (jQ (jR [(jm 35 33),(jx 36 1 31 33),(jl 37 36),(jm 6 35),(jm 7 37)])
 (jQ (jR [(jm 39 7),(jc 40 98 39),(jm 38 40),(je 41 38 0),(je 42 38 1),(jm 8 41),(jm 9 42)])
 (jQ (jR [(jm 43 9),(jo 44 (.bin .neq 43 (jI 0)))])
 (.cond 44
 (jQ (jR [(jm 45 6),(jm 46 8),(jm 47 9),(jm 2 45),(jm 3 46),(jm 4 47)])
 .ret)
 .skip)))))
 (jR [(ja 48 33 1),(jm 33 48)])))))))
 (jQ (.seq (jR [(jf 49 15 1),(jl 50 49),(jt 51 50),(jo 52 (.bin .gtr 51 (jI 65536)))])
 (.cond 52
 (jQ (jR [(jk 2 0),(jk 3 0),(jk 4 56)])
 .ret)
 .skip))
 (jQ (.seq (jR [(jf 53 15 1),(jl 54 53),(jt 55 54),(jk 56 0)])
 (.block 2
 (.loop 4722294425275607288860
 (jQ (jR [(jw 57 56 55)])
 (jQ (.cond 57
 .skip
 (.exit 2))
 (jQ (.block 3
 (jQ (jR [(jm 58 56),(jx 59 1 54 56),(jl 60 59),(jm 10 58),(jm 11 60)])
 (jQ (jR [(jm 61 11),(jo 62 (.bin .lss 61 (jI 0))),(jm 63 62),(jz 63 (jm 64 11)),(jz 63 (jf 65 14 1)),(jz 63 (jl 66 65)),(jz 63 (jt 67 66)),
 (jz 63 (jo 68 (.bin .geq 64 67))),(jO 69 63 68)])
 (.cond 69
 (jQ (jR [(jm 70 10),(jk 2 0),(jm 3 70),(jk 4 56)])
 .ret)
 .skip))))
 (jR [(ja 71 56 1),(jm 56 71)])))))))
 (jQ (jR [(jk 2 0),(jk 3 0),(jk 4 0)])
 .ret)))))))),
 [.tmp 2, .tmp 3, .tmp 4]⟩
theorem q3N:qn Tryz.prog qd 67=some ⟨q0f.n,qi q0f.body,q0f.res⟩:=by kernel_rfl
def q1y:IFn:=⟨70,
 (jQ (jR [(jb 1 28 0),(jk 2 0)])
 (jQ (jR [(jL 7 13 1),(jc 8 128 7),(jm 6 8),(je 9 6 0),(je 10 6 1),(je 11 6 2),(jm 3 9),(jm 4 10),(jm 5 11)])
 (jQ (.block 0
 (jQ (jR [(jf 13 0 1),(jl 14 13),(jo 15 (.call 97 [14,(jI 1),(jI 64)])),(jo 16 (.not 15)),(jm 17 16),
 (jz 17 (jf 18 1 1)),(jz 17 (jl 19 18)),(jz 17 (jo 20 (.call 97 [19,(jI 1),(jI 64)]))),(jz 17 (jo 21 (.not 20))),
 (jO 22 17 21),(jm 12 22)])
 (.cond 12
 (jQ (jR [(jk 2 50)])
 .ret)
 (jQ (jR [(jm 24 5),(jo 25 (.not 24)),(jm 26 25),(jz 26 (jf 27 2 1)),(jz 26 (jl 28 27)),(jz 26 (jf 29 0 1)),(jz 26 (jl 30 29)),(jz 26 (jo 31 (.call 97 [28,(jI 0),30]))),
 (jz 26 (jo 32 (.not 31))),(jO 33 26 32),(jm 34 33),(jz 34 (jm 35 4)),(jz 34 (jf 36 0 1)),(jz 34 (jl 37 36)),(jz 34 (jf 38 2 1)),(jz 34 (jl 39 38)),
 (jz 34 (jo 40 (.bin .sub 37 39))),(jz 34 (jo 41 (.bin .gtr 35 40))),(jO 42 34 41),(jm 23 42)])
 (.cond 23
 (jQ (jR [(jk 2 51)])
 .ret)
 (jQ (jR [(jf 44 7 1),(jl 45 44),(jo 46 (.call 97 [45,(jI 1),(jI 32)])),(jo 47 (.not 46)),(jm 48 47),
 (jz 48 (jf 49 8 1)),(jz 48 (jl 50 49)),(jz 48 (jo 51 (.call 97 [50,(jI 1),(jI 32)]))),(jz 48 (jo 52 (.not 51))),
 (jO 53 48 52),(jm 43 53)])
 (.cond 43
 (jQ (jR [(jk 2 52)])
 .ret)
 (jQ (jR [(jf 55 9 1),(jl 56 55),(jo 57 (.call 97 [56,(jI 0),(jI 8)])),(jo 58 (.not 57)),(jm 59 58),(jz 59 (jf 60 10 1)),
 (jz 59 (jl 61 60)),(jz 59 (jo 62 (.call 97 [61,(jI 0),(jI 8)]))),(jz 59 (jo 63 (.not 62))),(jO 64 59 63),(jm 54 64)])
 (.cond 54
 (jQ (jR [(jk 2 52)])
 .ret)
 (jQ (jR [(jf 66 11 1),(jl 67 66),(jo 68 (.call 97 [67,(jI 0),(jI 1099511627776)])),(jo 69 (.not 68)),
 (jm 65 69)])
 (.cond 65
 (jQ (jR [(jk 2 53)])
 .ret)
 .skip)))))))))))
 (jQ (jR [(jk 2 0)])
 .ret)))),
 [.tmp 2]⟩
theorem q6c:qn Tryz.prog qd 96=some ⟨q1y.n,qi q1y.body,q1y.res⟩:=by kernel_rfl
def q1e:IFn:=⟨15,
 (jQ (jR [(jo 6 (.mov (.const (.bool false))))])
 (jQ (jR [(jm 7 0),(jm 8 1),(jo 9 (.bin .geq 7 8)),(jm 10 9),(jy 10 (jm 11 0)),(jy 10 (jm 12 2)),(jy 10 (jo 13 (.bin .leq 11 12))),
 (jA 14 10 13),(jm 6 14)])
 .ret)),
 [.tmp 6]⟩
theorem q5E:qn Tryz.prog qd 97=some ⟨q1e.n,qi q1e.body,q1e.res⟩:=by kernel_rfl
def q1V:IFn:=⟨32,
 (jQ (jR [(jb 1 28 0),(jk 2 0),(jk 3 0),(jo 4 (.mov (.const (.bool false))))])
 (jQ (.seq (jR [(jf 7 3 1),(jL 8 4 7),(jk 9 0)])
 (.block 0
 (.loop 268435068
 (jQ (jR [(jo 10 (.bin .lss 9 (jI 4)))])
 (jQ (.cond 10
 .skip
 (.exit 0))
 (jQ (.block 1
 (jQ (jR [(jm 11 9),(jo 12 (.idx 4 8 9)),(jm 5 11),(jm 6 12)])
 (jQ (.seq (jR [(jm 13 6),(jo 14 (.bin .lss 13 (jI 0))),(jm 15 14),(jz 15 (jm 16 6)),(jz 15 (jo 17 (.bin .gtr 16 (jI 64)))),
 (jO 18 15 17)])
 (.cond 18
 (jQ (jR [(jk 2 0),(jk 3 0),(jo 4 (.mov (.const (.bool false))))])
 .ret)
 .skip))
 (jQ (jR [(jm 19 2),(jm 20 6),(jo 21 (.bin .add 19 20)),(jm 2 21)])
 (jR [(jm 22 3),(jm 23 6),(jm 24 5),(jo 25 (.bin .shl 23 24)),(jo 26 (.bin .add 22 25)),(jm 3 26)])))))
 (jR [(ja 27 9 1),(jm 9 27)])))))))
 (jQ (jR [(jm 28 2),(jm 29 3),(jm 30 2),(jo 31 (.bin .leq 30 (jI 64))),(jm 2 28),(jm 3 29),(jm 4 31)])
 .ret))),
 [.tmp 2, .tmp 3, .tmp 4]⟩
theorem q6O:qn Tryz.prog qd 128=some ⟨q1V.n,qi q1V.body,q1V.res⟩:=by kernel_rfl
def q1U:IFn:=⟨19,
 (jQ (jR [(jb 2 28 0),(jk 4 0)])
 (jQ (.seq (jR [(jL 6 13 2),(jc 7 194 6),(jk 8 0)])
 (.block 0
 (.loop 524080
 (jQ (jR [(jw 9 8 7)])
 (jQ (.cond 9
 .skip
 (.exit 0))
 (jQ (.block 1
 (jQ (jR [(jm 10 8),(jm 5 10)])
 (jQ (jR [(jL 11 13 2),(jm 12 5),(jC 13 195 11 12),(jo 14 (.conv .u64 13)),(jm 15 1),(jo 16 (.bin .eql 14 15))])
 (.cond 16
 (jQ (jR [(jm 17 5),(jm 4 17)])
 .ret)
 .skip))))
 (jR [(ja 18 8 1),(jm 8 18)])))))))
 (jQ (jR [(jo 4 (.mov (.const (.int .i64 (-1)))))])
 .ret))),
 [.tmp 4]⟩
theorem q6N:qn Tryz.prog qd 177=some ⟨q1U.n,qi q1U.body,q1U.res⟩:=by kernel_rfl
def q1z:IFn:=⟨14,
 (jQ (jR [(jb 2 28 0),(jk 4 0)])
 (jQ (jR [(jL 8 13 2),(jm 9 1),(jC 10 196 8 9),(jm 7 10),(je 11 7 0),(je 12 7 1),(jm 5 11),(jm 6 12)])
 (jQ (jR [(jm 13 5),(jm 4 13)])
 .ret))),
 [.tmp 4]⟩
theorem q6d:qn Tryz.prog qd 178=some ⟨q1z.n,qi q1z.body,q1z.res⟩:=by kernel_rfl
def q1c:IFn:=⟨16,
 (jQ (jR [(jb 1 28 0),(jk 2 0)])
 (jQ (.seq (jR [(jL 6 13 1),(jc 7 96 6),(jo 8 (.bin .neq 7 (jI 0)))])
 (.cond 8
 (jQ (jR [(jk 2 0)])
 .ret)
 .skip))
 (jQ (jR [(jL 10 13 1),(jc 11 128 10),(jm 9 11),(je 12 9 0),(je 13 9 1),(je 14 9 2),(jm 3 12),(jm 4 13),(jm 5 14)])
 (jQ (jR [(jm 15 3),(jm 2 15)])
 .ret)))),
 [.tmp 2]⟩
theorem q5C:qn Tryz.prog qd 194=some ⟨q1c.n,qi q1c.body,q1c.res⟩:=by kernel_rfl
def q1A:IFn:=⟨14,
 (jQ (jR [(jb 2 28 0),(jk 4 0)])
 (jQ (jR [(jL 8 13 2),(jm 9 1),(jC 10 196 8 9),(jm 7 10),(je 11 7 0),(je 12 7 1),(jm 5 11),(jm 6 12)])
 (jQ (jR [(jm 13 6),(jm 4 13)])
 .ret))),
 [.tmp 4]⟩
theorem q6e:qn Tryz.prog qd 195=some ⟨q1A.n,qi q1A.body,q1A.res⟩:=by kernel_rfl
def q1d:IFn:=⟨41,
 (jQ (jR [(jb 2 28 0),(jk 4 0),(jk 5 0)])
 (jQ (.seq (jR [(jL 8 13 2),(jc 9 96 8),(jo 10 (.bin .neq 9 (jI 0))),(jm 11 10),(jz 11 (jm 12 1)),(jz 11 (jo 13 (.bin .lss 12 (jI 0)))),
 (jO 14 11 13)])
 (.cond 14
 (jQ (jR [(jo 4 (.mov (.const (.int .i64 (-1))))),(jo 5 (.mov (.const (.int .i64 (-1)))))])
 .ret)
 .skip))
 (jQ (jR [(jf 15 2 2),(jl 16 15),(jm 5 16)])
 (jQ (.seq (jR [(jf 17 3 2),(jL 18 4 17),(jk 19 0)])
 (.block 0
 (.loop 2199022731506
 (jQ (jR [(jo 20 (.bin .lss 19 (jI 4)))])
 (jQ (.cond 20
 .skip
 (.exit 0))
 (jQ (.block 1
 (jQ (jR [(jm 21 19),(jo 22 (.idx 4 18 19)),(jm 6 21),(jm 7 22)])
 (jQ (.seq (jR [(jm 23 1),(jm 24 7),(jw 25 23 24)])
 (.cond 25
 (jQ (.draw (.f (jm 26 6)
 (.f (jm 27 5)
 (.f (jm 28 1)
 (.f (jm 29 6)
 (.f (jo 30 (.bin .shl 28 29))
 (.f (jo 31 (.bin .add 27 30))
 (.f (jm 4 26)
 (.f (jm 5 31)
 .done)))))))))
 .ret)
 .skip))
 (jQ (jR [(jm 32 1),(jm 33 7),(jo 34 (.bin .sub 32 33)),(jm 1 34)])
 (jR [(jm 35 5),(jm 36 7),(jm 37 6),(jo 38 (.bin .shl 36 37)),(jo 39 (.bin .add 35 38)),(jm 5 39)])))))
 (jR [(ja 40 19 1),(jm 19 40)])))))))
 (jQ (jR [(jo 4 (.mov (.const (.int .i64 (-1))))),(jo 5 (.mov (.const (.int .i64 (-1)))))])
 .ret))))),
 [.tmp 4, .tmp 5]⟩
theorem q5D:qn Tryz.prog qd 196=some ⟨q1d.n,qi q1d.body,q1d.res⟩:=by kernel_rfl
end Go.Proofs.YtkieffpjjfebjaaGreatDoor
