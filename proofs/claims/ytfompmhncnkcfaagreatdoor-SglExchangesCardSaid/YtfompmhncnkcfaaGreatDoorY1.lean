/- What the laws share, part 1. No condition. -/
import Derived.WalkKit
import Derived.Deep.Quiet
import Derived.OrdersIn
import Derived.TacticsIn
import Derived.RangeFuncCalls
import Derived.Laws.FloatArith
import Derived.Great.BuildSlice
import Derived.Laws.Append
import Derived.Laws.StructEq
import Derived.Laws.MakeOwn
import Derived.ChangeKeysEq
import Derived.Deep.QuietTactic
import Derived.RangeFuncFrom
import Derived.RangeFuncLeaves
import Derived.Test.YtfompmhncnkcfaaGreatDoorRows
import Derived.Test.YtfompmhncnkcfaaGreatDoorW29
namespace Go.Proofs.YtfompmhncnkcfaaGreatDoor
open Go
section
variable {α : Type} {enc : α → List Value} {sz : Nat} {W0 : World} {own own' : Own} {l : List α} {a : Option Addr}
abbrev canE (enc : α → List Value) (T : TypeId) (b : Nat) (l : List α) : Nat × (Obj → Prop) := (b, fun o => o = Obj.cells (l.map enc).flatten.toArray T)
theorem can_buf {T : TypeId} {b : Nat} (hw : ∀ x ∈ l, (enc x).length = sz) : BufE enc T sz (some ⟨b, 0, none⟩) l.length l [canE enc T b l] :=
  ⟨hw, .inr ⟨b, [], rfl, by simp [canE], by simp, Nat.le_refl _⟩⟩
end
end Go.Proofs.YtfompmhncnkcfaaGreatDoor
namespace Go.Proofs.YtfompmhncnkcfaaGreatDoor
open Go
section
variable {c b : Bool} {Ky Kn : Prop} {p : Prop} {i : Decidable p}
theorem when_dF (e : c = @decide p i) (hb : b = false) (hn : ¬p → Ky) (hy : p → Kn) : When c b Ky Kn := by subst e; subst hb; exact when_df hn hy
end
end Go.Proofs.YtfompmhncnkcfaaGreatDoor
namespace Go.Proofs.YtfompmhncnkcfaaGreatDoor
open Go
set_option maxRecDepth 100000
def ir_law22_SglAtomic : IFn := ⟨166,
 (.seq (.region [(jb 3 22 0), (jo 6 (.mov (.const (.bool false))))])
 (.seq (.region [(jL 21 5 3), (jm 22 1), (jo 23 (.call 9 [(.tmp 21), (.tmp 22), (.const (.bool false))])), (jm 20 23), (je 24 20 0), (je 25 20 1), (jo 7 (.new 32 (.agg #[.int .i64 0, .int .i64 0, .int .i64 0, .int .i64 0, .int .i64 0, .int .i64 0, .int .i64 0, .int .i64 0, .int .i64 0, .int .i64 0, .int .i64 0, .int .i64 0, .bool false, .slice none 0 0, .slice none 0 0, .slice none 0 0]))),
 (jS 16 7 24), (jm 8 25)])
 (.seq (.seq (.region [(jm 26 8), (jo 27 (.not (.tmp 26))), (jm 28 27), (jz 28 (jm 29 2)), (jz 28 (jt 30 29)), (jz 28 (jo 31 (.bin .gtr (.tmp 30) (.const (.int .i64 60))))),
 (jO 32 28 31)])
 (.cond (.tmp 32)
 (.seq (.region [(jo 33 (.call 10 [])), (jm 6 33)])
 .ret)
 .skip))
 (.seq (.region [(jL 35 16 7), (jc 36 11 35), (jm 34 36), (je 37 34 0), (je 38 34 1), (je 39 34 2), (je 40 34 3), (jm 9 37), (jm 10 38), (jm 11 39), (jm 12 40)])
 (.seq (.region [(jL 41 16 7), (jc 42 12 41), (jm 13 42)])
 (.seq (.seq (.region [(jm 43 12), (jo 44 (.bin .neq (.tmp 43) (.const (.int .i64 0)))), (jm 45 44), (jz 45 (jm 46 9)), (jz 45 (jo 47 (.nilq false 1 (.tmp 46) (.const (.pointer none))))),
 (jO 48 45 47)])
 (.cond (.tmp 48)
 (.seq (.region [(jo 6 (.mov (.const (.bool false))))])
 .ret)
 .skip))
 (.seq (.seq (.region [(jk 14 0)])
 (.block 0
 (.loop 147573389639723040768
 (.seq (.seq (.region [(jm 49 14), (jm 50 2), (jt 51 50), (jw 52 49 51)])
 (.cond (.tmp 52)
 .skip
 (.exit 0)))
 (.seq (.block 1
 (.seq (.region [(jm 55 13), (jm 56 2), (jm 57 14), (jx 58 3 56 57), (jL 59 3 58), (jC 60 13 55 59), (jo 15 (.new 43 (.agg #[.int .i64 0, .int .i64 0, .slice none 0 0]))),
 (jS 3 15 60)])
 (.seq (.region [(jm 61 13), (jL 62 3 15), (jC 63 15 61 62)])
 (.region [(jm 64 9), (jL 65 3 15), (jC 66 14 64 65)]))))
 (.region [(jm 53 14), (ja 54 53 1), (jm 14 54)]))))))
 (.seq (.region [(jm 67 9), (jc 68 17 67), (jo 69 (.fld 2 (.tmp 68))), (jm 16 69)])
 (.seq (.seq (.region [(jk 17 0)])
 (.block 2
 (.loop 46768052394588893382517914645740465008272430989376
 (.seq (.seq (.region [(jm 70 17), (jm 71 16), (jt 72 71), (jw 73 70 72)])
 (.cond (.tmp 73)
 .skip
 (.exit 2)))
 (.seq (.block 3
 (.seq (.seq (.draw (.f (jm 76 16)
 (.f (jm 77 17)
 (.f (jx 78 6 76 77)
 (.f (jf 79 2 78)
 (.f (jl 80 79)
 (.f (jq 81 80 3)
 (.f (jm 82 81)
 (.f (jy 82 (jm 83 17))
 (.f (jy 82 (ja 84 83 1))
 (.f (jy 82 (jm 85 16))
 (.f (jy 82 (jt 86 85))
 (.f (jy 82 (jo 87 (.bin .eql (.tmp 84) (.tmp 86))))
 (.f (jy 82 (jm 88 87))
 (.f (jz 88 (jm 89 16))
 (.f (jz 88 (jm 90 17))
 (.f (jz 88 (ja 91 90 1))
 (.f (jz 88 (jx 92 6 89 91))
 (.f (jz 88 (jf 93 2 92))
 (.f (jz 88 (jl 94 93))
 (.f (jz 88 (jo 95 (.bin .neq (.tmp 94) (.const (.int .i64 4)))))
 (.f (jy 82 (jO 96 88 95))
 (.f (jy 82 (jm 97 96))
 (.f (jz 97 (jm 98 16))
 (.f (jz 97 (jm 99 17))
 (.f (jz 97 (ja 100 99 1))
 (.f (jz 97 (jx 101 6 98 100))
 (.f (jz 97 (jf 102 1 101))
 (.f (jz 97 (jl 103 102))
 (.f (jz 97 (jm 104 16))
 (.f (jz 97 (jm 105 17))
 (.f (jz 97 (jx 106 6 104 105))
 (.f (jz 97 (jf 107 1 106))
 (.f (jz 97 (jl 108 107))
 (.f (jz 97 (jo 109 (.bin .neq (.tmp 103) (.tmp 108))))
 (.f (jy 82 (jO 110 97 109))
 (.f (jy 82 (jm 111 110))
 (.f (jz 111 (jm 112 16))
 (.f (jz 111 (jm 113 17))
 (.f (jz 111 (ja 114 113 1))
 (.f (jz 111 (jx 115 6 112 114))
 (.f (jz 111 (jf 116 0 115))
 (.f (jz 111 (jl 117 116))
 (.f (jz 111 (jm 118 16))
 (.f (jz 111 (jm 119 17))
 (.f (jz 111 (jx 120 6 118 119))
 (.f (jz 111 (jf 121 0 120))
 (.f (jz 111 (jl 122 121))
 (.f (jz 111 (jo 123 (.bin .neq (.tmp 117) (.tmp 122))))
 (.f (jy 82 (jO 124 111 123))
 (.f (jA 125 82 124)
 .done)))))))))))))))))))))))))))))))))))))))))))))))))))
 (.cond (.tmp 125)
 (.seq (.region [(jo 6 (.mov (.const (.bool false))))])
 .ret)
 .skip))
 (.seq (.draw (.f (jm 126 16)
 (.f (jm 127 17)
 (.f (jx 128 6 126 127)
 (.f (jf 129 3 128)
 (.f (jl 130 129)
 (.f (jm 132 16)
 (.f (jm 133 17)
 (.f (jx 134 6 132 133)
 (.f (jf 135 4 134)
 (.f (jl 136 135)
 (.f (jm 138 16)
 (.f (jm 139 17)
 (.f (jx 140 6 138 139)
 (.f (jf 141 5 140)
 (.both (.m (jo 131 (.blds 3 1 [(.int .i64 0)] [(0, 1, (.tmp 130))]))
 (.both (.m (jo 137 (.app 3 1 8 [(.int .i64 0)] (.tmp 131) (.tmp 136)))
 (.f (jl 142 141)
 (.m (jo 143 (.app 3 1 8 [(.int .i64 0)] (.tmp 137) (.tmp 142)))
 (.f (jm 18 143)
 .done))))
 (.f (jl 142 141)
 (.m (jo 137 (.app 3 1 8 [(.int .i64 0)] (.tmp 131) (.tmp 136)))
 (.m (jo 143 (.app 3 1 8 [(.int .i64 0)] (.tmp 137) (.tmp 142)))
 (.f (jm 18 143)
 .done))))))
 (.f (jl 142 141)
 (.m (jo 131 (.blds 3 1 [(.int .i64 0)] [(0, 1, (.tmp 130))]))
 (.m (jo 137 (.app 3 1 8 [(.int .i64 0)] (.tmp 131) (.tmp 136)))
 (.m (jo 143 (.app 3 1 8 [(.int .i64 0)] (.tmp 137) (.tmp 142)))
 (.f (jm 18 143)
 .done)))))))))))))))))))))
 (.seq (.region [(jk 19 0)])
 (.block 4
 (.loop 46768030093843694851894773111202783980628335919168
 (.seq (.seq (.region [(jm 144 19), (jm 145 18), (jt 146 145), (jw 147 144 146)])
 (.cond (.tmp 147)
 .skip
 (.exit 4)))
 (.seq (.block 5
 (.seq (.draw (.f (jm 150 18)
 (.f (jm 151 19)
 (.f (jx 152 1 150 151)
 (.f (jl 153 152)
 (.f (jo 154 (.bin .lss (.tmp 153) (.const (.int .i64 0))))
 (.f (jm 155 154)
 (.f (jz 155 (jm 156 18))
 (.f (jz 155 (jm 157 19))
 (.f (jz 155 (jx 158 1 156 157))
 (.f (jz 155 (jl 159 158))
 (.f (jz 155 (jf 160 0 7))
 (.f (jz 155 (jf 161 0 160))
 (.f (jz 155 (jl 162 161))
 (.f (jz 155 (jo 163 (.bin .geq (.tmp 159) (.tmp 162))))
 (.f (jO 164 155 163)
 .done))))))))))))))))
 (.cond (.tmp 164)
 (.seq (.region [(jo 6 (.mov (.const (.bool false))))])
 .ret)
 .skip)))
 (.region [(jm 148 19), (ja 149 148 1), (jm 19 149)])))))))))
 (.region [(jm 74 17), (ja 75 74 1), (jm 17 75)]))))))
 (.seq (.region [(jo 165 (.call 10 [])), (jm 6 165)])
 .ret)))))))))),
 [.tmp 6]⟩
theorem low_law22_SglAtomic : lowFn Tryz.prog movers 6 = some ⟨ir_law22_SglAtomic.n, strip ir_law22_SglAtomic.body, ir_law22_SglAtomic.res⟩ := by kernel_rfl
def ir_law22_SglExchanges : IFn := ⟨218,
 (.seq (.region [(jb 5 22 0), (jo 10 (.mov (.const (.bool false))))])
 (.seq (.region [(jL 32 5 5), (jm 33 1), (jo 34 (.call 9 [(.tmp 32), (.tmp 33), (.const (.bool false))])), (jm 31 34), (je 35 31 0), (je 36 31 1), (jo 11 (.new 32 (.agg #[.int .i64 0, .int .i64 0, .int .i64 0, .int .i64 0, .int .i64 0, .int .i64 0, .int .i64 0, .int .i64 0, .int .i64 0, .int .i64 0, .int .i64 0, .int .i64 0, .bool false, .slice none 0 0, .slice none 0 0, .slice none 0 0]))),
 (jS 16 11 35), (jm 12 36)])
 (.seq (.seq (.region [(jm 37 12), (jo 38 (.not (.tmp 37))), (jm 39 38), (jz 39 (jm 40 2)), (jz 39 (jt 41 40)), (jz 39 (jo 42 (.bin .gtr (.tmp 41) (.const (.int .i64 30))))),
 (jO 43 39 42)])
 (.cond (.tmp 43)
 (.seq (.region [(jo 44 (.call 10 [])), (jm 10 44)])
 .ret)
 .skip))
 (.seq (.region [(jL 46 16 11), (jc 47 11 46), (jm 45 47), (je 48 45 0), (je 49 45 1), (je 50 45 2), (je 51 45 3), (jm 13 48), (jm 14 49), (jm 15 50), (jm 16 51)])
 (.seq (.region [(jL 53 16 11), (jc 54 11 53), (jm 52 54), (je 55 52 0), (je 56 52 1), (je 57 52 2), (je 58 52 3), (jm 17 55), (jm 18 56), (jm 19 57), (jm 20 58)])
 (.seq (.region [(jL 59 16 11), (jc 60 12 59), (jm 21 60)])
 (.seq (.seq (.region [(jm 61 16), (jo 62 (.bin .neq (.tmp 61) (.const (.int .i64 0)))), (jm 63 62), (jz 63 (jm 64 20)), (jz 63 (jo 65 (.bin .neq (.tmp 64) (.const (.int .i64 0))))),
 (jO 66 63 65), (jm 67 66), (jz 67 (jm 68 13)), (jz 67 (jo 69 (.nilq false 1 (.tmp 68) (.const (.pointer none))))), (jO 70 67 69), (jm 71 70), (jz 71 (jm 72 17)),
 (jz 71 (jo 73 (.nilq false 1 (.tmp 72) (.const (.pointer none))))), (jO 74 71 73)])
 (.cond (.tmp 74)
 (.seq (.region [(jo 10 (.mov (.const (.bool false))))])
 .ret)
 .skip))
 (.seq (.seq (.region [(jk 22 0)])
 (.block 0
 (.loop 158456287249596812229938775040
 (.seq (.seq (.region [(jm 75 22), (jm 76 2), (jt 77 76), (jw 78 75 77)])
 (.cond (.tmp 78)
 .skip
 (.exit 0)))
 (.seq (.block 1
 (.seq (.region [(jm 81 21), (jm 82 2), (jm 83 22), (jx 84 3 82 83), (jL 85 3 84), (jC 86 13 81 85), (jo 23 (.new 43 (.agg #[.int .i64 0, .int .i64 0, .slice none 0 0]))),
 (jS 3 23 86)])
 (.seq (.region [(jm 87 21), (jL 88 3 23), (jC 89 15 87 88)])
 (.seq (.draw (.f (jm 90 13)
 (.f (jL 91 3 23)
 (.f (jm 93 17)
 (.both (.m (jC 92 14 90 91)
 (.f (jL 94 3 23)
 (.m (jC 95 14 93 94)
 (.f (jo 96 (.bin .neq (.tmp 92) (.tmp 95)))
 .done))))
 (.f (jL 94 3 23)
 (.m (jC 92 14 90 91)
 (.m (jC 95 14 93 94)
 (.f (jo 96 (.bin .neq (.tmp 92) (.tmp 95)))
 .done)))))))))
 (.cond (.tmp 96)
 (.seq (.region [(jo 10 (.mov (.const (.bool false))))])
 .ret)
 .skip)))))
 (.region [(jm 79 22), (ja 80 79 1), (jm 22 80)]))))))
 (.seq (.draw (.f (jm 97 3)
 (.f (jm 98 21)
 (.f (jn 99 98)
 (.f (jf 100 18 99)
 (.f (jl 101 100)
 (.f (jt 102 101)
 (.f (jC 103 23 97 102)
 (.f (jm 104 4)
 (.f (jm 105 21)
 (.f (jn 106 105)
 (.f (jf 107 18 106)
 (.f (jl 108 107)
 (.f (jt 109 108)
 (.f (jC 110 23 104 109)
 (.f (jm 24 103)
 (.f (jm 25 110)
 .done)))))))))))))))))
 (.seq (.seq (.region [(jm 111 24), (jm 112 25), (jo 113 (.bin .eql (.tmp 111) (.tmp 112))), (jm 114 113), (jz 114 (jm 115 21)), (jz 114 (jn 116 115)), (jz 114 (jf 117 18 116)),
 (jz 114 (jl 118 117)), (jz 114 (jm 119 24)), (jz 114 (jx 120 11 118 119)), (jz 114 (jf 121 10 120)), (jz 114 (jl 122 121)), (jO 123 114 122), (jm 124 123), (jz 124 (jm 125 21)),
 (jz 124 (jn 126 125)), (jz 124 (jf 127 18 126)), (jz 124 (jl 128 127)), (jz 124 (jm 129 25)), (jz 124 (jx 130 11 128 129)), (jz 124 (jf 131 10 130)), (jz 124 (jl 132 131)),
 (jO 133 124 132)])
 (.cond (.tmp 133)
 (.seq (.region [(jo 134 (.call 10 [])), (jm 10 134)])
 .ret)
 .skip))
 (.seq (.seq (.draw (.f (jf 135 14 11)
 (.f (jl 136 135)
 (.f (jm 137 24)
 (.f (jx 138 1 136 137)
 (.f (jl 139 138)
 (.f (jm 140 21)
 (.f (jn 141 140)
 (.f (jf 142 18 141)
 (.f (jl 143 142)
 (.f (jm 144 24)
 (.f (jx 145 11 143 144)
 (.f (jf 146 0 145)
 (.f (jl 147 146)
 (.f (jx 148 5 139 147)
 (.f (jf 149 0 148)
 (.f (jl 150 149)
 (.f (jm 26 150)
 .done))))))))))))))))))
 (.seq (.region [(jm 151 26), (jq 152 151 7), (jm 153 152), (jz 153 (jm 154 26)), (jz 153 (jo 155 (.bin .geq (.tmp 154) (.const (.int .i64 10))))), (jz 153 (jm 156 155)),
 (jy 156 (jm 157 26)), (jy 156 (jo 158 (.bin .leq (.tmp 157) (.const (.int .i64 16))))), (jz 153 (jA 159 156 158)), (jO 160 153 159)])
 (.cond (.tmp 160)
 (.seq (.region [(jo 161 (.call 10 [])), (jm 10 161)])
 .ret)
 .skip)))
 (.seq (.region [(jm 162 13), (jm 163 24), (jo 164 (.bld [(.int .i64 0), (.int .i64 0), (.slice none 0 0)] [(0, 1, (.tmp 163))])), (jC 165 14 162 164)])
 (.seq (.region [(jm 166 13), (jm 167 25), (jo 168 (.bld [(.int .i64 0), (.int .i64 0), (.slice none 0 0)] [(0, 1, (.tmp 167))])), (jC 169 14 166 168), (jm 27 169)])
 (.seq (.region [(jm 170 17), (jm 171 25), (jo 172 (.bld [(.int .i64 0), (.int .i64 0), (.slice none 0 0)] [(0, 1, (.tmp 171))])), (jC 173 14 170 172), (jm 28 173)])
 (.seq (.region [(jm 174 17), (jm 175 24), (jo 176 (.bld [(.int .i64 0), (.int .i64 0), (.slice none 0 0)] [(0, 1, (.tmp 175))])), (jC 177 14 174 176)])
 (.seq (.region [(jm 178 13), (jc 179 17 178), (jm 180 17), (jc 181 17 180), (jo 29 (.new 52 (.agg #[.slice none 0 0, .slice none 0 0, .slice none 0 0, .slice none 0 0]))),
 (jo 30 (.new 52 (.agg #[.slice none 0 0, .slice none 0 0, .slice none 0 0, .slice none 0 0]))), (jS 4 29 179), (jS 4 30 181)])
 (.seq (.region [(jm 182 27), (jm 183 28), (jo 184 (.bin .eql (.tmp 182) (.tmp 183))), (jm 185 184), (jy 185 (jf 186 0 29)), (jy 185 (jl 187 186)), (jy 185 (jf 188 0 30)),
 (jy 185 (jl 189 188)), (jy 185 (jC 190 24 187 189)), (jA 191 185 190), (jm 192 191), (jy 192 (jf 193 1 29)), (jy 192 (jl 194 193)), (jy 192 (jf 195 1 30)), (jy 192 (jl 196 195)),
 (jy 192 (jC 197 26 194 196)), (jA 198 192 197), (jm 199 198), (jy 199 (jf 200 3 29)), (jy 199 (jl 201 200)), (jy 199 (jf 202 3 30)), (jy 199 (jl 203 202)), (jy 199 (jC 204 27 201 203)),
 (jA 205 199 204), (jm 206 205), (jy 206 (jf 207 2 29)), (jy 206 (jl 208 207)), (jy 206 (jt 209 208)), (jy 206 (jf 210 2 30)), (jy 206 (jl 211 210)), (jy 206 (jt 212 211)),
 (jy 206 (jo 213 (.bin .eql (.tmp 209) (.tmp 212)))), (jA 214 206 213), (jm 215 214), (jy 215 (jo 216 (.call 10 []))), (jA 217 215 216), (jm 10 217)])
 .ret))))))))))))))))),
 [.tmp 10]⟩
theorem low_law22_SglExchanges : lowFn Tryz.prog movers 7 = some ⟨ir_law22_SglExchanges.n, strip ir_law22_SglExchanges.body, ir_law22_SglExchanges.res⟩ := by kernel_rfl
end Go.Proofs.YtfompmhncnkcfaaGreatDoor
