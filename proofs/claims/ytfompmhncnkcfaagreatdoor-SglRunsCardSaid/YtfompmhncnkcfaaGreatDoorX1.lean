/- What the laws share, part 1. No condition. -/
import Derived.WalkKit
import Derived.Deep.Quiet
import Derived.OrdersIn
import Derived.TacticsIn
import Derived.RangeFuncCalls
import Derived.Laws.FloatArith
import Derived.Great.BuildSlice
import Derived.Laws.Append
import Derived.Laws.StructEq
import Derived.Laws.MakeOwn
import Derived.ChangeKeysEq
import Derived.Deep.QuietTactic
import Derived.RangeFuncFrom
import Derived.RangeFuncLeaves
import Derived.Test.YtfompmhncnkcfaaGreatDoorRows
import Derived.ProofKit
import Derived.OpenShut
import Derived.ChangeOld
import Derived.Below
import Derived.LaidMore
import Derived.Lay
import Derived.LaidByTextLater
import Derived.Stop.Joined
import Derived.SevenTiedAt
import Derived.Laws.FloatBits
import Derived.Test.YtfompmhncnkcfaaGreatDoorChecked
import Derived.Shelf.SlMaps.Clone
import Derived.Test.YtfompmhncnkcfaaGreatDoorW29
namespace Go.Proofs.YtfompmhncnkcfaaGreatDoor
open Go
section
variable {c b : Bool} {Ky Kn : Prop} {p : Prop} {i : Decidable p}
theorem when_dF (e : c = @decide p i) (hb : b = false) (hn : ¬p → Ky) (hy : p → Kn) : When c b Ky Kn := by subst e; subst hb; exact when_df hn hy
end
end Go.Proofs.YtfompmhncnkcfaaGreatDoor
namespace Go.Proofs.YtfompmhncnkcfaaGreatDoor
open Go
set_option maxRecDepth 100000
def ir_ref07_CheckScript : IFn := ⟨83,
 (.seq (.region [(jb 1 32 0), (jk 2 0), (jk 3 0), (jk 4 0)])
 (.seq (.seq (.region [(jf 10 0 1), (jL 11 13 10), (jc 12 49 11), (jm 5 12)])
 (.seq (.region [(jm 13 5), (jo 14 (.bin .neq (.tmp 13) (.const (.int .i64 0))))])
 (.cond (.tmp 14)
 (.seq (.region [(jm 15 5), (jk 2 0), (jk 3 0), (jm 4 15)])
 .ret)
 .skip)))
 (.seq (.seq (.region [(jf 16 14 1), (jl 17 16), (jt 18 17), (jo 19 (.bin .lss (.tmp 18) (.const (.int .i64 1)))), (jm 20 19), (jz 20 (jf 21 14 1)), (jz 20 (jl 22 21)),
 (jz 20 (jt 23 22)), (jz 20 (jo 24 (.bin .gtr (.tmp 23) (.const (.int .i64 16))))), (jO 25 20 24)])
 (.cond (.tmp 25)
 (.seq (.region [(jk 2 0), (jk 3 0), (jk 4 54)])
 .ret)
 .skip))
 (.seq (.seq (.region [(jf 26 13 1), (jl 27 26), (jt 28 27), (jf 29 0 1), (jf 30 0 29), (jl 31 30), (jo 32 (.bin .neq (.tmp 28) (.tmp 31)))])
 (.cond (.tmp 32)
 (.seq (.region [(jk 2 0), (jk 3 0), (jk 4 55)])
 .ret)
 .skip))
 (.seq (.seq (.region [(jk 6 0)])
 (.block 0
 (.loop 18014389919547868
 (.seq (.seq (.region [(jm 33 6), (jf 34 14 1), (jl 35 34), (jt 36 35), (jw 37 33 36)])
 (.cond (.tmp 37)
 .skip
 (.exit 0)))
 (.seq (.block 1
 (.seq (.region [(jf 41 14 1), (jl 42 41), (jm 43 6), (jx 44 1 42 43), (jl 45 44), (jc 46 50 45), (jm 40 46), (je 47 40 0), (je 48 40 1), (jm 7 47), (jm 8 48)])
 (.seq (.region [(jm 49 8), (jo 50 (.bin .neq (.tmp 49) (.const (.int .i64 0))))])
 (.cond (.tmp 50)
 (.seq (.region [(jm 51 6), (jm 52 7), (jm 53 8), (jm 2 51), (jm 3 52), (jm 4 53)])
 .ret)
 .skip))))
 (.region [(jm 38 6), (ja 39 38 1), (jm 6 39)]))))))
 (.seq (.seq (.region [(jf 54 15 1), (jl 55 54), (jt 56 55), (jo 57 (.bin .gtr (.tmp 56) (.const (.int .i64 65536))))])
 (.cond (.tmp 57)
 (.seq (.region [(jk 2 0), (jk 3 0), (jk 4 56)])
 .ret)
 .skip))
 (.seq (.seq (.region [(jk 9 0)])
 (.block 2
 (.loop 9671406268686657245938204
 (.seq (.seq (.region [(jm 58 9), (jf 59 15 1), (jl 60 59), (jt 61 60), (jw 62 58 61)])
 (.cond (.tmp 62)
 .skip
 (.exit 2)))
 (.seq (.block 3
 (.seq (.draw (.f (jf 65 15 1)
 (.f (jl 66 65)
 (.f (jm 67 9)
 (.f (jx 68 1 66 67)
 (.f (jl 69 68)
 (.f (jo 70 (.bin .lss (.tmp 69) (.const (.int .i64 0))))
 (.f (jm 71 70)
 (.f (jz 71 (jf 72 15 1))
 (.f (jz 71 (jl 73 72))
 (.f (jz 71 (jm 74 9))
 (.f (jz 71 (jx 75 1 73 74))
 (.f (jz 71 (jl 76 75))
 (.f (jz 71 (jf 77 14 1))
 (.f (jz 71 (jl 78 77))
 (.f (jz 71 (jt 79 78))
 (.f (jz 71 (jo 80 (.bin .geq (.tmp 76) (.tmp 79))))
 (.f (jO 81 71 80)
 .done))))))))))))))))))
 (.cond (.tmp 81)
 (.seq (.region [(jm 82 9), (jk 2 0), (jm 3 82), (jk 4 56)])
 .ret)
 .skip)))
 (.region [(jm 63 9), (ja 64 63 1), (jm 9 64)]))))))
 (.seq (.region [(jk 2 0), (jk 3 0), (jk 4 0)])
 .ret)))))))),
 [.tmp 2, .tmp 3, .tmp 4]⟩
theorem low_ref07_CheckScript : lowFn Tryz.prog movers 21 = some ⟨ir_ref07_CheckScript.n, strip ir_ref07_CheckScript.body, ir_ref07_CheckScript.res⟩ := by kernel_rfl
def ir_ref07_Bare : IFn := ⟨5,
 (.seq (.region [(jb 1 32 0), (jo 2 (.new 32 (.agg #[.int .i64 0, .int .i64 0, .int .i64 0, .int .i64 0, .int .i64 0, .int .i64 0, .int .i64 0, .int .i64 0, .int .i64 0, .int .i64 0, .int .i64 0, .int .i64 0, .bool false, .slice none 0 0, .slice none 0 0, .slice none 0 0])))])
 (.seq (.region [(jf 3 15 1),
 ⟨none, .st (.tmp 3) (.const (.slice none 0 0)), none⟩])
 (.seq (.region [(jL 4 16 1), (jS 16 2 4)])
 .ret))),
 [.cellN 2 16]⟩
theorem low_ref07_Bare : lowFn Tryz.prog movers 22 = some ⟨ir_ref07_Bare.n, strip ir_ref07_Bare.body, ir_ref07_Bare.res⟩ := by kernel_rfl
end Go.Proofs.YtfompmhncnkcfaaGreatDoor
namespace Go.Proofs.YtfompmhncnkcfaaGreatDoor
open Go
set_option maxRecDepth 100000
def ir_ref22_Run : IFn := ⟨45,
 (.seq (.region [(jb 2 32 0), (jo 4 (.new 52 (.agg #[.slice none 0 0, .slice none 0 0, .slice none 0 0, .slice none 0 0]))), (jk 5 0), (jk 6 0)])
 (.seq (.seq (.region [(jL 14 16 2), (jc 15 22 14), (jc 16 21 15), (jm 13 16), (je 17 13 0), (je 18 13 1), (je 19 13 2), (jm 7 17), (jm 8 18), (jm 9 19)])
 (.seq (.region [(jm 20 9), (jo 21 (.bin .neq (.tmp 20) (.const (.int .i64 0))))])
 (.cond (.tmp 21)
 (.seq (.region [(jo 22 (.bld [(.slice none 0 0), (.slice none 0 0), (.slice none 0 0), (.slice none 0 0)] [])), (jm 23 9), (jS 4 4 22), (jk 5 0), (jm 6 23)])
 .ret)
 .skip)))
 (.seq (.region [(jL 24 16 2), (jc 25 12 24), (jm 10 25)])
 (.seq (.seq (.region [(jk 11 0)])
 (.block 0
 (.loop 8796025919584
 (.seq (.seq (.region [(jm 26 11), (jm 27 1), (jt 28 27), (jw 29 26 28)])
 (.cond (.tmp 29)
 .skip
 (.exit 0)))
 (.seq (.block 1
 (.seq (.region [(jm 32 10), (jm 33 1), (jm 34 11), (jx 35 3 33 34), (jL 36 3 35), (jC 37 15 32 36), (jm 12 37)])
 (.seq (.region [(jm 38 12), (jo 39 (.bin .neq (.tmp 38) (.const (.int .i64 0))))])
 (.cond (.tmp 39)
 (.seq (.region [(jo 40 (.bld [(.slice none 0 0), (.slice none 0 0), (.slice none 0 0), (.slice none 0 0)] [])), (jm 41 11), (jm 42 12), (jS 4 4 40), (jm 5 41),
 (jm 6 42)])
 .ret)
 .skip))))
 (.region [(jm 30 11), (ja 31 30 1), (jm 11 31)]))))))
 (.seq (.region [(jm 43 10), (jc 44 18 43), (jS 4 4 44), (jk 5 0), (jk 6 0)])
 .ret))))),
 [.cellN 4 4, .tmp 5, .tmp 6]⟩
theorem low_ref22_Run : lowFn Tryz.prog movers 20 = some ⟨ir_ref22_Run.n, strip ir_ref22_Run.body, ir_ref22_Run.res⟩ := by kernel_rfl
end Go.Proofs.YtfompmhncnkcfaaGreatDoor
namespace Go.Proofs.YtfompmhncnkcfaaGreatDoor
open Go
set_option maxRecDepth 100000
def ir_law22_SglRuns : IFn := ⟨174,
 (.seq (.region [(jb 5 22 0), (jb 9 32 4), (jo 10 (.mov (.const (.bool false))))])
 (.seq (.region [(jL 34 5 5), (jm 35 1), (jm 36 3), (jo 37 (.call 9 [(.tmp 34), (.tmp 35), (.tmp 36)])), (jm 33 37), (je 38 33 0), (je 39 33 1), (jo 11 (.new 32 (.agg #[.int .i64 0, .int .i64 0, .int .i64 0, .int .i64 0, .int .i64 0, .int .i64 0, .int .i64 0, .int .i64 0, .int .i64 0, .int .i64 0, .int .i64 0, .int .i64 0, .bool false, .slice none 0 0, .slice none 0 0, .slice none 0 0]))),
 (jS 16 11 38), (jm 12 39)])
 (.seq (.seq (.region [(jm 40 12), (jo 41 (.not (.tmp 40))), (jm 42 41), (jz 42 (jm 43 2)), (jz 42 (jt 44 43)), (jz 42 (jo 45 (.bin .gtr (.tmp 44) (.const (.int .i64 40))))),
 (jO 46 42 45), (jm 47 46), (jz 47 (jf 48 14 9)), (jz 47 (jl 49 48)), (jz 47 (jt 50 49)), (jz 47 (jo 51 (.bin .gtr (.tmp 50) (.const (.int .i64 20))))), (jO 52 47 51),
 (jm 53 52), (jz 53 (jf 54 13 9)), (jz 53 (jl 55 54)), (jz 53 (jt 56 55)), (jz 53 (jo 57 (.bin .gtr (.tmp 56) (.const (.int .i64 80))))), (jO 58 53 57)])
 (.cond (.tmp 58)
 (.seq (.region [(jo 59 (.call 10 [])), (jm 10 59)])
 .ret)
 .skip))
 (.seq (.region [(jL 60 16 11), (jc 61 12 60), (jm 13 61)])
 (.seq (.region [(jo 14 (.mov (.const (.slice none 0 0))))])
 (.seq (.seq (.region [(jk 15 0)])
 (.block 0
 (.loop 154742500298986515935117312
 (.seq (.seq (.region [(jm 62 15), (jm 63 2), (jt 64 63), (jw 65 62 64)])
 (.cond (.tmp 65)
 .skip
 (.exit 0)))
 (.seq (.block 1
 (.seq (.region [(jm 68 13), (jm 69 2), (jm 70 15), (jx 71 3 69 70), (jL 72 3 71), (jC 73 13 68 72), (jo 16 (.new 43 (.agg #[.int .i64 0, .int .i64 0, .slice none 0 0]))),
 (jS 3 16 73)])
 (.seq (.region [(jm 74 13), (jL 75 3 16), (jC 76 15 74 75), (jq 77 76 0), (jm 78 77), (jz 78 (jm 79 15)), (jz 78 (jo 80 (.bin .rem (.tmp 79) (.const (.int .i64 7))))),
 (jz 78 (jq 81 80 6)), (jO 82 78 81)])
 (.cond (.tmp 82)
 (.region [(jm 83 14), (jL 84 3 16), (jo 85 (.blds 43 1 [(.int .i64 0), (.int .i64 0), (.slice none 0 0)] [(0, 3, (.tmp 84))])), (jo 86 (.app 43 3 40 [(.int .i64 0), (.int .i64 0), (.slice none 0 0)] (.tmp 83) (.tmp 85))),
 (jm 14 86)])
 .skip))))
 (.region [(jm 66 15), (ja 67 66 1), (jm 15 67)]))))))
 (.seq (.region [(jL 88 16 11), (jm 89 14), (jC 90 19 88 89), (jm 87 90), (je 91 87 0), (je 92 87 1), (je 93 87 2), (jo 17 (.new 52 (.agg #[.slice none 0 0, .slice none 0 0, .slice none 0 0, .slice none 0 0]))),
 (jS 4 17 91), (jm 18 92), (jm 19 93)])
 (.seq (.region [(jL 95 16 11), (jm 96 14), (jC 97 20 95 96), (jm 94 97), (je 98 94 0), (je 99 94 1), (je 100 94 2), (jo 20 (.new 52 (.agg #[.slice none 0 0, .slice none 0 0, .slice none 0 0, .slice none 0 0]))),
 (jS 4 20 98), (jm 21 99), (jm 22 100)])
 (.seq (.region [(jL 102 16 9), (jc 103 22 102), (jc 104 21 103), (jm 101 104), (je 105 101 0), (je 106 101 1), (je 107 101 2), (jm 23 105), (jm 24 106), (jm 25 107)])
 (.seq (.region [(jL 109 16 9), (jc 110 11 109), (jm 108 110), (je 111 108 0), (je 112 108 1), (je 113 108 2), (je 114 108 3), (jm 26 111), (jm 27 112), (jm 28 113),
 (jm 29 114)])
 (.seq (.region [(jL 116 16 9), (jo 117 (.call 19 [(.tmp 116), (.const (.slice none 0 0))])), (jm 115 117), (je 118 115 0), (je 119 115 1), (je 120 115 2), (jo 30 (.new 52 (.agg #[.slice none 0 0, .slice none 0 0, .slice none 0 0, .slice none 0 0]))),
 (jS 4 30 118), (jm 31 119), (jm 32 120)])
 (.seq (.region [(jL 121 4 17), (jL 122 4 20), (jC 123 16 121 122), (jm 124 123), (jy 124 (jm 125 18)), (jy 124 (jm 126 21)), (jy 124 (jo 127 (.bin .eql (.tmp 125) (.tmp 126)))),
 (jA 128 124 127), (jm 129 128), (jy 129 (jm 130 19)), (jy 129 (jm 131 22)), (jy 129 (jo 132 (.bin .eql (.tmp 130) (.tmp 131)))), (jA 133 129 132), (jm 134 133),
 (jy 134 (jm 135 23)), (jy 134 (jm 136 27)), (jy 134 (jo 137 (.bin .eql (.tmp 135) (.tmp 136)))), (jA 138 134 137), (jm 139 138), (jy 139 (jm 140 24)), (jy 139 (jm 141 28)),
 (jy 139 (jo 142 (.bin .eql (.tmp 140) (.tmp 141)))), (jA 143 139 142), (jm 144 143), (jy 144 (jm 145 25)), (jy 144 (jm 146 29)), (jy 144 (jo 147 (.bin .eql (.tmp 145) (.tmp 146)))),
 (jA 148 144 147), (jm 149 148), (jy 149 (jm 150 26)), (jy 149 (jo 151 (.nilq true 1 (.tmp 150) (.const (.pointer none))))), (jy 149 (jm 152 25)), (jy 149 (jq 153 152 0)),
 (jy 149 (jo 154 (.beq false (.tmp 151) (.tmp 153)))), (jA 155 149 154), (jm 156 155), (jy 156 (jm 157 32)), (jy 156 (jm 158 25)), (jy 156 (jo 159 (.bin .eql (.tmp 157) (.tmp 158)))),
 (jA 160 156 159), (jm 161 160), (jy 161 (jm 162 25)), (jy 161 (jq 163 162 0)), (jy 161 (jm 164 163)), (jz 164 (jf 165 1 30)), (jz 164 (jl 166 165)), (jz 164 (jt 167 166)),
 (jz 164 (jq 168 167 0)), (jy 161 (jO 169 164 168)), (jA 170 161 169), (jm 171 170), (jy 171 (jo 172 (.call 10 []))), (jA 173 171 172), (jm 10 173)])
 .ret)))))))))))),
 [.tmp 10]⟩
theorem low_law22_SglRuns : lowFn Tryz.prog movers 4 = some ⟨ir_law22_SglRuns.n, strip ir_law22_SglRuns.body, ir_law22_SglRuns.res⟩ := by kernel_rfl
end Go.Proofs.YtfompmhncnkcfaaGreatDoor
namespace Go.Proofs.YtfompmhncnkcfaaGreatDoor
open Go
set_option maxRecDepth 10000
set_option maxHeartbeats 4000000
section
variable {W0 : World} {own : Own} {c : Cfg} {ia pa ka : Option Addr} {il ic pc kc : Nat} {ps : List PH} {ks : List Int}
theorem sp_rcs (hP : RdE PH.enc 1 W0 own pa ps) (hQ : ∀ h ∈ ps, RdE Ins.enc 5 W0 own h.a h.p) (hK : RdE encI 1 W0 own ka ks) :
    Pure Tryz.prog W0 21 [scrV c ia il ic pa ps.length pc ka ks.length kc] own (tup3 (csM c il ps ks)) := by
  refine pure_of (spec_of mixed low_ref07_CheckScript (by simp [ir_ref07_CheckScript]) ?_)
  have hck := fun own => sp_rlcheck W0 own c
  unfold csM
  generalize checkM c = z at *
  by_cases h0 : z = 0
  · subst h0
    simp only [ne_eq, not_true_eq_false, if_false]
    by_cases h1 : ps.length < 1 ∨ 16 < ps.length
    · rw [if_pos h1]
      repeat' ((try (conv => whnf)); first | (refine when_y ?_) | (refine when_tf ?_) | (refine br_t ?_) | (refine br_f ?_) | (refine br_py (by omega) ?_) | (apply call_p (hck _)) | (apply ld_own; (first | (solve | repeat (first | with_reducible exact List.mem_cons_self | (with_reducible (apply List.mem_append_left; exact List.mem_cons_self)) | with_reducible apply List.mem_cons_of_mem | with_reducible apply List.mem_append_right)) | (repeat (first | exact List.Mem.head _ | apply List.Mem.tail | apply List.mem_append_right))); exact rfl) | (apply ldN_own; (first | (solve | repeat (first | with_reducible exact List.mem_cons_self | (with_reducible (apply List.mem_append_left; exact List.mem_cons_self)) | with_reducible apply List.mem_cons_of_mem | with_reducible apply List.mem_append_right)) | (repeat (first | exact List.Mem.head _ | apply List.Mem.tail | apply List.mem_append_right))); exact rfl; exact rfl) | (refine new_i (fun bk hbk => ?_)) | (refine when_df (fun hc => ?_) (fun hc => ?_)))
      all_goals exact ⟨rfl, by (repeat (first | exact Ent.refl | exact Ent.left | refine Ent.cons ?_ | refine Ent.app ?_))⟩
    · rw [if_neg h1]
      by_cases h2 : ¬ (il : Int) = c.words
      · rw [if_pos h2]
        repeat' ((try (conv => whnf)); first | (refine when_y ?_) | (refine br_f ?_) | (refine br_py (by omega) ?_) | (refine br_pn (by omega) ?_) | (refine when_pn (by omega) ?_) | (apply call_p (hck _)) | (apply ld_own; (first | (solve | repeat (first | with_reducible exact List.mem_cons_self | (with_reducible (apply List.mem_append_left; exact List.mem_cons_self)) | with_reducible apply List.mem_cons_of_mem | with_reducible apply List.mem_append_right)) | (repeat (first | exact List.Mem.head _ | apply List.Mem.tail | apply List.mem_append_right))); exact rfl) | (apply ldN_own; (first | (solve | repeat (first | with_reducible exact List.mem_cons_self | (with_reducible (apply List.mem_append_left; exact List.mem_cons_self)) | with_reducible apply List.mem_cons_of_mem | with_reducible apply List.mem_append_right)) | (repeat (first | exact List.Mem.head _ | apply List.Mem.tail | apply List.mem_append_right))); exact rfl; exact rfl) | (refine new_i (fun bk hbk => ?_)))
        all_goals exact ⟨rfl, by (repeat (first | exact Ent.refl | exact Ent.left | refine Ent.cons ?_ | refine Ent.app ?_))⟩
      · rw [if_neg h2]
        repeat' ((try (conv => whnf)); first | (refine when_y ?_) | (refine br_f ?_) | (refine br_pn (by omega) ?_) | (refine when_pn (by omega) ?_) | (apply call_p (hck _)) | (apply ld_own; (first | (solve | repeat (first | with_reducible exact List.mem_cons_self | (with_reducible (apply List.mem_append_left; exact List.mem_cons_self)) | with_reducible apply List.mem_cons_of_mem | with_reducible apply List.mem_append_right)) | (repeat (first | exact List.Mem.head _ | apply List.Mem.tail | apply List.mem_append_right))); exact rfl) | (apply ldN_own; (first | (solve | repeat (first | with_reducible exact List.mem_cons_self | (with_reducible (apply List.mem_append_left; exact List.mem_cons_self)) | with_reducible apply List.mem_cons_of_mem | with_reducible apply List.mem_append_right)) | (repeat (first | exact List.Mem.head _ | apply List.Mem.tail | apply List.mem_append_right))); exact rfl; exact rfl) | (refine new_i (fun bk hbk => ?_)))
        generalize hres : psG ps 0 = res
        refine loop_c (σ := Nat) (fun t => [(6, .int .i64 t)]) (fun t => t ≤ ps.length ∧ psG (ps.drop t) t = res) (fun t => ps.length - t) 0 ⟨by omega, hres⟩ (by repeat' (first | exact True.intro | refine And.intro ?_ ?_ | exact rfl | exact vi (by omega) | (dsimp only; exact rfl) | (dsimp only; exact vi (by omega)))) rfl ?_
        rintro t junk ⟨ht, hI⟩
        by_cases hlt : t < ps.length
        · obtain ⟨x, hx⟩ : ∃ x, ps[t]? = some x := ⟨_, List.getElem?_eq_getElem hlt⟩
          have hx1 := hQ x (List.mem_of_getElem? hx)
          have hcp := fun ex => sp_rpcheck (cap := x.cap) (hx1.ent (Ent.app (A := ex) Ent.refl))
          rw [drop_of hx, psG, checkP_R] at hI
          generalize checkR x.p = r at *
          by_cases hr : r.2 ≠ 0
          · rw [if_pos hr] at hI
            subst hI
            repeat' ((try (conv => whnf)); first | (refine br_py (by omega) ?_) | (refine call_p (hcp [_]) ?_) | ((with_reducible show Ld _ _ _ _); first | (refine ldE (k := 0) (RdE.ent hP ?_) hx ?_ rfl ?_; rotate_left; rfl; rotate_left; (solve | (repeat (first | exact Ent.refl | exact Ent.left | refine Ent.cons ?_ | refine Ent.app ?_))))) | ((with_reducible show IxS _ _ _ _ _); first | (refine ixE hP hx ?_ ?_; (first | rfl | omega))) | (apply sel; exact rfl) | (apply ld_own; (first | (solve | repeat (first | with_reducible exact List.mem_cons_self | (with_reducible (apply List.mem_append_left; exact List.mem_cons_self)) | with_reducible apply List.mem_cons_of_mem | with_reducible apply List.mem_append_right)) | (repeat (first | exact List.Mem.head _ | apply List.Mem.tail | apply List.mem_append_right))); exact rfl))
            all_goals exact ⟨rfl, by (repeat (first | exact Ent.refl | exact Ent.left | refine Ent.cons ?_ | refine Ent.app ?_))⟩
          · rw [if_neg hr] at hI
            repeat' ((try (conv => whnf)); first | (refine br_py (by omega) ?_) | (refine br_pn (by omega) ?_) | (refine call_p (hcp [_]) ?_) | ((with_reducible show Ld _ _ _ _); first | (refine ldE (k := 0) (RdE.ent hP ?_) hx ?_ rfl ?_; rotate_left; rfl; rotate_left; (solve | (repeat (first | exact Ent.refl | exact Ent.left | refine Ent.cons ?_ | refine Ent.app ?_))))) | ((with_reducible show IxS _ _ _ _ _); first | (refine ixE hP hx ?_ ?_; (first | rfl | omega))) | (refine ari ?_ ?_; omega) | (apply sel; exact rfl) | (apply ld_own; (first | (solve | repeat (first | with_reducible exact List.mem_cons_self | (with_reducible (apply List.mem_append_left; exact List.mem_cons_self)) | with_reducible apply List.mem_cons_of_mem | with_reducible apply List.mem_append_right)) | (repeat (first | exact List.Mem.head _ | apply List.Mem.tail | apply List.mem_append_right))); exact rfl))
            all_goals exact ⟨t + 1, ⟨by omega, hI⟩, by omega, (by repeat' (first | exact True.intro | refine And.intro ?_ ?_ | exact rfl | exact vi (by omega) | (dsimp only; exact rfl) | (dsimp only; exact vi (by omega)))), by (repeat (first | exact Ent.refl | exact Ent.left | refine Ent.cons ?_ | refine Ent.app ?_))⟩
        · have ht' : t = ps.length := by omega
          subst ht'
          rw [List.drop_length, psG] at hI
          subst hI
          simp only []
          by_cases h3 : 65536 < ks.length
          · rw [if_pos h3]
            repeat' ((try (conv => whnf)); first | (refine br_py (by omega) ?_) | (refine br_pn (by omega) ?_) | (apply ld_own; (first | (solve | repeat (first | with_reducible exact List.mem_cons_self | (with_reducible (apply List.mem_append_left; exact List.mem_cons_self)) | with_reducible apply List.mem_cons_of_mem | with_reducible apply List.mem_append_right)) | (repeat (first | exact List.Mem.head _ | apply List.Mem.tail | apply List.mem_append_right))); exact rfl))
            all_goals exact ⟨rfl, by (repeat (first | exact Ent.refl | exact Ent.left | refine Ent.cons ?_ | refine Ent.app ?_))⟩
          · rw [if_neg h3]
            generalize hres2 : ksG ps.length ks 0 = res2
            repeat' ((try (conv => whnf)); first | (refine br_pn (by omega) ?_) | (apply ld_own; (first | (solve | repeat (first | with_reducible exact List.mem_cons_self | (with_reducible (apply List.mem_append_left; exact List.mem_cons_self)) | with_reducible apply List.mem_cons_of_mem | with_reducible apply List.mem_append_right)) | (repeat (first | exact List.Mem.head _ | apply List.Mem.tail | apply List.mem_append_right))); exact rfl))
            refine loop_c (σ := Nat) (fun i => [(9, .int .i64 i)]) (fun i => i ≤ ks.length ∧ ksG ps.length (ks.drop i) i = res2) (fun i => ks.length - i) 0 ⟨by omega, hres2⟩ (by repeat' (first | exact True.intro | refine And.intro ?_ ?_ | exact rfl | exact vi (by omega) | (dsimp only; exact rfl) | (dsimp only; exact vi (by omega)))) rfl ?_
            rintro i junk2 ⟨hi, hI⟩
            by_cases hlt2 : i < ks.length
            · obtain ⟨k, hk⟩ : ∃ k, ks[i]? = some k := ⟨_, List.getElem?_eq_getElem hlt2⟩
              rw [drop_of hk, ksG] at hI
              by_cases hb : k < 0 ∨ (ps.length : Int) ≤ k
              · rw [if_pos hb] at hI
                subst hI
                repeat' ((try (conv => whnf)); first | (refine when_y ?_) | (refine when_tf ?_) | (refine br_t ?_) | (refine br_py (by omega) ?_) | ((with_reducible show Ld _ _ _ _); first | (refine ldE (k := 0) (RdE.ent hK ?_) hk ?_ rfl ?_; rotate_left; rfl; rotate_left; (solve | (repeat (first | exact Ent.refl | exact Ent.left | refine Ent.cons ?_ | refine Ent.app ?_))))) | ((with_reducible show IxS _ _ _ _ _); first | (refine ixE hK hk ?_ ?_; (first | rfl | omega))) | (apply ld_own; (first | (solve | repeat (first | with_reducible exact List.mem_cons_self | (with_reducible (apply List.mem_append_left; exact List.mem_cons_self)) | with_reducible apply List.mem_cons_of_mem | with_reducible apply List.mem_append_right)) | (repeat (first | exact List.Mem.head _ | apply List.Mem.tail | apply List.mem_append_right))); exact rfl) | (refine when_df (fun hc => ?_) (fun hc => ?_)))
                all_goals exact ⟨rfl, by (repeat (first | exact Ent.refl | exact Ent.left | refine Ent.cons ?_ | refine Ent.app ?_))⟩
              · rw [if_neg hb] at hI
                repeat' ((try (conv => whnf)); first | (refine when_y ?_) | (refine br_py (by omega) ?_) | (refine br_pn (by omega) ?_) | (refine when_pn (by omega) ?_) | ((with_reducible show Ld _ _ _ _); first | (refine ldE (k := 0) (RdE.ent hK ?_) hk ?_ rfl ?_; rotate_left; rfl; rotate_left; (solve | (repeat (first | exact Ent.refl | exact Ent.left | refine Ent.cons ?_ | refine Ent.app ?_))))) | ((with_reducible show IxS _ _ _ _ _); first | (refine ixE hK hk ?_ ?_; (first | rfl | omega))) | (refine ari ?_ ?_; omega) | (apply ld_own; (first | (solve | repeat (first | with_reducible exact List.mem_cons_self | (with_reducible (apply List.mem_append_left; exact List.mem_cons_self)) | with_reducible apply List.mem_cons_of_mem | with_reducible apply List.mem_append_right)) | (repeat (first | exact List.Mem.head _ | apply List.Mem.tail | apply List.mem_append_right))); exact rfl))
                all_goals exact ⟨i + 1, ⟨by omega, hI⟩, by omega, (by repeat' (first | exact True.intro | refine And.intro ?_ ?_ | exact rfl | exact vi (by omega) | (dsimp only; exact rfl) | (dsimp only; exact vi (by omega)))), by (repeat (first | exact Ent.refl | exact Ent.left | refine Ent.cons ?_ | refine Ent.app ?_))⟩
            · have hi' : i = ks.length := by omega
              subst hi'
              rw [List.drop_length, ksG] at hI
              subst hI
              repeat' ((try (conv => whnf)); first | (refine br_pn (by omega) ?_) | (apply ld_own; (first | (solve | repeat (first | with_reducible exact List.mem_cons_self | (with_reducible (apply List.mem_append_left; exact List.mem_cons_self)) | with_reducible apply List.mem_cons_of_mem | with_reducible apply List.mem_append_right)) | (repeat (first | exact List.Mem.head _ | apply List.Mem.tail | apply List.mem_append_right))); exact rfl))
              all_goals exact ⟨rfl, by (repeat (first | exact Ent.refl | exact Ent.left | refine Ent.cons ?_ | refine Ent.app ?_))⟩
  · rw [if_pos h0]
    repeat' ((try (conv => whnf)); first | (refine br_py (by omega) ?_) | (apply call_p (hck _)) | (apply ldN_own; (first | (solve | repeat (first | with_reducible exact List.mem_cons_self | (with_reducible (apply List.mem_append_left; exact List.mem_cons_self)) | with_reducible apply List.mem_cons_of_mem | with_reducible apply List.mem_append_right)) | (repeat (first | exact List.Mem.head _ | apply List.Mem.tail | apply List.mem_append_right))); exact rfl; exact rfl) | (refine new_i (fun bk hbk => ?_)))
    all_goals exact ⟨rfl, by (repeat (first | exact Ent.refl | exact Ent.left | refine Ent.cons ?_ | refine Ent.app ?_))⟩
end
end Go.Proofs.YtfompmhncnkcfaaGreatDoor
namespace Go.Proofs.YtfompmhncnkcfaaGreatDoor
open Go Go.ChangeShapes Go.WideShapes Go.ChangeAt Go.RowKit
set_option maxRecDepth 100000
section
variable {H : Type} {enc : TypeId × Value → H} {w : World} {spare : Nat → Bool} {held : Bool} {fuel : Nat} {cs : List Value} {x : DataW H × List MemPlace}
theorem one_cell {cs : List Value} {i : Nat} {v : Value} (h : (cs.drop i).take 1 = [v]) : cs[i]? = some v := by
  have := congrArg (·[0]?) h
  simpa using this
theorem trod_ins (h : DataW.trod enc Tryz.prog w 0 spare held fuel 69 cs = some x) : ∃ y : Ins, cs = y.enc ∧ True := by
  obtain ⟨hl, m0, y0, h0⟩ := trod_at 0 (off := 0) (ft := 3) (n := 1) (by kernel_rfl) (by kernel_rfl) h
  obtain ⟨_, m1, y1, h1⟩ := trod_at 1 (off := 1) (ft := 3) (n := 1) (by kernel_rfl) (by kernel_rfl) h
  obtain ⟨_, m2, y2, h2⟩ := trod_at 2 (off := 2) (ft := 3) (n := 1) (by kernel_rfl) (by kernel_rfl) h
  obtain ⟨_, m3, y3, h3⟩ := trod_at 3 (off := 3) (ft := 3) (n := 1) (by kernel_rfl) (by kernel_rfl) h
  obtain ⟨_, m4, y4, h4⟩ := trod_at 4 (off := 4) (ft := 3) (n := 1) (by kernel_rfl) (by kernel_rfl) h
  obtain ⟨n0, e0, _⟩ := trod_i64 Tryz.underlying3 h0
  obtain ⟨n1, e1, _⟩ := trod_i64 Tryz.underlying3 h1
  obtain ⟨n2, e2, _⟩ := trod_i64 Tryz.underlying3 h2
  obtain ⟨n3, e3, _⟩ := trod_i64 Tryz.underlying3 h3
  obtain ⟨n4, e4, _⟩ := trod_i64 Tryz.underlying3 h4
  have hl' : cs.length = 5 := hl.trans (by kernel_rfl)
  refine ⟨⟨n0, n1, n2, n3, n4⟩, ?_, trivial⟩
  match cs, hl' with
  | [c0, c1, c2, c3, c4], _ =>
    simp at e0 e1 e2 e3 e4
    rw [e0, e1, e2, e3, e4]
end
end Go.Proofs.YtfompmhncnkcfaaGreatDoor
namespace Go.Proofs.YtfompmhncnkcfaaGreatDoor
open Go Go.ChangeShapes Go.WideShapes Go.ChangeAt Go.RowKit
set_option maxRecDepth 100000
section
variable {H : Type} {enc : TypeId × Value → H} {w : World} {spare : Nat → Bool} {held : Bool} {v : Value} {d : DataW H} {p : List MemPlace}
theorem trod_phs {fuel : Nat} {cs : List Value} {x : DataW H × List MemPlace} (h : DataW.trod enc Tryz.prog w 0 spare held fuel 67 cs = some x) :
    ∃ y : PH, cs = y.enc ∧ RdE Ins.enc 5 w [] y.a y.p := by
  obtain ⟨a, l, cap, rfl, hr, _, _⟩ := trod_sl (en := Ins.enc) (sz := 5) (Φ := fun _ => True) Tryz.underlying67 (by kernel_rfl) (by omega) (fun _ _ _ h => trod_ins h) h
  exact ⟨⟨a, cap, l⟩, rfl, hr⟩
end
end Go.Proofs.YtfompmhncnkcfaaGreatDoor
namespace Go.Proofs.YtfompmhncnkcfaaGreatDoor
open Go Go.ChangeShapes Go.WideShapes Go.ChangeAt Go.RowKit
set_option maxRecDepth 100000
section
variable {H : Type} {enc : TypeId × Value → H} {w : World} {spare : Nat → Bool} {held : Bool} {v : Value} {d : DataW H} {p : List MemPlace}
theorem scr_openU {b0 : Nat} (hv : Value.okWide Tryz.prog w .any b0 32 v) (ht : DataW.Trod enc Tryz.prog w 0 spare held 32 v d p) :
    ∃ c ia il ic pa ps pc ka ks kc, v = scrV c ia (List.length il) ic pa ps.length pc ka ks.length kc ∧ RdE encU 1 w [] ia il ∧ (∀ x ∈ il, 0 ≤ x ∧ x ≤ 18446744073709551615) ∧ RdE PH.enc 1 w [] pa ps ∧ (∀ h ∈ ps, RdE Ins.enc 5 w [] h.a h.p) ∧ RdE encI 1 w [] ka ks := by
  obtain ⟨cs, rfl, hl, hc⟩ := val_flat (ts := [3, 3, 3, 3, 3, 3, 3, 3, 3, 3, 3, 3, 4, 28, 29, 30]) (by kernel_rfl) (by kernel_rfl) (by kernel_rfl) hv
  obtain ⟨fuel, h⟩ := ht
  have h' : DataW.trod enc Tryz.prog w 0 spare held fuel 32 cs = some (d, p) := by simpa [Value.cells] using h
  clear h hv
  obtain ⟨_, m1, y1, h1⟩ := trod_at 1 (off := 13) (ft := 28) (n := 1) (by kernel_rfl) (by kernel_rfl) h'
  obtain ⟨_, m2, y2, h2⟩ := trod_at 2 (off := 14) (ft := 29) (n := 1) (by kernel_rfl) (by kernel_rfl) h'
  obtain ⟨_, m3, y3, h3⟩ := trod_at 3 (off := 15) (ft := 30) (n := 1) (by kernel_rfl) (by kernel_rfl) h'
  obtain ⟨ia, il, ic, e1, hI, hJ, _⟩ := trod_ints Tryz.underlying28 Tryz.underlying63 (by kernel_rfl) h1
  obtain ⟨pa, ps, pc, e2, hP, hQ, _⟩ := trod_sl (en := PH.enc) (sz := 1) (Φ := fun y : PH => RdE Ins.enc 5 w [] y.a y.p) Tryz.underlying29 (by kernel_rfl) (by omega) (fun _ _ _ h => trod_phs h) h2
  obtain ⟨ka, ks, kc, e3, hK, _, _⟩ := trod_ints Tryz.underlying30 Tryz.underlying3 (by kernel_rfl) h3
  replace e1 := one_cell e1
  replace e2 := one_cell e2
  replace e3 := one_cell e3
  clear h1 h2 h3 h'
  match cs, hl with
  | [c0, c1, c2, c3, c4, c5, c6, c7, c8, c9, c10, c11, c12, c13, c14, c15], _ =>
    obtain ⟨n0, rfl, _⟩ := cell_int Tryz.underlying3 (hc 0 _ 3 rfl rfl)
    obtain ⟨n1, rfl, _⟩ := cell_int Tryz.underlying3 (hc 1 _ 3 rfl rfl)
    obtain ⟨n2, rfl, _⟩ := cell_int Tryz.underlying3 (hc 2 _ 3 rfl rfl)
    obtain ⟨n3, rfl, _⟩ := cell_int Tryz.underlying3 (hc 3 _ 3 rfl rfl)
    obtain ⟨n4, rfl, _⟩ := cell_int Tryz.underlying3 (hc 4 _ 3 rfl rfl)
    obtain ⟨n5, rfl, _⟩ := cell_int Tryz.underlying3 (hc 5 _ 3 rfl rfl)
    obtain ⟨n6, rfl, _⟩ := cell_int Tryz.underlying3 (hc 6 _ 3 rfl rfl)
    obtain ⟨n7, rfl, _⟩ := cell_int Tryz.underlying3 (hc 7 _ 3 rfl rfl)
    obtain ⟨n8, rfl, _⟩ := cell_int Tryz.underlying3 (hc 8 _ 3 rfl rfl)
    obtain ⟨n9, rfl, _⟩ := cell_int Tryz.underlying3 (hc 9 _ 3 rfl rfl)
    obtain ⟨n10, rfl, _⟩ := cell_int Tryz.underlying3 (hc 10 _ 3 rfl rfl)
    obtain ⟨n11, rfl, _⟩ := cell_int Tryz.underlying3 (hc 11 _ 3 rfl rfl)
    obtain ⟨b, rfl⟩ := cell_bool Tryz.underlying4 (hc 12 _ 4 rfl rfl)
    obtain rfl : c13 = _ := Option.some.inj e1
    obtain rfl : c14 = _ := Option.some.inj e2
    obtain rfl : c15 = _ := Option.some.inj e3
    exact ⟨⟨n0, n1, n2, n3, n4, n5, n6, n7, n8, n9, n10, n11, b⟩, ia, il, ic, pa, ps, pc, ka, ks, kc, rfl, hI, (fun x hx => ⟨(hJ x hx).1, (hJ x hx).2⟩), hP, hQ, hK⟩
end
end Go.Proofs.YtfompmhncnkcfaaGreatDoor
namespace Go.Proofs.YtfompmhncnkcfaaGreatDoor
open Go
set_option maxRecDepth 10000
set_option maxHeartbeats 16000000
section
variable {W0 : World} {own : Own} {c : Cfg} {ia pa ka : Option Addr} {ic pc kc : Nat} {ps : List PH} {il ks : List Int} {ca : Option Addr} {cc : Nat} {cl : List CH}
theorem sp_rbare (c : Cfg) (ia pa ka : Option Addr) (il ic pn pc kn kc : Nat) (own : Own) : Pure Tryz.prog W0 22 [scrV c ia il ic pa pn pc ka kn kc] own (scrV c ia il ic pa pn pc none 0 0) := by
  refine pure_of (spec_of mixed low_ref07_Bare (by simp [ir_ref07_Bare]) ?_)
  repeat' ((try (conv => whnf)); first | (apply ldN_a; exact rfl) | (apply st_o; (exact rfl); exact rfl) | (apply stN_o; (exact rfl); (exact rfl); exact rfl) | (refine new_i (fun bk hbk => ?_)))
  all_goals exact ⟨rfl, (by first | exact ent_i | (repeat (first | exact Ent.refl | exact Ent.left | refine Ent.cons ?_ | refine Ent.app ?_)))⟩
theorem ent_rrn1 {a b : Nat × (Obj → Prop)} {A Z : Own} : Ent W0 (a :: (b :: (A ++ Z))) (A ++ ([a, b] ++ Z)) := ent_cnt [] fun a => by simp only [cnt_app, cnt_cons, cnt_nil]; omega
theorem ent_rrn2 {a b : Nat × (Obj → Prop)} {A Z : Own} : Ent W0 (A ++ ([a, b] ++ Z)) (a :: (b :: (A ++ Z))) := ent_cnt [] fun a => by simp only [cnt_app, cnt_cons, cnt_nil]; omega
theorem ent_rrn3 {a b : Nat × (Obj → Prop)} {A B Z : Own} : Ent W0 (A ++ ([a, b] ++ (B ++ Z))) Z := ent_cnt (a :: b :: (A ++ B)) fun a => by simp only [cnt_app, cnt_cons, cnt_nil]; omega
theorem sp_rRun (hI : RdE encU 1 W0 own ia il) (hil : il.length ≤ 500000) (hw : ∀ x ∈ il, okU x) (hP : RdE PH.enc 1 W0 own pa ps) (hQ : ∀ h ∈ ps, RdE Ins.enc 5 W0 own h.a h.p) (hK : RdE encI 1 W0 own ka ks) (hkl : ks.length ≤ 1000000)
    (hC : RdE CH.enc 3 W0 own ca cl) (hA : ∀ x ∈ cl, RdE encI 1 W0 own x.a x.ad ∧ x.ad.length ≤ x.ac ∧ ∀ a ∈ x.ad, a ≤ 9223372036854775807) (hcl : cl.length ≤ 5000) :
    Spec Tryz.prog W0 20 [scrV c ia il.length ic pa ps.length pc ka ks.length kc, .slice ca cl.length cc] own fun v own' =>
      ((∃ k e : Int, v = .tuple #[zeroG, .int .i64 k, .int .i64 e] ∧ (((csM c il.length ps []).2.2 ≠ 0 ∧ k = 0 ∧ e = (csM c il.length ps []).2.2) ∨ (csM c il.length ps [] = (0, 0, 0) ∧ e = 70 ∧ ∃ j : Nat, k = j ∧ runsM c (ps.map PH.p) (cl.map CH.m) 0 (newM c il (ps.map PH.p)) = .inr j))) ∧ Ent W0 own' own) ∨
      ∃ y : RG × GS, (v = .tuple #[y.1.v y.2, .int .i64 0, .int .i64 0] ∧ csM c il.length ps [] = (0, 0, 0) ∧ runsM c (ps.map PH.p) (cl.map CH.m) 0 (newM c il (ps.map PH.p)) = .inl y.2 ∧ y.1.ok W0 y.2) ∧ Ent W0 own' (y.1.D ++ own) := by
  refine spec_of mixed low_ref22_Run (by simp [ir_ref22_Run]) ?_
  have hcs := fun (own' : Own) [EntC own' own] => sp_rcs (c := c) (ia := ia) (il := il.length) (ic := ic) (pc := pc) (ka := none) (ks := []) (kc := 0) (own := own') (RdE.up hP) (fun h hh => RdE.up (hQ h hh)) RdE.nil
  have hba := fun own' => sp_rbare (W0 := W0) c ia pa ka il.length ic ps.length pc ks.length kc own'
  by_cases he : (csM c il.length ps []).2.2 ≠ 0
  · generalize csM c il.length ps [] = z at *
    obtain ⟨zt, za, ze⟩ := z
    dsimp only at he
    repeat' ((try (conv => whnf)); first | (apply br_pyE; (exact rfl); omega) | ((with_reducible show CallT _ _ _ _ _ _); first | ((refine call_pe (hba _) ?_ ?_ ?_; (exact rfl); exact rfl)) | ((refine call_pe (hcs _) ?_ ?_ ?_; (exact rfl); exact rfl))) | (apply sel; exact rfl) | (apply ldN_a; exact rfl) | (apply stN_o; (exact rfl); (exact rfl); exact rfl) | (refine new_i (fun bk hbk => ?_)))
    all_goals exact .inl ⟨⟨0, ze, rfl, .inl ⟨he, rfl, rfl⟩⟩, (by first | exact ent_i | (repeat (first | exact Ent.refl | exact Ent.left | refine Ent.cons ?_ | refine Ent.app ?_)))⟩
  · obtain ⟨h0, hc0, hpl, hiw, hck⟩ := csM_0 (show (csM c il.length ps []).2.2 = 0 by omega)
    have hnw := fun b2 b4 => sp_rnew (own := [(b4, fun o => o = Obj.cells #[.slice none 0 0, .slice none 0 0, .slice none 0 0, .slice none 0 0] 52 (0, 0)), (b2, fun o => o = Obj.cells (scrC c (.slice ia il.length ic) (.slice pa ps.length pc) (.slice ka ks.length kc)) 32 (0, 0))] ++ own) (c := c) (ic := ic) (pc := pc) (ka := ka) (ks := ks) (kc := kc) (RdE.up hI) (by omega) (RdE.up hP) hpl.2 (fun h hh => ⟨RdE.up (hQ h hh), ck_len (hck h hh)⟩) (RdE.up hK) hkl
    have hG0 : GOk c (ps.map PH.p) (newM c il (ps.map PH.p)) := new_ok hc0 hiw hw fun p hp => by obtain ⟨x, hx, rfl⟩ := List.mem_map.1 hp; exact hck x hx
    have hn0 : (newM c il (ps.map PH.p)).n = 0 := rfl
    have hc1 := hC
    rw [h0] at hcs ⊢
    generalize newM c il (ps.map PH.p) = s0 at *
    repeat' ((try (conv => whnf)); first | (refine new_i (fun b2 h2 => ?_); (apply Stop.h)))
    refine Stop.mk ?_
    repeat' ((try (conv => whnf)); first | (refine new_i (fun b4 h4 => ?_); (apply Stop.h)))
    refine Stop.mk ?_
    repeat' ((try (conv => whnf)); first | (refine br_fe ?_ ?_; exact rfl) | ((with_reducible show CallT _ _ _ _ _ _); first | ((refine call_pe (hba _) ?_ ?_ ?_; (exact rfl); exact rfl)) | ((refine call_pe (hcs _) ?_ ?_ ?_; (exact rfl); exact rfl)) | ((refine call_to (hnw b2 b4) ?_ ?_ ?_ (fun y v hv => ?_); (exact ent_d7); (exact rfl); (exact rfl); (apply Stop.h)))) | (apply sel; exact rfl) | (apply ldN_a; exact rfl))
    obtain ⟨g, ys, kD⟩ := y
    obtain ⟨rfl, hok, hpp⟩ := hv
    dsimp only at hok hpp ⊢
    generalize hPe : ps.map PH.p = P at *
    refine Stop.mk ?_
    skip
    refine loop_i (σ := Nat × DP × GS) (fun y => [(11, .int .i64 y.1)])
      (fun y => (b4, fun o => o = Obj.cells #[.slice none 0 0, .slice none 0 0, .slice none 0 0, .slice none 0 0] 52 (0, 0)) :: ((b2, fun o => o = Obj.cells (scrC c (.slice ia il.length ic) (.slice pa ps.length pc) (.slice ka ks.length kc)) 32 (0, 0)) :: (y.2.1.O c (ys.map PB.h).length y.2.2 ++ ((kD ++ ownL ys) ++ own))))
      (fun y => y.1 ≤ cl.length ∧ y.2.1.ok W0 (kD ++ ownL ys) (ys.map PB.h) y.2.2 ∧ y.2.1.rb = g.rb ∧ GOk c P y.2.2 ∧ y.2.2.n = y.1 ∧ runsM c P (cl.map CH.m) 0 s0 = runsM c P ((cl.drop y.1).map CH.m) y.1 y.2.2)
      (fun y => cl.length - y.1) (0, g, s0) ⟨Nat.zero_le _, hok, rfl, hG0, hn0, rfl⟩ (by repeat' (first | exact True.intro | refine And.intro ?_ ?_ | exact rfl | exact vi (by omega) | (dsimp only; exact rfl) | (dsimp only; exact vi (by omega)))) ?_ rfl ?_
    · exact ent_d9
    · rintro ⟨k, g1, s1⟩ junk ⟨hk, hok1, hgb, hG1, hn1, hrun⟩
      dsimp only at hk hok1 hgb hG1 hn1 hrun ⊢
      by_cases hkl : k < cl.length
      · obtain ⟨x, hx⟩ : ∃ x, cl[k]? = some x := ⟨_, List.getElem?_eq_getElem hkl⟩
        obtain ⟨hxA, hxl, hxr⟩ := hA x (List.mem_of_getElem? hx)
        obtain ⟨xt, xf, xa, xad, xac⟩ := x
        dsimp only at hxA hxl hxr
        rw [drop_of hx] at hrun
        simp only [List.map_cons, runsM] at hrun
        have hG1' := hG1
        rw [← hpp] at hG1'
        have hdo := sp_rdo (c := c) hok1 hG1' (by omega) xt xf hxA hxl hxr ([(b4, fun o => o = Obj.cells #[.slice none 0 0, .slice none 0 0, .slice none 0 0, .slice none 0 0] 52 (0, 0)), (b2, fun o => o = Obj.cells (scrC c (.slice ia il.length ic) (.slice pa ps.length pc) (.slice ka ks.length kc)) 32 (0, 0))] ++ ((kD ++ ownL ys) ++ own))
        rw [hpp] at hdo
        have hdk := do_ok hG1 (ch := ⟨xt, xf, xad⟩) hxr
        rw [hgb] at hdo
        by_cases hz : (doM c P s1 ⟨xt, xf, xad⟩).1 = 0
        · have hdn := do_n hz
          rw [if_pos hz] at hrun
          generalize doM c P s1 ⟨xt, xf, xad⟩ = z at *
          obtain ⟨zc, s2⟩ := z
          dsimp only at hz hdo hdk hrun hdn
          subst hz
          repeat' ((try (conv => whnf)); first | (refine br_fe ?_ ?_; exact rfl) | (apply br_pyE; (exact rfl); omega) | ((with_reducible show IxS _ _ _ _ _); first | ((refine ixE hc1 hx ?_ ?_; (first | rfl | omega)))) | ((with_reducible show LdN _ _ _ _ _); first | (refine ldNEi hc1 hx rfl ?_)) | ((with_reducible show CallT _ _ _ _ _ _); first | ((refine call_to hdo ?_ ?_ ?_ (fun g2 v hg2 => ?_); (exact ent_rrn1); (exact rfl); (exact rfl); (obtain ⟨rfl, hok2, hgb2⟩ := hg2)))) | (refine ari ?_ ?_; omega))
          exact ⟨(k + 1, g2, s2), ⟨hkl, hok2, hgb2, hdk, hdn.trans (by rw [hn1]), hrun⟩, (by show cl.length - (k + 1) < cl.length - k; omega), (by repeat' (first | exact True.intro | refine And.intro ?_ ?_ | exact rfl | exact vi (by omega) | (dsimp only; exact rfl) | (dsimp only; exact vi (by omega)))), ent_rrn2⟩
        · have hdc := do_code hz
          rw [if_neg hz] at hrun
          rw [hdc] at hdo
          dsimp only at hdo
          repeat' ((try (conv => whnf)); first | (refine br_te ?_ ?_; exact rfl) | (apply br_pyE; (exact rfl); omega) | ((with_reducible show IxS _ _ _ _ _); first | ((refine ixE hc1 hx ?_ ?_; (first | rfl | omega)))) | ((with_reducible show LdN _ _ _ _ _); first | (refine ldNEi hc1 hx rfl ?_)) | ((with_reducible show CallT _ _ _ _ _ _); first | ((refine call_to hdo ?_ ?_ ?_ (fun g2 v hg2 => ?_); (exact ent_rrn1); (exact rfl); (exact rfl); (obtain ⟨rfl, hok2, hgb2⟩ := hg2)))) | (apply ldN_a; exact rfl) | (apply stN_o; (exact rfl); (exact rfl); exact rfl))
          exact .inl ⟨⟨k, 70, rfl, .inr ⟨rfl, rfl, k, rfl, hrun⟩⟩, ent_rrn3⟩
      · have hkN : k = cl.length := by omega
        subst hkN
        rw [List.drop_length] at hrun
        have hPl : P.length ≤ 16 := by rw [← hPe, List.length_map]; exact hpl.2
        have hsz := hG1.sz (by omega) hPl
        have hrs := fun q => sp_rresult (c := c) hok1 hsz.d hsz.t hsz.e hsz.o hsz.ol hsz.ev q
        rw [hgb] at hrs
        have hrk := spec_keep (E := [(b4, fun o => o = Obj.cells #[.slice none 0 0, .slice none 0 0, .slice none 0 0, .slice none 0 0] 52 (0, 0)), (b2, fun o => o = Obj.cells (scrC c (.slice ia il.length ic) (.slice pa ps.length pc) (.slice ka ks.length kc)) 32 (0, 0))]) (q := (kD ++ ownL ys) ++ own) (D := g1.O c (ys.map PB.h).length s1) (O := fun r : RG => r.D ++ g1.O c (ys.map PB.h).length s1) (R := fun r v => v = r.v s1 ∧ r.ok W0 s1) (fun q => by simpa only [List.append_assoc] using hrs q)
        repeat' ((try (conv => whnf)); first | (apply br_pnE; (exact rfl); omega) | ((with_reducible show CallT _ _ _ _ _ _); first | ((refine call_to hrk ?_ ?_ ?_ (fun r v hr => ?_); (exact ent_d4); (exact rfl); (exact rfl); (obtain ⟨rfl, hrok⟩ := hr)))) | (apply ldN_a; exact rfl) | (apply stN_o; (exact rfl); (exact rfl); exact rfl))
        exact .inr ⟨(r, s1), ⟨rfl, rfl, hrun, hrok⟩, ent_d5⟩
end
end Go.Proofs.YtfompmhncnkcfaaGreatDoor
namespace Go.Proofs.YtfompmhncnkcfaaGreatDoor
open Go
set_option maxRecDepth 10000
set_option maxHeartbeats 8000000
def gs0 : GS := ⟨[], [], [], [], [], 0⟩
def rg0 : RG := ⟨none, 0, [], none, 0, [], none, 0, [], [], [], none, 0, [], []⟩
theorem rg0_ok {W0 : World} : rg0.ok W0 gs0 := ⟨BufE.nil, BufE.nil, BufE.nil, rfl, (fun _ h => (by cases h)), BufE.nil, (fun _ h => (by cases h)), rfl⟩
theorem sz0 : SzG gs0 := ⟨Nat.zero_le _, Nat.zero_le _, Nat.zero_le _, Nat.zero_le _, (fun _ h => (by cases h)), (fun _ h => (by cases h))⟩
def runR : GS ⊕ Nat → GS × Int × Int
  | .inl s => (s, 0, 0)
  | .inr j => (gs0, j, 70)
def outM (c : Cfg) (il : List Int) (ps : List PH) (cl : List ChM) : GS × Int × Int :=
  if (csM c il.length ps []).2.2 ≠ 0 then (gs0, 0, (csM c il.length ps []).2.2) else runR (runsM c (ps.map PH.p) cl 0 (newM c il (ps.map PH.p)))
theorem runs_ok {c : Cfg} {P : List (List Ins)} : ∀ (cl : List ChM) (k : Nat) (s s' : GS), GOk c P s → (∀ x ∈ cl, ∀ a ∈ x.ad, a ≤ 9223372036854775807) → runsM c P cl k s = .inl s' → GOk c P s' ∧ s'.n ≤ s.n + cl.length
  | [], _, s, s', hG, _, h => by
    simp only [runsM, Sum.inl.injEq] at h
    subst h
    exact ⟨hG, Nat.le_refl _⟩
  | x :: l, k, s, s', hG, hA, h => by
    simp only [runsM] at h
    by_cases hz : (doM c P s x).1 = 0
    · rw [if_pos hz] at h
      have h1 := runs_ok l (k + 1) _ s' (do_ok hG (hA x List.mem_cons_self)) (fun y hy => hA y (List.mem_cons_of_mem _ hy)) h
      have h2 := do_le (c := c) (P := P) (s := s) (ch := x)
      exact ⟨h1.1, by have := h1.2; simp only [List.length_cons]; omega⟩
    · rw [if_neg hz] at h
      cases h
section
variable {W0 : World} {own : Own} {c : Cfg} {ia pa ka : Option Addr} {ic pc kc : Nat} {ps : List PH} {il ks : List Int} {ca : Option Addr} {cc : Nat} {cl : List CH}
theorem out_sz (hw : ∀ x ∈ il, okU x) (hA : ∀ x ∈ cl, ∀ a ∈ x.ad, a ≤ 9223372036854775807) (hcl : cl.length ≤ 5000) : SzG (outM c il ps (cl.map CH.m)).1 := by
  unfold outM
  split
  · exact sz0
  · rename_i he
    obtain ⟨h0, hc0, hpl, hiw, hck⟩ := csM_0 (show (csM c il.length ps []).2.2 = 0 by omega)
    have hG0 : GOk c (ps.map PH.p) (newM c il (ps.map PH.p)) := new_ok hc0 hiw hw fun p hp => by obtain ⟨x, hx, rfl⟩ := List.mem_map.1 hp; exact hck x hx
    cases hr : runsM c (ps.map PH.p) (cl.map CH.m) 0 (newM c il (ps.map PH.p)) with
    | inr j => exact sz0
    | inl s =>
      obtain ⟨h1, h2⟩ := runs_ok _ 0 _ s hG0 (fun x hx => by obtain ⟨y, hy, rfl⟩ := List.mem_map.1 hx; exact hA y hy) hr
      have hn : (newM c il (ps.map PH.p)).n = 0 := rfl
      rw [List.length_map] at h2
      exact h1.sz (by omega) (by rw [List.length_map]; exact hpl.2)
theorem run_out {W0 : World} {v : Value} {own' : Own}
    (h : ((∃ k e : Int, v = .tuple #[zeroG, .int .i64 k, .int .i64 e] ∧ (((csM c il.length ps []).2.2 ≠ 0 ∧ k = 0 ∧ e = (csM c il.length ps []).2.2) ∨ (csM c il.length ps [] = (0, 0, 0) ∧ e = 70 ∧ ∃ j : Nat, k = j ∧ runsM c (ps.map PH.p) (cl.map CH.m) 0 (newM c il (ps.map PH.p)) = .inr j))) ∧ Ent W0 own' own) ∨
      ∃ y : RG × GS, (v = .tuple #[y.1.v y.2, .int .i64 0, .int .i64 0] ∧ csM c il.length ps [] = (0, 0, 0) ∧ runsM c (ps.map PH.p) (cl.map CH.m) 0 (newM c il (ps.map PH.p)) = .inl y.2 ∧ y.1.ok W0 y.2) ∧ Ent W0 own' (y.1.D ++ own)) :
    ∃ y : RG, (v = .tuple #[y.v (outM c il ps (cl.map CH.m)).1, .int .i64 (outM c il ps (cl.map CH.m)).2.1, .int .i64 (outM c il ps (cl.map CH.m)).2.2] ∧ y.ok W0 (outM c il ps (cl.map CH.m)).1) ∧ Ent W0 own' (y.D ++ own) := by
  rcases h with ⟨⟨k, e, rfl, h⟩, hE⟩ | ⟨⟨y, s⟩, ⟨rfl, h0, hr, hy⟩, hE⟩
  · refine ⟨rg0, ?_, hE⟩
    rcases h with ⟨hne, rfl, rfl⟩ | ⟨h0, rfl, j, rfl, hr⟩
    · unfold outM
      rw [if_pos hne]
      exact ⟨rfl, rg0_ok⟩
    · unfold outM
      rw [if_neg (by rw [h0]; simp), hr]
      exact ⟨rfl, rg0_ok⟩
  · refine ⟨y, ?_, hE⟩
    unfold outM
    rw [if_neg (by rw [h0]; simp), hr]
    exact ⟨rfl, hy⟩
theorem sp_RunU (hF : FormsAt W0) (hI : RdE encU 1 W0 own ia il) (hil : il.length ≤ 500000) (hw : ∀ x ∈ il, okU x) (hP : RdE PH.enc 1 W0 own pa ps) (hQ : ∀ h ∈ ps, RdE Ins.enc 5 W0 own h.a h.p)
    (hC : RdE CH.enc 3 W0 own ca cl) (hA : ∀ x ∈ cl, RdE encI 1 W0 own x.a x.ad ∧ x.ad.length ≤ x.ac ∧ ∀ a ∈ x.ad, a ≤ 9223372036854775807) (hcl : cl.length ≤ 5000) :
    Spec Tryz.prog W0 19 [scrV c ia il.length ic pa ps.length pc ka ks.length kc, .slice ca cl.length cc] own fun v own' =>
      ∃ y : RG, (v = .tuple #[y.v (outM c il ps (cl.map CH.m)).1, .int .i64 (outM c il ps (cl.map CH.m)).2.1, .int .i64 (outM c il ps (cl.map CH.m)).2.2] ∧ y.ok W0 (outM c il ps (cl.map CH.m)).1) ∧ Ent W0 own' (y.D ++ own) := by
  have h := sp_Run (c := c) (ic := ic) (pc := pc) (ka := ka) (ks := ks) (kc := kc) (cc := cc) hF hI hil hw hP hQ hC hA hcl
  intro w hs
  refine (h w hs).mono fun _ _ ⟨v, o, a, b, hv⟩ => ⟨v, o, a, b, run_out hv⟩
theorem sp_rRunU (hI : RdE encU 1 W0 own ia il) (hil : il.length ≤ 500000) (hw : ∀ x ∈ il, okU x) (hP : RdE PH.enc 1 W0 own pa ps) (hQ : ∀ h ∈ ps, RdE Ins.enc 5 W0 own h.a h.p) (hK : RdE encI 1 W0 own ka ks) (hkl : ks.length ≤ 1000000)
    (hC : RdE CH.enc 3 W0 own ca cl) (hA : ∀ x ∈ cl, RdE encI 1 W0 own x.a x.ad ∧ x.ad.length ≤ x.ac ∧ ∀ a ∈ x.ad, a ≤ 9223372036854775807) (hcl : cl.length ≤ 5000) :
    Spec Tryz.prog W0 20 [scrV c ia il.length ic pa ps.length pc ka ks.length kc, .slice ca cl.length cc] own fun v own' =>
      ∃ y : RG, (v = .tuple #[y.v (outM c il ps (cl.map CH.m)).1, .int .i64 (outM c il ps (cl.map CH.m)).2.1, .int .i64 (outM c il ps (cl.map CH.m)).2.2] ∧ y.ok W0 (outM c il ps (cl.map CH.m)).1) ∧ Ent W0 own' (y.D ++ own) := by
  have h := sp_rRun (c := c) (ic := ic) (pc := pc) (kc := kc) (cc := cc) hI hil hw hP hQ hK hkl hC hA hcl
  intro w hs
  refine (h w hs).mono fun _ _ ⟨v, o, a, b, hv⟩ => ⟨v, o, a, b, run_out hv⟩
end
section
variable {W0 : World} {own : Own} {m : MS} {st : Bool} {ca : Option Addr} {cc : Nat} {cl : List CH}
theorem MS.ok.ilu (h : m.ok st) : ∀ x ∈ m.il, okU x := fun x hx => by have := h.iw x hx; exact ⟨by omega, by omega⟩
theorem MS.ok.il5 (h : m.ok st) : m.il.length ≤ 500000 := by
  have h1 := h.il
  have h2 := (check_ok h.c0).1
  unfold okW at h2
  omega
theorem sp_RunL (hF : FormsAt W0) (h : m.ok st) [e : EntC own m.O] (hC : RdE CH.enc 3 W0 own ca cl) (hA : ∀ x ∈ cl, RdE encI 1 W0 own x.a x.ad ∧ x.ad.length ≤ x.ac ∧ ∀ a ∈ x.ad, a ≤ 9223372036854775807) (hcl : cl.length ≤ 5000) :
    Spec Tryz.prog W0 19 [scrV m.c m.ia m.il.length m.ic m.pa (m.ps.map PB.h).length m.pc m.ka 0 m.kc, .slice ca cl.length cc] own fun v own' =>
      ∃ y : RG, (v = .tuple #[y.v (outM m.c m.il (m.ps.map PB.h) (cl.map CH.m)).1, .int .i64 (outM m.c m.il (m.ps.map PB.h) (cl.map CH.m)).2.1, .int .i64 (outM m.c m.il (m.ps.map PB.h) (cl.map CH.m)).2.2] ∧ y.ok W0 (outM m.c m.il (m.ps.map PB.h) (cl.map CH.m)).1) ∧ Ent W0 own' (y.D ++ own) :=
  sp_RunU (ks := []) hF h.ri.up h.il5 h.ilu h.rp.up (fun x hx => (h.rq x hx).up) hC hA hcl
theorem sp_rRunL (h : m.ok st) [e : EntC own m.O] (hC : RdE CH.enc 3 W0 own ca cl) (hA : ∀ x ∈ cl, RdE encI 1 W0 own x.a x.ad ∧ x.ad.length ≤ x.ac ∧ ∀ a ∈ x.ad, a ≤ 9223372036854775807) (hcl : cl.length ≤ 5000) :
    Spec Tryz.prog W0 20 [scrV m.c m.ia m.il.length m.ic m.pa (m.ps.map PB.h).length m.pc m.ka 0 m.kc, .slice ca cl.length cc] own fun v own' =>
      ∃ y : RG, (v = .tuple #[y.v (outM m.c m.il (m.ps.map PB.h) (cl.map CH.m)).1, .int .i64 (outM m.c m.il (m.ps.map PB.h) (cl.map CH.m)).2.1, .int .i64 (outM m.c m.il (m.ps.map PB.h) (cl.map CH.m)).2.2] ∧ y.ok W0 (outM m.c m.il (m.ps.map PB.h) (cl.map CH.m)).1) ∧ Ent W0 own' (y.D ++ own) :=
  sp_rRunU (ks := []) h.ri.up h.il5 h.ilu h.rp.up (fun x hx => (h.rq x hx).up) RdE.nil (Nat.zero_le _) hC hA hcl
end
end Go.Proofs.YtfompmhncnkcfaaGreatDoor
