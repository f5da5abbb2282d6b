/- isa: what the laws are given of the program's and the library's variables. No condition. -/
import Derived.Test.YtiimndcifcoofaaGreatDoorIcL
import Derived.Test.YtiimndcifcoofaaGreatDoorRows
import Derived.Stop.LaidErr
import Derived.Lib.LaidTab
import Derived.Test.YtiimndcifcoofaaGreatDoorVi
namespace Go.Proofs.YtiimndcifcoofaaGreatDoor
open Go Go.RowKit
set_option maxRecDepth 100000
abbrev laidL : List (String × DataW Unit) := [("math/bits.deBruijn32tab", Rows.laid_math_bits_deBruijn32tab), ("math/bits.deBruijn64tab", Rows.laid_math_bits_deBruijn64tab), ("internal/strconv.uint64pow10", Rows.laid_internal_strconv_uint64pow10), ("strconv.ErrRange", Rows.laid_strconv_ErrRange), ("strconv.ErrSyntax", Rows.laid_strconv_ErrSyntax), ("strongtx/alu.names", Rows.laid_strongtx_alu_names), ("strongtx/isa.forms", Rows.laid_strongtx_isa_forms)]
theorem starE : "*" ++ "errors.errorString" = "*errors.errorString" := by decide
theorem rowE (u : TypeId) (h : (Tryz.prog).typeName? 3 u = some "*errors.errorString") : u = 196 :=
  Go.typeName_ptr_named (nm := "errors.errorString") (by rw [starE]; kernel_rfl) (by kernel_rfl) (by decide) u (by rw [starE]; exact h)
theorem isa_at {W : World} (h : laidMetH Tryz.prog laidL W) : IsaAt W := by
  have hp : (laidL.all fun x => x.2.handleName?.isNone) = true := by kernel_rfl
  have hm := h
  rw [MakeChecks.laidMetH_plain _ _ _ hp] at hm
  obtain ⟨a0, s0, hv0, -, -, -⟩ := Go.laid_sentinel hm.tail.tail.tail (g := 9) (by kernel_rfl) (by kernel_rfl) Tryz.underlying87 rowE Tryz.underlying196 Tryz.underlying198 rfl rfl Tryz.underlying9 (by kernel_rfl) (by kernel_rfl)
  obtain ⟨a1, s1, hv1, -, -, -⟩ := Go.laid_sentinel hm.tail.tail.tail.tail (g := 8) (by kernel_rfl) (by kernel_rfl) Tryz.underlying87 rowE Tryz.underlying196 Tryz.underlying198 rfl rfl Tryz.underlying9 (by kernel_rfl) (by kernel_rfl)
  refine ⟨⟨?_, ⟨_, _, hv1⟩, ⟨_, _, hv0⟩⟩, ?_, ?_⟩
  · exact Go.Lib.tabIs_of_head (g := 3) (by kernel_rfl) (by kernel_rfl) Tryz.underlying172 Tryz.underlying121 (by kernel_rfl) (by kernel_rfl) hm.tail.tail
  · exact laid_at (d := Rows.laid_strongtx_isa_forms) (g := 0) (t := 54) (cs := formsV) hp h (List.Mem.tail _ (List.Mem.tail _ (List.Mem.tail _ (List.Mem.tail _ (List.Mem.tail _ (List.Mem.tail _ (List.Mem.head _))))))) (by kernel_rfl) (by kernel_rfl) (by kernel_rfl) (by kernel_rfl) (by simp [formsV])
  · exact laid_at (d := Rows.laid_strongtx_alu_names) (g := 1) (t := 100) (cs := nms.map Value.string) hp h (List.Mem.tail _ (List.Mem.tail _ (List.Mem.tail _ (List.Mem.tail _ (List.Mem.tail _ (List.Mem.head _)))))) (by kernel_rfl) (by kernel_rfl) (by kernel_rfl) (by kernel_rfl) (by simp [nms])
end Go.Proofs.YtiimndcifcoofaaGreatDoor
