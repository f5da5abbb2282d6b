/- Alu: the listed table of names, as the laws' frames have it; strings and words as arguments. No condition. -/
import Derived.Test.YtdbeajjomifbpaaDoorAlT
import Derived.Test.YtdbeajjomifbpaaDoorVg
namespace Go.Proofs.YtdbeajjomifbpaaDoor
open Go Go.ChangeShapes Go.WideShapes Go.ChangeAt Go.RowKit
set_option maxRecDepth 10000

theorem names_at {W : World} (h : laidMetH Tryd.prog [("strongtx/alu.names", Rows.laid_strongtx_alu_names)] W) : NamesAt W := by
  have h := laid_at (d := Rows.laid_strongtx_alu_names) (g := 0) (t := 45) (cs := nms.map Value.string) (by kernel_rfl) h (List.Mem.head _) (by kernel_rfl) (by kernel_rfl) (by kernel_rfl) (by kernel_rfl) (by simp [nms])
  have hl : nms.length = 22 := rfl
  exact ⟨h.size, fun j hj => h.cell j _ (by simp [nameAt, hl, hj])⟩
theorem okW_of {x : Int} (h : inK .u64 x) : okW x := h
end Go.Proofs.YtdbeajjomifbpaaDoor
