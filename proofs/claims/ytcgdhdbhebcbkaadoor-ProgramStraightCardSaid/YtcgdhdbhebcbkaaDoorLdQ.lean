/- The listed table of the instructions' forms. No condition. -/
import Derived.Test.YtcgdhdbhebcbkaaDoorLdA
import Derived.Test.YtcgdhdbhebcbkaaDoorVi
namespace Go.Proofs.YtcgdhdbhebcbkaaDoor
open Go Go.ChangeShapes Go.WideShapes Go.ChangeAt Go.RowKit
set_option maxRecDepth 100000
theorem forms_at {W : World} (h : laidMetH Tryd.prog [("strongtx/isa.forms", Rows.laid_strongtx_isa_forms)] W) : FormsAt W :=
  laid_at (d := Rows.laid_strongtx_isa_forms) (g := 0) (t := 94) (cs := formsV) (by kernel_rfl) h (List.Mem.head _) (by kernel_rfl) (by kernel_rfl) (by kernel_rfl) (by kernel_rfl) (by simp [formsV])

end Go.Proofs.YtcgdhdbhebcbkaaDoor
