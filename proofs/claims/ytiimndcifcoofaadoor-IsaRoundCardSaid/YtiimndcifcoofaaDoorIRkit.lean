/- The lowered code of a package, printed by program; each function is checked against the loaded program by the kernel. No condition. -/
import Derived.Test.YtiimndcifcoofaaDoorIR
namespace Go.Proofs.YtiimndcifcoofaaDoor
open Go
set_option maxRecDepth 100000

/-- strongtx/strongtxkit.Place -/
def ir_kit_Place : IFn := ⟨11,
 (.seq (.region [
 ⟨some 4, .mov (.const (.int .i64 0)), none⟩])
 (.seq (.region [
 ⟨some 5, .mov (.tmp 0), none⟩,
 ⟨some 6, .conv .u64 (.tmp 5), none⟩,
 ⟨some 7, .mov (.tmp 1), none⟩,
 ⟨some 8, .conv .u64 (.tmp 7), none⟩,
 ⟨some 9, .bin .rem (.tmp 6) (.tmp 8), none⟩,
 ⟨some 10, .conv .i64 (.tmp 9), none⟩,
 ⟨some 4, .mov (.tmp 10), none⟩])
 .ret)),
 [.tmp 4]⟩
theorem low_kit_Place : lowFn Tryd.prog movers 6 = some ⟨ir_kit_Place.n, strip ir_kit_Place.body, ir_kit_Place.res⟩ := by kernel_rfl
end Go.Proofs.YtiimndcifcoofaaDoor
