/- What the lowered texts of this seat share, printed by program. No condition. -/
import Derived.Test.YtnmfkcggadhdfaaDoorVj
import Derived.Test.YtnmfkcggadhdfaaDoorRows
namespace Go.Proofs.YtnmfkcggadhdfaaDoor
open Go
set_option maxRecDepth 100000
theorem mixed : Tryd.prog.follows .mixedOrders = true := by kernel_rfl
/-- Functions that do not leave the class alone. -/
def movers : List Nat := [20, 21, 26, 28, 29, 42, 43, 44, 45, 50]
end Go.Proofs.YtnmfkcggadhdfaaDoor
