/- What the lowered texts of this seat share, printed by program. No condition. -/
import Derived.Test.YtofjnldidkiihaaDoorVj
import Derived.Test.YtofjnldidkiihaaDoorRows
namespace Go.Proofs.YtofjnldidkiihaaDoor
open Go
set_option maxRecDepth 100000
theorem mixed : Tryd.prog.follows .mixedOrders = true := by kernel_rfl
/-- Functions that do not leave the class alone. -/
def movers : List Nat := [18, 23, 25, 26, 29, 31, 34, 39, 41, 42, 44, 45, 46, 47, 49, 52, 55, 56, 62, 63, 64, 65, 68, 70, 74]
end Go.Proofs.YtofjnldidkiihaaDoor
