/- What the lowered texts of this seat share, printed by program. No condition. -/
import Derived.Test.YtiimndcifcoofaaDoorVj
import Derived.Test.YtiimndcifcoofaaDoorRows
namespace Go.Proofs.YtiimndcifcoofaaDoor
open Go
set_option maxRecDepth 100000
theorem mixed : Tryd.prog.follows .mixedOrders = true := by kernel_rfl
/-- Functions that do not leave the class alone. -/
def movers : List Nat := [11, 22, 24, 25, 26, 33]
end Go.Proofs.YtiimndcifcoofaaDoor
