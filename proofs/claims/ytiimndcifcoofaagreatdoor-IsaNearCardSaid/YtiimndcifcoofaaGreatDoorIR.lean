/- What the lowered texts of this seat share, printed by program. No condition. -/
import Derived.Test.YtiimndcifcoofaaGreatDoorVj
import Derived.Test.YtiimndcifcoofaaGreatDoorRows
namespace Go.Proofs.YtiimndcifcoofaaGreatDoor
open Go
set_option maxRecDepth 100000
theorem mixed : Tryz.prog.follows .mixedOrders = true := by kernel_rfl
/-- Functions that do not leave the class alone. -/
def movers : List Nat := [16, 17, 24, 25, 29, 32, 45, 46, 47, 49, 50, 52, 57, 58, 69, 73, 75, 76, 81, 105]
end Go.Proofs.YtiimndcifcoofaaGreatDoor
