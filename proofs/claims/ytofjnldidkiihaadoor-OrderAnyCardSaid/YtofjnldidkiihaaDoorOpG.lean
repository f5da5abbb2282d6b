/- Traces: the example of the laws, reckoned. No condition. -/
import Derived.Test.YtofjnldidkiihaaDoorOdB
import Derived.Test.YtofjnldidkiihaaDoorOpE
namespace Go.Proofs.YtofjnldidkiihaaDoor
open Go
set_option maxRecDepth 100000

def rcBC (l : List EH) (y : Nat) (w : Int) (x : Nat) : Bool := !decide (knd l x = 3) && (confB (at' l x) (at' l y) w && !clos (dirB l) l.length x (toP l y))
def frstC (l : List EH) : RaceM := ((prs l l.length).findSome? fun p => (((List.range p.1).filter (rcBC l p.1 p.2)).map fun (x : Nat) => ((x : Int), (p.1 : Int), p.2)).getLast?).getD (-1, -1, -1)
theorem frst_C {l : List EH} {n : Nat} (hw : Wf l n) : frst l = frstC l := by
  have : rcB l = rcBC l := by funext y w x; unfold rcB rcBC; rw [clos_B hw]
  unfold frst frstC rcL
  rw [this]
def exE0 : EH := ⟨0, 1, 3, 0, none, [], 0, none, [], 0⟩
def exE1 : EH := ⟨0, 0, 2, 3, none, [], 0, none, [], 0⟩
def exE2 (br : Nat) : EH := ⟨0, 1, 4, 0, some ⟨br, 0, none⟩, [3], 1, none, [], 0⟩
def exL (br : Nat) : List EH := [exE0, exE1, exE2 br]
def exS (br : Nat) : List EH := [exE0, exE2 br]
theorem exL_chk : ∀ br, chkE (exL br) 2 = (0, 0) := fun _ => by kernel_rfl
theorem exS_chk : ∀ br, chkE (exS br) 2 = (0, 0) := fun _ => by kernel_rfl
theorem exL_wf (br : Nat) : Wf (exL br) 2 := (chk_wf (n := 2) (by rw [exL_chk])).1
theorem exS_wf (br : Nat) : Wf (exS br) 2 := (chk_wf (n := 2) (by rw [exS_chk])).1
theorem exL_frst (br : Nat) : frst (exL br) = (1, 2, 3) := by rw [frst_C (exL_wf br)]; kernel_rfl
theorem exS_frst (br : Nat) : frst (exS br) = (-1, -1, -1) := by rw [frst_C (exS_wf br)]; kernel_rfl
theorem exL_bef (br : Nat) : obefM (exL br) 2 0 2 = true := by kernel_rfl
theorem exL_nbef (br : Nat) : obefM (exL br) 2 1 2 = false := by kernel_rfl
end Go.Proofs.YtofjnldidkiihaaDoor
