/- What the laws share, part 17. No condition. -/
import Derived.Laws.FloatBits
import Derived.Test.YtkieffpjjfebjaaGreatDoorY16
namespace Go.Proofs.YtkieffpjjfebjaaGreatDoor
open Go
set_option maxRecDepth 10000
theorem wrapu_ok (e : Int) : okU (wrapu e) := by
  unfold wrapu IntKind.wrap
  have h3 : ((2 : Int) ^ IntKind.u64.bits) = 18446744073709551616 := rfl
  simp only [h3, IntKind.signed, Bool.false_and, Bool.false_eq_true, if_false, okU]
  omega
theorem truth_ok (b : Bool) : okU (Alu.truthM b) := by unfold Alu.truthM okU; split <;> omega
theorem nan_ok : okU Alu.nanW := by unfold Alu.nanW okU; omega
theorem plain_ok {x : Nat} (h : x < 18446744073709551616) : okU (Alu.plainM x) := by
  unfold Alu.plainM
  split
  · exact nan_ok
  · unfold okU; omega
theorem enc_lt (d : Ieee.Datum) : FloatKind.f64.encode d < 18446744073709551616 := by
  have := Ieee.Format.write_lt Ieee.double d
  have e : (2 : Nat) ^ Ieee.double.width = 18446744073709551616 := by decide +kernel
  rw [e] at this
  exact this
theorem pick_lt {neg : Bool} {a b : Nat} (ha : a < 18446744073709551616) (hb : b < 18446744073709551616) : pickF neg a b < 18446744073709551616 := by
  unfold pickF
  (repeat' split) <;> first | exact enc_lt _ | omega
theorem fop_ok (op : BinOp) (a b : Nat) : okU (Alu.fopM op a b) := by
  unfold Alu.fopM
  split
  · rename_i r hr
    exact plain_ok (Alu.fb_lt hr)
  · exact nan_ok
theorem shr_ok {x : Int} (hx : okU x) (n : Nat) : okU (x.fdiv (2 ^ n)) := by
  have h2 : (0 : Int) < 2 ^ n := Int.pow_pos (by decide)
  have h0 := Int.fdiv_nonneg hx.1 (Int.le_of_lt h2)
  have h1 : x.fdiv (2 ^ n) ≤ x := by
    rw [Int.fdiv_eq_ediv_of_nonneg _ (Int.le_of_lt h2)]
    exact Int.ediv_le_self _ hx.1
  exact ⟨h0, Int.le_trans h1 hx.2⟩
theorem ite_ok {p : Prop} [Decidable p] {a b : Int} (ha : okU a) (hb : okU b) : okU (if p then a else b) := by
  split <;> assumption
theorem ints_ok {fn x y : Int} (hx : okU x) : okU (Alu.intsM fn x y) :=
  ite_ok (wrapu_ok _) (ite_ok (wrapu_ok _) (ite_ok (wrapu_ok _) (ite_ok (wrapu_ok _) (ite_ok (wrapu_ok _) (ite_ok (wrapu_ok _) (ite_ok (wrapu_ok _) (ite_ok (shr_ok hx _) (ite_ok (truth_ok _) (ite_ok (truth_ok _) (ite_ok (truth_ok _) (truth_ok _)))))))))))
theorem floats_ok {fn : Int} {a b : Nat} (ha : a < 18446744073709551616) (hb : b < 18446744073709551616) : okU (Alu.floatsM fn a b) :=
  ite_ok (fop_ok _ _ _) (ite_ok (fop_ok _ _ _) (ite_ok (fop_ok _ _ _) (ite_ok (fop_ok _ _ _) (ite_ok (ite_ok nan_ok (plain_ok (pick_lt ha hb))) (ite_ok (ite_ok nan_ok (plain_ok (pick_lt ha hb))) (ite_ok (truth_ok _) (truth_ok _)))))))
theorem near_ok (n : Int) : okU (FloatKind.f64.nearest n : Int) := by
  have := enc_lt (.number (decide (n < 0)) n.natAbs 0)
  have e : FloatKind.f64.nearest n = FloatKind.f64.encode (.number (decide (n < 0)) n.natAbs 0) := rfl
  rw [e]
  generalize FloatKind.f64.encode (.number (decide (n < 0)) n.natAbs 0) = z at *
  unfold okU
  omega
theorem applyW_ok {fn x y : Int} (hx : okU x) (hy : okU y) : okU (Alu.applyW fn x y) := by
  have hxn : x.toNat < 18446744073709551616 := by unfold okU at hx; omega
  have hyn : y.toNat < 18446744073709551616 := by unfold okU at hy; omega
  exact ite_ok (ite_ok (near_ok _) (ite_ok (wrapu_ok _) (ite_ok (floats_ok hxn hyn) (ints_ok hx)))) ⟨by decide, by decide⟩
def Rg.ok (r : Rg) : Prop := ∀ k, okU (r.get k)
theorem Rg.ok_set {r : Rg} {k : Nat} {v : Int} (h : r.ok) (hv : okU v) : (r.set k v).ok := fun j => by
  by_cases hk : k < 8
  · rw [Rg.get_set hk]
    split
    · exact hv
    · exact h j
  · obtain ⟨m, rfl⟩ : ∃ m, k = m + 8 := ⟨k - 8, by omega⟩
    exact h j
theorem locR_ok {t : Thr} {x : Ins} (h : t.rg.ok) : (locR t x).ok := by
  unfold locR
  (repeat' split) <;> first | exact Rg.ok_set h (wrapu_ok _) | exact Rg.ok_set h (h _) | exact Rg.ok_set h (applyW_ok (h _) (h _)) | exact h
end Go.Proofs.YtkieffpjjfebjaaGreatDoor
