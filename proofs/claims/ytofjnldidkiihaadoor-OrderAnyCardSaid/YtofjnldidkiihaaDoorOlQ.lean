/- The arguments of the laws about traces, opened. No condition. -/
import Derived.Test.YtofjnldidkiihaaDoorOdE
import Derived.Test.YtofjnldidkiihaaDoorVi
namespace Go.Proofs.YtofjnldidkiihaaDoor
open Go Go.ChangeShapes Go.WideShapes Go.ChangeAt Go.RowKit
set_option maxRecDepth 100000
theorem onone_at {W : World} (h : laidMetH Tryd.prog [("strongtx/order.none", Rows.laid_strongtx_order_none)] W) : LaidAt W 1 noneV :=
  laid_at (d := Rows.laid_strongtx_order_none) (g := 1) (t := 28) (cs := noneV) (by kernel_rfl) h (List.Mem.head _) (by kernel_rfl) (by kernel_rfl) (by kernel_rfl) (by kernel_rfl) (by simp [noneV])
section
variable {H : Type} {enc : TypeId × Value → H} {w : World} {spare : Nat → Bool} {held : Bool} {v : Value} {d : DataW H} {p : List MemPlace}
theorem one_of {cs : Array Value} {v x : Value} (h : v.cells = cs) (hc : cs.toList = [x]) (hx : ∀ a, v ≠ .agg a) : v = x := by
  unfold Value.cells at h
  split at h
  · rename_i a; exact absurd rfl (hx a)
  · subst h; simpa using hc
theorem slice_agg {P : Program} {w : World} {b0 : Nat} {t e : TypeId} {v : Value} (ht : P.underlying t = some (.slice e)) (h : Value.okWide P w .any b0 t v) : ∀ a, v ≠ .agg a := by
  intro a e
  subst e
  simp only [Value.okWide, ht, Cell.okWide, Cell.ok] at h
theorem ints_open {b0 : Nat} (hv : Value.okWide Tryd.prog w .any b0 22 v) (ht : DataW.Trod enc Tryd.prog w 0 spare held 22 v d p) :
    ∃ a l cap, v = .slice a (List.length l) cap ∧ RdE encI 1 w [] a l := by
  obtain ⟨fuel, h⟩ := ht
  obtain ⟨a, l, cap, e, hr, _, _⟩ := trod_ints Tryd.underlying22 Tryd.underlying3 (by kernel_rfl) h
  exact ⟨a, l, cap, one_of rfl e (slice_agg Tryd.underlying22 hv), hr⟩
end
end Go.Proofs.YtofjnldidkiihaaDoor
