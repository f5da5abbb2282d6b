/- isa: an instruction by value, opened, with the bounds of its number. No condition. -/
import Derived.Test.YtiimndcifcoofaaDoorIcQ
namespace Go.Proofs.YtiimndcifcoofaaDoor
open Go Go.ChangeShapes Go.WideShapes Go.ChangeAt Go.RowKit
set_option maxRecDepth 100000
section
variable {H : Type} {enc : TypeId × Value → H} {w : World} {spare : Nat → Bool} {held : Bool} {v : Value} {d : DataW H} {p : List MemPlace}
theorem ins_open2 {b0 : Nat} (hv : Value.okWide Tryd.prog w .any b0 23 v) (ht : DataW.Trod enc Tryd.prog w 0 spare held 23 v d p) : ∃ e : Ins, v = e.v ∧ inK .i64 e.imm := by
  obtain ⟨cs, rfl, _, _⟩ := val_flat (by kernel_rfl) (ts := [3, 3, 3, 3, 3]) (by kernel_rfl) (by kernel_rfl) hv
  obtain ⟨fuel, h⟩ := ht
  simp only [Value.cells, List.toList_toArray] at h
  obtain ⟨hl, m0, y0, h0⟩ := trod_at 0 (off := 0) (ft := 3) (n := 1) (by kernel_rfl) (by kernel_rfl) h
  obtain ⟨_, m1, y1, h1⟩ := trod_at 1 (off := 1) (ft := 3) (n := 1) (by kernel_rfl) (by kernel_rfl) h
  obtain ⟨_, m2, y2, h2⟩ := trod_at 2 (off := 2) (ft := 3) (n := 1) (by kernel_rfl) (by kernel_rfl) h
  obtain ⟨_, m3, y3, h3⟩ := trod_at 3 (off := 3) (ft := 3) (n := 1) (by kernel_rfl) (by kernel_rfl) h
  obtain ⟨_, m4, y4, h4⟩ := trod_at 4 (off := 4) (ft := 3) (n := 1) (by kernel_rfl) (by kernel_rfl) h
  obtain ⟨n0, e0, _⟩ := trod_i64 Tryd.underlying3 h0
  obtain ⟨n1, e1, _⟩ := trod_i64 Tryd.underlying3 h1
  obtain ⟨n2, e2, _⟩ := trod_i64 Tryd.underlying3 h2
  obtain ⟨n3, e3, _⟩ := trod_i64 Tryd.underlying3 h3
  obtain ⟨n4, e4, k4⟩ := trod_i64 Tryd.underlying3 h4
  have hl' : cs.length = 5 := hl.trans (by kernel_rfl)
  refine ⟨⟨n0, n1, n2, n3, n4⟩, ?_, k4⟩
  match cs, hl' with
  | [c0, c1, c2, c3, c4], _ =>
    simp at e0 e1 e2 e3 e4
    rw [e0, e1, e2, e3, e4]
end
end Go.Proofs.YtiimndcifcoofaaDoor
