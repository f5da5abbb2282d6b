/- The arguments of the laws about programs, opened. No condition. -/
import Derived.Test.YtcgdhdbhebcbkaaDoorLfF
import Derived.Test.YtcgdhdbhebcbkaaDoorLdQ
namespace Go.Proofs.YtcgdhdbhebcbkaaDoor
open Go Go.ChangeShapes Go.WideShapes Go.ChangeAt Go.RowKit
set_option maxRecDepth 100000
section
variable {H : Type} {enc : TypeId × Value → H} {w : World} {spare : Nat → Bool} {held : Bool} {v : Value} {d : DataW H} {p : List MemPlace}
theorem one_of {cs : Array Value} {v x : Value} (h : v.cells = cs) (hc : cs.toList = [x]) (hx : ∀ a, v ≠ .agg a) : v = x := by
  unfold Value.cells at h
  split at h
  · rename_i a; exact absurd rfl (hx a)
  · subst h; simpa using hc
theorem slice_agg {P : Program} {w : World} {b0 : Nat} {t e : TypeId} {v : Value} (ht : P.underlying t = some (.slice e)) (h : Value.okWide P w .any b0 t v) : ∀ a, v ≠ .agg a := by
  intro a e
  subst e
  simp only [Value.okWide, ht, Cell.okWide, Cell.ok] at h
theorem trod_b {fuel : Nat} {cs : List Value} {x : DataW H × List MemPlace} (h : DataW.trod enc Tryd.prog w 0 spare held fuel 4 cs = some x) : ∃ y : Bool, cs = encB y ∧ True := by
  obtain ⟨m, rfl, _⟩ := DataW.trod_bool Tryd.underlying4 h
  exact ⟨m, rfl, trivial⟩
theorem bools_open {b0 : Nat} (hv : Value.okWide Tryd.prog w .any b0 33 v) (ht : DataW.Trod enc Tryd.prog w 0 spare held 33 v d p) :
    ∃ a l cap, v = .slice a (List.length l) cap ∧ RdE encB 1 w [] a l := by
  obtain ⟨fuel, h⟩ := ht
  obtain ⟨a, l, cap, e, hr, _, _⟩ := trod_sl (en := encB) (sz := 1) (Φ := fun _ => True) Tryd.underlying33 (by kernel_rfl) (by omega) (fun _ _ _ h => trod_b h) h
  exact ⟨a, l, cap, one_of rfl e (slice_agg Tryd.underlying33 hv), hr⟩
theorem ints_open {b0 : Nat} (hv : Value.okWide Tryd.prog w .any b0 22 v) (ht : DataW.Trod enc Tryd.prog w 0 spare held 22 v d p) :
    ∃ a l cap, v = .slice a (List.length l) cap ∧ RdE encJ 1 w [] a l ∧ ∀ y ∈ l, inK .i64 y := by
  obtain ⟨fuel, h⟩ := ht
  obtain ⟨a, l, cap, e, hr, hq, _⟩ := trod_ints Tryd.underlying22 Tryd.underlying3 (by kernel_rfl) h
  exact ⟨a, l, cap, one_of rfl e (slice_agg Tryd.underlying22 hv), hr, hq⟩
end
end Go.Proofs.YtcgdhdbhebcbkaaDoor
