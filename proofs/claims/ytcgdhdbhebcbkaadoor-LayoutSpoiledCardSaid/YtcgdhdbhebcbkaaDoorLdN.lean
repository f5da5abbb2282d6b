/- The arguments of the laws about scripts and programs, opened. No condition. -/
import Derived.Test.YtcgdhdbhebcbkaaDoorLdM
import Derived.Test.YtcgdhdbhebcbkaaDoorLdH
namespace Go.Proofs.YtcgdhdbhebcbkaaDoor
open Go Go.ChangeShapes Go.WideShapes Go.ChangeAt Go.RowKit
set_option maxRecDepth 100000
theorem arr5_open {w : World} {b0 : Nat} {v : Value} (h : Value.okWide Tryd.prog w .any b0 51 v) :
    ∃ n0 n1 n2 n3 n4 : Int, v = .agg #[.int .i64 n0, .int .i64 n1, .int .i64 n2, .int .i64 n3, .int .i64 n4] ∧ inKs [n0, n1, n2, n3, n4] := by
  obtain ⟨cs, rfl, hl, hc⟩ := val_flat (ts := [3, 3, 3, 3, 3]) (by kernel_rfl) (by kernel_rfl) (by kernel_rfl) h
  match cs, hl with
  | [c0, c1, c2, c3, c4], _ =>
    obtain ⟨n0, rfl, h0⟩ := cell_int Tryd.underlying3 (hc 0 _ 3 rfl rfl)
    obtain ⟨n1, rfl, h1⟩ := cell_int Tryd.underlying3 (hc 1 _ 3 rfl rfl)
    obtain ⟨n2, rfl, h2⟩ := cell_int Tryd.underlying3 (hc 2 _ 3 rfl rfl)
    obtain ⟨n3, rfl, h3⟩ := cell_int Tryd.underlying3 (hc 3 _ 3 rfl rfl)
    obtain ⟨n4, rfl, h4⟩ := cell_int Tryd.underlying3 (hc 4 _ 3 rfl rfl)
    exact ⟨n0, n1, n2, n3, n4, rfl, h0, h1, h2, h3, h4, True.intro⟩
section
variable {H : Type} {enc : TypeId × Value → H} {w : World} {spare : Nat → Bool} {held : Bool} {v : Value} {d : DataW H} {p : List MemPlace}
theorem one_of {cs : Array Value} {v x : Value} (h : v.cells = cs) (hc : cs.toList = [x]) (hx : ∀ a, v ≠ .agg a) : v = x := by
  unfold Value.cells at h
  split at h
  · rename_i a; exact absurd rfl (hx a)
  · subst h; simpa using hc
theorem slice_agg {P : Program} {w : World} {b0 : Nat} {t e : TypeId} {v : Value} (ht : P.underlying t = some (.slice e)) (h : Value.okWide P w .any b0 t v) : ∀ a, v ≠ .agg a := by
  intro a e
  subst e
  simp only [Value.okWide, ht, Cell.okWide, Cell.ok] at h
theorem ih_open {fuel : Nat} {cs : List Value} {x : DataW H × List MemPlace} (h : DataW.trod enc Tryd.prog w 0 spare held fuel 22 cs = some x) :
    ∃ y : IH, cs = y.enc ∧ RdE encI 1 w [] y.a y.l := by
  obtain ⟨a, l, cap, rfl, hr, _, _⟩ := trod_ints Tryd.underlying22 Tryd.underlying3 (by kernel_rfl) h
  exact ⟨⟨a, cap, l⟩, rfl, hr⟩
theorem ihs_open {b0 : Nat} (hv : Value.okWide Tryd.prog w .any b0 52 v) (ht : DataW.Trod enc Tryd.prog w 0 spare held 52 v d p) :
    ∃ a l cap, v = .slice a (List.length l) cap ∧ RdE IH.enc 1 w [] a l ∧ ∀ h ∈ l, RdE encI 1 w [] h.a h.l := by
  obtain ⟨fuel, h⟩ := ht
  obtain ⟨a, l, cap, e, hr, hq, _⟩ := trod_sl (en := IH.enc) (sz := 1) (Φ := fun y : IH => RdE encI 1 w [] y.a y.l) Tryd.underlying52 (by kernel_rfl) (by omega) (fun _ _ _ h => ih_open h) h
  exact ⟨a, l, cap, one_of rfl e (slice_agg Tryd.underlying52 hv), hr, hq⟩
theorem ints_open {b0 : Nat} (hv : Value.okWide Tryd.prog w .any b0 22 v) (ht : DataW.Trod enc Tryd.prog w 0 spare held 22 v d p) :
    ∃ a l cap, v = .slice a (List.length l) cap ∧ RdE encI 1 w [] a l ∧ ∀ y ∈ l, inK .i64 y := by
  obtain ⟨fuel, h⟩ := ht
  obtain ⟨a, l, cap, e, hr, hq, _⟩ := trod_ints Tryd.underlying22 Tryd.underlying3 (by kernel_rfl) h
  exact ⟨a, l, cap, one_of rfl e (slice_agg Tryd.underlying22 hv), hr, hq⟩
end
end Go.Proofs.YtcgdhdbhebcbkaaDoor
