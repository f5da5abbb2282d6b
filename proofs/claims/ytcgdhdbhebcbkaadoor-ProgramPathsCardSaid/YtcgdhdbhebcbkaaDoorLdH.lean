/- A script as an argument, opened. No condition. -/
import Derived.Test.YtcgdhdbhebcbkaaDoorLdG
import Derived.Test.YtcgdhdbhebcbkaaDoorVf
namespace Go.Proofs.YtcgdhdbhebcbkaaDoor
open Go Go.ChangeShapes Go.WideShapes Go.ChangeAt Go.RowKit
set_option maxRecDepth 100000
section
variable {H : Type} {enc : TypeId × Value → H} {w : World} {spare : Nat → Bool} {held : Bool} {v : Value} {d : DataW H} {p : List MemPlace}
theorem trod_phs {fuel : Nat} {cs : List Value} {x : DataW H × List MemPlace} (h : DataW.trod enc Tryd.prog w 0 spare held fuel 24 cs = some x) :
    ∃ y : PH, cs = y.enc ∧ RdE Ins.enc 5 w [] y.a y.p := by
  obtain ⟨a, l, cap, rfl, hr, _, _⟩ := trod_sl (en := Ins.enc) (sz := 5) (Φ := fun _ => True) Tryd.underlying24 (by kernel_rfl) (by omega) (fun _ _ _ h => trod_ins h) h
  exact ⟨⟨a, cap, l⟩, rfl, hr⟩
theorem scr_open {b0 : Nat} (hv : Value.okWide Tryd.prog w .any b0 47 v) (ht : DataW.Trod enc Tryd.prog w 0 spare held 47 v d p) :
    ∃ c ia il ic pa ps pc ka ks kc, v = scrV c ia il ic pa ps.length pc ka ks.length kc ∧ RdE PH.enc 1 w [] pa ps ∧ (∀ h ∈ ps, RdE Ins.enc 5 w [] h.a h.p) ∧ RdE encI 1 w [] ka ks := by
  obtain ⟨cs, rfl, hl, hc⟩ := val_flat (ts := [3, 3, 3, 3, 3, 3, 3, 3, 3, 3, 3, 3, 4, 44, 45, 22]) (by kernel_rfl) (by kernel_rfl) (by kernel_rfl) hv
  obtain ⟨fuel, h⟩ := ht
  have h' : DataW.trod enc Tryd.prog w 0 spare held fuel 47 cs = some (d, p) := by simpa [Value.cells] using h
  clear h hv
  obtain ⟨_, m1, y1, h1⟩ := trod_at 1 (off := 13) (ft := 44) (n := 1) (by kernel_rfl) (by kernel_rfl) h'
  obtain ⟨_, m2, y2, h2⟩ := trod_at 2 (off := 14) (ft := 45) (n := 1) (by kernel_rfl) (by kernel_rfl) h'
  obtain ⟨_, m3, y3, h3⟩ := trod_at 3 (off := 15) (ft := 22) (n := 1) (by kernel_rfl) (by kernel_rfl) h'
  obtain ⟨ia, il, ic, e1, _, _, _⟩ := trod_ints Tryd.underlying44 Tryd.underlying56 (by kernel_rfl) h1
  obtain ⟨pa, ps, pc, e2, hP, hQ, _⟩ := trod_sl (en := PH.enc) (sz := 1) (Φ := fun y : PH => RdE Ins.enc 5 w [] y.a y.p) Tryd.underlying45 (by kernel_rfl) (by omega) (fun _ _ _ h => trod_phs h) h2
  obtain ⟨ka, ks, kc, e3, hK, _, _⟩ := trod_ints Tryd.underlying22 Tryd.underlying3 (by kernel_rfl) h3
  replace e1 := one_cell e1
  replace e2 := one_cell e2
  replace e3 := one_cell e3
  clear h1 h2 h3 h'
  match cs, hl with
  | [c0, c1, c2, c3, c4, c5, c6, c7, c8, c9, c10, c11, c12, c13, c14, c15], _ =>
    obtain ⟨n0, rfl, _⟩ := cell_int Tryd.underlying3 (hc 0 _ 3 rfl rfl)
    obtain ⟨n1, rfl, _⟩ := cell_int Tryd.underlying3 (hc 1 _ 3 rfl rfl)
    obtain ⟨n2, rfl, _⟩ := cell_int Tryd.underlying3 (hc 2 _ 3 rfl rfl)
    obtain ⟨n3, rfl, _⟩ := cell_int Tryd.underlying3 (hc 3 _ 3 rfl rfl)
    obtain ⟨n4, rfl, _⟩ := cell_int Tryd.underlying3 (hc 4 _ 3 rfl rfl)
    obtain ⟨n5, rfl, _⟩ := cell_int Tryd.underlying3 (hc 5 _ 3 rfl rfl)
    obtain ⟨n6, rfl, _⟩ := cell_int Tryd.underlying3 (hc 6 _ 3 rfl rfl)
    obtain ⟨n7, rfl, _⟩ := cell_int Tryd.underlying3 (hc 7 _ 3 rfl rfl)
    obtain ⟨n8, rfl, _⟩ := cell_int Tryd.underlying3 (hc 8 _ 3 rfl rfl)
    obtain ⟨n9, rfl, _⟩ := cell_int Tryd.underlying3 (hc 9 _ 3 rfl rfl)
    obtain ⟨n10, rfl, _⟩ := cell_int Tryd.underlying3 (hc 10 _ 3 rfl rfl)
    obtain ⟨n11, rfl, _⟩ := cell_int Tryd.underlying3 (hc 11 _ 3 rfl rfl)
    obtain ⟨b, rfl⟩ := cell_bool Tryd.underlying4 (hc 12 _ 4 rfl rfl)
    obtain rfl : c13 = _ := Option.some.inj e1
    obtain rfl : c14 = _ := Option.some.inj e2
    obtain rfl : c15 = _ := Option.some.inj e3
    exact ⟨⟨n0, n1, n2, n3, n4, n5, n6, n7, n8, n9, n10, n11, b⟩, ia, il.length, ic, pa, ps, pc, ka, ks, kc, rfl, hP, hQ, hK⟩
end
end Go.Proofs.YtcgdhdbhebcbkaaDoor
