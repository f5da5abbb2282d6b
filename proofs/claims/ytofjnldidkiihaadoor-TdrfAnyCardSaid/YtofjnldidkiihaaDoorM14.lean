/- What the laws of this seat share, part 14: contracts of the functions, plain laws, and the rules of their proofs. No condition. -/
import Derived.Test.YtofjnldidkiihaaDoorM13
namespace Go.Proofs.YtofjnldidkiihaaDoor
open Go Go.ChangeShapes Go.WideShapes Go.ChangeAt Go.RowKit
set_option maxRecDepth 100000
section
variable {H : Type} {enc : TypeId × Value → H} {P : Program} {w : World} {spare : Nat → Bool} {held : Bool} {q : Nat → Bool}
theorem weight_head {t : TypeId} {ts : List TypeId} {d : DataW H} {ds : List (DataW H)} (h : (DataW.weightsEach P (t :: ts) (d :: ds)).all q = true) : (d.weights P t).all q = true ∧ (DataW.weightsEach P ts ds).all q = true := by
  simpa only [DataW.weightsEach, List.all_append, Bool.and_eq_true] using h
theorem weights_mem {e : TypeId} : ∀ {E : List (DataW H)} {d : DataW H}, (DataW.weightsAll P e E).all q = true → d ∈ E → (d.weights P e).all q = true
  | [], _, _, hd => by cases hd
  | c :: r, d, h, hd => by
    simp only [DataW.weightsAll, List.all_append, Bool.and_eq_true] at h
    rcases List.mem_cons.1 hd with rfl | hd
    · exact h.1
    · exact weights_mem h.2 hd
theorem weights_get : ∀ {ts : List TypeId} {E : List (DataW H)} {i : Nat} {t : TypeId} {d : DataW H}, (DataW.weightsEach P ts E).all q = true → ts[i]? = some t → E[i]? = some d → (d.weights P t).all q = true
  | [], _, i, _, _, _, ht, _ => by simp at ht
  | _ :: _, [], i, _, _, _, _, hd => by simp at hd
  | t :: ts, c :: r, 0, _, _, h, ht, hd => by
    simp only [List.getElem?_cons_zero, Option.some.injEq] at ht hd
    subst ht hd
    exact (weight_head h).1
  | t :: ts, c :: r, i + 1, _, _, h, ht, hd => by
    rw [List.getElem?_cons_succ] at ht hd
    exact weights_get (weight_head h).2 ht hd
/-- A slice that is read, with its weight. -/
theorem trod_slW {α : Type} {en : α → List Value} {sz : Nat} {Φ : α → Prop} {fuel : Nat} {t e : TypeId} {cs : List Value} {x : DataW H × List MemPlace} (ht : P.underlying t = some (.slice e)) (hsz : P.cellsOf e = sz) (hpos : 0 < sz)
    (hel : ∀ n cs x, DataW.trod enc P w 0 spare held n e cs = some x → (x.1.weights P e).all q = true → ∃ y, cs = en y ∧ Φ y) (h : DataW.trod enc P w 0 spare held fuel t cs = some x) (hw : (x.1.weights P t).all q = true) :
    ∃ a l cap, cs = [.slice a l.length cap] ∧ RdE en sz w [] a l ∧ (∀ y ∈ l, Φ y) ∧ l.length ≤ cap ∧ (l = [] ∨ ∃ k, q ((l.length + k) * P.bytesOf e) = true) := by
  rcases DataW.trod_slice ht h with ⟨rfl, _⟩ | ⟨a, len, cap, elems, rest, n, _, rfl, rfl, _, hl, _, hlen, hel', _⟩
  · exact ⟨none, [], 0, rfl, RdE.nil, fun _ h => (by cases h), by simp, .inl rfl⟩
  · simp only [DataW.weights, ht, List.all_cons, List.all_append, Bool.and_eq_true, List.length_map] at hw
    obtain ⟨hw1, hw2, _⟩ := hw
    have key : ∀ i, i < len → ∃ y, (w.cells? 0 (a.add (i * sz)) sz = some (en y)) ∧ Φ y := fun i hi => by
      have := hel' i hi
      rw [hsz] at this
      have hi' : i < elems.length := by omega
      rw [List.getElem?_eq_getElem hi', Option.bind_eq_some_iff] at this
      obtain ⟨c, hc, hx⟩ := this
      obtain ⟨y, rfl, hy⟩ := hel _ _ _ hx (weights_mem hw2 (List.mem_map_of_mem (List.getElem_mem hi')))
      exact ⟨y, hc, hy⟩
    obtain ⟨l, hll, hq⟩ := list_of len key
    have hget : ∀ {j k : Nat} {y : α} {v : Value}, l[j]? = some y → (en y)[k]? = some v → w.cell? ((a.add (j * sz)).add k) = some v ∧ (en y).length = sz := fun {j k y v} hy hv => by
      obtain ⟨hc, _⟩ := hq j y hy
      obtain ⟨_, hlen, hget⟩ := World.cells?_some hc
      have hk := (List.getElem?_eq_some_iff.1 hv).1
      exact ⟨(hget k (by omega)).trans hv, hlen⟩
    have hspot : l ≠ [] → a.spot = none := fun hne => by
      cases l with
      | nil => exact absurd rfl hne
      | cons y r =>
        obtain ⟨hc, _⟩ := hq 0 y rfl
        obtain ⟨_, hlen, hget⟩ := World.cells?_some hc
        have h0 := hget 0 hpos
        rw [List.getElem?_eq_getElem (by omega)] at h0
        rw [Nat.zero_mul] at h0
        have e0 : (a.add 0).add 0 = a := by simp [Addr.add]
        rw [e0] at h0
        unfold World.cell? at h0
        split at h0
        · split at h0
          · cases h0
          · rename_i hs; simpa using hs
        · cases h0
    refine ⟨some a, l, cap, by rw [hll], ⟨fun hne => ?_, fun y hy => ?_, fun {j k y v} hy hv => ?_⟩, fun y hy => ?_, by omega, .inr ⟨rest.length, by rw [hll, ← hlen]; exact hw1⟩⟩
    · have := hspot hne
      obtain ⟨b, o, s⟩ := a
      simp only at this
      subst this
      rfl
    · obtain ⟨i, hi⟩ := List.getElem?_of_mem hy
      obtain ⟨hc, _⟩ := hq i y hi
      exact (World.cells?_some hc).2.1
    · obtain ⟨hc, _⟩ := hget hy hv
      have hs := hspot (by intro e; subst e; simp at hy)
      have he : (a.add (j * sz)).add k = ⟨ab (some a), ao (some a) + j * sz + k, none⟩ := by
        obtain ⟨b, o, s⟩ := a
        simp only at hs
        subst hs
        rw [addr_add, addr_add]
        rfl
      rw [he] at hc
      exact cell_st hc
    · obtain ⟨i, hi⟩ := List.getElem?_of_mem hy
      exact (hq i y hi).2
/-- A field of a struct, with its weight. -/
theorem trod_atW {fuel : Nat} {t ft : TypeId} {off n : Nat} {cs : List Value} {x : DataW H × List MemPlace} (i : Nat) (hf : fieldAt P t i = some (off, ft)) (hn : P.cellsOf ft = n) (h : DataW.trod enc P w 0 spare held fuel t cs = some x) (hw : (x.1.weights P t).all q = true) :
    ∃ m y, DataW.trod enc P w 0 spare held m ft ((cs.drop off).take n) = some y ∧ (y.1.weights P ft).all q = true := by
  unfold fieldAt at hf
  split at hf
  · rename_i fs hu
    obtain ⟨f, hf1, hf2⟩ := Option.map_eq_some_iff.1 hf
    simp only [Prod.mk.injEq] at hf2
    obtain ⟨rfl, rfl⟩ := hf2
    subst hn
    obtain ⟨xs, n, _, rfl, hl, hxl, hel⟩ := DataW.trod_struct hu h
    have hi := (Array.getElem?_eq_some_iff.1 hf1).1
    have he := hel i f hf1
    have hi' : i < xs.length := by omega
    rw [List.getElem?_eq_getElem hi'] at he
    refine ⟨n, _, he, ?_⟩
    simp only [DataW.weights, hu] at hw
    refine weights_get hw (i := i) (t := f.type) (d := (xs[i]).1) ?_ ?_
    · rw [List.getElem?_map, Array.getElem?_toList, hf1]; rfl
    · rw [List.getElem?_map, List.getElem?_eq_getElem hi']; rfl
  · cases hf
end
section
variable {H : Type} {enc : TypeId × Value → H} {w : World} {spare : Nat → Bool} {held : Bool}
theorem ints_W {fuel : Nat} {cs : List Value} {x : DataW H × List MemPlace} (h : DataW.trod enc Tryd.prog w 0 spare held fuel 22 cs = some x) (hw : (x.1.weights Tryd.prog 22).all (· ≤ reachBytes) = true) :
    ∃ a l cap, cs = [.slice a (List.length l) cap] ∧ RdE encI 1 w [] a l ∧ l.length ≤ 17592186043904 := by
  obtain ⟨a, l, cap, e, hr, _, _, hk⟩ := trod_slW (q := (· ≤ reachBytes)) (en := encI) (sz := 1) (Φ := fun _ => True) Tryd.underlying22 (by kernel_rfl) (by omega) (fun n cs x h _ => by
    obtain ⟨n, rfl, _⟩ := trod_i64 Tryd.underlying3 h
    exact ⟨n, rfl, trivial⟩) h hw
  refine ⟨a, l, cap, e, hr, ?_⟩
  rcases hk with rfl | ⟨k, hk⟩
  · simp
  · have h8 : Tryd.prog.bytesOf 3 = 8 := by kernel_rfl
    rw [h8] at hk
    have hk := of_decide_eq_true hk
    have h9 : reachBytes = 140737488351232 := rfl
    rw [h9] at hk
    omega
theorem trod_ev {fuel : Nat} {cs : List Value} {x : DataW H × List MemPlace} (h : DataW.trod enc Tryd.prog w 0 spare held fuel 42 cs = some x) (hw : (x.1.weights Tryd.prog 42).all (· ≤ reachBytes) = true) : ∃ y : EH, cs = y.enc ∧ EvR w [] y := by
  obtain ⟨hl, m0, y0, h0⟩ := trod_at 0 (off := 0) (ft := 3) (n := 1) (by kernel_rfl) (by kernel_rfl) h
  obtain ⟨_, m1, y1, h1⟩ := trod_at 1 (off := 1) (ft := 3) (n := 1) (by kernel_rfl) (by kernel_rfl) h
  obtain ⟨_, m2, y2, h2⟩ := trod_at 2 (off := 2) (ft := 3) (n := 1) (by kernel_rfl) (by kernel_rfl) h
  obtain ⟨_, m3, y3, h3⟩ := trod_at 3 (off := 3) (ft := 3) (n := 1) (by kernel_rfl) (by kernel_rfl) h
  obtain ⟨m4, y4, h4, w4⟩ := trod_atW 4 (off := 4) (ft := 22) (n := 1) (by kernel_rfl) (by kernel_rfl) h hw
  obtain ⟨m5, y5, h5, w5⟩ := trod_atW 5 (off := 5) (ft := 22) (n := 1) (by kernel_rfl) (by kernel_rfl) h hw
  obtain ⟨n0, e0, _⟩ := trod_i64 Tryd.underlying3 h0
  obtain ⟨n1, e1, _⟩ := trod_i64 Tryd.underlying3 h1
  obtain ⟨n2, e2, _⟩ := trod_i64 Tryd.underlying3 h2
  obtain ⟨n3, e3, _⟩ := trod_i64 Tryd.underlying3 h3
  obtain ⟨ra, rl, rc, e4, r4, b4⟩ := ints_W h4 w4
  obtain ⟨wa, wl, wc, e5, r5, b5⟩ := ints_W h5 w5
  have hl' : cs.length = 6 := hl.trans (by kernel_rfl)
  refine ⟨⟨n0, n1, n2, n3, ra, rl, rc, wa, wl, wc⟩, ?_, ⟨r4, r5, b4, b5⟩⟩
  match cs, hl' with
  | [c0, c1, c2, c3, c4, c5], _ =>
    simp at e0 e1 e2 e3 e4 e5
    rw [e0, e1, e2, e3, e4, e5]
theorem events_open {b0 : Nat} {v : Value} {d : DataW H} {p : List MemPlace} (hv : Value.okWide Tryd.prog w .any b0 25 v) (ht : DataW.Trod enc Tryd.prog w 0 spare held 25 v d p) (hw : (d.weights Tryd.prog 25).all (· ≤ reachBytes) = true) :
    ∃ a l cap, v = .slice a (List.length l) cap ∧ RdE EH.enc 6 w [] a l ∧ ∀ e ∈ l, EvR w [] e := by
  obtain ⟨fuel, h⟩ := ht
  obtain ⟨a, l, cap, e, hr, hE, _, _⟩ := trod_slW (q := (· ≤ reachBytes)) (en := EH.enc) (sz := 6) (Φ := fun e => EvR w [] e) Tryd.underlying25 (by kernel_rfl) (by omega) (fun n cs x h hw => trod_ev h hw) h hw
  exact ⟨a, l, cap, one_of rfl e (slice_agg Tryd.underlying25 hv), hr, hE⟩
end
end Go.Proofs.YtofjnldidkiihaaDoor
