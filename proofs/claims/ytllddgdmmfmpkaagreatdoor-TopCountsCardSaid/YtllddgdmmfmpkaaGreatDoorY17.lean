/- What the laws share, part 17. No condition. -/
import Derived.Test.YtllddgdmmfmpkaaGreatDoorY16
namespace Go.Proofs.YtllddgdmmfmpkaaGreatDoor
open Go Go.ChangeShapes Go.WideShapes Go.ChangeAt Go.RowKit
set_option maxRecDepth 100000
theorem forms_at {W : World} (h : laidMetH Tryz.prog [("strongtx/isa.forms", Rows.laid_strongtx_isa_forms)] W) : FormsAt W :=
  laid_at (d := Rows.laid_strongtx_isa_forms) (g := 0) (t := 188) (cs := formsV) (by kernel_rfl) h (List.Mem.head _) (by kernel_rfl) (by kernel_rfl) (by kernel_rfl) (by kernel_rfl) (by simp [formsV])
section
variable {H : Type} {enc : TypeId × Value → H} {P : Program} {w : World} {spare : Nat → Bool} {held : Bool} {q : Nat → Bool}
theorem weight_head {t : TypeId} {ts : List TypeId} {d : DataW H} {ds : List (DataW H)} (h : (DataW.weightsEach P (t :: ts) (d :: ds)).all q = true) : (d.weights P t).all q = true ∧ (DataW.weightsEach P ts ds).all q = true := by
  simpa only [DataW.weightsEach, List.all_append, Bool.and_eq_true] using h
theorem weights_mem {e : TypeId} : ∀ {E : List (DataW H)} {d : DataW H}, (DataW.weightsAll P e E).all q = true → d ∈ E → (d.weights P e).all q = true
  | [], _, _, hd => by cases hd
  | c :: r, d, h, hd => by
    simp only [DataW.weightsAll, List.all_append, Bool.and_eq_true] at h
    rcases List.mem_cons.1 hd with rfl | hd
    · exact h.1
    · exact weights_mem h.2 hd
theorem trod_slW {α : Type} {en : α → List Value} {sz : Nat} {Φ : α → Prop} {fuel : Nat} {t e : TypeId} {cs : List Value} {x : DataW H × List MemPlace} (ht : P.underlying t = some (.slice e)) (hsz : P.cellsOf e = sz) (hpos : 0 < sz)
    (hel : ∀ n cs x, DataW.trod enc P w 0 spare held n e cs = some x → (x.1.weights P e).all q = true → ∃ y, cs = en y ∧ Φ y) (h : DataW.trod enc P w 0 spare held fuel t cs = some x) (hw : (x.1.weights P t).all q = true) :
    ∃ a l cap, cs = [.slice a l.length cap] ∧ RdE en sz w [] a l ∧ (∀ y ∈ l, Φ y) ∧ l.length ≤ cap ∧ (l = [] ∨ ∃ k, q ((l.length + k) * P.bytesOf e) = true) := by
  rcases DataW.trod_slice ht h with ⟨rfl, _⟩ | ⟨a, len, cap, elems, rest, n, _, rfl, rfl, _, hl, _, hlen, hel', _⟩
  · exact ⟨none, [], 0, rfl, RdE.nil, fun _ h => (by cases h), by simp, .inl rfl⟩
  · simp only [DataW.weights, ht, List.all_cons, List.all_append, Bool.and_eq_true, List.length_map] at hw
    obtain ⟨hw1, hw2, _⟩ := hw
    have key : ∀ i, i < len → ∃ y, (w.cells? 0 (a.add (i * sz)) sz = some (en y)) ∧ Φ y := fun i hi => by
      have := hel' i hi
      rw [hsz] at this
      have hi' : i < elems.length := by omega
      rw [List.getElem?_eq_getElem hi', Option.bind_eq_some_iff] at this
      obtain ⟨c, hc, hx⟩ := this
      obtain ⟨y, rfl, hy⟩ := hel _ _ _ hx (weights_mem hw2 (List.mem_map_of_mem (List.getElem_mem hi')))
      exact ⟨y, hc, hy⟩
    obtain ⟨l, hll, hq⟩ := list_of len key
    have hget : ∀ {j k : Nat} {y : α} {v : Value}, l[j]? = some y → (en y)[k]? = some v → w.cell? ((a.add (j * sz)).add k) = some v ∧ (en y).length = sz := fun {j k y v} hy hv => by
      obtain ⟨hc, _⟩ := hq j y hy
      obtain ⟨_, hlen, hget⟩ := World.cells?_some hc
      have hk := (List.getElem?_eq_some_iff.1 hv).1
      exact ⟨(hget k (by omega)).trans hv, hlen⟩
    have hspot : l ≠ [] → a.spot = none := fun hne => by
      cases l with
      | nil => exact absurd rfl hne
      | cons y r =>
        obtain ⟨hc, _⟩ := hq 0 y rfl
        obtain ⟨_, hlen, hget⟩ := World.cells?_some hc
        have h0 := hget 0 hpos
        rw [List.getElem?_eq_getElem (by omega)] at h0
        rw [Nat.zero_mul] at h0
        have e0 : (a.add 0).add 0 = a := by simp [Addr.add]
        rw [e0] at h0
        unfold World.cell? at h0
        split at h0
        · split at h0
          · cases h0
          · rename_i hs; simpa using hs
        · cases h0
    refine ⟨some a, l, cap, by rw [hll], ⟨fun hne => ?_, fun y hy => ?_, fun {j k y v} hy hv => ?_⟩, fun y hy => ?_, by omega, .inr ⟨rest.length, by rw [hll, ← hlen]; exact hw1⟩⟩
    · have := hspot hne
      obtain ⟨b, o, s⟩ := a
      simp only at this
      subst this
      rfl
    · obtain ⟨i, hi⟩ := List.getElem?_of_mem hy
      obtain ⟨hc, _⟩ := hq i y hi
      exact (World.cells?_some hc).2.1
    · obtain ⟨hc, _⟩ := hget hy hv
      have hs := hspot (by intro e; subst e; simp at hy)
      have he : (a.add (j * sz)).add k = ⟨ab (some a), ao (some a) + j * sz + k, none⟩ := by
        obtain ⟨b, o, s⟩ := a
        simp only at hs
        subst hs
        rw [addr_add, addr_add]
        rfl
      rw [he] at hc
      exact cell_st hc
    · obtain ⟨i, hi⟩ := List.getElem?_of_mem hy
      exact (hq i y hi).2
end
section
variable {H : Type} {enc : TypeId × Value → H} {w : World} {spare : Nat → Bool} {held : Bool} {v : Value} {d : DataW H} {p : List MemPlace}
theorem one_of {cs : Array Value} {v x : Value} (h : v.cells = cs) (hc : cs.toList = [x]) (hx : ∀ a, v ≠ .agg a) : v = x := by
  unfold Value.cells at h
  split at h
  · rename_i a; exact absurd rfl (hx a)
  · subst h; simpa using hc
theorem slice_agg {P : Program} {w : World} {b0 : Nat} {t e : TypeId} {v : Value} (ht : P.underlying t = some (.slice e)) (h : Value.okWide P w .any b0 t v) : ∀ a, v ≠ .agg a := by
  intro a e
  subst e
  simp only [Value.okWide, ht, Cell.okWide, Cell.ok] at h
theorem ints_W {fuel : Nat} {cs : List Value} {x : DataW H × List MemPlace} (h : DataW.trod enc Tryz.prog w 0 spare held fuel 22 cs = some x) (hw : (x.1.weights Tryz.prog 22).all (· ≤ reachBytes) = true) :
    ∃ a l cap, cs = [.slice a (List.length l) cap] ∧ RdE encI 1 w [] a l ∧ l.length ≤ 17592186043904 := by
  obtain ⟨a, l, cap, e, hr, _, _, hk⟩ := trod_slW (q := (· ≤ reachBytes)) (en := encI) (sz := 1) (Φ := fun _ => True) Tryz.underlying22 (by kernel_rfl) (by omega) (fun n cs x h _ => by
    obtain ⟨n, rfl, _⟩ := trod_i64 Tryz.underlying3 h
    exact ⟨n, rfl, trivial⟩) h hw
  refine ⟨a, l, cap, e, hr, ?_⟩
  rcases hk with rfl | ⟨k, hk⟩
  · simp
  · have h8 : Tryz.prog.bytesOf 3 = 8 := by kernel_rfl
    rw [h8] at hk
    have hk := of_decide_eq_true hk
    have h9 : reachBytes = 140737488351232 := rfl
    rw [h9] at hk
    omega
theorem ints_V {b0 : Nat} (hv : Value.okWide Tryz.prog w .any b0 22 v) (ht : DataW.Trod enc Tryz.prog w 0 spare held 22 v d p) (hw : (d.weights Tryz.prog 22).all (· ≤ reachBytes) = true) :
    ∃ a l cap, v = .slice a (List.length l) cap ∧ RdE encI 1 w [] a l ∧ l.length ≤ 17592186043904 := by
  obtain ⟨fuel, h⟩ := ht
  obtain ⟨a, l, cap, e, hr, hl⟩ := ints_W h hw
  exact ⟨a, l, cap, one_of rfl e (slice_agg Tryz.underlying22 hv), hr, hl⟩
end
end Go.Proofs.YtllddgdmmfmpkaaGreatDoor
