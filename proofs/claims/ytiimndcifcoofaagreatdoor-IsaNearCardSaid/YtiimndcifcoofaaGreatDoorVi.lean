/- Part i: arguments that are slices, structs: from the row's reading to lists in memory. No condition. -/
import Derived.Test.YtiimndcifcoofaaGreatDoorVg
import Derived.Test.YtiimndcifcoofaaGreatDoorVh
namespace Go.Proofs.YtiimndcifcoofaaGreatDoor
open Go Go.ChangeShapes Go.WideShapes Go.ChangeAt Go.RowKit

theorem list_of {α : Type} {Q : Nat → α → Prop} : ∀ n, (∀ i, i < n → ∃ y, Q i y) → ∃ l : List α, l.length = n ∧ ∀ i y, l[i]? = some y → Q i y
  | 0, _ => ⟨[], rfl, fun i y h => by simp at h⟩
  | n + 1, h => by
    obtain ⟨l, hl, hq⟩ := list_of n (fun i hi => h i (by omega))
    obtain ⟨y, hy⟩ := h n (by omega)
    refine ⟨l ++ [y], by simp [hl], fun i z hz => ?_⟩
    by_cases hi : i < l.length
    · rw [List.getElem?_append_left hi] at hz
      exact hq i z hz
    · rw [List.getElem?_append_right (by omega)] at hz
      have : i - l.length = 0 := by
        by_cases h0 : i - l.length = 0
        · exact h0
        · rw [List.getElem?_eq_none (by simp; omega)] at hz; cases hz
      rw [this] at hz
      simp only [List.getElem?_cons_zero, Option.some.injEq] at hz
      subst hz
      have : i = n := by omega
      subst this
      exact hy

section
variable {H : Type} {enc : TypeId × Value → H} {P : Program} {w : World} {spare : Nat → Bool} {held : Bool}
theorem cell_st {own : Own} {a : Addr} {v : Value} (h : w.cell? a = some v) : Kn w own (fun w' => w'.cell? a = some v) := fun w' hw => by
  have hb : a.block < w.heap.size := by
    unfold World.cell? at h
    split at h
    · rename_i hb; exact (Array.getElem?_eq_some_iff.1 hb).1
    · cases h
  exact (World.cell?_of_block (w := w) (hw.base a.block hb)).trans h
/-- A slice that is read. -/
theorem trod_sl {α : Type} {en : α → List Value} {sz : Nat} {Φ : α → Prop} {fuel : Nat} {t e : TypeId} {cs : List Value} {x : DataW H × List MemPlace} (ht : P.underlying t = some (.slice e)) (hsz : P.cellsOf e = sz) (hpos : 0 < sz)
    (hel : ∀ n cs x, DataW.trod enc P w 0 spare held n e cs = some x → ∃ y, cs = en y ∧ Φ y) (h : DataW.trod enc P w 0 spare held fuel t cs = some x) :
    ∃ a l cap, cs = [.slice a l.length cap] ∧ RdE en sz w [] a l ∧ (∀ y ∈ l, Φ y) ∧ l.length ≤ cap := by
  rcases DataW.trod_slice ht h with ⟨rfl, _⟩ | ⟨a, len, cap, elems, rest, n, _, rfl, _, _, hl, _, hlen, hel', _⟩
  · exact ⟨none, [], 0, rfl, RdE.nil, fun _ h => (by cases h), by simp⟩
  · have key : ∀ i, i < len → ∃ y, (w.cells? 0 (a.add (i * sz)) sz = some (en y)) ∧ Φ y := fun i hi => by
      have := hel' i hi
      rw [hsz] at this
      have hi' : i < elems.length := by omega
      rw [List.getElem?_eq_getElem hi', Option.bind_eq_some_iff] at this
      obtain ⟨c, hc, hx⟩ := this
      obtain ⟨y, rfl, hy⟩ := hel _ _ _ hx
      exact ⟨y, hc, hy⟩
    obtain ⟨l, hll, hq⟩ := list_of len key
    have hget : ∀ {j k : Nat} {y : α} {v : Value}, l[j]? = some y → (en y)[k]? = some v → w.cell? ((a.add (j * sz)).add k) = some v ∧ (en y).length = sz := fun {j k y v} hy hv => by
      obtain ⟨hc, _⟩ := hq j y hy
      obtain ⟨_, hlen, hget⟩ := World.cells?_some hc
      have hk := (List.getElem?_eq_some_iff.1 hv).1
      exact ⟨(hget k (by omega)).trans hv, hlen⟩
    have hspot : l ≠ [] → a.spot = none := fun hne => by
      cases l with
      | nil => exact absurd rfl hne
      | cons y r =>
        obtain ⟨hc, _⟩ := hq 0 y rfl
        obtain ⟨_, hlen, hget⟩ := World.cells?_some hc
        have h0 := hget 0 hpos
        rw [List.getElem?_eq_getElem (by omega)] at h0
        rw [Nat.zero_mul] at h0
        have e0 : (a.add 0).add 0 = a := by simp [Addr.add]
        rw [e0] at h0
        unfold World.cell? at h0
        split at h0
        · split at h0
          · cases h0
          · rename_i hs; simpa using hs
        · cases h0
    refine ⟨some a, l, cap, by rw [hll], ⟨fun hne => ?_, fun y hy => ?_, fun {j k y v} hy hv => ?_⟩, fun y hy => ?_, by omega⟩
    · have := hspot hne
      obtain ⟨b, o, s⟩ := a
      simp only at this
      subst this
      rfl
    · obtain ⟨i, hi⟩ := List.getElem?_of_mem hy
      obtain ⟨hc, _⟩ := hq i y hi
      exact (World.cells?_some hc).2.1
    · obtain ⟨hc, _⟩ := hget hy hv
      have hs := hspot (by intro e; subst e; simp at hy)
      have he : (a.add (j * sz)).add k = ⟨ab (some a), ao (some a) + j * sz + k, none⟩ := by
        obtain ⟨b, o, s⟩ := a
        simp only at hs
        subst hs
        rw [addr_add, addr_add]
        rfl
      rw [he] at hc
      exact cell_st hc
    · obtain ⟨i, hi⟩ := List.getElem?_of_mem hy
      exact (hq i y hi).2
theorem trod_i64 {fuel : Nat} {t : TypeId} {cs : List Value} {x : DataW H × List MemPlace} {k : IntKind} (ht : P.underlying t = some (.int k)) (h : DataW.trod enc P w 0 spare held fuel t cs = some x) : ∃ n, cs = [.int k n] ∧ inK k n := by
  obtain ⟨n, rfl, _, hw⟩ := DataW.trod_int ht h
  refine ⟨n, rfl, inK_has ?_⟩
  simp only [Lit.wf, Bool.and_eq_true, decide_eq_true_eq] at hw
  exact hw
/-- A slice of integers. -/
theorem trod_ints {fuel : Nat} {t e : TypeId} {k : IntKind} {cs : List Value} {x : DataW H × List MemPlace} (ht : P.underlying t = some (.slice e)) (he : P.underlying e = some (.int k)) (hsz : P.cellsOf e = 1) (h : DataW.trod enc P w 0 spare held fuel t cs = some x) :
    ∃ a l cap, cs = [.slice a l.length cap] ∧ RdE (fun n => [.int k n]) 1 w [] a l ∧ (∀ y ∈ l, inK k y) ∧ l.length ≤ cap :=
  trod_sl ht hsz (by omega) (fun _ _ _ h => trod_i64 he h) h
/-- The fields of a struct, each with its reading. -/
theorem trod_fld {fuel : Nat} {t : TypeId} {fs : Array Field} {cs : List Value} {x : DataW H × List MemPlace} (ht : P.underlying t = some (.struct fs)) (h : DataW.trod enc P w 0 spare held fuel t cs = some x) (i : Nat) (f : Field) (hf : fs[i]? = some f) :
    cs.length = P.cellsOf t ∧ ∃ m y, DataW.trod enc P w 0 spare held m f.type ((cs.drop f.offset).take (P.cellsOf f.type)) = some y := by
  obtain ⟨xs, n, _, _, hl, hxl, hel⟩ := DataW.trod_struct ht h
  have hi := (Array.getElem?_eq_some_iff.1 hf).1
  have := hel i f hf
  rw [List.getElem?_eq_getElem (by omega)] at this
  exact ⟨hl, n, _, this⟩
/-- Where a field lies. -/
def fieldAt (P : Program) (t : TypeId) (i : Nat) : Option (Nat × TypeId) := match P.underlying t with
  | some (.struct fs) => (fs[i]?).map fun f => (f.offset, f.type)
  | _ => none
theorem trod_at {fuel : Nat} {t ft : TypeId} {off n : Nat} {cs : List Value} {x : DataW H × List MemPlace} (i : Nat) (hf : fieldAt P t i = some (off, ft)) (hn : P.cellsOf ft = n) (h : DataW.trod enc P w 0 spare held fuel t cs = some x) :
    cs.length = P.cellsOf t ∧ ∃ m y, DataW.trod enc P w 0 spare held m ft ((cs.drop off).take n) = some y := by
  unfold fieldAt at hf
  split at hf
  · rename_i fs hu
    obtain ⟨f, hf1, hf2⟩ := Option.map_eq_some_iff.1 hf
    simp only [Prod.mk.injEq] at hf2
    obtain ⟨rfl, rfl⟩ := hf2
    subst hn
    exact trod_fld hu h i f hf1
  · cases hf
end
end Go.Proofs.YtiimndcifcoofaaGreatDoor
