/- Part g: listed variables: what they hold, cell by cell. No condition. -/
import Derived.Test.YtiimndcifcoofaaGreatDoorVf
import Derived.LaidMore
import Derived.Lay
import Derived.LaidByTextLater
import Derived.Stop.Joined
import Derived.SevenTiedAt
namespace Go.Proofs.YtiimndcifcoofaaGreatDoor
open Go Go.ChangeShapes Go.WideShapes Go.ChangeAt Go.RowKit

theorem val_string {P : Program} {w : World} {b0 : Nat} {t : TypeId} {v : Value} (ht : P.underlying t = some .string) (h : Value.okWide P w .any b0 t v) : ∃ s, v = .string s := by
  simp only [Value.okWide, ht, Cell.okWide, Cell.ok] at h
  split at h <;> simp_all
/-- The cells of a flat datum. -/
def litCells {H : Type} : Nat → DataW H → Option (List Value)
  | 0, _ => none
  | _ + 1, .lit (.int k n) => some [.int k n]
  | _ + 1, .lit (.bool b) => some [.bool b]
  | _ + 1, .lit (.string l) => some [.string ⟨l.toArray⟩]
  | n + 1, .agg ds => (ds.mapM (litCells n)).map List.flatten
  | _ + 1, _ => none
def tile (P : Program) (f : TypeId → Bool) : List Field → Nat → Option Nat
  | [], off => some off
  | x :: r, off => if x.offset = off ∧ f x.type = true then tile P f r (off + P.cellsOf x.type) else none
def flatT (P : Program) : Nat → TypeId → Bool
  | 0, _ => false
  | n + 1, t => match P.underlying t with
    | some (.int _) | some .bool | some .string => true
    | some (.array k e) => flatT P n e && decide (P.cellsOf t = k * P.cellsOf e)
    | some (.struct fs) => tile P (flatT P n) fs.toList 0 == some (P.cellsOf t)
    | _ => false

theorem mapM_all {α β : Type} {f : α → Option β} : ∀ (l : List α) (ys : List β), l.length = ys.length → (∀ (i : Nat) x, l[i]? = some x → f x = ys[i]?) → l.mapM f = some ys
  | [], [], _, _ => by simp
  | x :: l, y :: ys, hl, h => by
    have h0 := h 0 x rfl
    simp only [List.getElem?_cons_zero] at h0
    have ih := mapM_all l ys (by simpa using hl) (fun i x hx => by have := h (i + 1) x (by simpa using hx); simpa using this)
    rw [List.mapM_cons, h0, ih]
    rfl
  | [], _ :: _, hl, _ => by cases hl
  | _ :: _, [], hl, _ => by cases hl

theorem chunks_flat {cs : List Value} (s : Nat) : ∀ k, ((List.range k).map fun i => (cs.drop (i * s)).take s).flatten = cs.take (k * s)
  | 0 => by simp
  | k + 1 => by
    rw [List.range_succ, List.map_append, List.flatten_append, chunks_flat s k, Nat.succ_mul, List.take_add]
    simp
theorem tile_flat {P : Program} {f : TypeId → Bool} {cs : List Value} : ∀ (l : List Field) (off tot : Nat), tile P f l off = some tot → off ≤ tot ∧ (l.map fun x => (cs.drop x.offset).take (P.cellsOf x.type)).flatten = (cs.drop off).take (tot - off)
  | [], off, tot, h => by
    simp only [tile, Option.some.injEq] at h
    subst h
    simp
  | x :: l, off, tot, h => by
    unfold tile at h
    split at h
    · rename_i hx
      obtain ⟨h1, h2⟩ := tile_flat (cs := cs) l _ tot h
      refine ⟨by omega, ?_⟩
      rw [List.map_cons, List.flatten_cons, h2, hx.1]
      have e : tot - off = P.cellsOf x.type + (tot - (off + P.cellsOf x.type)) := by omega
      rw [e, List.take_add, List.drop_drop]
    · cases h
theorem tile_all {P : Program} {f : TypeId → Bool} : ∀ (l : List Field) (off tot : Nat), tile P f l off = some tot → ∀ x ∈ l, f x.type = true
  | [], _, _, _, x, hx => by cases hx
  | y :: l, off, tot, h, x, hx => by
    unfold tile at h
    split at h
    · rename_i hy
      rcases List.mem_cons.1 hx with rfl | hx
      · exact hy.2
      · exact tile_all l _ _ h x hx
    · cases h

section
variable {H : Type} {enc : TypeId × Value → H} {P : Program} {w : World} {base : Nat} {spare : Nat → Bool} {held : Bool}
/-- What a flat type's cells hold is told by the datum. -/
theorem trod_flat : ∀ (n fuel : Nat) (t : TypeId) (cs : List Value) (d : DataW H) (p : List MemPlace), flatT P n t = true → DataW.trod enc P w base spare held fuel t cs = some (d, p) → litCells n d = some cs
  | 0, _, _, _, _, _, h, _ => by simp [flatT] at h
  | n + 1, fuel, t, cs, d, p, h, hd => by
    unfold flatT at h
    split at h
    · rename_i hu
      obtain ⟨m, rfl, hx, _⟩ := DataW.trod_int hu hd
      simp only [Prod.mk.injEq] at hx
      rw [hx.1]; rfl
    · rename_i hu
      obtain ⟨m, rfl, hx⟩ := DataW.trod_bool hu hd
      simp only [Prod.mk.injEq] at hx
      rw [hx.1]; rfl
    · rename_i hu
      obtain ⟨m, rfl, hx, _⟩ := DataW.trod_string hu hd
      simp only [Prod.mk.injEq] at hx
      rw [hx.1]; simp [litCells]
    · rename_i k e hu
      simp only [Bool.and_eq_true, decide_eq_true_eq] at h
      obtain ⟨xs, m, _, hx, hl, hxl, hel⟩ := DataW.trod_array hu hd
      simp only [Prod.mk.injEq] at hx
      rw [hx.1]
      have hm : (xs.map (·.1)).mapM (litCells n) = some ((List.range k).map fun i => (cs.drop (i * P.cellsOf e)).take (P.cellsOf e)) := by
        refine mapM_all _ _ (by simp [hxl]) fun i x hx => ?_
        rw [List.getElem?_map] at hx
        obtain ⟨y, hy, rfl⟩ := Option.map_eq_some_iff.1 hx
        have hi : i < k := by rw [← hxl]; exact (List.getElem?_eq_some_iff.1 hy).1
        have := hel i hi
        rw [hy] at this
        rw [trod_flat n m e _ y.1 y.2 h.1 this]
        simp [hi]
      simp only [litCells, hm, Option.map_some]
      rw [chunks_flat, ← h.2, ← hl, List.take_length]
    · rename_i fs hu
      simp only [beq_iff_eq] at h
      obtain ⟨xs, m, _, hx, hl, hxl, hel⟩ := DataW.trod_struct hu hd
      simp only [Prod.mk.injEq] at hx
      rw [hx.1]
      have hm : (xs.map (·.1)).mapM (litCells n) = some (fs.toList.map fun x => (cs.drop x.offset).take (P.cellsOf x.type)) := by
        refine mapM_all _ _ (by simp [hxl]) fun i x hx => ?_
        rw [List.getElem?_map] at hx
        obtain ⟨y, hy, rfl⟩ := Option.map_eq_some_iff.1 hx
        have hi : i < fs.size := by rw [← hxl]; exact (List.getElem?_eq_some_iff.1 hy).1
        have hf : fs[i]? = some fs[i] := Array.getElem?_eq_getElem hi
        have := hel i fs[i] hf
        rw [hy] at this
        have hft := tile_all fs.toList 0 _ h fs[i] (by simp)
        rw [trod_flat n m _ _ y.1 y.2 hft this]
        simp [hi]
      simp only [litCells, hm, Option.map_some]
      rw [(tile_flat (cs := cs) fs.toList 0 _ h).2]
      simp [← hl]
    · cases h
end

/-- A listed variable lies in a block of the world as it began; what its cells hold. -/
structure LaidAt (W0 : World) (g : Nat) (cs : List Value) : Prop where
  size : g < W0.heap.size
  cell : ∀ j v, cs[j]? = some v → W0.cell? ⟨g, j, none⟩ = some v
theorem LaidAt.st {W0 w : World} {own : Own} {g : Nat} {cs : List Value} (h : LaidAt W0 g cs) (hw : St W0 own w) : LaidAt w g cs :=
  ⟨Nat.lt_of_lt_of_le h.size hw.size, fun j v hv => (World.cell?_of_block (w := W0) (hw.base g h.size)).trans (h.cell j v hv)⟩
theorem LaidAt.kn {W0 : World} {own : Own} {g : Nat} {cs : List Value} (h : LaidAt W0 g cs) {j : Nat} {v : Value} (hv : cs[j]? = some v) : Kn W0 own (fun w => w.cell? ⟨g, j, none⟩ = some v) := fun _ hw => (h.st hw).cell j v hv
theorem ld_laid {W0 : World} {own : Own} {g : Nat} {cs : List Value} (h : LaidAt W0 g cs) {j : Nat} {K : Value → Prop} (v : Value) (hv : cs[j]? = some v) (hk : K v) : Ld W0 own ⟨g, j, none⟩ K := ⟨v, h.kn hv, hk⟩
theorem ldN_laid {W0 : World} {own : Own} {g : Nat} {cs : List Value} (h : LaidAt W0 g cs) {j n : Nat} {K : Array Value → Prop} (vs : List Value) (hv : (cs.drop j).take n = vs) (hl : vs.length = n) (hk : K vs.toArray) : LdN W0 own ⟨g, j, none⟩ n K := by
  refine ⟨vs.toArray, by simpa using hl, fun w hw i hi => ?_, hk⟩
  rw [addr_add]
  have hi' : i < vs.length := by omega
  refine (h.kn (own := own) (v := vs[i]) ?_ w hw).trans (by simp [hi'])
  subst hv
  rw [List.getElem?_eq_some_iff]
  simp only [List.length_take, List.length_drop] at hi'
  exact ⟨by omega, by simp [List.getElem_take, List.getElem_drop]⟩

theorem laid_all {P : Program} {w : World} : ∀ {l : List (String × DataW Unit)} {ps : List MemPlace}, DataW.LaidVars P w l ps → ∀ {n : String} {d : DataW Unit}, (n, d) ∈ l →
    ∃ g t cs fuel p, P.globalNamed n = some g ∧ (P.globals[g]?).map (·.type) = some t ∧ w.var? P n = some cs ∧ DataW.trod (fun _ => ()) P w 0 (fun _ => true) false fuel t cs.toList = some (d, p)
  | [], _, _, _, _, h => by cases h
  | (n', d') :: r, ps, hL, n, d, h => by
    obtain ⟨g, t, cs, fuel, p, q, h1, h2, h3, h4, h5, _⟩ := hL
    rcases List.mem_cons.1 h with e | h
    · cases e
      exact ⟨g, t, cs, fuel, p, h1, h2, h3, h4⟩
    · exact laid_all h5 h
/-- One listed variable of a flat type: where it lies, what it holds. -/
theorem laid_at {P : Program} {w : World} {l : List (String × DataW Unit)} {n : String} {d : DataW Unit} {g : Nat} {t : TypeId} {cs : List Value} (hp : (l.all fun x => x.2.handleName?.isNone) = true)
    (h : laidMetH P l w) (hm : (n, d) ∈ l) (hg : P.globalNamed n = some g) (ht : (P.globals[g]?).map (·.type) = some t) (hf : flatT P 6 t = true) (hc : litCells 6 d = some cs) (hne : cs ≠ []) : LaidAt w g cs := by
  rw [MakeChecks.laidMetH_plain _ _ _ hp] at h
  obtain ⟨ps, hL, _, _⟩ := h
  obtain ⟨g', t', cs', fuel, p, h1, h2, h3, h4⟩ := laid_all hL hm
  rw [hg] at h1
  obtain rfl := Option.some.inj h1
  rw [ht] at h2
  obtain rfl := Option.some.inj h2
  have h5 := trod_flat 6 fuel t _ d p hf h4
  rw [hc] at h5
  have h5 := (Option.some.inj h5).symm
  have hcell : ∀ j v, cs[j]? = some v → w.cell? ⟨g, j, none⟩ = some v := fun j v hv => by
    rw [World.var?_cell hg h3 j, ← Array.getElem?_toList, h5, hv]
  refine ⟨?_, hcell⟩
  match cs, hne with
  | v :: _, _ =>
    have := hcell 0 v rfl
    unfold World.cell? at this
    split at this
    · rename_i hb
      exact (Array.getElem?_eq_some_iff.1 hb).1
    · cases this
end Go.Proofs.YtiimndcifcoofaaGreatDoor
