/- What the laws share, part 15. No condition. -/
import Derived.LaidMore
import Derived.Lay
import Derived.LaidByTextLater
import Derived.Stop.Joined
import Derived.SevenTiedAt
import Derived.Test.YtllddgdmmfmpkaaGreatDoorY14
namespace Go.Proofs.YtllddgdmmfmpkaaGreatDoor
open Go Go.ChangeShapes Go.WideShapes Go.ChangeAt Go.RowKit
def litCells {H : Type} : Nat → DataW H → Option (List Value)
  | 0, _ => none
  | _ + 1, .lit (.int k n) => some [.int k n]
  | _ + 1, .lit (.bool b) => some [.bool b]
  | _ + 1, .lit (.string l) => some [.string ⟨l.toArray⟩]
  | n + 1, .agg ds => (ds.mapM (litCells n)).map List.flatten
  | _ + 1, _ => none
def tile (P : Program) (f : TypeId → Bool) : List Field → Nat → Option Nat
  | [], off => some off
  | x :: r, off => if x.offset = off ∧ f x.type = true then tile P f r (off + P.cellsOf x.type) else none
def flatT (P : Program) : Nat → TypeId → Bool
  | 0, _ => false
  | n + 1, t => match P.underlying t with
    | some (.int _) | some .bool | some .string => true
    | some (.array k e) => flatT P n e && decide (P.cellsOf t = k * P.cellsOf e)
    | some (.struct fs) => tile P (flatT P n) fs.toList 0 == some (P.cellsOf t)
    | _ => false
theorem mapM_all {α β : Type} {f : α → Option β} : ∀ (l : List α) (ys : List β), l.length = ys.length → (∀ (i : Nat) x, l[i]? = some x → f x = ys[i]?) → l.mapM f = some ys
  | [], [], _, _ => by simp
  | x :: l, y :: ys, hl, h => by
    have h0 := h 0 x rfl
    simp only [List.getElem?_cons_zero] at h0
    have ih := mapM_all l ys (by simpa using hl) (fun i x hx => by have := h (i + 1) x (by simpa using hx); simpa using this)
    rw [List.mapM_cons, h0, ih]
    rfl
  | [], _ :: _, hl, _ => by cases hl
  | _ :: _, [], hl, _ => by cases hl
theorem chunks_flat {cs : List Value} (s : Nat) : ∀ k, ((List.range k).map fun i => (cs.drop (i * s)).take s).flatten = cs.take (k * s)
  | 0 => by simp
  | k + 1 => by
    rw [List.range_succ, List.map_append, List.flatten_append, chunks_flat s k, Nat.succ_mul, List.take_add]
    simp
theorem tile_flat {P : Program} {f : TypeId → Bool} {cs : List Value} : ∀ (l : List Field) (off tot : Nat), tile P f l off = some tot → off ≤ tot ∧ (l.map fun x => (cs.drop x.offset).take (P.cellsOf x.type)).flatten = (cs.drop off).take (tot - off)
  | [], off, tot, h => by
    simp only [tile, Option.some.injEq] at h
    subst h
    simp
  | x :: l, off, tot, h => by
    unfold tile at h
    split at h
    · rename_i hx
      obtain ⟨h1, h2⟩ := tile_flat (cs := cs) l _ tot h
      refine ⟨by omega, ?_⟩
      rw [List.map_cons, List.flatten_cons, h2, hx.1]
      have e : tot - off = P.cellsOf x.type + (tot - (off + P.cellsOf x.type)) := by omega
      rw [e, List.take_add, List.drop_drop]
    · cases h
theorem tile_all {P : Program} {f : TypeId → Bool} : ∀ (l : List Field) (off tot : Nat), tile P f l off = some tot → ∀ x ∈ l, f x.type = true
  | [], _, _, _, x, hx => by cases hx
  | y :: l, off, tot, h, x, hx => by
    unfold tile at h
    split at h
    · rename_i hy
      rcases List.mem_cons.1 hx with rfl | hx
      · exact hy.2
      · exact tile_all l _ _ h x hx
    · cases h
section
variable {H : Type} {enc : TypeId × Value → H} {P : Program} {w : World} {base : Nat} {spare : Nat → Bool} {held : Bool}
theorem trod_flat : ∀ (n fuel : Nat) (t : TypeId) (cs : List Value) (d : DataW H) (p : List MemPlace), flatT P n t = true → DataW.trod enc P w base spare held fuel t cs = some (d, p) → litCells n d = some cs
  | 0, _, _, _, _, _, h, _ => by simp [flatT] at h
  | n + 1, fuel, t, cs, d, p, h, hd => by
    unfold flatT at h
    split at h
    · rename_i hu
      obtain ⟨m, rfl, hx, _⟩ := DataW.trod_int hu hd
      simp only [Prod.mk.injEq] at hx
      rw [hx.1]; rfl
    · rename_i hu
      obtain ⟨m, rfl, hx⟩ := DataW.trod_bool hu hd
      simp only [Prod.mk.injEq] at hx
      rw [hx.1]; rfl
    · rename_i hu
      obtain ⟨m, rfl, hx, _⟩ := DataW.trod_string hu hd
      simp only [Prod.mk.injEq] at hx
      rw [hx.1]; simp [litCells]
    · rename_i k e hu
      simp only [Bool.and_eq_true, decide_eq_true_eq] at h
      obtain ⟨xs, m, _, hx, hl, hxl, hel⟩ := DataW.trod_array hu hd
      simp only [Prod.mk.injEq] at hx
      rw [hx.1]
      have hm : (xs.map (·.1)).mapM (litCells n) = some ((List.range k).map fun i => (cs.drop (i * P.cellsOf e)).take (P.cellsOf e)) := by
        refine mapM_all _ _ (by simp [hxl]) fun i x hx => ?_
        rw [List.getElem?_map] at hx
        obtain ⟨y, hy, rfl⟩ := Option.map_eq_some_iff.1 hx
        have hi : i < k := by rw [← hxl]; exact (List.getElem?_eq_some_iff.1 hy).1
        have := hel i hi
        rw [hy] at this
        rw [trod_flat n m e _ y.1 y.2 h.1 this]
        simp [hi]
      simp only [litCells, hm, Option.map_some]
      rw [chunks_flat, ← h.2, ← hl, List.take_length]
    · rename_i fs hu
      simp only [beq_iff_eq] at h
      obtain ⟨xs, m, _, hx, hl, hxl, hel⟩ := DataW.trod_struct hu hd
      simp only [Prod.mk.injEq] at hx
      rw [hx.1]
      have hm : (xs.map (·.1)).mapM (litCells n) = some (fs.toList.map fun x => (cs.drop x.offset).take (P.cellsOf x.type)) := by
        refine mapM_all _ _ (by simp [hxl]) fun i x hx => ?_
        rw [List.getElem?_map] at hx
        obtain ⟨y, hy, rfl⟩ := Option.map_eq_some_iff.1 hx
        have hi : i < fs.size := by rw [← hxl]; exact (List.getElem?_eq_some_iff.1 hy).1
        have hf : fs[i]? = some fs[i] := Array.getElem?_eq_getElem hi
        have := hel i fs[i] hf
        rw [hy] at this
        have hft := tile_all fs.toList 0 _ h fs[i] (by simp)
        rw [trod_flat n m _ _ y.1 y.2 hft this]
        simp [hi]
      simp only [litCells, hm, Option.map_some]
      rw [(tile_flat (cs := cs) fs.toList 0 _ h).2]
      simp [← hl]
    · cases h
end
structure LaidAt (W0 : World) (g : Nat) (cs : List Value) : Prop where
  size : g < W0.heap.size
  cell : ∀ j v, cs[j]? = some v → W0.cell? ⟨g, j, none⟩ = some v
theorem LaidAt.st {W0 w : World} {own : Own} {g : Nat} {cs : List Value} (h : LaidAt W0 g cs) (hw : St W0 own w) : LaidAt w g cs :=
  ⟨Nat.lt_of_lt_of_le h.size hw.size, fun j v hv => (World.cell?_of_block (w := W0) (hw.base g h.size)).trans (h.cell j v hv)⟩
theorem LaidAt.kn {W0 : World} {own : Own} {g : Nat} {cs : List Value} (h : LaidAt W0 g cs) {j : Nat} {v : Value} (hv : cs[j]? = some v) : Kn W0 own (fun w => w.cell? ⟨g, j, none⟩ = some v) := fun _ hw => (h.st hw).cell j v hv
theorem ld_laid {W0 : World} {own : Own} {g : Nat} {cs : List Value} (h : LaidAt W0 g cs) {j : Nat} {K : Value → Prop} (v : Value) (hv : cs[j]? = some v) (hk : K v) : Ld W0 own ⟨g, j, none⟩ K := ⟨v, h.kn hv, hk⟩
theorem laid_all {P : Program} {w : World} : ∀ {l : List (String × DataW Unit)} {ps : List MemPlace}, DataW.LaidVars P w l ps → ∀ {n : String} {d : DataW Unit}, (n, d) ∈ l →
    ∃ g t cs fuel p, P.globalNamed n = some g ∧ (P.globals[g]?).map (·.type) = some t ∧ w.var? P n = some cs ∧ DataW.trod (fun _ => ()) P w 0 (fun _ => true) false fuel t cs.toList = some (d, p)
  | [], _, _, _, _, h => by cases h
  | (n', d') :: r, ps, hL, n, d, h => by
    obtain ⟨g, t, cs, fuel, p, q, h1, h2, h3, h4, h5, _⟩ := hL
    rcases List.mem_cons.1 h with e | h
    · cases e
      exact ⟨g, t, cs, fuel, p, h1, h2, h3, h4⟩
    · exact laid_all h5 h
theorem laid_at {P : Program} {w : World} {l : List (String × DataW Unit)} {n : String} {d : DataW Unit} {g : Nat} {t : TypeId} {cs : List Value} (hp : (l.all fun x => x.2.handleName?.isNone) = true)
    (h : laidMetH P l w) (hm : (n, d) ∈ l) (hg : P.globalNamed n = some g) (ht : (P.globals[g]?).map (·.type) = some t) (hf : flatT P 6 t = true) (hc : litCells 6 d = some cs) (hne : cs ≠ []) : LaidAt w g cs := by
  rw [MakeChecks.laidMetH_plain _ _ _ hp] at h
  obtain ⟨ps, hL, _, _⟩ := h
  obtain ⟨g', t', cs', fuel, p, h1, h2, h3, h4⟩ := laid_all hL hm
  rw [hg] at h1
  obtain rfl := Option.some.inj h1
  rw [ht] at h2
  obtain rfl := Option.some.inj h2
  have h5 := trod_flat 6 fuel t _ d p hf h4
  rw [hc] at h5
  have h5 := (Option.some.inj h5).symm
  have hcell : ∀ j v, cs[j]? = some v → w.cell? ⟨g, j, none⟩ = some v := fun j v hv => by
    rw [World.var?_cell hg h3 j, ← Array.getElem?_toList, h5, hv]
  refine ⟨?_, hcell⟩
  match cs, hne with
  | v :: _, _ =>
    have := hcell 0 v rfl
    unfold World.cell? at this
    split at this
    · rename_i hb
      exact (Array.getElem?_eq_some_iff.1 hb).1
    · cases this
end Go.Proofs.YtllddgdmmfmpkaaGreatDoor
namespace Go.Proofs.YtllddgdmmfmpkaaGreatDoor.Alu
open Go
set_option maxRecDepth 10000
theorem f64_eq : FloatKind.f64.format = Ieee.double := rfl
theorem sw : Ieee.double.signWeight = 9223372036854775808 := by decide
theorem bn : Ieee.double.binade = 4503599627370496 := by decide
theorem ir : Ieee.double.infRung = 9218868437227405312 := by decide
def isN (x : Nat) : Bool := decide (9218868437227405312 < x % 9223372036854775808)
theorem read_nan (x : Nat) : (Ieee.double.read x).isNaN = isN x := by
  unfold Ieee.Format.read isN
  simp only [sw, bn, ir]
  split
  · simp only [Ieee.Datum.isNaN]; symm; rw [decide_eq_false_iff_not]; omega
  · split
    · simp only [Ieee.Datum.isNaN]; symm; rw [decide_eq_false_iff_not]; omega
    · split
      · simp only [Ieee.Datum.isNaN]; symm; rw [decide_eq_false_iff_not]; omega
      · simp only [Ieee.Datum.isNaN]; symm; rw [decide_eq_true_eq]; omega
theorem order_refl (d : Ieee.Datum) : d.order d = if d.isNaN then none else some .eq := by
  cases d with
  | nan => rfl
  | infinity s => simp [Ieee.Datum.order, Ieee.Datum.isNaN]
  | number s m i => simp [Ieee.Datum.order, Ieee.Datum.isNaN]
theorem order_self (x : Nat) : FloatKind.f64.format.order x x = if isN x then none else some .eq := by
  rw [← read_nan]
  exact order_refl _
theorem cmp_self (x : Nat) : fcmp .neq (FloatKind.f64.format.order x x) = isN x := by
  rw [order_self]
  cases isN x <;> rfl
theorem nanB_isN {r : Nat} (h : nanB r) : isN r = true := by
  obtain ⟨s, t, hs, ht, rfl⟩ := h
  unfold isN
  rw [decide_eq_true_eq]
  have h1 : (2 : Nat) ^ 63 = 9223372036854775808 := by decide
  have h2 : (2 : Nat) ^ 52 = 4503599627370496 := by decide
  rw [h2] at ht
  rw [h1]
  omega
def okW (x : Int) : Prop := 0 ≤ x ∧ x ≤ 18446744073709551615
def truthM (b : Bool) : Int := if b then 1 else 0
def nanW : Int := 9221120237041090560
def plainM (x : Nat) : Int := if isN x then nanW else x
theorem sp_isnan (W0 : World) (own : Own) (a : Nat) : Pure Tryz.prog W0 202 [.float .f64 a] own (.bool (isN a)) := by
  refine pure_of (spec_of mixed low_math_IsNaN (by simp [ir_math_IsNaN]) ?_)
  repeat' ((try (conv => whnf)); first | (refine fcmp_e _ (cmp_self _) ?_) | (exact Ent.refl) | (refine And.intro rfl ?_))
  all_goals exact ⟨rfl, by (repeat (first | exact Ent.refl | exact Ent.left | refine Ent.cons ?_ | refine Ent.app ?_))⟩
theorem sp_plain (W0 : World) (own : Own) (a : Nat) : Pure Tryz.prog W0 203 [.float .f64 a] own (.int .u64 (plainM a)) := by
  refine pure_of (spec_of mixed low_alu_plain (by simp [ir_alu_plain]) ?_)
  cases hn : isN a
  · have h1 : ∀ own, Pure Tryz.prog W0 202 [.float .f64 a] own (.bool false) := fun own => by rw [← hn]; exact sp_isnan W0 own a
    repeat' ((try (conv => whnf)); first | (apply call_p (h1 _)) | (refine br_f ?_))
    all_goals (refine ⟨ret1 (vi ?_), by (repeat (first | exact Ent.refl | exact Ent.left | refine Ent.cons ?_ | refine Ent.app ?_))⟩; simp [plainM, hn])
  · have h1 : ∀ own, Pure Tryz.prog W0 202 [.float .f64 a] own (.bool true) := fun own => by rw [← hn]; exact sp_isnan W0 own a
    repeat' ((try (conv => whnf)); first | (apply call_p (h1 _)) | (refine br_t ?_))
    all_goals (refine ⟨ret1 (vi ?_), by (repeat (first | exact Ent.refl | exact Ent.left | refine Ent.cons ?_ | refine Ent.app ?_))⟩; simp [plainM, hn, nanW])
theorem sp_truth (W0 : World) (own : Own) (b : Bool) : Pure Tryz.prog W0 204 [.bool b] own (.int .u64 (truthM b)) := by
  refine pure_of (spec_of mixed low_alu_truth (by simp [ir_alu_truth]) ?_)
  cases b <;> (repeat' ((try (conv => whnf)); first | (refine br_t ?_) | (refine br_f ?_)); all_goals exact ⟨rfl, by (repeat (first | exact Ent.refl | exact Ent.left | refine Ent.cons ?_ | refine Ent.app ?_))⟩)
end Go.Proofs.YtllddgdmmfmpkaaGreatDoor.Alu
namespace Go.Proofs.YtllddgdmmfmpkaaGreatDoor.Alu
open Go
set_option maxRecDepth 10000
set_option maxHeartbeats 2000000
theorem shl_k {k : IntKind} {m n : Int} {K : Int → Prop} (h0 : 0 ≤ n) (h : K (k.wrap (m * 2 ^ (min n.toNat k.bits)))) : Shl k m n K := ⟨h0, h⟩
theorem shr_k {k : IntKind} {m n : Int} {K : Int → Prop} (h0 : 0 ≤ n) (h : K (m.fdiv (2 ^ (min n.toNat k.bits)))) : Shr k m n K := ⟨h0, h⟩
def intsM (fn x y : Int) : Int :=
  if fn = 0 then IntKind.u64.wrap (x + y) else if fn = 1 then IntKind.u64.wrap (x - y) else if fn = 2 then IntKind.u64.wrap (x * y) else if fn = 3 then bitF .and .u64 x y else if fn = 4 then bitF .or .u64 x y
  else if fn = 5 then bitF .xor .u64 x y else if fn = 6 then IntKind.u64.wrap (x * 2 ^ (min (y % 64).toNat IntKind.u64.bits)) else if fn = 7 then x.fdiv (2 ^ (min (y % 64).toNat IntKind.u64.bits))
  else if fn = 8 then truthM (decide (x = y)) else if fn = 9 then truthM (decide (x ≠ y)) else if fn = 10 then truthM (decide (IntKind.i64.wrap x < IntKind.i64.wrap y)) else truthM (decide (x < y))
theorem sp_ints (W0 : World) (own : Own) (fn x y : Int) (hf : 0 ≤ fn ∧ fn < 12) (hy : okW y) : Pure Tryz.prog W0 184 [.int .i64 fn, .int .u64 x, .int .u64 y] own (.int .u64 (intsM fn x y)) := by
  unfold okW at hy
  have hw : fn = 0 ∨ fn = 1 ∨ fn = 2 ∨ fn = 3 ∨ fn = 4 ∨ fn = 5 ∨ fn = 6 ∨ fn = 7 ∨ fn = 8 ∨ fn = 9 ∨ fn = 10 ∨ fn = 11 := by omega
  refine pure_of (spec_of mixed low_alu_integers (by simp [ir_alu_integers]) ?_)
  rcases hw with rfl | rfl | rfl | rfl | rfl | rfl | rfl | rfl | rfl | rfl | rfl | rfl
  all_goals
    repeat' ((try (conv => whnf)); first | (refine br_t ?_) | (refine br_f ?_) | (refine arw ?_) | (refine bit_k ?_) | (refine shl_k (by omega) ?_) | (refine shr_k (by omega) ?_) | (apply call_p (sp_truth _ _ _)) | (refine rem_i ?_ ?_; omega) | (exact Ent.refl) | (refine And.intro rfl ?_))
    all_goals exact ⟨rfl, by (repeat (first | exact Ent.refl | exact Ent.left | refine Ent.cons ?_ | refine Ent.app ?_))⟩
end Go.Proofs.YtllddgdmmfmpkaaGreatDoor.Alu
namespace Go.Proofs.YtllddgdmmfmpkaaGreatDoor.Alu
open Go
set_option maxRecDepth 10000
set_option maxHeartbeats 2000000
def fopM (op : BinOp) (a b : Nat) : Int := match floatBits op .f64 a b with | some r => plainM r | none => nanW
theorem plain_nan {r : Nat} (h : nanB r) : plainM r = nanW := by unfold plainM; rw [nanB_isN h]; rfl
theorem sp_min (W0 : World) (own : Own) (a b : Nat) : Pure Tryz.prog W0 205 [.float .f64 a, .float .f64 b] own (.float .f64 (pickF true a b)) := by
  refine pure_of (spec_of mixed low_math_Min (by simp [ir_math_Min]) ?_)
  repeat' ((try (conv => whnf)); first | (refine br_t ?_) | (exact Ent.refl) | (refine And.intro rfl ?_))
  all_goals exact ⟨rfl, by (repeat (first | exact Ent.refl | exact Ent.left | refine Ent.cons ?_ | refine Ent.app ?_))⟩
theorem sp_max (W0 : World) (own : Own) (a b : Nat) : Pure Tryz.prog W0 206 [.float .f64 a, .float .f64 b] own (.float .f64 (pickF false a b)) := by
  refine pure_of (spec_of mixed low_math_Max (by simp [ir_math_Max]) ?_)
  repeat' ((try (conv => whnf)); first | (refine br_t ?_) | (exact Ent.refl) | (refine And.intro rfl ?_))
  all_goals exact ⟨rfl, by (repeat (first | exact Ent.refl | exact Ent.left | refine Ent.cons ?_ | refine Ent.app ?_))⟩
def floatsM (fn : Int) (a b : Nat) : Int :=
  if fn = 12 then fopM .add a b else if fn = 13 then fopM .sub a b else if fn = 14 then fopM .mul a b else if fn = 15 then fopM .quo a b
  else if fn = 16 then (if isN a || isN b then nanW else plainM (pickF true a b)) else if fn = 17 then (if isN a || isN b then nanW else plainM (pickF false a b))
  else if fn = 18 then truthM (fcmp .eql (FloatKind.f64.format.order a b)) else truthM (fcmp .lss (FloatKind.f64.format.order a b))
theorem sp_floats (W0 : World) (own : Own) (fn : Int) (a b : Nat) (hf : 12 ≤ fn ∧ fn < 20) : Pure Tryz.prog W0 183 [.int .i64 fn, .float .f64 a, .float .f64 b] own (.int .u64 (floatsM fn a b)) := by
  have hA := fun own => sp_isnan W0 own a
  have hB := fun own => sp_isnan W0 own b
  generalize e1 : isN a = na at hA
  generalize e2 : isN b = nb at hB
  refine pure_of (spec_of mixed low_alu_floats (by simp [ir_alu_floats]) ?_)
  have hw : fn = 12 ∨ fn = 13 ∨ fn = 14 ∨ fn = 15 ∨ fn = 16 ∨ fn = 17 ∨ fn = 18 ∨ fn = 19 := by omega
  rcases hw with rfl | rfl | rfl | rfl | rfl | rfl | rfl | rfl
  case inl =>
    cases hfb : floatBits .add .f64 a b <;> cases na <;> cases nb
    all_goals
      repeat' ((try (conv => whnf)); first | (refine when_y ?_) | (refine when_tf ?_) | (refine br_t ?_) | (refine flt_s _ hfb ?_) | (refine flt_n hfb (fun r hr => ?_)) | (apply call_p (hA _)) | (apply call_p (hB _)) | (apply call_p (sp_plain _ _ _)))
      all_goals (refine ⟨ret1 (vi ?_), by (repeat (first | exact Ent.refl | exact Ent.left | refine Ent.cons ?_ | refine Ent.app ?_))⟩; simp [floatsM, fopM, hfb]; try exact plain_nan (by assumption))
  case inr.inl =>
    cases hfb : floatBits .sub .f64 a b <;> cases na <;> cases nb
    all_goals
      repeat' ((try (conv => whnf)); first | (refine when_y ?_) | (refine when_tf ?_) | (refine br_t ?_) | (refine br_f ?_) | (refine flt_s _ hfb ?_) | (refine flt_n hfb (fun r hr => ?_)) | (apply call_p (hA _)) | (apply call_p (hB _)) | (apply call_p (sp_plain _ _ _)))
      all_goals (refine ⟨ret1 (vi ?_), by (repeat (first | exact Ent.refl | exact Ent.left | refine Ent.cons ?_ | refine Ent.app ?_))⟩; simp [floatsM, fopM, hfb]; try exact plain_nan (by assumption))
  case inr.inr.inl =>
    cases hfb : floatBits .mul .f64 a b <;> cases na <;> cases nb
    all_goals
      repeat' ((try (conv => whnf)); first | (refine when_y ?_) | (refine when_tf ?_) | (refine br_t ?_) | (refine br_f ?_) | (refine flt_s _ hfb ?_) | (refine flt_n hfb (fun r hr => ?_)) | (apply call_p (hA _)) | (apply call_p (hB _)) | (apply call_p (sp_plain _ _ _)))
      all_goals (refine ⟨ret1 (vi ?_), by (repeat (first | exact Ent.refl | exact Ent.left | refine Ent.cons ?_ | refine Ent.app ?_))⟩; simp [floatsM, fopM, hfb]; try exact plain_nan (by assumption))
  case inr.inr.inr.inl =>
    cases hfb : floatBits .quo .f64 a b <;> cases na <;> cases nb
    all_goals
      repeat' ((try (conv => whnf)); first | (refine when_y ?_) | (refine when_tf ?_) | (refine br_t ?_) | (refine br_f ?_) | (refine flt_s _ hfb ?_) | (refine flt_n hfb (fun r hr => ?_)) | (apply call_p (hA _)) | (apply call_p (hB _)) | (apply call_p (sp_plain _ _ _)))
      all_goals (refine ⟨ret1 (vi ?_), by (repeat (first | exact Ent.refl | exact Ent.left | refine Ent.cons ?_ | refine Ent.app ?_))⟩; simp [floatsM, fopM, hfb]; try exact plain_nan (by assumption))
  all_goals
    cases na <;> cases nb
    all_goals
      repeat' ((try (conv => whnf)); first | (refine when_y ?_) | (refine when_tf ?_) | (refine br_t ?_) | (refine br_f ?_) | (refine fcmp_k ?_) | (apply call_p (hA _)) | (apply call_p (hB _)) | (apply call_p (sp_plain _ _ _)) | (apply call_p (sp_truth _ _ _)) | (apply call_p (sp_min _ _ _ _)) | (apply call_p (sp_max _ _ _ _)) | (exact Ent.refl) | (refine And.intro rfl ?_))
      all_goals (refine ⟨ret1 (vi ?_), by (repeat (first | exact Ent.refl | exact Ent.left | refine Ent.cons ?_ | refine Ent.app ?_))⟩; simp [floatsM, e1, e2, nanW])
end Go.Proofs.YtllddgdmmfmpkaaGreatDoor.Alu
namespace Go.Proofs.YtllddgdmmfmpkaaGreatDoor.Alu
open Go
set_option maxRecDepth 10000
set_option maxHeartbeats 2000000
def limW : Nat := 4890909195324358656
def limN : Nat := 14114281232179134464
theorem read_lim : Ieee.double.read limW = .number false 4503599627370496 11 := by decide
theorem read_limN : Ieee.double.read limN = .number true 4503599627370496 11 := by decide
theorem cut_zero (s : Bool) (n drop : Nat) : Ieee.Toward.zero.cut s n drop = n / 2 ^ (min drop (n.log2 + 2)) := by
  simp [Ieee.Toward.cut, Nat.shiftLeft_eq]
theorem cut_lt {s : Bool} {n drop j : Nat} (h : n < 2 ^ (drop + j)) : Ieee.Toward.zero.cut s n drop < 2 ^ j := by
  rw [cut_zero]
  by_cases hd : drop ≤ n.log2 + 2
  · rw [Nat.min_eq_left hd]
    refine (Nat.div_lt_iff_lt_mul (Nat.two_pow_pos _)).2 ?_
    rw [← Nat.pow_add, Nat.add_comm j drop]
    exact h
  · rw [Nat.min_eq_right (by omega)]
    have h1 : n < 2 ^ (n.log2 + 2) := Nat.lt_of_lt_of_le Nat.lt_log2_self (Nat.pow_le_pow_right (by omega) (by omega))
    rw [Nat.div_eq_of_lt h1]
    exact Nat.two_pow_pos _
theorem cut_le {s : Bool} {n drop j : Nat} (h : n ≤ 2 ^ (drop + j)) : Ieee.Toward.zero.cut s n drop ≤ 2 ^ j := by
  rw [cut_zero]
  by_cases hd : drop ≤ n.log2 + 2
  · rw [Nat.min_eq_left hd]
    refine Nat.div_le_of_le_mul ?_
    rw [← Nat.pow_add]
    exact h
  · rw [Nat.min_eq_right (by omega)]
    have h1 : n < 2 ^ (n.log2 + 2) := Nat.lt_of_lt_of_le Nat.lt_log2_self (Nat.pow_le_pow_right (by omega) (by omega))
    rw [Nat.div_eq_of_lt h1]
    exact Nat.zero_le _
theorem shift_cmp {s : Bool} {m : Nat} {e : Int} (h : m <<< (e - min e 11).toNat < 4503599627370496 <<< (11 - min e 11).toNat) : Ieee.Toward.zero.cut s (m <<< e.toNat) (-e).toNat < 9223372036854775808 := by
  have hp : (9223372036854775808 : Nat) = 2 ^ 63 := by decide
  have h52 : (4503599627370496 : Nat) = 2 ^ 52 := by decide
  rw [hp]
  refine cut_lt ?_
  rw [h52, Nat.shiftLeft_eq, Nat.shiftLeft_eq, ← Nat.pow_add] at h
  rw [Nat.shiftLeft_eq]
  by_cases h11 : 11 ≤ e
  · have e1 : min e 11 = 11 := by omega
    rw [e1] at h
    have e2 : (-e).toNat = 0 := by omega
    have e3 : e.toNat = (e - 11).toNat + 11 := by omega
    rw [e2, e3, Nat.pow_add, ← Nat.mul_assoc]
    have := Nat.mul_lt_mul_of_pos_right h (show 0 < 2 ^ 11 by decide)
    rw [← Nat.pow_add] at this
    simpa using this
  · have e1 : min e 11 = e := by omega
    rw [e1] at h
    have e0 : (e - e).toNat = 0 := by omega
    rw [e0, Nat.pow_zero, Nat.mul_one] at h
    by_cases hneg : e < 0
    · have e2 : e.toNat = 0 := by omega
      rw [e2, Nat.pow_zero, Nat.mul_one]
      have e3 : (-e).toNat + 63 = 52 + (11 - e).toNat := by omega
      rw [e3]
      exact h
    · have e2 : (-e).toNat = 0 := by omega
      have e3 : 0 + 63 = 52 + (11 - e).toNat + e.toNat := by omega
      rw [e2, e3, Nat.pow_add _ _ e.toNat]
      exact Nat.mul_lt_mul_of_pos_right h (Nat.two_pow_pos _)
theorem shift_cmpl {s : Bool} {m : Nat} {e : Int} (h : m <<< (e - min e 11).toNat ≤ 4503599627370496 <<< (11 - min e 11).toNat) : Ieee.Toward.zero.cut s (m <<< e.toNat) (-e).toNat ≤ 9223372036854775808 := by
  have hp : (9223372036854775808 : Nat) = 2 ^ 63 := by decide
  have h52 : (4503599627370496 : Nat) = 2 ^ 52 := by decide
  rw [hp]
  refine cut_le ?_
  rw [h52, Nat.shiftLeft_eq, Nat.shiftLeft_eq, ← Nat.pow_add] at h
  rw [Nat.shiftLeft_eq]
  by_cases h11 : 11 ≤ e
  · have e1 : min e 11 = 11 := by omega
    rw [e1] at h
    have e2 : (-e).toNat = 0 := by omega
    have e3 : e.toNat = (e - 11).toNat + 11 := by omega
    rw [e2, e3, Nat.pow_add, ← Nat.mul_assoc]
    have := Nat.mul_le_mul_right (2 ^ 11) h
    rw [← Nat.pow_add] at this
    simpa using this
  · have e1 : min e 11 = e := by omega
    rw [e1] at h
    have e0 : (e - e).toNat = 0 := by omega
    rw [e0, Nat.pow_zero, Nat.mul_one] at h
    by_cases hneg : e < 0
    · have e2 : e.toNat = 0 := by omega
      rw [e2, Nat.pow_zero, Nat.mul_one]
      have e3 : (-e).toNat + 63 = 52 + (11 - e).toNat := by omega
      rw [e3]
      exact h
    · have e2 : (-e).toNat = 0 := by omega
      have e3 : 0 + 63 = 52 + (11 - e).toNat + e.toNat := by omega
      rw [e2, e3, Nat.pow_add _ _ e.toNat]
      exact Nat.mul_le_mul_right _ h
theorem f2i_some {b : Nat} (hn : isN b = false) (h1 : fcmp .geq (FloatKind.f64.format.order b limW) = false) (h2 : fcmp .lss (FloatKind.f64.format.order b limN) = false) : ∃ n, floatToIntVal .f64 b .i64 = some n := by
  rw [← read_nan] at hn
  unfold floatToIntVal FloatKind.decode
  rw [f64_eq] at *
  unfold Ieee.Format.order at h1 h2
  rw [read_lim] at h1
  rw [read_limN] at h2
  generalize Ieee.double.read b = d at *
  cases d with
  | nan => simp [Ieee.Datum.isNaN] at hn
  | infinity s => cases s <;> simp [Ieee.Datum.order, fcmp] at h1 h2
  | number s m e =>
    simp only [Ieee.Datum.order, fcmp] at h1 h2
    simp only [Ieee.Datum.toInt, Ieee.Datum.integral]
    have hmin : IntKind.i64.min = -9223372036854775808 := rfl
    have hmax : IntKind.i64.max = 9223372036854775807 := rfl
    have hin : IntKind.i64.min ≤ Ieee.signed s (Ieee.Toward.zero.cut s (m <<< e.toNat) (-e).toNat) 0 ∧ Ieee.signed s (Ieee.Toward.zero.cut s (m <<< e.toNat) (-e).toNat) 0 ≤ IntKind.i64.max := by
      rw [hmin, hmax]
      cases s with
      | false =>
        have hlt : m <<< (e - min e 11).toNat < 4503599627370496 <<< (11 - min e 11).toNat := by
          rcases Nat.lt_or_ge (m <<< (e - min e 11).toNat) (4503599627370496 <<< (11 - min e 11).toNat) with h | h
          · exact h
          · exfalso
            have hc : compare (Ieee.signed false m (e - min e 11).toNat) (Ieee.signed false 4503599627370496 (11 - min e 11).toNat) ≠ .lt := by
              simp only [Ieee.signed, Bool.false_eq_true, if_false, ne_eq, Int.compare_eq_lt]
              omega
            revert h1 hc
            generalize compare (Ieee.signed false m (e - min e 11).toNat) (Ieee.signed false 4503599627370496 (11 - min e 11).toNat) = c
            cases c <;> simp
        have := shift_cmp (s := false) hlt
        simp only [Ieee.signed, Bool.false_eq_true, if_false, Nat.shiftLeft_zero]
        omega
      | true =>
        have hle : m <<< (e - min e 11).toNat ≤ 4503599627370496 <<< (11 - min e 11).toNat := by
          rcases Nat.lt_or_ge (4503599627370496 <<< (11 - min e 11).toNat) (m <<< (e - min e 11).toNat) with h | h
          · exfalso
            have hc : compare (Ieee.signed true m (e - min e 11).toNat) (Ieee.signed true 4503599627370496 (11 - min e 11).toNat) = .lt := by
              simp only [Ieee.signed, if_true, Int.compare_eq_lt]
              omega
            rw [hc] at h2
            simp at h2
          · exact h
        have := shift_cmpl (s := true) hle
        simp only [Ieee.signed, if_true, Nat.shiftLeft_zero]
        omega
    exact ⟨_, if_pos hin⟩
end Go.Proofs.YtllddgdmmfmpkaaGreatDoor.Alu
namespace Go.Proofs.YtllddgdmmfmpkaaGreatDoor.Alu
open Go
set_option maxRecDepth 10000
set_option maxHeartbeats 2000000
def toIntM (b : Nat) : Int :=
  if isN b then 0 else if fcmp .geq (FloatKind.f64.format.order b limW) then 9223372036854775807 else if fcmp .lss (FloatKind.f64.format.order b limN) then -9223372036854775808 else (floatToIntVal .f64 b .i64).getD 0
theorem sp_toint (W0 : World) (own : Own) (a : Nat) : Pure Tryz.prog W0 181 [.float .f64 a] own (.int .i64 (toIntM a)) := by
  have hA := fun own => sp_isnan W0 own a
  refine pure_of (spec_of mixed low_alu_toInt (by simp [ir_alu_toInt]) ?_)
  cases hn : isN a <;> rw [hn] at hA
  · cases h1 : fcmp .geq (FloatKind.f64.format.order a limW)
    · cases h2 : fcmp .lss (FloatKind.f64.format.order a limN)
      · obtain ⟨n, he⟩ := f2i_some hn h1 h2
        repeat' ((try (conv => whnf)); first | (refine br_f ?_) | (apply call_p (hA _)) | (refine fcmp_e _ h1 ?_) | (refine fcmp_e _ h2 ?_) | (refine f2i_e _ he ?_))
        all_goals (refine ⟨ret1 (vi ?_), by (repeat (first | exact Ent.refl | exact Ent.left | refine Ent.cons ?_ | refine Ent.app ?_))⟩; simp [toIntM, hn, h1, h2, he])
      · repeat' ((try (conv => whnf)); first | (refine br_t ?_) | (refine br_f ?_) | (apply call_p (hA _)) | (refine fcmp_e _ h1 ?_) | (refine fcmp_e _ h2 ?_))
        all_goals (refine ⟨ret1 (vi ?_), by (repeat (first | exact Ent.refl | exact Ent.left | refine Ent.cons ?_ | refine Ent.app ?_))⟩; simp [toIntM, hn, h1, h2])
    · repeat' ((try (conv => whnf)); first | (refine br_t ?_) | (refine br_f ?_) | (apply call_p (hA _)) | (refine fcmp_e _ h1 ?_))
      all_goals (refine ⟨ret1 (vi ?_), by (repeat (first | exact Ent.refl | exact Ent.left | refine Ent.cons ?_ | refine Ent.app ?_))⟩; simp [toIntM, hn, h1])
  · repeat' ((try (conv => whnf)); first | (refine br_t ?_) | (apply call_p (hA _)))
    all_goals (refine ⟨ret1 (vi ?_), by (repeat (first | exact Ent.refl | exact Ent.left | refine Ent.cons ?_ | refine Ent.app ?_))⟩; simp [toIntM, hn])
def applyW (fn x y : Int) : Int :=
  if 0 ≤ fn ∧ fn < 22 then
    if fn = 20 then (FloatKind.f64.nearest (IntKind.i64.wrap x) : Int) else if fn = 21 then IntKind.u64.wrap (toIntM x.toNat) else if 12 ≤ fn then floatsM fn x.toNat y.toNat else intsM fn x y
  else 0
def applyE (fn : Int) : Int := if 0 ≤ fn ∧ fn < 22 then 0 else 10
theorem sp_apply (W0 : World) (own : Own) (fn x y : Int) (hy : okW y) :
    Pure Tryz.prog W0 109 [.int .i64 fn, .int .u64 x, .int .u64 y] own (.tuple #[.int .u64 (applyW fn x y), .int .i64 (applyE fn)]) := by
  refine pure_of (spec_of mixed low_alu_Apply (by simp [ir_alu_Apply]) ?_)
  by_cases h : 0 ≤ fn ∧ fn < 22
  · by_cases h20 : fn = 20
    · subst h20
      repeat' ((try (conv => whnf)); first | (refine when_y ?_) | (refine br_t ?_) | (refine br_f ?_) | (refine arw ?_))
      all_goals (refine ⟨ret2 (vi ?_) (vi ?_), by (repeat (first | exact Ent.refl | exact Ent.left | refine Ent.cons ?_ | refine Ent.app ?_))⟩ <;> simp [applyW, applyE])
    · by_cases h21 : fn = 21
      · subst h21
        repeat' ((try (conv => whnf)); first | (refine when_y ?_) | (refine br_t ?_) | (refine br_f ?_) | (apply call_p (sp_toint _ _ _)) | (refine arw ?_))
        all_goals (refine ⟨ret2 (vi ?_) (vi ?_), by (repeat (first | exact Ent.refl | exact Ent.left | refine Ent.cons ?_ | refine Ent.app ?_))⟩ <;> simp [applyW, applyE])
      · by_cases h12 : 12 ≤ fn
        · repeat' ((try (conv => whnf)); first | (refine when_y ?_) | (refine br_py (by omega) ?_) | (refine br_pn (by omega) ?_) | (refine when_pn (by omega) ?_) | (apply call_p (sp_floats _ _ fn _ _ (by omega))))
          all_goals (refine ⟨ret2 (vi ?_) (vi ?_), by (repeat (first | exact Ent.refl | exact Ent.left | refine Ent.cons ?_ | refine Ent.app ?_))⟩ <;> simp [applyW, applyE, h, h20, h21, h12])
        · repeat' ((try (conv => whnf)); first | (refine when_y ?_) | (refine br_pn (by omega) ?_) | (refine when_pn (by omega) ?_) | (apply call_p (sp_ints _ _ fn _ _ (by omega) hy)))
          all_goals (refine ⟨ret2 (vi ?_) (vi ?_), by (repeat (first | exact Ent.refl | exact Ent.left | refine Ent.cons ?_ | refine Ent.app ?_))⟩ <;> simp [applyW, applyE, h, h20, h21, h12])
  · repeat' ((try (conv => whnf)); first | (refine when_y ?_) | (refine when_tf ?_) | (refine br_t ?_) | (refine br_py (by omega) ?_) | (refine when_df (fun hc => ?_) (fun hc => ?_)))
    all_goals first | (exfalso; omega) | (refine ⟨ret2 (vi ?_) (vi ?_), by (repeat (first | exact Ent.refl | exact Ent.left | refine Ent.cons ?_ | refine Ent.app ?_))⟩ <;> simp [applyW, applyE, h])
end Go.Proofs.YtllddgdmmfmpkaaGreatDoor.Alu
namespace Go.Proofs.YtllddgdmmfmpkaaGreatDoor
open Go
set_option maxRecDepth 10000
set_option maxHeartbeats 4000000
structure Ins where
  op : Int
  a : Int
  b : Int
  c : Int
  imm : Int
abbrev Ins.enc (i : Ins) : List Value := [.int .i64 i.op, .int .i64 i.a, .int .i64 i.b, .int .i64 i.c, .int .i64 i.imm]
abbrev Ins.v (i : Ins) : Value := .agg #[.int .i64 i.op, .int .i64 i.a, .int .i64 i.b, .int .i64 i.c, .int .i64 i.imm]
def has (s : ByteArray) (c : Int) : Bool := decide (0 ≤ ibsF s c)
theorem sp_ibyte (W0 : World) (own : Own) (s : ByteArray) (c : Int) : Pure Tryz.prog W0 215 [.string s, .int .u8 c] own (.int .i64 (ibsF s c)) := by
  refine pure_of (spec_of mixed low_internal_stringslite_IndexByte (by simp [ir_internal_stringslite_IndexByte]) ?_)
  repeat' ((try (conv => whnf)); first | (exact Ent.refl) | (refine And.intro rfl ?_))
  all_goals exact ⟨rfl, by (repeat (first | exact Ent.refl | exact Ent.left | refine Ent.cons ?_ | refine Ent.app ?_))⟩
theorem sidx0 {c : UInt8} {K : Value → Prop} (h : K (.int .u8 c.toNat)) : SixT ⟨#[c]⟩ 0 K := ⟨0, c, rfl, rfl, h⟩
theorem ibs_same (c : UInt8) : ibsF ⟨#[c]⟩ c.toNat = 0 := by
  unfold ibsF
  have e : ((c.toNat : Int).toNat.toUInt8) = c := by simp
  have h0 : ((⟨#[c]⟩ : ByteArray)[0]!) = c := rfl
  have hf : (List.range (⟨#[c]⟩ : ByteArray).size).find? (fun i => (⟨#[c]⟩ : ByteArray)[i]! == (c.toNat : Int).toNat.toUInt8) = some 0 := by
    show (List.range 1).find? _ = some 0
    simp only [List.range_succ, List.range_zero, List.nil_append, List.find?_cons, h0, e, beq_self_eq_true]
  rw [hf]
  rfl
theorem sp_sindex (W0 : World) (own : Own) (s : ByteArray) (c : UInt8) : Pure Tryz.prog W0 207 [.string s, .string ⟨#[c]⟩] own (.int .i64 (ibsF s c.toNat)) := by
  refine pure_of (spec_of mixed low_internal_stringslite_Index (by simp [ir_internal_stringslite_Index]) ?_)
  by_cases hs : (⟨#[c]⟩ : ByteArray).toList = s.toList
  · have e : s = ⟨#[c]⟩ := by
      rw [ByteArray.toList_eq, ByteArray.toList_eq] at hs
      have := Array.toList_inj.1 hs
      cases s
      simp at this
      rw [← this]
    subst e
    repeat' ((try (conv => whnf)); first | (refine br_py ?_ ?_; (solve | simp | (simp; omega))) | (refine when_y ?_))
    all_goals (refine ⟨ret1 (vi ?_), by (repeat (first | exact Ent.refl | exact Ent.left | refine Ent.cons ?_ | refine Ent.app ?_))⟩; first | rfl | exact (ibs_same c).symm)
  · repeat' ((try (conv => whnf)); first | (refine br_pn hs ?_) | (refine sidx0 ?_) | (apply call_p (sp_ibyte _ _ s c.toNat)) | (refine when_y ?_) | (refine br_t ?_) | (exact Ent.refl) | (refine And.intro rfl ?_))
    all_goals exact ⟨rfl, by (repeat (first | exact Ent.refl | exact Ent.left | refine Ent.cons ?_ | refine Ent.app ?_))⟩
theorem sp_index (W0 : World) (own : Own) (s : ByteArray) (c : UInt8) : Pure Tryz.prog W0 185 [.string s, .string ⟨#[c]⟩] own (.int .i64 (ibsF s c.toNat)) := by
  refine pure_of (spec_of mixed low_strings_Index (by simp [ir_strings_Index]) ?_)
  repeat' ((try (conv => whnf)); first | (apply call_p (sp_sindex _ _ s c)) | (exact Ent.refl) | (refine And.intro rfl ?_))
  all_goals exact ⟨rfl, by (repeat (first | exact Ent.refl | exact Ent.left | refine Ent.cons ?_ | refine Ent.app ?_))⟩
theorem sp_contains (W0 : World) (own : Own) (s : ByteArray) (c : UInt8) : Pure Tryz.prog W0 110 [.string s, .string ⟨#[c]⟩] own (.bool (has s c.toNat)) := by
  refine pure_of (spec_of mixed low_strings_Contains (by simp [ir_strings_Contains]) ?_)
  repeat' ((try (conv => whnf)); first | (apply call_p (sp_index _ _ s c)) | (exact Ent.refl) | (refine And.intro rfl ?_))
  all_goals exact ⟨rfl, by (repeat (first | exact Ent.refl | exact Ent.left | refine Ent.cons ?_ | refine Ent.app ?_))⟩
def useA (op : Int) : Bool := op == 1 || op == 2 || op == 3 || op == 5 || op == 6 || op == 10 || op == 11 || op == 12 || op == 13 || op == 14 || op == 15 || op == 17
def useB (op : Int) : Bool := op == 2 || op == 3 || op == 10 || op == 11 || op == 12 || op == 13
def useC (op : Int) : Bool := op == 3
def regOk (u : Bool) (r : Int) : Prop := if u then 0 ≤ r ∧ r < 8 else r = 0
instance (u : Bool) (r : Int) : Decidable (regOk u r) := by unfold regOk; infer_instance
def immOk (op imm : Int) : Prop :=
  if op = 1 ∨ op = 10 ∨ op = 11 ∨ op = 12 ∨ op = 13 then True else if op = 3 then 0 ≤ imm ∧ imm < 22 else if op = 4 ∨ op = 5 ∨ op = 6 then 0 ≤ imm ∧ imm ≤ 64 else if op = 7 then 1 ≤ imm ∧ imm ≤ 8 else if op = 14 then 0 ≤ imm ∧ imm < 4 else imm = 0
instance (op imm : Int) : Decidable (immOk op imm) := by unfold immOk; infer_instance
def icheck (i : Ins) : Int :=
  if i.op < 0 ∨ 18 ≤ i.op then 10 else if regOk (useA i.op) i.a ∧ regOk (useB i.op) i.b ∧ regOk (useC i.op) i.c then (if immOk i.op i.imm then 0 else 11) else 11
def formsV : List Value := [.string ⟨#[110, 111, 112]⟩, .string ⟨#[]⟩, .string ⟨#[99, 111, 110, 115, 116]⟩, .string ⟨#[65, 73]⟩, .string ⟨#[109, 111, 118, 101]⟩, .string ⟨#[65, 66]⟩, .string ⟨#[]⟩, .string ⟨#[65, 66, 67]⟩, .string ⟨#[106, 117, 109, 112]⟩, .string ⟨#[73]⟩,
  .string ⟨#[122, 101, 114, 111]⟩, .string ⟨#[65, 73]⟩, .string ⟨#[110, 111, 110, 122, 101, 114, 111]⟩, .string ⟨#[65, 73]⟩, .string ⟨#[98, 101, 103, 105, 110]⟩, .string ⟨#[73]⟩, .string ⟨#[99, 111, 109, 109, 105, 116]⟩, .string ⟨#[]⟩, .string ⟨#[97, 98, 111, 114, 116]⟩, .string ⟨#[]⟩,
  .string ⟨#[116, 114, 101, 97, 100]⟩, .string ⟨#[65, 66, 73]⟩, .string ⟨#[116, 119, 114, 105, 116, 101]⟩, .string ⟨#[65, 66, 73]⟩, .string ⟨#[112, 114, 101, 97, 100]⟩, .string ⟨#[65, 66, 73]⟩, .string ⟨#[112, 119, 114, 105, 116, 101]⟩, .string ⟨#[65, 66, 73]⟩,
  .string ⟨#[97, 108, 108, 111, 99]⟩, .string ⟨#[65, 73]⟩, .string ⟨#[102, 114, 101, 101]⟩, .string ⟨#[65]⟩, .string ⟨#[102, 101, 110, 99, 101]⟩, .string ⟨#[]⟩, .string ⟨#[111, 117, 116, 99, 111, 109, 101]⟩, .string ⟨#[65]⟩]
def FormsAt (W0 : World) : Prop := LaidAt W0 0 formsV
theorem ssc_k {s : ByteArray} {lo hi : Option Int} {K : Value → Prop} (l r : Nat) (t : ByteArray) (h1 : lo.getD 0 = l) (h2 : hi.getD s.size = r) (hlr : Nat.ble l r = true) (hrs : Nat.ble r s.size = true) (ht : s.extract l r = t) (h : K (.string t)) : SscT s lo hi K :=
  ⟨l, r, h1, h2, by simpa using hlr, by simpa using hrs, by rw [ht]; exact h⟩
theorem ex_abc0 : (⟨#[65, 66, 67]⟩ : ByteArray).extract 0 1 = ⟨#[65]⟩ := by decide +kernel
theorem ex_abc1 : (⟨#[65, 66, 67]⟩ : ByteArray).extract 1 2 = ⟨#[66]⟩ := by decide +kernel
theorem ex_abc2 : (⟨#[65, 66, 67]⟩ : ByteArray).extract 2 3 = ⟨#[67]⟩ := by decide +kernel
theorem q_cont {W0 : World} {own : Own} {s : ByteArray} {c : UInt8} {K : Value → Prop} (b : Bool) (hb : has s c.toNat = b) (h : K (.bool b)) : CallQ Tryz.prog W0 own 110 [.string s, .string ⟨#[c]⟩] K :=
  call_q (fun _ => sp_contains _ _ s c) (by rw [hb]; exact h)
theorem sp_number (W0 : World) (own : Own) (i : Ins) : Pure Tryz.prog W0 111 [i.v] own (.bool (decide (immOk i.op i.imm))) := by
  refine pure_of (spec_of mixed low_isa_number (by simp [ir_isa_number]) ?_)
  repeat' ((try (conv => whnf)); first | (refine when_y ?_) | (refine when_ft ?_) | (refine br_py (by omega) ?_) | (apply ld_own; (first | (solve | repeat (first | with_reducible exact List.mem_cons_self | (with_reducible (apply List.mem_append_left; exact List.mem_cons_self)) | with_reducible apply List.mem_cons_of_mem | with_reducible apply List.mem_append_right)) | (repeat (first | exact List.Mem.head _ | apply List.Mem.tail | apply List.mem_append_right))); exact rfl) | (refine new_i (fun bk hbk => ?_)) | (refine when_dt (fun hc => ?_) (fun hc => ?_)) | (refine br_d (fun hc => ?_) (fun hc => ?_)))
  all_goals (refine ⟨ret1 (vb ?_), by (repeat (first | exact Ent.refl | exact Ent.left | refine Ent.cons ?_ | refine Ent.app ?_))⟩)
  all_goals first | (refine dd ?_; unfold immOk; (repeat' split) <;> omega) | (refine dt ?_; unfold immOk; (repeat' split) <;> first | exact True.intro | omega) | (refine df ?_; unfold immOk; (repeat' split) <;> omega)
theorem sp_icheck0 (W0 : World) (own : Own) (hF : FormsAt W0) (op a b c imm : Int) (I : Bool) (hn : ∀ own, Pure Tryz.prog W0 111 [.agg #[.int .i64 op, .int .i64 a, .int .i64 b, .int .i64 c, .int .i64 imm]] own (.bool I)) :
    Pure Tryz.prog W0 61 [.agg #[.int .i64 op, .int .i64 a, .int .i64 b, .int .i64 c, .int .i64 imm]] own (.int .i64 (if op < 0 ∨ 18 ≤ op then 10 else if regOk (useA op) a ∧ regOk (useB op) b ∧ regOk (useC op) c then (if I then 0 else 11) else 11)) := by
  refine pure_of (spec_of mixed low_isa_Check (by simp [ir_isa_Check]) ?_)
  by_cases hop : op < 0 ∨ 18 ≤ op
  · rw [if_pos hop]
    repeat' ((try (conv => whnf)); first | (refine when_y ?_) | (refine when_tf ?_) | (refine br_t ?_) | (refine br_py (by omega) ?_) | (apply ld_own; (first | (solve | repeat (first | with_reducible exact List.mem_cons_self | (with_reducible (apply List.mem_append_left; exact List.mem_cons_self)) | with_reducible apply List.mem_cons_of_mem | with_reducible apply List.mem_append_right)) | (repeat (first | exact List.Mem.head _ | apply List.Mem.tail | apply List.mem_append_right))); exact rfl) | (refine new_i (fun bk hbk => ?_)) | (refine when_df (fun hc => ?_) (fun hc => ?_)) | (exact Ent.refl) | (refine Ent.cons ?_) | (refine And.intro rfl ?_))
    all_goals first | exact ⟨rfl, by (repeat (first | exact Ent.refl | exact Ent.left | refine Ent.cons ?_ | refine Ent.app ?_))⟩ | (exfalso; omega)
  · rw [if_neg hop]
    have hw : op = 0 ∨ op = 1 ∨ op = 2 ∨ op = 3 ∨ op = 4 ∨ op = 5 ∨ op = 6 ∨ op = 7 ∨ op = 8 ∨ op = 9 ∨ op = 10 ∨ op = 11 ∨ op = 12 ∨ op = 13 ∨ op = 14 ∨ op = 15 ∨ op = 16 ∨ op = 17 := by omega
    cases I <;> rcases hw with rfl | rfl | rfl | rfl | rfl | rfl | rfl | rfl | rfl | rfl | rfl | rfl | rfl | rfl | rfl | rfl | rfl | rfl
    all_goals
      repeat' ((try (conv => whnf)); first | (refine when_y ?_) | (refine when_ft ?_) | (refine when_tf ?_) | (refine br_t ?_) | (refine br_f ?_) | (refine loop_r 4 ?_) | (refine ld_laid hF _ rfl ?_) | (refine ssc_k 0 1 _ rfl rfl rfl rfl ex_abc0 ?_) | (refine ssc_k 1 2 _ rfl rfl rfl rfl ex_abc1 ?_) | (refine ssc_k 2 3 _ rfl rfl rfl rfl ex_abc2 ?_) | (refine q_cont true rfl ?_) | (refine q_cont false rfl ?_) | (apply call_p (hn _)) | (refine ari ?_ ?_; omega) | (apply sel; exact rfl) | (refine ix0 rfl ?_) | (refine ix1 rfl ?_) | (refine ix2 rfl ?_) | (refine ix3 rfl ?_) | (refine ix4 rfl ?_) | (refine ixn ?_ ?_; omega) | (apply ld_own; (first | (solve | repeat (first | with_reducible exact List.mem_cons_self | (with_reducible (apply List.mem_append_left; exact List.mem_cons_self)) | with_reducible apply List.mem_cons_of_mem | with_reducible apply List.mem_append_right)) | (repeat (first | exact List.Mem.head _ | apply List.Mem.tail | apply List.mem_append_right))); exact rfl) | (apply ldN_all; (first | (solve | repeat (first | with_reducible exact List.mem_cons_self | (with_reducible (apply List.mem_append_left; exact List.mem_cons_self)) | with_reducible apply List.mem_cons_of_mem | with_reducible apply List.mem_append_right)) | (repeat (first | exact List.Mem.head _ | apply List.Mem.tail | apply List.mem_append_right))); exact rfl) | (refine new_i (fun bk hbk => ?_)) | (refine when_df (fun hc => ?_) (fun hc => ?_)) | (refine br_d (fun hc => ?_) (fun hc => ?_)))
      all_goals (refine ⟨ret1 (vi ?_), by (repeat (first | exact Ent.refl | exact Ent.left | refine Ent.cons ?_ | refine Ent.app ?_))⟩; simp [regOk, useA, useB, useC]; try omega)
end Go.Proofs.YtllddgdmmfmpkaaGreatDoor
namespace Go.Proofs.YtllddgdmmfmpkaaGreatDoor
open Go
set_option maxRecDepth 10000
set_option maxHeartbeats 4000000
theorem sp_icheck (W0 : World) (own : Own) (hF : FormsAt W0) (i : Ins) : Pure Tryz.prog W0 61 [i.v] own (.int .i64 (icheck i)) := by
  have h := sp_icheck0 W0 own hF i.op i.a i.b i.c i.imm _ (fun own => sp_number W0 own i)
  simp only [decide_eq_true_eq] at h
  exact h
def iplace (i : Ins) : Int :=
  if icheck i = 0 then (if i.op = 8 ∨ i.op = 9 ∨ i.op = 10 ∨ i.op = 11 ∨ i.op = 14 ∨ i.op = 15 then 1 else if i.op = 7 ∨ i.op = 12 ∨ i.op = 13 ∨ i.op = 16 ∨ i.op = 17 then 2 else 0) else 0
def iskips (i : Ins) : Bool := decide (icheck i = 0 ∧ (i.op = 4 ∨ i.op = 5 ∨ i.op = 6))
def iskip (i : Ins) : Int := if iskips i then i.imm else 0
theorem sp_iplace (W0 : World) (own : Own) (hF : FormsAt W0) (i : Ins) : Pure Tryz.prog W0 62 [i.v] own (.int .i64 (iplace i)) := by
  refine pure_of (spec_of mixed low_isa_Place (by simp [ir_isa_Place]) ?_)
  have hc := fun own => sp_icheck W0 own hF i
  unfold iplace
  generalize icheck i = z at *
  repeat' ((try (conv => whnf)); first | (refine br_py (by omega) ?_) | (apply call_p (hc _)) | (apply ld_own; (first | (solve | repeat (first | with_reducible exact List.mem_cons_self | (with_reducible (apply List.mem_append_left; exact List.mem_cons_self)) | with_reducible apply List.mem_cons_of_mem | with_reducible apply List.mem_append_right)) | (repeat (first | exact List.Mem.head _ | apply List.Mem.tail | apply List.mem_append_right))); exact rfl) | (apply ldN_all; (first | (solve | repeat (first | with_reducible exact List.mem_cons_self | (with_reducible (apply List.mem_append_left; exact List.mem_cons_self)) | with_reducible apply List.mem_cons_of_mem | with_reducible apply List.mem_append_right)) | (repeat (first | exact List.Mem.head _ | apply List.Mem.tail | apply List.mem_append_right))); exact rfl) | (refine new_i (fun bk hbk => ?_)) | (refine br_d (fun hc => ?_) (fun hc => ?_)))
  all_goals (refine ⟨ret1 (vi ?_), by (repeat (first | exact Ent.refl | exact Ent.left | refine Ent.cons ?_ | refine Ent.app ?_))⟩; (repeat' split) <;> first | rfl | omega)
theorem sp_iskips (W0 : World) (own : Own) (hF : FormsAt W0) (i : Ins) : Pure Tryz.prog W0 112 [i.v] own (.tuple #[.int .i64 (iskip i), .bool (iskips i)]) := by
  refine pure_of (spec_of mixed low_isa_Skips (by simp [ir_isa_Skips]) ?_)
  have hc := fun own => sp_icheck W0 own hF i
  unfold iskip iskips
  generalize icheck i = z at *
  repeat' ((try (conv => whnf)); first | (refine br_py (by omega) ?_) | (apply call_p (hc _)) | (apply ld_own; (first | (solve | repeat (first | with_reducible exact List.mem_cons_self | (with_reducible (apply List.mem_append_left; exact List.mem_cons_self)) | with_reducible apply List.mem_cons_of_mem | with_reducible apply List.mem_append_right)) | (repeat (first | exact List.Mem.head _ | apply List.Mem.tail | apply List.mem_append_right))); exact rfl) | (apply ldN_all; (first | (solve | repeat (first | with_reducible exact List.mem_cons_self | (with_reducible (apply List.mem_append_left; exact List.mem_cons_self)) | with_reducible apply List.mem_cons_of_mem | with_reducible apply List.mem_append_right)) | (repeat (first | exact List.Mem.head _ | apply List.Mem.tail | apply List.mem_append_right))); exact rfl) | (refine new_i (fun bk hbk => ?_)) | (refine br_d (fun hc => ?_) (fun hc => ?_)))
  all_goals (refine ⟨ret2 (vi ?_) (vb ?_), by (repeat (first | exact Ent.refl | exact Ent.left | refine Ent.cons ?_ | refine Ent.app ?_))⟩)
  all_goals first | rfl | (simp; done) | (simp [*]; done) | (simp; omega) | (symm; simp; omega)
end Go.Proofs.YtllddgdmmfmpkaaGreatDoor
namespace Go.Proofs.YtllddgdmmfmpkaaGreatDoor
open Go Go.RowKit
set_option maxRecDepth 10000
def endL : List Ins → Nat → Nat
  | [], k => k
  | x :: l, k => if x.op = 8 then k else endL l (k + 1)
def endM (p : List Ins) (b : Nat) : Nat := endL (p.drop (b + 1)) (b + 1)
def intoL (len : Nat) : List Ins → Nat → Nat → Bool
  | [], _, _ => false
  | x :: l, j, t => decide (j < t ∧ x.op = 7 ∧ t ≤ endL l (j + 1) ∧ t + 1 ≤ len) || intoL len l (j + 1) t
def spanL (len t : Nat) : List Ins → Nat → Int → Int × Int
  | [], _, b => if 0 ≤ b ∧ b ≤ t ∧ t < len then (b, len) else (-1, -1)
  | x :: l, k, b => if b < 0 ∧ x.op = 7 then spanL len t l (k + 1) k else if 0 ≤ b ∧ x.op = 8 then (if b ≤ t ∧ t ≤ k then (b, k) else spanL len t l (k + 1) (-1)) else spanL len t l (k + 1) b
def span (p : List Ins) (t : Nat) : Int × Int := spanL p.length t p 0 (-1)
def targetM (p : List Ins) (k : Nat) (b : Int) (x : Ins) : Int :=
  if iskips x then (if (p.length : Int) < k + 1 + x.imm then 42 else if 0 ≤ b then (if (endM p b.toNat : Int) < k + 1 + x.imm then 42 else 0) else (if intoL p.length (p.drop (k + 1)) (k + 1) (k + 1 + x.imm.toNat) then 42 else 0)) else 0
def reachesM (p : List Ins) (k t : Nat) : Bool :=
  if p.length < t then false else if 0 ≤ (span p k).1 then decide ((t : Int) ≤ (span p k).2) else decide ((span p t).1 < 0 ∨ (span p t).1 = t)
def rtargetM (p : List Ins) (k : Nat) (x : Ins) : Int := if iskips x then (if reachesM p k (k + 1 + x.imm.toNat) then 0 else 42) else 0
def oneX (tgt : Int) (b : Int) (x : Ins) : Int :=
  if icheck x ≠ 0 then icheck x else if (x.op = 7 ∧ 0 ≤ b) ∨ (x.op = 8 ∧ b < 0) then 40 else if (iplace x = 1 ∧ b < 0) ∨ (iplace x = 2 ∧ 0 ≤ b) then 41 else tgt
def nextB (x : Ins) (k : Nat) (b : Int) : Int := if x.op = 7 then k else if x.op = 8 then -1 else b
def checkG (tgt : Nat → Int → Ins → Int) : List Ins → Nat → Int → Int × Int
  | [], _, b => if 0 ≤ b then (b, 43) else (0, 0)
  | x :: l, k, b => if oneX (tgt k b x) b x ≠ 0 then (k, oneX (tgt k b x) b x) else checkG tgt l (k + 1) (nextB x k b)
def checkP (p : List Ins) : Int × Int := if 64 < p.length then (0, 3) else checkG (targetM p) p 0 (-1)
theorem endL_ge : ∀ (l : List Ins) (k : Nat), k ≤ endL l k ∧ endL l k ≤ k + l.length
  | [], k => by simp [endL]
  | x :: l, k => by
    unfold endL
    have := endL_ge l (k + 1)
    simp only [List.length_cons]
    split <;> omega
theorem intoL_le (len : Nat) : ∀ (l : List Ins) (j t : Nat), t ≤ j → intoL len l j t = false
  | [], _, _, _ => rfl
  | x :: l, j, t, h => by
    unfold intoL
    rw [intoL_le len l (j + 1) t (by omega), Bool.or_false, decide_eq_false_iff_not]
    omega
theorem spanL_low (len t : Nat) : ∀ (l : List Ins) (j : Nat) (b : Int), (b < 0 ∧ t < j) ∨ ((t : Int) < b ∧ t < j) → (spanL len t l j b).1 < 0
  | [], j, b, h => by
    unfold spanL
    rw [if_neg (by omega)]
    decide
  | x :: l, j, b, h => by
    unfold spanL
    split
    · exact spanL_low len t l (j + 1) j (.inr ⟨by omega, by omega⟩)
    · split
      · rw [if_neg (by omega)]
        exact spanL_low len t l (j + 1) (-1) (.inl ⟨by omega, by omega⟩)
      · exact spanL_low len t l (j + 1) b (by omega)
theorem spanL_at (len t : Nat) : ∀ (l : List Ins) (j : Nat), t < j → len = j + l.length → spanL len t l j t = ((t : Int), (endL l j : Int))
  | [], j, h, hl => by
    simp only [List.length_nil, Nat.add_zero] at hl
    unfold spanL endL
    rw [if_pos (by omega), hl]
  | x :: l, j, h, hl => by
    simp only [List.length_cons] at hl
    unfold spanL endL
    rw [if_neg (by omega)]
    split
    · rename_i h8
      rw [if_pos (by omega), if_pos h8.2]
    · rename_i h8
      rw [if_neg (by omega)]
      exact spanL_at len t l (j + 1) (by omega) (by omega)
theorem spanL_in (len t : Nat) : ∀ (l : List Ins) (j : Nat) (b : Int), 0 ≤ b → b ≤ t → t < j → len = j + l.length → spanL len t l j b = (b, (endL l j : Int))
  | [], j, b, h0, h1, h, hl => by
    simp only [List.length_nil, Nat.add_zero] at hl
    unfold spanL endL
    rw [if_pos (by omega), hl]
  | x :: l, j, b, h0, h1, h, hl => by
    simp only [List.length_cons] at hl
    unfold spanL endL
    rw [if_neg (by omega)]
    split
    · rename_i h8
      rw [if_pos (by omega), if_pos h8.2]
    · rename_i h8
      rw [if_neg (by omega)]
      exact spanL_in len t l (j + 1) b h0 h1 (by omega) (by omega)
mutual
theorem span_out (len t : Nat) : ∀ (l : List Ins) (j : Nat), len = j + l.length → t ≤ len → (((spanL len t l j (-1)).1 < 0 ∨ (spanL len t l j (-1)).1 = t) ↔ intoL len l j t = false)
  | [], j, _, _ => by
    unfold spanL intoL
    simp
  | x :: l, j, hl, ht => by
    simp only [List.length_cons] at hl
    unfold spanL intoL
    by_cases h7 : x.op = 7
    · rw [if_pos ⟨by omega, h7⟩]
      by_cases hjt : j < t
      · rw [span_open len t l (j + 1) j hjt (by omega) ht]
        rw [Bool.or_eq_false_iff, decide_eq_false_iff_not]
        constructor
        · intro h; exact ⟨by omega, h.2⟩
        · intro h; exact ⟨by omega, h.2⟩
      · rw [intoL_le len l (j + 1) t (by omega)]
        by_cases hjt2 : j = t
        · subst hjt2
          rw [spanL_at len j l (j + 1) (by omega) (by omega)]
          simp
        · have := spanL_low len t l (j + 1) j (.inr ⟨by omega, by omega⟩)
          simp [this]; omega
    · rw [if_neg (by omega), if_neg (by omega), span_out len t l (j + 1) (by omega) ht]
      simp [h7]
theorem span_open (len t : Nat) : ∀ (l : List Ins) (j : Nat) (b : Nat), b < t → len = j + l.length → t ≤ len → (((spanL len t l j b).1 < 0 ∨ (spanL len t l j b).1 = t) ↔ (¬(t ≤ endL l j ∧ t + 1 ≤ len) ∧ intoL len l j t = false))
  | [], j, b, hb, hl, ht => by
    simp only [List.length_nil, Nat.add_zero] at hl
    unfold spanL intoL endL
    by_cases h : t < len
    · rw [if_pos (by omega)]
      simp; omega
    · rw [if_neg (by omega)]
      simp; omega
  | x :: l, j, b, hb, hl, ht => by
    simp only [List.length_cons] at hl
    rw [spanL, intoL, show endL (x :: l) j = (if x.op = 8 then j else endL l (j + 1)) from rfl]
    rw [if_neg (by omega)]
    by_cases h8 : x.op = 8
    · rw [if_pos ⟨by omega, h8⟩, if_pos h8]
      by_cases htj : t ≤ j
      · rw [if_pos ⟨by omega, by omega⟩]
        simp; omega
      · rw [if_neg (by omega), span_out len t l (j + 1) (by omega) ht]
        have h7 : ¬ x.op = 7 := by omega
        simp [h7]; omega
    · rw [if_neg (by omega), if_neg h8, span_open len t l (j + 1) b hb (by omega) ht]
      rw [Bool.or_eq_false_iff, decide_eq_false_iff_not]
      constructor
      · intro h; exact ⟨h.1, by omega, h.2⟩
      · intro h; exact ⟨h.1, h.2.2⟩
end
structure PInv (p : List Ins) (k : Nat) (b : Int) : Prop where
  sp : ∀ t, k ≤ t → span p t = spanL p.length t (p.drop k) k b
  bb : b = -1 ∨ (0 ≤ b ∧ b < k ∧ endM p b.toNat = endL (p.drop k) k)
theorem PInv.start (p : List Ins) : PInv p 0 (-1) := ⟨fun _ _ => rfl, .inl rfl⟩
theorem drop_at {p : List Ins} {k : Nat} {x : Ins} (hx : p[k]? = some x) : p.drop k = x :: p.drop (k + 1) := by
  obtain ⟨hk, he⟩ := List.getElem?_eq_some_iff.1 hx
  rw [List.drop_eq_getElem_cons hk, he]
theorem PInv.step {p : List Ins} {k : Nat} {b : Int} {x : Ins} (h : PInv p k b) (hx : p[k]? = some x) (h7 : x.op = 7 → b < 0) (h8 : x.op = 8 → 0 ≤ b) : PInv p (k + 1) (nextB x k b) := by
  have hd := drop_at hx
  refine ⟨fun t ht => ?_, ?_⟩
  · rw [h.sp t (by omega), hd, spanL]
    unfold nextB
    by_cases e7 : x.op = 7
    · rw [if_pos ⟨h7 e7, e7⟩, if_pos e7]
    · by_cases e8 : x.op = 8
      · rw [if_neg (by omega), if_pos ⟨h8 e8, e8⟩, if_neg (by omega), if_neg e7, if_pos e8]
      · rw [if_neg (by omega), if_neg (by omega), if_neg e7, if_neg e8]
  · unfold nextB
    by_cases e7 : x.op = 7
    · rw [if_pos e7]
      refine .inr ⟨by omega, by omega, ?_⟩
      simp [endM]
    · by_cases e8 : x.op = 8
      · rw [if_neg e7, if_pos e8]; exact .inl rfl
      · rw [if_neg e7, if_neg e8]
        rcases h.bb with hb | ⟨h0, h1, h2⟩
        · exact .inl hb
        · refine .inr ⟨h0, by omega, ?_⟩
          rw [h2, hd, endL, if_neg e8]
theorem skips_op {x : Ins} (h : iskips x = true) : (x.op = 4 ∨ x.op = 5 ∨ x.op = 6) ∧ 0 ≤ x.imm ∧ x.imm ≤ 64 := by
  unfold iskips at h
  simp only [decide_eq_true_eq] at h
  refine ⟨h.2, ?_⟩
  have hc := h.1
  unfold icheck at hc
  split at hc
  · omega
  · split at hc
    · split at hc
      · rename_i hi
        unfold immOk at hi
        rw [if_neg (by omega), if_neg (by omega), if_pos (by omega)] at hi
        exact hi
      · omega
    · omega
theorem PInv.target {p : List Ins} {k : Nat} {b : Int} {x : Ins} (h : PInv p k b) (hx : p[k]? = some x) : targetM p k b x = rtargetM p k x := by
  unfold targetM rtargetM
  by_cases hs : iskips x = true
  · obtain ⟨hop, hi0, hi1⟩ := skips_op hs
    rw [if_pos hs, if_pos hs]
    obtain ⟨t, ht⟩ : ∃ t : Nat, (t : Int) = k + 1 + x.imm := ⟨k + 1 + x.imm.toNat, by omega⟩
    have ht' : k + 1 + x.imm.toNat = t := by omega
    rw [ht', ← ht]
    have hk := (List.getElem?_eq_some_iff.1 hx).1
    have hd := drop_at hx
    have hlen : p.length = k + 1 + (p.drop (k + 1)).length := by rw [List.length_drop]; omega
    by_cases hlt : p.length < t
    · have hr : reachesM p k t = false := by unfold reachesM; rw [if_pos hlt]
      rw [hr, if_pos (by omega)]; rfl
    · rw [if_neg (show ¬ (p.length : Int) < t by omega)]
      have s1 := h.sp k (Nat.le_refl _)
      rw [hd, spanL, if_neg (by omega), if_neg (by omega)] at s1
      have s2 := h.sp t (by omega)
      rw [hd, spanL, if_neg (by omega), if_neg (by omega)] at s2
      rcases h.bb with hb | ⟨h0, h1, h2⟩
      · subst hb
        have hl := spanL_low p.length k (p.drop (k + 1)) (k + 1) (-1) (.inl ⟨by omega, by omega⟩)
        rw [← s1] at hl
        have ho := span_out p.length t (p.drop (k + 1)) (k + 1) hlen (by omega)
        rw [← s2] at ho
        have hr : reachesM p k t = !intoL p.length (p.drop (k + 1)) (k + 1) t := by
          unfold reachesM
          rw [if_neg hlt, if_neg (show ¬ 0 ≤ (span p k).1 by omega)]
          cases hin : intoL p.length (p.drop (k + 1)) (k + 1) t with
          | true => rw [hin] at ho; rw [decide_eq_false (by rw [ho]; simp)]; rfl
          | false => rw [hin] at ho; rw [decide_eq_true (ho.2 rfl)]; rfl
        rw [hr, if_neg (by omega)]
        cases intoL p.length (p.drop (k + 1)) (k + 1) t <;> rfl
      · have hin := spanL_in p.length k (p.drop (k + 1)) (k + 1) b h0 (by omega) (by omega) hlen
        rw [hin] at s1
        have hr : reachesM p k t = decide ((t : Int) ≤ (endL (p.drop (k + 1)) (k + 1) : Nat)) := by
          unfold reachesM
          rw [if_neg hlt, s1, if_pos h0]
        have he : endL (p.drop k) k = endL (p.drop (k + 1)) (k + 1) := by rw [hd, endL, if_neg (by omega)]
        rw [hr, if_pos h0, h2, he]
        by_cases hle : (t : Int) ≤ (endL (p.drop (k + 1)) (k + 1) : Nat)
        · rw [if_neg (by omega), decide_eq_true hle]; rfl
        · rw [if_pos (by omega), decide_eq_false hle]; rfl
  · rw [if_neg hs, if_neg hs]
end Go.Proofs.YtllddgdmmfmpkaaGreatDoor
