/- What the laws share, part 13. No condition. -/
import Derived.LaidMore
import Derived.Lay
import Derived.LaidByTextLater
import Derived.Stop.Joined
import Derived.SevenTiedAt
import Derived.Test.YtfompmhncnkcfaaGreatDoorW12
namespace Go.Proofs.YtfompmhncnkcfaaGreatDoor
open Go Go.ChangeShapes Go.WideShapes Go.ChangeAt Go.RowKit
def litCells {H : Type} : Nat → DataW H → Option (List Value)
  | 0, _ => none
  | _ + 1, .lit (.int k n) => some [.int k n]
  | _ + 1, .lit (.bool b) => some [.bool b]
  | _ + 1, .lit (.string l) => some [.string ⟨l.toArray⟩]
  | n + 1, .agg ds => (ds.mapM (litCells n)).map List.flatten
  | _ + 1, _ => none
def tile (P : Program) (f : TypeId → Bool) : List Field → Nat → Option Nat
  | [], off => some off
  | x :: r, off => if x.offset = off ∧ f x.type = true then tile P f r (off + P.cellsOf x.type) else none
def flatT (P : Program) : Nat → TypeId → Bool
  | 0, _ => false
  | n + 1, t => match P.underlying t with
    | some (.int _) | some .bool | some .string => true
    | some (.array k e) => flatT P n e && decide (P.cellsOf t = k * P.cellsOf e)
    | some (.struct fs) => tile P (flatT P n) fs.toList 0 == some (P.cellsOf t)
    | _ => false
theorem mapM_all {α β : Type} {f : α → Option β} : ∀ (l : List α) (ys : List β), l.length = ys.length → (∀ (i : Nat) x, l[i]? = some x → f x = ys[i]?) → l.mapM f = some ys
  | [], [], _, _ => by simp
  | x :: l, y :: ys, hl, h => by
    have h0 := h 0 x rfl
    simp only [List.getElem?_cons_zero] at h0
    have ih := mapM_all l ys (by simpa using hl) (fun i x hx => by have := h (i + 1) x (by simpa using hx); simpa using this)
    rw [List.mapM_cons, h0, ih]
    rfl
  | [], _ :: _, hl, _ => by cases hl
  | _ :: _, [], hl, _ => by cases hl
theorem chunks_flat {cs : List Value} (s : Nat) : ∀ k, ((List.range k).map fun i => (cs.drop (i * s)).take s).flatten = cs.take (k * s)
  | 0 => by simp
  | k + 1 => by
    rw [List.range_succ, List.map_append, List.flatten_append, chunks_flat s k, Nat.succ_mul, List.take_add]
    simp
theorem tile_flat {P : Program} {f : TypeId → Bool} {cs : List Value} : ∀ (l : List Field) (off tot : Nat), tile P f l off = some tot → off ≤ tot ∧ (l.map fun x => (cs.drop x.offset).take (P.cellsOf x.type)).flatten = (cs.drop off).take (tot - off)
  | [], off, tot, h => by
    simp only [tile, Option.some.injEq] at h
    subst h
    simp
  | x :: l, off, tot, h => by
    unfold tile at h
    split at h
    · rename_i hx
      obtain ⟨h1, h2⟩ := tile_flat (cs := cs) l _ tot h
      refine ⟨by omega, ?_⟩
      rw [List.map_cons, List.flatten_cons, h2, hx.1]
      have e : tot - off = P.cellsOf x.type + (tot - (off + P.cellsOf x.type)) := by omega
      rw [e, List.take_add, List.drop_drop]
    · cases h
theorem tile_all {P : Program} {f : TypeId → Bool} : ∀ (l : List Field) (off tot : Nat), tile P f l off = some tot → ∀ x ∈ l, f x.type = true
  | [], _, _, _, x, hx => by cases hx
  | y :: l, off, tot, h, x, hx => by
    unfold tile at h
    split at h
    · rename_i hy
      rcases List.mem_cons.1 hx with rfl | hx
      · exact hy.2
      · exact tile_all l _ _ h x hx
    · cases h
section
variable {H : Type} {enc : TypeId × Value → H} {P : Program} {w : World} {base : Nat} {spare : Nat → Bool} {held : Bool}
theorem trod_flat : ∀ (n fuel : Nat) (t : TypeId) (cs : List Value) (d : DataW H) (p : List MemPlace), flatT P n t = true → DataW.trod enc P w base spare held fuel t cs = some (d, p) → litCells n d = some cs
  | 0, _, _, _, _, _, h, _ => by simp [flatT] at h
  | n + 1, fuel, t, cs, d, p, h, hd => by
    unfold flatT at h
    split at h
    · rename_i hu
      obtain ⟨m, rfl, hx, _⟩ := DataW.trod_int hu hd
      simp only [Prod.mk.injEq] at hx
      rw [hx.1]; rfl
    · rename_i hu
      obtain ⟨m, rfl, hx⟩ := DataW.trod_bool hu hd
      simp only [Prod.mk.injEq] at hx
      rw [hx.1]; rfl
    · rename_i hu
      obtain ⟨m, rfl, hx, _⟩ := DataW.trod_string hu hd
      simp only [Prod.mk.injEq] at hx
      rw [hx.1]; simp [litCells]
    · rename_i k e hu
      simp only [Bool.and_eq_true, decide_eq_true_eq] at h
      obtain ⟨xs, m, _, hx, hl, hxl, hel⟩ := DataW.trod_array hu hd
      simp only [Prod.mk.injEq] at hx
      rw [hx.1]
      have hm : (xs.map (·.1)).mapM (litCells n) = some ((List.range k).map fun i => (cs.drop (i * P.cellsOf e)).take (P.cellsOf e)) := by
        refine mapM_all _ _ (by simp [hxl]) fun i x hx => ?_
        rw [List.getElem?_map] at hx
        obtain ⟨y, hy, rfl⟩ := Option.map_eq_some_iff.1 hx
        have hi : i < k := by rw [← hxl]; exact (List.getElem?_eq_some_iff.1 hy).1
        have := hel i hi
        rw [hy] at this
        rw [trod_flat n m e _ y.1 y.2 h.1 this]
        simp [hi]
      simp only [litCells, hm, Option.map_some]
      rw [chunks_flat, ← h.2, ← hl, List.take_length]
    · rename_i fs hu
      simp only [beq_iff_eq] at h
      obtain ⟨xs, m, _, hx, hl, hxl, hel⟩ := DataW.trod_struct hu hd
      simp only [Prod.mk.injEq] at hx
      rw [hx.1]
      have hm : (xs.map (·.1)).mapM (litCells n) = some (fs.toList.map fun x => (cs.drop x.offset).take (P.cellsOf x.type)) := by
        refine mapM_all _ _ (by simp [hxl]) fun i x hx => ?_
        rw [List.getElem?_map] at hx
        obtain ⟨y, hy, rfl⟩ := Option.map_eq_some_iff.1 hx
        have hi : i < fs.size := by rw [← hxl]; exact (List.getElem?_eq_some_iff.1 hy).1
        have hf : fs[i]? = some fs[i] := Array.getElem?_eq_getElem hi
        have := hel i fs[i] hf
        rw [hy] at this
        have hft := tile_all fs.toList 0 _ h fs[i] (by simp)
        rw [trod_flat n m _ _ y.1 y.2 hft this]
        simp [hi]
      simp only [litCells, hm, Option.map_some]
      rw [(tile_flat (cs := cs) fs.toList 0 _ h).2]
      simp [← hl]
    · cases h
end
structure LaidAt (W0 : World) (g : Nat) (cs : List Value) : Prop where
  size : g < W0.heap.size
  cell : ∀ j v, cs[j]? = some v → W0.cell? ⟨g, j, none⟩ = some v
theorem LaidAt.st {W0 w : World} {own : Own} {g : Nat} {cs : List Value} (h : LaidAt W0 g cs) (hw : St W0 own w) : LaidAt w g cs :=
  ⟨Nat.lt_of_lt_of_le h.size hw.size, fun j v hv => (World.cell?_of_block (w := W0) (hw.base g h.size)).trans (h.cell j v hv)⟩
theorem LaidAt.kn {W0 : World} {own : Own} {g : Nat} {cs : List Value} (h : LaidAt W0 g cs) {j : Nat} {v : Value} (hv : cs[j]? = some v) : Kn W0 own (fun w => w.cell? ⟨g, j, none⟩ = some v) := fun _ hw => (h.st hw).cell j v hv
theorem ld_laid {W0 : World} {own : Own} {g : Nat} {cs : List Value} (h : LaidAt W0 g cs) {j : Nat} {K : Value → Prop} (v : Value) (hv : cs[j]? = some v) (hk : K v) : Ld W0 own ⟨g, j, none⟩ K := ⟨v, h.kn hv, hk⟩
theorem laid_all {P : Program} {w : World} : ∀ {l : List (String × DataW Unit)} {ps : List MemPlace}, DataW.LaidVars P w l ps → ∀ {n : String} {d : DataW Unit}, (n, d) ∈ l →
    ∃ g t cs fuel p, P.globalNamed n = some g ∧ (P.globals[g]?).map (·.type) = some t ∧ w.var? P n = some cs ∧ DataW.trod (fun _ => ()) P w 0 (fun _ => true) false fuel t cs.toList = some (d, p)
  | [], _, _, _, _, h => by cases h
  | (n', d') :: r, ps, hL, n, d, h => by
    obtain ⟨g, t, cs, fuel, p, q, h1, h2, h3, h4, h5, _⟩ := hL
    rcases List.mem_cons.1 h with e | h
    · cases e
      exact ⟨g, t, cs, fuel, p, h1, h2, h3, h4⟩
    · exact laid_all h5 h
theorem laid_at {P : Program} {w : World} {l : List (String × DataW Unit)} {n : String} {d : DataW Unit} {g : Nat} {t : TypeId} {cs : List Value} (hp : (l.all fun x => x.2.handleName?.isNone) = true)
    (h : laidMetH P l w) (hm : (n, d) ∈ l) (hg : P.globalNamed n = some g) (ht : (P.globals[g]?).map (·.type) = some t) (hf : flatT P 6 t = true) (hc : litCells 6 d = some cs) (hne : cs ≠ []) : LaidAt w g cs := by
  rw [MakeChecks.laidMetH_plain _ _ _ hp] at h
  obtain ⟨ps, hL, _, _⟩ := h
  obtain ⟨g', t', cs', fuel, p, h1, h2, h3, h4⟩ := laid_all hL hm
  rw [hg] at h1
  obtain rfl := Option.some.inj h1
  rw [ht] at h2
  obtain rfl := Option.some.inj h2
  have h5 := trod_flat 6 fuel t _ d p hf h4
  rw [hc] at h5
  have h5 := (Option.some.inj h5).symm
  have hcell : ∀ j v, cs[j]? = some v → w.cell? ⟨g, j, none⟩ = some v := fun j v hv => by
    rw [World.var?_cell hg h3 j, ← Array.getElem?_toList, h5, hv]
  refine ⟨?_, hcell⟩
  match cs, hne with
  | v :: _, _ =>
    have := hcell 0 v rfl
    unfold World.cell? at this
    split at this
    · rename_i hb
      exact (Array.getElem?_eq_some_iff.1 hb).1
    · cases this
end Go.Proofs.YtfompmhncnkcfaaGreatDoor
namespace Go.Proofs.YtfompmhncnkcfaaGreatDoor.Alu
open Go
set_option maxRecDepth 10000
theorem f64_eq : FloatKind.f64.format = Ieee.double := rfl
theorem sw : Ieee.double.signWeight = 9223372036854775808 := by decide
theorem bn : Ieee.double.binade = 4503599627370496 := by decide
theorem ir : Ieee.double.infRung = 9218868437227405312 := by decide
def isN (x : Nat) : Bool := decide (9218868437227405312 < x % 9223372036854775808)
theorem read_nan (x : Nat) : (Ieee.double.read x).isNaN = isN x := by
  unfold Ieee.Format.read isN
  simp only [sw, bn, ir]
  split
  · simp only [Ieee.Datum.isNaN]; symm; rw [decide_eq_false_iff_not]; omega
  · split
    · simp only [Ieee.Datum.isNaN]; symm; rw [decide_eq_false_iff_not]; omega
    · split
      · simp only [Ieee.Datum.isNaN]; symm; rw [decide_eq_false_iff_not]; omega
      · simp only [Ieee.Datum.isNaN]; symm; rw [decide_eq_true_eq]; omega
theorem order_refl (d : Ieee.Datum) : d.order d = if d.isNaN then none else some .eq := by
  cases d with
  | nan => rfl
  | infinity s => simp [Ieee.Datum.order, Ieee.Datum.isNaN]
  | number s m i => simp [Ieee.Datum.order, Ieee.Datum.isNaN]
theorem order_self (x : Nat) : FloatKind.f64.format.order x x = if isN x then none else some .eq := by
  rw [← read_nan]
  exact order_refl _
theorem cmp_self (x : Nat) : fcmp .neq (FloatKind.f64.format.order x x) = isN x := by
  rw [order_self]
  cases isN x <;> rfl
theorem nanB_isN {r : Nat} (h : nanB r) : isN r = true := by
  obtain ⟨s, t, hs, ht, rfl⟩ := h
  unfold isN
  rw [decide_eq_true_eq]
  have h1 : (2 : Nat) ^ 63 = 9223372036854775808 := by decide
  have h2 : (2 : Nat) ^ 52 = 4503599627370496 := by decide
  rw [h2] at ht
  rw [h1]
  omega
theorem and_low (k : Nat) (m : Int) (n : Int) (h0 : 0 ≤ m) (h1 : m < 18446744073709551616) (hn : n = 2 ^ k - 1) (hk : k < 64) : bitF .and .u64 m n = m % 2 ^ k := by
  unfold bitF
  subst hn
  obtain ⟨m, rfl⟩ := Int.eq_ofNat_of_zero_le h0
  have hp : (0 : Int) < 2 ^ k := Int.pow_pos (by omega)
  have e1 : ((2 : Int) ^ k - 1) = ((2 ^ k - 1 : Nat) : Int) := by
    have : 1 ≤ 2 ^ k := Nat.one_le_two_pow
    rw [Int.ofNat_sub this, Int.natCast_pow]
    rfl
  have hlt : 2 ^ k - 1 < 2 ^ 64 := by
    have : 2 ^ k ≤ 2 ^ 64 := Nat.pow_le_pow_right (by omega) (by omega)
    omega
  have hm : m < 2 ^ 64 := by
    have : (2 : Nat) ^ 64 = 18446744073709551616 := by decide
    omega
  rw [e1, BitVec.toNat_and, BitVec.ofInt_natCast, BitVec.ofInt_natCast, BitVec.toNat_ofNat, BitVec.toNat_ofNat]
  show IntKind.u64.wrap ((m % 2 ^ 64 &&& (2 ^ k - 1) % 2 ^ 64 : Nat) : Int) = _
  rw [Nat.mod_eq_of_lt hm, Nat.mod_eq_of_lt hlt, Nat.and_two_pow_sub_one_eq_mod]
  have hb : m % 2 ^ k ≤ m := Nat.mod_le _ _
  rw [wrap_u64 (by omega) (by omega), Int.natCast_emod, Int.natCast_pow]
  rfl
def okW (x : Int) : Prop := 0 ≤ x ∧ x ≤ 18446744073709551615
def isNi (x : Int) : Bool := isN x.toNat
def truthM (b : Bool) : Int := if b then 1 else 0
def nanW : Int := 9221120237041090560
def plainM (x : Nat) : Int := if isN x then nanW else x
theorem sp_isnan (W0 : World) (own : Own) (a : Nat) : Pure Tryz.prog W0 122 [.float .f64 a] own (.bool (isN a)) := by
  refine pure_of (spec_of mixed low_math_IsNaN (by simp [ir_math_IsNaN]) ?_)
  repeat' ((try (conv => whnf)); first | (refine fcmp_e _ (cmp_self _) ?_) | (exact Ent.refl) | (refine And.intro rfl ?_))
  all_goals exact ⟨rfl, by (repeat (first | exact Ent.refl | exact Ent.left | refine Ent.cons ?_ | refine Ent.app ?_))⟩
theorem sp_plain (W0 : World) (own : Own) (a : Nat) : Pure Tryz.prog W0 123 [.float .f64 a] own (.int .u64 (plainM a)) := by
  refine pure_of (spec_of mixed low_alu_plain (by simp [ir_alu_plain]) ?_)
  cases hn : isN a
  · have h1 : ∀ own, Pure Tryz.prog W0 122 [.float .f64 a] own (.bool false) := fun own => by rw [← hn]; exact sp_isnan W0 own a
    repeat' ((try (conv => whnf)); first | (apply call_p (h1 _)) | (refine br_f ?_))
    all_goals (refine ⟨ret1 (vi ?_), by (repeat (first | exact Ent.refl | exact Ent.left | refine Ent.cons ?_ | refine Ent.app ?_))⟩; simp [plainM, hn])
  · have h1 : ∀ own, Pure Tryz.prog W0 122 [.float .f64 a] own (.bool true) := fun own => by rw [← hn]; exact sp_isnan W0 own a
    repeat' ((try (conv => whnf)); first | (apply call_p (h1 _)) | (refine br_t ?_))
    all_goals (refine ⟨ret1 (vi ?_), by (repeat (first | exact Ent.refl | exact Ent.left | refine Ent.cons ?_ | refine Ent.app ?_))⟩; simp [plainM, hn, nanW])
theorem sp_truth (W0 : World) (own : Own) (b : Bool) : Pure Tryz.prog W0 124 [.bool b] own (.int .u64 (truthM b)) := by
  refine pure_of (spec_of mixed low_alu_truth (by simp [ir_alu_truth]) ?_)
  cases b <;> (repeat' ((try (conv => whnf)); first | (refine br_t ?_) | (refine br_f ?_)); all_goals exact ⟨rfl, by (repeat (first | exact Ent.refl | exact Ent.left | refine Ent.cons ?_ | refine Ent.app ?_))⟩)
theorem sp_rtruth (W0 : World) (own : Own) (b : Bool) : Pure Tryz.prog W0 108 [.bool b] own (.int .u64 (truthM b)) := by
  refine pure_of (spec_of mixed low_ref02_truth (by simp [ir_ref02_truth]) ?_)
  cases b <;> (repeat' ((try (conv => whnf)); first | (refine br_t ?_) | (refine br_f ?_)); all_goals exact ⟨rfl, by (repeat (first | exact Ent.refl | exact Ent.left | refine Ent.cons ?_ | refine Ent.app ?_))⟩)
theorem and2047 {m : Int} (h : 0 ≤ m ∧ m < 18446744073709551616) : bitF .and .u64 m 2047 = m % 2048 := and_low 11 m 2047 h.1 h.2 rfl (by omega)
theorem andFrac {m : Int} (h : 0 ≤ m ∧ m < 18446744073709551616) : bitF .and .u64 m 4503599627370495 = m % 4503599627370496 := and_low 52 m 4503599627370495 h.1 h.2 rfl (by omega)
theorem sp_rnan (W0 : World) (own : Own) (x : Int) (hx : okW x) : Pure Tryz.prog W0 110 [.int .u64 x] own (.bool (isNi x)) := by
  unfold okW at hx
  refine pure_of (spec_of mixed low_ref02_nan (by simp [ir_ref02_nan]) ?_)
  repeat' ((try (conv => whnf)); first | (refine shr_l 52 4503599627370496 rfl rfl (by omega) rfl ?_) | (refine bit_e _ (and2047 (by omega)) ?_) | (refine bit_e _ (andFrac (by omega)) ?_) | (refine when_y ?_) | (refine when_ft ?_) | (refine when_dt (fun hc => ?_) (fun hc => ?_)))
  all_goals (refine ⟨ret1 (vb ?_), by (repeat (first | exact Ent.refl | exact Ent.left | refine Ent.cons ?_ | refine Ent.app ?_))⟩; unfold isNi isN)
  all_goals first | (refine dd ?_; omega) | (refine dn ?_; omega) | (refine df ?_; omega) | (refine dt ?_; omega)
end Go.Proofs.YtfompmhncnkcfaaGreatDoor.Alu
namespace Go.Proofs.YtfompmhncnkcfaaGreatDoor.Alu
open Go
set_option maxRecDepth 10000
set_option maxHeartbeats 2000000
theorem shl_k {k : IntKind} {m n : Int} {K : Int → Prop} (h0 : 0 ≤ n) (h : K (k.wrap (m * 2 ^ (min n.toNat k.bits)))) : Shl k m n K := ⟨h0, h⟩
theorem shr_k {k : IntKind} {m n : Int} {K : Int → Prop} (h0 : 0 ≤ n) (h : K (m.fdiv (2 ^ (min n.toNat k.bits)))) : Shr k m n K := ⟨h0, h⟩
def intsM (fn x y : Int) : Int :=
  if fn = 0 then IntKind.u64.wrap (x + y) else if fn = 1 then IntKind.u64.wrap (x - y) else if fn = 2 then IntKind.u64.wrap (x * y) else if fn = 3 then bitF .and .u64 x y else if fn = 4 then bitF .or .u64 x y
  else if fn = 5 then bitF .xor .u64 x y else if fn = 6 then IntKind.u64.wrap (x * 2 ^ (min (y % 64).toNat IntKind.u64.bits)) else if fn = 7 then x.fdiv (2 ^ (min (y % 64).toNat IntKind.u64.bits))
  else if fn = 8 then truthM (decide (x = y)) else if fn = 9 then truthM (decide (x ≠ y)) else if fn = 10 then truthM (decide (IntKind.i64.wrap x < IntKind.i64.wrap y)) else truthM (decide (x < y))
theorem sp_ints (W0 : World) (own : Own) (fn x y : Int) (hf : 0 ≤ fn ∧ fn < 12) (hy : okW y) : Pure Tryz.prog W0 107 [.int .i64 fn, .int .u64 x, .int .u64 y] own (.int .u64 (intsM fn x y)) := by
  unfold okW at hy
  have hw : fn = 0 ∨ fn = 1 ∨ fn = 2 ∨ fn = 3 ∨ fn = 4 ∨ fn = 5 ∨ fn = 6 ∨ fn = 7 ∨ fn = 8 ∨ fn = 9 ∨ fn = 10 ∨ fn = 11 := by omega
  refine pure_of (spec_of mixed low_alu_integers (by simp [ir_alu_integers]) ?_)
  rcases hw with rfl | rfl | rfl | rfl | rfl | rfl | rfl | rfl | rfl | rfl | rfl | rfl
  all_goals
    repeat' ((try (conv => whnf)); first | (refine br_t ?_) | (refine br_f ?_) | (refine arw ?_) | (refine bit_k ?_) | (refine shl_k (by omega) ?_) | (refine shr_k (by omega) ?_) | (apply call_p (sp_truth _ _ _)) | (refine rem_i ?_ ?_; omega) | (exact Ent.refl) | (refine And.intro rfl ?_))
    all_goals exact ⟨rfl, by (repeat (first | exact Ent.refl | exact Ent.left | refine Ent.cons ?_ | refine Ent.app ?_))⟩
theorem sp_number (W0 : World) (own : Own) (a : Nat) (ha : a < 18446744073709551616) : Pure Tryz.prog W0 109 [.float .f64 a] own (.int .u64 (plainM a)) := by
  refine pure_of (spec_of mixed low_ref02_number (by simp [ir_ref02_number]) ?_)
  have h0 := fun own => sp_rnan W0 own (a : Int) (by unfold okW; omega)
  have e : isNi (a : Int) = isN a := by unfold isNi; rw [Int.toNat_natCast]
  rw [e] at h0
  cases hn : isN a
  · rw [hn] at h0
    repeat' ((try (conv => whnf)); first | (apply call_p (h0 _)) | (refine br_f ?_))
    all_goals (refine ⟨ret1 (vi ?_), by (repeat (first | exact Ent.refl | exact Ent.left | refine Ent.cons ?_ | refine Ent.app ?_))⟩; simp [plainM, hn])
  · rw [hn] at h0
    repeat' ((try (conv => whnf)); first | (apply call_p (h0 _)) | (refine br_t ?_))
    all_goals (refine ⟨ret1 (vi ?_), by (repeat (first | exact Ent.refl | exact Ent.left | refine Ent.cons ?_ | refine Ent.app ?_))⟩; simp [plainM, hn, nanW])
end Go.Proofs.YtfompmhncnkcfaaGreatDoor.Alu
namespace Go.Proofs.YtfompmhncnkcfaaGreatDoor.Alu
open Go
set_option maxRecDepth 10000
set_option maxHeartbeats 2000000
def fopM (op : BinOp) (a b : Nat) : Int := match floatBits op .f64 a b with | some r => plainM r | none => nanW
theorem plain_nan {r : Nat} (h : nanB r) : plainM r = nanW := by unfold plainM; rw [nanB_isN h]; rfl
theorem sp_min (W0 : World) (own : Own) (a b : Nat) : Pure Tryz.prog W0 125 [.float .f64 a, .float .f64 b] own (.float .f64 (pickF true a b)) := by
  refine pure_of (spec_of mixed low_math_Min (by simp [ir_math_Min]) ?_)
  repeat' ((try (conv => whnf)); first | (refine br_t ?_) | (exact Ent.refl) | (refine And.intro rfl ?_))
  all_goals exact ⟨rfl, by (repeat (first | exact Ent.refl | exact Ent.left | refine Ent.cons ?_ | refine Ent.app ?_))⟩
theorem sp_max (W0 : World) (own : Own) (a b : Nat) : Pure Tryz.prog W0 126 [.float .f64 a, .float .f64 b] own (.float .f64 (pickF false a b)) := by
  refine pure_of (spec_of mixed low_math_Max (by simp [ir_math_Max]) ?_)
  repeat' ((try (conv => whnf)); first | (refine br_t ?_) | (exact Ent.refl) | (refine And.intro rfl ?_))
  all_goals exact ⟨rfl, by (repeat (first | exact Ent.refl | exact Ent.left | refine Ent.cons ?_ | refine Ent.app ?_))⟩
def floatsM (fn : Int) (a b : Nat) : Int :=
  if fn = 12 then fopM .add a b else if fn = 13 then fopM .sub a b else if fn = 14 then fopM .mul a b else if fn = 15 then fopM .quo a b
  else if fn = 16 then (if isN a || isN b then nanW else plainM (pickF true a b)) else if fn = 17 then (if isN a || isN b then nanW else plainM (pickF false a b))
  else if fn = 18 then truthM (fcmp .eql (FloatKind.f64.format.order a b)) else truthM (fcmp .lss (FloatKind.f64.format.order a b))
theorem sp_floats (W0 : World) (own : Own) (fn : Int) (a b : Nat) (hf : 12 ≤ fn ∧ fn < 20) : Pure Tryz.prog W0 106 [.int .i64 fn, .float .f64 a, .float .f64 b] own (.int .u64 (floatsM fn a b)) := by
  have hA := fun own => sp_isnan W0 own a
  have hB := fun own => sp_isnan W0 own b
  generalize e1 : isN a = na at hA
  generalize e2 : isN b = nb at hB
  refine pure_of (spec_of mixed low_alu_floats (by simp [ir_alu_floats]) ?_)
  have hw : fn = 12 ∨ fn = 13 ∨ fn = 14 ∨ fn = 15 ∨ fn = 16 ∨ fn = 17 ∨ fn = 18 ∨ fn = 19 := by omega
  rcases hw with rfl | rfl | rfl | rfl | rfl | rfl | rfl | rfl
  case inl =>
    cases hfb : floatBits .add .f64 a b <;> cases na <;> cases nb
    all_goals
      repeat' ((try (conv => whnf)); first | (refine when_y ?_) | (refine when_tf ?_) | (refine br_t ?_) | (refine flt_s _ hfb ?_) | (refine flt_n hfb (fun r hr => ?_)) | (apply call_p (hA _)) | (apply call_p (hB _)) | (apply call_p (sp_plain _ _ _)))
      all_goals (refine ⟨ret1 (vi ?_), by (repeat (first | exact Ent.refl | exact Ent.left | refine Ent.cons ?_ | refine Ent.app ?_))⟩; simp [floatsM, fopM, hfb]; try exact plain_nan (by assumption))
  case inr.inl =>
    cases hfb : floatBits .sub .f64 a b <;> cases na <;> cases nb
    all_goals
      repeat' ((try (conv => whnf)); first | (refine when_y ?_) | (refine when_tf ?_) | (refine br_t ?_) | (refine br_f ?_) | (refine flt_s _ hfb ?_) | (refine flt_n hfb (fun r hr => ?_)) | (apply call_p (hA _)) | (apply call_p (hB _)) | (apply call_p (sp_plain _ _ _)))
      all_goals (refine ⟨ret1 (vi ?_), by (repeat (first | exact Ent.refl | exact Ent.left | refine Ent.cons ?_ | refine Ent.app ?_))⟩; simp [floatsM, fopM, hfb]; try exact plain_nan (by assumption))
  case inr.inr.inl =>
    cases hfb : floatBits .mul .f64 a b <;> cases na <;> cases nb
    all_goals
      repeat' ((try (conv => whnf)); first | (refine when_y ?_) | (refine when_tf ?_) | (refine br_t ?_) | (refine br_f ?_) | (refine flt_s _ hfb ?_) | (refine flt_n hfb (fun r hr => ?_)) | (apply call_p (hA _)) | (apply call_p (hB _)) | (apply call_p (sp_plain _ _ _)))
      all_goals (refine ⟨ret1 (vi ?_), by (repeat (first | exact Ent.refl | exact Ent.left | refine Ent.cons ?_ | refine Ent.app ?_))⟩; simp [floatsM, fopM, hfb]; try exact plain_nan (by assumption))
  case inr.inr.inr.inl =>
    cases hfb : floatBits .quo .f64 a b <;> cases na <;> cases nb
    all_goals
      repeat' ((try (conv => whnf)); first | (refine when_y ?_) | (refine when_tf ?_) | (refine br_t ?_) | (refine br_f ?_) | (refine flt_s _ hfb ?_) | (refine flt_n hfb (fun r hr => ?_)) | (apply call_p (hA _)) | (apply call_p (hB _)) | (apply call_p (sp_plain _ _ _)))
      all_goals (refine ⟨ret1 (vi ?_), by (repeat (first | exact Ent.refl | exact Ent.left | refine Ent.cons ?_ | refine Ent.app ?_))⟩; simp [floatsM, fopM, hfb]; try exact plain_nan (by assumption))
  all_goals
    cases na <;> cases nb
    all_goals
      repeat' ((try (conv => whnf)); first | (refine when_y ?_) | (refine when_tf ?_) | (refine br_t ?_) | (refine br_f ?_) | (refine fcmp_k ?_) | (apply call_p (hA _)) | (apply call_p (hB _)) | (apply call_p (sp_plain _ _ _)) | (apply call_p (sp_truth _ _ _)) | (apply call_p (sp_min _ _ _ _)) | (apply call_p (sp_max _ _ _ _)) | (exact Ent.refl) | (refine And.intro rfl ?_))
      all_goals (refine ⟨ret1 (vi ?_), by (repeat (first | exact Ent.refl | exact Ent.left | refine Ent.cons ?_ | refine Ent.app ?_))⟩; simp [floatsM, e1, e2, nanW])
end Go.Proofs.YtfompmhncnkcfaaGreatDoor.Alu
namespace Go.Proofs.YtfompmhncnkcfaaGreatDoor.Alu
open Go
set_option maxRecDepth 10000
set_option maxHeartbeats 2000000
def limW : Nat := 4890909195324358656
def limN : Nat := 14114281232179134464
theorem read_lim : Ieee.double.read limW = .number false 4503599627370496 11 := by decide
theorem read_limN : Ieee.double.read limN = .number true 4503599627370496 11 := by decide
theorem cut_zero (s : Bool) (n drop : Nat) : Ieee.Toward.zero.cut s n drop = n / 2 ^ (min drop (n.log2 + 2)) := by
  simp [Ieee.Toward.cut, Nat.shiftLeft_eq]
theorem cut_lt {s : Bool} {n drop j : Nat} (h : n < 2 ^ (drop + j)) : Ieee.Toward.zero.cut s n drop < 2 ^ j := by
  rw [cut_zero]
  by_cases hd : drop ≤ n.log2 + 2
  · rw [Nat.min_eq_left hd]
    refine (Nat.div_lt_iff_lt_mul (Nat.two_pow_pos _)).2 ?_
    rw [← Nat.pow_add, Nat.add_comm j drop]
    exact h
  · rw [Nat.min_eq_right (by omega)]
    have h1 : n < 2 ^ (n.log2 + 2) := Nat.lt_of_lt_of_le Nat.lt_log2_self (Nat.pow_le_pow_right (by omega) (by omega))
    rw [Nat.div_eq_of_lt h1]
    exact Nat.two_pow_pos _
theorem cut_le {s : Bool} {n drop j : Nat} (h : n ≤ 2 ^ (drop + j)) : Ieee.Toward.zero.cut s n drop ≤ 2 ^ j := by
  rw [cut_zero]
  by_cases hd : drop ≤ n.log2 + 2
  · rw [Nat.min_eq_left hd]
    refine Nat.div_le_of_le_mul ?_
    rw [← Nat.pow_add]
    exact h
  · rw [Nat.min_eq_right (by omega)]
    have h1 : n < 2 ^ (n.log2 + 2) := Nat.lt_of_lt_of_le Nat.lt_log2_self (Nat.pow_le_pow_right (by omega) (by omega))
    rw [Nat.div_eq_of_lt h1]
    exact Nat.zero_le _
theorem shift_cmp {s : Bool} {m : Nat} {e : Int} (h : m <<< (e - min e 11).toNat < 4503599627370496 <<< (11 - min e 11).toNat) : Ieee.Toward.zero.cut s (m <<< e.toNat) (-e).toNat < 9223372036854775808 := by
  have hp : (9223372036854775808 : Nat) = 2 ^ 63 := by decide
  have h52 : (4503599627370496 : Nat) = 2 ^ 52 := by decide
  rw [hp]
  refine cut_lt ?_
  rw [h52, Nat.shiftLeft_eq, Nat.shiftLeft_eq, ← Nat.pow_add] at h
  rw [Nat.shiftLeft_eq]
  by_cases h11 : 11 ≤ e
  · have e1 : min e 11 = 11 := by omega
    rw [e1] at h
    have e2 : (-e).toNat = 0 := by omega
    have e3 : e.toNat = (e - 11).toNat + 11 := by omega
    rw [e2, e3, Nat.pow_add, ← Nat.mul_assoc]
    have := Nat.mul_lt_mul_of_pos_right h (show 0 < 2 ^ 11 by decide)
    rw [← Nat.pow_add] at this
    simpa using this
  · have e1 : min e 11 = e := by omega
    rw [e1] at h
    have e0 : (e - e).toNat = 0 := by omega
    rw [e0, Nat.pow_zero, Nat.mul_one] at h
    by_cases hneg : e < 0
    · have e2 : e.toNat = 0 := by omega
      rw [e2, Nat.pow_zero, Nat.mul_one]
      have e3 : (-e).toNat + 63 = 52 + (11 - e).toNat := by omega
      rw [e3]
      exact h
    · have e2 : (-e).toNat = 0 := by omega
      have e3 : 0 + 63 = 52 + (11 - e).toNat + e.toNat := by omega
      rw [e2, e3, Nat.pow_add _ _ e.toNat]
      exact Nat.mul_lt_mul_of_pos_right h (Nat.two_pow_pos _)
theorem shift_cmpl {s : Bool} {m : Nat} {e : Int} (h : m <<< (e - min e 11).toNat ≤ 4503599627370496 <<< (11 - min e 11).toNat) : Ieee.Toward.zero.cut s (m <<< e.toNat) (-e).toNat ≤ 9223372036854775808 := by
  have hp : (9223372036854775808 : Nat) = 2 ^ 63 := by decide
  have h52 : (4503599627370496 : Nat) = 2 ^ 52 := by decide
  rw [hp]
  refine cut_le ?_
  rw [h52, Nat.shiftLeft_eq, Nat.shiftLeft_eq, ← Nat.pow_add] at h
  rw [Nat.shiftLeft_eq]
  by_cases h11 : 11 ≤ e
  · have e1 : min e 11 = 11 := by omega
    rw [e1] at h
    have e2 : (-e).toNat = 0 := by omega
    have e3 : e.toNat = (e - 11).toNat + 11 := by omega
    rw [e2, e3, Nat.pow_add, ← Nat.mul_assoc]
    have := Nat.mul_le_mul_right (2 ^ 11) h
    rw [← Nat.pow_add] at this
    simpa using this
  · have e1 : min e 11 = e := by omega
    rw [e1] at h
    have e0 : (e - e).toNat = 0 := by omega
    rw [e0, Nat.pow_zero, Nat.mul_one] at h
    by_cases hneg : e < 0
    · have e2 : e.toNat = 0 := by omega
      rw [e2, Nat.pow_zero, Nat.mul_one]
      have e3 : (-e).toNat + 63 = 52 + (11 - e).toNat := by omega
      rw [e3]
      exact h
    · have e2 : (-e).toNat = 0 := by omega
      have e3 : 0 + 63 = 52 + (11 - e).toNat + e.toNat := by omega
      rw [e2, e3, Nat.pow_add _ _ e.toNat]
      exact Nat.mul_le_mul_right _ h
theorem f2i_some {b : Nat} (hn : isN b = false) (h1 : fcmp .geq (FloatKind.f64.format.order b limW) = false) (h2 : fcmp .lss (FloatKind.f64.format.order b limN) = false) : ∃ n, floatToIntVal .f64 b .i64 = some n := by
  rw [← read_nan] at hn
  unfold floatToIntVal FloatKind.decode
  rw [f64_eq] at *
  unfold Ieee.Format.order at h1 h2
  rw [read_lim] at h1
  rw [read_limN] at h2
  generalize Ieee.double.read b = d at *
  cases d with
  | nan => simp [Ieee.Datum.isNaN] at hn
  | infinity s => cases s <;> simp [Ieee.Datum.order, fcmp] at h1 h2
  | number s m e =>
    simp only [Ieee.Datum.order, fcmp] at h1 h2
    simp only [Ieee.Datum.toInt, Ieee.Datum.integral]
    have hmin : IntKind.i64.min = -9223372036854775808 := rfl
    have hmax : IntKind.i64.max = 9223372036854775807 := rfl
    have hin : IntKind.i64.min ≤ Ieee.signed s (Ieee.Toward.zero.cut s (m <<< e.toNat) (-e).toNat) 0 ∧ Ieee.signed s (Ieee.Toward.zero.cut s (m <<< e.toNat) (-e).toNat) 0 ≤ IntKind.i64.max := by
      rw [hmin, hmax]
      cases s with
      | false =>
        have hlt : m <<< (e - min e 11).toNat < 4503599627370496 <<< (11 - min e 11).toNat := by
          rcases Nat.lt_or_ge (m <<< (e - min e 11).toNat) (4503599627370496 <<< (11 - min e 11).toNat) with h | h
          · exact h
          · exfalso
            have hc : compare (Ieee.signed false m (e - min e 11).toNat) (Ieee.signed false 4503599627370496 (11 - min e 11).toNat) ≠ .lt := by
              simp only [Ieee.signed, Bool.false_eq_true, if_false, ne_eq, Int.compare_eq_lt]
              omega
            revert h1 hc
            generalize compare (Ieee.signed false m (e - min e 11).toNat) (Ieee.signed false 4503599627370496 (11 - min e 11).toNat) = c
            cases c <;> simp
        have := shift_cmp (s := false) hlt
        simp only [Ieee.signed, Bool.false_eq_true, if_false, Nat.shiftLeft_zero]
        omega
      | true =>
        have hle : m <<< (e - min e 11).toNat ≤ 4503599627370496 <<< (11 - min e 11).toNat := by
          rcases Nat.lt_or_ge (4503599627370496 <<< (11 - min e 11).toNat) (m <<< (e - min e 11).toNat) with h | h
          · exfalso
            have hc : compare (Ieee.signed true m (e - min e 11).toNat) (Ieee.signed true 4503599627370496 (11 - min e 11).toNat) = .lt := by
              simp only [Ieee.signed, if_true, Int.compare_eq_lt]
              omega
            rw [hc] at h2
            simp at h2
          · exact h
        have := shift_cmpl (s := true) hle
        simp only [Ieee.signed, if_true, Nat.shiftLeft_zero]
        omega
    exact ⟨_, if_pos hin⟩
end Go.Proofs.YtfompmhncnkcfaaGreatDoor.Alu
namespace Go.Proofs.YtfompmhncnkcfaaGreatDoor.Alu
open Go
set_option maxRecDepth 10000
set_option maxHeartbeats 2000000
def toIntM (b : Nat) : Int :=
  if isN b then 0 else if fcmp .geq (FloatKind.f64.format.order b limW) then 9223372036854775807 else if fcmp .lss (FloatKind.f64.format.order b limN) then -9223372036854775808 else (floatToIntVal .f64 b .i64).getD 0
theorem sp_toint (W0 : World) (own : Own) (a : Nat) : Pure Tryz.prog W0 104 [.float .f64 a] own (.int .i64 (toIntM a)) := by
  have hA := fun own => sp_isnan W0 own a
  refine pure_of (spec_of mixed low_alu_toInt (by simp [ir_alu_toInt]) ?_)
  cases hn : isN a <;> rw [hn] at hA
  · cases h1 : fcmp .geq (FloatKind.f64.format.order a limW)
    · cases h2 : fcmp .lss (FloatKind.f64.format.order a limN)
      · obtain ⟨n, he⟩ := f2i_some hn h1 h2
        repeat' ((try (conv => whnf)); first | (refine br_f ?_) | (apply call_p (hA _)) | (refine fcmp_e _ h1 ?_) | (refine fcmp_e _ h2 ?_) | (refine f2i_e _ he ?_))
        all_goals (refine ⟨ret1 (vi ?_), by (repeat (first | exact Ent.refl | exact Ent.left | refine Ent.cons ?_ | refine Ent.app ?_))⟩; simp [toIntM, hn, h1, h2, he])
      · repeat' ((try (conv => whnf)); first | (refine br_t ?_) | (refine br_f ?_) | (apply call_p (hA _)) | (refine fcmp_e _ h1 ?_) | (refine fcmp_e _ h2 ?_))
        all_goals (refine ⟨ret1 (vi ?_), by (repeat (first | exact Ent.refl | exact Ent.left | refine Ent.cons ?_ | refine Ent.app ?_))⟩; simp [toIntM, hn, h1, h2])
    · repeat' ((try (conv => whnf)); first | (refine br_t ?_) | (refine br_f ?_) | (apply call_p (hA _)) | (refine fcmp_e _ h1 ?_))
      all_goals (refine ⟨ret1 (vi ?_), by (repeat (first | exact Ent.refl | exact Ent.left | refine Ent.cons ?_ | refine Ent.app ?_))⟩; simp [toIntM, hn, h1])
  · repeat' ((try (conv => whnf)); first | (refine br_t ?_) | (apply call_p (hA _)))
    all_goals (refine ⟨ret1 (vi ?_), by (repeat (first | exact Ent.refl | exact Ent.left | refine Ent.cons ?_ | refine Ent.app ?_))⟩; simp [toIntM, hn])
theorem sp_rtoint (W0 : World) (own : Own) (x : Int) (hx : okW x) : Pure Tryz.prog W0 112 [.int .u64 x] own (.int .u64 (IntKind.u64.wrap (toIntM x.toNat))) := by
  have hA := fun own => sp_rnan W0 own x hx
  unfold isNi at hA
  refine pure_of (spec_of mixed low_ref02_toInt (by simp [ir_ref02_toInt]) ?_)
  cases hn : isN x.toNat <;> rw [hn] at hA
  · cases h1 : fcmp .geq (FloatKind.f64.format.order x.toNat limW)
    · cases h2 : fcmp .lss (FloatKind.f64.format.order x.toNat limN)
      · obtain ⟨n, he⟩ := f2i_some hn h1 h2
        repeat' ((try (conv => whnf)); first | (refine br_f ?_) | (apply call_p (hA _)) | (refine fcmp_e _ h1 ?_) | (refine fcmp_e _ h2 ?_) | (refine f2i_e _ he ?_) | (refine arw ?_))
        all_goals (refine ⟨ret1 (vi ?_), by (repeat (first | exact Ent.refl | exact Ent.left | refine Ent.cons ?_ | refine Ent.app ?_))⟩; simp [toIntM, hn, h1, h2, he])
      · repeat' ((try (conv => whnf)); first | (refine br_t ?_) | (refine br_f ?_) | (apply call_p (hA _)) | (refine fcmp_e _ h1 ?_) | (refine fcmp_e _ h2 ?_))
        all_goals (refine ⟨ret1 (vi ?_), by (repeat (first | exact Ent.refl | exact Ent.left | refine Ent.cons ?_ | refine Ent.app ?_))⟩; simp [toIntM, hn, h1, h2]; try rfl)
    · repeat' ((try (conv => whnf)); first | (refine br_t ?_) | (refine br_f ?_) | (apply call_p (hA _)) | (refine fcmp_e _ h1 ?_))
      all_goals (refine ⟨ret1 (vi ?_), by (repeat (first | exact Ent.refl | exact Ent.left | refine Ent.cons ?_ | refine Ent.app ?_))⟩; simp [toIntM, hn, h1]; try rfl)
  · repeat' ((try (conv => whnf)); first | (refine br_t ?_) | (apply call_p (hA _)))
    all_goals (refine ⟨ret1 (vi ?_), by (repeat (first | exact Ent.refl | exact Ent.left | refine Ent.cons ?_ | refine Ent.app ?_))⟩; simp [toIntM, hn]; try rfl)
def applyW (fn x y : Int) : Int :=
  if 0 ≤ fn ∧ fn < 22 then
    if fn = 20 then (FloatKind.f64.nearest (IntKind.i64.wrap x) : Int) else if fn = 21 then IntKind.u64.wrap (toIntM x.toNat) else if 12 ≤ fn then floatsM fn x.toNat y.toNat else intsM fn x y
  else 0
def applyE (fn : Int) : Int := if 0 ≤ fn ∧ fn < 22 then 0 else 10
theorem sp_apply (W0 : World) (own : Own) (fn x y : Int) (hy : okW y) :
    Pure Tryz.prog W0 89 [.int .i64 fn, .int .u64 x, .int .u64 y] own (.tuple #[.int .u64 (applyW fn x y), .int .i64 (applyE fn)]) := by
  refine pure_of (spec_of mixed low_alu_Apply (by simp [ir_alu_Apply]) ?_)
  by_cases h : 0 ≤ fn ∧ fn < 22
  · by_cases h20 : fn = 20
    · subst h20
      repeat' ((try (conv => whnf)); first | (refine when_y ?_) | (refine br_t ?_) | (refine br_f ?_) | (refine arw ?_))
      all_goals (refine ⟨ret2 (vi ?_) (vi ?_), by (repeat (first | exact Ent.refl | exact Ent.left | refine Ent.cons ?_ | refine Ent.app ?_))⟩ <;> simp [applyW, applyE])
    · by_cases h21 : fn = 21
      · subst h21
        repeat' ((try (conv => whnf)); first | (refine when_y ?_) | (refine br_t ?_) | (refine br_f ?_) | (apply call_p (sp_toint _ _ _)) | (refine arw ?_))
        all_goals (refine ⟨ret2 (vi ?_) (vi ?_), by (repeat (first | exact Ent.refl | exact Ent.left | refine Ent.cons ?_ | refine Ent.app ?_))⟩ <;> simp [applyW, applyE])
      · by_cases h12 : 12 ≤ fn
        · repeat' ((try (conv => whnf)); first | (refine when_y ?_) | (refine br_py (by omega) ?_) | (refine br_pn (by omega) ?_) | (refine when_pn (by omega) ?_) | (apply call_p (sp_floats _ _ fn _ _ (by omega))))
          all_goals (refine ⟨ret2 (vi ?_) (vi ?_), by (repeat (first | exact Ent.refl | exact Ent.left | refine Ent.cons ?_ | refine Ent.app ?_))⟩ <;> simp [applyW, applyE, h, h20, h21, h12])
        · repeat' ((try (conv => whnf)); first | (refine when_y ?_) | (refine br_pn (by omega) ?_) | (refine when_pn (by omega) ?_) | (apply call_p (sp_ints _ _ fn _ _ (by omega) hy)))
          all_goals (refine ⟨ret2 (vi ?_) (vi ?_), by (repeat (first | exact Ent.refl | exact Ent.left | refine Ent.cons ?_ | refine Ent.app ?_))⟩ <;> simp [applyW, applyE, h, h20, h21, h12])
  · repeat' ((try (conv => whnf)); first | (refine when_y ?_) | (refine when_tf ?_) | (refine br_t ?_) | (refine br_py (by omega) ?_) | (refine when_df (fun hc => ?_) (fun hc => ?_)))
    all_goals first | (exfalso; omega) | (refine ⟨ret2 (vi ?_) (vi ?_), by (repeat (first | exact Ent.refl | exact Ent.left | refine Ent.cons ?_ | refine Ent.app ?_))⟩ <;> simp [applyW, applyE, h])
end Go.Proofs.YtfompmhncnkcfaaGreatDoor.Alu
namespace Go.Proofs.YtfompmhncnkcfaaGreatDoor.Alu
open Go
set_option maxRecDepth 10000
set_option maxHeartbeats 2000000
def rung (x : Nat) : Nat := x % 9223372036854775808
def sgn (x : Nat) : Bool := x / 9223372036854775808 % 2 == 1
def mant (x : Nat) : Nat := if rung x < 4503599627370496 then rung x else 4503599627370496 + rung x % 4503599627370496
def expo (x : Nat) : Nat := if rung x < 4503599627370496 then 0 else rung x / 4503599627370496 - 1
theorem read_fin {x : Nat} (h : rung x < 9218868437227405312) : Ieee.double.read x = .number (sgn x) (mant x) (Ieee.double.leastPlace + (expo x : Nat)) := by
  unfold Ieee.Format.read mant expo
  simp only [sw, bn, ir]
  unfold rung at *
  by_cases h1 : x % 9223372036854775808 < 4503599627370496
  · rw [if_pos h1, if_pos h1, if_pos h1]; simp [sgn]
  · rw [if_neg h1, if_neg h1, if_neg h1, if_pos h]; rfl
theorem read_inf {x : Nat} (h : rung x = 9218868437227405312) : Ieee.double.read x = .infinity (sgn x) := by
  unfold Ieee.Format.read
  simp only [sw, bn, ir]
  unfold rung at h
  rw [if_neg (by omega), if_neg (by omega), if_pos h]
  rfl
def worth (x : Nat) : Nat := mant x * 2 ^ expo x
theorem worth_inj {x y : Nat} (hx : rung x < 9218868437227405312) (hy : rung y < 9218868437227405312) (h : worth x = worth y) : rung x = rung y := by
  unfold worth mant expo at h
  have key : ∀ (p q a b : Nat), a < 4503599627370496 → b < 4503599627370496 → p < q → (4503599627370496 + a) * 2 ^ p ≠ (4503599627370496 + b) * 2 ^ q := by
    intro p q a b ha hb hpq he
    have h1 : 2 ^ (p + 1) ≤ 2 ^ q := Nat.pow_le_pow_right (by omega) (by omega)
    have h2 : (4503599627370496 + b) * 2 ^ (p + 1) ≤ (4503599627370496 + b) * 2 ^ q := Nat.mul_le_mul_left _ h1
    rw [← he, Nat.pow_succ, Nat.mul_comm (2 ^ p) 2, ← Nat.mul_assoc] at h2
    have h3 := Nat.le_of_mul_le_mul_right h2 (Nat.two_pow_pos p)
    omega
  by_cases h1 : rung x < 4503599627370496 <;> by_cases h2 : rung y < 4503599627370496
  · simp only [h1, h2, if_true] at h; omega
  · simp only [h1, h2, if_true, if_false] at h
    have : 1 ≤ 2 ^ (rung y / 4503599627370496 - 1) := Nat.two_pow_pos _
    have h3 := Nat.mul_le_mul_left (4503599627370496 + rung y % 4503599627370496) this
    omega
  · simp only [h1, h2, if_true, if_false] at h
    have : 1 ≤ 2 ^ (rung x / 4503599627370496 - 1) := Nat.two_pow_pos _
    have h3 := Nat.mul_le_mul_left (4503599627370496 + rung x % 4503599627370496) this
    omega
  · simp only [h1, h2, if_false] at h
    have hx' : rung x % 4503599627370496 < 4503599627370496 := Nat.mod_lt _ (by omega)
    have hy' : rung y % 4503599627370496 < 4503599627370496 := Nat.mod_lt _ (by omega)
    rcases Nat.lt_trichotomy (rung x / 4503599627370496 - 1) (rung y / 4503599627370496 - 1) with hl | he | hg
    · exact absurd h (key _ _ _ _ hx' hy' hl)
    · rw [he] at h
      have := Nat.eq_of_mul_eq_mul_right (Nat.two_pow_pos _) h
      omega
    · exact absurd h.symm (key _ _ _ _ hy' hx' hg)
end Go.Proofs.YtfompmhncnkcfaaGreatDoor.Alu
namespace Go.Proofs.YtfompmhncnkcfaaGreatDoor.Alu
open Go
set_option maxRecDepth 10000
set_option maxHeartbeats 2000000
theorem cmp_scale {p q : Int} {c : Int} (hc : 0 < c) : compare p q = compare (p * c) (q * c) := by
  rcases Int.lt_trichotomy p q with h | h | h
  · rw [Int.compare_eq_lt.2 h, Int.compare_eq_lt.2 (Int.mul_lt_mul_of_pos_right h hc)]
  · subst h; simp
  · rw [Int.compare_eq_gt.2 h, Int.compare_eq_gt.2 (Int.mul_lt_mul_of_pos_right h hc)]
def sval (x : Nat) : Int := if sgn x then -(worth x : Int) else (worth x : Int)
theorem signed_scale (s : Bool) (m a k : Nat) (h : k ≤ a) : Ieee.signed s m (a - k) * ((2 ^ k : Nat) : Int) = if s then -((m * 2 ^ a : Nat) : Int) else ((m * 2 ^ a : Nat) : Int) := by
  have e : m * 2 ^ a = (m * 2 ^ (a - k)) * 2 ^ k := by rw [Nat.mul_assoc, ← Nat.pow_add, Nat.sub_add_cancel h]
  unfold Ieee.signed
  rw [Nat.shiftLeft_eq, e, Int.natCast_mul (m * 2 ^ (a - k))]
  cases s <;> simp [Int.neg_mul]
theorem order_fin {x y : Nat} (hx : rung x < 9218868437227405312) (hy : rung y < 9218868437227405312) : Ieee.double.order x y = some (compare (sval x) (sval y)) := by
  unfold Ieee.Format.order
  rw [read_fin hx, read_fin hy]
  simp only [Ieee.Datum.order]
  have e1 : (Ieee.double.leastPlace + (expo x : Nat) - min (Ieee.double.leastPlace + (expo x : Nat)) (Ieee.double.leastPlace + (expo y : Nat))).toNat = expo x - min (expo x) (expo y) := by omega
  have e2 : (Ieee.double.leastPlace + (expo y : Nat) - min (Ieee.double.leastPlace + (expo x : Nat)) (Ieee.double.leastPlace + (expo y : Nat))).toNat = expo y - min (expo x) (expo y) := by omega
  rw [e1, e2, cmp_scale (c := ((2 ^ (min (expo x) (expo y)) : Nat) : Int)) (Int.natCast_pos.2 (Nat.two_pow_pos _)), signed_scale _ _ _ _ (Nat.min_le_left _ _), signed_scale _ _ _ _ (Nat.min_le_right _ _)]
  rfl
theorem worth_ltN {x : Nat} {N : Nat} (hN : 2046 ≤ N) (h : rung x < 9218868437227405312) : worth x < 9007199254740992 * 2 ^ N := by
  have hm : mant x < 9007199254740992 := by
    unfold mant
    split <;> omega
  have he : expo x ≤ N := by
    unfold expo
    split <;> omega
  unfold worth
  have h1 : 2 ^ expo x ≤ 2 ^ N := Nat.pow_le_pow_right (by omega) he
  exact Nat.lt_of_le_of_lt (Nat.mul_le_mul_left _ h1) (Nat.mul_lt_mul_of_pos_right hm (Nat.two_pow_pos _))
def bigN : Nat → Nat := fun N => 9007199254740992 * 2 ^ N
def keyA (N x : Nat) : Nat := if rung x = 9218868437227405312 then bigN N else worth x
def key (N x : Nat) : Int := if sgn x then -(keyA N x : Int) else (keyA N x : Int)
theorem not_nan {x : Nat} (h : isN x = false) : rung x ≤ 9218868437227405312 := by
  unfold isN at h
  unfold rung
  rw [decide_eq_false_iff_not] at h
  omega
theorem order_key {N x y : Nat} (hN : 2046 ≤ N) (hx : isN x = false) (hy : isN y = false) : FloatKind.f64.format.order x y = some (compare (key N x) (key N y)) := by
  rw [f64_eq]
  have bp : 0 < bigN N := Nat.mul_pos (by omega) (Nat.two_pow_pos _)
  rcases Nat.lt_or_eq_of_le (not_nan hx) with h1 | h1 <;> rcases Nat.lt_or_eq_of_le (not_nan hy) with h2 | h2
  · rw [order_fin h1 h2]
    simp only [key, keyA, sval, if_neg (Nat.ne_of_lt h1), if_neg (Nat.ne_of_lt h2)]
  · have hw : worth x < bigN N := worth_ltN hN h1
    unfold Ieee.Format.order
    rw [read_fin h1, read_inf h2]
    simp only [Ieee.Datum.order, key, keyA, if_neg (Nat.ne_of_lt h1), if_pos h2]
    cases sgn x <;> cases sgn y <;> simp only [if_true, Bool.false_eq_true, if_false] <;> congr 1 <;> symm <;> first | (rw [Int.compare_eq_lt]; omega) | (rw [Int.compare_eq_gt]; omega)
  · have hw : worth y < bigN N := worth_ltN hN h2
    unfold Ieee.Format.order
    rw [read_inf h1, read_fin h2]
    simp only [Ieee.Datum.order, key, keyA, if_neg (Nat.ne_of_lt h2), if_pos h1]
    cases sgn x <;> cases sgn y <;> simp only [if_true, Bool.false_eq_true, if_false] <;> congr 1 <;> symm <;> first | (rw [Int.compare_eq_lt]; omega) | (rw [Int.compare_eq_gt]; omega)
  · unfold Ieee.Format.order
    rw [read_inf h1, read_inf h2]
    simp only [Ieee.Datum.order, key, keyA, if_pos h1, if_pos h2]
    cases sgn x <;> cases sgn y <;> simp only [if_true, Bool.false_eq_true, if_false] <;> congr 1 <;> symm <;> first | (show _ = Ordering.gt; rw [Int.compare_eq_gt]; omega) | (show _ = Ordering.lt; rw [Int.compare_eq_lt]; omega) | (simp; done)
end Go.Proofs.YtfompmhncnkcfaaGreatDoor.Alu
namespace Go.Proofs.YtfompmhncnkcfaaGreatDoor.Alu
open Go
set_option maxRecDepth 10000
set_option maxHeartbeats 2000000
theorem word_split (x : Nat) (h : x < 18446744073709551616) : x = (if sgn x then 9223372036854775808 else 0) + rung x := by
  unfold sgn rung
  by_cases hs : x / 9223372036854775808 % 2 = 1
  · simp only [hs, beq_self_eq_true, if_true]; omega
  · have : x / 9223372036854775808 % 2 = 0 := by omega
    simp [this]; omega
theorem worth_zero {x : Nat} (h : rung x < 9218868437227405312) : worth x = 0 ↔ rung x = 0 := by
  unfold worth mant expo
  by_cases h1 : rung x < 4503599627370496
  · simp [h1]
  · simp only [h1, if_false]
    have := Nat.two_pow_pos (rung x / 4503599627370496 - 1)
    have h2 := Nat.mul_le_mul_left (4503599627370496 + rung x % 4503599627370496) this
    omega
theorem keyA_inj {N x y : Nat} (hN : 2046 ≤ N) (hx : isN x = false) (hy : isN y = false) (h : keyA N x = keyA N y) : rung x = rung y := by
  unfold keyA at h
  rcases Nat.lt_or_eq_of_le (not_nan hx) with h1 | h1 <;> rcases Nat.lt_or_eq_of_le (not_nan hy) with h2 | h2
  · rw [if_neg (Nat.ne_of_lt h1), if_neg (Nat.ne_of_lt h2)] at h
    exact worth_inj h1 h2 h
  · rw [if_neg (Nat.ne_of_lt h1), if_pos h2] at h
    have : worth x < bigN N := worth_ltN hN h1
    omega
  · rw [if_pos h1, if_neg (Nat.ne_of_lt h2)] at h
    have : worth y < bigN N := worth_ltN hN h2
    omega
  · omega
theorem keyA_zero {N x : Nat} (hx : isN x = false) : keyA N x = 0 ↔ rung x = 0 := by
  have bp : 0 < bigN N := Nat.mul_pos (by omega) (Nat.two_pow_pos _)
  unfold keyA
  rcases Nat.lt_or_eq_of_le (not_nan hx) with h1 | h1
  · rw [if_neg (Nat.ne_of_lt h1)]; exact worth_zero h1
  · rw [if_pos h1]; omega
theorem key_inj {N x y : Nat} (hN : 2046 ≤ N) (hx : isN x = false) (hy : isN y = false) (bx : x < 18446744073709551616) (by' : y < 18446744073709551616) (h : key N x = key N y) : x = y ∨ (rung x = 0 ∧ rung y = 0) := by
  have zx := keyA_zero (N := N) hx
  have zy := keyA_zero (N := N) hy
  have wx := word_split x bx
  have wy := word_split y by'
  unfold key at h
  cases hs : sgn x <;> cases ht : sgn y <;> rw [hs, ht] at h <;> simp only [if_true, Bool.false_eq_true, if_false] at h
  · have := keyA_inj hN hx hy (by omega)
    rw [hs] at wx; rw [ht] at wy
    simp only [Bool.false_eq_true, if_false] at wx wy
    exact .inl (by omega)
  · exact .inr ⟨zx.1 (by omega), zy.1 (by omega)⟩
  · exact .inr ⟨zx.1 (by omega), zy.1 (by omega)⟩
  · have := keyA_inj hN hx hy (by omega)
    rw [hs] at wx; rw [ht] at wy
    simp only [if_true] at wx wy
    exact .inl (by omega)
end Go.Proofs.YtfompmhncnkcfaaGreatDoor.Alu
namespace Go.Proofs.YtfompmhncnkcfaaGreatDoor.Alu
open Go
set_option maxRecDepth 10000
set_option maxHeartbeats 2000000
def lessC (x y : Nat) : Bool := fcmp .lss (FloatKind.f64.format.order x y) || (fcmp .eql (FloatKind.f64.format.order x y) && sgn x)
theorem dec_inf {x : Nat} (s : Bool) (hx : isN x = false) : (FloatKind.f64.decode x == .infinity s) = (decide (rung x = 9218868437227405312) && (sgn x == s)) := by
  show (Ieee.double.read x == .infinity s) = _
  rcases Nat.lt_or_eq_of_le (not_nan hx) with h | h
  · rw [read_fin h, decide_eq_false (by omega)]; rfl
  · rw [read_inf h, decide_eq_true h]
    cases sgn x <;> cases s <;> rfl
theorem dec_nan {x : Nat} (hx : isN x = false) : (FloatKind.f64.decode x).isNaN = false := by
  show (Ieee.double.read x).isNaN = false
  rw [read_nan, hx]
theorem dec_zero {x : Nat} (hx : isN x = false) : (FloatKind.f64.decode x).isZero = decide (rung x = 0) := by
  show (Ieee.double.read x).isZero = _
  rcases Nat.lt_or_eq_of_le (not_nan hx) with h | h
  · rw [read_fin h]
    have hm : mant x = 0 ↔ rung x = 0 := by
      unfold mant
      split <;> omega
    by_cases h0 : rung x = 0
    · rw [decide_eq_true h0, hm.2 h0]; rfl
    · rw [decide_eq_false h0]
      cases hmm : mant x with
      | zero => exact absurd (hm.1 hmm) h0
      | succ n => rfl
  · rw [read_inf h, decide_eq_false (by omega)]; rfl
theorem dec_neg {x : Nat} (hx : isN x = false) : (FloatKind.f64.decode x).neg = sgn x := by
  show (Ieee.double.read x).neg = _
  rcases Nat.lt_or_eq_of_le (not_nan hx) with h | h
  · rw [read_fin h]; rfl
  · rw [read_inf h]; rfl
theorem enc_inf (s : Bool) : FloatKind.f64.encode (.infinity s) = (if s then 9223372036854775808 else 0) + 9218868437227405312 := by cases s <;> decide
theorem two_words {x y : Nat} (hx : isN x = false) (hy : isN y = false) (bx : x < 18446744073709551616) (by' : y < 18446744073709551616) :
    ∃ (k l : Int) (p q B : Nat), FloatKind.f64.format.order x y = some (compare k l) ∧ k = (if sgn x then -(p : Int) else p) ∧ l = (if sgn y then -(q : Int) else q) ∧ 0 < B ∧ p ≤ B ∧ q ≤ B ∧
      (rung x = 9218868437227405312 ↔ p = B) ∧ (rung y = 9218868437227405312 ↔ q = B) ∧ (rung x = 0 ↔ p = 0) ∧ (rung y = 0 ↔ q = 0) ∧ (k = l → x = y ∨ (rung x = 0 ∧ rung y = 0)) := by
  obtain ⟨N, hN⟩ : ∃ N, 2046 ≤ N := ⟨2046, Nat.le_refl _⟩
  have ax : ∀ z, isN z = false → keyA N z ≤ bigN N ∧ (rung z = 9218868437227405312 ↔ keyA N z = bigN N) := fun z hz => by
    unfold keyA
    rcases Nat.lt_or_eq_of_le (not_nan hz) with h | h
    · have hw : worth z < bigN N := worth_ltN hN h
      rw [if_neg (by omega)]
      exact ⟨by omega, ⟨fun e => by omega, fun e => by omega⟩⟩
    · rw [if_pos h]; simp [h]
  exact ⟨key N x, key N y, keyA N x, keyA N y, bigN N, order_key hN hx hy, rfl, rfl, Nat.mul_pos (by omega) (Nat.two_pow_pos _), (ax x hx).1, (ax y hy).1, (ax x hx).2, (ax y hy).2,
    (keyA_zero hx).symm, (keyA_zero hy).symm, key_inj hN hx hy bx by'⟩
theorem pick_least {x y : Nat} (hx : isN x = false) (hy : isN y = false) (bx : x < 18446744073709551616) (by' : y < 18446744073709551616) : pickF true x y = if lessC x y then x else y := by
  obtain ⟨k, l, p, q, B, ho, hk, hl, hB, hp, hq, i1, i2, z1, z2, hi⟩ := two_words hx hy bx by'
  have ho' : (FloatKind.f64.decode x).order (FloatKind.f64.decode y) = some (compare k l) := ho
  have wx := word_split x bx
  have wy := word_split y by'
  unfold pickF lessC
  rw [dec_inf true hx, dec_inf true hy, dec_nan hx, dec_nan hy, dec_zero hx, dec_zero hy, dec_neg hx, ho, ho', enc_inf]
  simp only [cond_true, fcmp]
  clear ho ho' hx hy
  generalize rung x = rx at *
  generalize rung y = ry at *
  cases hs : sgn x <;> cases ht : sgn y <;> rw [hs] at hk wx <;> rw [ht] at hl wy <;> simp only [if_true, Bool.false_eq_true, if_false] at hk hl wx wy
  all_goals
    rcases Int.lt_trichotomy k l with h | h | h
    · rw [Int.compare_eq_lt.2 h]
      by_cases e1 : rx = 9218868437227405312 <;> by_cases e2 : ry = 9218868437227405312 <;> by_cases e3 : rx = 0 <;> by_cases e4 : ry = 0 <;> simp [e1, e2, e3, e4] <;> omega
    · have h' := hi h
      rw [Int.compare_eq_eq.2 h]
      by_cases e1 : rx = 9218868437227405312 <;> by_cases e2 : ry = 9218868437227405312 <;> by_cases e3 : rx = 0 <;> by_cases e4 : ry = 0 <;> simp [e1, e2, e3, e4] <;> omega
    · rw [Int.compare_eq_gt.2 h]
      by_cases e1 : rx = 9218868437227405312 <;> by_cases e2 : ry = 9218868437227405312 <;> by_cases e3 : rx = 0 <;> by_cases e4 : ry = 0 <;> simp [e1, e2, e3, e4] <;> omega
theorem pick_most {x y : Nat} (hx : isN x = false) (hy : isN y = false) (bx : x < 18446744073709551616) (by' : y < 18446744073709551616) : pickF false x y = if lessC x y then y else x := by
  obtain ⟨k, l, p, q, B, ho, hk, hl, hB, hp, hq, i1, i2, z1, z2, hi⟩ := two_words hx hy bx by'
  have ho' : (FloatKind.f64.decode x).order (FloatKind.f64.decode y) = some (compare k l) := ho
  have wx := word_split x bx
  have wy := word_split y by'
  unfold pickF lessC
  rw [dec_inf false hx, dec_inf false hy, dec_nan hx, dec_nan hy, dec_zero hx, dec_zero hy, dec_neg hx, ho, ho', enc_inf]
  simp only [cond_false, fcmp]
  clear ho ho' hx hy
  generalize rung x = rx at *
  generalize rung y = ry at *
  cases hs : sgn x <;> cases ht : sgn y <;> rw [hs] at hk wx <;> rw [ht] at hl wy <;> simp only [if_true, Bool.false_eq_true, if_false] at hk hl wx wy
  all_goals
    rcases Int.lt_trichotomy k l with h | h | h
    · rw [Int.compare_eq_lt.2 h]
      by_cases e1 : rx = 9218868437227405312 <;> by_cases e2 : ry = 9218868437227405312 <;> by_cases e3 : rx = 0 <;> by_cases e4 : ry = 0 <;> simp [e1, e2, e3, e4] <;> omega
    · have h' := hi h
      rw [Int.compare_eq_eq.2 h]
      by_cases e1 : rx = 9218868437227405312 <;> by_cases e2 : ry = 9218868437227405312 <;> by_cases e3 : rx = 0 <;> by_cases e4 : ry = 0 <;> simp [e1, e2, e3, e4] <;> omega
    · rw [Int.compare_eq_gt.2 h]
      by_cases e1 : rx = 9218868437227405312 <;> by_cases e2 : ry = 9218868437227405312 <;> by_cases e3 : rx = 0 <;> by_cases e4 : ry = 0 <;> simp [e1, e2, e3, e4] <;> omega
end Go.Proofs.YtfompmhncnkcfaaGreatDoor.Alu
namespace Go.Proofs.YtfompmhncnkcfaaGreatDoor.Alu
open Go
set_option maxRecDepth 10000
set_option maxHeartbeats 4000000
theorem xor_nat (a b : Nat) (ha : a < 18446744073709551616) (hb : b < 18446744073709551616) : bitF .xor .u64 (a : Int) (b : Int) = ((a ^^^ b : Nat) : Int) := by
  have h64 : (18446744073709551616 : Nat) = 2 ^ 64 := by decide
  rw [h64] at ha hb
  unfold bitF
  rw [BitVec.toNat_xor, BitVec.ofInt_natCast, BitVec.ofInt_natCast, BitVec.toNat_ofNat, BitVec.toNat_ofNat]
  show IntKind.u64.wrap ((a % 2 ^ 64 ^^^ b % 2 ^ 64 : Nat) : Int) = _
  rw [Nat.mod_eq_of_lt ha, Nat.mod_eq_of_lt hb]
  have := Nat.xor_lt_two_pow ha hb
  rw [← h64] at this
  exact wrap_u64 (by omega) (by omega)
theorem xor_l {x y : Int} (hx : okW x) (hy : okW y) : bitF .xor .u64 (bitF .xor .u64 x y) x = y := by
  unfold okW at hx hy
  obtain ⟨a, rfl⟩ := Int.eq_ofNat_of_zero_le hx.1
  obtain ⟨b, rfl⟩ := Int.eq_ofNat_of_zero_le hy.1
  have h64 : (18446744073709551616 : Nat) = 2 ^ 64 := by decide
  rw [xor_nat a b (by omega) (by omega), xor_nat _ a (by rw [h64]; exact Nat.xor_lt_two_pow (by rw [← h64]; omega) (by rw [← h64]; omega)) (by omega), Nat.xor_comm a b, Nat.xor_assoc, Nat.xor_self, Nat.xor_zero]
theorem xor_r {x y : Int} (hx : okW x) (hy : okW y) : bitF .xor .u64 (bitF .xor .u64 x y) y = x := by
  unfold okW at hx hy
  obtain ⟨a, rfl⟩ := Int.eq_ofNat_of_zero_le hx.1
  obtain ⟨b, rfl⟩ := Int.eq_ofNat_of_zero_le hy.1
  have h64 : (18446744073709551616 : Nat) = 2 ^ 64 := by decide
  rw [xor_nat a b (by omega) (by omega), xor_nat _ b (by rw [h64]; exact Nat.xor_lt_two_pow (by rw [← h64]; omega) (by rw [← h64]; omega)) (by omega), Nat.xor_assoc, Nat.xor_self, Nat.xor_zero]
theorem sgn_i {x : Int} (hx : okW x) : sgn x.toNat = decide (x / 9223372036854775808 = 1) := by
  unfold okW at hx
  unfold sgn
  by_cases h : x / 9223372036854775808 = 1
  · rw [decide_eq_true h]; simp; omega
  · rw [decide_eq_false h]; simp; omega
theorem sp_least (W0 : World) (own : Own) (x y : Int) (hx : okW x) : Pure Tryz.prog W0 111 [.int .u64 x, .int .u64 y] own (.int .u64 (if lessC x.toNat y.toNat then x else y)) := by
  have hs := sgn_i hx
  unfold okW at hx
  refine pure_of (spec_of mixed low_ref02_least (by simp [ir_ref02_least]) ?_)
  cases h1 : fcmp .lss (FloatKind.f64.format.order x.toNat y.toNat) <;> cases h2 : fcmp .eql (FloatKind.f64.format.order x.toNat y.toNat) <;> by_cases h3 : x / 9223372036854775808 = 1
  all_goals
    repeat' ((try (conv => whnf)); first | (refine when_y ?_) | (refine when_ft ?_) | (refine when_tf ?_) | (refine br_t ?_) | (refine br_f ?_) | (refine br_py (by omega) ?_) | (refine br_pn (by omega) ?_) | (refine fcmp_e _ h1 ?_) | (refine fcmp_e _ h2 ?_) | (refine shr_l 63 9223372036854775808 rfl rfl (by omega) rfl ?_))
    all_goals (refine ⟨ret1 (vi ?_), by (repeat (first | exact Ent.refl | exact Ent.left | refine Ent.cons ?_ | refine Ent.app ?_))⟩; simp [lessC, h1, h2, hs, h3])
end Go.Proofs.YtfompmhncnkcfaaGreatDoor.Alu
