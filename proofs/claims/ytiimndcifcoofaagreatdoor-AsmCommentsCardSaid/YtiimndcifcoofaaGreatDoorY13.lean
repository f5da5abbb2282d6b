/- What the laws share, part 13. No condition. -/
import Derived.LaidMore
import Derived.Lay
import Derived.LaidByTextLater
import Derived.Stop.Joined
import Derived.SevenTiedAt
import Derived.Test.YtiimndcifcoofaaGreatDoorY12
namespace Go.Proofs.YtiimndcifcoofaaGreatDoor
open Go Go.ChangeShapes Go.WideShapes Go.ChangeAt Go.RowKit
def litCells {H : Type} : Nat → DataW H → Option (List Value)
  | 0, _ => none
  | _ + 1, .lit (.int k n) => some [.int k n]
  | _ + 1, .lit (.bool b) => some [.bool b]
  | _ + 1, .lit (.string l) => some [.string ⟨l.toArray⟩]
  | n + 1, .agg ds => (ds.mapM (litCells n)).map List.flatten
  | _ + 1, _ => none
def tile (P : Program) (f : TypeId → Bool) : List Field → Nat → Option Nat
  | [], off => some off
  | x :: r, off => if x.offset = off ∧ f x.type = true then tile P f r (off + P.cellsOf x.type) else none
def flatT (P : Program) : Nat → TypeId → Bool
  | 0, _ => false
  | n + 1, t => match P.underlying t with
    | some (.int _) | some .bool | some .string => true
    | some (.array k e) => flatT P n e && decide (P.cellsOf t = k * P.cellsOf e)
    | some (.struct fs) => tile P (flatT P n) fs.toList 0 == some (P.cellsOf t)
    | _ => false
theorem mapM_all {α β : Type} {f : α → Option β} : ∀ (l : List α) (ys : List β), l.length = ys.length → (∀ (i : Nat) x, l[i]? = some x → f x = ys[i]?) → l.mapM f = some ys
  | [], [], _, _ => by simp
  | x :: l, y :: ys, hl, h => by
    have h0 := h 0 x rfl
    simp only [List.getElem?_cons_zero] at h0
    have ih := mapM_all l ys (by simpa using hl) (fun i x hx => by have := h (i + 1) x (by simpa using hx); simpa using this)
    rw [List.mapM_cons, h0, ih]
    rfl
  | [], _ :: _, hl, _ => by cases hl
  | _ :: _, [], hl, _ => by cases hl
theorem chunks_flat {cs : List Value} (s : Nat) : ∀ k, ((List.range k).map fun i => (cs.drop (i * s)).take s).flatten = cs.take (k * s)
  | 0 => by simp
  | k + 1 => by
    rw [List.range_succ, List.map_append, List.flatten_append, chunks_flat s k, Nat.succ_mul, List.take_add]
    simp
theorem tile_flat {P : Program} {f : TypeId → Bool} {cs : List Value} : ∀ (l : List Field) (off tot : Nat), tile P f l off = some tot → off ≤ tot ∧ (l.map fun x => (cs.drop x.offset).take (P.cellsOf x.type)).flatten = (cs.drop off).take (tot - off)
  | [], off, tot, h => by
    simp only [tile, Option.some.injEq] at h
    subst h
    simp
  | x :: l, off, tot, h => by
    unfold tile at h
    split at h
    · rename_i hx
      obtain ⟨h1, h2⟩ := tile_flat (cs := cs) l _ tot h
      refine ⟨by omega, ?_⟩
      rw [List.map_cons, List.flatten_cons, h2, hx.1]
      have e : tot - off = P.cellsOf x.type + (tot - (off + P.cellsOf x.type)) := by omega
      rw [e, List.take_add, List.drop_drop]
    · cases h
theorem tile_all {P : Program} {f : TypeId → Bool} : ∀ (l : List Field) (off tot : Nat), tile P f l off = some tot → ∀ x ∈ l, f x.type = true
  | [], _, _, _, x, hx => by cases hx
  | y :: l, off, tot, h, x, hx => by
    unfold tile at h
    split at h
    · rename_i hy
      rcases List.mem_cons.1 hx with rfl | hx
      · exact hy.2
      · exact tile_all l _ _ h x hx
    · cases h
section
variable {H : Type} {enc : TypeId × Value → H} {P : Program} {w : World} {base : Nat} {spare : Nat → Bool} {held : Bool}
theorem trod_flat : ∀ (n fuel : Nat) (t : TypeId) (cs : List Value) (d : DataW H) (p : List MemPlace), flatT P n t = true → DataW.trod enc P w base spare held fuel t cs = some (d, p) → litCells n d = some cs
  | 0, _, _, _, _, _, h, _ => by simp [flatT] at h
  | n + 1, fuel, t, cs, d, p, h, hd => by
    unfold flatT at h
    split at h
    · rename_i hu
      obtain ⟨m, rfl, hx, _⟩ := DataW.trod_int hu hd
      simp only [Prod.mk.injEq] at hx
      rw [hx.1]; rfl
    · rename_i hu
      obtain ⟨m, rfl, hx⟩ := DataW.trod_bool hu hd
      simp only [Prod.mk.injEq] at hx
      rw [hx.1]; rfl
    · rename_i hu
      obtain ⟨m, rfl, hx, _⟩ := DataW.trod_string hu hd
      simp only [Prod.mk.injEq] at hx
      rw [hx.1]; simp [litCells]
    · rename_i k e hu
      simp only [Bool.and_eq_true, decide_eq_true_eq] at h
      obtain ⟨xs, m, _, hx, hl, hxl, hel⟩ := DataW.trod_array hu hd
      simp only [Prod.mk.injEq] at hx
      rw [hx.1]
      have hm : (xs.map (·.1)).mapM (litCells n) = some ((List.range k).map fun i => (cs.drop (i * P.cellsOf e)).take (P.cellsOf e)) := by
        refine mapM_all _ _ (by simp [hxl]) fun i x hx => ?_
        rw [List.getElem?_map] at hx
        obtain ⟨y, hy, rfl⟩ := Option.map_eq_some_iff.1 hx
        have hi : i < k := by rw [← hxl]; exact (List.getElem?_eq_some_iff.1 hy).1
        have := hel i hi
        rw [hy] at this
        rw [trod_flat n m e _ y.1 y.2 h.1 this]
        simp [hi]
      simp only [litCells, hm, Option.map_some]
      rw [chunks_flat, ← h.2, ← hl, List.take_length]
    · rename_i fs hu
      simp only [beq_iff_eq] at h
      obtain ⟨xs, m, _, hx, hl, hxl, hel⟩ := DataW.trod_struct hu hd
      simp only [Prod.mk.injEq] at hx
      rw [hx.1]
      have hm : (xs.map (·.1)).mapM (litCells n) = some (fs.toList.map fun x => (cs.drop x.offset).take (P.cellsOf x.type)) := by
        refine mapM_all _ _ (by simp [hxl]) fun i x hx => ?_
        rw [List.getElem?_map] at hx
        obtain ⟨y, hy, rfl⟩ := Option.map_eq_some_iff.1 hx
        have hi : i < fs.size := by rw [← hxl]; exact (List.getElem?_eq_some_iff.1 hy).1
        have hf : fs[i]? = some fs[i] := Array.getElem?_eq_getElem hi
        have := hel i fs[i] hf
        rw [hy] at this
        have hft := tile_all fs.toList 0 _ h fs[i] (by simp)
        rw [trod_flat n m _ _ y.1 y.2 hft this]
        simp [hi]
      simp only [litCells, hm, Option.map_some]
      rw [(tile_flat (cs := cs) fs.toList 0 _ h).2]
      simp [← hl]
    · cases h
end
structure LaidAt (W0 : World) (g : Nat) (cs : List Value) : Prop where
  size : g < W0.heap.size
  cell : ∀ j v, cs[j]? = some v → W0.cell? ⟨g, j, none⟩ = some v
theorem LaidAt.st {W0 w : World} {own : Own} {g : Nat} {cs : List Value} (h : LaidAt W0 g cs) (hw : St W0 own w) : LaidAt w g cs :=
  ⟨Nat.lt_of_lt_of_le h.size hw.size, fun j v hv => (World.cell?_of_block (w := W0) (hw.base g h.size)).trans (h.cell j v hv)⟩
theorem LaidAt.kn {W0 : World} {own : Own} {g : Nat} {cs : List Value} (h : LaidAt W0 g cs) {j : Nat} {v : Value} (hv : cs[j]? = some v) : Kn W0 own (fun w => w.cell? ⟨g, j, none⟩ = some v) := fun _ hw => (h.st hw).cell j v hv
theorem ld_laid {W0 : World} {own : Own} {g : Nat} {cs : List Value} (h : LaidAt W0 g cs) {j : Nat} {K : Value → Prop} (v : Value) (hv : cs[j]? = some v) (hk : K v) : Ld W0 own ⟨g, j, none⟩ K := ⟨v, h.kn hv, hk⟩
theorem ldN_laid {W0 : World} {own : Own} {g : Nat} {cs : List Value} (h : LaidAt W0 g cs) {j n : Nat} {K : Array Value → Prop} (vs : List Value) (hv : (cs.drop j).take n = vs) (hl : vs.length = n) (hk : K vs.toArray) : LdN W0 own ⟨g, j, none⟩ n K := by
  refine ⟨vs.toArray, by simpa using hl, fun w hw i hi => ?_, hk⟩
  rw [addr_add]
  have hi' : i < vs.length := by omega
  refine (h.kn (own := own) (v := vs[i]) ?_ w hw).trans (by simp [hi'])
  subst hv
  rw [List.getElem?_eq_some_iff]
  simp only [List.length_take, List.length_drop] at hi'
  exact ⟨by omega, by simp [List.getElem_take, List.getElem_drop]⟩
theorem laid_all {P : Program} {w : World} : ∀ {l : List (String × DataW Unit)} {ps : List MemPlace}, DataW.LaidVars P w l ps → ∀ {n : String} {d : DataW Unit}, (n, d) ∈ l →
    ∃ g t cs fuel p, P.globalNamed n = some g ∧ (P.globals[g]?).map (·.type) = some t ∧ w.var? P n = some cs ∧ DataW.trod (fun _ => ()) P w 0 (fun _ => true) false fuel t cs.toList = some (d, p)
  | [], _, _, _, _, h => by cases h
  | (n', d') :: r, ps, hL, n, d, h => by
    obtain ⟨g, t, cs, fuel, p, q, h1, h2, h3, h4, h5, _⟩ := hL
    rcases List.mem_cons.1 h with e | h
    · cases e
      exact ⟨g, t, cs, fuel, p, h1, h2, h3, h4⟩
    · exact laid_all h5 h
theorem laid_at {P : Program} {w : World} {l : List (String × DataW Unit)} {n : String} {d : DataW Unit} {g : Nat} {t : TypeId} {cs : List Value} (hp : (l.all fun x => x.2.handleName?.isNone) = true)
    (h : laidMetH P l w) (hm : (n, d) ∈ l) (hg : P.globalNamed n = some g) (ht : (P.globals[g]?).map (·.type) = some t) (hf : flatT P 6 t = true) (hc : litCells 6 d = some cs) (hne : cs ≠ []) : LaidAt w g cs := by
  rw [MakeChecks.laidMetH_plain _ _ _ hp] at h
  obtain ⟨ps, hL, _, _⟩ := h
  obtain ⟨g', t', cs', fuel, p, h1, h2, h3, h4⟩ := laid_all hL hm
  rw [hg] at h1
  obtain rfl := Option.some.inj h1
  rw [ht] at h2
  obtain rfl := Option.some.inj h2
  have h5 := trod_flat 6 fuel t _ d p hf h4
  rw [hc] at h5
  have h5 := (Option.some.inj h5).symm
  have hcell : ∀ j v, cs[j]? = some v → w.cell? ⟨g, j, none⟩ = some v := fun j v hv => by
    rw [World.var?_cell hg h3 j, ← Array.getElem?_toList, h5, hv]
  refine ⟨?_, hcell⟩
  match cs, hne with
  | v :: _, _ =>
    have := hcell 0 v rfl
    unfold World.cell? at this
    split at this
    · rename_i hb
      exact (Array.getElem?_eq_some_iff.1 hb).1
    · cases this
end Go.Proofs.YtiimndcifcoofaaGreatDoor
namespace Go.Proofs.YtiimndcifcoofaaGreatDoor
open Go
set_option maxRecDepth 10000
set_option maxHeartbeats 4000000
def nms : List ByteArray := [⟨#[97, 100, 100]⟩, ⟨#[115, 117, 98]⟩, ⟨#[109, 117, 108]⟩, ⟨#[97, 110, 100]⟩, ⟨#[111, 114]⟩, ⟨#[120, 111, 114]⟩, ⟨#[115, 104, 108]⟩, ⟨#[115, 104, 114]⟩, ⟨#[101, 113]⟩, ⟨#[110, 101]⟩, ⟨#[108, 116]⟩, ⟨#[108, 116, 117]⟩, ⟨#[102, 97, 100, 100]⟩, ⟨#[102, 115, 117, 98]⟩, ⟨#[102, 109, 117, 108]⟩, ⟨#[102, 100, 105, 118]⟩, ⟨#[102, 109, 105, 110]⟩, ⟨#[102, 109, 97, 120]⟩, ⟨#[102, 101, 113]⟩, ⟨#[102, 108, 116]⟩, ⟨#[102, 114, 111, 109, 105, 110, 116]⟩, ⟨#[116, 111, 105, 110, 116]⟩]
def nameAt (j : Nat) : ByteArray := nms.getD j ⟨#[]⟩
abbrev NamesAt (W0 : World) : Prop := LaidAt W0 1 (nms.map Value.string)
theorem kn_name {W0 : World} {own : Own} (h : NamesAt W0) {j : Nat} (hj : j < 22) : Kn W0 own (fun w => w.cell? ⟨1, j, none⟩ = some (.string (nameAt j))) := h.kn (by
  have hl : nms.length = 22 := rfl
  simp [nameAt, hl, hj])
def nameM (fn : Int) : ByteArray := if 0 ≤ fn ∧ fn < 22 then nameAt fn.toNat else ⟨#[]⟩
theorem sp_name (W0 : World) (own : Own) (hN : NamesAt W0) (fn : Int) : Pure Tryz.prog W0 35 [.int .i64 fn] own (.string (nameM fn)) := by
  refine pure_of (spec_of mixed low_alu_Name (by simp [ir_alu_Name]) ?_)
  by_cases h : 0 ≤ fn ∧ fn < 22
  · have hk := kn_name (own := own) hN (j := fn.toNat) (by omega)
    have e : 0 + fn.toNat * 1 = fn.toNat := by omega
    rw [← e] at hk
    repeat' ((try (conv => whnf)); first | (refine when_y ?_) | (refine when_ft ?_) | (refine when_tf ?_) | (refine br_t ?_) | (refine br_f ?_) | (refine br_py (by omega) ?_) | (refine br_pn (by omega) ?_) | (refine when_py (by omega) ?_) | (refine when_pn (by omega) ?_) | (refine br_npy (by omega) ?_) | (refine br_npn (by omega) ?_) | (refine when_npy (by omega) ?_) | (refine when_npn (by omega) ?_) | (refine ld_kn hk ?_) | (refine when_y ?_) | (refine when_ft ?_) | (refine when_tf ?_) | (refine br_t ?_) | (refine br_f ?_) | (refine ari ?_ ?_; omega) | (refine aru ?_ ?_; omega) | (apply sel; exact rfl) | (refine ix0 rfl ?_) | (refine ix1 rfl ?_) | (refine ix2 rfl ?_) | (refine ix3 rfl ?_) | (refine ix4 rfl ?_) | (apply ixj; omega) | (refine ixn ?_ ?_; omega) | (refine ixs0 rfl ?_) | (refine ixs1 rfl ?_) | (refine ixs2 rfl ?_) | (refine ixs_j ?_ ?_; omega) | (refine ixs_n ?_ ?_; omega) | (apply ld_own; (first | (solve | repeat (first | with_reducible exact List.mem_cons_self | (with_reducible (apply List.mem_append_left; exact List.mem_cons_self)) | with_reducible apply List.mem_cons_of_mem | with_reducible apply List.mem_append_right)) | (repeat (first | exact List.Mem.head _ | apply List.Mem.tail | apply List.mem_append_right))); exact rfl) | (apply ldN_all; (first | (solve | repeat (first | with_reducible exact List.mem_cons_self | (with_reducible (apply List.mem_append_left; exact List.mem_cons_self)) | with_reducible apply List.mem_cons_of_mem | with_reducible apply List.mem_append_right)) | (repeat (first | exact List.Mem.head _ | apply List.Mem.tail | apply List.mem_append_right))); exact rfl) | (apply ldN_own; (first | (solve | repeat (first | with_reducible exact List.mem_cons_self | (with_reducible (apply List.mem_append_left; exact List.mem_cons_self)) | with_reducible apply List.mem_cons_of_mem | with_reducible apply List.mem_append_right)) | (repeat (first | exact List.Mem.head _ | apply List.Mem.tail | apply List.mem_append_right))); exact rfl; exact rfl) | (apply st_own; (first | (solve | repeat (first | with_reducible exact Up.head | with_reducible apply Up.tail | with_reducible apply Up.app)) | (repeat (first | exact Up.head | apply Up.tail | apply Up.app))); (solve | ((try (conv => arg 2; whnf)); repeat' (first | exact Lis.nil | apply Lis.cons | apply SetAt.here | apply SetAt.there | apply PutAt.done | apply PutAt.put | apply PutAt.skip))); exact rfl) | (apply stN_own; (first | (solve | repeat (first | with_reducible exact Up.head | with_reducible apply Up.tail | with_reducible apply Up.app)) | (repeat (first | exact Up.head | apply Up.tail | apply Up.app))); (solve | ((try (conv => arg 2; whnf)); repeat' (first | exact Lis.nil | apply Lis.cons | apply SetAt.here | apply SetAt.there | apply PutAt.done | apply PutAt.put | apply PutAt.skip))); exact rfl) | (refine new_i (fun bk hbk => ?_)) | (refine when_dt (fun hc => ?_) (fun hc => ?_)) | (refine when_df (fun hc => ?_) (fun hc => ?_)) | (refine when_ndt (fun hc => ?_) (fun hc => ?_)) | (refine when_ndf (fun hc => ?_) (fun hc => ?_)) | (refine br_d (fun hc => ?_) (fun hc => ?_)) | (refine br_nd (fun hc => ?_) (fun hc => ?_)) | (refine shl0 ?_ ?_; omega) | (refine shl1 ?_ ?_; omega) | (refine shl2 ?_ ?_; omega) | (refine shl3 ?_ ?_; omega) | (refine mm_min ?_) | (refine mm_max ?_) | (refine quo_i ?_ ?_; omega) | (refine rem_i ?_ ?_; omega) | (refine stN_and rfl ?_) | (refine SelN.mk ?_) | (refine cut_n ?_) | (refine Both.mk ?_ ?_) | (exact True.intro) | (exact Ent.refl) | (refine Ent.cons ?_) | (fail))
    all_goals (refine ⟨?_, by (repeat (first | exact Ent.refl | exact Ent.left | refine Ent.cons ?_ | refine Ent.app ?_))⟩; simp [nameM, h, resV])
  · repeat' ((try (conv => whnf)); first | (refine when_y ?_) | (refine when_ft ?_) | (refine when_tf ?_) | (refine br_t ?_) | (refine br_f ?_) | (refine br_py (by omega) ?_) | (refine br_pn (by omega) ?_) | (refine when_py (by omega) ?_) | (refine when_pn (by omega) ?_) | (refine br_npy (by omega) ?_) | (refine br_npn (by omega) ?_) | (refine when_npy (by omega) ?_) | (refine when_npn (by omega) ?_) | (refine when_y ?_) | (refine when_ft ?_) | (refine when_tf ?_) | (refine br_t ?_) | (refine br_f ?_) | (refine ari ?_ ?_; omega) | (refine aru ?_ ?_; omega) | (apply sel; exact rfl) | (refine ix0 rfl ?_) | (refine ix1 rfl ?_) | (refine ix2 rfl ?_) | (refine ix3 rfl ?_) | (refine ix4 rfl ?_) | (apply ixj; omega) | (refine ixn ?_ ?_; omega) | (refine ixs0 rfl ?_) | (refine ixs1 rfl ?_) | (refine ixs2 rfl ?_) | (refine ixs_j ?_ ?_; omega) | (refine ixs_n ?_ ?_; omega) | (apply ld_own; (first | (solve | repeat (first | with_reducible exact List.mem_cons_self | (with_reducible (apply List.mem_append_left; exact List.mem_cons_self)) | with_reducible apply List.mem_cons_of_mem | with_reducible apply List.mem_append_right)) | (repeat (first | exact List.Mem.head _ | apply List.Mem.tail | apply List.mem_append_right))); exact rfl) | (apply ldN_all; (first | (solve | repeat (first | with_reducible exact List.mem_cons_self | (with_reducible (apply List.mem_append_left; exact List.mem_cons_self)) | with_reducible apply List.mem_cons_of_mem | with_reducible apply List.mem_append_right)) | (repeat (first | exact List.Mem.head _ | apply List.Mem.tail | apply List.mem_append_right))); exact rfl) | (apply ldN_own; (first | (solve | repeat (first | with_reducible exact List.mem_cons_self | (with_reducible (apply List.mem_append_left; exact List.mem_cons_self)) | with_reducible apply List.mem_cons_of_mem | with_reducible apply List.mem_append_right)) | (repeat (first | exact List.Mem.head _ | apply List.Mem.tail | apply List.mem_append_right))); exact rfl; exact rfl) | (apply st_own; (first | (solve | repeat (first | with_reducible exact Up.head | with_reducible apply Up.tail | with_reducible apply Up.app)) | (repeat (first | exact Up.head | apply Up.tail | apply Up.app))); (solve | ((try (conv => arg 2; whnf)); repeat' (first | exact Lis.nil | apply Lis.cons | apply SetAt.here | apply SetAt.there | apply PutAt.done | apply PutAt.put | apply PutAt.skip))); exact rfl) | (apply stN_own; (first | (solve | repeat (first | with_reducible exact Up.head | with_reducible apply Up.tail | with_reducible apply Up.app)) | (repeat (first | exact Up.head | apply Up.tail | apply Up.app))); (solve | ((try (conv => arg 2; whnf)); repeat' (first | exact Lis.nil | apply Lis.cons | apply SetAt.here | apply SetAt.there | apply PutAt.done | apply PutAt.put | apply PutAt.skip))); exact rfl) | (refine new_i (fun bk hbk => ?_)) | (refine when_dt (fun hc => ?_) (fun hc => ?_)) | (refine when_df (fun hc => ?_) (fun hc => ?_)) | (refine when_ndt (fun hc => ?_) (fun hc => ?_)) | (refine when_ndf (fun hc => ?_) (fun hc => ?_)) | (refine br_d (fun hc => ?_) (fun hc => ?_)) | (refine br_nd (fun hc => ?_) (fun hc => ?_)) | (refine shl0 ?_ ?_; omega) | (refine shl1 ?_ ?_; omega) | (refine shl2 ?_ ?_; omega) | (refine shl3 ?_ ?_; omega) | (refine mm_min ?_) | (refine mm_max ?_) | (refine quo_i ?_ ?_; omega) | (refine rem_i ?_ ?_; omega) | (refine stN_and rfl ?_) | (refine SelN.mk ?_) | (refine cut_n ?_) | (refine Both.mk ?_ ?_) | (exact True.intro) | (exact Ent.refl) | (refine Ent.cons ?_) | (fail))
    all_goals (refine ⟨?_, by (repeat (first | exact Ent.refl | exact Ent.left | refine Ent.cons ?_ | refine Ent.app ?_))⟩; simp [nameM, h, resV])
def numG (s : ByteArray) : Nat → Nat → Int × Bool
  | 0, _ => (0, false)
  | n + 1, k => if (nameAt k).toList = s.toList then (k, true) else numG s n (k + 1)
def numM (s : ByteArray) : Int × Bool := numG s 22 0
theorem sp_number0 (W0 : World) (own : Own) (hN : NamesAt W0) (s : ByteArray) : Pure Tryz.prog W0 107 [.string s] own (.tuple #[.int .i64 (numM s).1, .bool (numM s).2]) := by
  refine pure_of (spec_of mixed low_alu_Number (by simp [ir_alu_Number]) ?_)
  repeat' ((try (conv => whnf)); first | (refine when_y ?_) | (refine when_ft ?_) | (refine when_tf ?_) | (refine br_t ?_) | (refine br_f ?_) | (refine br_py (by omega) ?_) | (refine br_pn (by omega) ?_) | (refine when_py (by omega) ?_) | (refine when_pn (by omega) ?_) | (refine br_npy (by omega) ?_) | (refine br_npn (by omega) ?_) | (refine when_npy (by omega) ?_) | (refine when_npn (by omega) ?_) | (refine when_y ?_) | (refine when_ft ?_) | (refine when_tf ?_) | (refine br_t ?_) | (refine br_f ?_) | (refine ari ?_ ?_; omega) | (refine aru ?_ ?_; omega) | (apply sel; exact rfl) | (refine ix0 rfl ?_) | (refine ix1 rfl ?_) | (refine ix2 rfl ?_) | (refine ix3 rfl ?_) | (refine ix4 rfl ?_) | (apply ixj; omega) | (refine ixn ?_ ?_; omega) | (refine ixs0 rfl ?_) | (refine ixs1 rfl ?_) | (refine ixs2 rfl ?_) | (refine ixs_j ?_ ?_; omega) | (refine ixs_n ?_ ?_; omega) | (apply ld_own; (first | (solve | repeat (first | with_reducible exact List.mem_cons_self | (with_reducible (apply List.mem_append_left; exact List.mem_cons_self)) | with_reducible apply List.mem_cons_of_mem | with_reducible apply List.mem_append_right)) | (repeat (first | exact List.Mem.head _ | apply List.Mem.tail | apply List.mem_append_right))); exact rfl) | (apply ldN_all; (first | (solve | repeat (first | with_reducible exact List.mem_cons_self | (with_reducible (apply List.mem_append_left; exact List.mem_cons_self)) | with_reducible apply List.mem_cons_of_mem | with_reducible apply List.mem_append_right)) | (repeat (first | exact List.Mem.head _ | apply List.Mem.tail | apply List.mem_append_right))); exact rfl) | (apply ldN_own; (first | (solve | repeat (first | with_reducible exact List.mem_cons_self | (with_reducible (apply List.mem_append_left; exact List.mem_cons_self)) | with_reducible apply List.mem_cons_of_mem | with_reducible apply List.mem_append_right)) | (repeat (first | exact List.Mem.head _ | apply List.Mem.tail | apply List.mem_append_right))); exact rfl; exact rfl) | (apply st_own; (first | (solve | repeat (first | with_reducible exact Up.head | with_reducible apply Up.tail | with_reducible apply Up.app)) | (repeat (first | exact Up.head | apply Up.tail | apply Up.app))); (solve | ((try (conv => arg 2; whnf)); repeat' (first | exact Lis.nil | apply Lis.cons | apply SetAt.here | apply SetAt.there | apply PutAt.done | apply PutAt.put | apply PutAt.skip))); exact rfl) | (apply stN_own; (first | (solve | repeat (first | with_reducible exact Up.head | with_reducible apply Up.tail | with_reducible apply Up.app)) | (repeat (first | exact Up.head | apply Up.tail | apply Up.app))); (solve | ((try (conv => arg 2; whnf)); repeat' (first | exact Lis.nil | apply Lis.cons | apply SetAt.here | apply SetAt.there | apply PutAt.done | apply PutAt.put | apply PutAt.skip))); exact rfl) | (refine new_i (fun bk hbk => ?_)) | (refine when_dt (fun hc => ?_) (fun hc => ?_)) | (refine when_df (fun hc => ?_) (fun hc => ?_)) | (refine when_ndt (fun hc => ?_) (fun hc => ?_)) | (refine when_ndf (fun hc => ?_) (fun hc => ?_)) | (refine br_d (fun hc => ?_) (fun hc => ?_)) | (refine br_nd (fun hc => ?_) (fun hc => ?_)) | (refine shl0 ?_ ?_; omega) | (refine shl1 ?_ ?_; omega) | (refine shl2 ?_ ?_; omega) | (refine shl3 ?_ ?_; omega) | (refine mm_min ?_) | (refine mm_max ?_) | (refine quo_i ?_ ?_; omega) | (refine rem_i ?_ ?_; omega) | (refine stN_and rfl ?_) | (refine SelN.mk ?_) | (refine cut_n ?_) | (refine Both.mk ?_ ?_) | (exact True.intro) | (exact Ent.refl) | (refine Ent.cons ?_) | (fail))
  refine loop_c (σ := Nat) (fun b => [(5, .int .i64 b)]) (fun b => b ≤ 22 ∧ numG s (22 - b) b = numM s) (fun b => 22 - b) 0 ⟨by omega, rfl⟩ (by repeat' (first | exact True.intro | refine And.intro ?_ ?_ | exact rfl | exact vi (by omega) | (dsimp only; exact rfl) | (dsimp only; exact vi (by omega)))) rfl ?_
  rintro b junk ⟨hb1, hI⟩
  by_cases hlt : b < 22
  · have hk := kn_name (own := own) hN (j := b) (by omega)
    have e : 0 + b * 1 = b := by omega
    rw [← e] at hk
    obtain ⟨m, hm⟩ : ∃ m, 22 - b = m + 1 := ⟨21 - b, by omega⟩
    rw [hm, numG] at hI
    have hm' : m = 22 - (b + 1) := by omega
    repeat' ((try (conv => whnf)); first | (refine when_y ?_) | (refine when_ft ?_) | (refine when_tf ?_) | (refine br_t ?_) | (refine br_f ?_) | (refine br_py (by omega) ?_) | (refine br_pn (by omega) ?_) | (refine when_py (by omega) ?_) | (refine when_pn (by omega) ?_) | (refine br_npy (by omega) ?_) | (refine br_npn (by omega) ?_) | (refine when_npy (by omega) ?_) | (refine when_npn (by omega) ?_) | (refine ld_kn hk ?_) | (refine when_y ?_) | (refine when_ft ?_) | (refine when_tf ?_) | (refine br_t ?_) | (refine br_f ?_) | (refine ari ?_ ?_; omega) | (refine aru ?_ ?_; omega) | (apply sel; exact rfl) | (refine ix0 rfl ?_) | (refine ix1 rfl ?_) | (refine ix2 rfl ?_) | (refine ix3 rfl ?_) | (refine ix4 rfl ?_) | (apply ixj; omega) | (refine ixn ?_ ?_; omega) | (refine ixs0 rfl ?_) | (refine ixs1 rfl ?_) | (refine ixs2 rfl ?_) | (refine ixs_j ?_ ?_; omega) | (refine ixs_n ?_ ?_; omega) | (apply ld_own; (first | (solve | repeat (first | with_reducible exact List.mem_cons_self | (with_reducible (apply List.mem_append_left; exact List.mem_cons_self)) | with_reducible apply List.mem_cons_of_mem | with_reducible apply List.mem_append_right)) | (repeat (first | exact List.Mem.head _ | apply List.Mem.tail | apply List.mem_append_right))); exact rfl) | (apply ldN_all; (first | (solve | repeat (first | with_reducible exact List.mem_cons_self | (with_reducible (apply List.mem_append_left; exact List.mem_cons_self)) | with_reducible apply List.mem_cons_of_mem | with_reducible apply List.mem_append_right)) | (repeat (first | exact List.Mem.head _ | apply List.Mem.tail | apply List.mem_append_right))); exact rfl) | (apply ldN_own; (first | (solve | repeat (first | with_reducible exact List.mem_cons_self | (with_reducible (apply List.mem_append_left; exact List.mem_cons_self)) | with_reducible apply List.mem_cons_of_mem | with_reducible apply List.mem_append_right)) | (repeat (first | exact List.Mem.head _ | apply List.Mem.tail | apply List.mem_append_right))); exact rfl; exact rfl) | (apply st_own; (first | (solve | repeat (first | with_reducible exact Up.head | with_reducible apply Up.tail | with_reducible apply Up.app)) | (repeat (first | exact Up.head | apply Up.tail | apply Up.app))); (solve | ((try (conv => arg 2; whnf)); repeat' (first | exact Lis.nil | apply Lis.cons | apply SetAt.here | apply SetAt.there | apply PutAt.done | apply PutAt.put | apply PutAt.skip))); exact rfl) | (apply stN_own; (first | (solve | repeat (first | with_reducible exact Up.head | with_reducible apply Up.tail | with_reducible apply Up.app)) | (repeat (first | exact Up.head | apply Up.tail | apply Up.app))); (solve | ((try (conv => arg 2; whnf)); repeat' (first | exact Lis.nil | apply Lis.cons | apply SetAt.here | apply SetAt.there | apply PutAt.done | apply PutAt.put | apply PutAt.skip))); exact rfl) | (refine new_i (fun bk hbk => ?_)) | (refine when_dt (fun hc => ?_) (fun hc => ?_)) | (refine when_df (fun hc => ?_) (fun hc => ?_)) | (refine when_ndt (fun hc => ?_) (fun hc => ?_)) | (refine when_ndf (fun hc => ?_) (fun hc => ?_)) | (refine br_d (fun hc => ?_) (fun hc => ?_)) | (refine br_nd (fun hc => ?_) (fun hc => ?_)) | (refine shl0 ?_ ?_; omega) | (refine shl1 ?_ ?_; omega) | (refine shl2 ?_ ?_; omega) | (refine shl3 ?_ ?_; omega) | (refine mm_min ?_) | (refine mm_max ?_) | (refine quo_i ?_ ?_; omega) | (refine rem_i ?_ ?_; omega) | (refine stN_and rfl ?_) | (refine SelN.mk ?_) | (refine cut_n ?_) | (refine Both.mk ?_ ?_) | (exact True.intro) | (exact Ent.refl) | (refine Ent.cons ?_) | (fail))
    · rw [e] at hc
      rw [if_pos hc] at hI
      refine ⟨ret2 (vi ?_) (vb ?_), by (repeat (first | exact Ent.refl | exact Ent.left | refine Ent.cons ?_ | refine Ent.app ?_))⟩ <;> rw [← hI]
    · rw [e] at hc
      rw [if_neg hc, hm'] at hI
      exact ⟨b + 1, ⟨by omega, hI⟩, by omega, (by repeat' (first | exact True.intro | refine And.intro ?_ ?_ | exact rfl | exact vi (by omega) | (dsimp only; exact rfl) | (dsimp only; exact vi (by omega)))), Ent.refl⟩
  · have : b = 22 := by omega
    subst this
    repeat' ((try (conv => whnf)); first | (refine when_y ?_) | (refine when_ft ?_) | (refine when_tf ?_) | (refine br_t ?_) | (refine br_f ?_) | (refine br_py (by omega) ?_) | (refine br_pn (by omega) ?_) | (refine when_py (by omega) ?_) | (refine when_pn (by omega) ?_) | (refine br_npy (by omega) ?_) | (refine br_npn (by omega) ?_) | (refine when_npy (by omega) ?_) | (refine when_npn (by omega) ?_) | (refine when_y ?_) | (refine when_ft ?_) | (refine when_tf ?_) | (refine br_t ?_) | (refine br_f ?_) | (refine ari ?_ ?_; omega) | (refine aru ?_ ?_; omega) | (apply sel; exact rfl) | (refine ix0 rfl ?_) | (refine ix1 rfl ?_) | (refine ix2 rfl ?_) | (refine ix3 rfl ?_) | (refine ix4 rfl ?_) | (apply ixj; omega) | (refine ixn ?_ ?_; omega) | (refine ixs0 rfl ?_) | (refine ixs1 rfl ?_) | (refine ixs2 rfl ?_) | (refine ixs_j ?_ ?_; omega) | (refine ixs_n ?_ ?_; omega) | (apply ld_own; (first | (solve | repeat (first | with_reducible exact List.mem_cons_self | (with_reducible (apply List.mem_append_left; exact List.mem_cons_self)) | with_reducible apply List.mem_cons_of_mem | with_reducible apply List.mem_append_right)) | (repeat (first | exact List.Mem.head _ | apply List.Mem.tail | apply List.mem_append_right))); exact rfl) | (apply ldN_all; (first | (solve | repeat (first | with_reducible exact List.mem_cons_self | (with_reducible (apply List.mem_append_left; exact List.mem_cons_self)) | with_reducible apply List.mem_cons_of_mem | with_reducible apply List.mem_append_right)) | (repeat (first | exact List.Mem.head _ | apply List.Mem.tail | apply List.mem_append_right))); exact rfl) | (apply ldN_own; (first | (solve | repeat (first | with_reducible exact List.mem_cons_self | (with_reducible (apply List.mem_append_left; exact List.mem_cons_self)) | with_reducible apply List.mem_cons_of_mem | with_reducible apply List.mem_append_right)) | (repeat (first | exact List.Mem.head _ | apply List.Mem.tail | apply List.mem_append_right))); exact rfl; exact rfl) | (apply st_own; (first | (solve | repeat (first | with_reducible exact Up.head | with_reducible apply Up.tail | with_reducible apply Up.app)) | (repeat (first | exact Up.head | apply Up.tail | apply Up.app))); (solve | ((try (conv => arg 2; whnf)); repeat' (first | exact Lis.nil | apply Lis.cons | apply SetAt.here | apply SetAt.there | apply PutAt.done | apply PutAt.put | apply PutAt.skip))); exact rfl) | (apply stN_own; (first | (solve | repeat (first | with_reducible exact Up.head | with_reducible apply Up.tail | with_reducible apply Up.app)) | (repeat (first | exact Up.head | apply Up.tail | apply Up.app))); (solve | ((try (conv => arg 2; whnf)); repeat' (first | exact Lis.nil | apply Lis.cons | apply SetAt.here | apply SetAt.there | apply PutAt.done | apply PutAt.put | apply PutAt.skip))); exact rfl) | (refine new_i (fun bk hbk => ?_)) | (refine when_dt (fun hc => ?_) (fun hc => ?_)) | (refine when_df (fun hc => ?_) (fun hc => ?_)) | (refine when_ndt (fun hc => ?_) (fun hc => ?_)) | (refine when_ndf (fun hc => ?_) (fun hc => ?_)) | (refine br_d (fun hc => ?_) (fun hc => ?_)) | (refine br_nd (fun hc => ?_) (fun hc => ?_)) | (refine shl0 ?_ ?_; omega) | (refine shl1 ?_ ?_; omega) | (refine shl2 ?_ ?_; omega) | (refine shl3 ?_ ?_; omega) | (refine mm_min ?_) | (refine mm_max ?_) | (refine quo_i ?_ ?_; omega) | (refine rem_i ?_ ?_; omega) | (refine stN_and rfl ?_) | (refine SelN.mk ?_) | (refine cut_n ?_) | (refine Both.mk ?_ ?_) | (exact True.intro) | (exact Ent.refl) | (refine Ent.cons ?_) | (fail))
    refine ⟨ret2 (vi ?_) (vb ?_), by (repeat (first | exact Ent.refl | exact Ent.left | refine Ent.cons ?_ | refine Ent.app ?_))⟩ <;> rw [← hI] <;> rfl
def nmV : Array Value := (nms.map Value.string).toArray
theorem sp_rnames (W0 : World) (own : Own) : Spec Tryz.prog W0 69 [] own (fun v own' => ∃ b, v = .slice (some ⟨b, 0, none⟩) 22 22 ∧ own' = (b, fun o => o = Obj.cells nmV 9) :: own) := by
  refine spec_of mixed low_ref02_names (by simp [ir_ref02_names]) ?_
  repeat' ((try (conv => whnf)); first | (refine when_y ?_) | (refine when_ft ?_) | (refine when_tf ?_) | (refine br_t ?_) | (refine br_f ?_) | (refine br_py (by omega) ?_) | (refine br_pn (by omega) ?_) | (refine when_py (by omega) ?_) | (refine when_pn (by omega) ?_) | (refine br_npy (by omega) ?_) | (refine br_npn (by omega) ?_) | (refine when_npy (by omega) ?_) | (refine when_npn (by omega) ?_) | (refine when_y ?_) | (refine when_ft ?_) | (refine when_tf ?_) | (refine br_t ?_) | (refine br_f ?_) | (refine ari ?_ ?_; omega) | (refine aru ?_ ?_; omega) | (apply sel; exact rfl) | (refine ix0 rfl ?_) | (refine ix1 rfl ?_) | (refine ix2 rfl ?_) | (refine ix3 rfl ?_) | (refine ix4 rfl ?_) | (apply ixj; omega) | (refine ixn ?_ ?_; omega) | (refine ixs0 rfl ?_) | (refine ixs1 rfl ?_) | (refine ixs2 rfl ?_) | (refine ixs_j ?_ ?_; omega) | (refine ixs_n ?_ ?_; omega) | (apply ld_own; (first | (solve | repeat (first | with_reducible exact List.mem_cons_self | (with_reducible (apply List.mem_append_left; exact List.mem_cons_self)) | with_reducible apply List.mem_cons_of_mem | with_reducible apply List.mem_append_right)) | (repeat (first | exact List.Mem.head _ | apply List.Mem.tail | apply List.mem_append_right))); exact rfl) | (apply ldN_all; (first | (solve | repeat (first | with_reducible exact List.mem_cons_self | (with_reducible (apply List.mem_append_left; exact List.mem_cons_self)) | with_reducible apply List.mem_cons_of_mem | with_reducible apply List.mem_append_right)) | (repeat (first | exact List.Mem.head _ | apply List.Mem.tail | apply List.mem_append_right))); exact rfl) | (apply ldN_own; (first | (solve | repeat (first | with_reducible exact List.mem_cons_self | (with_reducible (apply List.mem_append_left; exact List.mem_cons_self)) | with_reducible apply List.mem_cons_of_mem | with_reducible apply List.mem_append_right)) | (repeat (first | exact List.Mem.head _ | apply List.Mem.tail | apply List.mem_append_right))); exact rfl; exact rfl) | (apply st_own; (first | (solve | repeat (first | with_reducible exact Up.head | with_reducible apply Up.tail | with_reducible apply Up.app)) | (repeat (first | exact Up.head | apply Up.tail | apply Up.app))); (solve | ((try (conv => arg 2; whnf)); repeat' (first | exact Lis.nil | apply Lis.cons | apply SetAt.here | apply SetAt.there | apply PutAt.done | apply PutAt.put | apply PutAt.skip))); exact rfl) | (apply stN_own; (first | (solve | repeat (first | with_reducible exact Up.head | with_reducible apply Up.tail | with_reducible apply Up.app)) | (repeat (first | exact Up.head | apply Up.tail | apply Up.app))); (solve | ((try (conv => arg 2; whnf)); repeat' (first | exact Lis.nil | apply Lis.cons | apply SetAt.here | apply SetAt.there | apply PutAt.done | apply PutAt.put | apply PutAt.skip))); exact rfl) | (refine new_i (fun bk hbk => ?_)) | (refine when_dt (fun hc => ?_) (fun hc => ?_)) | (refine when_df (fun hc => ?_) (fun hc => ?_)) | (refine when_ndt (fun hc => ?_) (fun hc => ?_)) | (refine when_ndf (fun hc => ?_) (fun hc => ?_)) | (refine br_d (fun hc => ?_) (fun hc => ?_)) | (refine br_nd (fun hc => ?_) (fun hc => ?_)) | (refine shl0 ?_ ?_; omega) | (refine shl1 ?_ ?_; omega) | (refine shl2 ?_ ?_; omega) | (refine shl3 ?_ ?_; omega) | (refine mm_min ?_) | (refine mm_max ?_) | (refine quo_i ?_ ?_; omega) | (refine rem_i ?_ ?_; omega) | (refine stN_and rfl ?_) | (refine SelN.mk ?_) | (refine cut_n ?_) | (refine Both.mk ?_ ?_) | (exact True.intro) | (exact Ent.refl) | (refine Ent.cons ?_) | (fail))
  all_goals exact ⟨_, rfl, rfl⟩
theorem nmV_get {j : Nat} (hj : j < 22) : nmV.toList[j]? = some (.string (nameAt j)) := by
  have hl : nms.length = 22 := rfl
  simp [nmV, nameAt, hl, hj]
end Go.Proofs.YtiimndcifcoofaaGreatDoor
namespace Go.Proofs.YtiimndcifcoofaaGreatDoor
open Go Go.ChangeShapes Go.WideShapes Go.ChangeAt Go.RowKit
theorem list_of {α : Type} {Q : Nat → α → Prop} : ∀ n, (∀ i, i < n → ∃ y, Q i y) → ∃ l : List α, l.length = n ∧ ∀ i y, l[i]? = some y → Q i y
  | 0, _ => ⟨[], rfl, fun i y h => by simp at h⟩
  | n + 1, h => by
    obtain ⟨l, hl, hq⟩ := list_of n (fun i hi => h i (by omega))
    obtain ⟨y, hy⟩ := h n (by omega)
    refine ⟨l ++ [y], by simp [hl], fun i z hz => ?_⟩
    by_cases hi : i < l.length
    · rw [List.getElem?_append_left hi] at hz
      exact hq i z hz
    · rw [List.getElem?_append_right (by omega)] at hz
      have : i - l.length = 0 := by
        by_cases h0 : i - l.length = 0
        · exact h0
        · rw [List.getElem?_eq_none (by simp; omega)] at hz; cases hz
      rw [this] at hz
      simp only [List.getElem?_cons_zero, Option.some.injEq] at hz
      subst hz
      have : i = n := by omega
      subst this
      exact hy
section
variable {H : Type} {enc : TypeId × Value → H} {P : Program} {w : World} {spare : Nat → Bool} {held : Bool}
theorem cell_st {own : Own} {a : Addr} {v : Value} (h : w.cell? a = some v) : Kn w own (fun w' => w'.cell? a = some v) := fun w' hw => by
  have hb : a.block < w.heap.size := by
    unfold World.cell? at h
    split at h
    · rename_i hb; exact (Array.getElem?_eq_some_iff.1 hb).1
    · cases h
  exact (World.cell?_of_block (w := w) (hw.base a.block hb)).trans h
theorem trod_sl {α : Type} {en : α → List Value} {sz : Nat} {Φ : α → Prop} {fuel : Nat} {t e : TypeId} {cs : List Value} {x : DataW H × List MemPlace} (ht : P.underlying t = some (.slice e)) (hsz : P.cellsOf e = sz) (hpos : 0 < sz)
    (hel : ∀ n cs x, DataW.trod enc P w 0 spare held n e cs = some x → ∃ y, cs = en y ∧ Φ y) (h : DataW.trod enc P w 0 spare held fuel t cs = some x) :
    ∃ a l cap, cs = [.slice a l.length cap] ∧ RdE en sz w [] a l ∧ (∀ y ∈ l, Φ y) ∧ l.length ≤ cap := by
  rcases DataW.trod_slice ht h with ⟨rfl, _⟩ | ⟨a, len, cap, elems, rest, n, _, rfl, _, _, hl, _, hlen, hel', _⟩
  · exact ⟨none, [], 0, rfl, RdE.nil, fun _ h => (by cases h), by simp⟩
  · have key : ∀ i, i < len → ∃ y, (w.cells? 0 (a.add (i * sz)) sz = some (en y)) ∧ Φ y := fun i hi => by
      have := hel' i hi
      rw [hsz] at this
      have hi' : i < elems.length := by omega
      rw [List.getElem?_eq_getElem hi', Option.bind_eq_some_iff] at this
      obtain ⟨c, hc, hx⟩ := this
      obtain ⟨y, rfl, hy⟩ := hel _ _ _ hx
      exact ⟨y, hc, hy⟩
    obtain ⟨l, hll, hq⟩ := list_of len key
    have hget : ∀ {j k : Nat} {y : α} {v : Value}, l[j]? = some y → (en y)[k]? = some v → w.cell? ((a.add (j * sz)).add k) = some v ∧ (en y).length = sz := fun {j k y v} hy hv => by
      obtain ⟨hc, _⟩ := hq j y hy
      obtain ⟨_, hlen, hget⟩ := World.cells?_some hc
      have hk := (List.getElem?_eq_some_iff.1 hv).1
      exact ⟨(hget k (by omega)).trans hv, hlen⟩
    have hspot : l ≠ [] → a.spot = none := fun hne => by
      cases l with
      | nil => exact absurd rfl hne
      | cons y r =>
        obtain ⟨hc, _⟩ := hq 0 y rfl
        obtain ⟨_, hlen, hget⟩ := World.cells?_some hc
        have h0 := hget 0 hpos
        rw [List.getElem?_eq_getElem (by omega)] at h0
        rw [Nat.zero_mul] at h0
        have e0 : (a.add 0).add 0 = a := by simp [Addr.add]
        rw [e0] at h0
        unfold World.cell? at h0
        split at h0
        · split at h0
          · cases h0
          · rename_i hs; simpa using hs
        · cases h0
    refine ⟨some a, l, cap, by rw [hll], ⟨fun hne => ?_, fun y hy => ?_, fun {j k y v} hy hv => ?_⟩, fun y hy => ?_, by omega⟩
    · have := hspot hne
      obtain ⟨b, o, s⟩ := a
      simp only at this
      subst this
      rfl
    · obtain ⟨i, hi⟩ := List.getElem?_of_mem hy
      obtain ⟨hc, _⟩ := hq i y hi
      exact (World.cells?_some hc).2.1
    · obtain ⟨hc, _⟩ := hget hy hv
      have hs := hspot (by intro e; subst e; simp at hy)
      have he : (a.add (j * sz)).add k = ⟨ab (some a), ao (some a) + j * sz + k, none⟩ := by
        obtain ⟨b, o, s⟩ := a
        simp only at hs
        subst hs
        rw [addr_add, addr_add]
        rfl
      rw [he] at hc
      exact cell_st hc
    · obtain ⟨i, hi⟩ := List.getElem?_of_mem hy
      exact (hq i y hi).2
theorem trod_i64 {fuel : Nat} {t : TypeId} {cs : List Value} {x : DataW H × List MemPlace} {k : IntKind} (ht : P.underlying t = some (.int k)) (h : DataW.trod enc P w 0 spare held fuel t cs = some x) : ∃ n, cs = [.int k n] ∧ inK k n := by
  obtain ⟨n, rfl, _, hw⟩ := DataW.trod_int ht h
  refine ⟨n, rfl, inK_has ?_⟩
  simp only [Lit.wf, Bool.and_eq_true, decide_eq_true_eq] at hw
  exact hw
theorem trod_ints {fuel : Nat} {t e : TypeId} {k : IntKind} {cs : List Value} {x : DataW H × List MemPlace} (ht : P.underlying t = some (.slice e)) (he : P.underlying e = some (.int k)) (hsz : P.cellsOf e = 1) (h : DataW.trod enc P w 0 spare held fuel t cs = some x) :
    ∃ a l cap, cs = [.slice a l.length cap] ∧ RdE (fun n => [.int k n]) 1 w [] a l ∧ (∀ y ∈ l, inK k y) ∧ l.length ≤ cap :=
  trod_sl ht hsz (by omega) (fun _ _ _ h => trod_i64 he h) h
theorem trod_fld {fuel : Nat} {t : TypeId} {fs : Array Field} {cs : List Value} {x : DataW H × List MemPlace} (ht : P.underlying t = some (.struct fs)) (h : DataW.trod enc P w 0 spare held fuel t cs = some x) (i : Nat) (f : Field) (hf : fs[i]? = some f) :
    cs.length = P.cellsOf t ∧ ∃ m y, DataW.trod enc P w 0 spare held m f.type ((cs.drop f.offset).take (P.cellsOf f.type)) = some y := by
  obtain ⟨xs, n, _, _, hl, hxl, hel⟩ := DataW.trod_struct ht h
  have hi := (Array.getElem?_eq_some_iff.1 hf).1
  have := hel i f hf
  rw [List.getElem?_eq_getElem (by omega)] at this
  exact ⟨hl, n, _, this⟩
def fieldAt (P : Program) (t : TypeId) (i : Nat) : Option (Nat × TypeId) := match P.underlying t with
  | some (.struct fs) => (fs[i]?).map fun f => (f.offset, f.type)
  | _ => none
theorem trod_at {fuel : Nat} {t ft : TypeId} {off n : Nat} {cs : List Value} {x : DataW H × List MemPlace} (i : Nat) (hf : fieldAt P t i = some (off, ft)) (hn : P.cellsOf ft = n) (h : DataW.trod enc P w 0 spare held fuel t cs = some x) :
    cs.length = P.cellsOf t ∧ ∃ m y, DataW.trod enc P w 0 spare held m ft ((cs.drop off).take n) = some y := by
  unfold fieldAt at hf
  split at hf
  · rename_i fs hu
    obtain ⟨f, hf1, hf2⟩ := Option.map_eq_some_iff.1 hf
    simp only [Prod.mk.injEq] at hf2
    obtain ⟨rfl, rfl⟩ := hf2
    subst hn
    exact trod_fld hu h i f hf1
  · cases hf
end
end Go.Proofs.YtiimndcifcoofaaGreatDoor
