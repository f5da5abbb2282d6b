/- What the laws share, part 14. No condition. -/
import Derived.Test.YtllddgdmmfmpkaaGreatDoorRows
import Derived.ProofKit
import Derived.OpenShut
import Derived.ChangeOld
import Derived.Below
import Derived.Test.YtllddgdmmfmpkaaGreatDoorY13
namespace Go.Proofs.YtllddgdmmfmpkaaGreatDoor
open Go Go.ChangeShapes Go.WideShapes Go.ChangeAt Go.RowKit
theorem below_st {W w : World} {own : Own} (h : St W own w) : Below W.heap.size W w := ⟨h.os, h.tape, h.output, h.size, h.base⟩
theorem st_nil (W : World) : St W [] W := ⟨rfl, rfl, rfl, Nat.le_refl _, fun _ _ => rfl, fun e he => (by cases he), fun e he => (by cases he), List.nodup_nil⟩
section
variable {P : Program} {w : World} {b0 : Nat} {t : TypeId} {v : Value}
def inK : IntKind → Int → Prop
  | .i8, n => -128 ≤ n ∧ n ≤ 127
  | .i16, n => -32768 ≤ n ∧ n ≤ 32767
  | .i32, n => -2147483648 ≤ n ∧ n ≤ 2147483647
  | .i64, n => -9223372036854775808 ≤ n ∧ n ≤ 9223372036854775807
  | .u8, n => 0 ≤ n ∧ n ≤ 255
  | .u16, n => 0 ≤ n ∧ n ≤ 65535
  | .u32, n => 0 ≤ n ∧ n ≤ 4294967295
  | .u64, n => 0 ≤ n ∧ n ≤ 18446744073709551615
theorem inK_has {k : IntKind} {n : Int} (h : k.has n) : inK k n := by
  cases k <;> (simp only [IntKind.has, IntKind.min, IntKind.max, IntKind.signed, IntKind.bits] at h; simpa [inK] using h)
theorem cell_int {k : IntKind} (ht : P.underlying t = some (.int k)) (h : Cell.okWide P w .any b0 t v) : ∃ n, v = .int k n ∧ inK k n := by
  simp only [Cell.okWide, ht, Cell.ok] at h
  split at h <;> simp_all
  exact inK_has h.2
theorem val_int {k : IntKind} (ht : P.underlying t = some (.int k)) (h : Value.okWide P w .any b0 t v) : ∃ n, v = .int k n ∧ inK k n := by
  simp only [Value.okWide, ht] at h
  exact cell_int ht h
theorem trodAll_below {H : Type} {enc : TypeId × Value → H} (hl : laidOutB P = true) {W W' : World} (hb : Below W.heap.size W W') :
    ∀ {ts : List TypeId} {vs : List Value} {ds : List (DataW H)} {p : List MemPlace}, (ts.all fun t => P.readableRec t && decide (t < P.types.size)) = true →
      DataW.TrodAll enc P W 0 (fun _ => true) true ts vs ds p → DataW.TrodAll enc P W' 0 (fun b => decide (b < W.heap.size)) true ts vs ds p
  | [], [], [], _, _, h => h
  | t :: ts, v :: vs, d :: ds, p, hr, h => by
    obtain ⟨p0, q, h0, hs, rfl⟩ := h
    simp only [List.all_cons, Bool.and_eq_true, decide_eq_true_eq] at hr
    refine ⟨p0, q, Below.trod hl hr.1.1 hr.1.2 h0 hb ?_, trodAll_below hl hb (by simpa using hr.2) hs, rfl⟩
    obtain ⟨m, hm⟩ := h0
    exact DataW.trod_lt m _ _ _ hm
  | [], _ :: _, _, _, _, h => h.elim
  | [], [], _ :: _, _, _, h => h.elim
  | _ :: _, [], _, _, _, h => h.elim
  | _ :: _, _ :: _, [], _, _, h => h.elim
end
theorem rowOwn : ownKnob Tryz.prog.godebug = none := by kernel_rfl
theorem rowLaid : laidOutB Tryz.prog = true := by kernel_rfl
end Go.Proofs.YtllddgdmmfmpkaaGreatDoor
