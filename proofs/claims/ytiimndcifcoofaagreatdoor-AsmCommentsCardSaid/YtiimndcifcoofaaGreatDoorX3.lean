/- What the laws share, part 3. No condition. -/
import Derived.Test.YtiimndcifcoofaaGreatDoorRows
import Derived.ProofKit
import Derived.OpenShut
import Derived.ChangeOld
import Derived.Below
import Derived.LaidMore
import Derived.Lay
import Derived.LaidByTextLater
import Derived.Stop.Joined
import Derived.SevenTiedAt
import Derived.Shelf.Strings.FieldsFuncAny
import Derived.Test.YtiimndcifcoofaaGreatDoorProg
import Derived.Shelf.Sort.Plain
import Derived.Shelf.Slices.In.SortNone
import Derived.Shelf.Slices.CompactI
import Derived.Ground.Names2Prog
import Derived.Lib.SlicesCompact
import Derived.Shelf.Strings.Search1
import Derived.Shelf.Strings.Search2
import Derived.Shelf.Strings.Search3
import Derived.Shelf.Strings.Prefix
import Derived.Shelf.Strings.OnBuilder
import Derived.Shelf.Strings.Builder1
import Derived.Shelf.Strings.Builder2
import Derived.Shelf.Strconv.Itoa3
import Derived.Shelf.LaysM
import Derived.Shelf.Strconv.ParseIntPublic10
import Derived.Lib.SmallJoins
import Derived.Test.YtiimndcifcoofaaGreatDoorX2
namespace Go.Proofs.YtiimndcifcoofaaGreatDoor
open Go Go.ChangeShapes Go.WideShapes Go.ChangeAt Go.RowKit
section
variable {P : Program} {w : World} {b0 : Nat} {t : TypeId} {v : Value}
theorem cell_int {k : IntKind} (ht : P.underlying t = some (.int k)) (h : Cell.okWide P w .any b0 t v) : ∃ n, v = .int k n ∧ inK k n := by
  simp only [Cell.okWide, ht, Cell.ok] at h
  split at h <;> simp_all
  exact inK_has h.2
theorem val_int {k : IntKind} (ht : P.underlying t = some (.int k)) (h : Value.okWide P w .any b0 t v) : ∃ n, v = .int k n ∧ inK k n := by
  simp only [Value.okWide, ht] at h
  exact cell_int ht h
end
end Go.Proofs.YtiimndcifcoofaaGreatDoor
namespace Go.Proofs.YtiimndcifcoofaaGreatDoor
open Go Go.RowKit
set_option maxRecDepth 10000
set_option maxHeartbeats 4000000
def numR (l : List UInt8) : Int × Bool := match rnum l with
  | some v => (v, true)
  | none => (0, false)
theorem dec_num (s : ByteArray) : (decM s).2 = (numR s.data.toList).2 ∧ ((decM s).2 = true → (decM s).1 = (numR s.data.toList).1) := by
  have h := rnum_pib s.data.toList
  have hp : Go.Lib.hasPrefix s.data.toList [43] = true ↔ ∃ r, s.data.toList = 43 :: r := by
    unfold Go.Lib.hasPrefix
    cases s.data.toList with
    | nil => exact Iff.intro (fun h => absurd h (by decide)) (fun h => by obtain ⟨r, h⟩ := h; cases h)
    | cons c r =>
      have e : List.isPrefixOf [43] (c :: r) = (43 == c) := by rw [List.isPrefixOf_cons_cons, List.isPrefixOf_nil_left, Bool.and_true]
      rw [e, beq_iff_eq]
      exact ⟨fun h => ⟨r, by rw [h]⟩, fun ⟨r', h⟩ => (List.cons.inj h).1.symm⟩
  by_cases hx : Go.Lib.hasPrefix s.data.toList [43] = true
  · obtain ⟨r, hr⟩ := hp.1 hx
    have : rnum s.data.toList = none := by
      cases hn : rnum s.data.toList with
      | none => rfl
      | some v => exact absurd rfl (((h v).1 hn).1 43 r hr)
    unfold decM numR
    rw [if_pos hx, this]
    simp
  · have hnp : ∀ c r, s.data.toList = c :: r → c.toNat ≠ 43 := fun c r hr h43 => hx (hp.2 ⟨r, by rw [hr]; congr 1; exact UInt8.toNat.inj h43⟩)
    unfold decM
    rw [if_neg hx]
    cases hq : Go.Lib.parseIntB 64 s.data.toList with
    | ok v =>
      have : rnum s.data.toList = some v := (h v).2 ⟨hnp, hq⟩
      unfold numR pintV pintOk
      rw [this, hq]
      simp
    | _ =>
      have : rnum s.data.toList = none := by
        cases hn : rnum s.data.toList with
        | none => rfl
        | some v => have := ((h v).1 hn).2; rw [hq] at this; cases this
      unfold numR pintOk
      rw [this, hq]
      simp
end Go.Proofs.YtiimndcifcoofaaGreatDoor
namespace Go.Proofs.YtiimndcifcoofaaGreatDoor
open Go Go.RowKit
set_option maxRecDepth 10000
set_option maxHeartbeats 4000000
theorem reg65 : isReg 65 := .inl rfl
theorem reg66 : isReg 66 := .inr (.inl rfl)
theorem reg67 : isReg 67 := .inr (.inr rfl)
theorem reg73 : ¬ isReg 73 := by decide
end Go.Proofs.YtiimndcifcoofaaGreatDoor
