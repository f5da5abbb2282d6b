/- What the laws share, part 1. No condition. -/
import Derived.WalkKit
import Derived.Lib.ParseIntB
import Derived.Lib.ItoaNum
import Derived.Lib.FieldsP
import Derived.Lib.MapLaws
import Derived.Lib.DecodeN
import Derived.Test.YtiimndcifcoofaaGreatDoorY39
namespace Go.Proofs.YtiimndcifcoofaaGreatDoor
open Go Go.Lib
def rnumG : Int → List UInt8 → Option Int
  | v, [] => some v
  | v, c :: r => if 48 ≤ c.toNat ∧ c.toNat ≤ 57 then (if v < -922337203685477580 ∨ (v = -922337203685477580 ∧ (c.toNat : Int) - 48 > 8) then none else rnumG (10 * v - ((c.toNat : Int) - 48)) r) else none
def rnum : List UInt8 → Option Int
  | [] => none
  | c :: r => if c.toNat = 45 then (if r = [] then none else rnumG 0 r) else (match rnumG 0 (c :: r) with | some v => if v = -9223372036854775808 then none else some (-v) | none => none)
theorem pum_ge {M : Nat} : ∀ (l : List UInt8) (acc u : Nat), parseUintM M acc l = .ok u → acc ≤ u
  | [], acc, u, h => by
    simp only [parseUintM, NumEnd.ok.injEq] at h
    omega
  | c :: r, acc, u, h => by
    unfold parseUintM at h
    split at h
    · split at h
      · cases h
      · split at h
        · cases h
        · have := pum_ge r _ u h
          omega
    · cases h
theorem rnumG_pum : ∀ (l : List UInt8) (acc : Nat), acc ≤ 9223372036854775808 → ∀ v, rnumG (-(acc : Int)) l = some v ↔ ∃ u, parseUintM (2 ^ 64 - 1) acc l = .ok u ∧ u ≤ 9223372036854775808 ∧ v = -(u : Int)
  | [], acc, ha, v => by
    simp only [rnumG, parseUintM, Option.some.injEq, NumEnd.ok.injEq]
    constructor
    · rintro rfl; exact ⟨acc, rfl, ha, rfl⟩
    · rintro ⟨u, rfl, _, rfl⟩; rfl
  | c :: r, acc, ha, v => by
    unfold rnumG parseUintM
    have h64 : (2 : Nat) ^ 64 - 1 = 18446744073709551615 := by decide
    by_cases hd : 48 ≤ c.toNat ∧ c.toNat ≤ 57
    · rw [if_pos hd, if_pos hd]
      have hc : (c.toNat : Int) - 48 = ((c.toNat - 48 : Nat) : Int) := by omega
      by_cases ho : -(acc : Int) < -922337203685477580 ∨ (-(acc : Int) = -922337203685477580 ∧ (c.toNat : Int) - 48 > 8)
      · rw [if_pos ho]
        constructor
        · intro h; cases h
        · rintro ⟨u, hu, hle, _⟩
          exfalso
          split at hu
          · cases hu
          · split at hu
            · cases hu
            · have := pum_ge r _ u hu
              omega
      · rw [if_neg ho, if_neg (by omega), if_neg (by rw [h64]; omega)]
        have ih := rnumG_pum r (acc * 10 + (c.toNat - 48)) (by omega) v
        rw [← ih]
        have e : (10 : Int) * -(acc : Int) - ((c.toNat : Int) - 48) = -((acc * 10 + (c.toNat - 48) : Nat) : Int) := by omega
        rw [e]
    · rw [if_neg hd, if_neg hd]
      constructor
      · intro h; cases h
      · rintro ⟨u, hu, _⟩; cases hu
theorem rnumG_pub {l : List UInt8} (hl : l ≠ []) (v : Int) : rnumG 0 l = some v ↔ ∃ u, parseUintB 64 l = .ok u ∧ u ≤ 9223372036854775808 ∧ v = -(u : Int) := by
  have h := rnumG_pum l 0 (by omega) v
  unfold parseUintB
  rw [if_neg hl]
  exact h
theorem rnum_pib (l : List UInt8) (v : Int) : rnum l = some v ↔ ((∀ c r, l = c :: r → c.toNat ≠ 43) ∧ parseIntB 64 l = .ok v) := by
  have h63 : (2 : Nat) ^ (64 - 1) = 9223372036854775808 := by decide
  cases l with
  | nil =>
    constructor
    · intro h; cases h
    · rintro ⟨_, h⟩; cases h
  | cons c r =>
    unfold rnum parseIntB
    by_cases h45 : c.toNat = 45
    · have hn : (∀ c' r', c :: r = c' :: r' → c'.toNat ≠ 43) := fun c' r' e => by injection e with e1 _; subst e1; omega
      simp only [h45, if_true, or_true]
      by_cases hr : r = []
      · subst hr
        simp [parseUintB]
      · rw [if_neg hr, rnumG_pub hr]
        constructor
        · rintro ⟨u, hu, hle, rfl⟩
          refine ⟨hn, ?_⟩
          rw [hu]
          simp only [h63]
          rw [if_neg (by simp), if_neg (by omega)]
        · rintro ⟨_, h⟩
          cases hu : parseUintB 64 r with
          | ok u =>
            rw [hu] at h
            simp only [h63] at h
            rw [if_neg (by simp)] at h
            split at h
            · cases h
            · rename_i hh
              injection h with h
              have h9 : ¬ 9223372036854775808 < u := fun x => hh ⟨trivial, x⟩
              exact ⟨u, rfl, by omega, h.symm⟩
          | _ => rw [hu] at h; cases h
    · simp only [h45, if_false, or_false, false_and, not_false_eq_true, true_and]
      by_cases h43 : c.toNat = 43
      · have hno : rnumG 0 (c :: r) = none := by
          unfold rnumG
          rw [if_neg (by omega)]
        rw [hno]
        constructor
        · intro h; cases h
        · rintro ⟨hn, _⟩; exact absurd h43 (hn c r rfl)
      · have hn : (∀ c' r', c :: r = c' :: r' → c'.toNat ≠ 43) := fun c' r' e => by injection e with e1 _; subst e1; exact h43
        simp only [h43, if_false]
        have hp := rnumG_pub (l := c :: r) (by simp)
        constructor
        · intro h
          cases hg : rnumG 0 (c :: r) with
          | none => rw [hg] at h; cases h
          | some w =>
            rw [hg] at h
            obtain ⟨u, hu, hle, hw⟩ := (hp w).1 hg
            simp only at h
            split at h
            · cases h
            · rename_i hne
              injection h with h
              refine ⟨hn, ?_⟩
              rw [hu]
              simp only [h63]
              rw [if_neg (by omega)]
              congr 1
              omega
        · rintro ⟨_, h⟩
          cases hu : parseUintB 64 (c :: r) with
          | ok u =>
            rw [hu] at h
            simp only [h63] at h
            split at h
            · cases h
            · rename_i hlt
              injection h with h
              rw [(hp (-(u : Int))).2 ⟨u, hu, by omega, rfl⟩]
              simp only
              rw [if_neg (by omega)]
              congr 1
              omega
          | _ => rw [hu] at h; cases h
end Go.Proofs.YtiimndcifcoofaaGreatDoor
