/- Alu: from floats to integers. No condition. -/
import Derived.Test.YtdbeajjomifbpaaDoorAlC
namespace Go.Proofs.YtdbeajjomifbpaaDoor
open Go
set_option maxRecDepth 10000
set_option maxHeartbeats 2000000

/-- 2^63 and -2^63 as words of floats. -/
def limW : Nat := 4890909195324358656
def limN : Nat := 14114281232179134464
theorem read_lim : Ieee.double.read limW = .number false 4503599627370496 11 := by decide
theorem read_limN : Ieee.double.read limN = .number true 4503599627370496 11 := by decide

/-- What is cut towards zero. -/
theorem cut_zero (s : Bool) (n drop : Nat) : Ieee.Toward.zero.cut s n drop = n / 2 ^ (min drop (n.log2 + 2)) := by
  simp [Ieee.Toward.cut, Nat.shiftLeft_eq]
theorem cut_lt {s : Bool} {n drop j : Nat} (h : n < 2 ^ (drop + j)) : Ieee.Toward.zero.cut s n drop < 2 ^ j := by
  rw [cut_zero]
  by_cases hd : drop ≤ n.log2 + 2
  · rw [Nat.min_eq_left hd]
    refine (Nat.div_lt_iff_lt_mul (Nat.two_pow_pos _)).2 ?_
    rw [← Nat.pow_add, Nat.add_comm j drop]
    exact h
  · rw [Nat.min_eq_right (by omega)]
    have h1 : n < 2 ^ (n.log2 + 2) := Nat.lt_of_lt_of_le Nat.lt_log2_self (Nat.pow_le_pow_right (by omega) (by omega))
    rw [Nat.div_eq_of_lt h1]
    exact Nat.two_pow_pos _
theorem cut_le {s : Bool} {n drop j : Nat} (h : n ≤ 2 ^ (drop + j)) : Ieee.Toward.zero.cut s n drop ≤ 2 ^ j := by
  rw [cut_zero]
  by_cases hd : drop ≤ n.log2 + 2
  · rw [Nat.min_eq_left hd]
    refine Nat.div_le_of_le_mul ?_
    rw [← Nat.pow_add]
    exact h
  · rw [Nat.min_eq_right (by omega)]
    have h1 : n < 2 ^ (n.log2 + 2) := Nat.lt_of_lt_of_le Nat.lt_log2_self (Nat.pow_le_pow_right (by omega) (by omega))
    rw [Nat.div_eq_of_lt h1]
    exact Nat.zero_le _

theorem shift_cmp {s : Bool} {m : Nat} {e : Int} (h : m <<< (e - min e 11).toNat < 4503599627370496 <<< (11 - min e 11).toNat) : Ieee.Toward.zero.cut s (m <<< e.toNat) (-e).toNat < 9223372036854775808 := by
  have hp : (9223372036854775808 : Nat) = 2 ^ 63 := by decide
  have h52 : (4503599627370496 : Nat) = 2 ^ 52 := by decide
  rw [hp]
  refine cut_lt ?_
  rw [h52, Nat.shiftLeft_eq, Nat.shiftLeft_eq, ← Nat.pow_add] at h
  rw [Nat.shiftLeft_eq]
  by_cases h11 : 11 ≤ e
  · have e1 : min e 11 = 11 := by omega
    rw [e1] at h
    have e2 : (-e).toNat = 0 := by omega
    have e3 : e.toNat = (e - 11).toNat + 11 := by omega
    rw [e2, e3, Nat.pow_add, ← Nat.mul_assoc]
    have := Nat.mul_lt_mul_of_pos_right h (show 0 < 2 ^ 11 by decide)
    rw [← Nat.pow_add] at this
    simpa using this
  · have e1 : min e 11 = e := by omega
    rw [e1] at h
    have e0 : (e - e).toNat = 0 := by omega
    rw [e0, Nat.pow_zero, Nat.mul_one] at h
    by_cases hneg : e < 0
    · have e2 : e.toNat = 0 := by omega
      rw [e2, Nat.pow_zero, Nat.mul_one]
      have e3 : (-e).toNat + 63 = 52 + (11 - e).toNat := by omega
      rw [e3]
      exact h
    · have e2 : (-e).toNat = 0 := by omega
      have e3 : 0 + 63 = 52 + (11 - e).toNat + e.toNat := by omega
      rw [e2, e3, Nat.pow_add _ _ e.toNat]
      exact Nat.mul_lt_mul_of_pos_right h (Nat.two_pow_pos _)
theorem shift_cmpl {s : Bool} {m : Nat} {e : Int} (h : m <<< (e - min e 11).toNat ≤ 4503599627370496 <<< (11 - min e 11).toNat) : Ieee.Toward.zero.cut s (m <<< e.toNat) (-e).toNat ≤ 9223372036854775808 := by
  have hp : (9223372036854775808 : Nat) = 2 ^ 63 := by decide
  have h52 : (4503599627370496 : Nat) = 2 ^ 52 := by decide
  rw [hp]
  refine cut_le ?_
  rw [h52, Nat.shiftLeft_eq, Nat.shiftLeft_eq, ← Nat.pow_add] at h
  rw [Nat.shiftLeft_eq]
  by_cases h11 : 11 ≤ e
  · have e1 : min e 11 = 11 := by omega
    rw [e1] at h
    have e2 : (-e).toNat = 0 := by omega
    have e3 : e.toNat = (e - 11).toNat + 11 := by omega
    rw [e2, e3, Nat.pow_add, ← Nat.mul_assoc]
    have := Nat.mul_le_mul_right (2 ^ 11) h
    rw [← Nat.pow_add] at this
    simpa using this
  · have e1 : min e 11 = e := by omega
    rw [e1] at h
    have e0 : (e - e).toNat = 0 := by omega
    rw [e0, Nat.pow_zero, Nat.mul_one] at h
    by_cases hneg : e < 0
    · have e2 : e.toNat = 0 := by omega
      rw [e2, Nat.pow_zero, Nat.mul_one]
      have e3 : (-e).toNat + 63 = 52 + (11 - e).toNat := by omega
      rw [e3]
      exact h
    · have e2 : (-e).toNat = 0 := by omega
      have e3 : 0 + 63 = 52 + (11 - e).toNat + e.toNat := by omega
      rw [e2, e3, Nat.pow_add _ _ e.toNat]
      exact Nat.mul_le_mul_right _ h

theorem f2i_some {b : Nat} (hn : isN b = false) (h1 : fcmp .geq (FloatKind.f64.format.order b limW) = false) (h2 : fcmp .lss (FloatKind.f64.format.order b limN) = false) : ∃ n, floatToIntVal .f64 b .i64 = some n := by
  rw [← read_nan] at hn
  unfold floatToIntVal FloatKind.decode
  rw [f64_eq] at *
  unfold Ieee.Format.order at h1 h2
  rw [read_lim] at h1
  rw [read_limN] at h2
  generalize Ieee.double.read b = d at *
  cases d with
  | nan => simp [Ieee.Datum.isNaN] at hn
  | infinity s => cases s <;> simp [Ieee.Datum.order, fcmp] at h1 h2
  | number s m e =>
    simp only [Ieee.Datum.order, fcmp] at h1 h2
    simp only [Ieee.Datum.toInt, Ieee.Datum.integral]
    have hmin : IntKind.i64.min = -9223372036854775808 := rfl
    have hmax : IntKind.i64.max = 9223372036854775807 := rfl
    have hin : IntKind.i64.min ≤ Ieee.signed s (Ieee.Toward.zero.cut s (m <<< e.toNat) (-e).toNat) 0 ∧ Ieee.signed s (Ieee.Toward.zero.cut s (m <<< e.toNat) (-e).toNat) 0 ≤ IntKind.i64.max := by
      rw [hmin, hmax]
      cases s with
      | false =>
        have hlt : m <<< (e - min e 11).toNat < 4503599627370496 <<< (11 - min e 11).toNat := by
          rcases Nat.lt_or_ge (m <<< (e - min e 11).toNat) (4503599627370496 <<< (11 - min e 11).toNat) with h | h
          · exact h
          · exfalso
            have hc : compare (Ieee.signed false m (e - min e 11).toNat) (Ieee.signed false 4503599627370496 (11 - min e 11).toNat) ≠ .lt := by
              simp only [Ieee.signed, Bool.false_eq_true, if_false, ne_eq, Int.compare_eq_lt]
              omega
            revert h1 hc
            generalize compare (Ieee.signed false m (e - min e 11).toNat) (Ieee.signed false 4503599627370496 (11 - min e 11).toNat) = c
            cases c <;> simp
        have := shift_cmp (s := false) hlt
        simp only [Ieee.signed, Bool.false_eq_true, if_false, Nat.shiftLeft_zero]
        omega
      | true =>
        have hle : m <<< (e - min e 11).toNat ≤ 4503599627370496 <<< (11 - min e 11).toNat := by
          rcases Nat.lt_or_ge (4503599627370496 <<< (11 - min e 11).toNat) (m <<< (e - min e 11).toNat) with h | h
          · exfalso
            have hc : compare (Ieee.signed true m (e - min e 11).toNat) (Ieee.signed true 4503599627370496 (11 - min e 11).toNat) = .lt := by
              simp only [Ieee.signed, if_true, Int.compare_eq_lt]
              omega
            rw [hc] at h2
            simp at h2
          · exact h
        have := shift_cmpl (s := true) hle
        simp only [Ieee.signed, if_true, Nat.shiftLeft_zero]
        omega
    exact ⟨_, if_pos hin⟩
end Go.Proofs.YtdbeajjomifbpaaDoor
