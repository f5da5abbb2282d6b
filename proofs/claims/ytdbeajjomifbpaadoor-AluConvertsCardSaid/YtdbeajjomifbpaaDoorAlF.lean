/- Alu: the order of words; the lesser and the greater of two. No condition. -/
import Derived.Test.YtdbeajjomifbpaaDoorAlE
namespace Go.Proofs.YtdbeajjomifbpaaDoor
open Go
set_option maxRecDepth 10000
set_option maxHeartbeats 2000000

/-- The rung of a word, its sign. -/
def rung (x : Nat) : Nat := x % 9223372036854775808
def sgn (x : Nat) : Bool := x / 9223372036854775808 % 2 == 1
/-- The mantissa and the exponent over the least place, of a finite word. -/
def mant (x : Nat) : Nat := if rung x < 4503599627370496 then rung x else 4503599627370496 + rung x % 4503599627370496
def expo (x : Nat) : Nat := if rung x < 4503599627370496 then 0 else rung x / 4503599627370496 - 1
theorem read_fin {x : Nat} (h : rung x < 9218868437227405312) : Ieee.double.read x = .number (sgn x) (mant x) (Ieee.double.leastPlace + (expo x : Nat)) := by
  unfold Ieee.Format.read mant expo
  simp only [sw, bn, ir]
  unfold rung at *
  by_cases h1 : x % 9223372036854775808 < 4503599627370496
  · rw [if_pos h1, if_pos h1, if_pos h1]; simp [sgn]
  · rw [if_neg h1, if_neg h1, if_neg h1, if_pos h]; rfl
theorem read_inf {x : Nat} (h : rung x = 9218868437227405312) : Ieee.double.read x = .infinity (sgn x) := by
  unfold Ieee.Format.read
  simp only [sw, bn, ir]
  unfold rung at h
  rw [if_neg (by omega), if_neg (by omega), if_pos h]
  rfl
/-- What a finite word is worth, over the least place. -/
def worth (x : Nat) : Nat := mant x * 2 ^ expo x
theorem worth_inj {x y : Nat} (hx : rung x < 9218868437227405312) (hy : rung y < 9218868437227405312) (h : worth x = worth y) : rung x = rung y := by
  unfold worth mant expo at h
  have key : ∀ (p q a b : Nat), a < 4503599627370496 → b < 4503599627370496 → p < q → (4503599627370496 + a) * 2 ^ p ≠ (4503599627370496 + b) * 2 ^ q := by
    intro p q a b ha hb hpq he
    have h1 : 2 ^ (p + 1) ≤ 2 ^ q := Nat.pow_le_pow_right (by omega) (by omega)
    have h2 : (4503599627370496 + b) * 2 ^ (p + 1) ≤ (4503599627370496 + b) * 2 ^ q := Nat.mul_le_mul_left _ h1
    rw [← he, Nat.pow_succ, Nat.mul_comm (2 ^ p) 2, ← Nat.mul_assoc] at h2
    have h3 := Nat.le_of_mul_le_mul_right h2 (Nat.two_pow_pos p)
    omega
  by_cases h1 : rung x < 4503599627370496 <;> by_cases h2 : rung y < 4503599627370496
  · simp only [h1, h2, if_true] at h; omega
  · simp only [h1, h2, if_true, if_false] at h
    have : 1 ≤ 2 ^ (rung y / 4503599627370496 - 1) := Nat.two_pow_pos _
    have h3 := Nat.mul_le_mul_left (4503599627370496 + rung y % 4503599627370496) this
    omega
  · simp only [h1, h2, if_true, if_false] at h
    have : 1 ≤ 2 ^ (rung x / 4503599627370496 - 1) := Nat.two_pow_pos _
    have h3 := Nat.mul_le_mul_left (4503599627370496 + rung x % 4503599627370496) this
    omega
  · simp only [h1, h2, if_false] at h
    have hx' : rung x % 4503599627370496 < 4503599627370496 := Nat.mod_lt _ (by omega)
    have hy' : rung y % 4503599627370496 < 4503599627370496 := Nat.mod_lt _ (by omega)
    rcases Nat.lt_trichotomy (rung x / 4503599627370496 - 1) (rung y / 4503599627370496 - 1) with hl | he | hg
    · exact absurd h (key _ _ _ _ hx' hy' hl)
    · rw [he] at h
      have := Nat.eq_of_mul_eq_mul_right (Nat.two_pow_pos _) h
      omega
    · exact absurd h.symm (key _ _ _ _ hy' hx' hg)
end Go.Proofs.YtdbeajjomifbpaaDoor
