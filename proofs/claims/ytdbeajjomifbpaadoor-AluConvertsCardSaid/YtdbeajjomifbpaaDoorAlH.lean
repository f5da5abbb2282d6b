/- Alu: the lesser and the greater of two words. No condition. -/
import Derived.Test.YtdbeajjomifbpaaDoorAlG
namespace Go.Proofs.YtdbeajjomifbpaaDoor
open Go
set_option maxRecDepth 10000
set_option maxHeartbeats 2000000

theorem word_split (x : Nat) (h : x < 18446744073709551616) : x = (if sgn x then 9223372036854775808 else 0) + rung x := by
  unfold sgn rung
  by_cases hs : x / 9223372036854775808 % 2 = 1
  · simp only [hs, beq_self_eq_true, if_true]; omega
  · have : x / 9223372036854775808 % 2 = 0 := by omega
    simp [this]; omega
theorem worth_zero {x : Nat} (h : rung x < 9218868437227405312) : worth x = 0 ↔ rung x = 0 := by
  unfold worth mant expo
  by_cases h1 : rung x < 4503599627370496
  · simp [h1]
  · simp only [h1, if_false]
    have := Nat.two_pow_pos (rung x / 4503599627370496 - 1)
    have h2 := Nat.mul_le_mul_left (4503599627370496 + rung x % 4503599627370496) this
    omega
theorem keyA_inj {N x y : Nat} (hN : 2046 ≤ N) (hx : isN x = false) (hy : isN y = false) (h : keyA N x = keyA N y) : rung x = rung y := by
  unfold keyA at h
  rcases Nat.lt_or_eq_of_le (not_nan hx) with h1 | h1 <;> rcases Nat.lt_or_eq_of_le (not_nan hy) with h2 | h2
  · rw [if_neg (Nat.ne_of_lt h1), if_neg (Nat.ne_of_lt h2)] at h
    exact worth_inj h1 h2 h
  · rw [if_neg (Nat.ne_of_lt h1), if_pos h2] at h
    have : worth x < bigN N := worth_ltN hN h1
    omega
  · rw [if_pos h1, if_neg (Nat.ne_of_lt h2)] at h
    have : worth y < bigN N := worth_ltN hN h2
    omega
  · omega
theorem keyA_zero {N x : Nat} (hx : isN x = false) : keyA N x = 0 ↔ rung x = 0 := by
  have bp : 0 < bigN N := Nat.mul_pos (by omega) (Nat.two_pow_pos _)
  unfold keyA
  rcases Nat.lt_or_eq_of_le (not_nan hx) with h1 | h1
  · rw [if_neg (Nat.ne_of_lt h1)]; exact worth_zero h1
  · rw [if_pos h1]; omega
/-- Equal keys: the same word, or two zeros. -/
theorem key_inj {N x y : Nat} (hN : 2046 ≤ N) (hx : isN x = false) (hy : isN y = false) (bx : x < 18446744073709551616) (by' : y < 18446744073709551616) (h : key N x = key N y) : x = y ∨ (rung x = 0 ∧ rung y = 0) := by
  have zx := keyA_zero (N := N) hx
  have zy := keyA_zero (N := N) hy
  have wx := word_split x bx
  have wy := word_split y by'
  unfold key at h
  cases hs : sgn x <;> cases ht : sgn y <;> rw [hs, ht] at h <;> simp only [if_true, Bool.false_eq_true, if_false] at h
  · have := keyA_inj hN hx hy (by omega)
    rw [hs] at wx; rw [ht] at wy
    simp only [Bool.false_eq_true, if_false] at wx wy
    exact .inl (by omega)
  · exact .inr ⟨zx.1 (by omega), zy.1 (by omega)⟩
  · exact .inr ⟨zx.1 (by omega), zy.1 (by omega)⟩
  · have := keyA_inj hN hx hy (by omega)
    rw [hs] at wx; rw [ht] at wy
    simp only [if_true] at wx wy
    exact .inl (by omega)
end Go.Proofs.YtdbeajjomifbpaaDoor
