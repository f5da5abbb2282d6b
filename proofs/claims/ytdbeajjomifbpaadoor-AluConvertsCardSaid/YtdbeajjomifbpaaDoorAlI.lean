/- Alu: math.Min and math.Max as the document has them. No condition. -/
import Derived.Test.YtdbeajjomifbpaaDoorAlH
namespace Go.Proofs.YtdbeajjomifbpaaDoor
open Go
set_option maxRecDepth 10000
set_option maxHeartbeats 2000000

/-- That x is the lesser one. -/
def lessC (x y : Nat) : Bool := fcmp .lss (FloatKind.f64.format.order x y) || (fcmp .eql (FloatKind.f64.format.order x y) && sgn x)

theorem dec_inf {x : Nat} (s : Bool) (hx : isN x = false) : (FloatKind.f64.decode x == .infinity s) = (decide (rung x = 9218868437227405312) && (sgn x == s)) := by
  show (Ieee.double.read x == .infinity s) = _
  rcases Nat.lt_or_eq_of_le (not_nan hx) with h | h
  · rw [read_fin h, decide_eq_false (by omega)]; rfl
  · rw [read_inf h, decide_eq_true h]
    cases sgn x <;> cases s <;> rfl
theorem dec_nan {x : Nat} (hx : isN x = false) : (FloatKind.f64.decode x).isNaN = false := by
  show (Ieee.double.read x).isNaN = false
  rw [read_nan, hx]
theorem dec_zero {x : Nat} (hx : isN x = false) : (FloatKind.f64.decode x).isZero = decide (rung x = 0) := by
  show (Ieee.double.read x).isZero = _
  rcases Nat.lt_or_eq_of_le (not_nan hx) with h | h
  · rw [read_fin h]
    have hm : mant x = 0 ↔ rung x = 0 := by
      unfold mant
      split <;> omega
    by_cases h0 : rung x = 0
    · rw [decide_eq_true h0, hm.2 h0]; rfl
    · rw [decide_eq_false h0]
      cases hmm : mant x with
      | zero => exact absurd (hm.1 hmm) h0
      | succ n => rfl
  · rw [read_inf h, decide_eq_false (by omega)]; rfl
theorem dec_neg {x : Nat} (hx : isN x = false) : (FloatKind.f64.decode x).neg = sgn x := by
  show (Ieee.double.read x).neg = _
  rcases Nat.lt_or_eq_of_le (not_nan hx) with h | h
  · rw [read_fin h]; rfl
  · rw [read_inf h]; rfl
theorem enc_inf (s : Bool) : FloatKind.f64.encode (.infinity s) = (if s then 9223372036854775808 else 0) + 9218868437227405312 := by cases s <;> decide

/-- What is known of two words that are no NaNs. -/
theorem two_words {x y : Nat} (hx : isN x = false) (hy : isN y = false) (bx : x < 18446744073709551616) (by' : y < 18446744073709551616) :
    ∃ (k l : Int) (p q B : Nat), FloatKind.f64.format.order x y = some (compare k l) ∧ k = (if sgn x then -(p : Int) else p) ∧ l = (if sgn y then -(q : Int) else q) ∧ 0 < B ∧ p ≤ B ∧ q ≤ B ∧
      (rung x = 9218868437227405312 ↔ p = B) ∧ (rung y = 9218868437227405312 ↔ q = B) ∧ (rung x = 0 ↔ p = 0) ∧ (rung y = 0 ↔ q = 0) ∧ (k = l → x = y ∨ (rung x = 0 ∧ rung y = 0)) := by
  obtain ⟨N, hN⟩ : ∃ N, 2046 ≤ N := ⟨2046, Nat.le_refl _⟩
  have ax : ∀ z, isN z = false → keyA N z ≤ bigN N ∧ (rung z = 9218868437227405312 ↔ keyA N z = bigN N) := fun z hz => by
    unfold keyA
    rcases Nat.lt_or_eq_of_le (not_nan hz) with h | h
    · have hw : worth z < bigN N := worth_ltN hN h
      rw [if_neg (by omega)]
      exact ⟨by omega, ⟨fun e => by omega, fun e => by omega⟩⟩
    · rw [if_pos h]; simp [h]
  exact ⟨key N x, key N y, keyA N x, keyA N y, bigN N, order_key hN hx hy, rfl, rfl, Nat.mul_pos (by omega) (Nat.two_pow_pos _), (ax x hx).1, (ax y hy).1, (ax x hx).2, (ax y hy).2,
    (keyA_zero hx).symm, (keyA_zero hy).symm, key_inj hN hx hy bx by'⟩

theorem pick_least {x y : Nat} (hx : isN x = false) (hy : isN y = false) (bx : x < 18446744073709551616) (by' : y < 18446744073709551616) : pickF true x y = if lessC x y then x else y := by
  obtain ⟨k, l, p, q, B, ho, hk, hl, hB, hp, hq, i1, i2, z1, z2, hi⟩ := two_words hx hy bx by'
  have ho' : (FloatKind.f64.decode x).order (FloatKind.f64.decode y) = some (compare k l) := ho
  have wx := word_split x bx
  have wy := word_split y by'
  unfold pickF lessC
  rw [dec_inf true hx, dec_inf true hy, dec_nan hx, dec_nan hy, dec_zero hx, dec_zero hy, dec_neg hx, ho, ho', enc_inf]
  simp only [cond_true, fcmp]
  clear ho ho' hx hy
  generalize rung x = rx at *
  generalize rung y = ry at *
  cases hs : sgn x <;> cases ht : sgn y <;> rw [hs] at hk wx <;> rw [ht] at hl wy <;> simp only [if_true, Bool.false_eq_true, if_false] at hk hl wx wy
  all_goals
    rcases Int.lt_trichotomy k l with h | h | h
    · rw [Int.compare_eq_lt.2 h]
      by_cases e1 : rx = 9218868437227405312 <;> by_cases e2 : ry = 9218868437227405312 <;> by_cases e3 : rx = 0 <;> by_cases e4 : ry = 0 <;> simp [e1, e2, e3, e4] <;> omega
    · have h' := hi h
      rw [Int.compare_eq_eq.2 h]
      by_cases e1 : rx = 9218868437227405312 <;> by_cases e2 : ry = 9218868437227405312 <;> by_cases e3 : rx = 0 <;> by_cases e4 : ry = 0 <;> simp [e1, e2, e3, e4] <;> omega
    · rw [Int.compare_eq_gt.2 h]
      by_cases e1 : rx = 9218868437227405312 <;> by_cases e2 : ry = 9218868437227405312 <;> by_cases e3 : rx = 0 <;> by_cases e4 : ry = 0 <;> simp [e1, e2, e3, e4] <;> omega
theorem pick_most {x y : Nat} (hx : isN x = false) (hy : isN y = false) (bx : x < 18446744073709551616) (by' : y < 18446744073709551616) : pickF false x y = if lessC x y then y else x := by
  obtain ⟨k, l, p, q, B, ho, hk, hl, hB, hp, hq, i1, i2, z1, z2, hi⟩ := two_words hx hy bx by'
  have ho' : (FloatKind.f64.decode x).order (FloatKind.f64.decode y) = some (compare k l) := ho
  have wx := word_split x bx
  have wy := word_split y by'
  unfold pickF lessC
  rw [dec_inf false hx, dec_inf false hy, dec_nan hx, dec_nan hy, dec_zero hx, dec_zero hy, dec_neg hx, ho, ho', enc_inf]
  simp only [cond_false, fcmp]
  clear ho ho' hx hy
  generalize rung x = rx at *
  generalize rung y = ry at *
  cases hs : sgn x <;> cases ht : sgn y <;> rw [hs] at hk wx <;> rw [ht] at hl wy <;> simp only [if_true, Bool.false_eq_true, if_false] at hk hl wx wy
  all_goals
    rcases Int.lt_trichotomy k l with h | h | h
    · rw [Int.compare_eq_lt.2 h]
      by_cases e1 : rx = 9218868437227405312 <;> by_cases e2 : ry = 9218868437227405312 <;> by_cases e3 : rx = 0 <;> by_cases e4 : ry = 0 <;> simp [e1, e2, e3, e4] <;> omega
    · have h' := hi h
      rw [Int.compare_eq_eq.2 h]
      by_cases e1 : rx = 9218868437227405312 <;> by_cases e2 : ry = 9218868437227405312 <;> by_cases e3 : rx = 0 <;> by_cases e4 : ry = 0 <;> simp [e1, e2, e3, e4] <;> omega
    · rw [Int.compare_eq_gt.2 h]
      by_cases e1 : rx = 9218868437227405312 <;> by_cases e2 : ry = 9218868437227405312 <;> by_cases e3 : rx = 0 <;> by_cases e4 : ry = 0 <;> simp [e1, e2, e3, e4] <;> omega
end Go.Proofs.YtdbeajjomifbpaaDoor
