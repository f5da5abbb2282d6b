/- Alu: the order of words by a key. No condition. -/
import Derived.Test.YtdbeajjomifbpaaDoorAlF
namespace Go.Proofs.YtdbeajjomifbpaaDoor
open Go
set_option maxRecDepth 10000
set_option maxHeartbeats 2000000

theorem cmp_scale {p q : Int} {c : Int} (hc : 0 < c) : compare p q = compare (p * c) (q * c) := by
  rcases Int.lt_trichotomy p q with h | h | h
  · rw [Int.compare_eq_lt.2 h, Int.compare_eq_lt.2 (Int.mul_lt_mul_of_pos_right h hc)]
  · subst h; simp
  · rw [Int.compare_eq_gt.2 h, Int.compare_eq_gt.2 (Int.mul_lt_mul_of_pos_right h hc)]
def sval (x : Nat) : Int := if sgn x then -(worth x : Int) else (worth x : Int)
theorem signed_scale (s : Bool) (m a k : Nat) (h : k ≤ a) : Ieee.signed s m (a - k) * ((2 ^ k : Nat) : Int) = if s then -((m * 2 ^ a : Nat) : Int) else ((m * 2 ^ a : Nat) : Int) := by
  have e : m * 2 ^ a = (m * 2 ^ (a - k)) * 2 ^ k := by rw [Nat.mul_assoc, ← Nat.pow_add, Nat.sub_add_cancel h]
  unfold Ieee.signed
  rw [Nat.shiftLeft_eq, e, Int.natCast_mul (m * 2 ^ (a - k))]
  cases s <;> simp [Int.neg_mul]
theorem order_fin {x y : Nat} (hx : rung x < 9218868437227405312) (hy : rung y < 9218868437227405312) : Ieee.double.order x y = some (compare (sval x) (sval y)) := by
  unfold Ieee.Format.order
  rw [read_fin hx, read_fin hy]
  simp only [Ieee.Datum.order]
  have e1 : (Ieee.double.leastPlace + (expo x : Nat) - min (Ieee.double.leastPlace + (expo x : Nat)) (Ieee.double.leastPlace + (expo y : Nat))).toNat = expo x - min (expo x) (expo y) := by omega
  have e2 : (Ieee.double.leastPlace + (expo y : Nat) - min (Ieee.double.leastPlace + (expo x : Nat)) (Ieee.double.leastPlace + (expo y : Nat))).toNat = expo y - min (expo x) (expo y) := by omega
  rw [e1, e2, cmp_scale (c := ((2 ^ (min (expo x) (expo y)) : Nat) : Int)) (Int.natCast_pos.2 (Nat.two_pow_pos _)), signed_scale _ _ _ _ (Nat.min_le_left _ _), signed_scale _ _ _ _ (Nat.min_le_right _ _)]
  rfl
theorem worth_ltN {x : Nat} {N : Nat} (hN : 2046 ≤ N) (h : rung x < 9218868437227405312) : worth x < 9007199254740992 * 2 ^ N := by
  have hm : mant x < 9007199254740992 := by
    unfold mant
    split <;> omega
  have he : expo x ≤ N := by
    unfold expo
    split <;> omega
  unfold worth
  have h1 : 2 ^ expo x ≤ 2 ^ N := Nat.pow_le_pow_right (by omega) he
  exact Nat.lt_of_le_of_lt (Nat.mul_le_mul_left _ h1) (Nat.mul_lt_mul_of_pos_right hm (Nat.two_pow_pos _))
/-- Above all finite words. -/
def bigN : Nat → Nat := fun N => 9007199254740992 * 2 ^ N
/-- The key of a word that is no NaN. -/
def keyA (N x : Nat) : Nat := if rung x = 9218868437227405312 then bigN N else worth x
def key (N x : Nat) : Int := if sgn x then -(keyA N x : Int) else (keyA N x : Int)
theorem not_nan {x : Nat} (h : isN x = false) : rung x ≤ 9218868437227405312 := by
  unfold isN at h
  unfold rung
  rw [decide_eq_false_iff_not] at h
  omega
theorem order_key {N x y : Nat} (hN : 2046 ≤ N) (hx : isN x = false) (hy : isN y = false) : FloatKind.f64.format.order x y = some (compare (key N x) (key N y)) := by
  rw [f64_eq]
  have bp : 0 < bigN N := Nat.mul_pos (by omega) (Nat.two_pow_pos _)
  rcases Nat.lt_or_eq_of_le (not_nan hx) with h1 | h1 <;> rcases Nat.lt_or_eq_of_le (not_nan hy) with h2 | h2
  · rw [order_fin h1 h2]
    simp only [key, keyA, sval, if_neg (Nat.ne_of_lt h1), if_neg (Nat.ne_of_lt h2)]
  · have hw : worth x < bigN N := worth_ltN hN h1
    unfold Ieee.Format.order
    rw [read_fin h1, read_inf h2]
    simp only [Ieee.Datum.order, key, keyA, if_neg (Nat.ne_of_lt h1), if_pos h2]
    cases sgn x <;> cases sgn y <;> simp only [if_true, Bool.false_eq_true, if_false] <;> congr 1 <;> symm <;> first | (rw [Int.compare_eq_lt]; omega) | (rw [Int.compare_eq_gt]; omega)
  · have hw : worth y < bigN N := worth_ltN hN h2
    unfold Ieee.Format.order
    rw [read_inf h1, read_fin h2]
    simp only [Ieee.Datum.order, key, keyA, if_neg (Nat.ne_of_lt h2), if_pos h1]
    cases sgn x <;> cases sgn y <;> simp only [if_true, Bool.false_eq_true, if_false] <;> congr 1 <;> symm <;> first | (rw [Int.compare_eq_lt]; omega) | (rw [Int.compare_eq_gt]; omega)
  · unfold Ieee.Format.order
    rw [read_inf h1, read_inf h2]
    simp only [Ieee.Datum.order, key, keyA, if_pos h1, if_pos h2]
    cases sgn x <;> cases sgn y <;> simp only [if_true, Bool.false_eq_true, if_false] <;> congr 1 <;> symm <;> first | (show _ = Ordering.gt; rw [Int.compare_eq_gt]; omega) | (show _ = Ordering.lt; rw [Int.compare_eq_lt]; omega) | (simp; done)
end Go.Proofs.YtdbeajjomifbpaaDoor
