/- Traces: the races of a trace that is one event longer. No condition. -/
import Derived.Test.YtofjnldidkiihaaDoorOpE
import Derived.Test.YtofjnldidkiihaaDoorOpF
namespace Go.Proofs.YtofjnldidkiihaaDoor
open Go
set_option maxRecDepth 10000

/-- Happens-before, what counts left aside. -/
def HBc (l : List EH) (i j : Nat) : Prop := i < j ∧
  (thr l i = thr l j ∨ (plainP l j ∧ ∃ e f, i ≤ e ∧ e < f ∧ f < j ∧ knd l e = 4 ∧ knd l f = 4 ∧ thr l e = thr l i ∧ thr l f = thr l j) ∨ (¬plainP l j ∧ ∃ e, i ≤ e ∧ e < j ∧ knd l e = 4 ∧ thr l e = thr l i))
theorem HB_c {l : List EH} {i j : Nat} : HB l i j ↔ HBc l i j ∧ cntP l i ∧ cntP l j := by
  unfold HB HBc
  constructor
  · rintro ⟨a, b, c, d⟩; exact ⟨⟨a, d⟩, b, c⟩
  · rintro ⟨⟨a, d⟩, b, c⟩; exact ⟨a, b, c, d⟩
theorem HBc_app {l r : List EH} {i j : Nat} (hj : j < l.length) : HBc (l ++ r) i j ↔ HBc l i j := by
  unfold HBc plainP
  constructor
  · rintro ⟨h, g⟩
    have hi : i < l.length := by omega
    rw [thr_app hi, thr_app hj, knd_app hj] at g
    refine ⟨h, ?_⟩
    rcases g with g | ⟨g1, e, f, a1, a2, a3, a4, a5, a6, a7⟩ | ⟨g1, e, a1, a2, a3, a4⟩
    · exact .inl g
    · rw [knd_app (by omega)] at a4 a5
      rw [thr_app (by omega)] at a6 a7
      exact .inr (.inl ⟨g1, e, f, a1, a2, a3, a4, a5, a6, a7⟩)
    · rw [knd_app (by omega)] at a3
      rw [thr_app (by omega)] at a4
      exact .inr (.inr ⟨g1, e, a1, a2, a3, a4⟩)
  · rintro ⟨h, g⟩
    have hi : i < l.length := by omega
    rw [thr_app hi, thr_app hj, knd_app hj]
    refine ⟨h, ?_⟩
    rcases g with g | ⟨g1, e, f, a1, a2, a3, a4, a5, a6, a7⟩ | ⟨g1, e, a1, a2, a3, a4⟩
    · exact .inl g
    · exact .inr (.inl ⟨g1, e, f, a1, a2, a3, by rw [knd_app (by omega)]; exact a4, by rw [knd_app (by omega)]; exact a5, by rw [thr_app (by omega)]; exact a6, by rw [thr_app (by omega)]; exact a7⟩)
    · exact .inr (.inr ⟨g1, e, a1, a2, by rw [knd_app (by omega)]; exact a3, by rw [thr_app (by omega)]; exact a4⟩)
theorem bgL_app {l r : List EH} {t : Int} : ∀ i, i ≤ l.length → bgL (l ++ r) t i = bgL l t i
  | 0, _ => rfl
  | i + 1, h => by
    unfold bgL
    rw [thr_app (by omega), bgL_app i (by omega)]
theorem toP_app {l r : List EH} {y : Nat} (hy : y < l.length) : toP (l ++ r) y = toP l y := by
  unfold toP
  rw [knd_app hy, thr_app hy, bgL_app y (by omega)]
theorem toP_cnt {l : List EH} {n y : Nat} (hw : Wf l n) (hy : y < l.length) (h3 : knd l y ≠ 3) : cntP l (toP l y) ∧ toP l y ≤ y := by
  unfold toP
  by_cases h4 : knd l y = 4
  · obtain ⟨p, hp, hpy, hp3, hpt⟩ := bg_nat hw hy h4
    rw [if_pos h4, hp, Int.toNat_natCast]
    exact ⟨⟨by omega, .inr ⟨y, hy, prev_iff.2 hp, h4⟩⟩, by omega⟩
  · rw [if_neg h4]
    exact ⟨⟨hy, .inl h3⟩, Nat.le_refl y⟩
theorem cnt_app {l r : List EH} {i : Nat} (h : cntP l i) : cntP (l ++ r) i := by
  obtain ⟨h1, h2⟩ := h
  refine ⟨by simp; omega, ?_⟩
  rw [knd_app h1]
  rcases h2 with h2 | ⟨e, he, hp, hk⟩
  · exact .inl h2
  · refine .inr ⟨e, by simp; omega, ?_, by rw [knd_app he]; exact hk⟩
    obtain ⟨p1, p2, p3⟩ := hp
    exact ⟨p1, by rw [thr_app h1, thr_app he]; exact p2, fun q a b => by rw [thr_app (by omega), thr_app he]; exact p3 q a b⟩
theorem rcB_app {l r : List EH} {n x y : Nat} {w : Int} (hw : Wf l n) (hy : y < l.length) (h3 : knd l y ≠ 3) (hx : x < y) : rcB (l ++ r) y w x = rcB l y w x := by
  unfold rcB
  rw [knd_app (by omega), at_app (by omega), at_app hy, toP_app hy]
  by_cases hk : knd l x = 3
  · rw [decide_eq_true hk]; rfl
  · obtain ⟨hc, hle⟩ := toP_cnt hw hy h3
    have hx' : cntP l x := ⟨by omega, .inl hk⟩
    have : hbB (l ++ r) x (toP l y) = hbB l x (toP l y) := by
      rw [Bool.eq_iff_iff, hbB_iff, hbB_iff, HB_c, HB_c, HBc_app (by omega)]
      constructor
      · rintro ⟨h, _⟩; exact ⟨h, hx', hc⟩
      · rintro ⟨h, _⟩; exact ⟨h, cnt_app hx', cnt_app hc⟩
    rw [this]
theorem rcL_app {l r : List EH} {n y : Nat} {w : Int} (hw : Wf l n) (hy : y < l.length) (h3 : knd l y ≠ 3) : ∀ m, m ≤ y → rcL (l ++ r) y w m = rcL l y w m
  | 0, _ => rfl
  | m + 1, h => by rw [rcL_succ, rcL_succ, rcL_app hw hy h3 m (by omega), rcB_app hw hy h3 (by omega)]
theorem rcW_app {l r : List EH} {n y : Nat} (hw : Wf l n) (hy : y < l.length) (h3 : knd l y ≠ 3) : ∀ m, rcW (l ++ r) y m = rcW l y m
  | 0 => rfl
  | m + 1 => by rw [rcW_succ, rcW_succ, rcW_app hw hy h3 m, rcL_app hw hy h3 y (Nat.le_refl y)]
theorem rcA_app {l r : List EH} {n : Nat} (hw : Wf l n) : ∀ m, m ≤ l.length → rcA (l ++ r) m = rcA l m
  | 0, _ => rfl
  | m + 1, h => by
    rw [rcA_succ, rcA_succ, rcA_app hw m (by omega), knd_app (by omega)]
    by_cases h3 : knd l m = 3
    · rw [if_pos h3, if_pos h3]
    · rw [if_neg h3, if_neg h3, rcW_app hw (by omega) h3]
theorem rcW_key {l : List EH} {y m : Nat} : ∀ r ∈ rcW l y m, r.2.1 = (y : Int) := by
  intro r hr
  unfold rcW at hr
  obtain ⟨w, _, hr⟩ := List.mem_flatMap.1 hr
  rw [rcL_key r hr]
/-- One event more: the races so far, then those at the new event. -/
theorem rcA_snoc {l : List EH} {e : EH} {n : Nat} (hw : Wf l n) : ∃ z, rcA (l ++ [e]) (l ++ [e]).length = rcA l l.length ++ z ∧ ∀ r ∈ z, r.2.1 = (l.length : Int) := by
  refine ⟨if knd (l ++ [e]) l.length = 3 then [] else rcW (l ++ [e]) l.length 64, ?_, ?_⟩
  · rw [List.length_append]
    show rcA (l ++ [e]) (l.length + 1) = _
    rw [rcA_succ, rcA_app hw l.length (Nat.le_refl _)]
  · intro r hr
    split at hr
    · cases hr
    · exact rcW_key r hr
end Go.Proofs.YtofjnldidkiihaaDoor
