/- Traces: what is ahead of a place depends on nothing behind it; one event more. No condition. -/
import Derived.Test.YtofjnldidkiihaaDoorOpD
namespace Go.Proofs.YtofjnldidkiihaaDoor
open Go
set_option maxRecDepth 10000

theorem at_app {l r : List EH} {i : Nat} (h : i < l.length) : at' (l ++ r) i = at' l i := by
  unfold at'
  rw [List.getD_eq_getElem?_getD, List.getD_eq_getElem?_getD, List.getElem?_append_left h]
theorem at_end {l : List EH} {e : EH} : at' (l ++ [e]) l.length = e := at_get (by simp)
theorem thr_app {l r : List EH} {i : Nat} (h : i < l.length) : thr (l ++ r) i = thr l i := by unfold thr; rw [at_app h]
theorem knd_app {l r : List EH} {i : Nat} (h : i < l.length) : knd (l ++ r) i = knd l i := by unfold knd; rw [at_app h]
theorem lkL_app {l r : List EH} {t : Int} : ∀ i, i ≤ l.length → lkL (l ++ r) t i = lkL l t i
  | 0, _ => rfl
  | i + 1, h => by rw [lkL_succ, lkL_succ, thr_app (by omega), knd_app (by omega), lkL_app i (by omega)]
theorem paAt_app {l r : List EH} {i : Nat} (h : i ≤ l.length) : paAt (l ++ r) i = paAt l i := by
  unfold paAt
  split
  · rfl
  · rw [at_app (by omega)]
theorem okAt_app {l r : List EH} {n i : Nat} (h : i < l.length) : okAt (l ++ r) n i = okAt l n i := by
  unfold okAt
  rw [paAt_app (by omega), thr_app h, lkL_app i (by omega), at_app h]
theorem okAt_end {l : List EH} {e : EH} {n : Nat} : okAt (l ++ [e]) n l.length = fitsM n (l.length == 0) (paAt l l.length) (lkL l e.t l.length) e := by
  unfold okAt
  have ht : thr (l ++ [e]) l.length = e.t := by unfold thr; rw [at_end]
  rw [paAt_app (Nat.le_refl _), ht, lkL_app _ (Nat.le_refl _), at_end]
theorem lkL_end {l : List EH} {e : EH} {t : Int} : lkL (l ++ [e]) t (l.length + 1) = if e.t = t then e.k else lkL l t l.length := by
  have ht : thr (l ++ [e]) l.length = e.t := by unfold thr; rw [at_end]
  have hk : knd (l ++ [e]) l.length = e.k := by unfold knd; rw [at_end]
  rw [lkL_succ, ht, hk, lkL_app _ (Nat.le_refl _)]
theorem paAt_end {l : List EH} {e : EH} : paAt (l ++ [e]) (l.length + 1) = e.ev := paAt_succ (by simp)
theorem WF0.snoc {l : List EH} {e : EH} {n : Nat} (h : WF0 l n) (hl : l.length + 1 ≤ 65536) (hf : fitsM n (l.length == 0) (paAt l l.length) (lkL l e.t l.length) e = true) : WF0 (l ++ [e]) n := by
  refine ⟨h.1, h.2.1, by simpa using hl, fun k hk => ?_⟩
  simp only [List.length_append, List.length_cons, List.length_nil] at hk
  by_cases hkl : k < l.length
  · rw [okAt_app hkl]; exact h.2.2.2 k hkl
  · obtain rfl : k = l.length := by omega
    rw [okAt_end]; exact hf
theorem WF0.init {l : List EH} {e : EH} {n : Nat} (h : WF0 (l ++ [e]) n) : WF0 l n ∧ fitsM n (l.length == 0) (paAt l l.length) (lkL l e.t l.length) e = true := by
  have hl := h.2.2.1
  simp only [List.length_append, List.length_cons, List.length_nil] at hl
  refine ⟨⟨h.1, h.2.1, by omega, fun k hk => ?_⟩, ?_⟩
  · rw [← okAt_app (r := [e]) hk]; exact h.2.2.2 k (by simp; omega)
  · rw [← okAt_end]; exact h.2.2.2 l.length (by simp)
theorem WF0.nil {n : Nat} (h1 : 1 ≤ n) (h2 : n ≤ 16) : WF0 [] n := ⟨h1, h2, by simp, fun k hk => by simp at hk⟩
end Go.Proofs.YtofjnldidkiihaaDoor
