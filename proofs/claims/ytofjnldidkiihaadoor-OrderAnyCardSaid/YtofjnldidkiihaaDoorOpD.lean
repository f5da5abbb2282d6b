/- Traces: a well-formed trace, told place by place. No condition. -/
import Derived.Test.YtofjnldidkiihaaDoorOpC
namespace Go.Proofs.YtofjnldidkiihaaDoor
open Go
set_option maxRecDepth 10000

/-- The kind of the last event of a thread ahead of a place, or 0. -/
def lkL (l : List EH) (t : Int) : Nat → Int
  | 0 => 0
  | i + 1 => if thr l i = t then knd l i else lkL l t i
theorem lkL_succ {l : List EH} {t : Int} {i : Nat} : lkL l t (i + 1) = if thr l i = t then knd l i else lkL l t i := rfl
theorem lkL_prev {l : List EH} {t k : Int} (hk : k ≠ 0) : ∀ i, lkL l t i = k → ∃ p, (p < i ∧ thr l p = t ∧ ∀ q, p < q → q < i → thr l q ≠ t) ∧ knd l p = k
  | 0, h => absurd h.symm hk
  | i + 1, h => by
    unfold lkL at h
    split at h
    · rename_i ht
      exact ⟨i, ⟨by omega, ht, fun q h1 h2 => by omega⟩, h⟩
    · rename_i hn
      obtain ⟨p, ⟨h1, h2, h3⟩, h4⟩ := lkL_prev hk i h
      refine ⟨p, ⟨by omega, h2, fun q h5 h6 => ?_⟩, h4⟩
      by_cases hq : q = i
      · subst hq; exact hn
      · exact h3 q h5 (by omega)
theorem lkL_bg {l : List EH} {t : Int} : ∀ i, lkL l t i = if bgL l t i < 0 then 0 else knd l (bgL l t i).toNat
  | 0 => by simp [lkL, bgL]
  | i + 1 => by
    unfold lkL bgL
    split
    · rw [if_neg (by omega)]; simp
    · exact lkL_bg i
/-- A place of a trace fits behind what is ahead of it. -/
def okAt (l : List EH) (n i : Nat) : Bool := fitsM n (i == 0) (paAt l i) (lkL l (thr l i) i) (at' l i)
theorem okAt_rng {l : List EH} {n i : Nat} (h : okAt l n i = true) : 0 ≤ thr l i ∧ thr l i < n := fits_rng h
theorem lk_set {l : List EH} {n i : Nat} (h : 0 ≤ thr l i ∧ thr l i < n) : (rowG n fun t => lkL l t i).set (thr l i).toNat (knd l i) = rowG n fun t => lkL l t (i + 1) := by
  refine rowG_set_eq fun t _ => ?_
  by_cases ht : t = (thr l i).toNat
  · rw [if_pos ht]
    unfold lkL
    rw [if_pos (by omega)]
  · rw [if_neg ht]
    rw [lkL_succ, if_neg (by omega)]
theorem chkG_ok {l : List EH} {n : Nat} : ∀ d i, d + i = l.length → ((chkG n (l.drop i) i (paAt l i) (rowG n fun t => lkL l t i)).2 = 0 ↔ ∀ k, i ≤ k → k < l.length → okAt l n k = true)
  | 0, i, h => by
    rw [List.drop_eq_nil_of_le (by omega)]
    exact ⟨fun _ k h1 h2 => by omega, fun _ => rfl⟩
  | d + 1, i, h => by
    obtain ⟨e, he⟩ : ∃ e, l[i]? = some e := ⟨_, List.getElem?_eq_getElem (by omega)⟩
    rw [drop_at he, chkG]
    have hae : at' l i = e := at_get he
    have hg : fitsM n (i == 0) (paAt l i) ((rowG n fun t => lkL l t i).getD e.t.toNat 0) e = okAt l n i := by
      unfold okAt
      rw [hae]
      by_cases ht : 0 ≤ e.t ∧ e.t < n
      · rw [List.getD_eq_getElem?_getD, rowG_get (by omega)]
        simp only [Option.getD_some]
        have : ((e.t.toNat : Nat) : Int) = thr l i := by unfold thr; rw [hae]; omega
        rw [this]
      · rw [fits_out ht, fits_out ht]
    rw [hg]
    cases hok : okAt l n i with
    | true =>
      simp only [if_true]
      have hs := lk_set (okAt_rng hok)
      unfold thr knd at hs
      rw [hae] at hs
      rw [hs, ← paAt_succ he, chkG_ok d (i + 1) (by omega)]
      constructor
      · intro hh k h1 h2
        by_cases hk : k = i
        · subst hk; exact hok
        · exact hh k (by omega) h2
      · exact fun hh k h1 h2 => hh k (by omega) h2
    | false =>
      simp only [Bool.false_eq_true, if_false]
      constructor
      · intro hh; exact absurd hh (by simp)
      · intro hh; have := hh i (Nat.le_refl i) (by omega); rw [hok] at this; cases this
theorem chkG_snd {n : Nat} : ∀ (l : List EH) (i : Nat) (pa : Int) (last : List Int), (chkG n l i pa last).2 = 0 → chkG n l i pa last = (0, 0)
  | [], _, _, _, _ => rfl
  | e :: l, i, pa, last, h => by
    unfold chkG at h ⊢
    split
    · rename_i hf
      rw [if_pos hf] at h
      exact chkG_snd l _ _ _ h
    · rename_i hf
      rw [if_neg hf] at h
      simp at h
/-- A trace that is well-formed, told place by place. -/
def WF0 (l : List EH) (n : Nat) : Prop := 1 ≤ n ∧ n ≤ 16 ∧ l.length ≤ 65536 ∧ ∀ k, k < l.length → okAt l n k = true
theorem chk_ok {l : List EH} {n : Int} : (chkE l n).2 = 0 ↔ 0 ≤ n ∧ WF0 l n.toNat := by
  unfold chkE WF0
  split
  · constructor
    · intro h; simp at h
    · intro h; omega
  · split
    · constructor
      · intro h; simp at h
      · intro h; omega
    · have := chkG_ok (l := l) (n := n.toNat) l.length 0 (by omega)
      rw [List.drop_zero] at this
      have e : paAt l 0 = 0 := rfl
      have e2 : (rowG n.toNat fun t => lkL l t 0) = List.replicate n.toNat 0 := rowG_rep.symm
      rw [e, e2] at this
      rw [this]
      constructor
      · intro h; exact ⟨by omega, by omega, by omega, by omega, fun k hk => h k (by omega) hk⟩
      · intro h k _ hk; exact h.2.2.2.2 k hk
theorem chk_eq {l : List EH} {n : Int} (h : (chkE l n).2 = 0) : chkE l n = (0, 0) := by
  unfold chkE at h ⊢
  split
  · rename_i hc; rw [if_pos hc] at h; simp at h
  · rename_i hc; rw [if_neg hc] at h
    split
    · rename_i hc2; rw [if_pos hc2] at h; simp at h
    · rename_i hc2; rw [if_neg hc2] at h; exact chkG_snd _ _ _ _ h
theorem WF0.wf {l : List EH} {n : Nat} (h : WF0 l n) : Wf l n := by
  have key : ∀ i, i < l.length → okAt l n i = true := h.2.2.2
  refine ⟨fun i hi => ?_, fun i hi h4 => ?_, fun i hi h4 => ?_⟩
  · have := key i hi
    unfold okAt fitsM at this
    simp only [Bool.and_eq_true, decide_eq_true_eq] at this
    obtain ⟨⟨⟨h1, h2⟩, h3⟩, _⟩ := this
    exact ⟨h1.2.2.1, h1.2.2.2.1, h1.1, h1.2.1, decide_eq_true h1.2.2.2.2.2, h2, h3⟩
  · have := key i hi
    unfold okAt fitsM at this
    rw [if_pos h4] at this
    simp only [Bool.and_eq_true, decide_eq_true_eq] at this
    exact lkL_prev (by omega) i this.2
  · have := key i hi
    unfold okAt fitsM at this
    rw [if_neg h4] at this
    simp only [Bool.and_eq_true, decide_eq_true_eq] at this
    exact this.2
theorem chk_wf {l : List EH} {n : Int} (h : (chkE l n).2 = 0) : Wf l n.toNat ∧ l.length ≤ 65536 ∧ 1 ≤ n ∧ n ≤ 16 := by
  obtain ⟨h1, h2⟩ := chk_ok.1 h
  exact ⟨h2.wf, h2.2.2.1, by have := h2.1; omega, by have := h2.2.1; omega⟩
end Go.Proofs.YtofjnldidkiihaaDoor
