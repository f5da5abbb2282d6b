/- Traces: what order computes, in plain lists. No condition. -/
import Derived.Test.YtofjnldidkiihaaDoorOpB
namespace Go.Proofs.YtofjnldidkiihaaDoor
open Go
set_option maxRecDepth 10000

def rowG {α : Type} (n : Nat) (g : Nat → α) : List α := (List.range n).map g
section
variable {α : Type} {n j : Nat} {g g' : Nat → α}
theorem rowG_len : (rowG n g).length = n := by simp [rowG]
theorem rowG_get (hj : j < n) : (rowG n g)[j]? = some (g j) := by simp [rowG, hj]
theorem rowG_congr (h : ∀ j, j < n → g j = g' j) : rowG n g = rowG n g' := List.map_congr_left fun j hj => h j (List.mem_range.1 hj)
theorem rowG_set {v : α} : (rowG n g).set j v = rowG n (fun i => if i = j then v else g i) := by
  apply List.ext_getElem?
  intro i
  by_cases hi : i < n
  · rw [rowG_get hi, List.getElem?_set]
    by_cases hij : j = i
    · subst hij; rw [if_pos rfl, if_pos (by rw [rowG_len]; exact hi), if_pos rfl]
    · rw [if_neg hij, rowG_get hi, if_neg (Ne.symm hij)]
  · rw [List.getElem?_eq_none (by rw [List.length_set, rowG_len]; omega), List.getElem?_eq_none (by rw [rowG_len]; omega)]
theorem rowG_set_eq {v : α} (h : ∀ i, i < n → (if i = j then v else g i) = g' i) : (rowG n g).set j v = rowG n g' := by
  rw [rowG_set]; exact rowG_congr h
theorem rowG_rep {x : α} : List.replicate n x = rowG n (fun _ => x) := by
  apply List.ext_getElem?
  intro i
  by_cases hi : i < n
  · rw [rowG_get hi]; simp [hi]
  · rw [List.getElem?_eq_none (by simp; omega), List.getElem?_eq_none (by rw [rowG_len]; omega)]
end
/-- The last end of a thread ahead of a place, or -1. -/
def lsE (l : List EH) (t : Int) : Nat → Int
  | 0 => -1
  | i + 1 => if knd l i = 4 ∧ thr l i = t then i else lsE l t i
/-- The first end of a thread among so many places from the back, or -1. -/
def nxD (l : List EH) (t : Int) : Nat → Int
  | 0 => -1
  | d + 1 => if knd l (l.length - (d + 1)) = 4 ∧ thr l (l.length - (d + 1)) = t then (l.length - (d + 1) : Nat) else nxD l t d
def nxE (l : List EH) (t : Int) (i : Nat) : Int := nxD l t (l.length - i)
theorem lsE_rng (l : List EH) (t : Int) : ∀ i, -1 ≤ lsE l t i ∧ lsE l t i < i
  | 0 => by simp [lsE]
  | i + 1 => by
    have := lsE_rng l t i
    unfold lsE
    split <;> omega
theorem lsE_gt {l : List EH} {t c : Int} (hc : -1 ≤ c) : ∀ j : Nat, c < lsE l t j ↔ ∃ f : Nat, c < f ∧ f < j ∧ knd l f = 4 ∧ thr l f = t
  | 0 => by
    unfold lsE
    constructor
    · intro h; omega
    · rintro ⟨f, _, h, _⟩; omega
  | j + 1 => by
    unfold lsE
    split
    · rename_i hh
      constructor
      · intro h; exact ⟨j, h, by omega, hh.1, hh.2⟩
      · rintro ⟨f, h1, h2, _⟩; omega
    · rename_i hh
      rw [lsE_gt hc j]
      constructor
      · rintro ⟨f, h1, h2, h3⟩; exact ⟨f, h1, by omega, h3⟩
      · rintro ⟨f, h1, h2, h3, h4⟩
        by_cases hf : f = j
        · subst hf; exact absurd ⟨h3, h4⟩ hh
        · exact ⟨f, h1, by omega, h3, h4⟩
theorem nxD_rng (l : List EH) (t : Int) : ∀ d, d ≤ l.length → nxD l t d = -1 ∨ ((l.length - d : Nat) : Int) ≤ nxD l t d ∧ nxD l t d < l.length
  | 0, _ => by simp [nxD]
  | d + 1, h => by
    have := nxD_rng l t d (by omega)
    unfold nxD
    split <;> omega
theorem nxD_lt {l : List EH} {t c : Int} : ∀ d, d ≤ l.length → ((0 ≤ nxD l t d ∧ nxD l t d < c) ↔ ∃ e : Nat, l.length - d ≤ e ∧ e < l.length ∧ (e : Int) < c ∧ knd l e = 4 ∧ thr l e = t)
  | 0, _ => by
    unfold nxD
    constructor
    · rintro ⟨h, _⟩; omega
    · rintro ⟨e, h1, h2, _⟩; omega
  | d + 1, h => by
    unfold nxD
    split
    · rename_i hh
      constructor
      · rintro ⟨h1, h2⟩; exact ⟨l.length - (d + 1), Nat.le_refl _, by omega, h2, hh.1, hh.2⟩
      · rintro ⟨e, h1, h2, h3, _⟩; omega
    · rename_i hh
      rw [nxD_lt d (by omega)]
      constructor
      · rintro ⟨e, h1, h2⟩; exact ⟨e, by omega, h2⟩
      · rintro ⟨e, h1, h2, h3, h4, h5⟩
        by_cases he : e = l.length - (d + 1)
        · subst he; exact absurd ⟨h4, h5⟩ hh
        · exact ⟨e, by omega, h2, h3, h4, h5⟩
/-- order's own formula. -/
def befB (l : List EH) (i j : Nat) : Bool :=
  if j ≤ i then false else if thr l i = thr l j then true else if nxE l (thr l i) i < 0 then false
  else if knd l j = 1 ∨ knd l j = 2 then decide (nxE l (thr l i) i < lsE l (thr l j) j) else decide (nxE l (thr l i) i < j)
theorem befB_iff {l : List EH} {i j : Nat} (hi : cntP l i) (hj : cntP l j) : befB l i j = hbB l i j := by
  rw [Bool.eq_iff_iff, hbB_iff]
  unfold befB HB
  by_cases h1 : j ≤ i
  · rw [if_pos h1]; simp; omega
  · rw [if_neg h1]
    by_cases h2 : thr l i = thr l j
    · rw [if_pos h2]; simp [h2, hi, hj]; omega
    · rw [if_neg h2]
      have hil := hi.1
      have hjl := hj.1
      have hn := fun c => nxD_lt (l := l) (t := thr l i) (c := c) (l.length - i) (by omega)
      have e0 : l.length - (l.length - i) = i := by omega
      rw [e0] at hn
      change ∀ c, (0 ≤ nxE l (thr l i) i ∧ nxE l (thr l i) i < c ↔ _) at hn
      generalize nxE l (thr l i) i = x at *
      by_cases h3 : x < 0
      · rw [if_pos h3]
        simp only [Bool.false_eq_true, false_iff]
        rintro ⟨_, _, _, h | ⟨_, e, f, a1, a2, a3, a4, _, a6, _⟩ | ⟨_, e, a1, a2, a3, a4⟩⟩
        · exact h2 h
        · have := (hn l.length).2 ⟨e, a1, by omega, by omega, a4, a6⟩; omega
        · have := (hn l.length).2 ⟨e, a1, by omega, by omega, a3, a4⟩; omega
      · rw [if_neg h3]
        by_cases h4 : knd l j = 1 ∨ knd l j = 2
        · rw [if_pos h4, decide_eq_true_iff, lsE_gt (by omega)]
          constructor
          · rintro ⟨f, b1, b2, b3, b4⟩
            obtain ⟨e, c1, c2, c3, c4, c5⟩ := (hn f).1 ⟨by omega, b1⟩
            exact ⟨by omega, hi, hj, .inr (.inl ⟨h4, e, f, c1, by omega, b2, c4, b3, c5, b4⟩)⟩
          · rintro ⟨_, _, _, h | ⟨_, e, f, a1, a2, a3, a4, a5, a6, a7⟩ | ⟨hp, _⟩⟩
            · exact absurd h h2
            · have := (hn f).2 ⟨e, a1, by omega, by omega, a4, a6⟩
              exact ⟨f, this.2, a3, a5, a7⟩
            · exact absurd h4 hp
        · rw [if_neg h4, decide_eq_true_iff]
          constructor
          · intro h
            obtain ⟨e, c1, c2, c3, c4, c5⟩ := (hn j).1 ⟨by omega, h⟩
            exact ⟨by omega, hi, hj, .inr (.inr ⟨h4, e, c1, by omega, c4, c5⟩)⟩
          · rintro ⟨_, _, _, h | ⟨hp, _⟩ | ⟨_, e, a1, a2, a3, a4⟩⟩
            · exact absurd h h2
            · exact absurd hp h4
            · exact ((hn j).2 ⟨e, a1, by omega, by omega, a3, a4⟩).2
/-- The ends of begins, so many events gone through. -/
def edF (l : List EH) : Nat → Nat → Int
  | 0, _ => 0
  | k + 1, i => if knd l k = 4 ∧ bgL l (thr l k) k = i then k else if i = k then -1 else edF l k i
theorem edF_spec {l : List EH} : ∀ k i, i < k → (0 ≤ edF l k i ↔ ∃ e, e < k ∧ knd l e = 4 ∧ bgL l (thr l e) e = i)
  | 0, i, h => by omega
  | k + 1, i, h => by
    unfold edF
    split
    · rename_i hh
      exact ⟨fun _ => ⟨k, by omega, hh⟩, fun _ => by omega⟩
    · rename_i hh
      by_cases hik : i = k
      · subst hik
        rw [if_pos rfl]
        constructor
        · intro h; omega
        · rintro ⟨e, h1, h2, h3⟩
          have := (bgL_is e i h3).1
          omega
      · rw [if_neg hik, edF_spec k i (by omega)]
        constructor
        · rintro ⟨e, h1, h2⟩; exact ⟨e, by omega, h2⟩
        · rintro ⟨e, h1, h2, h3⟩
          by_cases he : e = k
          · subst he; exact absurd ⟨h2, h3⟩ hh
          · exact ⟨e, by omega, h2, h3⟩
/-- order's own test of what counts. -/
def ocnt (l : List EH) (i : Int) : Bool := decide (0 ≤ i ∧ i < l.length) && (!decide (knd l i.toNat = 3) || decide (0 ≤ edF l l.length i.toNat))
theorem ocnt_iff {l : List EH} (i : Nat) : ocnt l i = true ↔ cntP l i := by
  unfold ocnt cntP
  simp only [Int.toNat_natCast, Bool.and_eq_true, Bool.or_eq_true, decide_eq_true_eq, Bool.not_eq_true', decide_eq_false_iff_not]
  constructor
  · rintro ⟨⟨_, h⟩, h2⟩
    refine ⟨by omega, ?_⟩
    rcases h2 with h2 | h2
    · exact .inl h2
    · obtain ⟨e, h1, h3, h4⟩ := (edF_spec _ i (by omega)).1 h2
      exact .inr ⟨e, h1, prev_iff.2 h4, h3⟩
  · rintro ⟨h, h2⟩
    refine ⟨by omega, ?_⟩
    rcases h2 with h2 | ⟨e, h1, h3, h4⟩
    · exact .inl h2
    · exact .inr ((edF_spec _ i (by omega)).2 ⟨e, h1, h4, prev_iff.1 h3⟩)

/- WORDS THAT ARE TOUCHED -/
theorem flat_touch {β : Type} {f : Int → List β} : ∀ (n a : Nat) (t : List Int), t.Pairwise (· < ·) → (∀ x ∈ t, (a : Int) ≤ x ∧ x < (a + n : Nat)) → (∀ w : Nat, a ≤ w → (w : Int) ∉ t → f w = []) → (List.range' a n).flatMap (fun (w : Nat) => f w) = t.flatMap f
  | 0, a, t, _, hr, _ => by
    cases t with
    | nil => rfl
    | cons x t => have := hr x List.mem_cons_self; omega
  | n + 1, a, [], _, _, hf => by
    rw [List.range'_succ, List.flatMap_cons, hf a (Nat.le_refl a) (by simp)]
    rw [flat_touch n (a + 1) [] List.Pairwise.nil (by simp) (fun w h _ => hf w (by omega) (by simp))]
    rfl
  | n + 1, a, x :: t, hs, hr, hf => by
    rw [List.range'_succ, List.flatMap_cons]
    have hx := hr x List.mem_cons_self
    rw [List.pairwise_cons] at hs
    by_cases hxa : x = a
    · subst hxa
      rw [List.flatMap_cons, flat_touch n (a + 1) t hs.2 (fun y hy => ?_) (fun w h hn => hf w (by omega) (fun hm => ?_))]
      · have h1 := hs.1 y hy
        have h2 := hr y (List.mem_cons_of_mem _ hy)
        omega
      · rcases List.mem_cons.1 hm with h | h
        · omega
        · exact hn h
    · rw [hf a (Nat.le_refl a) (fun hm => ?_), List.nil_append]
      · refine flat_touch n (a + 1) (x :: t) (List.pairwise_cons.2 hs) (fun y hy => ?_) (fun w h hn => hf w (by omega) hn)
        have h2 := hr y hy
        rcases List.mem_cons.1 hy with rfl | h
        · omega
        · have := hs.1 y h; omega
      · rcases List.mem_cons.1 hm with h | h
        · exact hxa h.symm
        · have := hs.1 _ h; omega
end Go.Proofs.YtofjnldidkiihaaDoor
