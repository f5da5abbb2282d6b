/- Traces: the words of a place, sorted, each once; the first race by words. No condition. -/
import Derived.Test.YtofjnldidkiihaaDoorOpD
import Derived.Lib.SlicesCompact
namespace Go.Proofs.YtofjnldidkiihaaDoor
open Go
set_option maxRecDepth 10000

def srt (l : List Int) : List Int := l.mergeSort fun x y => decide (x ≤ y)
theorem srt_len (l : List Int) : (srt l).length = l.length := List.length_mergeSort l
theorem srt_mem {l : List Int} {x : Int} : x ∈ srt l ↔ x ∈ l := List.mem_mergeSort
theorem srt_sorted (l : List Int) : (srt l).Pairwise (· ≤ ·) := by
  have := List.pairwise_mergeSort (le := fun (x y : Int) => decide (x ≤ y)) (fun a b c h1 h2 => by simp only [decide_eq_true_eq] at *; omega) (fun a b => by simp only [Bool.or_eq_true, decide_eq_true_eq]; omega) l
  exact this.imp (fun h => by simpa using h)
def cmp (l : List Int) : List Int := Go.Lib.compact l
theorem cmp_upto {d : Array Int} (hs : d.toList.Pairwise (· ≤ ·)) : ∀ m, m ≤ d.size → (Go.Lib.compactUpTo d m).Pairwise (· < ·) ∧ (∀ x, x ∈ Go.Lib.compactUpTo d m ↔ ∃ j, j < m ∧ d[j]! = x) ∧ (Go.Lib.compactUpTo d m).length ≤ m
  | 0, _ => by simp [Go.Lib.compactUpTo]
  | m + 1, hm => by
    obtain ⟨h1, h2, h3⟩ := cmp_upto hs m (by omega)
    have hle : ∀ i j, i ≤ j → j < d.size → d[i]! ≤ d[j]! := fun i j hij hj => by
      by_cases he : i = j
      · subst he; exact Int.le_refl _
      · rw [getElem!_pos d i (by omega), getElem!_pos d j hj]
        have := List.pairwise_iff_getElem.1 hs i j (by simpa using (by omega : i < d.size)) (by simpa using hj) (by omega)
        simpa using this
    rw [Go.Lib.compactUpTo_succ]
    by_cases hk : Go.Lib.keeps d m = true
    · rw [if_pos hk]
      have hne : m = 0 ∨ d[m]! ≠ d[m - 1]! := by
        by_cases h0 : m = 0
        · exact .inl h0
        · right
          intro he
          rw [Go.Lib.keeps_neg (by omega) he] at hk
          cases hk
      refine ⟨?_, ?_, by simp; omega⟩
      · rw [List.pairwise_append]
        refine ⟨h1, List.pairwise_singleton _ _, fun a ha b hb => ?_⟩
        rw [List.mem_singleton] at hb
        subst hb
        obtain ⟨j, hj, rfl⟩ := (h2 a).1 ha
        rcases hne with h0 | hne
        · omega
        · have e1 := hle j (m - 1) (by omega) (by omega)
          have e2 := hle (m - 1) m (by omega) (by omega)
          omega
      · intro x
        rw [List.mem_append, h2, List.mem_singleton]
        constructor
        · rintro (⟨j, hj, rfl⟩ | rfl)
          · exact ⟨j, by omega, rfl⟩
          · exact ⟨m, by omega, rfl⟩
        · rintro ⟨j, hj, rfl⟩
          by_cases hjm : j = m
          · subst hjm; exact .inr rfl
          · exact .inl ⟨j, by omega, rfl⟩
    · rw [if_neg hk, List.append_nil]
      refine ⟨h1, fun x => ?_, by omega⟩
      rw [h2]
      have he : 0 < m ∧ d[m]! = d[m - 1]! := by
        by_cases h0 : m = 0
        · subst h0; exact absurd (Go.Lib.keeps_lt_one d 0 (by omega)) hk
        · refine ⟨by omega, ?_⟩
          by_cases h : d[m]! = d[m - 1]!
          · exact h
          · exact absurd (Go.Lib.keeps_pos h) hk
      constructor
      · rintro ⟨j, hj, rfl⟩; exact ⟨j, by omega, rfl⟩
      · rintro ⟨j, hj, rfl⟩
        by_cases hjm : j = m
        · subst hjm; exact ⟨j - 1, by omega, he.2.symm⟩
        · exact ⟨j, by omega, rfl⟩
theorem cmp_spec {l : List Int} (hs : l.Pairwise (· ≤ ·)) : (cmp l).Pairwise (· < ·) ∧ (∀ x, x ∈ cmp l ↔ x ∈ l) ∧ (cmp l).length ≤ l.length := by
  obtain ⟨h1, h2, h3⟩ := cmp_upto (d := l.toArray) (by simpa using hs) l.length (by simp)
  refine ⟨h1, fun x => (h2 x).trans ?_, h3⟩
  rw [List.mem_iff_getElem]
  constructor
  · rintro ⟨j, hj, rfl⟩; exact ⟨j, hj, by rw [getElem!_pos _ j (by simpa using hj)]; simp⟩
  · rintro ⟨j, hj, rfl⟩; exact ⟨j, hj, by rw [getElem!_pos _ j (by simpa using hj)]; simp⟩
/-- The words of a place. -/
def touW (e : EH) : List Int := if e.k = 1 ∨ e.k = 2 then [e.w] else cmp (srt (e.rl ++ e.wl))
theorem touW_spec (e : EH) : (touW e).Pairwise (· < ·) ∧ (∀ x, x ∈ touW e ↔ if e.k = 1 ∨ e.k = 2 then x = e.w else x ∈ e.rl ∨ x ∈ e.wl) ∧ (touW e).length ≤ 1 + (e.rl.length + e.wl.length) := by
  unfold touW
  by_cases h : e.k = 1 ∨ e.k = 2
  · simp only [if_pos h]
    exact ⟨List.pairwise_singleton _ _, fun x => by simp, by simp⟩
  · simp only [if_neg h]
    obtain ⟨h1, h2, h3⟩ := cmp_spec (srt_sorted (e.rl ++ e.wl))
    refine ⟨h1, fun x => ?_, ?_⟩
    · rw [h2, srt_mem, List.mem_append]
    · rw [srt_len, List.length_append] at h3; omega
theorem touW_rng {l : List EH} {n y : Nat} (hw : Wf l n) (hy : y < l.length) : ∀ x ∈ touW (at' l y), 0 ≤ x ∧ x < 64 := by
  intro x hx
  have hk := hw.kd y hy
  have hm := ((touW_spec (at' l y)).2.1 x).1 hx
  have h3 : ∀ z, inW z = true → 0 ≤ z ∧ z < 64 := fun z h => of_decide_eq_true h
  split at hm
  · subst hm; exact h3 _ hk.2.2.2.2.1
  · rcases hm with hm | hm
    · exact h3 x (List.all_eq_true.1 hk.2.2.2.2.2.1 x hm)
    · exact h3 x (List.all_eq_true.1 hk.2.2.2.2.2.2 x hm)
/-- Of a word that a place has not, it has no race. -/
theorem rcL_off {l : List EH} {n y : Nat} {w : Int} (hw : Wf l n) (hy : y < l.length) (h3 : knd l y ≠ 3) (hn : w ∉ touW (at' l y)) : ∀ m, rcL l y w m = []
  | 0 => rfl
  | m + 1 => by
    rw [rcL_succ, rcL_off hw hy h3 hn m]
    have : rcB l y w m = false := by
      have hm := fun h => hn (((touW_spec (at' l y)).2.1 w).2 h)
      have hk := hw.kd y hy
      unfold rcB confB cfP
      unfold knd at hk h3
      generalize at' l y = e at *
      by_cases h4 : e.k = 4
      · rw [if_neg (by omega)] at hm
        have h1 : e.rl.contains w = false := by rw [← Bool.not_eq_true, List.contains_iff_mem]; exact fun h => hm (.inl h)
        have h2 : e.wl.contains w = false := by rw [← Bool.not_eq_true, List.contains_iff_mem]; exact fun h => hm (.inr h)
        simp only [h4, h1, h2]
        split <;> simp
      · rw [if_pos (by omega)] at hm
        have h1 : ¬ e.w = w := fun h => hm h.symm
        simp only [h4, if_false, decide_eq_false h1]
        split <;> simp
    rw [this]
    rfl
theorem rcW_tou {l : List EH} {n y : Nat} (hw : Wf l n) (hy : y < l.length) (h3 : knd l y ≠ 3) : rcW l y 64 = (touW (at' l y)).flatMap fun w => rcL l y w y := by
  unfold rcW
  rw [List.range_eq_range']
  exact flat_touch (f := fun w => rcL l y w y) 64 0 (touW (at' l y)) (touW_spec _).1 (fun x hx => by have := touW_rng hw hy x hx; omega) (fun w _ hn => rcL_off hw hy h3 hn y)

/- The first race -/
theorem find_range {β : Type} {g : Nat → Option β} {r : β} : ∀ (n k : Nat), k < n → g k = some r → (∀ j, j < k → g j = none) → (List.range n).findSome? g = some r
  | 0, k, h, _, _ => by omega
  | n + 1, k, h, hg, hn => by
    rw [List.range_succ, List.findSome?_append]
    by_cases hk : k = n
    · subst hk
      have : (List.range k).findSome? g = none := by
        rw [List.findSome?_eq_none_iff]
        intro x hx
        exact hn x (List.mem_range.1 hx)
      rw [this]
      simp [hg]
    · rw [find_range n k (by omega) hg hn]
      rfl
theorem prs_succ {l : List EH} {m : Nat} : prs l (m + 1) = prs l m ++ (if knd l m = 3 then [] else (List.range 64).map fun (w : Nat) => (m, (w : Int))) := by
  unfold prs
  rw [List.range_succ (n := m), List.flatMap_append]
  simp
theorem frst_none {l : List EH} (h : rcA l l.length = []) : frst l = (-1, -1, -1) := by
  rw [← best_all, h]; rfl
/-- The first race stands at the first place that has one, at its first word that has one. -/
theorem frst_at {l : List EH} {y : Nat} {w : Int} {r : RaceM} (hy : y < l.length) (h3 : knd l y ≠ 3) (hb : rcA l y = []) (hw : 0 ≤ w ∧ w < 64) (hr : (rcL l y w y).getLast? = some r) (hn : ∀ w' : Int, 0 ≤ w' → w' < w → rcL l y w' y = []) : frst l = r := by
  unfold frst
  have e : prs l l.length = prs l y ++ (prs l (y + 1)).drop (prs l y).length ++ (prs l l.length).drop (prs l (y + 1)).length := by
    have hp : ∀ m d, ∃ z, prs l (m + d) = prs l m ++ z := fun m d => by
      induction d with
      | zero => exact ⟨[], by simp⟩
      | succ d ih =>
        obtain ⟨z, hz⟩ := ih
        refine ⟨z ++ (if knd l (m + d) = 3 then [] else (List.range 64).map fun (w : Nat) => (m + d, (w : Int))), ?_⟩
        rw [← List.append_assoc, ← hz]
        exact prs_succ
    obtain ⟨z1, h1⟩ := hp y 1
    obtain ⟨z2, h2⟩ := hp (y + 1) (l.length - (y + 1))
    rw [show y + 1 + (l.length - (y + 1)) = l.length by omega] at h2
    rw [h2, h1]
    simp
  rw [e, List.findSome?_append, List.findSome?_append]
  have e1 : (prs l y).findSome? (fun p => (rcL l p.1 p.2 p.1).getLast?) = none := by
    rw [List.findSome?_eq_none_iff]
    intro p hp
    rw [rcA_prs] at hb
    have := List.flatMap_eq_nil_iff.1 hb p hp
    rw [this]; rfl
  have e2 : (prs l (y + 1)).drop (prs l y).length = (List.range 64).map fun (w : Nat) => (y, (w : Int)) := by
    rw [prs_succ, if_neg h3]
    simp
  have e3 : ((List.range 64).map fun (w : Nat) => (y, (w : Int))).findSome? (fun p => (rcL l p.1 p.2 p.1).getLast?) = some r := by
    rw [List.findSome?_map]
    refine find_range 64 w.toNat (by omega) ?_ ?_
    · simp only [Function.comp_apply]
      rw [Int.toNat_of_nonneg hw.1]; exact hr
    · intro j hj
      simp only [Function.comp_apply]
      rw [hn j (by omega) (by omega)]; rfl
  rw [e1, e2, e3]
  rfl
end Go.Proofs.YtofjnldidkiihaaDoor
