/- Traces: races, in plain lists; what the reference computes of them. No condition. -/
import Derived.Test.YtofjnldidkiihaaDoorOcE
namespace Go.Proofs.YtofjnldidkiihaaDoor
open Go
set_option maxRecDepth 10000

theorem bgL_is {l : List EH} {t : Int} : ∀ (j p : Nat), bgL l t j = p → p < j ∧ thr l p = t ∧ ∀ q, p < q → q < j → thr l q ≠ t
  | 0, p, h => by unfold bgL at h; omega
  | j + 1, p, h => by
    unfold bgL at h
    split at h
    · rename_i ht
      have : p = j := by omega
      subst this
      exact ⟨by omega, ht, fun q a b => by omega⟩
    · rename_i hn
      obtain ⟨a, b, c⟩ := bgL_is j p h
      refine ⟨by omega, b, fun q h1 h2 => ?_⟩
      by_cases hq : q = j
      · subst hq; exact hn
      · exact c q h1 (by omega)
theorem prev_iff {l : List EH} {i p : Nat} : prevT l i p ↔ bgL l (thr l i) i = p := ⟨bg_prev, fun h => bgL_is i p h⟩
/-- The begin of an end. -/
theorem bg_nat {l : List EH} {n i : Nat} (hw : Wf l n) (hi : i < l.length) (h4 : knd l i = 4) : ∃ p : Nat, bgL l (thr l i) i = p ∧ p < i ∧ knd l p = 3 ∧ thr l p = thr l i := by
  obtain ⟨p, hp, h3⟩ := hw.en i hi h4
  exact ⟨p, bg_prev hp, hp.1, h3, hp.2.1⟩
theorem bool_iff {a : Bool} {p : Prop} [Decidable p] (h : a = true ↔ p) : a = decide p := by rw [Bool.eq_iff_iff, decide_eq_true_iff]; exact h
section
open Classical
theorem cntL_get {l : List EH} {n : Nat} (hw : Wf l n) : ∀ k, k ≤ l.length → ∀ i, i < l.length → (cntL l k)[i]? = some (decide ((i < k ∧ knd l i ≠ 3) ∨ ∃ e, e < k ∧ knd l e = 4 ∧ bgL l (thr l e) e = i))
  | 0, _, i, hi => by
    unfold cntL
    simp [hi]
  | k + 1, hk, i, hi => by
    have ih := cntL_get hw k (by omega) i hi
    have hlen := cntL_len l k
    unfold cntL
    by_cases h4 : knd l k = 4
    · rw [if_pos h4]
      obtain ⟨p, hp, hpk, h3, _⟩ := bg_nat hw (by omega) h4
      rw [hp, Int.toNat_natCast, List.getElem?_set]
      by_cases hip : p = i
      · subst hip
        rw [if_pos rfl, if_pos (by rw [List.length_set]; omega)]
        congr 1
        refine (decide_eq_true ?_).symm
        exact .inr ⟨k, by omega, h4, hp⟩
      · rw [if_neg hip, List.getElem?_set]
        by_cases hik : k = i
        · subst hik
          rw [if_pos rfl, if_pos (by omega)]
          congr 1
          rw [decide_eq_true (by omega : knd l k ≠ 3)]
          exact (decide_eq_true (.inl ⟨by omega, by omega⟩)).symm
        · rw [if_neg hik, ih]
          congr 1
          refine decide_eq_decide.2 ⟨?_, ?_⟩
          · rintro (⟨a, b⟩ | ⟨e, a, b, c⟩)
            · exact .inl ⟨by omega, b⟩
            · exact .inr ⟨e, by omega, b, c⟩
          · rintro (⟨a, b⟩ | ⟨e, a, b, c⟩)
            · exact .inl ⟨by omega, b⟩
            · by_cases hek : e = k
              · subst hek; rw [hp] at c; exact absurd (by omega) hip
              · exact .inr ⟨e, by omega, b, c⟩
    · rw [if_neg h4, List.getElem?_set]
      by_cases hik : k = i
      · subst hik
        rw [if_pos rfl, if_pos (by omega)]
        congr 1
        refine decide_eq_decide.2 ⟨fun h => .inl ⟨by omega, h⟩, ?_⟩
        rintro (⟨a, b⟩ | ⟨e, a, b, c⟩)
        · exact b
        · have := (bgL_is e k c).1
          omega
      · rw [if_neg hik, ih]
        congr 1
        refine decide_eq_decide.2 ⟨?_, ?_⟩
        · rintro (⟨a, b⟩ | ⟨e, a, b, c⟩)
          · exact .inl ⟨by omega, b⟩
          · exact .inr ⟨e, by omega, b, c⟩
        · rintro (⟨a, b⟩ | ⟨e, a, b, c⟩)
          · exact .inl ⟨by omega, b⟩
          · by_cases hek : e = k
            · subst hek; exact absurd b h4
            · exact .inr ⟨e, by omega, b, c⟩
end
theorem isB_iff {l : List EH} {n : Nat} (hw : Wf l n) (i : Nat) : isB l i = true ↔ cntP l i := by
  unfold isB cntP
  rw [List.getD_eq_getElem?_getD]
  by_cases hi : i < l.length
  · rw [cntL_get hw l.length (Nat.le_refl _) i hi]
    simp only [Option.getD_some, decide_eq_true_iff]
    constructor
    · rintro (⟨a, b⟩ | ⟨e, a, b, c⟩)
      · exact ⟨hi, .inl b⟩
      · exact ⟨hi, .inr ⟨e, a, prev_iff.2 c, b⟩⟩
    · rintro ⟨_, b | ⟨e, a, b, c⟩⟩
      · exact .inl ⟨hi, b⟩
      · exact .inr ⟨e, a, c, prev_iff.1 b⟩
  · rw [List.getElem?_eq_none (by rw [cntL_len]; omega)]
    simp [hi]
theorem dirB_iff {l : List EH} {n : Nat} (hw : Wf l n) (i j : Nat) : dirB l i j = true ↔ DI l i j := by
  unfold dirB DI
  simp only [Bool.and_eq_true, Bool.or_eq_true, decide_eq_true_eq, isB_iff hw, and_assoc]
/-- Happens-before, decided. -/
noncomputable def hbB (l : List EH) (i j : Nat) : Bool := @decide (HB l i j) (Classical.propDecidable _)
theorem hbB_iff {l : List EH} {i j : Nat} : hbB l i j = true ↔ HB l i j := by unfold hbB; exact @decide_eq_true_iff _ (Classical.propDecidable _)
theorem clos_B {l : List EH} {n : Nat} (hw : Wf l n) (i j : Nat) : clos (dirB l) l.length i j = hbB l i j := by
  rw [Bool.eq_iff_iff, hbB_iff]
  exact clos_hb hw (dirB_iff hw) i j

/- CONFLICTS AND RACES -/
/-- A plain access and another event, on a word. -/
def cfP (a b : EH) (w : Int) : Bool := decide (a.w = w) && (if b.k = 4 then (b.wl.contains w || (decide (a.k = 2) && b.rl.contains w)) else decide (b.w = w) && (decide (a.k = 2) || decide (b.k = 2)))
def confB (a b : EH) (w : Int) : Bool := !decide (a.t = b.t) && (if a.k = 4 then !decide (b.k = 4) && cfP b a w else cfP a b w)
/-- A race: the two places, the word. -/
abbrev RaceM := Int × Int × Int
abbrev encRc (r : RaceM) : List Value := [.int .i64 r.1, .int .i64 r.2.1, .int .i64 r.2.2]
/-- Where a place is to be reached: the place of a plain access, the begin of a transaction. -/
def toP (l : List EH) (y : Nat) : Nat := if knd l y = 4 then (bgL l (thr l y) y).toNat else y
noncomputable def rcB (l : List EH) (y : Nat) (w : Int) (x : Nat) : Bool := !decide (knd l x = 3) && (confB (at' l x) (at' l y) w && !hbB l x (toP l y))
noncomputable def rcL (l : List EH) (y : Nat) (w : Int) (m : Nat) : List RaceM := ((List.range m).filter (rcB l y w)).map fun (x : Nat) => ((x : Int), (y : Int), w)
theorem rcL_zero {l : List EH} {y : Nat} {w : Int} : rcL l y w 0 = [] := rfl
theorem rcL_succ {l : List EH} {y m : Nat} {w : Int} : rcL l y w (m + 1) = rcL l y w m ++ if rcB l y w m = true then [((m : Int), (y : Int), w)] else [] := by
  unfold rcL
  rw [List.range_succ, List.filter_append, List.map_append]
  congr 1
  cases h : rcB l y w m <;> simp [List.filter, h]
theorem rcL_len (l : List EH) (y : Nat) (w : Int) (m : Nat) : (rcL l y w m).length ≤ m := by
  unfold rcL
  rw [List.length_map]
  exact Nat.le_trans (List.length_filter_le _ _) (by simp)
/-- All races of a place, so many words gone through. -/
noncomputable def rcW (l : List EH) (y m : Nat) : List RaceM := (List.range m).flatMap fun (w : Nat) => rcL l y w y
theorem rcW_succ {l : List EH} {y m : Nat} : rcW l y (m + 1) = rcW l y m ++ rcL l y m y := by
  unfold rcW; rw [List.range_succ, List.flatMap_append]; simp
/-- All races, so many places gone through. -/
noncomputable def rcA (l : List EH) (m : Nat) : List RaceM := (List.range m).flatMap fun y => if knd l y = 3 then [] else rcW l y 64
theorem rcA_succ {l : List EH} {m : Nat} : rcA l (m + 1) = rcA l m ++ if knd l m = 3 then [] else rcW l m 64 := by
  unfold rcA; rw [List.range_succ, List.flatMap_append]; simp
theorem rcW_len (l : List EH) (y : Nat) : ∀ m, (rcW l y m).length ≤ m * y
  | 0 => by simp [rcW]
  | m + 1 => by
    rw [rcW_succ, List.length_append, Nat.succ_mul]
    have := rcW_len l y m
    have := rcL_len l y m y
    omega
theorem rcA_len (l : List EH) (n : Nat) : ∀ m, m ≤ n → (rcA l m).length ≤ m * (64 * n)
  | 0, _ => by simp [rcA]
  | m + 1, h => by
    rw [rcA_succ, List.length_append, Nat.succ_mul]
    have := rcA_len l n m (by omega)
    split
    · simp; omega
    · have := rcW_len l m 64
      omega

/- The first race -/
def bstep (b r : RaceM) : RaceM := if r.2.1 = b.2.1 ∧ r.2.2 = b.2.2 ∧ b.1 < r.1 then r else b
def bestF : List RaceM → RaceM
  | [] => (-1, -1, -1)
  | r :: rs => rs.foldl bstep r
theorem fold_skip : ∀ (rs : List RaceM) (b : RaceM), (∀ r ∈ rs, r.2 ≠ b.2) → rs.foldl bstep b = b
  | [], _, _ => rfl
  | r :: rs, b, h => by
    have h1 : bstep b r = b := by
      unfold bstep
      rw [if_neg (fun hh => h r List.mem_cons_self (Prod.ext hh.1 hh.2.1))]
    rw [List.foldl_cons, h1]
    exact fold_skip rs b (fun r hr => h r (List.mem_cons_of_mem _ hr))
theorem fold_grp : ∀ (rs : List RaceM) (b : RaceM), (∀ r ∈ rs, r.2 = b.2) → (b :: rs).Pairwise (fun a b => a.1 < b.1) → rs.foldl bstep b = (rs.getLast?).getD b
  | [], _, _, _ => rfl
  | r :: rs, b, h, hp => by
    have hr := h r List.mem_cons_self
    rw [List.pairwise_cons] at hp
    have h1 : bstep b r = r := by
      unfold bstep
      rw [if_pos ⟨by rw [hr], by rw [hr], hp.1 r List.mem_cons_self⟩]
    rw [List.foldl_cons, h1, fold_grp rs r (fun x hx => (h x (List.mem_cons_of_mem _ hx)).trans hr.symm) hp.2]
    cases rs <;> simp [List.getLast?_cons]
theorem best_groups {σ : Type} (key : σ → Int × Int) (g : σ → List RaceM) (hk : ∀ p, ∀ r ∈ g p, r.2 = key p) (hs : ∀ p, (g p).Pairwise (fun a b => a.1 < b.1)) :
    ∀ ps : List σ, ps.Pairwise (fun p q => key p ≠ key q) → bestF (ps.flatMap g) = (ps.findSome? fun p => (g p).getLast?).getD (-1, -1, -1)
  | [], _ => rfl
  | p :: ps, hn => by
    rw [List.pairwise_cons] at hn
    rw [List.flatMap_cons]
    cases hg : g p with
    | nil =>
      rw [List.nil_append, best_groups key g hk hs ps hn.2, List.findSome?_cons, hg]
      rfl
    | cons r rs =>
      have hk' := hk p
      rw [hg] at hk'
      have hs' := hs p
      rw [hg] at hs'
      have hr := hk' r List.mem_cons_self
      rw [List.findSome?_cons, hg]
      show (rs ++ ps.flatMap g).foldl bstep r = _
      rw [List.foldl_append, fold_grp rs r (fun x hx => (hk' x (List.mem_cons_of_mem _ hx)).trans hr.symm) hs']
      have e : (r :: rs).getLast? = some ((rs.getLast?).getD r) := by rw [List.getLast?_cons]
      rw [e]
      simp only [Option.getD_some]
      refine fold_skip _ _ ?_
      intro x hx
      obtain ⟨q, hq, hx⟩ := List.mem_flatMap.1 hx
      rw [hk q x hx]
      have : ((rs.getLast?).getD r).2 = key p := by
        cases hl : rs.getLast? with
        | none => exact hr
        | some z => exact hk' z (List.mem_cons_of_mem _ (List.mem_of_getLast? hl))
      rw [this]
      exact fun e => hn.1 q hq e.symm
/-- The places and words that races are looked for at. -/
def prs (l : List EH) (m : Nat) : List (Nat × Int) := (List.range m).flatMap fun y => if knd l y = 3 then [] else (List.range 64).map fun (w : Nat) => (y, (w : Int))
noncomputable def frst (l : List EH) : RaceM := ((prs l l.length).findSome? fun p => (rcL l p.1 p.2 p.1).getLast?).getD (-1, -1, -1)
theorem rcA_prs (l : List EH) (m : Nat) : rcA l m = (prs l m).flatMap fun p => rcL l p.1 p.2 p.1 := by
  unfold rcA prs
  rw [List.flatMap_assoc]
  congr 1
  funext y
  split
  · rfl
  · rw [List.flatMap_map]; rfl
theorem rcL_key {l : List EH} {y m : Nat} {w : Int} : ∀ r ∈ rcL l y w m, r.2 = ((y : Int), w) := by
  intro r hr
  unfold rcL at hr
  obtain ⟨x, _, rfl⟩ := List.mem_map.1 hr
  rfl
theorem rcL_sorted {l : List EH} {y m : Nat} {w : Int} : (rcL l y w m).Pairwise (fun a b => a.1 < b.1) := by
  unfold rcL
  rw [List.pairwise_map]
  refine List.Pairwise.imp ?_ ((List.pairwise_lt_range (n := m)).filter _)
  intro a b h
  simpa using h
theorem prs_nodup (l : List EH) (m : Nat) : (prs l m).Pairwise (fun p q => ((p.1 : Int), p.2) ≠ ((q.1 : Int), q.2)) := by
  unfold prs
  rw [List.pairwise_flatMap]
  refine ⟨fun y _ => ?_, ?_⟩
  · split
    · exact List.Pairwise.nil
    · rw [List.pairwise_map]
      refine List.Pairwise.imp ?_ (List.pairwise_lt_range (n := 64))
      intro a b h e
      simp only [Prod.mk.injEq, true_and] at e
      omega
  · refine List.Pairwise.imp ?_ (List.pairwise_lt_range (n := m))
    intro a b h p hp q hq e
    have h1 : p.1 = a := by
      split at hp
      · cases hp
      · obtain ⟨_, _, rfl⟩ := List.mem_map.1 hp; rfl
    have h2 : q.1 = b := by
      split at hq
      · cases hq
      · obtain ⟨_, _, rfl⟩ := List.mem_map.1 hq; rfl
    simp only [Prod.mk.injEq] at e
    omega
theorem best_all (l : List EH) : bestF (rcA l l.length) = frst l := by
  rw [rcA_prs]
  exact best_groups (fun p => ((p.1 : Int), p.2)) _ (fun p r hr => rcL_key r hr) (fun p => rcL_sorted) _ (prs_nodup l _)
end Go.Proofs.YtofjnldidkiihaaDoor
