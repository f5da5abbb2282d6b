/- What the laws share, part 10. No condition. -/
import Derived.Test.YtkieffpjjfebjaaGreatDoorY9
namespace Go.Proofs.YtkieffpjjfebjaaGreatDoor.Ord
open Go
set_option maxRecDepth 10000
theorem bgL_is {l : List EH} {t : Int} : ∀ (j p : Nat), bgL l t j = p → p < j ∧ thr l p = t ∧ ∀ q, p < q → q < j → thr l q ≠ t
  | 0, p, h => by unfold bgL at h; omega
  | j + 1, p, h => by
    unfold bgL at h
    split at h
    · rename_i ht
      have : p = j := by omega
      subst this
      exact ⟨by omega, ht, fun q a b => by omega⟩
    · rename_i hn
      obtain ⟨a, b, c⟩ := bgL_is j p h
      refine ⟨by omega, b, fun q h1 h2 => ?_⟩
      by_cases hq : q = j
      · subst hq; exact hn
      · exact c q h1 (by omega)
theorem prev_iff {l : List EH} {i p : Nat} : prevT l i p ↔ bgL l (thr l i) i = p := ⟨bg_prev, fun h => bgL_is i p h⟩
theorem bg_nat {l : List EH} {n i : Nat} (hw : Wf l n) (hi : i < l.length) (h4 : knd l i = 4) : ∃ p : Nat, bgL l (thr l i) i = p ∧ p < i ∧ knd l p = 3 ∧ thr l p = thr l i := by
  obtain ⟨p, hp, h3⟩ := hw.en i hi h4
  exact ⟨p, bg_prev hp, hp.1, h3, hp.2.1⟩
section
open Classical
theorem cntL_get {l : List EH} {n : Nat} (hw : Wf l n) : ∀ k, k ≤ l.length → ∀ i, i < l.length → (cntL l k)[i]? = some (decide ((i < k ∧ knd l i ≠ 3) ∨ ∃ e, e < k ∧ knd l e = 4 ∧ bgL l (thr l e) e = i))
  | 0, _, i, hi => by
    unfold cntL
    simp [hi]
  | k + 1, hk, i, hi => by
    have ih := cntL_get hw k (by omega) i hi
    have hlen := cntL_len l k
    unfold cntL
    by_cases h4 : knd l k = 4
    · rw [if_pos h4]
      obtain ⟨p, hp, hpk, h3, _⟩ := bg_nat hw (by omega) h4
      rw [hp, Int.toNat_natCast, List.getElem?_set]
      by_cases hip : p = i
      · subst hip
        rw [if_pos rfl, if_pos (by rw [List.length_set]; omega)]
        congr 1
        refine (decide_eq_true ?_).symm
        exact .inr ⟨k, by omega, h4, hp⟩
      · rw [if_neg hip, List.getElem?_set]
        by_cases hik : k = i
        · subst hik
          rw [if_pos rfl, if_pos (by omega)]
          congr 1
          rw [decide_eq_true (by omega : knd l k ≠ 3)]
          exact (decide_eq_true (.inl ⟨by omega, by omega⟩)).symm
        · rw [if_neg hik, ih]
          congr 1
          refine decide_eq_decide.2 ⟨?_, ?_⟩
          · rintro (⟨a, b⟩ | ⟨e, a, b, c⟩)
            · exact .inl ⟨by omega, b⟩
            · exact .inr ⟨e, by omega, b, c⟩
          · rintro (⟨a, b⟩ | ⟨e, a, b, c⟩)
            · exact .inl ⟨by omega, b⟩
            · by_cases hek : e = k
              · subst hek; rw [hp] at c; exact absurd (by omega) hip
              · exact .inr ⟨e, by omega, b, c⟩
    · rw [if_neg h4, List.getElem?_set]
      by_cases hik : k = i
      · subst hik
        rw [if_pos rfl, if_pos (by omega)]
        congr 1
        refine decide_eq_decide.2 ⟨fun h => .inl ⟨by omega, h⟩, ?_⟩
        rintro (⟨a, b⟩ | ⟨e, a, b, c⟩)
        · exact b
        · have := (bgL_is e k c).1
          omega
      · rw [if_neg hik, ih]
        congr 1
        refine decide_eq_decide.2 ⟨?_, ?_⟩
        · rintro (⟨a, b⟩ | ⟨e, a, b, c⟩)
          · exact .inl ⟨by omega, b⟩
          · exact .inr ⟨e, by omega, b, c⟩
        · rintro (⟨a, b⟩ | ⟨e, a, b, c⟩)
          · exact .inl ⟨by omega, b⟩
          · by_cases hek : e = k
            · subst hek; exact absurd b h4
            · exact .inr ⟨e, by omega, b, c⟩
end
theorem isB_iff {l : List EH} {n : Nat} (hw : Wf l n) (i : Nat) : isB l i = true ↔ cntP l i := by
  unfold isB cntP
  rw [List.getD_eq_getElem?_getD]
  by_cases hi : i < l.length
  · rw [cntL_get hw l.length (Nat.le_refl _) i hi]
    simp only [Option.getD_some, decide_eq_true_iff]
    constructor
    · rintro (⟨a, b⟩ | ⟨e, a, b, c⟩)
      · exact ⟨hi, .inl b⟩
      · exact ⟨hi, .inr ⟨e, a, prev_iff.2 c, b⟩⟩
    · rintro ⟨_, b | ⟨e, a, b, c⟩⟩
      · exact .inl ⟨hi, b⟩
      · exact .inr ⟨e, a, c, prev_iff.1 b⟩
  · rw [List.getElem?_eq_none (by rw [cntL_len]; omega)]
    simp [hi]
theorem dirB_iff {l : List EH} {n : Nat} (hw : Wf l n) (i j : Nat) : dirB l i j = true ↔ DI l i j := by
  unfold dirB DI
  simp only [Bool.and_eq_true, Bool.or_eq_true, decide_eq_true_eq, isB_iff hw, and_assoc]
noncomputable def hbB (l : List EH) (i j : Nat) : Bool := @decide (HB l i j) (Classical.propDecidable _)
theorem hbB_iff {l : List EH} {i j : Nat} : hbB l i j = true ↔ HB l i j := by unfold hbB; exact @decide_eq_true_iff _ (Classical.propDecidable _)
theorem clos_B {l : List EH} {n : Nat} (hw : Wf l n) (i j : Nat) : clos (dirB l) l.length i j = hbB l i j := by
  rw [Bool.eq_iff_iff, hbB_iff]
  exact clos_hb hw (dirB_iff hw) i j
def cfP (a b : EH) (w : Int) : Bool := decide (a.w = w) && (if b.k = 4 then (b.wl.contains w || (decide (a.k = 2) && b.rl.contains w)) else decide (b.w = w) && (decide (a.k = 2) || decide (b.k = 2)))
def confB (a b : EH) (w : Int) : Bool := !decide (a.t = b.t) && (if a.k = 4 then !decide (b.k = 4) && cfP b a w else cfP a b w)
abbrev RaceM := Int × Int × Int
abbrev encRc (r : RaceM) : List Value := [.int .i64 r.1, .int .i64 r.2.1, .int .i64 r.2.2]
def toP (l : List EH) (y : Nat) : Nat := if knd l y = 4 then (bgL l (thr l y) y).toNat else y
noncomputable def rcB (l : List EH) (y : Nat) (w : Int) (x : Nat) : Bool := !decide (knd l x = 3) && (confB (at' l x) (at' l y) w && !hbB l x (toP l y))
noncomputable def rcL (l : List EH) (y : Nat) (w : Int) (m : Nat) : List RaceM := ((List.range m).filter (rcB l y w)).map fun (x : Nat) => ((x : Int), (y : Int), w)
theorem rcL_succ {l : List EH} {y m : Nat} {w : Int} : rcL l y w (m + 1) = rcL l y w m ++ if rcB l y w m = true then [((m : Int), (y : Int), w)] else [] := by
  unfold rcL
  rw [List.range_succ, List.filter_append, List.map_append]
  congr 1
  cases h : rcB l y w m <;> simp [List.filter, h]
noncomputable def rcW (l : List EH) (y m : Nat) : List RaceM := (List.range m).flatMap fun (w : Nat) => rcL l y w y
theorem rcW_succ {l : List EH} {y m : Nat} : rcW l y (m + 1) = rcW l y m ++ rcL l y m y := by
  unfold rcW; rw [List.range_succ, List.flatMap_append]; simp
noncomputable def rcA (l : List EH) (m : Nat) : List RaceM := (List.range m).flatMap fun y => if knd l y = 3 then [] else rcW l y 64
theorem rcA_succ {l : List EH} {m : Nat} : rcA l (m + 1) = rcA l m ++ if knd l m = 3 then [] else rcW l m 64 := by
  unfold rcA; rw [List.range_succ, List.flatMap_append]; simp
def bstep (b r : RaceM) : RaceM := if r.2.1 = b.2.1 ∧ r.2.2 = b.2.2 ∧ b.1 < r.1 then r else b
def bestF : List RaceM → RaceM
  | [] => (-1, -1, -1)
  | r :: rs => rs.foldl bstep r
theorem fold_skip : ∀ (rs : List RaceM) (b : RaceM), (∀ r ∈ rs, r.2 ≠ b.2) → rs.foldl bstep b = b
  | [], _, _ => rfl
  | r :: rs, b, h => by
    have h1 : bstep b r = b := by
      unfold bstep
      rw [if_neg (fun hh => h r List.mem_cons_self (Prod.ext hh.1 hh.2.1))]
    rw [List.foldl_cons, h1]
    exact fold_skip rs b (fun r hr => h r (List.mem_cons_of_mem _ hr))
theorem fold_grp : ∀ (rs : List RaceM) (b : RaceM), (∀ r ∈ rs, r.2 = b.2) → (b :: rs).Pairwise (fun a b => a.1 < b.1) → rs.foldl bstep b = (rs.getLast?).getD b
  | [], _, _, _ => rfl
  | r :: rs, b, h, hp => by
    have hr := h r List.mem_cons_self
    rw [List.pairwise_cons] at hp
    have h1 : bstep b r = r := by
      unfold bstep
      rw [if_pos ⟨by rw [hr], by rw [hr], hp.1 r List.mem_cons_self⟩]
    rw [List.foldl_cons, h1, fold_grp rs r (fun x hx => (h x (List.mem_cons_of_mem _ hx)).trans hr.symm) hp.2]
    cases rs <;> simp [List.getLast?_cons]
theorem best_groups {σ : Type} (key : σ → Int × Int) (g : σ → List RaceM) (hk : ∀ p, ∀ r ∈ g p, r.2 = key p) (hs : ∀ p, (g p).Pairwise (fun a b => a.1 < b.1)) :
    ∀ ps : List σ, ps.Pairwise (fun p q => key p ≠ key q) → bestF (ps.flatMap g) = (ps.findSome? fun p => (g p).getLast?).getD (-1, -1, -1)
  | [], _ => rfl
  | p :: ps, hn => by
    rw [List.pairwise_cons] at hn
    rw [List.flatMap_cons]
    cases hg : g p with
    | nil =>
      rw [List.nil_append, best_groups key g hk hs ps hn.2, List.findSome?_cons, hg]
      rfl
    | cons r rs =>
      have hk' := hk p
      rw [hg] at hk'
      have hs' := hs p
      rw [hg] at hs'
      have hr := hk' r List.mem_cons_self
      rw [List.findSome?_cons, hg]
      show (rs ++ ps.flatMap g).foldl bstep r = _
      rw [List.foldl_append, fold_grp rs r (fun x hx => (hk' x (List.mem_cons_of_mem _ hx)).trans hr.symm) hs']
      have e : (r :: rs).getLast? = some ((rs.getLast?).getD r) := by rw [List.getLast?_cons]
      rw [e]
      simp only [Option.getD_some]
      refine fold_skip _ _ ?_
      intro x hx
      obtain ⟨q, hq, hx⟩ := List.mem_flatMap.1 hx
      rw [hk q x hx]
      have : ((rs.getLast?).getD r).2 = key p := by
        cases hl : rs.getLast? with
        | none => exact hr
        | some z => exact hk' z (List.mem_cons_of_mem _ (List.mem_of_getLast? hl))
      rw [this]
      exact fun e => hn.1 q hq e.symm
def prs (l : List EH) (m : Nat) : List (Nat × Int) := (List.range m).flatMap fun y => if knd l y = 3 then [] else (List.range 64).map fun (w : Nat) => (y, (w : Int))
noncomputable def frst (l : List EH) : RaceM := ((prs l l.length).findSome? fun p => (rcL l p.1 p.2 p.1).getLast?).getD (-1, -1, -1)
theorem rcA_prs (l : List EH) (m : Nat) : rcA l m = (prs l m).flatMap fun p => rcL l p.1 p.2 p.1 := by
  unfold rcA prs
  rw [List.flatMap_assoc]
  congr 1
  funext y
  split
  · rfl
  · rw [List.flatMap_map]; rfl
theorem rcL_key {l : List EH} {y m : Nat} {w : Int} : ∀ r ∈ rcL l y w m, r.2 = ((y : Int), w) := by
  intro r hr
  unfold rcL at hr
  obtain ⟨x, _, rfl⟩ := List.mem_map.1 hr
  rfl
theorem rcL_sorted {l : List EH} {y m : Nat} {w : Int} : (rcL l y w m).Pairwise (fun a b => a.1 < b.1) := by
  unfold rcL
  rw [List.pairwise_map]
  refine List.Pairwise.imp ?_ ((List.pairwise_lt_range (n := m)).filter _)
  intro a b h
  simpa using h
theorem prs_nodup (l : List EH) (m : Nat) : (prs l m).Pairwise (fun p q => ((p.1 : Int), p.2) ≠ ((q.1 : Int), q.2)) := by
  unfold prs
  rw [List.pairwise_flatMap]
  refine ⟨fun y _ => ?_, ?_⟩
  · split
    · exact List.Pairwise.nil
    · rw [List.pairwise_map]
      refine List.Pairwise.imp ?_ (List.pairwise_lt_range (n := 64))
      intro a b h e
      simp only [Prod.mk.injEq, true_and] at e
      omega
  · refine List.Pairwise.imp ?_ (List.pairwise_lt_range (n := m))
    intro a b h p hp q hq e
    have h1 : p.1 = a := by
      split at hp
      · cases hp
      · obtain ⟨_, _, rfl⟩ := List.mem_map.1 hp; rfl
    have h2 : q.1 = b := by
      split at hq
      · cases hq
      · obtain ⟨_, _, rfl⟩ := List.mem_map.1 hq; rfl
    simp only [Prod.mk.injEq] at e
    omega
theorem best_all (l : List EH) : bestF (rcA l l.length) = frst l := by
  rw [rcA_prs]
  exact best_groups (fun p => ((p.1 : Int), p.2)) _ (fun p r hr => rcL_key r hr) (fun p => rcL_sorted) _ (prs_nodup l _)
end Go.Proofs.YtkieffpjjfebjaaGreatDoor.Ord
namespace Go.Proofs.YtkieffpjjfebjaaGreatDoor.Ord
open Go
set_option maxRecDepth 10000
def rowG {α : Type} (n : Nat) (g : Nat → α) : List α := (List.range n).map g
section
variable {α : Type} {n j : Nat} {g g' : Nat → α}
theorem rowG_len : (rowG n g).length = n := by simp [rowG]
theorem rowG_get (hj : j < n) : (rowG n g)[j]? = some (g j) := by simp [rowG, hj]
theorem rowG_congr (h : ∀ j, j < n → g j = g' j) : rowG n g = rowG n g' := List.map_congr_left fun j hj => h j (List.mem_range.1 hj)
theorem rowG_set {v : α} : (rowG n g).set j v = rowG n (fun i => if i = j then v else g i) := by
  apply List.ext_getElem?
  intro i
  by_cases hi : i < n
  · rw [rowG_get hi, List.getElem?_set]
    by_cases hij : j = i
    · subst hij; rw [if_pos rfl, if_pos (by rw [rowG_len]; exact hi), if_pos rfl]
    · rw [if_neg hij, rowG_get hi, if_neg (Ne.symm hij)]
  · rw [List.getElem?_eq_none (by rw [List.length_set, rowG_len]; omega), List.getElem?_eq_none (by rw [rowG_len]; omega)]
theorem rowG_set_eq {v : α} (h : ∀ i, i < n → (if i = j then v else g i) = g' i) : (rowG n g).set j v = rowG n g' := by
  rw [rowG_set]; exact rowG_congr h
theorem rowG_rep {x : α} : List.replicate n x = rowG n (fun _ => x) := by
  apply List.ext_getElem?
  intro i
  by_cases hi : i < n
  · rw [rowG_get hi]; simp [hi]
  · rw [List.getElem?_eq_none (by simp; omega), List.getElem?_eq_none (by rw [rowG_len]; omega)]
end
def lsE (l : List EH) (t : Int) : Nat → Int
  | 0 => -1
  | i + 1 => if knd l i = 4 ∧ thr l i = t then i else lsE l t i
def nxD (l : List EH) (t : Int) : Nat → Int
  | 0 => -1
  | d + 1 => if knd l (l.length - (d + 1)) = 4 ∧ thr l (l.length - (d + 1)) = t then (l.length - (d + 1) : Nat) else nxD l t d
def nxE (l : List EH) (t : Int) (i : Nat) : Int := nxD l t (l.length - i)
def edF (l : List EH) : Nat → Nat → Int
  | 0, _ => 0
  | k + 1, i => if knd l k = 4 ∧ bgL l (thr l k) k = i then k else if i = k then -1 else edF l k i
theorem flat_touch {β : Type} {f : Int → List β} : ∀ (n a : Nat) (t : List Int), t.Pairwise (· < ·) → (∀ x ∈ t, (a : Int) ≤ x ∧ x < (a + n : Nat)) → (∀ w : Nat, a ≤ w → (w : Int) ∉ t → f w = []) → (List.range' a n).flatMap (fun (w : Nat) => f w) = t.flatMap f
  | 0, a, t, _, hr, _ => by
    cases t with
    | nil => rfl
    | cons x t => have := hr x List.mem_cons_self; omega
  | n + 1, a, [], _, _, hf => by
    rw [List.range'_succ, List.flatMap_cons, hf a (Nat.le_refl a) (by simp)]
    rw [flat_touch n (a + 1) [] List.Pairwise.nil (by simp) (fun w h _ => hf w (by omega) (by simp))]
    rfl
  | n + 1, a, x :: t, hs, hr, hf => by
    rw [List.range'_succ, List.flatMap_cons]
    have hx := hr x List.mem_cons_self
    rw [List.pairwise_cons] at hs
    by_cases hxa : x = a
    · subst hxa
      rw [List.flatMap_cons, flat_touch n (a + 1) t hs.2 (fun y hy => ?_) (fun w h hn => hf w (by omega) (fun hm => ?_))]
      · have h1 := hs.1 y hy
        have h2 := hr y (List.mem_cons_of_mem _ hy)
        omega
      · rcases List.mem_cons.1 hm with h | h
        · omega
        · exact hn h
    · rw [hf a (Nat.le_refl a) (fun hm => ?_), List.nil_append]
      · refine flat_touch n (a + 1) (x :: t) (List.pairwise_cons.2 hs) (fun y hy => ?_) (fun w h hn => hf w (by omega) hn)
        have h2 := hr y hy
        rcases List.mem_cons.1 hy with rfl | h
        · omega
        · have := hs.1 y h; omega
      · rcases List.mem_cons.1 hm with h | h
        · exact hxa h.symm
        · have := hs.1 _ h; omega
end Go.Proofs.YtkieffpjjfebjaaGreatDoor.Ord
namespace Go.Proofs.YtkieffpjjfebjaaGreatDoor.Ord
open Go
set_option maxRecDepth 10000
def lkL (l : List EH) (t : Int) : Nat → Int
  | 0 => 0
  | i + 1 => if thr l i = t then knd l i else lkL l t i
theorem lkL_succ {l : List EH} {t : Int} {i : Nat} : lkL l t (i + 1) = if thr l i = t then knd l i else lkL l t i := rfl
theorem lkL_prev {l : List EH} {t k : Int} (hk : k ≠ 0) : ∀ i, lkL l t i = k → ∃ p, (p < i ∧ thr l p = t ∧ ∀ q, p < q → q < i → thr l q ≠ t) ∧ knd l p = k
  | 0, h => absurd h.symm hk
  | i + 1, h => by
    unfold lkL at h
    split at h
    · rename_i ht
      exact ⟨i, ⟨by omega, ht, fun q h1 h2 => by omega⟩, h⟩
    · rename_i hn
      obtain ⟨p, ⟨h1, h2, h3⟩, h4⟩ := lkL_prev hk i h
      refine ⟨p, ⟨by omega, h2, fun q h5 h6 => ?_⟩, h4⟩
      by_cases hq : q = i
      · subst hq; exact hn
      · exact h3 q h5 (by omega)
def okAt (l : List EH) (n i : Nat) : Bool := fitsM n (i == 0) (paAt l i) (lkL l (thr l i) i) (at' l i)
theorem okAt_rng {l : List EH} {n i : Nat} (h : okAt l n i = true) : 0 ≤ thr l i ∧ thr l i < n := fits_rng h
theorem lk_set {l : List EH} {n i : Nat} (h : 0 ≤ thr l i ∧ thr l i < n) : (rowG n fun t => lkL l t i).set (thr l i).toNat (knd l i) = rowG n fun t => lkL l t (i + 1) := by
  refine rowG_set_eq fun t _ => ?_
  by_cases ht : t = (thr l i).toNat
  · rw [if_pos ht]
    unfold lkL
    rw [if_pos (by omega)]
  · rw [if_neg ht]
    rw [lkL_succ, if_neg (by omega)]
theorem chkG_ok {l : List EH} {n : Nat} : ∀ d i, d + i = l.length → ((chkG n (l.drop i) i (paAt l i) (rowG n fun t => lkL l t i)).2 = 0 ↔ ∀ k, i ≤ k → k < l.length → okAt l n k = true)
  | 0, i, h => by
    rw [List.drop_eq_nil_of_le (by omega)]
    exact ⟨fun _ k h1 h2 => by omega, fun _ => rfl⟩
  | d + 1, i, h => by
    obtain ⟨e, he⟩ : ∃ e, l[i]? = some e := ⟨_, List.getElem?_eq_getElem (by omega)⟩
    rw [drop_at he, chkG]
    have hae : at' l i = e := at_get he
    have hg : fitsM n (i == 0) (paAt l i) ((rowG n fun t => lkL l t i).getD e.t.toNat 0) e = okAt l n i := by
      unfold okAt
      rw [hae]
      by_cases ht : 0 ≤ e.t ∧ e.t < n
      · rw [List.getD_eq_getElem?_getD, rowG_get (by omega)]
        simp only [Option.getD_some]
        have : ((e.t.toNat : Nat) : Int) = thr l i := by unfold thr; rw [hae]; omega
        rw [this]
      · rw [fits_out ht, fits_out ht]
    rw [hg]
    cases hok : okAt l n i with
    | true =>
      simp only [if_true]
      have hs := lk_set (okAt_rng hok)
      unfold thr knd at hs
      rw [hae] at hs
      rw [hs, ← paAt_succ he, chkG_ok d (i + 1) (by omega)]
      constructor
      · intro hh k h1 h2
        by_cases hk : k = i
        · subst hk; exact hok
        · exact hh k (by omega) h2
      · exact fun hh k h1 h2 => hh k (by omega) h2
    | false =>
      simp only [Bool.false_eq_true, if_false]
      constructor
      · intro hh; exact absurd hh (by simp)
      · intro hh; have := hh i (Nat.le_refl i) (by omega); rw [hok] at this; cases this
def WF0 (l : List EH) (n : Nat) : Prop := 1 ≤ n ∧ n ≤ 16 ∧ l.length ≤ 65536 ∧ ∀ k, k < l.length → okAt l n k = true
theorem chk_ok {l : List EH} {n : Int} : (chkE l n).2 = 0 ↔ 0 ≤ n ∧ WF0 l n.toNat := by
  unfold chkE WF0
  split
  · constructor
    · intro h; simp at h
    · intro h; omega
  · split
    · constructor
      · intro h; simp at h
      · intro h; omega
    · have := chkG_ok (l := l) (n := n.toNat) l.length 0 (by omega)
      rw [List.drop_zero] at this
      have e : paAt l 0 = 0 := rfl
      have e2 : (rowG n.toNat fun t => lkL l t 0) = List.replicate n.toNat 0 := rowG_rep.symm
      rw [e, e2] at this
      rw [this]
      constructor
      · intro h; exact ⟨by omega, by omega, by omega, by omega, fun k hk => h k (by omega) hk⟩
      · intro h k _ hk; exact h.2.2.2.2 k hk
theorem WF0.wf {l : List EH} {n : Nat} (h : WF0 l n) : Wf l n := by
  have key : ∀ i, i < l.length → okAt l n i = true := h.2.2.2
  refine ⟨fun i hi => ?_, fun i hi h4 => ?_, fun i hi h4 => ?_⟩
  · have := key i hi
    unfold okAt fitsM at this
    simp only [Bool.and_eq_true, decide_eq_true_eq] at this
    obtain ⟨⟨⟨h1, h2⟩, h3⟩, _⟩ := this
    exact ⟨h1.2.2.1, h1.2.2.2.1, h1.1, h1.2.1, decide_eq_true h1.2.2.2.2.2, h2, h3⟩
  · have := key i hi
    unfold okAt fitsM at this
    rw [if_pos h4] at this
    simp only [Bool.and_eq_true, decide_eq_true_eq] at this
    exact lkL_prev (by omega) i this.2
  · have := key i hi
    unfold okAt fitsM at this
    rw [if_neg h4] at this
    simp only [Bool.and_eq_true, decide_eq_true_eq] at this
    exact this.2
theorem chk_wf {l : List EH} {n : Int} (h : (chkE l n).2 = 0) : Wf l n.toNat ∧ l.length ≤ 65536 ∧ 1 ≤ n ∧ n ≤ 16 := by
  obtain ⟨h1, h2⟩ := chk_ok.1 h
  exact ⟨h2.wf, h2.2.2.1, by have := h2.1; omega, by have := h2.2.1; omega⟩
end Go.Proofs.YtkieffpjjfebjaaGreatDoor.Ord
namespace Go.Proofs.YtkieffpjjfebjaaGreatDoor.Ord
open Go
set_option maxRecDepth 10000
set_option maxHeartbeats 4000000
structure TrB where
  bs : Nat
  b1 : Nat
  b2 : Nat
  b3 : Nat
  b4 : Nat
def begG (l : List EH) (i : Nat) : Int := if knd l i = 4 then bgL l (thr l i) i else -1
def nxG (l : List EH) (i : Nat) : Int := nxE l (thr l i) i
def lsG (l : List EH) (i : Nat) : Int := lsE l (thr l i) i
end Go.Proofs.YtkieffpjjfebjaaGreatDoor.Ord
namespace Go.Proofs.YtkieffpjjfebjaaGreatDoor.Ord
open Go
set_option maxRecDepth 10000
set_option maxHeartbeats 4000000
structure TrM (W0 : World) (own : Own) (l : List EH) (a : Option Addr) (cap : Nat) (s : TrB) : Prop where
  c0 : Cl W0 own s.bs 0 (.slice a l.length cap)
  c1 : Cl W0 own s.bs 1 (.slice (some ⟨s.b1, 0, none⟩) l.length l.length)
  c2 : Cl W0 own s.bs 2 (.slice (some ⟨s.b2, 0, none⟩) l.length l.length)
  c3 : Cl W0 own s.bs 3 (.slice (some ⟨s.b3, 0, none⟩) l.length l.length)
  c4 : Cl W0 own s.bs 4 (.slice (some ⟨s.b4, 0, none⟩) l.length l.length)
  r1 : RdE encI 1 W0 own (some ⟨s.b1, 0, none⟩) (rowG l.length (begG l))
  r2 : RdE encI 1 W0 own (some ⟨s.b2, 0, none⟩) (rowG l.length (edF l l.length))
  r3 : RdE encI 1 W0 own (some ⟨s.b3, 0, none⟩) (rowG l.length (nxG l))
  r4 : RdE encI 1 W0 own (some ⟨s.b4, 0, none⟩) (rowG l.length (lsG l))
theorem TrM.up {W0 : World} {own own' : Own} {l : List EH} {a : Option Addr} {cap : Nat} {s : TrB} (h : TrM W0 own' l a cap s) [m : EntC own own'] : TrM W0 own l a cap s :=
  ⟨h.c0.ent (m.h W0), h.c1.ent (m.h W0), h.c2.ent (m.h W0), h.c3.ent (m.h W0), h.c4.ent (m.h W0), h.r1.up, h.r2.up, h.r3.up, h.r4.up⟩
section
variable {W0 : World} {own : Own} {a : Option Addr} {cap : Nat} {l : List EH} {s : TrB}
theorem sp_index {a : Option Addr} {l : List Int} {cap : Nat} (hR : RdE encI 1 W0 own a l) (hl : l.length ≤ 9223372036854775807) (v : Int) :
    Pure Tryz.prog W0 145 [.slice a l.length cap, .int .i64 v] own (.int .i64 (ifx (fun x => x == v) l)) := by
  refine pure_of (spec_of mixed low_slices_Index_int (by simp [ir_slices_Index_int]) ?_)
  skip
  refine loop_c (σ := Nat) (fun i => [(8, .int .i64 i)]) (fun i => i ≤ l.length ∧ ∀ j x, j < i → l[j]? = some x → (x == v) = false) (fun i => l.length - i) 0 ⟨by omega, fun j x h => by omega⟩ (by repeat' (first | exact True.intro | refine And.intro ?_ ?_ | exact rfl | exact vi (by omega) | (dsimp only; exact rfl) | (dsimp only; exact vi (by omega)))) rfl ?_
  rintro i junk ⟨hi, hI⟩
  by_cases hlt : i < l.length
  · obtain ⟨x, hx⟩ : ∃ x, l[i]? = some x := ⟨_, List.getElem?_eq_getElem hlt⟩
    have hlt' : (i : Int) < l.length := by omega
    by_cases hxv : v = x
    · repeat' ((try (conv => whnf)); first | (apply br_pyE; (exact rfl); omega) | ((with_reducible show Ld _ _ _ _); first | (refine ldE0 hR hx rfl ?_)) | ((with_reducible show IxS _ _ _ _ _); first | ((refine ixE hR hx ?_ ?_; (first | rfl | omega)))))
      refine ⟨ret1 (vi ?_), (by first | exact ent_i | (repeat (first | exact Ent.refl | exact Ent.left | refine Ent.cons ?_ | refine Ent.app ?_)))⟩
      have : l.findIdx? (fun x => x == v) = some i := by
        rw [List.findIdx?_eq_some_iff_getElem]
        have hx2 := (List.getElem?_eq_some_iff.1 hx).2
        refine ⟨hlt, by rw [hx2, hxv]; simp, fun j hj => ?_⟩
        have := hI j (l[j]'(by omega)) hj (List.getElem?_eq_getElem (by omega))
        simpa using this
      unfold ifx; rw [this]
    · repeat' ((try (conv => whnf)); first | (apply br_pyE; (exact rfl); omega) | (apply br_pnE; (exact rfl); omega) | ((with_reducible show Ld _ _ _ _); first | (refine ldE0 hR hx rfl ?_)) | ((with_reducible show IxS _ _ _ _ _); first | ((refine ixE hR hx ?_ ?_; (first | rfl | omega)))) | (refine ari ?_ ?_; omega))
      refine ⟨i + 1, ⟨by omega, fun j y hj hy => ?_⟩, by omega, (by repeat' (first | exact True.intro | refine And.intro ?_ ?_ | exact rfl | exact vi (by omega) | (dsimp only; exact rfl) | (dsimp only; exact vi (by omega)))), (by first | exact ent_i | (repeat (first | exact Ent.refl | exact Ent.left | refine Ent.cons ?_ | refine Ent.app ?_)))⟩
      by_cases hji : j = i
      · subst hji
        rw [hx] at hy
        obtain rfl := Option.some.inj hy
        simpa using Ne.symm hxv
      · exact hI j y (by omega) hy
  · have hlt' : ¬ (i : Int) < l.length := by omega
    repeat' ((try (conv => whnf)); first | (apply br_pnE; (exact rfl); omega))
    refine ⟨ret1 (vi ?_), (by first | exact ent_i | (repeat (first | exact Ent.refl | exact Ent.left | refine Ent.cons ?_ | refine Ent.app ?_)))⟩
    have : l.findIdx? (fun x => x == v) = none := by
      rw [List.findIdx?_eq_none_iff]
      intro x hx
      obtain ⟨j, hj⟩ := List.getElem?_of_mem hx
      have := (List.getElem?_eq_some_iff.1 hj).1
      exact hI j x (by omega) hj
    unfold ifx; rw [this]
theorem any_contains (l : List Int) (v : Int) : l.any (fun x => x == v) = l.contains v := by
  rw [Bool.eq_iff_iff, List.any_eq_true, List.contains_iff_mem]
  constructor
  · rintro ⟨x, hx, h⟩; rw [← eq_of_beq h]; exact hx
  · intro h; exact ⟨v, h, by simp⟩
theorem sp_contains {a : Option Addr} {l : List Int} {cap : Nat} (hR : RdE encI 1 W0 own a l) (hl : l.length ≤ 9223372036854775807) (v : Int) :
    Pure Tryz.prog W0 119 [.slice a l.length cap, .int .i64 v] own (.bool (l.contains v)) := by
  refine pure_of (spec_of mixed low_slices_Contains_int (by simp [ir_slices_Contains_int]) ?_)
  have h := sp_index (cap := cap) hR hl v
  repeat' ((try (conv => whnf)); first | ((with_reducible show CallT _ _ _ _ _ _); first | ((refine call_pe (h) ?_ ?_ ?_; (exact rfl); exact rfl))))
  exact ⟨ret1 (vb ((ifx_any _ l).trans (any_contains l v))), (by first | exact ent_i | (repeat (first | exact Ent.refl | exact Ent.left | refine Ent.cons ?_ | refine Ent.app ?_)))⟩
end
end Go.Proofs.YtkieffpjjfebjaaGreatDoor.Ord
namespace Go.Proofs.YtkieffpjjfebjaaGreatDoor.Ord
open Go
set_option maxRecDepth 10000
set_option maxHeartbeats 4000000
noncomputable def frR (l : List EH) (n : Int) : RaceM := if (chkE l n).2 = 0 then frst l else (-1, -1, -1)
end Go.Proofs.YtkieffpjjfebjaaGreatDoor.Ord
namespace Go.Proofs.YtkieffpjjfebjaaGreatDoor.Ord
open Go
set_option maxRecDepth 10000
theorem at_app {l r : List EH} {i : Nat} (h : i < l.length) : at' (l ++ r) i = at' l i := by
  unfold at'
  rw [List.getD_eq_getElem?_getD, List.getD_eq_getElem?_getD, List.getElem?_append_left h]
theorem at_end {l : List EH} {e : EH} : at' (l ++ [e]) l.length = e := at_get (by simp)
theorem thr_app {l r : List EH} {i : Nat} (h : i < l.length) : thr (l ++ r) i = thr l i := by unfold thr; rw [at_app h]
theorem knd_app {l r : List EH} {i : Nat} (h : i < l.length) : knd (l ++ r) i = knd l i := by unfold knd; rw [at_app h]
theorem lkL_app {l r : List EH} {t : Int} : ∀ i, i ≤ l.length → lkL (l ++ r) t i = lkL l t i
  | 0, _ => rfl
  | i + 1, h => by rw [lkL_succ, lkL_succ, thr_app (by omega), knd_app (by omega), lkL_app i (by omega)]
theorem paAt_app {l r : List EH} {i : Nat} (h : i ≤ l.length) : paAt (l ++ r) i = paAt l i := by
  unfold paAt
  split
  · rfl
  · rw [at_app (by omega)]
theorem okAt_app {l r : List EH} {n i : Nat} (h : i < l.length) : okAt (l ++ r) n i = okAt l n i := by
  unfold okAt
  rw [paAt_app (by omega), thr_app h, lkL_app i (by omega), at_app h]
theorem okAt_end {l : List EH} {e : EH} {n : Nat} : okAt (l ++ [e]) n l.length = fitsM n (l.length == 0) (paAt l l.length) (lkL l e.t l.length) e := by
  unfold okAt
  have ht : thr (l ++ [e]) l.length = e.t := by unfold thr; rw [at_end]
  rw [paAt_app (Nat.le_refl _), ht, lkL_app _ (Nat.le_refl _), at_end]
theorem lkL_end {l : List EH} {e : EH} {t : Int} : lkL (l ++ [e]) t (l.length + 1) = if e.t = t then e.k else lkL l t l.length := by
  have ht : thr (l ++ [e]) l.length = e.t := by unfold thr; rw [at_end]
  have hk : knd (l ++ [e]) l.length = e.k := by unfold knd; rw [at_end]
  rw [lkL_succ, ht, hk, lkL_app _ (Nat.le_refl _)]
theorem paAt_end {l : List EH} {e : EH} : paAt (l ++ [e]) (l.length + 1) = e.ev := paAt_succ (by simp)
theorem WF0.snoc {l : List EH} {e : EH} {n : Nat} (h : WF0 l n) (hl : l.length + 1 ≤ 65536) (hf : fitsM n (l.length == 0) (paAt l l.length) (lkL l e.t l.length) e = true) : WF0 (l ++ [e]) n := by
  refine ⟨h.1, h.2.1, by simpa using hl, fun k hk => ?_⟩
  simp only [List.length_append, List.length_cons, List.length_nil] at hk
  by_cases hkl : k < l.length
  · rw [okAt_app hkl]; exact h.2.2.2 k hkl
  · obtain rfl : k = l.length := by omega
    rw [okAt_end]; exact hf
theorem WF0.nil {n : Nat} (h1 : 1 ≤ n) (h2 : n ≤ 16) : WF0 [] n := ⟨h1, h2, by simp, fun k hk => by simp at hk⟩
end Go.Proofs.YtkieffpjjfebjaaGreatDoor.Ord
namespace Go.Proofs.YtkieffpjjfebjaaGreatDoor.Ord
open Go
set_option maxRecDepth 10000
set_option maxHeartbeats 4000000
theorem wrapu_rng (x : Int) : 0 ≤ IntKind.u64.wrap x ∧ IntKind.u64.wrap x ≤ 18446744073709551615 := by
  unfold IntKind.wrap
  have h3 : ((2 : Int) ^ IntKind.u64.bits) = 18446744073709551616 := rfl
  simp only [h3, IntKind.signed, Bool.false_and, Bool.false_eq_true, if_false]
  omega
structure MkR (W0 : World) (X : Own) (n : Nat) (L : List EH) : Prop where
  wf : WF0 L n
  ev : ∀ e ∈ L, EvR W0 X e
  cp : ∀ e ∈ L, e.rc = e.rl.length ∧ e.wc = e.wl.length ∧ e.rl.length ≤ 1 ∧ e.wl.length ≤ 1
theorem MkR.snoc {W0 : World} {X : Own} {n : Nat} {L : List EH} {e : EH} (h : MkR W0 X n L) (he : EvR W0 X e) (hl : L.length + 1 ≤ 65536) (hf : fitsM n (L.length == 0) (paAt L L.length) (lkL L e.t L.length) e = true) (hc : e.rc = e.rl.length ∧ e.wc = e.wl.length ∧ e.rl.length ≤ 1 ∧ e.wl.length ≤ 1) : MkR W0 X n (L ++ [e]) :=
  ⟨h.wf.snoc hl hf, fun x hx => (List.mem_append.1 hx).elim (h.ev x) (fun hx => by rw [List.mem_singleton.1 hx]; exact he), fun x hx => (List.mem_append.1 hx).elim (h.cp x) (fun hx => by rw [List.mem_singleton.1 hx]; exact hc)⟩
theorem MkR.next {W0 : World} {X X' : Own} {n : Nat} {L : List EH} {e : EH} (h : MkR W0 X n L) [EntC X' X] (he : EvR W0 X' e) (hl : L.length + 1 ≤ 65536) (hf : fitsM n (L.length == 0) (paAt L L.length) (lkL L e.t L.length) e = true) (hc : e.rc = e.rl.length ∧ e.wc = e.wl.length ∧ e.rl.length ≤ 1 ∧ e.wl.length ≤ 1 := by exact ⟨rfl, rfl, by simp, by simp⟩) : MkR W0 X' n (L ++ [e]) :=
  MkR.snoc ⟨h.wf, fun e he => (h.ev e he).up, h.cp⟩ he hl hf hc
end Go.Proofs.YtkieffpjjfebjaaGreatDoor.Ord
namespace Go.Proofs.YtkieffpjjfebjaaGreatDoor
open Go
set_option maxRecDepth 100000
def ir_tdrf_Run : IFn := ⟨40,
 (.seq (.region [(jo 4 (.new 56 (.agg #[.int .i64 0, .int .i64 0, .int .i64 0]))), (jk 5 0)])
 (.seq (.region [(jm 13 1), (jc 14 55 13), (jm 12 14), (je 15 12 0), (je 16 12 1), (jm 6 15), (jm 7 16)])
 (.seq (.seq (.region [(jm 17 7), (jo 18 (.bin .neq (.tmp 17) (.const (.int .i64 0))))])
 (.cond (.tmp 18)
 (.seq (.region [(jo 19 (.ldN 3 (.global 0))), (jm 20 7), (jS 3 4 19), (jm 5 20)])
 .ret)
 .skip))
 (.seq (.seq (.region [(jm 21 0), (jt 22 21), (jk 23 0)])
 (.block 0
 (.loop 274869521952
 (.seq (.region [(jw 24 23 22)])
 (.seq (.cond (.tmp 24)
 .skip
 (.exit 0))
 (.seq (.block 1
 (.seq (.region [(jx 25 6 21 23), (jL 26 6 25), (jo 9 (.new 116 (.agg #[.int .i64 0, .int .i64 0, .int .i64 0, .int .i64 0, .slice none 0 0, .slice none 0 0]))),
 (jS 6 9 26)])
 (.seq (.region [(jm 28 6), (jL 29 6 9), (jC 30 56 28 29), (jm 27 30), (je 31 27 0), (je 32 27 1), (jo 10 (.new 56 (.agg #[.int .i64 0, .int .i64 0, .int .i64 0]))),
 (jS 3 10 31), (jm 11 32)])
 (.seq (.region [(jm 33 11), (jo 34 (.bin .neq (.tmp 33) (.const (.int .i64 0))))])
 (.cond (.tmp 34)
 (.seq (.region [(jo 35 (.ldN 3 (.global 0))), (jm 36 11), (jS 3 4 35), (jm 5 36)])
 .ret)
 .skip)))))
 (.region [(ja 37 23 1), (jm 23 37)])))))))
 (.seq (.region [(jm 38 6), (jc 39 57 38), (jS 3 4 39), (jk 5 0)])
 .ret))))),
 [.cellN 4 3, .tmp 5]⟩
theorem low_tdrf_Run : lowFn Tryz.prog movers 27 = some ⟨ir_tdrf_Run.n, strip ir_tdrf_Run.body, ir_tdrf_Run.res⟩ := by kernel_rfl
def ir_tdrf_Checker_Race : IFn := ⟨10,
 (.seq (.region [(jo 2 (.new 56 (.agg #[.int .i64 0, .int .i64 0, .int .i64 0])))])
 (.seq (.seq (.region [(jm 3 0), (jo 4 (.nilq false 1 (.tmp 3) (.const (.pointer none))))])
 (.cond (.tmp 4)
 (.seq (.region [(jo 5 (.ldN 3 (.global 0))), (jS 3 2 5)])
 .ret)
 .skip))
 (.seq (.region [(jm 6 0), (jn 7 6), (jf 8 261 7), (jL 9 3 8), (jS 3 2 9)])
 .ret))),
 [.cellN 2 3]⟩
theorem low_tdrf_Checker_Race : lowFn Tryz.prog movers 57 = some ⟨ir_tdrf_Checker_Race.n, strip ir_tdrf_Checker_Race.body, ir_tdrf_Checker_Race.res⟩ := by kernel_rfl
def ir_tdrf_New_1 : IFn := ⟨4,
 (.seq (.region [(jo 1 (.mov (.const (.slice none 0 0))))])
 (.seq (.region [(jl 2 0), (jo 3 (.mk 188 2 16 [(.int .i64 0), (.int .i64 0)] (.tmp 2) (.tmp 2))), (jm 1 3)])
 .ret)),
 [.tmp 1]⟩
theorem low_tdrf_New_1 : lowFn Tryz.prog movers 84 = some ⟨ir_tdrf_New_1.n, strip ir_tdrf_New_1.body, ir_tdrf_New_1.res⟩ := by kernel_rfl
def ir_tdrf_Checker_fits : IFn := ⟨83,
 (.seq (.region [(jb 3 116 1), (jo 4 (.mov (.const (.bool false))))])
 (.seq (.seq (.draw (.f (jf 5 1 3)
 (.f (jl 6 5)
 (.f (jo 7 (.bin .lss (.tmp 6) (.const (.int .i64 0))))
 (.f (jm 8 7)
 (.f (jz 8 (jf 9 1 3))
 (.f (jz 8 (jl 10 9))
 (.f (jz 8 (jm 11 0))
 (.f (jz 8 (jn 12 11))
 (.f (jz 8 (jf 13 2 12))
 (.f (jz 8 (jl 14 13))
 (.f (jz 8 (jt 15 14))
 (.f (jz 8 (jo 16 (.bin .geq (.tmp 10) (.tmp 15))))
 (.f (jO 17 8 16)
 (.f (jm 18 17)
 (.f (jz 18 (jf 19 2 3))
 (.f (jz 18 (jl 20 19))
 (.f (jz 18 (jo 21 (.bin .lss (.tmp 20) (.const (.int .i64 1)))))
 (.f (jO 22 18 21)
 (.f (jm 23 22)
 (.f (jz 23 (jf 24 2 3))
 (.f (jz 23 (jl 25 24))
 (.f (jz 23 (jo 26 (.bin .gtr (.tmp 25) (.const (.int .i64 4)))))
 (.f (jO 27 23 26)
 (.f (jm 28 27)
 (.f (jz 28 (jf 29 3 3))
 (.f (jz 28 (jl 30 29))
 (.m (jz 28 (jo 31 (.blds 3 1 [(.int .i64 0)] [(0, 1, (.tmp 30))])))
 (.f (jz 28 (jc 32 114 31))
 (.f (jz 28 (jo 33 (.not (.tmp 32))))
 (.f (jO 34 28 33)
 (.f (jm 35 34)
 (.f (jz 35 (jm 36 0))
 (.f (jz 35 (jn 37 36))
 (.f (jz 35 (jf 38 0 37))
 (.f (jz 35 (jl 39 38))
 (.f (jz 35 (jo 40 (.bin .gtr (.tmp 39) (.const (.int .i64 0)))))
 (.f (jz 35 (jm 41 40))
 (.f (jy 41 (jf 42 0 3))
 (.f (jy 41 (jl 43 42))
 (.f (jy 41 (jm 44 0))
 (.f (jy 41 (jn 45 44))
 (.f (jy 41 (jf 46 1 45))
 (.f (jy 41 (jl 47 46))
 (.f (jy 41 (jw 48 43 47))
 (.f (jz 35 (jA 49 41 48))
 (.f (jO 50 35 49)
 .done)))))))))))))))))))))))))))))))))))))))))))))))
 (.cond (.tmp 50)
 (.seq (.region [(jo 4 (.mov (.const (.bool false))))])
 .ret)
 .skip))
 (.seq (.seq (.region [(jf 51 2 3), (jl 52 51), (jo 53 (.bin .neq (.tmp 52) (.const (.int .i64 4))))])
 (.cond (.tmp 53)
 (.seq (.region [(jf 54 4 3), (jl 55 54), (jt 56 55), (jq 57 56 0), (jm 58 57), (jy 58 (jf 59 5 3)), (jy 58 (jl 60 59)), (jy 58 (jt 61 60)), (jy 58 (jq 62 61 0)),
 (jA 63 58 62), (jm 4 63)])
 .ret)
 .skip))
 (.seq (.draw (.f (jm 64 0)
 (.f (jn 65 64)
 (.f (jf 66 4 65)
 (.f (jl 67 66)
 (.f (jf 68 1 3)
 (.f (jl 69 68)
 (.f (jx 70 1 67 69)
 (.f (jl 71 70)
 (.f (jo 72 (.nilq true 0 (.tmp 71) (.const (.slice none 0 0))))
 (.f (jm 73 72)
 (.f (jy 73 (jf 74 4 3))
 (.f (jy 73 (jl 75 74))
 (.f (jy 73 (jc 76 114 75))
 (.f (jA 77 73 76)
 (.f (jm 78 77)
 (.f (jy 78 (jf 79 5 3))
 (.f (jy 78 (jl 80 79))
 (.f (jy 78 (jc 81 114 80))
 (.f (jA 82 78 81)
 (.f (jm 4 82)
 .done)))))))))))))))))))))
 .ret)))),
 [.tmp 4]⟩
theorem low_tdrf_Checker_fits : lowFn Tryz.prog movers 85 = some ⟨ir_tdrf_Checker_fits.n, strip ir_tdrf_Checker_fits.body, ir_tdrf_Checker_fits.res⟩ := by kernel_rfl
def ir_tdrf_Checker_plain : IFn := ⟨68,
 (.seq (.region [(jb 3 116 1)])
 (.seq (.region [(jf 6 2 3), (jl 7 6), (jq 8 7 2), (jm 4 8)])
 (.seq (.seq (.draw (.f (jm 9 0)
 (.f (jn 10 9)
 (.f (jf 11 261 10)
 (.f (jL 12 3 11)
 (.f (jo 13 (.ldN 3 (.global 0)))
 (.f (jo 14 (.ageq false [0, 0, 0] (.tmp 12) (.tmp 13)))
 .done)))))))
 (.cond (.tmp 14)
 (.draw (.f (jm 15 0)
 (.f (jL 16 6 3)
 (.f (jf 17 3 3)
 (.f (jl 18 17)
 (.f (jm 19 4)
 (.f (jm 20 0)
 (.f (jn 21 20)
 (.f (jf 22 3 21)
 (.f (jl 23 22)
 (.f (jf 24 1 3)
 (.f (jl 25 24)
 (.f (jx 26 1 23 25)
 (.f (jl 27 26)
 (.m (jo 28 (.call 118 [(.tmp 15), (.tmp 16), (.tmp 18), (.tmp 19), (.tmp 27)]))
 .done)))))))))))))))
 .skip))
 (.seq (.draw (.f (jm 29 0)
 (.f (jn 30 29)
 (.f (jf 31 0 30)
 (.f (jl 32 31)
 (.f (jm 33 0)
 (.f (jn 34 33)
 (.f (jf 35 2 34)
 (.f (jl 36 35)
 (.f (jf 37 1 3)
 (.f (jl 38 37)
 (.f (jx 39 1 36 38)
 (.f (jl 40 39)
 (.f (ja 41 40 1)
 (.f (jo 42 (.bld [(.int .i64 0), (.int .i64 0)] [(0, 1, (.tmp 32)), (1, 1, (.tmp 41))]))
 (.m (jo 5 (.new 188 (.agg #[.int .i64 0, .int .i64 0])))
 (.m (jS 2 5 42)
 .done)))))))))))))))))
 (.seq (.region [(jm 43 4)])
 (.cond (.tmp 43)
 (.draw (.f (jm 44 0)
 (.f (jf 45 3 3)
 (.f (jl 46 45)
 (.f (jn 47 44)
 (.f (jf 48 5 47)
 (.f (jo 49 (.ixa 64 4 (.tmp 48) (.tmp 46)))
 (.f (jf 50 1 49)
 (.f (jl 51 50)
 (.f (jf 52 1 3)
 (.f (jl 53 52)
 (.f (jL 54 2 5)
 (.f (jx 55 2 51 53)
 (.m (jS 2 55 54)
 .done))))))))))))))
 (.draw (.f (jm 56 0)
 (.f (jf 57 3 3)
 (.f (jl 58 57)
 (.f (jn 59 56)
 (.f (jf 60 5 59)
 (.f (jo 61 (.ixa 64 4 (.tmp 60) (.tmp 58)))
 (.f (jf 62 0 61)
 (.f (jl 63 62)
 (.f (jf 64 1 3)
 (.f (jl 65 64)
 (.f (jL 66 2 5)
 (.f (jx 67 2 63 65)
 (.m (jS 2 67 66)
 .done)))))))))))))))))))),
 []⟩
theorem low_tdrf_Checker_plain : lowFn Tryz.prog movers 87 = some ⟨ir_tdrf_Checker_plain.n, strip ir_tdrf_Checker_plain.body, ir_tdrf_Checker_plain.res⟩ := by kernel_rfl
def ir_tdrf_words : IFn := ⟨6,
 (.seq (.region [(jo 2 (.mov (.const (.bool false))))])
 (.seq (.region [(jm 3 0), (jo 4 (.call 139 [(.tmp 3), (.func 140)])), (jo 5 (.not (.tmp 4))), (jm 2 5)])
 .ret)),
 [.tmp 2]⟩
theorem low_tdrf_words : lowFn Tryz.prog movers 114 = some ⟨ir_tdrf_words.n, strip ir_tdrf_words.body, ir_tdrf_words.res⟩ := by kernel_rfl
def ir_tdrf_Checker_test : IFn := ⟨70,
 (.seq (.region [(jb 6 116 1), (jo 10 (.mov (.const (.bool false))))])
 (.seq (.region [(jm 13 0), (jm 14 2), (jn 15 13), (jf 16 5 15), (jo 17 (.ixa 64 4 (.tmp 16) (.tmp 14))), (jm 11 17)])
 (.seq (.draw (.f (jm 18 11)
 (.f (jn 19 18)
 (.f (jf 20 1 19)
 (.f (jl 21 20)
 (.f (jf 22 1 6)
 (.f (jl 23 22)
 (.f (jm 24 4)
 (.f (jo 25 (.call 144 [(.const (.int .i64 (-1))), (.tmp 21), (.tmp 23), (.tmp 24)]))
 (.f (jm 12 25)
 .done))))))))))
 (.seq (.seq (.region [(jm 26 3)])
 (.cond (.tmp 26)
 (.draw (.f (jm 27 12)
 (.f (jm 28 11)
 (.f (jn 29 28)
 (.f (jf 30 0 29)
 (.f (jl 31 30)
 (.f (jf 32 1 6)
 (.f (jl 33 32)
 (.f (jm 34 4)
 (.f (jo 35 (.call 144 [(.tmp 27), (.tmp 31), (.tmp 33), (.tmp 34)]))
 (.f (jm 12 35)
 .done)))))))))))
 .skip))
 (.seq (.seq (.region [(jf 36 2 6), (jl 37 36), (jo 38 (.bin .neq (.tmp 37) (.const (.int .i64 4))))])
 (.cond (.tmp 38)
 (.seq (.draw (.f (jm 39 12)
 (.f (jm 40 11)
 (.f (jn 41 40)
 (.f (jf 42 3 41)
 (.f (jl 43 42)
 (.f (jf 44 1 6)
 (.f (jl 45 44)
 (.f (jm 46 4)
 (.f (jo 47 (.call 144 [(.tmp 39), (.tmp 43), (.tmp 45), (.tmp 46)]))
 (.f (jm 12 47)
 .done)))))))))))
 (.seq (.region [(jm 48 3)])
 (.cond (.tmp 48)
 (.draw (.f (jm 49 12)
 (.f (jm 50 11)
 (.f (jn 51 50)
 (.f (jf 52 2 51)
 (.f (jl 53 52)
 (.f (jf 54 1 6)
 (.f (jl 55 54)
 (.f (jm 56 4)
 (.f (jo 57 (.call 144 [(.tmp 49), (.tmp 53), (.tmp 55), (.tmp 56)]))
 (.f (jm 12 57)
 .done)))))))))))
 .skip)))
 .skip))
 (.seq (.seq (.region [(jm 58 12), (jo 59 (.bin .lss (.tmp 58) (.const (.int .i64 0))))])
 (.cond (.tmp 59)
 (.seq (.region [(jo 10 (.mov (.const (.bool false))))])
 .ret)
 .skip))
 (.seq (.region [(jm 60 0), (jm 61 12), (jm 62 0), (jn 63 62), (jf 64 0 63), (jl 65 64), (jm 66 2), (jo 67 (.bld [(.int .i64 0), (.int .i64 0), (.int .i64 0)] [(0, 1, (.tmp 61)), (1, 1, (.tmp 65)), (2, 1, (.tmp 66))])),
 (jn 68 60), (jf 69 261 68), (jS 3 69 67)])
 (.seq (.region [(jo 10 (.mov (.const (.bool true))))])
 .ret)))))))),
 [.tmp 10]⟩
theorem low_tdrf_Checker_test : lowFn Tryz.prog movers 118 = some ⟨ir_tdrf_Checker_test.n, strip ir_tdrf_Checker_test.body, ir_tdrf_Checker_test.res⟩ := by kernel_rfl
def ir_tdrf_words_1 : IFn := ⟨9,
 (.seq (.region [(jo 2 (.mov (.const (.bool false))))])
 (.seq (.region [(jm 3 0), (jo 4 (.bin .lss (.tmp 3) (.const (.int .i64 0)))), (jm 5 4), (jz 5 (jm 6 0)), (jz 5 (jo 7 (.bin .geq (.tmp 6) (.const (.int .i64 64))))),
 (jO 8 5 7), (jm 2 8)])
 .ret)),
 [.tmp 2]⟩
theorem low_tdrf_words_1 : lowFn Tryz.prog movers 140 = some ⟨ir_tdrf_words_1.n, strip ir_tdrf_words_1.body, ir_tdrf_words_1.res⟩ := by kernel_rfl
def ir_tdrf_latest : IFn := ⟨39,
 (.seq (.region [(jk 8 0)])
 (.seq (.seq (.region [(jm 11 1), (jt 12 11), (jk 13 0)])
 (.block 0
 (.loop 274877900289
 (.seq (.region [(jw 14 13 12)])
 (.seq (.cond (.tmp 14)
 .skip
 (.exit 0))
 (.seq (.block 1
 (.seq (.region [(jm 15 13), (jx 16 2 11 13), (jL 17 2 16), (jo 10 (.new 188 (.agg #[.int .i64 0, .int .i64 0]))), (jm 9 15), (jS 2 10 17)])
 (.seq (.draw (.f (jm 18 9)
 (.f (jm 19 2)
 (.f (jo 20 (.bin .neq (.tmp 18) (.tmp 19)))
 (.f (jm 21 20)
 (.f (jy 21 (jf 22 1 10))
 (.f (jy 21 (jl 23 22))
 (.f (jy 21 (jm 24 3))
 (.f (jy 21 (jm 25 9))
 (.f (jy 21 (jC 26 174 24 25))
 (.f (jy 21 (jo 27 (.bin .gtr (.tmp 23) (.tmp 26))))
 (.f (jA 28 21 27)
 (.f (jm 29 28)
 (.f (jy 29 (jf 30 0 10))
 (.f (jy 29 (jl 31 30))
 (.f (jy 29 (jm 32 0))
 (.f (jy 29 (jo 33 (.bin .gtr (.tmp 31) (.tmp 32))))
 (.f (jA 34 29 33)
 .done))))))))))))))))))
 (.cond (.tmp 34)
 (.region [(jf 35 0 10), (jl 36 35), (jm 0 36)])
 .skip))))
 (.region [(ja 37 13 1), (jm 13 37)])))))))
 (.seq (.region [(jm 38 0), (jm 8 38)])
 .ret))),
 [.tmp 8]⟩
theorem low_tdrf_latest : lowFn Tryz.prog movers 144 = some ⟨ir_tdrf_latest.n, strip ir_tdrf_latest.body, ir_tdrf_latest.res⟩ := by kernel_rfl
end Go.Proofs.YtkieffpjjfebjaaGreatDoor
namespace Go.Proofs.YtkieffpjjfebjaaGreatDoor
open Go
set_option maxRecDepth 100000
def ir_vclock_Get : IFn := ⟨17,
 (.seq (.region [(jk 4 0)])
 (.seq (.seq (.region [(jm 5 1), (jo 6 (.bin .lss (.tmp 5) (.const (.int .i64 0)))), (jm 7 6), (jz 7 (jm 8 1)), (jz 7 (jm 9 0)), (jz 7 (jt 10 9)), (jz 7 (jo 11 (.bin .geq (.tmp 8) (.tmp 10)))),
 (jO 12 7 11)])
 (.cond (.tmp 12)
 (.seq (.region [(jk 4 0)])
 .ret)
 .skip))
 (.seq (.region [(jm 13 0), (jm 14 1), (jx 15 1 13 14), (jl 16 15), (jm 4 16)])
 .ret))),
 [.tmp 4]⟩
theorem low_vclock_Get : lowFn Tryz.prog movers 174 = some ⟨ir_vclock_Get.n, strip ir_vclock_Get.body, ir_vclock_Get.res⟩ := by kernel_rfl
end Go.Proofs.YtkieffpjjfebjaaGreatDoor
namespace Go.Proofs.YtkieffpjjfebjaaGreatDoor.Ord
open Go
set_option maxRecDepth 100000
def irc_tdrf_Checker_end : IFn := ⟨125,
 (.seq (.region [(jb 3 116 1)])
 (.seq (.region [(jf 12 4 3), (jl 13 12), (jf 14 5 3), (jl 15 14), (jo 16 (.blds 23 2 [(.slice none 0 0), (.slice none 0 0)] [(0, 1, (.tmp 13)), (1, 1, (.tmp 15))])),
 (jc 17 115 16), (jm 4 17)])
 (.seq (.region [(jm 18 4), (jc 19 116 18)])
 (.cut (.seq (.region [(jm 20 4), (jc 21 117 20), (jt 22 21), (jk 23 0)])
 (.block 0
 (.loop 4503599618981952
 (.seq (.region [(jw 24 23 22)])
 (.seq (.cond (.tmp 24)
 .skip
 (.exit 0))
 (.seq (.block 1
 (.seq (.region [(jx 25 1 21 23), (jl 26 25), (jm 6 26)])
 (.seq (.draw (.f (jm 27 0)
 (.f (jn 28 27)
 (.f (jf 29 261 28)
 (.f (jL 30 3 29)
 (.f (jo 31 (.ldN 3 (.global 0)))
 (.f (jo 32 (.ageq false [0, 0, 0] (.tmp 30) (.tmp 31)))
 (.f (jm 33 32)
 (.f (jy 33 (jm 34 0))
 (.f (jy 33 (jL 35 6 3))
 (.f (jy 33 (jm 36 6))
 (.f (jy 33 (jf 37 5 3))
 (.f (jy 33 (jl 38 37))
 (.f (jy 33 (jm 39 6))
 (.f (jy 33 (jC 40 119 38 39))
 (.f (jy 33 (jm 41 0))
 (.f (jy 33 (jn 42 41))
 (.f (jy 33 (jf 43 4 42))
 (.f (jy 33 (jl 44 43))
 (.f (jy 33 (jf 45 1 3))
 (.f (jy 33 (jl 46 45))
 (.f (jy 33 (jx 47 1 44 46))
 (.f (jy 33 (jl 48 47))
 (.m (jy 33 (jo 49 (.call 118 [(.tmp 34), (.tmp 35), (.tmp 36), (.tmp 40), (.tmp 48)])))
 (.f (jA 50 33 49)
 .done)))))))))))))))))))))))))
 (.cond (.tmp 50)
 (.exit 0)
 .skip))))
 (.region [(ja 51 23 1), (jm 23 51)])))))))
 (.seq (.draw (.f (jm 52 0)
 (.f (jn 53 52)
 (.f (jf 54 2 53)
 (.f (jl 55 54)
 (.f (jf 56 1 3)
 (.f (jl 57 56)
 (.f (jx 58 1 55 57)
 (.f (jl 59 58)
 (.f (ja 60 59 1)
 (.f (jx 61 1 55 57)
 (.m (js 61 60)
 .done))))))))))))
 (.cut (.draw (.f (jm 62 0)
 (.f (jn 63 62)
 (.f (jf 64 3 63)
 (.f (jf 66 1 3)
 (.f (jm 68 0)
 (.f (jn 69 68)
 (.f (jf 70 2 69)
 (.f (jl 71 70)
 (.both (.f (jl 65 64)
 (.both (.f (jl 67 66)
 (.m (jc 72 60 71)
 (.f (jx 73 1 65 67)
 (.m (js 73 72)
 .done))))
 (.m (jc 72 60 71)
 (.f (jl 67 66)
 (.f (jx 73 1 65 67)
 (.m (js 73 72)
 .done))))))
 (.both (.f (jl 67 66)
 (.both (.f (jl 65 64)
 (.m (jc 72 60 71)
 (.f (jx 73 1 65 67)
 (.m (js 73 72)
 .done))))
 (.m (jc 72 60 71)
 (.f (jl 65 64)
 (.f (jx 73 1 65 67)
 (.m (js 73 72)
 .done))))))
 (.m (jc 72 60 71)
 (.f (jl 65 64)
 (.f (jl 67 66)
 (.f (jx 73 1 65 67)
 (.m (js 73 72)
 .done))))))))))))))))
 (.seq (.draw (.f (jm 74 0)
 (.f (jn 75 74)
 (.f (jf 76 0 75)
 (.f (jl 77 76)
 (.f (jm 78 0)
 (.f (jn 79 78)
 (.f (jf 80 2 79)
 (.f (jl 81 80)
 (.f (jf 82 1 3)
 (.f (jl 83 82)
 (.f (jx 84 1 81 83)
 (.f (jl 85 84)
 (.f (jo 86 (.bld [(.int .i64 0), (.int .i64 0)] [(0, 1, (.tmp 77)), (1, 1, (.tmp 85))]))
 (.m (jo 7 (.new 188 (.agg #[.int .i64 0, .int .i64 0])))
 (.m (jS 2 7 86)
 .done))))))))))))))))
 (.seq (.seq (.region [(jf 87 4 3), (jl 88 87), (jt 89 88), (jk 90 0)])
 (.block 2
 (.loop 81128400474567396315514106020352
 (.seq (.region [(jw 91 90 89)])
 (.seq (.cond (.tmp 91)
 .skip
 (.exit 2))
 (.seq (.block 3
 (.seq (.region [(jx 92 1 88 90), (jl 93 92), (jm 9 93)])
 (.draw (.f (jm 94 0)
 (.f (jm 95 9)
 (.f (jn 96 94)
 (.f (jf 97 5 96)
 (.f (jo 98 (.ixa 64 4 (.tmp 97) (.tmp 95)))
 (.f (jf 99 2 98)
 (.f (jl 100 99)
 (.f (jf 101 1 3)
 (.f (jl 102 101)
 (.f (jL 103 2 7)
 (.f (jx 104 2 100 102)
 (.m (jS 2 104 103)
 .done)))))))))))))))
 (.region [(ja 105 90 1), (jm 90 105)])))))))
 (.seq (.region [(jf 106 5 3), (jl 107 106), (jt 108 107), (jk 109 0)])
 (.block 4
 (.loop 42534646828009991079468259616929875968
 (.seq (.region [(jw 110 109 108)])
 (.seq (.cond (.tmp 110)
 .skip
 (.exit 4))
 (.seq (.block 5
 (.seq (.region [(jx 111 1 107 109), (jl 112 111), (jm 11 112)])
 (.draw (.f (jm 113 0)
 (.f (jm 114 11)
 (.f (jn 115 113)
 (.f (jf 116 5 115)
 (.f (jo 117 (.ixa 64 4 (.tmp 116) (.tmp 114)))
 (.f (jf 118 3 117)
 (.f (jl 119 118)
 (.f (jf 120 1 3)
 (.f (jl 121 120)
 (.f (jL 122 2 7)
 (.f (jx 123 2 119 121)
 (.m (jS 2 123 122)
 .done)))))))))))))))
 (.region [(ja 124 109 1), (jm 109 124)]))))))))))))))),
 []⟩
theorem lowc_tdrf_Checker_end : lowFn Tryz.prog movers 86 = some ⟨irc_tdrf_Checker_end.n, strip irc_tdrf_Checker_end.body, irc_tdrf_Checker_end.res⟩ := by kernel_rfl
def irc_tdrf_Checker_Add : IFn := ⟨77,
 (.seq (.region [(jb 3 116 1), (jo 4 (.new 56 (.agg #[.int .i64 0, .int .i64 0, .int .i64 0]))), (jk 5 0)])
 (.seq (.block 0
 (.seq (.region [(jm 7 0), (jo 8 (.nilq false 1 (.tmp 7) (.const (.pointer none)))), (jm 6 8)])
 (.cond (.tmp 6)
 (.seq (.region [(jo 9 (.ldN 3 (.global 0))), (jS 3 4 9), (jk 5 1)])
 .ret)
 (.seq (.region [(jm 11 0), (jn 12 11), (jf 13 0 12), (jl 14 13), (jq 15 14 65536), (jm 10 15)])
 (.cond (.tmp 10)
 (.seq (.region [(jo 16 (.ldN 3 (.global 0))), (jS 3 4 16), (jk 5 3)])
 .ret)
 (.seq (.region [(jm 18 0), (jL 19 6 3), (jC 20 85 18 19), (jo 21 (.not (.tmp 20))), (jm 17 21)])
 (.cond (.tmp 17)
 (.seq (.region [(jo 22 (.ldN 3 (.global 0))), (jS 3 4 22), (jk 5 91)])
 .ret)
 .skip)))))))
 (.cut (.seq (.region [(jf 23 2 3), (jl 24 23)])
 (.block 1
 (.seq (.region [(jq 36 24 3), (jm 35 36)])
 (.cond (.tmp 35)
 (.draw (.f (jm 37 0)
 (.f (jn 38 37)
 (.f (jf 39 4 38)
 (.f (jf 41 1 3)
 (.f (jm 43 0)
 (.f (jn 44 43)
 (.f (jf 45 2 44)
 (.f (jl 46 45)
 (.both (.f (jl 40 39)
 (.both (.f (jl 42 41)
 (.m (jc 47 60 46)
 (.f (jx 48 1 40 42)
 (.m (js 48 47)
 .done))))
 (.m (jc 47 60 46)
 (.f (jl 42 41)
 (.f (jx 48 1 40 42)
 (.m (js 48 47)
 .done))))))
 (.both (.f (jl 42 41)
 (.both (.f (jl 40 39)
 (.m (jc 47 60 46)
 (.f (jx 48 1 40 42)
 (.m (js 48 47)
 .done))))
 (.m (jc 47 60 46)
 (.f (jl 40 39)
 (.f (jx 48 1 40 42)
 (.m (js 48 47)
 .done))))))
 (.m (jc 47 60 46)
 (.f (jl 40 39)
 (.f (jl 42 41)
 (.f (jx 48 1 40 42)
 (.m (js 48 47)
 .done))))))))))))))))
 (.seq (.region [(jq 50 24 4), (jm 49 50)])
 (.cond (.tmp 49)
 (.seq (.region [(jm 51 0), (jL 52 6 3), (jC 53 86 51 52)])
 (.draw (.f (jm 54 0)
 (.f (jn 55 54)
 (.f (jf 56 4 55)
 (.f (jl 57 56)
 (.f (jf 58 1 3)
 (.f (jl 59 58)
 (.f (jx 60 1 57 59)
 (.m ⟨none, .st (.tmp 60) (.const (.slice none 0 0)), none⟩
 .done))))))))))
 (.seq (.region [(jm 25 0), (jL 26 6 3), (jC 27 87 25 26)])
 (.draw (.f (jm 28 0)
 (.f (jn 29 28)
 (.f (jf 30 4 29)
 (.f (jl 31 30)
 (.f (jf 32 1 3)
 (.f (jl 33 32)
 (.f (jx 34 1 31 33)
 (.m ⟨none, .st (.tmp 34) (.const (.slice none 0 0)), none⟩
 .done))))))))))))))))
 (.seq (.region [(jm 61 0), (jf 62 0 3), (jl 63 62), (jn 64 61), (jf 65 1 64), (js 65 63)])
 (.seq (.region [(jm 66 0), (jn 67 66), (jf 68 0 67), (jl 69 68), (ja 70 69 1), (jn 71 66), (jf 72 0 71), (js 72 70)])
 (.seq (.region [(jm 73 0), (jn 74 73), (jf 75 261 74), (jL 76 3 75), (jS 3 4 76), (jk 5 0)])
 .ret)))))),
 [.cellN 4 3, .tmp 5]⟩
theorem lowc_tdrf_Checker_Add : lowFn Tryz.prog movers 56 = some ⟨irc_tdrf_Checker_Add.n, strip irc_tdrf_Checker_Add.body, irc_tdrf_Checker_Add.res⟩ := by kernel_rfl
end Go.Proofs.YtkieffpjjfebjaaGreatDoor.Ord
