/- Races: what they are about, their order, the first one. Plain. No condition. -/
import Derived.Test.YtofjnldidkiihaaDoorOlD
namespace Go.Proofs.YtofjnldidkiihaaDoor
open Go
def wrB (e : EH) (w : Int) : Bool := (decide (e.k = 2) && decide (e.w = w)) || (decide (e.k = 4) && e.wl.contains w)
def toB (e : EH) (w : Int) : Bool := wrB e w || ((decide (e.k = 1) && decide (e.w = w)) || (decide (e.k = 4) && e.rl.contains w))
theorem cfP_acc {a b : EH} {w : Int} (h : cfP a b w = true) (ha : 1 ≤ a.k ∧ a.k ≤ 2) (hb : 1 ≤ b.k ∧ b.k ≤ 4 ∧ b.k ≠ 3) : toB a w = true ∧ toB b w = true ∧ (wrB a w = true ∨ wrB b w = true) := by
  unfold cfP at h
  rw [Bool.and_eq_true, decide_eq_true_iff] at h
  obtain ⟨h1, h2⟩ := h
  have hta : toB a w = true := by
    unfold toB wrB
    by_cases h3 : a.k = 2
    · simp [h1, h3]
    · have h4 : a.k = 1 := by omega
      simp [h1, h4]
  refine ⟨hta, ?_⟩
  split at h2
  · rename_i h3
    rw [Bool.or_eq_true, Bool.and_eq_true, decide_eq_true_iff] at h2
    rcases h2 with h2 | ⟨h2, h4⟩
    · have : wrB b w = true := by unfold wrB; rw [h2]; simp [h3]
      exact ⟨by unfold toB; rw [this, Bool.true_or], .inr this⟩
    · exact ⟨by unfold toB; rw [h4]; simp [h3], .inl (by unfold wrB; simp [h1, h2])⟩
  · rename_i h3
    rw [Bool.and_eq_true, Bool.or_eq_true, decide_eq_true_iff, decide_eq_true_iff, decide_eq_true_iff] at h2
    obtain ⟨h4, h5⟩ := h2
    refine ⟨?_, ?_⟩
    · unfold toB wrB
      by_cases h6 : b.k = 2
      · simp [h4, h6]
      · have h7 : b.k = 1 := by omega
        simp [h4, h7]
    · rcases h5 with h5 | h5
      · exact .inl (by unfold wrB; simp [h1, h5])
      · exact .inr (by unfold wrB; simp [h4, h5])
theorem conf_acc {a b : EH} {w : Int} (h : confB a b w = true) (ha : 1 ≤ a.k ∧ a.k ≤ 4 ∧ a.k ≠ 3) (hb : 1 ≤ b.k ∧ b.k ≤ 4 ∧ b.k ≠ 3) : a.t ≠ b.t ∧ ¬(a.k = 4 ∧ b.k = 4) ∧ toB a w = true ∧ toB b w = true ∧ (wrB a w = true ∨ wrB b w = true) := by
  unfold confB at h
  rw [Bool.and_eq_true, Bool.not_eq_true', decide_eq_false_iff_not] at h
  refine ⟨h.1, ?_⟩
  have h := h.2
  split at h
  · rename_i h3
    rw [Bool.and_eq_true, Bool.not_eq_true', decide_eq_false_iff_not] at h
    obtain ⟨h1, h2, h4⟩ := cfP_acc h.2 (by omega) ha
    exact ⟨fun x => h.1 x.2, h2, h1, h4.symm⟩
  · rename_i h3
    exact ⟨fun x => h3 x.1, cfP_acc h (by omega) hb⟩
theorem rcL_mem {l : List EH} {y m : Nat} {w : Int} {r : RaceM} (h : r ∈ rcL l y w m) : ∃ x, x < m ∧ r = ((x : Int), (y : Int), w) ∧ rcB l y w x = true := by
  unfold rcL at h
  rw [List.mem_map] at h
  obtain ⟨x, hx, rfl⟩ := h
  rw [List.mem_filter, List.mem_range] at hx
  exact ⟨x, hx.1, rfl, hx.2⟩
theorem rcA_mem {l : List EH} {m : Nat} {r : RaceM} : r ∈ rcA l m ↔ ∃ y w, y < m ∧ w < 64 ∧ knd l y ≠ 3 ∧ r ∈ rcL l y ((w : Nat) : Int) y := by
  unfold rcA rcW
  rw [List.mem_flatMap]
  constructor
  · rintro ⟨y, hy, hr⟩
    rw [List.mem_range] at hy
    split at hr
    · cases hr
    · rename_i h3
      rw [List.mem_flatMap] at hr
      obtain ⟨w, hw, hr⟩ := hr
      rw [List.mem_range] at hw
      exact ⟨y, w, hy, hw, h3, hr⟩
  · rintro ⟨y, w, hy, hw, h3, hr⟩
    refine ⟨y, List.mem_range.2 hy, ?_⟩
    rw [if_neg h3, List.mem_flatMap]
    exact ⟨w, List.mem_range.2 hw, hr⟩
/-- What a race is. -/
theorem race_fact {l : List EH} {n : Nat} {r : RaceM} (hw : Wf l n) (h : r ∈ rcA l l.length) : ∃ x y : Nat, ∃ a b : EH, r.1 = x ∧ r.2.1 = y ∧ x < y ∧ y < l.length ∧ l[x]? = some a ∧ l[y]? = some b ∧ a.t ≠ b.t ∧ ¬(a.k = 4 ∧ b.k = 4) ∧ toB a r.2.2 = true ∧ toB b r.2.2 = true ∧ (wrB a r.2.2 = true ∨ wrB b r.2.2 = true) := by
  obtain ⟨y, w, hy, _, h3, hr⟩ := rcA_mem.1 h
  obtain ⟨x, hx, rfl, hb⟩ := rcL_mem hr
  have hxl : x < l.length := by omega
  obtain ⟨a, ha⟩ : ∃ e, l[x]? = some e := ⟨_, List.getElem?_eq_getElem hxl⟩
  obtain ⟨b, hb'⟩ : ∃ e, l[y]? = some e := ⟨_, List.getElem?_eq_getElem hy⟩
  unfold rcB at hb
  rw [Bool.and_eq_true, Bool.and_eq_true, Bool.not_eq_true', decide_eq_false_iff_not, at_get ha, at_get hb'] at hb
  have k1 := hw.kd x hxl
  have k2 := hw.kd y hy
  unfold knd at h3 k1 k2 hb
  rw [at_get ha] at k1 hb
  rw [at_get hb'] at k2 h3
  exact ⟨x, y, a, b, rfl, rfl, hx, hy, ha, hb', conf_acc hb.2.1 ⟨k1.1, k1.2.1, hb.1⟩ ⟨k2.1, k2.2.1, h3⟩⟩
/-- The order of races. -/
def rLe (a b : RaceM) : Prop := a.2.1 < b.2.1 ∨ (a.2.1 = b.2.1 ∧ a.2.2 ≤ b.2.2)
theorem rcL_ord {l : List EH} {y m : Nat} {w : Int} : (rcL l y w m).Pairwise rLe := by
  refine List.pairwise_iff_forall_sublist.2 fun {a b} h => ?_
  have m1 := h.subset (List.mem_cons_self (a := a) (l := [b]))
  have m2 := h.subset (List.mem_cons_of_mem a (List.mem_singleton.2 rfl : b ∈ [b]))
  obtain ⟨_, _, e1, _⟩ := rcL_mem m1
  obtain ⟨_, _, e2, _⟩ := rcL_mem m2
  subst e1 e2
  exact .inr ⟨rfl, Int.le_refl _⟩
theorem rcA_ord {l : List EH} {m : Nat} : (rcA l m).Pairwise rLe := by
  unfold rcA
  rw [List.pairwise_flatMap]
  refine ⟨fun y _ => ?_, List.pairwise_lt_range.imp fun {a b} hab x hx z hz => ?_⟩
  · split
    · exact .nil
    · unfold rcW
      rw [List.pairwise_flatMap]
      refine ⟨fun w _ => rcL_ord, List.pairwise_lt_range.imp fun {a b} hab x hx z hz => ?_⟩
      obtain ⟨_, _, rfl, _⟩ := rcL_mem hx
      obtain ⟨_, _, rfl, _⟩ := rcL_mem hz
      exact .inr ⟨rfl, by dsimp only; omega⟩
  · split at hx
    · cases hx
    · split at hz
      · cases hz
      · have h1 := rcW_key x hx
        have h2 := rcW_key z hz
        exact .inl (by omega)
theorem race_next {l : List EH} {i : Nat} {a b : RaceM} (ha : (rcA l l.length)[i]? = some a) (hb : (rcA l l.length)[i + 1]? = some b) : rLe a b := by
  obtain ⟨h1, e1⟩ := List.getElem?_eq_some_iff.1 ha
  obtain ⟨h2, e2⟩ := List.getElem?_eq_some_iff.1 hb
  have := List.pairwise_iff_getElem.1 (rcA_ord (l := l) (m := l.length)) i (i + 1) h1 h2 (by omega)
  rwa [e1, e2] at this
theorem frst_ge {l : List EH} : (frst l).2.1 ≥ 0 ↔ rcA l l.length ≠ [] := by
  constructor
  · intro h hn
    rw [frst_none hn] at h
    revert h
    decide
  · intro h
    unfold frst
    cases hf : (prs l l.length).findSome? fun p => (rcL l p.1 p.2 p.1).getLast? with
    | some r =>
      obtain ⟨p, _, hr⟩ := List.exists_of_findSome?_eq_some hf
      obtain ⟨x, _, rfl, _⟩ := rcL_mem (List.mem_of_getLast? hr)
      show (p.1 : Int) ≥ 0
      omega
    | none =>
      exfalso
      rw [List.findSome?_eq_none_iff] at hf
      obtain ⟨r, hr⟩ := List.exists_mem_of_ne_nil _ h
      obtain ⟨y, w, hy, hw, h3, hr⟩ := rcA_mem.1 hr
      have := hf (y, (w : Int)) (by
        unfold prs
        rw [List.mem_flatMap]
        refine ⟨y, List.mem_range.2 hy, ?_⟩
        rw [if_neg h3, List.mem_map]
        exact ⟨w, List.mem_range.2 hw, rfl⟩)
      rw [List.getLast?_eq_none_iff] at this
      dsimp only at this
      rw [this] at hr
      cases hr
end Go.Proofs.YtofjnldidkiihaaDoor
