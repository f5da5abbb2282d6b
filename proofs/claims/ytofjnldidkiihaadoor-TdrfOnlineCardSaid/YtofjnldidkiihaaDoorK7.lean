/- What the laws of this seat share, part 7: contracts of the functions, plain laws, and the rules of their proofs. No condition. -/
import Derived.Test.YtofjnldidkiihaaDoorK6
namespace Go.Proofs.YtofjnldidkiihaaDoor
open Go
set_option maxRecDepth 10000
def rowG {α : Type} (n : Nat) (g : Nat → α) : List α := (List.range n).map g
section
variable {α : Type} {n j : Nat} {g g' : Nat → α}
theorem rowG_len : (rowG n g).length = n := by simp [rowG]
theorem rowG_get (hj : j < n) : (rowG n g)[j]? = some (g j) := by simp [rowG, hj]
theorem rowG_congr (h : ∀ j, j < n → g j = g' j) : rowG n g = rowG n g' := List.map_congr_left fun j hj => h j (List.mem_range.1 hj)
theorem rowG_set {v : α} : (rowG n g).set j v = rowG n (fun i => if i = j then v else g i) := by
  apply List.ext_getElem?
  intro i
  by_cases hi : i < n
  · rw [rowG_get hi, List.getElem?_set]
    by_cases hij : j = i
    · subst hij; rw [if_pos rfl, if_pos (by rw [rowG_len]; exact hi), if_pos rfl]
    · rw [if_neg hij, rowG_get hi, if_neg (Ne.symm hij)]
  · rw [List.getElem?_eq_none (by rw [List.length_set, rowG_len]; omega), List.getElem?_eq_none (by rw [rowG_len]; omega)]
theorem rowG_set_eq {v : α} (h : ∀ i, i < n → (if i = j then v else g i) = g' i) : (rowG n g).set j v = rowG n g' := by
  rw [rowG_set]; exact rowG_congr h
theorem rowG_rep {x : α} : List.replicate n x = rowG n (fun _ => x) := by
  apply List.ext_getElem?
  intro i
  by_cases hi : i < n
  · rw [rowG_get hi]; simp [hi]
  · rw [List.getElem?_eq_none (by simp; omega), List.getElem?_eq_none (by rw [rowG_len]; omega)]
end
/-- The last end of a thread ahead of a place, or -1. -/
def lsE (l : List EH) (t : Int) : Nat → Int
  | 0 => -1
  | i + 1 => if knd l i = 4 ∧ thr l i = t then i else lsE l t i
/-- The first end of a thread among so many places from the back, or -1. -/
def nxD (l : List EH) (t : Int) : Nat → Int
  | 0 => -1
  | d + 1 => if knd l (l.length - (d + 1)) = 4 ∧ thr l (l.length - (d + 1)) = t then (l.length - (d + 1) : Nat) else nxD l t d
def nxE (l : List EH) (t : Int) (i : Nat) : Int := nxD l t (l.length - i)
/-- The ends of begins, so many events gone through. -/
def edF (l : List EH) : Nat → Nat → Int
  | 0, _ => 0
  | k + 1, i => if knd l k = 4 ∧ bgL l (thr l k) k = i then k else if i = k then -1 else edF l k i
/- WORDS THAT ARE TOUCHED -/
theorem flat_touch {β : Type} {f : Int → List β} : ∀ (n a : Nat) (t : List Int), t.Pairwise (· < ·) → (∀ x ∈ t, (a : Int) ≤ x ∧ x < (a + n : Nat)) → (∀ w : Nat, a ≤ w → (w : Int) ∉ t → f w = []) → (List.range' a n).flatMap (fun (w : Nat) => f w) = t.flatMap f
  | 0, a, t, _, hr, _ => by
    cases t with
    | nil => rfl
    | cons x t => have := hr x List.mem_cons_self; omega
  | n + 1, a, [], _, _, hf => by
    rw [List.range'_succ, List.flatMap_cons, hf a (Nat.le_refl a) (by simp)]
    rw [flat_touch n (a + 1) [] List.Pairwise.nil (by simp) (fun w h _ => hf w (by omega) (by simp))]
    rfl
  | n + 1, a, x :: t, hs, hr, hf => by
    rw [List.range'_succ, List.flatMap_cons]
    have hx := hr x List.mem_cons_self
    rw [List.pairwise_cons] at hs
    by_cases hxa : x = a
    · subst hxa
      rw [List.flatMap_cons, flat_touch n (a + 1) t hs.2 (fun y hy => ?_) (fun w h hn => hf w (by omega) (fun hm => ?_))]
      · have h1 := hs.1 y hy
        have h2 := hr y (List.mem_cons_of_mem _ hy)
        omega
      · rcases List.mem_cons.1 hm with h | h
        · omega
        · exact hn h
    · rw [hf a (Nat.le_refl a) (fun hm => ?_), List.nil_append]
      · refine flat_touch n (a + 1) (x :: t) (List.pairwise_cons.2 hs) (fun y hy => ?_) (fun w h hn => hf w (by omega) hn)
        have h2 := hr y hy
        rcases List.mem_cons.1 hy with rfl | h
        · omega
        · have := hs.1 y h; omega
      · rcases List.mem_cons.1 hm with h | h
        · exact hxa h.symm
        · have := hs.1 _ h; omega
end Go.Proofs.YtofjnldidkiihaaDoor
namespace Go.Proofs.YtofjnldidkiihaaDoor
open Go
set_option maxRecDepth 10000
/-- The kind of the last event of a thread ahead of a place, or 0. -/
def lkL (l : List EH) (t : Int) : Nat → Int
  | 0 => 0
  | i + 1 => if thr l i = t then knd l i else lkL l t i
theorem lkL_succ {l : List EH} {t : Int} {i : Nat} : lkL l t (i + 1) = if thr l i = t then knd l i else lkL l t i := rfl
theorem lkL_prev {l : List EH} {t k : Int} (hk : k ≠ 0) : ∀ i, lkL l t i = k → ∃ p, (p < i ∧ thr l p = t ∧ ∀ q, p < q → q < i → thr l q ≠ t) ∧ knd l p = k
  | 0, h => absurd h.symm hk
  | i + 1, h => by
    unfold lkL at h
    split at h
    · rename_i ht
      exact ⟨i, ⟨by omega, ht, fun q h1 h2 => by omega⟩, h⟩
    · rename_i hn
      obtain ⟨p, ⟨h1, h2, h3⟩, h4⟩ := lkL_prev hk i h
      refine ⟨p, ⟨by omega, h2, fun q h5 h6 => ?_⟩, h4⟩
      by_cases hq : q = i
      · subst hq; exact hn
      · exact h3 q h5 (by omega)
/-- A place of a trace fits behind what is ahead of it. -/
def okAt (l : List EH) (n i : Nat) : Bool := fitsM n (i == 0) (paAt l i) (lkL l (thr l i) i) (at' l i)
theorem okAt_rng {l : List EH} {n i : Nat} (h : okAt l n i = true) : 0 ≤ thr l i ∧ thr l i < n := fits_rng h
theorem lk_set {l : List EH} {n i : Nat} (h : 0 ≤ thr l i ∧ thr l i < n) : (rowG n fun t => lkL l t i).set (thr l i).toNat (knd l i) = rowG n fun t => lkL l t (i + 1) := by
  refine rowG_set_eq fun t _ => ?_
  by_cases ht : t = (thr l i).toNat
  · rw [if_pos ht]
    unfold lkL
    rw [if_pos (by omega)]
  · rw [if_neg ht]
    rw [lkL_succ, if_neg (by omega)]
theorem chkG_ok {l : List EH} {n : Nat} : ∀ d i, d + i = l.length → ((chkG n (l.drop i) i (paAt l i) (rowG n fun t => lkL l t i)).2 = 0 ↔ ∀ k, i ≤ k → k < l.length → okAt l n k = true)
  | 0, i, h => by
    rw [List.drop_eq_nil_of_le (by omega)]
    exact ⟨fun _ k h1 h2 => by omega, fun _ => rfl⟩
  | d + 1, i, h => by
    obtain ⟨e, he⟩ : ∃ e, l[i]? = some e := ⟨_, List.getElem?_eq_getElem (by omega)⟩
    rw [drop_at he, chkG]
    have hae : at' l i = e := at_get he
    have hg : fitsM n (i == 0) (paAt l i) ((rowG n fun t => lkL l t i).getD e.t.toNat 0) e = okAt l n i := by
      unfold okAt
      rw [hae]
      by_cases ht : 0 ≤ e.t ∧ e.t < n
      · rw [List.getD_eq_getElem?_getD, rowG_get (by omega)]
        simp only [Option.getD_some]
        have : ((e.t.toNat : Nat) : Int) = thr l i := by unfold thr; rw [hae]; omega
        rw [this]
      · rw [fits_out ht, fits_out ht]
    rw [hg]
    cases hok : okAt l n i with
    | true =>
      simp only [if_true]
      have hs := lk_set (okAt_rng hok)
      unfold thr knd at hs
      rw [hae] at hs
      rw [hs, ← paAt_succ he, chkG_ok d (i + 1) (by omega)]
      constructor
      · intro hh k h1 h2
        by_cases hk : k = i
        · subst hk; exact hok
        · exact hh k (by omega) h2
      · exact fun hh k h1 h2 => hh k (by omega) h2
    | false =>
      simp only [Bool.false_eq_true, if_false]
      constructor
      · intro hh; exact absurd hh (by simp)
      · intro hh; have := hh i (Nat.le_refl i) (by omega); rw [hok] at this; cases this
theorem chkG_snd {n : Nat} : ∀ (l : List EH) (i : Nat) (pa : Int) (last : List Int), (chkG n l i pa last).2 = 0 → chkG n l i pa last = (0, 0)
  | [], _, _, _, _ => rfl
  | e :: l, i, pa, last, h => by
    unfold chkG at h ⊢
    split
    · rename_i hf
      rw [if_pos hf] at h
      exact chkG_snd l _ _ _ h
    · rename_i hf
      rw [if_neg hf] at h
      simp at h
/-- A trace that is well-formed, told place by place. -/
def WF0 (l : List EH) (n : Nat) : Prop := 1 ≤ n ∧ n ≤ 16 ∧ l.length ≤ 65536 ∧ ∀ k, k < l.length → okAt l n k = true
theorem chk_ok {l : List EH} {n : Int} : (chkE l n).2 = 0 ↔ 0 ≤ n ∧ WF0 l n.toNat := by
  unfold chkE WF0
  split
  · constructor
    · intro h; simp at h
    · intro h; omega
  · split
    · constructor
      · intro h; simp at h
      · intro h; omega
    · have := chkG_ok (l := l) (n := n.toNat) l.length 0 (by omega)
      rw [List.drop_zero] at this
      have e : paAt l 0 = 0 := rfl
      have e2 : (rowG n.toNat fun t => lkL l t 0) = List.replicate n.toNat 0 := rowG_rep.symm
      rw [e, e2] at this
      rw [this]
      constructor
      · intro h; exact ⟨by omega, by omega, by omega, by omega, fun k hk => h k (by omega) hk⟩
      · intro h k _ hk; exact h.2.2.2.2 k hk
theorem chk_eq {l : List EH} {n : Int} (h : (chkE l n).2 = 0) : chkE l n = (0, 0) := by
  unfold chkE at h ⊢
  split
  · rename_i hc; rw [if_pos hc] at h; simp at h
  · rename_i hc; rw [if_neg hc] at h
    split
    · rename_i hc2; rw [if_pos hc2] at h; simp at h
    · rename_i hc2; rw [if_neg hc2] at h; exact chkG_snd _ _ _ _ h
theorem WF0.wf {l : List EH} {n : Nat} (h : WF0 l n) : Wf l n := by
  have key : ∀ i, i < l.length → okAt l n i = true := h.2.2.2
  refine ⟨fun i hi => ?_, fun i hi h4 => ?_, fun i hi h4 => ?_⟩
  · have := key i hi
    unfold okAt fitsM at this
    simp only [Bool.and_eq_true, decide_eq_true_eq] at this
    obtain ⟨⟨⟨h1, h2⟩, h3⟩, _⟩ := this
    exact ⟨h1.2.2.1, h1.2.2.2.1, h1.1, h1.2.1, decide_eq_true h1.2.2.2.2.2, h2, h3⟩
  · have := key i hi
    unfold okAt fitsM at this
    rw [if_pos h4] at this
    simp only [Bool.and_eq_true, decide_eq_true_eq] at this
    exact lkL_prev (by omega) i this.2
  · have := key i hi
    unfold okAt fitsM at this
    rw [if_neg h4] at this
    simp only [Bool.and_eq_true, decide_eq_true_eq] at this
    exact this.2
theorem chk_wf {l : List EH} {n : Int} (h : (chkE l n).2 = 0) : Wf l n.toNat ∧ l.length ≤ 65536 ∧ 1 ≤ n ∧ n ≤ 16 := by
  obtain ⟨h1, h2⟩ := chk_ok.1 h
  exact ⟨h2.wf, h2.2.2.1, by have := h2.1; omega, by have := h2.2.1; omega⟩
end Go.Proofs.YtofjnldidkiihaaDoor
namespace Go.Proofs.YtofjnldidkiihaaDoor
open Go
set_option maxRecDepth 10000
set_option maxHeartbeats 4000000
/-- The blocks of a trace that is read: the struct, begin, end, next, last. -/
structure TrB where
  bs : Nat
  b1 : Nat
  b2 : Nat
  b3 : Nat
  b4 : Nat
def begG (l : List EH) (i : Nat) : Int := if knd l i = 4 then bgL l (thr l i) i else -1
def nxG (l : List EH) (i : Nat) : Int := nxE l (thr l i) i
def lsG (l : List EH) (i : Nat) : Int := lsE l (thr l i) i
end Go.Proofs.YtofjnldidkiihaaDoor
namespace Go.Proofs.YtofjnldidkiihaaDoor
open Go
set_option maxRecDepth 10000
set_option maxHeartbeats 4000000
/-- A trace that is read, where it lies. -/
structure TrM (W0 : World) (own : Own) (l : List EH) (a : Option Addr) (cap : Nat) (s : TrB) : Prop where
  c0 : Cl W0 own s.bs 0 (.slice a l.length cap)
  c1 : Cl W0 own s.bs 1 (.slice (some ⟨s.b1, 0, none⟩) l.length l.length)
  c2 : Cl W0 own s.bs 2 (.slice (some ⟨s.b2, 0, none⟩) l.length l.length)
  c3 : Cl W0 own s.bs 3 (.slice (some ⟨s.b3, 0, none⟩) l.length l.length)
  c4 : Cl W0 own s.bs 4 (.slice (some ⟨s.b4, 0, none⟩) l.length l.length)
  r1 : RdE encI 1 W0 own (some ⟨s.b1, 0, none⟩) (rowG l.length (begG l))
  r2 : RdE encI 1 W0 own (some ⟨s.b2, 0, none⟩) (rowG l.length (edF l l.length))
  r3 : RdE encI 1 W0 own (some ⟨s.b3, 0, none⟩) (rowG l.length (nxG l))
  r4 : RdE encI 1 W0 own (some ⟨s.b4, 0, none⟩) (rowG l.length (lsG l))
theorem TrM.up {W0 : World} {own own' : Own} {l : List EH} {a : Option Addr} {cap : Nat} {s : TrB} (h : TrM W0 own' l a cap s) [m : EntC own own'] : TrM W0 own l a cap s :=
  ⟨h.c0.ent (m.h W0), h.c1.ent (m.h W0), h.c2.ent (m.h W0), h.c3.ent (m.h W0), h.c4.ent (m.h W0), h.r1.up, h.r2.up, h.r3.up, h.r4.up⟩
section
variable {W0 : World} {own : Own} {a : Option Addr} {cap : Nat} {l : List EH} {s : TrB}
theorem sp_index {a : Option Addr} {l : List Int} {cap : Nat} (hR : RdE encI 1 W0 own a l) (hl : l.length ≤ 9223372036854775807) (v : Int) :
    Pure Tryd.prog W0 78 [.slice a l.length cap, .int .i64 v] own (.int .i64 (ifx (fun x => x == v) l)) := by
  refine pure_of (spec_of mixed low_slices_Index_int (by simp [ir_slices_Index_int]) ?_)
  repeat' ((try (conv => whnf)); first | (refine when_ye ?_ ?_; exact rfl) | (refine when_ne ?_ ?_; exact rfl) | (refine br_te ?_ ?_; exact rfl) | (refine br_fe ?_ ?_; exact rfl) | (apply br_pyE; (exact rfl); omega) | (apply br_pnE; (exact rfl); omega) | (apply when_pyE; (exact rfl); omega) | (apply when_pnE; (exact rfl); omega) | (apply br_npyE; (exact rfl); omega) | (apply br_npnE; (exact rfl); omega) | (apply when_npyE; (exact rfl); omega) | (apply when_npnE; (exact rfl); omega) | (refine ari ?_ ?_; omega) | (refine aru ?_ ?_; omega) | (apply sel; exact rfl) | (refine ix0 rfl ?_) | (refine ix1 rfl ?_) | (refine ix2 rfl ?_) | (refine ix3 rfl ?_) | (apply ixj; omega) | (refine ixn ?_ ?_; omega) | (refine ixs0 rfl ?_) | (refine ixs1 rfl ?_) | (refine ixs_j ?_ ?_; omega) | (refine ixs_n ?_ ?_; omega) | (apply ld_o; exact rfl) | (apply ldN_a; exact rfl) | (apply ldN_o; (exact rfl); exact rfl) | (apply st_o; (exact rfl); exact rfl) | (apply stN_o; (exact rfl); (exact rfl); exact rfl) | (refine new_i (fun bk hbk => ?_)) | (apply when_dE; (exact rfl); (exact rfl); all_goals intro hc) | (apply when_dF; (exact rfl); (exact rfl); all_goals intro hc) | (apply when_nE; (exact rfl); (exact rfl); all_goals intro hc) | (apply when_nF; (exact rfl); (exact rfl); all_goals intro hc) | (apply br_dE; (exact rfl); all_goals intro hc) | (apply br_nE; (exact rfl); all_goals intro hc) | (refine mm_min ?_) | (refine mm_max ?_) | (refine rem_i ?_ ?_; omega) | (refine SelN.mk ?_) | (refine cut_n ?_) | (refine Both.mk ?_ ?_) | (exact True.intro))
  refine loop_c (σ := Nat) (fun i => [(8, .int .i64 i)]) (fun i => i ≤ l.length ∧ ∀ j x, j < i → l[j]? = some x → (x == v) = false) (fun i => l.length - i) 0 ⟨by omega, fun j x h => by omega⟩ (by repeat' (first | exact True.intro | refine And.intro ?_ ?_ | exact rfl | exact vi (by omega) | (dsimp only; exact rfl) | (dsimp only; exact vi (by omega)))) rfl ?_
  rintro i junk ⟨hi, hI⟩
  by_cases hlt : i < l.length
  · obtain ⟨x, hx⟩ : ∃ x, l[i]? = some x := ⟨_, List.getElem?_eq_getElem hlt⟩
    have hlt' : (i : Int) < l.length := by omega
    by_cases hxv : v = x
    · repeat' ((try (conv => whnf)); first | (refine when_ye ?_ ?_; exact rfl) | (refine when_ne ?_ ?_; exact rfl) | (refine br_te ?_ ?_; exact rfl) | (refine br_fe ?_ ?_; exact rfl) | (apply br_pyE; (exact rfl); omega) | (apply br_pnE; (exact rfl); omega) | (apply when_pyE; (exact rfl); omega) | (apply when_pnE; (exact rfl); omega) | (apply br_npyE; (exact rfl); omega) | (apply br_npnE; (exact rfl); omega) | (apply when_npyE; (exact rfl); omega) | (apply when_npnE; (exact rfl); omega) | (refine br_pyE ?_ hlt' ?_; exact rfl) | (refine br_pnE ?_ hlt' ?_; exact rfl) | (refine when_pyE ?_ hlt' ?_; exact rfl) | (refine when_pnE ?_ hlt' ?_; exact rfl) | (refine br_npyE ?_ hlt' ?_; exact rfl) | (refine br_npnE ?_ hlt' ?_; exact rfl) | (refine when_npyE ?_ hlt' ?_; exact rfl) | (refine when_npnE ?_ hlt' ?_; exact rfl) | (refine br_pyE ?_ hxv ?_; exact rfl) | (refine br_pnE ?_ hxv ?_; exact rfl) | (refine when_pyE ?_ hxv ?_; exact rfl) | (refine when_pnE ?_ hxv ?_; exact rfl) | (refine br_npyE ?_ hxv ?_; exact rfl) | (refine br_npnE ?_ hxv ?_; exact rfl) | (refine when_npyE ?_ hxv ?_; exact rfl) | (refine when_npnE ?_ hxv ?_; exact rfl) | ((with_reducible show Ld _ _ _ _); first | (refine ldE0 hR hx rfl ?_) | (refine ldEk hR hx rfl ?_) | (refine ldE1 hR hx rfl ?_)) | ((with_reducible show IxS _ _ _ _ _); first | ((refine ixE hR hx ?_ ?_; (first | rfl | omega)))) | ((with_reducible show LdN _ _ _ _ _); first | (refine ldNEi hR hx rfl ?_)) | (refine ari ?_ ?_; omega) | (refine aru ?_ ?_; omega) | (apply sel; exact rfl) | (refine ix0 rfl ?_) | (refine ix1 rfl ?_) | (refine ix2 rfl ?_) | (refine ix3 rfl ?_) | (apply ixj; omega) | (refine ixn ?_ ?_; omega) | (refine ixs0 rfl ?_) | (refine ixs1 rfl ?_) | (refine ixs_j ?_ ?_; omega) | (refine ixs_n ?_ ?_; omega) | (apply ld_o; exact rfl) | (apply ldN_a; exact rfl) | (apply ldN_o; (exact rfl); exact rfl) | (apply st_o; (exact rfl); exact rfl) | (apply stN_o; (exact rfl); (exact rfl); exact rfl) | (refine new_i (fun bk hbk => ?_)) | (apply when_dE; (exact rfl); (exact rfl); all_goals intro hc) | (apply when_dF; (exact rfl); (exact rfl); all_goals intro hc) | (apply when_nE; (exact rfl); (exact rfl); all_goals intro hc) | (apply when_nF; (exact rfl); (exact rfl); all_goals intro hc) | (apply br_dE; (exact rfl); all_goals intro hc) | (apply br_nE; (exact rfl); all_goals intro hc) | (refine mm_min ?_) | (refine mm_max ?_) | (refine rem_i ?_ ?_; omega) | (refine SelN.mk ?_) | (refine cut_n ?_) | (refine Both.mk ?_ ?_) | (exact True.intro))
      refine ⟨ret1 (vi ?_), (by first | exact ent_i | (repeat (first | exact Ent.refl | exact Ent.left | refine Ent.cons ?_ | refine Ent.app ?_)))⟩
      have : l.findIdx? (fun x => x == v) = some i := by
        rw [List.findIdx?_eq_some_iff_getElem]
        have hx2 := (List.getElem?_eq_some_iff.1 hx).2
        refine ⟨hlt, by rw [hx2, hxv]; simp, fun j hj => ?_⟩
        have := hI j (l[j]'(by omega)) hj (List.getElem?_eq_getElem (by omega))
        simpa using this
      unfold ifx; rw [this]
    · repeat' ((try (conv => whnf)); first | (refine when_ye ?_ ?_; exact rfl) | (refine when_ne ?_ ?_; exact rfl) | (refine br_te ?_ ?_; exact rfl) | (refine br_fe ?_ ?_; exact rfl) | (apply br_pyE; (exact rfl); omega) | (apply br_pnE; (exact rfl); omega) | (apply when_pyE; (exact rfl); omega) | (apply when_pnE; (exact rfl); omega) | (apply br_npyE; (exact rfl); omega) | (apply br_npnE; (exact rfl); omega) | (apply when_npyE; (exact rfl); omega) | (apply when_npnE; (exact rfl); omega) | (refine br_pyE ?_ hlt' ?_; exact rfl) | (refine br_pnE ?_ hlt' ?_; exact rfl) | (refine when_pyE ?_ hlt' ?_; exact rfl) | (refine when_pnE ?_ hlt' ?_; exact rfl) | (refine br_npyE ?_ hlt' ?_; exact rfl) | (refine br_npnE ?_ hlt' ?_; exact rfl) | (refine when_npyE ?_ hlt' ?_; exact rfl) | (refine when_npnE ?_ hlt' ?_; exact rfl) | (refine br_pyE ?_ hxv ?_; exact rfl) | (refine br_pnE ?_ hxv ?_; exact rfl) | (refine when_pyE ?_ hxv ?_; exact rfl) | (refine when_pnE ?_ hxv ?_; exact rfl) | (refine br_npyE ?_ hxv ?_; exact rfl) | (refine br_npnE ?_ hxv ?_; exact rfl) | (refine when_npyE ?_ hxv ?_; exact rfl) | (refine when_npnE ?_ hxv ?_; exact rfl) | ((with_reducible show Ld _ _ _ _); first | (refine ldE0 hR hx rfl ?_) | (refine ldEk hR hx rfl ?_) | (refine ldE1 hR hx rfl ?_)) | ((with_reducible show IxS _ _ _ _ _); first | ((refine ixE hR hx ?_ ?_; (first | rfl | omega)))) | ((with_reducible show LdN _ _ _ _ _); first | (refine ldNEi hR hx rfl ?_)) | (refine ari ?_ ?_; omega) | (refine aru ?_ ?_; omega) | (apply sel; exact rfl) | (refine ix0 rfl ?_) | (refine ix1 rfl ?_) | (refine ix2 rfl ?_) | (refine ix3 rfl ?_) | (apply ixj; omega) | (refine ixn ?_ ?_; omega) | (refine ixs0 rfl ?_) | (refine ixs1 rfl ?_) | (refine ixs_j ?_ ?_; omega) | (refine ixs_n ?_ ?_; omega) | (apply ld_o; exact rfl) | (apply ldN_a; exact rfl) | (apply ldN_o; (exact rfl); exact rfl) | (apply st_o; (exact rfl); exact rfl) | (apply stN_o; (exact rfl); (exact rfl); exact rfl) | (refine new_i (fun bk hbk => ?_)) | (apply when_dE; (exact rfl); (exact rfl); all_goals intro hc) | (apply when_dF; (exact rfl); (exact rfl); all_goals intro hc) | (apply when_nE; (exact rfl); (exact rfl); all_goals intro hc) | (apply when_nF; (exact rfl); (exact rfl); all_goals intro hc) | (apply br_dE; (exact rfl); all_goals intro hc) | (apply br_nE; (exact rfl); all_goals intro hc) | (refine mm_min ?_) | (refine mm_max ?_) | (refine rem_i ?_ ?_; omega) | (refine SelN.mk ?_) | (refine cut_n ?_) | (refine Both.mk ?_ ?_) | (exact True.intro))
      refine ⟨i + 1, ⟨by omega, fun j y hj hy => ?_⟩, by omega, (by repeat' (first | exact True.intro | refine And.intro ?_ ?_ | exact rfl | exact vi (by omega) | (dsimp only; exact rfl) | (dsimp only; exact vi (by omega)))), (by first | exact ent_i | (repeat (first | exact Ent.refl | exact Ent.left | refine Ent.cons ?_ | refine Ent.app ?_)))⟩
      by_cases hji : j = i
      · subst hji
        rw [hx] at hy
        obtain rfl := Option.some.inj hy
        simpa using Ne.symm hxv
      · exact hI j y (by omega) hy
  · have hlt' : ¬ (i : Int) < l.length := by omega
    repeat' ((try (conv => whnf)); first | (refine when_ye ?_ ?_; exact rfl) | (refine when_ne ?_ ?_; exact rfl) | (refine br_te ?_ ?_; exact rfl) | (refine br_fe ?_ ?_; exact rfl) | (apply br_pyE; (exact rfl); omega) | (apply br_pnE; (exact rfl); omega) | (apply when_pyE; (exact rfl); omega) | (apply when_pnE; (exact rfl); omega) | (apply br_npyE; (exact rfl); omega) | (apply br_npnE; (exact rfl); omega) | (apply when_npyE; (exact rfl); omega) | (apply when_npnE; (exact rfl); omega) | (refine br_pyE ?_ hlt' ?_; exact rfl) | (refine br_pnE ?_ hlt' ?_; exact rfl) | (refine when_pyE ?_ hlt' ?_; exact rfl) | (refine when_pnE ?_ hlt' ?_; exact rfl) | (refine br_npyE ?_ hlt' ?_; exact rfl) | (refine br_npnE ?_ hlt' ?_; exact rfl) | (refine when_npyE ?_ hlt' ?_; exact rfl) | (refine when_npnE ?_ hlt' ?_; exact rfl) | (refine ari ?_ ?_; omega) | (refine aru ?_ ?_; omega) | (apply sel; exact rfl) | (refine ix0 rfl ?_) | (refine ix1 rfl ?_) | (refine ix2 rfl ?_) | (refine ix3 rfl ?_) | (apply ixj; omega) | (refine ixn ?_ ?_; omega) | (refine ixs0 rfl ?_) | (refine ixs1 rfl ?_) | (refine ixs_j ?_ ?_; omega) | (refine ixs_n ?_ ?_; omega) | (apply ld_o; exact rfl) | (apply ldN_a; exact rfl) | (apply ldN_o; (exact rfl); exact rfl) | (apply st_o; (exact rfl); exact rfl) | (apply stN_o; (exact rfl); (exact rfl); exact rfl) | (refine new_i (fun bk hbk => ?_)) | (apply when_dE; (exact rfl); (exact rfl); all_goals intro hc) | (apply when_dF; (exact rfl); (exact rfl); all_goals intro hc) | (apply when_nE; (exact rfl); (exact rfl); all_goals intro hc) | (apply when_nF; (exact rfl); (exact rfl); all_goals intro hc) | (apply br_dE; (exact rfl); all_goals intro hc) | (apply br_nE; (exact rfl); all_goals intro hc) | (refine mm_min ?_) | (refine mm_max ?_) | (refine rem_i ?_ ?_; omega) | (refine SelN.mk ?_) | (refine cut_n ?_) | (refine Both.mk ?_ ?_) | (exact True.intro))
    refine ⟨ret1 (vi ?_), (by first | exact ent_i | (repeat (first | exact Ent.refl | exact Ent.left | refine Ent.cons ?_ | refine Ent.app ?_)))⟩
    have : l.findIdx? (fun x => x == v) = none := by
      rw [List.findIdx?_eq_none_iff]
      intro x hx
      obtain ⟨j, hj⟩ := List.getElem?_of_mem hx
      have := (List.getElem?_eq_some_iff.1 hj).1
      exact hI j x (by omega) hj
    unfold ifx; rw [this]
theorem any_contains (l : List Int) (v : Int) : l.any (fun x => x == v) = l.contains v := by
  rw [Bool.eq_iff_iff, List.any_eq_true, List.contains_iff_mem]
  constructor
  · rintro ⟨x, hx, h⟩; rw [← eq_of_beq h]; exact hx
  · intro h; exact ⟨v, h, by simp⟩
theorem sp_contains {a : Option Addr} {l : List Int} {cap : Nat} (hR : RdE encI 1 W0 own a l) (hl : l.length ≤ 9223372036854775807) (v : Int) :
    Pure Tryd.prog W0 66 [.slice a l.length cap, .int .i64 v] own (.bool (l.contains v)) := by
  refine pure_of (spec_of mixed low_slices_Contains_int (by simp [ir_slices_Contains_int]) ?_)
  have h := sp_index (cap := cap) hR hl v
  repeat' ((try (conv => whnf)); first | (refine when_ye ?_ ?_; exact rfl) | (refine when_ne ?_ ?_; exact rfl) | (refine br_te ?_ ?_; exact rfl) | (refine br_fe ?_ ?_; exact rfl) | (apply br_pyE; (exact rfl); omega) | (apply br_pnE; (exact rfl); omega) | (apply when_pyE; (exact rfl); omega) | (apply when_pnE; (exact rfl); omega) | (apply br_npyE; (exact rfl); omega) | (apply br_npnE; (exact rfl); omega) | (apply when_npyE; (exact rfl); omega) | (apply when_npnE; (exact rfl); omega) | ((with_reducible show CallT _ _ _ _ _ _); first | ((refine call_pe (h) ?_ ?_ ?_; (exact rfl); exact rfl))) | (refine ari ?_ ?_; omega) | (refine aru ?_ ?_; omega) | (apply sel; exact rfl) | (refine ix0 rfl ?_) | (refine ix1 rfl ?_) | (refine ix2 rfl ?_) | (refine ix3 rfl ?_) | (apply ixj; omega) | (refine ixn ?_ ?_; omega) | (refine ixs0 rfl ?_) | (refine ixs1 rfl ?_) | (refine ixs_j ?_ ?_; omega) | (refine ixs_n ?_ ?_; omega) | (apply ld_o; exact rfl) | (apply ldN_a; exact rfl) | (apply ldN_o; (exact rfl); exact rfl) | (apply st_o; (exact rfl); exact rfl) | (apply stN_o; (exact rfl); (exact rfl); exact rfl) | (refine new_i (fun bk hbk => ?_)) | (apply when_dE; (exact rfl); (exact rfl); all_goals intro hc) | (apply when_dF; (exact rfl); (exact rfl); all_goals intro hc) | (apply when_nE; (exact rfl); (exact rfl); all_goals intro hc) | (apply when_nF; (exact rfl); (exact rfl); all_goals intro hc) | (apply br_dE; (exact rfl); all_goals intro hc) | (apply br_nE; (exact rfl); all_goals intro hc) | (refine mm_min ?_) | (refine mm_max ?_) | (refine rem_i ?_ ?_; omega) | (refine SelN.mk ?_) | (refine cut_n ?_) | (refine Both.mk ?_ ?_) | (exact True.intro))
  exact ⟨ret1 (vb ((ifx_any _ l).trans (any_contains l v))), (by first | exact ent_i | (repeat (first | exact Ent.refl | exact Ent.left | refine Ent.cons ?_ | refine Ent.app ?_)))⟩
end
end Go.Proofs.YtofjnldidkiihaaDoor
namespace Go.Proofs.YtofjnldidkiihaaDoor
open Go
set_option maxRecDepth 100000
/-- strongtx/strongtxkit.Place -/
def ir_kit_Place : IFn := ⟨11,
 (.seq (.region [
 ⟨some 4, .mov (.const (.int .i64 0)), none⟩])
 (.seq (.region [
 ⟨some 5, .mov (.tmp 0), none⟩,
 ⟨some 6, .conv .u64 (.tmp 5), none⟩,
 ⟨some 7, .mov (.tmp 1), none⟩,
 ⟨some 8, .conv .u64 (.tmp 7), none⟩,
 ⟨some 9, .bin .rem (.tmp 6) (.tmp 8), none⟩,
 ⟨some 10, .conv .i64 (.tmp 9), none⟩,
 ⟨some 4, .mov (.tmp 10), none⟩])
 .ret)),
 [.tmp 4]⟩
theorem low_kit_Place : lowFn Tryd.prog movers 17 = some ⟨ir_kit_Place.n, strip ir_kit_Place.body, ir_kit_Place.res⟩ := by kernel_rfl
/-- strongtx/strongtxkit.TwinEvents -/
def ir_kit_TwinEvents : IFn := ⟨29,
 (.seq (.region [
 ⟨some 2, .mov (.const (.slice none 0 0)), none⟩])
 (.seq (.region [
 ⟨some 3, .mov (.const (.slice none 0 0)), none⟩])
 (.seq (.seq (.region [
 ⟨some 4, .mov (.const (.int .i64 0)), none⟩])
 (.block 0
  (.loop 268435448
   (.seq (.seq (.region [
   ⟨some 6, .mov (.tmp 4), none⟩,
   ⟨some 7, .mov (.tmp 0), none⟩,
   ⟨some 8, .len (.tmp 7), none⟩,
   ⟨some 9, .bin .lss (.tmp 6) (.tmp 8), none⟩])
   (.cond (.tmp 9)
    .skip
    (.exit 0)))
   (.seq (.block 1
    (.seq (.region [
    ⟨some 12, .mov (.tmp 0), none⟩,
    ⟨some 13, .mov (.tmp 4), none⟩,
    ⟨some 14, .ixs 6 (.tmp 12) (.tmp 13), none⟩,
    ⟨some 15, .ldN 6 (.tmp 14), none⟩,
    ⟨some 5, .new 42 (.agg #[.int .i64 0, .int .i64 0, .int .i64 0, .int .i64 0, .slice none 0 0, .slice none 0 0]), none⟩,
    ⟨none, .stN 6 (.tmp 5) (.tmp 15), none⟩])
    (.seq (.draw (.f ⟨some 16, .fad 4 (.tmp 5), none⟩
    (.f ⟨some 17, .ld (.tmp 16), none⟩
    (.f ⟨some 19, .fad 5 (.tmp 5), none⟩
    (.both (.m ⟨some 18, .call 42 [(.tmp 17)], none⟩
     (.f ⟨some 20, .ld (.tmp 19), none⟩
     (.f ⟨some 22, .fad 4 (.tmp 5), none⟩
     (.m ⟨some 21, .call 42 [(.tmp 20)], none⟩
     (.m ⟨none, .st (.tmp 22) (.tmp 18), none⟩
     (.f ⟨some 23, .fad 5 (.tmp 5), none⟩
     (.m ⟨none, .st (.tmp 23) (.tmp 21), none⟩
     .done)))))))
    (.f ⟨some 20, .ld (.tmp 19), none⟩
     (.m ⟨some 18, .call 42 [(.tmp 17)], none⟩
     (.f ⟨some 22, .fad 4 (.tmp 5), none⟩
     (.m ⟨some 21, .call 42 [(.tmp 20)], none⟩
     (.m ⟨none, .st (.tmp 22) (.tmp 18), none⟩
     (.f ⟨some 23, .fad 5 (.tmp 5), none⟩
     (.m ⟨none, .st (.tmp 23) (.tmp 21), none⟩
     .done))))))))))))
    (.region [
    ⟨some 24, .mov (.tmp 3), none⟩,
    ⟨some 25, .ldN 6 (.tmp 5), none⟩,
    ⟨some 26, .blds 42 1 [(.int .i64 0), (.int .i64 0), (.int .i64 0), (.int .i64 0), (.slice none 0 0), (.slice none 0 0)] [(0, 6, (.tmp 25))], none⟩,
    ⟨some 27, .app 42 6 80 [(.int .i64 0), (.int .i64 0), (.int .i64 0), (.int .i64 0), (.slice none 0 0), (.slice none 0 0)] (.tmp 24) (.tmp 26), none⟩,
    ⟨some 3, .mov (.tmp 27), none⟩]))))
   (.region [
   ⟨some 10, .mov (.tmp 4), none⟩,
   ⟨some 11, .bin .add (.tmp 10) (.const (.int .i64 1)), none⟩,
   ⟨some 4, .mov (.tmp 11), none⟩]))))))
 (.seq (.region [
 ⟨some 28, .mov (.tmp 3), none⟩,
 ⟨some 2, .mov (.tmp 28), none⟩])
 .ret)))),
 [.tmp 2]⟩
theorem low_kit_TwinEvents : lowFn Tryd.prog movers 25 = some ⟨ir_kit_TwinEvents.n, strip ir_kit_TwinEvents.body, ir_kit_TwinEvents.res⟩ := by kernel_rfl
/-- strongtx/strongtxkit.Ints -/
def ir_kit_Ints : IFn := ⟨26,
 (.seq (.region [
 ⟨some 4, .mov (.const (.bool false)), none⟩])
 (.seq (.seq (.region [
 ⟨some 6, .mov (.tmp 0), none⟩,
 ⟨some 7, .len (.tmp 6), none⟩,
 ⟨some 8, .mov (.tmp 1), none⟩,
 ⟨some 9, .len (.tmp 8), none⟩,
 ⟨some 10, .bin .neq (.tmp 7) (.tmp 9), none⟩])
 (.cond (.tmp 10)
  (.seq (.region [
  ⟨some 4, .mov (.const (.bool false)), none⟩])
  .ret)
  .skip))
 (.seq (.seq (.region [
 ⟨some 5, .mov (.const (.int .i64 0)), none⟩])
 (.block 0
  (.loop 67106864
   (.seq (.seq (.region [
   ⟨some 11, .mov (.tmp 5), none⟩,
   ⟨some 12, .mov (.tmp 0), none⟩,
   ⟨some 13, .len (.tmp 12), none⟩,
   ⟨some 14, .bin .lss (.tmp 11) (.tmp 13), none⟩])
   (.cond (.tmp 14)
    .skip
    (.exit 0)))
   (.seq (.block 1
    (.seq (.draw (.f ⟨some 17, .mov (.tmp 0), none⟩
    (.f ⟨some 18, .mov (.tmp 5), none⟩
    (.f ⟨some 19, .ixs 1 (.tmp 17) (.tmp 18), none⟩
    (.f ⟨some 20, .ld (.tmp 19), none⟩
    (.f ⟨some 21, .mov (.tmp 1), none⟩
    (.f ⟨some 22, .mov (.tmp 5), none⟩
    (.f ⟨some 23, .ixs 1 (.tmp 21) (.tmp 22), none⟩
    (.f ⟨some 24, .ld (.tmp 23), none⟩
    (.f ⟨some 25, .bin .neq (.tmp 20) (.tmp 24), none⟩
    .done))))))))))
    (.cond (.tmp 25)
     (.seq (.region [
     ⟨some 4, .mov (.const (.bool false)), none⟩])
     .ret)
     .skip)))
   (.region [
   ⟨some 15, .mov (.tmp 5), none⟩,
   ⟨some 16, .bin .add (.tmp 15) (.const (.int .i64 1)), none⟩,
   ⟨some 5, .mov (.tmp 16), none⟩]))))))
 (.seq (.region [
 ⟨some 4, .mov (.const (.bool true)), none⟩])
 .ret)))),
 [.tmp 4]⟩
theorem low_kit_Ints : lowFn Tryd.prog movers 30 = some ⟨ir_kit_Ints.n, strip ir_kit_Ints.body, ir_kit_Ints.res⟩ := by kernel_rfl
/-- strongtx/strongtxkit.TwinInts -/
def ir_kit_TwinInts : IFn := ⟨19,
 (.seq (.region [
 ⟨some 2, .mov (.const (.slice none 0 0)), none⟩])
 (.seq (.region [
 ⟨some 3, .mov (.const (.slice none 0 0)), none⟩])
 (.seq (.seq (.region [
 ⟨some 4, .mov (.const (.int .i64 0)), none⟩])
 (.block 0
  (.loop 262136
   (.seq (.seq (.region [
   ⟨some 5, .mov (.tmp 4), none⟩,
   ⟨some 6, .mov (.tmp 0), none⟩,
   ⟨some 7, .len (.tmp 6), none⟩,
   ⟨some 8, .bin .lss (.tmp 5) (.tmp 7), none⟩])
   (.cond (.tmp 8)
    .skip
    (.exit 0)))
   (.seq (.block 1
    (.region [
    ⟨some 11, .mov (.tmp 3), none⟩,
    ⟨some 12, .mov (.tmp 0), none⟩,
    ⟨some 13, .mov (.tmp 4), none⟩,
    ⟨some 14, .ixs 1 (.tmp 12) (.tmp 13), none⟩,
    ⟨some 15, .ld (.tmp 14), none⟩,
    ⟨some 16, .blds 3 1 [(.int .i64 0)] [(0, 1, (.tmp 15))], none⟩,
    ⟨some 17, .app 3 1 8 [(.int .i64 0)] (.tmp 11) (.tmp 16), none⟩,
    ⟨some 3, .mov (.tmp 17), none⟩]))
   (.region [
   ⟨some 9, .mov (.tmp 4), none⟩,
   ⟨some 10, .bin .add (.tmp 9) (.const (.int .i64 1)), none⟩,
   ⟨some 4, .mov (.tmp 10), none⟩]))))))
 (.seq (.region [
 ⟨some 18, .mov (.tmp 3), none⟩,
 ⟨some 2, .mov (.tmp 18), none⟩])
 .ret)))),
 [.tmp 2]⟩
theorem low_kit_TwinInts : lowFn Tryd.prog movers 42 = some ⟨ir_kit_TwinInts.n, strip ir_kit_TwinInts.body, ir_kit_TwinInts.res⟩ := by kernel_rfl
/-- strongtx/strongtxkit.In -/
def ir_kit_In : IFn := ⟨18,
 (.seq (.region [
 ⟨some 4, .mov (.const (.bool false)), none⟩])
 (.seq (.seq (.region [
 ⟨some 5, .mov (.const (.int .i64 0)), none⟩])
 (.block 0
  (.loop 262128
   (.seq (.seq (.region [
   ⟨some 6, .mov (.tmp 5), none⟩,
   ⟨some 7, .mov (.tmp 0), none⟩,
   ⟨some 8, .len (.tmp 7), none⟩,
   ⟨some 9, .bin .lss (.tmp 6) (.tmp 8), none⟩])
   (.cond (.tmp 9)
    .skip
    (.exit 0)))
   (.seq (.block 1
    (.seq (.region [
    ⟨some 12, .mov (.tmp 0), none⟩,
    ⟨some 13, .mov (.tmp 5), none⟩,
    ⟨some 14, .ixs 1 (.tmp 12) (.tmp 13), none⟩,
    ⟨some 15, .ld (.tmp 14), none⟩,
    ⟨some 16, .mov (.tmp 1), none⟩,
    ⟨some 17, .bin .eql (.tmp 15) (.tmp 16), none⟩])
    (.cond (.tmp 17)
     (.seq (.region [
     ⟨some 4, .mov (.const (.bool true)), none⟩])
     .ret)
     .skip)))
   (.region [
   ⟨some 10, .mov (.tmp 5), none⟩,
   ⟨some 11, .bin .add (.tmp 10) (.const (.int .i64 1)), none⟩,
   ⟨some 5, .mov (.tmp 11), none⟩]))))))
 (.seq (.region [
 ⟨some 4, .mov (.const (.bool false)), none⟩])
 .ret))),
 [.tmp 4]⟩
theorem low_kit_In : lowFn Tryd.prog movers 57 = some ⟨ir_kit_In.n, strip ir_kit_In.body, ir_kit_In.res⟩ := by kernel_rfl
end Go.Proofs.YtofjnldidkiihaaDoor
namespace Go.Proofs.YtofjnldidkiihaaDoor
open Go
set_option maxRecDepth 10000
set_option maxHeartbeats 4000000
section
variable {W0 : World} {own : Own} {a : Option Addr} {cap : Nat}
theorem sp_in {l : List Int} (hR : RdE encI 1 W0 own a l) (hl : l.length ≤ 9223372036854775807) (v : Int) : Pure Tryd.prog W0 57 [.slice a l.length cap, .int .i64 v] own (.bool (l.contains v)) := by
  refine pure_of (spec_of mixed low_kit_In (by simp [ir_kit_In]) ?_)
  repeat' ((try (conv => whnf)); first | (refine when_ye ?_ ?_; exact rfl) | (refine when_ne ?_ ?_; exact rfl) | (refine br_te ?_ ?_; exact rfl) | (refine br_fe ?_ ?_; exact rfl) | (apply br_pyE; (exact rfl); omega) | (apply br_pnE; (exact rfl); omega) | (apply when_pyE; (exact rfl); omega) | (apply when_pnE; (exact rfl); omega) | (apply br_npyE; (exact rfl); omega) | (apply br_npnE; (exact rfl); omega) | (apply when_npyE; (exact rfl); omega) | (apply when_npnE; (exact rfl); omega) | (refine ari ?_ ?_; omega) | (refine aru ?_ ?_; omega) | (apply sel; exact rfl) | (refine ix0 rfl ?_) | (refine ix1 rfl ?_) | (refine ix2 rfl ?_) | (refine ix3 rfl ?_) | (apply ixj; omega) | (refine ixn ?_ ?_; omega) | (refine ixs0 rfl ?_) | (refine ixs1 rfl ?_) | (refine ixs_j ?_ ?_; omega) | (refine ixs_n ?_ ?_; omega) | (apply ld_o; exact rfl) | (apply ldN_a; exact rfl) | (apply ldN_o; (exact rfl); exact rfl) | (apply st_o; (exact rfl); exact rfl) | (apply stN_o; (exact rfl); (exact rfl); exact rfl) | (refine new_i (fun bk hbk => ?_)) | (apply when_dE; (exact rfl); (exact rfl); all_goals intro hc) | (apply when_dF; (exact rfl); (exact rfl); all_goals intro hc) | (apply when_nE; (exact rfl); (exact rfl); all_goals intro hc) | (apply when_nF; (exact rfl); (exact rfl); all_goals intro hc) | (apply br_dE; (exact rfl); all_goals intro hc) | (apply br_nE; (exact rfl); all_goals intro hc) | (refine mm_min ?_) | (refine mm_max ?_) | (refine rem_i ?_ ?_; omega) | (refine SelN.mk ?_) | (refine cut_n ?_) | (refine Both.mk ?_ ?_) | (exact True.intro))
  refine loop_c (σ := Nat) (fun i => [(5, .int .i64 i)]) (fun i => i ≤ l.length ∧ v ∉ l.take i) (fun i => l.length - i) 0 ⟨by omega, by simp⟩ (by repeat' (first | exact True.intro | refine And.intro ?_ ?_ | exact rfl | exact vi (by omega) | (dsimp only; exact rfl) | (dsimp only; exact vi (by omega)))) rfl ?_
  rintro i junk ⟨hi, hI⟩
  by_cases hlt : i < l.length
  · obtain ⟨x, hx⟩ : ∃ x, l[i]? = some x := ⟨_, List.getElem?_eq_getElem hlt⟩
    have hlt' : (i : Int) < l.length := by omega
    by_cases hxv : x = v
    · have hc : l.contains v = true := by rw [List.contains_iff_mem]; subst hxv; exact List.mem_of_getElem? hx
      repeat' ((try (conv => whnf)); first | (refine when_ye ?_ ?_; exact rfl) | (refine when_ne ?_ ?_; exact rfl) | (refine br_te ?_ ?_; exact rfl) | (refine br_fe ?_ ?_; exact rfl) | (apply br_pyE; (exact rfl); omega) | (apply br_pnE; (exact rfl); omega) | (apply when_pyE; (exact rfl); omega) | (apply when_pnE; (exact rfl); omega) | (apply br_npyE; (exact rfl); omega) | (apply br_npnE; (exact rfl); omega) | (apply when_npyE; (exact rfl); omega) | (apply when_npnE; (exact rfl); omega) | (refine br_pyE ?_ hlt' ?_; exact rfl) | (refine br_pnE ?_ hlt' ?_; exact rfl) | (refine when_pyE ?_ hlt' ?_; exact rfl) | (refine when_pnE ?_ hlt' ?_; exact rfl) | (refine br_npyE ?_ hlt' ?_; exact rfl) | (refine br_npnE ?_ hlt' ?_; exact rfl) | (refine when_npyE ?_ hlt' ?_; exact rfl) | (refine when_npnE ?_ hlt' ?_; exact rfl) | (refine br_pyE ?_ hxv ?_; exact rfl) | (refine br_pnE ?_ hxv ?_; exact rfl) | (refine when_pyE ?_ hxv ?_; exact rfl) | (refine when_pnE ?_ hxv ?_; exact rfl) | (refine br_npyE ?_ hxv ?_; exact rfl) | (refine br_npnE ?_ hxv ?_; exact rfl) | (refine when_npyE ?_ hxv ?_; exact rfl) | (refine when_npnE ?_ hxv ?_; exact rfl) | ((with_reducible show Ld _ _ _ _); first | (refine ldE0 hR hx rfl ?_) | (refine ldEk hR hx rfl ?_) | (refine ldE1 hR hx rfl ?_)) | ((with_reducible show IxS _ _ _ _ _); first | ((refine ixE hR hx ?_ ?_; (first | rfl | omega)))) | ((with_reducible show LdN _ _ _ _ _); first | (refine ldNEi hR hx rfl ?_)) | (refine ari ?_ ?_; omega) | (refine aru ?_ ?_; omega) | (apply sel; exact rfl) | (refine ix0 rfl ?_) | (refine ix1 rfl ?_) | (refine ix2 rfl ?_) | (refine ix3 rfl ?_) | (apply ixj; omega) | (refine ixn ?_ ?_; omega) | (refine ixs0 rfl ?_) | (refine ixs1 rfl ?_) | (refine ixs_j ?_ ?_; omega) | (refine ixs_n ?_ ?_; omega) | (apply ld_o; exact rfl) | (apply ldN_a; exact rfl) | (apply ldN_o; (exact rfl); exact rfl) | (apply st_o; (exact rfl); exact rfl) | (apply stN_o; (exact rfl); (exact rfl); exact rfl) | (refine new_i (fun bk hbk => ?_)) | (apply when_dE; (exact rfl); (exact rfl); all_goals intro hc) | (apply when_dF; (exact rfl); (exact rfl); all_goals intro hc) | (apply when_nE; (exact rfl); (exact rfl); all_goals intro hc) | (apply when_nF; (exact rfl); (exact rfl); all_goals intro hc) | (apply br_dE; (exact rfl); all_goals intro hc) | (apply br_nE; (exact rfl); all_goals intro hc) | (refine mm_min ?_) | (refine mm_max ?_) | (refine rem_i ?_ ?_; omega) | (refine SelN.mk ?_) | (refine cut_n ?_) | (refine Both.mk ?_ ?_) | (exact True.intro))
      exact ⟨ret1 (vb hc.symm), (by first | exact ent_i | (repeat (first | exact Ent.refl | exact Ent.left | refine Ent.cons ?_ | refine Ent.app ?_)))⟩
    · repeat' ((try (conv => whnf)); first | (refine when_ye ?_ ?_; exact rfl) | (refine when_ne ?_ ?_; exact rfl) | (refine br_te ?_ ?_; exact rfl) | (refine br_fe ?_ ?_; exact rfl) | (apply br_pyE; (exact rfl); omega) | (apply br_pnE; (exact rfl); omega) | (apply when_pyE; (exact rfl); omega) | (apply when_pnE; (exact rfl); omega) | (apply br_npyE; (exact rfl); omega) | (apply br_npnE; (exact rfl); omega) | (apply when_npyE; (exact rfl); omega) | (apply when_npnE; (exact rfl); omega) | (refine br_pyE ?_ hlt' ?_; exact rfl) | (refine br_pnE ?_ hlt' ?_; exact rfl) | (refine when_pyE ?_ hlt' ?_; exact rfl) | (refine when_pnE ?_ hlt' ?_; exact rfl) | (refine br_npyE ?_ hlt' ?_; exact rfl) | (refine br_npnE ?_ hlt' ?_; exact rfl) | (refine when_npyE ?_ hlt' ?_; exact rfl) | (refine when_npnE ?_ hlt' ?_; exact rfl) | (refine br_pyE ?_ hxv ?_; exact rfl) | (refine br_pnE ?_ hxv ?_; exact rfl) | (refine when_pyE ?_ hxv ?_; exact rfl) | (refine when_pnE ?_ hxv ?_; exact rfl) | (refine br_npyE ?_ hxv ?_; exact rfl) | (refine br_npnE ?_ hxv ?_; exact rfl) | (refine when_npyE ?_ hxv ?_; exact rfl) | (refine when_npnE ?_ hxv ?_; exact rfl) | ((with_reducible show Ld _ _ _ _); first | (refine ldE0 hR hx rfl ?_) | (refine ldEk hR hx rfl ?_) | (refine ldE1 hR hx rfl ?_)) | ((with_reducible show IxS _ _ _ _ _); first | ((refine ixE hR hx ?_ ?_; (first | rfl | omega)))) | ((with_reducible show LdN _ _ _ _ _); first | (refine ldNEi hR hx rfl ?_)) | (refine ari ?_ ?_; omega) | (refine aru ?_ ?_; omega) | (apply sel; exact rfl) | (refine ix0 rfl ?_) | (refine ix1 rfl ?_) | (refine ix2 rfl ?_) | (refine ix3 rfl ?_) | (apply ixj; omega) | (refine ixn ?_ ?_; omega) | (refine ixs0 rfl ?_) | (refine ixs1 rfl ?_) | (refine ixs_j ?_ ?_; omega) | (refine ixs_n ?_ ?_; omega) | (apply ld_o; exact rfl) | (apply ldN_a; exact rfl) | (apply ldN_o; (exact rfl); exact rfl) | (apply st_o; (exact rfl); exact rfl) | (apply stN_o; (exact rfl); (exact rfl); exact rfl) | (refine new_i (fun bk hbk => ?_)) | (apply when_dE; (exact rfl); (exact rfl); all_goals intro hc) | (apply when_dF; (exact rfl); (exact rfl); all_goals intro hc) | (apply when_nE; (exact rfl); (exact rfl); all_goals intro hc) | (apply when_nF; (exact rfl); (exact rfl); all_goals intro hc) | (apply br_dE; (exact rfl); all_goals intro hc) | (apply br_nE; (exact rfl); all_goals intro hc) | (refine mm_min ?_) | (refine mm_max ?_) | (refine rem_i ?_ ?_; omega) | (refine SelN.mk ?_) | (refine cut_n ?_) | (refine Both.mk ?_ ?_) | (exact True.intro))
      exact ⟨i + 1, ⟨by omega, by rw [List.take_add_one, hx]; simp [hI, Ne.symm hxv]⟩, by omega, (by repeat' (first | exact True.intro | refine And.intro ?_ ?_ | exact rfl | exact vi (by omega) | (dsimp only; exact rfl) | (dsimp only; exact vi (by omega)))), (by first | exact ent_i | (repeat (first | exact Ent.refl | exact Ent.left | refine Ent.cons ?_ | refine Ent.app ?_)))⟩
  · have hlt' : ¬ (i : Int) < l.length := by omega
    have hi2 : i = l.length := by omega
    subst hi2
    rw [List.take_length] at hI
    have hc : l.contains v = false := by rw [← Bool.not_eq_true, List.contains_iff_mem]; exact hI
    repeat' ((try (conv => whnf)); first | (refine when_ye ?_ ?_; exact rfl) | (refine when_ne ?_ ?_; exact rfl) | (refine br_te ?_ ?_; exact rfl) | (refine br_fe ?_ ?_; exact rfl) | (apply br_pyE; (exact rfl); omega) | (apply br_pnE; (exact rfl); omega) | (apply when_pyE; (exact rfl); omega) | (apply when_pnE; (exact rfl); omega) | (apply br_npyE; (exact rfl); omega) | (apply br_npnE; (exact rfl); omega) | (apply when_npyE; (exact rfl); omega) | (apply when_npnE; (exact rfl); omega) | (refine br_pyE ?_ hlt' ?_; exact rfl) | (refine br_pnE ?_ hlt' ?_; exact rfl) | (refine when_pyE ?_ hlt' ?_; exact rfl) | (refine when_pnE ?_ hlt' ?_; exact rfl) | (refine br_npyE ?_ hlt' ?_; exact rfl) | (refine br_npnE ?_ hlt' ?_; exact rfl) | (refine when_npyE ?_ hlt' ?_; exact rfl) | (refine when_npnE ?_ hlt' ?_; exact rfl) | (refine ari ?_ ?_; omega) | (refine aru ?_ ?_; omega) | (apply sel; exact rfl) | (refine ix0 rfl ?_) | (refine ix1 rfl ?_) | (refine ix2 rfl ?_) | (refine ix3 rfl ?_) | (apply ixj; omega) | (refine ixn ?_ ?_; omega) | (refine ixs0 rfl ?_) | (refine ixs1 rfl ?_) | (refine ixs_j ?_ ?_; omega) | (refine ixs_n ?_ ?_; omega) | (apply ld_o; exact rfl) | (apply ldN_a; exact rfl) | (apply ldN_o; (exact rfl); exact rfl) | (apply st_o; (exact rfl); exact rfl) | (apply stN_o; (exact rfl); (exact rfl); exact rfl) | (refine new_i (fun bk hbk => ?_)) | (apply when_dE; (exact rfl); (exact rfl); all_goals intro hc) | (apply when_dF; (exact rfl); (exact rfl); all_goals intro hc) | (apply when_nE; (exact rfl); (exact rfl); all_goals intro hc) | (apply when_nF; (exact rfl); (exact rfl); all_goals intro hc) | (apply br_dE; (exact rfl); all_goals intro hc) | (apply br_nE; (exact rfl); all_goals intro hc) | (refine mm_min ?_) | (refine mm_max ?_) | (refine rem_i ?_ ?_; omega) | (refine SelN.mk ?_) | (refine cut_n ?_) | (refine Both.mk ?_ ?_) | (exact True.intro))
    exact ⟨ret1 (vb hc.symm), (by first | exact ent_i | (repeat (first | exact Ent.refl | exact Ent.left | refine Ent.cons ?_ | refine Ent.app ?_)))⟩
theorem sp_rconflict {x y : EH} (hx : EvR W0 own x) (hy : EvR W0 own y) (w : Int) : Pure Tryd.prog W0 59 [x.v, y.v, .int .i64 w] own (.bool (confB x y w)) := by
  refine pure_of (spec_of mixed low_ref24_conflict (by simp [ir_ref24_conflict]) ?_)
  have h1 : ∀ own' [EntC own' own], Pure Tryd.prog W0 57 [.slice x.ra x.rl.length x.rc, .int .i64 w] own' (.bool (x.rl.contains w)) := fun own' h => sp_in (hx.r.ent (h.h W0)) hx.rn w
  have h2 : ∀ own' [EntC own' own], Pure Tryd.prog W0 57 [.slice x.wa x.wl.length x.wc, .int .i64 w] own' (.bool (x.wl.contains w)) := fun own' h => sp_in (hx.w.ent (h.h W0)) hx.wn w
  have h3 : ∀ own' [EntC own' own], Pure Tryd.prog W0 57 [.slice y.ra y.rl.length y.rc, .int .i64 w] own' (.bool (y.rl.contains w)) := fun own' h => sp_in (hy.r.ent (h.h W0)) hy.rn w
  have h4 : ∀ own' [EntC own' own], Pure Tryd.prog W0 57 [.slice y.wa y.wl.length y.wc, .int .i64 w] own' (.bool (y.wl.contains w)) := fun own' h => sp_in (hy.w.ent (h.h W0)) hy.wn w
  unfold confB cfP
  clear hx hy
  obtain ⟨ev, t, k, wd, ra, rl, rc, wa, wl, wc⟩ := x
  obtain ⟨ev2, t2, k2, wd2, ra2, rl2, rc2, wa2, wl2, wc2⟩ := y
  dsimp only [EH.v] at *
  generalize rl.contains w = z1 at *
  generalize wl.contains w = z2 at *
  generalize rl2.contains w = z3 at *
  generalize wl2.contains w = z4 at *
  generalize rl.length = n1 at *
  generalize wl.length = n2 at *
  generalize rl2.length = n3 at *
  generalize wl2.length = n4 at *
  by_cases e1 : t = t2
  · subst e1
    repeat' ((try (conv => whnf)); first | (refine when_ye ?_ ?_; exact rfl) | (refine when_ne ?_ ?_; exact rfl) | (refine br_te ?_ ?_; exact rfl) | (refine br_fe ?_ ?_; exact rfl) | (apply br_pyE; (exact rfl); omega) | (apply br_pnE; (exact rfl); omega) | (apply when_pyE; (exact rfl); omega) | (apply when_pnE; (exact rfl); omega) | (apply br_npyE; (exact rfl); omega) | (apply br_npnE; (exact rfl); omega) | (apply when_npyE; (exact rfl); omega) | (apply when_npnE; (exact rfl); omega) | (refine ari ?_ ?_; omega) | (refine aru ?_ ?_; omega) | (apply sel; exact rfl) | (refine ix0 rfl ?_) | (refine ix1 rfl ?_) | (refine ix2 rfl ?_) | (refine ix3 rfl ?_) | (apply ixj; omega) | (refine ixn ?_ ?_; omega) | (refine ixs0 rfl ?_) | (refine ixs1 rfl ?_) | (refine ixs_j ?_ ?_; omega) | (refine ixs_n ?_ ?_; omega) | (apply ld_o; exact rfl) | (apply ldN_a; exact rfl) | (apply ldN_o; (exact rfl); exact rfl) | (apply st_o; (exact rfl); exact rfl) | (apply stN_o; (exact rfl); (exact rfl); exact rfl) | (refine new_i (fun bk hbk => ?_)) | (apply when_dE; (exact rfl); (exact rfl); all_goals intro hc) | (apply when_dF; (exact rfl); (exact rfl); all_goals intro hc) | (apply when_nE; (exact rfl); (exact rfl); all_goals intro hc) | (apply when_nF; (exact rfl); (exact rfl); all_goals intro hc) | (apply br_dE; (exact rfl); all_goals intro hc) | (apply br_nE; (exact rfl); all_goals intro hc) | (refine mm_min ?_) | (refine mm_max ?_) | (refine rem_i ?_ ?_; omega) | (refine SelN.mk ?_) | (refine cut_n ?_) | (refine Both.mk ?_ ?_) | (exact True.intro))
    all_goals exact ⟨ret1 (by simp), (by first | exact ent_i | (repeat (first | exact Ent.refl | exact Ent.left | refine Ent.cons ?_ | refine Ent.app ?_)))⟩
  · by_cases e2 : k = 4
    · by_cases e3 : k2 = 4
      · repeat' ((try (conv => whnf)); first | (refine when_ye ?_ ?_; exact rfl) | (refine when_ne ?_ ?_; exact rfl) | (refine br_te ?_ ?_; exact rfl) | (refine br_fe ?_ ?_; exact rfl) | (apply br_pyE; (exact rfl); omega) | (apply br_pnE; (exact rfl); omega) | (apply when_pyE; (exact rfl); omega) | (apply when_pnE; (exact rfl); omega) | (apply br_npyE; (exact rfl); omega) | (apply br_npnE; (exact rfl); omega) | (apply when_npyE; (exact rfl); omega) | (apply when_npnE; (exact rfl); omega) | (refine br_pyE ?_ e1 ?_; exact rfl) | (refine br_pnE ?_ e1 ?_; exact rfl) | (refine when_pyE ?_ e1 ?_; exact rfl) | (refine when_pnE ?_ e1 ?_; exact rfl) | (refine br_npyE ?_ e1 ?_; exact rfl) | (refine br_npnE ?_ e1 ?_; exact rfl) | (refine when_npyE ?_ e1 ?_; exact rfl) | (refine when_npnE ?_ e1 ?_; exact rfl) | (refine ari ?_ ?_; omega) | (refine aru ?_ ?_; omega) | (apply sel; exact rfl) | (refine ix0 rfl ?_) | (refine ix1 rfl ?_) | (refine ix2 rfl ?_) | (refine ix3 rfl ?_) | (apply ixj; omega) | (refine ixn ?_ ?_; omega) | (refine ixs0 rfl ?_) | (refine ixs1 rfl ?_) | (refine ixs_j ?_ ?_; omega) | (refine ixs_n ?_ ?_; omega) | (apply ld_o; exact rfl) | (apply ldN_a; exact rfl) | (apply ldN_o; (exact rfl); exact rfl) | (apply st_o; (exact rfl); exact rfl) | (apply stN_o; (exact rfl); (exact rfl); exact rfl) | (refine new_i (fun bk hbk => ?_)) | (apply when_dE; (exact rfl); (exact rfl); all_goals intro hc) | (apply when_dF; (exact rfl); (exact rfl); all_goals intro hc) | (apply when_nE; (exact rfl); (exact rfl); all_goals intro hc) | (apply when_nF; (exact rfl); (exact rfl); all_goals intro hc) | (apply br_dE; (exact rfl); all_goals intro hc) | (apply br_nE; (exact rfl); all_goals intro hc) | (refine mm_min ?_) | (refine mm_max ?_) | (refine rem_i ?_ ?_; omega) | (refine SelN.mk ?_) | (refine cut_n ?_) | (refine Both.mk ?_ ?_) | (exact True.intro))
        all_goals exact ⟨ret1 (by simp [*]), (by first | exact ent_i | (repeat (first | exact Ent.refl | exact Ent.left | refine Ent.cons ?_ | refine Ent.app ?_)))⟩
      · by_cases e4 : wd2 = w
        · cases z1 <;> cases z2
          all_goals
            repeat' ((try (conv => whnf)); first | (refine when_ye ?_ ?_; exact rfl) | (refine when_ne ?_ ?_; exact rfl) | (refine br_te ?_ ?_; exact rfl) | (refine br_fe ?_ ?_; exact rfl) | (apply br_pyE; (exact rfl); omega) | (apply br_pnE; (exact rfl); omega) | (apply when_pyE; (exact rfl); omega) | (apply when_pnE; (exact rfl); omega) | (apply br_npyE; (exact rfl); omega) | (apply br_npnE; (exact rfl); omega) | (apply when_npyE; (exact rfl); omega) | (apply when_npnE; (exact rfl); omega) | (refine br_pyE ?_ e1 ?_; exact rfl) | (refine br_pnE ?_ e1 ?_; exact rfl) | (refine when_pyE ?_ e1 ?_; exact rfl) | (refine when_pnE ?_ e1 ?_; exact rfl) | (refine br_npyE ?_ e1 ?_; exact rfl) | (refine br_npnE ?_ e1 ?_; exact rfl) | (refine when_npyE ?_ e1 ?_; exact rfl) | (refine when_npnE ?_ e1 ?_; exact rfl) | (refine br_pyE ?_ e2 ?_; exact rfl) | (refine br_pnE ?_ e2 ?_; exact rfl) | (refine when_pyE ?_ e2 ?_; exact rfl) | (refine when_pnE ?_ e2 ?_; exact rfl) | (refine br_npyE ?_ e2 ?_; exact rfl) | (refine br_npnE ?_ e2 ?_; exact rfl) | (refine when_npyE ?_ e2 ?_; exact rfl) | (refine when_npnE ?_ e2 ?_; exact rfl) | (refine br_pyE ?_ e3 ?_; exact rfl) | (refine br_pnE ?_ e3 ?_; exact rfl) | (refine when_pyE ?_ e3 ?_; exact rfl) | (refine when_pnE ?_ e3 ?_; exact rfl) | (refine br_npyE ?_ e3 ?_; exact rfl) | (refine br_npnE ?_ e3 ?_; exact rfl) | (refine when_npyE ?_ e3 ?_; exact rfl) | (refine when_npnE ?_ e3 ?_; exact rfl) | (refine br_pyE ?_ e4 ?_; exact rfl) | (refine br_pnE ?_ e4 ?_; exact rfl) | (refine when_pyE ?_ e4 ?_; exact rfl) | (refine when_pnE ?_ e4 ?_; exact rfl) | (refine br_npyE ?_ e4 ?_; exact rfl) | (refine br_npnE ?_ e4 ?_; exact rfl) | (refine when_npyE ?_ e4 ?_; exact rfl) | (refine when_npnE ?_ e4 ?_; exact rfl) | ((with_reducible show CallT _ _ _ _ _ _); first | ((refine call_pe (h1 _) ?_ ?_ ?_; (exact rfl); exact rfl)) | ((refine call_pe (h2 _) ?_ ?_ ?_; (exact rfl); exact rfl))) | (refine ari ?_ ?_; omega) | (refine aru ?_ ?_; omega) | (apply sel; exact rfl) | (refine ix0 rfl ?_) | (refine ix1 rfl ?_) | (refine ix2 rfl ?_) | (refine ix3 rfl ?_) | (apply ixj; omega) | (refine ixn ?_ ?_; omega) | (refine ixs0 rfl ?_) | (refine ixs1 rfl ?_) | (refine ixs_j ?_ ?_; omega) | (refine ixs_n ?_ ?_; omega) | (apply ld_o; exact rfl) | (apply ldN_a; exact rfl) | (apply ldN_o; (exact rfl); exact rfl) | (apply st_o; (exact rfl); exact rfl) | (apply stN_o; (exact rfl); (exact rfl); exact rfl) | (refine new_i (fun bk hbk => ?_)) | (apply when_dE; (exact rfl); (exact rfl); all_goals intro hc) | (apply when_dF; (exact rfl); (exact rfl); all_goals intro hc) | (apply when_nE; (exact rfl); (exact rfl); all_goals intro hc) | (apply when_nF; (exact rfl); (exact rfl); all_goals intro hc) | (apply br_dE; (exact rfl); all_goals intro hc) | (apply br_nE; (exact rfl); all_goals intro hc) | (refine mm_min ?_) | (refine mm_max ?_) | (refine rem_i ?_ ?_; omega) | (refine SelN.mk ?_) | (refine cut_n ?_) | (refine Both.mk ?_ ?_) | (exact True.intro))
            all_goals exact ⟨ret1 (by simp [*]), (by first | exact ent_i | (repeat (first | exact Ent.refl | exact Ent.left | refine Ent.cons ?_ | refine Ent.app ?_)))⟩
        · repeat' ((try (conv => whnf)); first | (refine when_ye ?_ ?_; exact rfl) | (refine when_ne ?_ ?_; exact rfl) | (refine br_te ?_ ?_; exact rfl) | (refine br_fe ?_ ?_; exact rfl) | (apply br_pyE; (exact rfl); omega) | (apply br_pnE; (exact rfl); omega) | (apply when_pyE; (exact rfl); omega) | (apply when_pnE; (exact rfl); omega) | (apply br_npyE; (exact rfl); omega) | (apply br_npnE; (exact rfl); omega) | (apply when_npyE; (exact rfl); omega) | (apply when_npnE; (exact rfl); omega) | (refine br_pyE ?_ e1 ?_; exact rfl) | (refine br_pnE ?_ e1 ?_; exact rfl) | (refine when_pyE ?_ e1 ?_; exact rfl) | (refine when_pnE ?_ e1 ?_; exact rfl) | (refine br_npyE ?_ e1 ?_; exact rfl) | (refine br_npnE ?_ e1 ?_; exact rfl) | (refine when_npyE ?_ e1 ?_; exact rfl) | (refine when_npnE ?_ e1 ?_; exact rfl) | (refine br_pyE ?_ e2 ?_; exact rfl) | (refine br_pnE ?_ e2 ?_; exact rfl) | (refine when_pyE ?_ e2 ?_; exact rfl) | (refine when_pnE ?_ e2 ?_; exact rfl) | (refine br_npyE ?_ e2 ?_; exact rfl) | (refine br_npnE ?_ e2 ?_; exact rfl) | (refine when_npyE ?_ e2 ?_; exact rfl) | (refine when_npnE ?_ e2 ?_; exact rfl) | (refine br_pyE ?_ e3 ?_; exact rfl) | (refine br_pnE ?_ e3 ?_; exact rfl) | (refine when_pyE ?_ e3 ?_; exact rfl) | (refine when_pnE ?_ e3 ?_; exact rfl) | (refine br_npyE ?_ e3 ?_; exact rfl) | (refine br_npnE ?_ e3 ?_; exact rfl) | (refine when_npyE ?_ e3 ?_; exact rfl) | (refine when_npnE ?_ e3 ?_; exact rfl) | (refine br_pyE ?_ e4 ?_; exact rfl) | (refine br_pnE ?_ e4 ?_; exact rfl) | (refine when_pyE ?_ e4 ?_; exact rfl) | (refine when_pnE ?_ e4 ?_; exact rfl) | (refine br_npyE ?_ e4 ?_; exact rfl) | (refine br_npnE ?_ e4 ?_; exact rfl) | (refine when_npyE ?_ e4 ?_; exact rfl) | (refine when_npnE ?_ e4 ?_; exact rfl) | (refine ari ?_ ?_; omega) | (refine aru ?_ ?_; omega) | (apply sel; exact rfl) | (refine ix0 rfl ?_) | (refine ix1 rfl ?_) | (refine ix2 rfl ?_) | (refine ix3 rfl ?_) | (apply ixj; omega) | (refine ixn ?_ ?_; omega) | (refine ixs0 rfl ?_) | (refine ixs1 rfl ?_) | (refine ixs_j ?_ ?_; omega) | (refine ixs_n ?_ ?_; omega) | (apply ld_o; exact rfl) | (apply ldN_a; exact rfl) | (apply ldN_o; (exact rfl); exact rfl) | (apply st_o; (exact rfl); exact rfl) | (apply stN_o; (exact rfl); (exact rfl); exact rfl) | (refine new_i (fun bk hbk => ?_)) | (apply when_dE; (exact rfl); (exact rfl); all_goals intro hc) | (apply when_dF; (exact rfl); (exact rfl); all_goals intro hc) | (apply when_nE; (exact rfl); (exact rfl); all_goals intro hc) | (apply when_nF; (exact rfl); (exact rfl); all_goals intro hc) | (apply br_dE; (exact rfl); all_goals intro hc) | (apply br_nE; (exact rfl); all_goals intro hc) | (refine mm_min ?_) | (refine mm_max ?_) | (refine rem_i ?_ ?_; omega) | (refine SelN.mk ?_) | (refine cut_n ?_) | (refine Both.mk ?_ ?_) | (exact True.intro))
          all_goals exact ⟨ret1 (by simp [*]), (by first | exact ent_i | (repeat (first | exact Ent.refl | exact Ent.left | refine Ent.cons ?_ | refine Ent.app ?_)))⟩
    · by_cases e4 : wd = w
      · by_cases e3 : k2 = 4
        · cases z3 <;> cases z4
          all_goals
            repeat' ((try (conv => whnf)); first | (refine when_ye ?_ ?_; exact rfl) | (refine when_ne ?_ ?_; exact rfl) | (refine br_te ?_ ?_; exact rfl) | (refine br_fe ?_ ?_; exact rfl) | (apply br_pyE; (exact rfl); omega) | (apply br_pnE; (exact rfl); omega) | (apply when_pyE; (exact rfl); omega) | (apply when_pnE; (exact rfl); omega) | (apply br_npyE; (exact rfl); omega) | (apply br_npnE; (exact rfl); omega) | (apply when_npyE; (exact rfl); omega) | (apply when_npnE; (exact rfl); omega) | (refine br_pyE ?_ e1 ?_; exact rfl) | (refine br_pnE ?_ e1 ?_; exact rfl) | (refine when_pyE ?_ e1 ?_; exact rfl) | (refine when_pnE ?_ e1 ?_; exact rfl) | (refine br_npyE ?_ e1 ?_; exact rfl) | (refine br_npnE ?_ e1 ?_; exact rfl) | (refine when_npyE ?_ e1 ?_; exact rfl) | (refine when_npnE ?_ e1 ?_; exact rfl) | (refine br_pyE ?_ e2 ?_; exact rfl) | (refine br_pnE ?_ e2 ?_; exact rfl) | (refine when_pyE ?_ e2 ?_; exact rfl) | (refine when_pnE ?_ e2 ?_; exact rfl) | (refine br_npyE ?_ e2 ?_; exact rfl) | (refine br_npnE ?_ e2 ?_; exact rfl) | (refine when_npyE ?_ e2 ?_; exact rfl) | (refine when_npnE ?_ e2 ?_; exact rfl) | (refine br_pyE ?_ e3 ?_; exact rfl) | (refine br_pnE ?_ e3 ?_; exact rfl) | (refine when_pyE ?_ e3 ?_; exact rfl) | (refine when_pnE ?_ e3 ?_; exact rfl) | (refine br_npyE ?_ e3 ?_; exact rfl) | (refine br_npnE ?_ e3 ?_; exact rfl) | (refine when_npyE ?_ e3 ?_; exact rfl) | (refine when_npnE ?_ e3 ?_; exact rfl) | (refine br_pyE ?_ e4 ?_; exact rfl) | (refine br_pnE ?_ e4 ?_; exact rfl) | (refine when_pyE ?_ e4 ?_; exact rfl) | (refine when_pnE ?_ e4 ?_; exact rfl) | (refine br_npyE ?_ e4 ?_; exact rfl) | (refine br_npnE ?_ e4 ?_; exact rfl) | (refine when_npyE ?_ e4 ?_; exact rfl) | (refine when_npnE ?_ e4 ?_; exact rfl) | ((with_reducible show CallT _ _ _ _ _ _); first | ((refine call_pe (h3 _) ?_ ?_ ?_; (exact rfl); exact rfl)) | ((refine call_pe (h4 _) ?_ ?_ ?_; (exact rfl); exact rfl))) | (refine ari ?_ ?_; omega) | (refine aru ?_ ?_; omega) | (apply sel; exact rfl) | (refine ix0 rfl ?_) | (refine ix1 rfl ?_) | (refine ix2 rfl ?_) | (refine ix3 rfl ?_) | (apply ixj; omega) | (refine ixn ?_ ?_; omega) | (refine ixs0 rfl ?_) | (refine ixs1 rfl ?_) | (refine ixs_j ?_ ?_; omega) | (refine ixs_n ?_ ?_; omega) | (apply ld_o; exact rfl) | (apply ldN_a; exact rfl) | (apply ldN_o; (exact rfl); exact rfl) | (apply st_o; (exact rfl); exact rfl) | (apply stN_o; (exact rfl); (exact rfl); exact rfl) | (refine new_i (fun bk hbk => ?_)) | (apply when_dE; (exact rfl); (exact rfl); all_goals intro hc) | (apply when_dF; (exact rfl); (exact rfl); all_goals intro hc) | (apply when_nE; (exact rfl); (exact rfl); all_goals intro hc) | (apply when_nF; (exact rfl); (exact rfl); all_goals intro hc) | (apply br_dE; (exact rfl); all_goals intro hc) | (apply br_nE; (exact rfl); all_goals intro hc) | (refine mm_min ?_) | (refine mm_max ?_) | (refine rem_i ?_ ?_; omega) | (refine SelN.mk ?_) | (refine cut_n ?_) | (refine Both.mk ?_ ?_) | (exact True.intro))
            all_goals exact ⟨ret1 (by simp [*]), (by first | exact ent_i | (repeat (first | exact Ent.refl | exact Ent.left | refine Ent.cons ?_ | refine Ent.app ?_)))⟩
        · by_cases e5 : wd2 = w
          · repeat' ((try (conv => whnf)); first | (refine when_ye ?_ ?_; exact rfl) | (refine when_ne ?_ ?_; exact rfl) | (refine br_te ?_ ?_; exact rfl) | (refine br_fe ?_ ?_; exact rfl) | (apply br_pyE; (exact rfl); omega) | (apply br_pnE; (exact rfl); omega) | (apply when_pyE; (exact rfl); omega) | (apply when_pnE; (exact rfl); omega) | (apply br_npyE; (exact rfl); omega) | (apply br_npnE; (exact rfl); omega) | (apply when_npyE; (exact rfl); omega) | (apply when_npnE; (exact rfl); omega) | (refine br_pyE ?_ e1 ?_; exact rfl) | (refine br_pnE ?_ e1 ?_; exact rfl) | (refine when_pyE ?_ e1 ?_; exact rfl) | (refine when_pnE ?_ e1 ?_; exact rfl) | (refine br_npyE ?_ e1 ?_; exact rfl) | (refine br_npnE ?_ e1 ?_; exact rfl) | (refine when_npyE ?_ e1 ?_; exact rfl) | (refine when_npnE ?_ e1 ?_; exact rfl) | (refine br_pyE ?_ e2 ?_; exact rfl) | (refine br_pnE ?_ e2 ?_; exact rfl) | (refine when_pyE ?_ e2 ?_; exact rfl) | (refine when_pnE ?_ e2 ?_; exact rfl) | (refine br_npyE ?_ e2 ?_; exact rfl) | (refine br_npnE ?_ e2 ?_; exact rfl) | (refine when_npyE ?_ e2 ?_; exact rfl) | (refine when_npnE ?_ e2 ?_; exact rfl) | (refine br_pyE ?_ e3 ?_; exact rfl) | (refine br_pnE ?_ e3 ?_; exact rfl) | (refine when_pyE ?_ e3 ?_; exact rfl) | (refine when_pnE ?_ e3 ?_; exact rfl) | (refine br_npyE ?_ e3 ?_; exact rfl) | (refine br_npnE ?_ e3 ?_; exact rfl) | (refine when_npyE ?_ e3 ?_; exact rfl) | (refine when_npnE ?_ e3 ?_; exact rfl) | (refine br_pyE ?_ e4 ?_; exact rfl) | (refine br_pnE ?_ e4 ?_; exact rfl) | (refine when_pyE ?_ e4 ?_; exact rfl) | (refine when_pnE ?_ e4 ?_; exact rfl) | (refine br_npyE ?_ e4 ?_; exact rfl) | (refine br_npnE ?_ e4 ?_; exact rfl) | (refine when_npyE ?_ e4 ?_; exact rfl) | (refine when_npnE ?_ e4 ?_; exact rfl) | (refine br_pyE ?_ e5 ?_; exact rfl) | (refine br_pnE ?_ e5 ?_; exact rfl) | (refine when_pyE ?_ e5 ?_; exact rfl) | (refine when_pnE ?_ e5 ?_; exact rfl) | (refine br_npyE ?_ e5 ?_; exact rfl) | (refine br_npnE ?_ e5 ?_; exact rfl) | (refine when_npyE ?_ e5 ?_; exact rfl) | (refine when_npnE ?_ e5 ?_; exact rfl) | (refine ari ?_ ?_; omega) | (refine aru ?_ ?_; omega) | (apply sel; exact rfl) | (refine ix0 rfl ?_) | (refine ix1 rfl ?_) | (refine ix2 rfl ?_) | (refine ix3 rfl ?_) | (apply ixj; omega) | (refine ixn ?_ ?_; omega) | (refine ixs0 rfl ?_) | (refine ixs1 rfl ?_) | (refine ixs_j ?_ ?_; omega) | (refine ixs_n ?_ ?_; omega) | (apply ld_o; exact rfl) | (apply ldN_a; exact rfl) | (apply ldN_o; (exact rfl); exact rfl) | (apply st_o; (exact rfl); exact rfl) | (apply stN_o; (exact rfl); (exact rfl); exact rfl) | (refine new_i (fun bk hbk => ?_)) | (apply when_dE; (exact rfl); (exact rfl); all_goals intro hc) | (apply when_dF; (exact rfl); (exact rfl); all_goals intro hc) | (apply when_nE; (exact rfl); (exact rfl); all_goals intro hc) | (apply when_nF; (exact rfl); (exact rfl); all_goals intro hc) | (apply br_dE; (exact rfl); all_goals intro hc) | (apply br_nE; (exact rfl); all_goals intro hc) | (refine mm_min ?_) | (refine mm_max ?_) | (refine rem_i ?_ ?_; omega) | (refine SelN.mk ?_) | (refine cut_n ?_) | (refine Both.mk ?_ ?_) | (exact True.intro))
            all_goals exact ⟨ret1 (by simp [*]), (by first | exact ent_i | (repeat (first | exact Ent.refl | exact Ent.left | refine Ent.cons ?_ | refine Ent.app ?_)))⟩
          · repeat' ((try (conv => whnf)); first | (refine when_ye ?_ ?_; exact rfl) | (refine when_ne ?_ ?_; exact rfl) | (refine br_te ?_ ?_; exact rfl) | (refine br_fe ?_ ?_; exact rfl) | (apply br_pyE; (exact rfl); omega) | (apply br_pnE; (exact rfl); omega) | (apply when_pyE; (exact rfl); omega) | (apply when_pnE; (exact rfl); omega) | (apply br_npyE; (exact rfl); omega) | (apply br_npnE; (exact rfl); omega) | (apply when_npyE; (exact rfl); omega) | (apply when_npnE; (exact rfl); omega) | (refine br_pyE ?_ e1 ?_; exact rfl) | (refine br_pnE ?_ e1 ?_; exact rfl) | (refine when_pyE ?_ e1 ?_; exact rfl) | (refine when_pnE ?_ e1 ?_; exact rfl) | (refine br_npyE ?_ e1 ?_; exact rfl) | (refine br_npnE ?_ e1 ?_; exact rfl) | (refine when_npyE ?_ e1 ?_; exact rfl) | (refine when_npnE ?_ e1 ?_; exact rfl) | (refine br_pyE ?_ e2 ?_; exact rfl) | (refine br_pnE ?_ e2 ?_; exact rfl) | (refine when_pyE ?_ e2 ?_; exact rfl) | (refine when_pnE ?_ e2 ?_; exact rfl) | (refine br_npyE ?_ e2 ?_; exact rfl) | (refine br_npnE ?_ e2 ?_; exact rfl) | (refine when_npyE ?_ e2 ?_; exact rfl) | (refine when_npnE ?_ e2 ?_; exact rfl) | (refine br_pyE ?_ e3 ?_; exact rfl) | (refine br_pnE ?_ e3 ?_; exact rfl) | (refine when_pyE ?_ e3 ?_; exact rfl) | (refine when_pnE ?_ e3 ?_; exact rfl) | (refine br_npyE ?_ e3 ?_; exact rfl) | (refine br_npnE ?_ e3 ?_; exact rfl) | (refine when_npyE ?_ e3 ?_; exact rfl) | (refine when_npnE ?_ e3 ?_; exact rfl) | (refine br_pyE ?_ e4 ?_; exact rfl) | (refine br_pnE ?_ e4 ?_; exact rfl) | (refine when_pyE ?_ e4 ?_; exact rfl) | (refine when_pnE ?_ e4 ?_; exact rfl) | (refine br_npyE ?_ e4 ?_; exact rfl) | (refine br_npnE ?_ e4 ?_; exact rfl) | (refine when_npyE ?_ e4 ?_; exact rfl) | (refine when_npnE ?_ e4 ?_; exact rfl) | (refine br_pyE ?_ e5 ?_; exact rfl) | (refine br_pnE ?_ e5 ?_; exact rfl) | (refine when_pyE ?_ e5 ?_; exact rfl) | (refine when_pnE ?_ e5 ?_; exact rfl) | (refine br_npyE ?_ e5 ?_; exact rfl) | (refine br_npnE ?_ e5 ?_; exact rfl) | (refine when_npyE ?_ e5 ?_; exact rfl) | (refine when_npnE ?_ e5 ?_; exact rfl) | (refine ari ?_ ?_; omega) | (refine aru ?_ ?_; omega) | (apply sel; exact rfl) | (refine ix0 rfl ?_) | (refine ix1 rfl ?_) | (refine ix2 rfl ?_) | (refine ix3 rfl ?_) | (apply ixj; omega) | (refine ixn ?_ ?_; omega) | (refine ixs0 rfl ?_) | (refine ixs1 rfl ?_) | (refine ixs_j ?_ ?_; omega) | (refine ixs_n ?_ ?_; omega) | (apply ld_o; exact rfl) | (apply ldN_a; exact rfl) | (apply ldN_o; (exact rfl); exact rfl) | (apply st_o; (exact rfl); exact rfl) | (apply stN_o; (exact rfl); (exact rfl); exact rfl) | (refine new_i (fun bk hbk => ?_)) | (apply when_dE; (exact rfl); (exact rfl); all_goals intro hc) | (apply when_dF; (exact rfl); (exact rfl); all_goals intro hc) | (apply when_nE; (exact rfl); (exact rfl); all_goals intro hc) | (apply when_nF; (exact rfl); (exact rfl); all_goals intro hc) | (apply br_dE; (exact rfl); all_goals intro hc) | (apply br_nE; (exact rfl); all_goals intro hc) | (refine mm_min ?_) | (refine mm_max ?_) | (refine rem_i ?_ ?_; omega) | (refine SelN.mk ?_) | (refine cut_n ?_) | (refine Both.mk ?_ ?_) | (exact True.intro))
            all_goals exact ⟨ret1 (by simp [*]), (by first | exact ent_i | (repeat (first | exact Ent.refl | exact Ent.left | refine Ent.cons ?_ | refine Ent.app ?_)))⟩
      · repeat' ((try (conv => whnf)); first | (refine when_ye ?_ ?_; exact rfl) | (refine when_ne ?_ ?_; exact rfl) | (refine br_te ?_ ?_; exact rfl) | (refine br_fe ?_ ?_; exact rfl) | (apply br_pyE; (exact rfl); omega) | (apply br_pnE; (exact rfl); omega) | (apply when_pyE; (exact rfl); omega) | (apply when_pnE; (exact rfl); omega) | (apply br_npyE; (exact rfl); omega) | (apply br_npnE; (exact rfl); omega) | (apply when_npyE; (exact rfl); omega) | (apply when_npnE; (exact rfl); omega) | (refine br_pyE ?_ e1 ?_; exact rfl) | (refine br_pnE ?_ e1 ?_; exact rfl) | (refine when_pyE ?_ e1 ?_; exact rfl) | (refine when_pnE ?_ e1 ?_; exact rfl) | (refine br_npyE ?_ e1 ?_; exact rfl) | (refine br_npnE ?_ e1 ?_; exact rfl) | (refine when_npyE ?_ e1 ?_; exact rfl) | (refine when_npnE ?_ e1 ?_; exact rfl) | (refine br_pyE ?_ e2 ?_; exact rfl) | (refine br_pnE ?_ e2 ?_; exact rfl) | (refine when_pyE ?_ e2 ?_; exact rfl) | (refine when_pnE ?_ e2 ?_; exact rfl) | (refine br_npyE ?_ e2 ?_; exact rfl) | (refine br_npnE ?_ e2 ?_; exact rfl) | (refine when_npyE ?_ e2 ?_; exact rfl) | (refine when_npnE ?_ e2 ?_; exact rfl) | (refine br_pyE ?_ e4 ?_; exact rfl) | (refine br_pnE ?_ e4 ?_; exact rfl) | (refine when_pyE ?_ e4 ?_; exact rfl) | (refine when_pnE ?_ e4 ?_; exact rfl) | (refine br_npyE ?_ e4 ?_; exact rfl) | (refine br_npnE ?_ e4 ?_; exact rfl) | (refine when_npyE ?_ e4 ?_; exact rfl) | (refine when_npnE ?_ e4 ?_; exact rfl) | (refine ari ?_ ?_; omega) | (refine aru ?_ ?_; omega) | (apply sel; exact rfl) | (refine ix0 rfl ?_) | (refine ix1 rfl ?_) | (refine ix2 rfl ?_) | (refine ix3 rfl ?_) | (apply ixj; omega) | (refine ixn ?_ ?_; omega) | (refine ixs0 rfl ?_) | (refine ixs1 rfl ?_) | (refine ixs_j ?_ ?_; omega) | (refine ixs_n ?_ ?_; omega) | (apply ld_o; exact rfl) | (apply ldN_a; exact rfl) | (apply ldN_o; (exact rfl); exact rfl) | (apply st_o; (exact rfl); exact rfl) | (apply stN_o; (exact rfl); (exact rfl); exact rfl) | (refine new_i (fun bk hbk => ?_)) | (apply when_dE; (exact rfl); (exact rfl); all_goals intro hc) | (apply when_dF; (exact rfl); (exact rfl); all_goals intro hc) | (apply when_nE; (exact rfl); (exact rfl); all_goals intro hc) | (apply when_nF; (exact rfl); (exact rfl); all_goals intro hc) | (apply br_dE; (exact rfl); all_goals intro hc) | (apply br_nE; (exact rfl); all_goals intro hc) | (refine mm_min ?_) | (refine mm_max ?_) | (refine rem_i ?_ ?_; omega) | (refine SelN.mk ?_) | (refine cut_n ?_) | (refine Both.mk ?_ ?_) | (exact True.intro))
        all_goals exact ⟨ret1 (by simp [*]), (by first | exact ent_i | (repeat (first | exact Ent.refl | exact Ent.left | refine Ent.cons ?_ | refine Ent.app ?_)))⟩
end
end Go.Proofs.YtofjnldidkiihaaDoor
namespace Go.Proofs.YtofjnldidkiihaaDoor
open Go
set_option maxRecDepth 10000
set_option maxHeartbeats 4000000
/-- The closure where it lies. -/
structure HbR (W0 : World) (H : Own) (l : List EH) (ha : Option Addr) (bs : List Nat) : Prop where
  len : bs.length = l.length
  rd : RdE (encR l.length) 1 W0 H ha bs
  rows : ∀ i b, bs[i]? = some b → RdE encB 1 W0 H (some ⟨b, 0, none⟩) (rowL l.length (hbB l i))
section
variable {W0 : World} {own : Own} {a : Option Addr} {cap : Nat} {l : List EH}
theorem sp_rclosureH {m : Nat} (hw : Wf l m) (hR : RdE EH.enc 6 W0 own a l) (hl : l.length ≤ 65536) :
    Spec Tryd.prog W0 52 [.slice a l.length cap] own fun v own' => ∃ s : Option Addr × Nat × List Nat × Own, (v = .slice s.1 s.2.2.1.length s.2.1 ∧ HbR W0 s.2.2.2 l s.1 s.2.2.1) ∧ Ent W0 own' (s.2.2.2 ++ own) := by
  intro w hs
  refine (sp_rclosure hw hR hl w hs).mono ?_
  rintro e w' ⟨v, own', he, hst, ha, hc, D, bs, rfl, hB, hlen, hent⟩
  refine ⟨_, own', he, hst, (ha, hc, bs, D ++ rowsO 4 l.length (clos (dirB l) l.length) bs 0), ⟨rfl, hlen, ?_, ?_⟩, ?_⟩
  · exact (hB.rd (W0 := W0)).ent Ent.left
  · intro i b hb
    have := rowsO_rd (W0 := W0) (T := 4) (n := l.length) (f := clos (dirB l) l.length) hb
    rw [rowL_congr (g' := hbB l i) (fun j _ => clos_B hw i j)] at this
    exact this.ent (Ent.app Ent.refl)
  · rw [List.append_assoc]; exact hent
noncomputable def rcR (l : List EH) (n : Int) : List RaceM := if (chkE l n).2 = 0 then rcA l l.length else []
theorem sp_rraces (hR : RdE EH.enc 6 W0 own a l) (hE : ∀ e ∈ l, EvR W0 own e) (n : Int) :
    Spec Tryd.prog W0 39 [.slice a l.length cap, .int .i64 n] own fun v own' => ∃ s : Option Addr × Nat × Own, (v = .slice s.1 (rcR l n).length s.2.1 ∧ BufE encRc 28 3 s.1 s.2.1 (rcR l n) s.2.2) ∧ Ent W0 own' (s.2.2 ++ own) := by
  refine spec_of mixed low_ref24_Races (by simp [ir_ref24_Races]) ?_
  have hck := sp_rcheck (cap := cap) hR hE n
  unfold rcR
  by_cases hc : (chkE l n).2 = 0
  · obtain ⟨hw, hl, _, _⟩ := chk_wf hc
    rw [chk_eq hc] at hck
    rw [if_pos hc]
    have hcl := sp_rclosureH (cap := cap) hw hR hl
    repeat' ((try (conv => whnf)); first | (refine when_ye ?_ ?_; exact rfl) | (refine when_ne ?_ ?_; exact rfl) | (refine br_te ?_ ?_; exact rfl) | (refine br_fe ?_ ?_; exact rfl) | (apply br_pyE; (exact rfl); omega) | (apply br_pnE; (exact rfl); omega) | (apply when_pyE; (exact rfl); omega) | (apply when_pnE; (exact rfl); omega) | (apply br_npyE; (exact rfl); omega) | (apply br_npnE; (exact rfl); omega) | (apply when_npyE; (exact rfl); omega) | (apply when_npnE; (exact rfl); omega) | ((with_reducible show CallT _ _ _ _ _ _); first | ((refine call_pe (hck) ?_ ?_ ?_; (exact rfl); exact rfl)) | ((refine call_x hcl ?_ ?_ (fun s v hv => ?_); (exact rfl); (exact rfl); (obtain ⟨ha, hcc, bs, X⟩ := s; obtain ⟨rfl, hb⟩ := hv; dsimp only at hb)))) | (refine ari ?_ ?_; omega) | (refine aru ?_ ?_; omega) | (apply sel; exact rfl) | (refine ix0 rfl ?_) | (refine ix1 rfl ?_) | (refine ix2 rfl ?_) | (refine ix3 rfl ?_) | (apply ixj; omega) | (refine ixn ?_ ?_; omega) | (refine ixs0 rfl ?_) | (refine ixs1 rfl ?_) | (refine ixs_j ?_ ?_; omega) | (refine ixs_n ?_ ?_; omega) | (apply ld_o; exact rfl) | (apply ldN_a; exact rfl) | (apply ldN_o; (exact rfl); exact rfl) | (apply st_o; (exact rfl); exact rfl) | (apply stN_o; (exact rfl); (exact rfl); exact rfl) | (refine new_i (fun bk hbk => ?_)) | (apply when_dE; (exact rfl); (exact rfl); all_goals intro hc) | (apply when_dF; (exact rfl); (exact rfl); all_goals intro hc) | (apply when_nE; (exact rfl); (exact rfl); all_goals intro hc) | (apply when_nF; (exact rfl); (exact rfl); all_goals intro hc) | (apply br_dE; (exact rfl); all_goals intro hc) | (apply br_nE; (exact rfl); all_goals intro hc) | (refine mm_min ?_) | (refine mm_max ?_) | (refine rem_i ?_ ?_; omega) | (refine SelN.mk ?_) | (refine cut_n ?_) | (refine Both.mk ?_ ?_) | (exact True.intro))
    have hbl := hb.len
    have hbr := hb.rd
    clear hck hcl
    refine loop_i (σ := Nat × Option Addr × Nat × Own) (fun s => [(8, .slice s.2.1 (rcA l s.1).length s.2.2.1), (9, .int .i64 s.1)]) (fun s => s.2.2.2 ++ (X ++ own))
      (fun s => s.1 ≤ l.length ∧ BufE encRc 28 3 s.2.1 s.2.2.1 (rcA l s.1) s.2.2.2) (fun s => l.length - s.1) (0, none, 0, []) ⟨by simp, BufE.nil⟩ (by repeat' (first | exact True.intro | refine And.intro ?_ ?_ | exact rfl | exact vi (by omega) | (dsimp only; exact rfl) | (dsimp only; exact vi (by omega)))) Ent.refl rfl ?_
    rintro ⟨y, ra, rc, D⟩ junk ⟨hy, hB⟩
    dsimp only at hy hB ⊢
    by_cases hyl : y < l.length
    · have hyl' : (y : Int) < l.length := by omega
      obtain ⟨e, he⟩ : ∃ e, l[y]? = some e := ⟨_, List.getElem?_eq_getElem hyl⟩
      have hae : at' l y = e := at_get he
      have hke : knd l y = e.k := by unfold knd; rw [hae]
      have hlenA := rcA_len l l.length y (by omega)
      have hmulA : y * (64 * l.length) ≤ 65536 * (64 * 65536) := Nat.mul_le_mul (by omega) (by omega)
      by_cases h3 : e.k = 3
      · have hnx : rcA l (y + 1) = rcA l y := by rw [rcA_succ, hke, if_pos h3, List.append_nil]
        repeat' ((try (conv => whnf)); first | (refine when_ye ?_ ?_; exact rfl) | (refine when_ne ?_ ?_; exact rfl) | (refine br_te ?_ ?_; exact rfl) | (refine br_fe ?_ ?_; exact rfl) | (apply br_pyE; (exact rfl); omega) | (apply br_pnE; (exact rfl); omega) | (apply when_pyE; (exact rfl); omega) | (apply when_pnE; (exact rfl); omega) | (apply br_npyE; (exact rfl); omega) | (apply br_npnE; (exact rfl); omega) | (apply when_npyE; (exact rfl); omega) | (apply when_npnE; (exact rfl); omega) | (refine br_pyE ?_ hyl' ?_; exact rfl) | (refine br_pnE ?_ hyl' ?_; exact rfl) | (refine when_pyE ?_ hyl' ?_; exact rfl) | (refine when_pnE ?_ hyl' ?_; exact rfl) | (refine br_npyE ?_ hyl' ?_; exact rfl) | (refine br_npnE ?_ hyl' ?_; exact rfl) | (refine when_npyE ?_ hyl' ?_; exact rfl) | (refine when_npnE ?_ hyl' ?_; exact rfl) | (refine br_pyE ?_ h3 ?_; exact rfl) | (refine br_pnE ?_ h3 ?_; exact rfl) | (refine when_pyE ?_ h3 ?_; exact rfl) | (refine when_pnE ?_ h3 ?_; exact rfl) | (refine br_npyE ?_ h3 ?_; exact rfl) | (refine br_npnE ?_ h3 ?_; exact rfl) | (refine when_npyE ?_ h3 ?_; exact rfl) | (refine when_npnE ?_ h3 ?_; exact rfl) | ((with_reducible show Ld _ _ _ _); first | (refine ldE0 hR he rfl ?_) | (refine ldEk hR he rfl ?_) | (refine ldE1 hR he rfl ?_)) | ((with_reducible show IxS _ _ _ _ _); first | ((refine ixE hR he ?_ ?_; (first | rfl | omega)))) | ((with_reducible show LdN _ _ _ _ _); first | (refine ldNEi hR he rfl ?_)) | (refine ari ?_ ?_; omega) | (refine aru ?_ ?_; omega) | (apply sel; exact rfl) | (refine ix0 rfl ?_) | (refine ix1 rfl ?_) | (refine ix2 rfl ?_) | (refine ix3 rfl ?_) | (apply ixj; omega) | (refine ixn ?_ ?_; omega) | (refine ixs0 rfl ?_) | (refine ixs1 rfl ?_) | (refine ixs_j ?_ ?_; omega) | (refine ixs_n ?_ ?_; omega) | (apply ld_o; exact rfl) | (apply ldN_a; exact rfl) | (apply ldN_o; (exact rfl); exact rfl) | (apply st_o; (exact rfl); exact rfl) | (apply stN_o; (exact rfl); (exact rfl); exact rfl) | (refine new_i (fun bk hbk => ?_)) | (apply when_dE; (exact rfl); (exact rfl); all_goals intro hc) | (apply when_dF; (exact rfl); (exact rfl); all_goals intro hc) | (apply when_nE; (exact rfl); (exact rfl); all_goals intro hc) | (apply when_nF; (exact rfl); (exact rfl); all_goals intro hc) | (apply br_dE; (exact rfl); all_goals intro hc) | (apply br_nE; (exact rfl); all_goals intro hc) | (refine mm_min ?_) | (refine mm_max ?_) | (refine rem_i ?_ ?_; omega) | (refine SelN.mk ?_) | (refine cut_n ?_) | (refine Both.mk ?_ ?_) | (exact True.intro))
        refine ⟨(y + 1, ra, rc, D), ⟨by simp only; omega, by simp only; rw [hnx]; exact hB⟩, by simp only; omega, ?_, Ent.refl⟩
        simp only
        rw [hnx]
        exact (by repeat' (first | exact True.intro | refine And.intro ?_ ?_ | exact rfl | exact vi (by omega) | (dsimp only; exact rfl) | (dsimp only; exact vi (by omega))))
      · have hnx : rcA l (y + 1) = rcA l y ++ rcW l y 64 := by rw [rcA_succ, hke, if_neg h3]
        have hbg := sp_rbegin (W0 := W0) (own := D ++ (X ++ own)) (cap := cap) hR.up hl hyl
        obtain ⟨p, hto⟩ : ∃ p, toP l y = p := ⟨_, rfl⟩
        rcases Decidable.em (e.k = 4) with h4 | h4
        case' inl =>
          obtain ⟨p', hp', hpl', _, _⟩ := bg_nat hw hyl (hke.trans h4)
          have hpp : p = p' := by rw [← hto]; unfold toP; rw [hke, if_pos h4, hp']; rfl
          subst hpp
          have hpl : p < l.length := by omega
          rw [hp'] at hbg
          repeat' ((try (conv => whnf)); first | (refine when_ye ?_ ?_; exact rfl) | (refine when_ne ?_ ?_; exact rfl) | (refine br_te ?_ ?_; exact rfl) | (refine br_fe ?_ ?_; exact rfl) | (apply br_pyE; (exact rfl); omega) | (apply br_pnE; (exact rfl); omega) | (apply when_pyE; (exact rfl); omega) | (apply when_pnE; (exact rfl); omega) | (apply br_npyE; (exact rfl); omega) | (apply br_npnE; (exact rfl); omega) | (apply when_npyE; (exact rfl); omega) | (apply when_npnE; (exact rfl); omega) | (refine br_pyE ?_ hyl' ?_; exact rfl) | (refine br_pnE ?_ hyl' ?_; exact rfl) | (refine when_pyE ?_ hyl' ?_; exact rfl) | (refine when_pnE ?_ hyl' ?_; exact rfl) | (refine br_npyE ?_ hyl' ?_; exact rfl) | (refine br_npnE ?_ hyl' ?_; exact rfl) | (refine when_npyE ?_ hyl' ?_; exact rfl) | (refine when_npnE ?_ hyl' ?_; exact rfl) | (refine br_pyE ?_ h3 ?_; exact rfl) | (refine br_pnE ?_ h3 ?_; exact rfl) | (refine when_pyE ?_ h3 ?_; exact rfl) | (refine when_pnE ?_ h3 ?_; exact rfl) | (refine br_npyE ?_ h3 ?_; exact rfl) | (refine br_npnE ?_ h3 ?_; exact rfl) | (refine when_npyE ?_ h3 ?_; exact rfl) | (refine when_npnE ?_ h3 ?_; exact rfl) | (refine br_pyE ?_ h4 ?_; exact rfl) | (refine br_pnE ?_ h4 ?_; exact rfl) | (refine when_pyE ?_ h4 ?_; exact rfl) | (refine when_pnE ?_ h4 ?_; exact rfl) | (refine br_npyE ?_ h4 ?_; exact rfl) | (refine br_npnE ?_ h4 ?_; exact rfl) | (refine when_npyE ?_ h4 ?_; exact rfl) | (refine when_npnE ?_ h4 ?_; exact rfl) | ((with_reducible show Ld _ _ _ _); first | (refine ldE0 hR he rfl ?_) | (refine ldEk hR he rfl ?_) | (refine ldE1 hR he rfl ?_)) | ((with_reducible show IxS _ _ _ _ _); first | ((refine ixE hR he ?_ ?_; (first | rfl | omega)))) | ((with_reducible show LdN _ _ _ _ _); first | (refine ldNEi hR he rfl ?_)) | ((with_reducible show CallT _ _ _ _ _ _); first | ((refine call_pe (hbg) ?_ ?_ ?_; (exact rfl); exact rfl))) | (refine ari ?_ ?_; omega) | (refine aru ?_ ?_; omega) | (apply sel; exact rfl) | (refine ix0 rfl ?_) | (refine ix1 rfl ?_) | (refine ix2 rfl ?_) | (refine ix3 rfl ?_) | (apply ixj; omega) | (refine ixn ?_ ?_; omega) | (refine ixs0 rfl ?_) | (refine ixs1 rfl ?_) | (refine ixs_j ?_ ?_; omega) | (refine ixs_n ?_ ?_; omega) | (apply ld_o; exact rfl) | (apply ldN_a; exact rfl) | (apply ldN_o; (exact rfl); exact rfl) | (apply st_o; (exact rfl); exact rfl) | (apply stN_o; (exact rfl); (exact rfl); exact rfl) | (refine new_i (fun bk hbk => ?_)) | (apply when_dE; (exact rfl); (exact rfl); all_goals intro hc) | (apply when_dF; (exact rfl); (exact rfl); all_goals intro hc) | (apply when_nE; (exact rfl); (exact rfl); all_goals intro hc) | (apply when_nF; (exact rfl); (exact rfl); all_goals intro hc) | (apply br_dE; (exact rfl); all_goals intro hc) | (apply br_nE; (exact rfl); all_goals intro hc) | (refine mm_min ?_) | (refine mm_max ?_) | (refine rem_i ?_ ?_; omega) | (refine SelN.mk ?_) | (refine cut_n ?_) | (refine Both.mk ?_ ?_) | (exact True.intro))
          clear hbg hpl' hp'
        case' inr =>
          have hpp : p = y := by rw [← hto]; unfold toP; rw [hke, if_neg h4]
          have hpl : p < l.length := by omega
          repeat' ((try (conv => whnf)); first | (refine when_ye ?_ ?_; exact rfl) | (refine when_ne ?_ ?_; exact rfl) | (refine br_te ?_ ?_; exact rfl) | (refine br_fe ?_ ?_; exact rfl) | (apply br_pyE; (exact rfl); omega) | (apply br_pnE; (exact rfl); omega) | (apply when_pyE; (exact rfl); omega) | (apply when_pnE; (exact rfl); omega) | (apply br_npyE; (exact rfl); omega) | (apply br_npnE; (exact rfl); omega) | (apply when_npyE; (exact rfl); omega) | (apply when_npnE; (exact rfl); omega) | (refine br_pyE ?_ hyl' ?_; exact rfl) | (refine br_pnE ?_ hyl' ?_; exact rfl) | (refine when_pyE ?_ hyl' ?_; exact rfl) | (refine when_pnE ?_ hyl' ?_; exact rfl) | (refine br_npyE ?_ hyl' ?_; exact rfl) | (refine br_npnE ?_ hyl' ?_; exact rfl) | (refine when_npyE ?_ hyl' ?_; exact rfl) | (refine when_npnE ?_ hyl' ?_; exact rfl) | (refine br_pyE ?_ h3 ?_; exact rfl) | (refine br_pnE ?_ h3 ?_; exact rfl) | (refine when_pyE ?_ h3 ?_; exact rfl) | (refine when_pnE ?_ h3 ?_; exact rfl) | (refine br_npyE ?_ h3 ?_; exact rfl) | (refine br_npnE ?_ h3 ?_; exact rfl) | (refine when_npyE ?_ h3 ?_; exact rfl) | (refine when_npnE ?_ h3 ?_; exact rfl) | (refine br_pyE ?_ h4 ?_; exact rfl) | (refine br_pnE ?_ h4 ?_; exact rfl) | (refine when_pyE ?_ h4 ?_; exact rfl) | (refine when_pnE ?_ h4 ?_; exact rfl) | (refine br_npyE ?_ h4 ?_; exact rfl) | (refine br_npnE ?_ h4 ?_; exact rfl) | (refine when_npyE ?_ h4 ?_; exact rfl) | (refine when_npnE ?_ h4 ?_; exact rfl) | ((with_reducible show Ld _ _ _ _); first | (refine ldE0 hR he rfl ?_) | (refine ldEk hR he rfl ?_) | (refine ldE1 hR he rfl ?_)) | ((with_reducible show IxS _ _ _ _ _); first | ((refine ixE hR he ?_ ?_; (first | rfl | omega)))) | ((with_reducible show LdN _ _ _ _ _); first | (refine ldNEi hR he rfl ?_)) | (refine ari ?_ ?_; omega) | (refine aru ?_ ?_; omega) | (apply sel; exact rfl) | (refine ix0 rfl ?_) | (refine ix1 rfl ?_) | (refine ix2 rfl ?_) | (refine ix3 rfl ?_) | (apply ixj; omega) | (refine ixn ?_ ?_; omega) | (refine ixs0 rfl ?_) | (refine ixs1 rfl ?_) | (refine ixs_j ?_ ?_; omega) | (refine ixs_n ?_ ?_; omega) | (apply ld_o; exact rfl) | (apply ldN_a; exact rfl) | (apply ldN_o; (exact rfl); exact rfl) | (apply st_o; (exact rfl); exact rfl) | (apply stN_o; (exact rfl); (exact rfl); exact rfl) | (refine new_i (fun bk hbk => ?_)) | (apply when_dE; (exact rfl); (exact rfl); all_goals intro hc) | (apply when_dF; (exact rfl); (exact rfl); all_goals intro hc) | (apply when_nE; (exact rfl); (exact rfl); all_goals intro hc) | (apply when_nF; (exact rfl); (exact rfl); all_goals intro hc) | (apply br_dE; (exact rfl); all_goals intro hc) | (apply br_nE; (exact rfl); all_goals intro hc) | (refine mm_min ?_) | (refine mm_max ?_) | (refine rem_i ?_ ?_; omega) | (refine SelN.mk ?_) | (refine cut_n ?_) | (refine Both.mk ?_ ?_) | (exact True.intro))
        all_goals
          refine loop_i (σ := Nat × Option Addr × Nat × Own) (fun s => [(8, .slice s.2.1 (rcA l y ++ rcW l y s.1).length s.2.2.1), (11, .int .i64 s.1)]) (fun s => s.2.2.2 ++ (X ++ own))
            (fun s => s.1 ≤ 64 ∧ BufE encRc 28 3 s.2.1 s.2.2.1 (rcA l y ++ rcW l y s.1) s.2.2.2) (fun s => 64 - s.1) (0, ra, rc, D) ⟨by simp, by simpa [rcW] using hB⟩ (by simp only [rcW, List.range_zero, List.flatMap_nil, List.append_nil]; exact (by repeat' (first | exact True.intro | refine And.intro ?_ ?_ | exact rfl | exact vi (by omega) | (dsimp only; exact rfl) | (dsimp only; exact vi (by omega))))) Ent.refl rfl ?_
          rintro ⟨wd, ra2, rc2, D2⟩ junk2 ⟨hwd, hB2⟩
          dsimp only at hwd hB2 ⊢
          by_cases hwl : wd < 64
          · have hwl' : (wd : Int) < 64 := by omega
            have hlenW := rcW_len l y wd
            have hmulW : wd * y ≤ 64 * 65536 := Nat.mul_le_mul (by omega) (by omega)
            repeat' ((try (conv => whnf)); first | (refine when_ye ?_ ?_; exact rfl) | (refine when_ne ?_ ?_; exact rfl) | (refine br_te ?_ ?_; exact rfl) | (refine br_fe ?_ ?_; exact rfl) | (apply br_pyE; (exact rfl); omega) | (apply br_pnE; (exact rfl); omega) | (apply when_pyE; (exact rfl); omega) | (apply when_pnE; (exact rfl); omega) | (apply br_npyE; (exact rfl); omega) | (apply br_npnE; (exact rfl); omega) | (apply when_npyE; (exact rfl); omega) | (apply when_npnE; (exact rfl); omega) | (refine br_pyE ?_ hwl' ?_; exact rfl) | (refine br_pnE ?_ hwl' ?_; exact rfl) | (refine when_pyE ?_ hwl' ?_; exact rfl) | (refine when_pnE ?_ hwl' ?_; exact rfl) | (refine br_npyE ?_ hwl' ?_; exact rfl) | (refine br_npnE ?_ hwl' ?_; exact rfl) | (refine when_npyE ?_ hwl' ?_; exact rfl) | (refine when_npnE ?_ hwl' ?_; exact rfl) | (refine ari ?_ ?_; omega) | (refine aru ?_ ?_; omega) | (apply sel; exact rfl) | (refine ix0 rfl ?_) | (refine ix1 rfl ?_) | (refine ix2 rfl ?_) | (refine ix3 rfl ?_) | (apply ixj; omega) | (refine ixn ?_ ?_; omega) | (refine ixs0 rfl ?_) | (refine ixs1 rfl ?_) | (refine ixs_j ?_ ?_; omega) | (refine ixs_n ?_ ?_; omega) | (apply ld_o; exact rfl) | (apply ldN_a; exact rfl) | (apply ldN_o; (exact rfl); exact rfl) | (apply st_o; (exact rfl); exact rfl) | (apply stN_o; (exact rfl); (exact rfl); exact rfl) | (refine new_i (fun bk hbk => ?_)) | (apply when_dE; (exact rfl); (exact rfl); all_goals intro hc) | (apply when_dF; (exact rfl); (exact rfl); all_goals intro hc) | (apply when_nE; (exact rfl); (exact rfl); all_goals intro hc) | (apply when_nF; (exact rfl); (exact rfl); all_goals intro hc) | (apply br_dE; (exact rfl); all_goals intro hc) | (apply br_nE; (exact rfl); all_goals intro hc) | (refine mm_min ?_) | (refine mm_max ?_) | (refine rem_i ?_ ?_; omega) | (refine SelN.mk ?_) | (refine cut_n ?_) | (refine Both.mk ?_ ?_) | (exact True.intro))
            refine loop_i (σ := Nat × Option Addr × Nat × Own) (fun s => [(8, .slice s.2.1 ((rcA l y ++ rcW l y wd) ++ rcL l y wd s.1).length s.2.2.1), (12, .int .i64 s.1)]) (fun s => s.2.2.2 ++ (X ++ own))
              (fun s => s.1 ≤ y ∧ BufE encRc 28 3 s.2.1 s.2.2.1 ((rcA l y ++ rcW l y wd) ++ rcL l y wd s.1) s.2.2.2) (fun s => y - s.1) (0, ra2, rc2, D2) ⟨by simp, by simpa [rcL_zero] using hB2⟩ (by simp only [rcL_zero, List.append_nil]; exact (by repeat' (first | exact True.intro | refine And.intro ?_ ?_ | exact rfl | exact vi (by omega) | (dsimp only; exact rfl) | (dsimp only; exact vi (by omega))))) Ent.refl rfl ?_
            rintro ⟨x, ra3, rc3, D3⟩ junk3 ⟨hx, hB3⟩
            dsimp only at hx hB3 ⊢
            by_cases hxl : x < y
            · have hxl' : (x : Int) < y := by omega
              obtain ⟨e', he'⟩ : ∃ e, l[x]? = some e := ⟨_, List.getElem?_eq_getElem (by omega)⟩
              have hae' : at' l x = e' := at_get he'
              have hke' : knd l x = e'.k := by unfold knd; rw [hae']
              have hcf : ∀ own' [EntC own' (X ++ own)], Pure Tryd.prog W0 59 [e'.v, e.v, .int .i64 wd] own' (.bool (confB e' e wd)) := fun own' h =>
                sp_rconflict ((hE e' (List.mem_of_getElem? he')).up (own := X ++ own) |>.up) ((hE e (List.mem_of_getElem? he)).up (own := X ++ own) |>.up) wd
              have hrB : rcB l y wd x = (!decide (e'.k = 3) && (confB e' e wd && !hbB l x p)) := by unfold rcB; rw [hke', hae, hae', hto]
              have hsc : rcL l y wd (x + 1) = rcL l y wd x ++ if rcB l y wd x = true then [((x : Int), (y : Int), (wd : Int))] else [] := rcL_succ
              have hlenL := rcL_len l y wd x
              obtain ⟨bx, hbx⟩ : ∃ b, bs[x]? = some b := ⟨_, List.getElem?_eq_getElem (by omega)⟩
              have hrx := hb.rows x bx hbx
              have gxp := rowL_get (n := l.length) (g := hbB l x) (j := p) hpl
              have hlr := (rowL_len l.length (hbB l x)).symm
              generalize confB e' e wd = cf at *
              generalize hbB l x p = hv at *
              have hlen3 : (rcA l y ++ rcW l y wd ++ rcL l y wd x).length ≤ 65536 * (64 * 65536) + 64 * 65536 + 65536 := by
                simp only [List.length_append]; omega
              generalize hG : rcA l y ++ rcW l y wd ++ rcL l y wd x = G at *
              have hGn : ∀ z, rcA l y ++ rcW l y wd ++ (rcL l y wd x ++ z) = G ++ z := fun z => by rw [← hG]; simp
              by_cases hk3 : e'.k = 3
              · have hb0 : rcB l y wd x = false := by rw [hrB, decide_eq_true hk3]; rfl
                rw [hb0] at hsc
                repeat' ((try (conv => whnf)); first | (refine when_ye ?_ ?_; exact rfl) | (refine when_ne ?_ ?_; exact rfl) | (refine br_te ?_ ?_; exact rfl) | (refine br_fe ?_ ?_; exact rfl) | (apply br_pyE; (exact rfl); omega) | (apply br_pnE; (exact rfl); omega) | (apply when_pyE; (exact rfl); omega) | (apply when_pnE; (exact rfl); omega) | (apply br_npyE; (exact rfl); omega) | (apply br_npnE; (exact rfl); omega) | (apply when_npyE; (exact rfl); omega) | (apply when_npnE; (exact rfl); omega) | (refine br_pyE ?_ hxl' ?_; exact rfl) | (refine br_pnE ?_ hxl' ?_; exact rfl) | (refine when_pyE ?_ hxl' ?_; exact rfl) | (refine when_pnE ?_ hxl' ?_; exact rfl) | (refine br_npyE ?_ hxl' ?_; exact rfl) | (refine br_npnE ?_ hxl' ?_; exact rfl) | (refine when_npyE ?_ hxl' ?_; exact rfl) | (refine when_npnE ?_ hxl' ?_; exact rfl) | (refine br_pyE ?_ hk3 ?_; exact rfl) | (refine br_pnE ?_ hk3 ?_; exact rfl) | (refine when_pyE ?_ hk3 ?_; exact rfl) | (refine when_pnE ?_ hk3 ?_; exact rfl) | (refine br_npyE ?_ hk3 ?_; exact rfl) | (refine br_npnE ?_ hk3 ?_; exact rfl) | (refine when_npyE ?_ hk3 ?_; exact rfl) | (refine when_npnE ?_ hk3 ?_; exact rfl) | ((with_reducible show Ld _ _ _ _); first | (refine ldE0 hR he rfl ?_) | (refine ldEk hR he rfl ?_) | (refine ldE1 hR he rfl ?_) | (refine ldE0 hR he' rfl ?_) | (refine ldEk hR he' rfl ?_) | (refine ldE1 hR he' rfl ?_)) | ((with_reducible show IxS _ _ _ _ _); first | ((refine ixE hR he ?_ ?_; (first | rfl | omega))) | ((refine ixE hR he' ?_ ?_; (first | rfl | omega)))) | ((with_reducible show LdN _ _ _ _ _); first | (refine ldNEi hR he rfl ?_) | (refine ldNEi hR he' rfl ?_)) | (refine ari ?_ ?_; omega) | (refine aru ?_ ?_; omega) | (apply sel; exact rfl) | (refine ix0 rfl ?_) | (refine ix1 rfl ?_) | (refine ix2 rfl ?_) | (refine ix3 rfl ?_) | (apply ixj; omega) | (refine ixn ?_ ?_; omega) | (refine ixs0 rfl ?_) | (refine ixs1 rfl ?_) | (refine ixs_j ?_ ?_; omega) | (refine ixs_n ?_ ?_; omega) | (apply ld_o; exact rfl) | (apply ldN_a; exact rfl) | (apply ldN_o; (exact rfl); exact rfl) | (apply st_o; (exact rfl); exact rfl) | (apply stN_o; (exact rfl); (exact rfl); exact rfl) | (refine new_i (fun bk hbk => ?_)) | (apply when_dE; (exact rfl); (exact rfl); all_goals intro hc) | (apply when_dF; (exact rfl); (exact rfl); all_goals intro hc) | (apply when_nE; (exact rfl); (exact rfl); all_goals intro hc) | (apply when_nF; (exact rfl); (exact rfl); all_goals intro hc) | (apply br_dE; (exact rfl); all_goals intro hc) | (apply br_nE; (exact rfl); all_goals intro hc) | (refine mm_min ?_) | (refine mm_max ?_) | (refine rem_i ?_ ?_; omega) | (refine SelN.mk ?_) | (refine cut_n ?_) | (refine Both.mk ?_ ?_) | (exact True.intro))
                refine ⟨(x + 1, ra3, rc3, D3), ⟨by simp only; omega, by simp only; rw [hsc, hGn]; simpa using hB3⟩, by simp only; omega, ?_, Ent.refl⟩
                simp only
                rw [hsc, hGn]
                simp only [Bool.false_eq_true, if_false, List.append_nil]
                exact (by repeat' (first | exact True.intro | refine And.intro ?_ ?_ | exact rfl | exact vi (by omega) | (dsimp only; exact rfl) | (dsimp only; exact vi (by omega))))
              · cases cf with
                | false =>
                  have hb0 : rcB l y wd x = false := by rw [hrB]; simp
                  rw [hb0] at hsc
                  repeat' ((try (conv => whnf)); first | (refine when_ye ?_ ?_; exact rfl) | (refine when_ne ?_ ?_; exact rfl) | (refine br_te ?_ ?_; exact rfl) | (refine br_fe ?_ ?_; exact rfl) | (apply br_pyE; (exact rfl); omega) | (apply br_pnE; (exact rfl); omega) | (apply when_pyE; (exact rfl); omega) | (apply when_pnE; (exact rfl); omega) | (apply br_npyE; (exact rfl); omega) | (apply br_npnE; (exact rfl); omega) | (apply when_npyE; (exact rfl); omega) | (apply when_npnE; (exact rfl); omega) | (refine br_pyE ?_ hxl' ?_; exact rfl) | (refine br_pnE ?_ hxl' ?_; exact rfl) | (refine when_pyE ?_ hxl' ?_; exact rfl) | (refine when_pnE ?_ hxl' ?_; exact rfl) | (refine br_npyE ?_ hxl' ?_; exact rfl) | (refine br_npnE ?_ hxl' ?_; exact rfl) | (refine when_npyE ?_ hxl' ?_; exact rfl) | (refine when_npnE ?_ hxl' ?_; exact rfl) | (refine br_pyE ?_ hk3 ?_; exact rfl) | (refine br_pnE ?_ hk3 ?_; exact rfl) | (refine when_pyE ?_ hk3 ?_; exact rfl) | (refine when_pnE ?_ hk3 ?_; exact rfl) | (refine br_npyE ?_ hk3 ?_; exact rfl) | (refine br_npnE ?_ hk3 ?_; exact rfl) | (refine when_npyE ?_ hk3 ?_; exact rfl) | (refine when_npnE ?_ hk3 ?_; exact rfl) | ((with_reducible show Ld _ _ _ _); first | (refine ldE0 hR he rfl ?_) | (refine ldEk hR he rfl ?_) | (refine ldE1 hR he rfl ?_) | (refine ldE0 hR he' rfl ?_) | (refine ldEk hR he' rfl ?_) | (refine ldE1 hR he' rfl ?_)) | ((with_reducible show IxS _ _ _ _ _); first | ((refine ixE hR he ?_ ?_; (first | rfl | omega))) | ((refine ixE hR he' ?_ ?_; (first | rfl | omega)))) | ((with_reducible show LdN _ _ _ _ _); first | (refine ldNEi hR he rfl ?_) | (refine ldNEi hR he' rfl ?_)) | ((with_reducible show CallQ _ _ _ _ _ _); first | (((refine call_qi (fun ex => hcf _) ?_ ?_ ?_; (exact rfl); exact rfl)))) | (refine ari ?_ ?_; omega) | (refine aru ?_ ?_; omega) | (apply sel; exact rfl) | (refine ix0 rfl ?_) | (refine ix1 rfl ?_) | (refine ix2 rfl ?_) | (refine ix3 rfl ?_) | (apply ixj; omega) | (refine ixn ?_ ?_; omega) | (refine ixs0 rfl ?_) | (refine ixs1 rfl ?_) | (refine ixs_j ?_ ?_; omega) | (refine ixs_n ?_ ?_; omega) | (apply ld_o; exact rfl) | (apply ldN_a; exact rfl) | (apply ldN_o; (exact rfl); exact rfl) | (apply st_o; (exact rfl); exact rfl) | (apply stN_o; (exact rfl); (exact rfl); exact rfl) | (refine new_i (fun bk hbk => ?_)) | (apply when_dE; (exact rfl); (exact rfl); all_goals intro hc) | (apply when_dF; (exact rfl); (exact rfl); all_goals intro hc) | (apply when_nE; (exact rfl); (exact rfl); all_goals intro hc) | (apply when_nF; (exact rfl); (exact rfl); all_goals intro hc) | (apply br_dE; (exact rfl); all_goals intro hc) | (apply br_nE; (exact rfl); all_goals intro hc) | (refine mm_min ?_) | (refine mm_max ?_) | (refine rem_i ?_ ?_; omega) | (refine SelN.mk ?_) | (refine cut_n ?_) | (refine Both.mk ?_ ?_) | (exact True.intro))
                  refine ⟨(x + 1, ra3, rc3, D3), ⟨by simp only; omega, by simp only; rw [hsc, hGn]; simpa using hB3⟩, by simp only; omega, ?_, Ent.refl⟩
                  simp only
                  rw [hsc, hGn]
                  simp only [Bool.false_eq_true, if_false, List.append_nil]
                  exact (by repeat' (first | exact True.intro | refine And.intro ?_ ?_ | exact rfl | exact vi (by omega) | (dsimp only; exact rfl) | (dsimp only; exact vi (by omega))))
                | true =>
                  cases hv with
                  | true =>
                    have hb0 : rcB l y wd x = false := by rw [hrB]; simp
                    rw [hb0] at hsc
                    repeat' ((try (conv => whnf)); first | (refine when_ye ?_ ?_; exact rfl) | (refine when_ne ?_ ?_; exact rfl) | (refine br_te ?_ ?_; exact rfl) | (refine br_fe ?_ ?_; exact rfl) | (apply br_pyE; (exact rfl); omega) | (apply br_pnE; (exact rfl); omega) | (apply when_pyE; (exact rfl); omega) | (apply when_pnE; (exact rfl); omega) | (apply br_npyE; (exact rfl); omega) | (apply br_npnE; (exact rfl); omega) | (apply when_npyE; (exact rfl); omega) | (apply when_npnE; (exact rfl); omega) | (refine br_pyE ?_ hxl' ?_; exact rfl) | (refine br_pnE ?_ hxl' ?_; exact rfl) | (refine when_pyE ?_ hxl' ?_; exact rfl) | (refine when_pnE ?_ hxl' ?_; exact rfl) | (refine br_npyE ?_ hxl' ?_; exact rfl) | (refine br_npnE ?_ hxl' ?_; exact rfl) | (refine when_npyE ?_ hxl' ?_; exact rfl) | (refine when_npnE ?_ hxl' ?_; exact rfl) | (refine br_pyE ?_ hk3 ?_; exact rfl) | (refine br_pnE ?_ hk3 ?_; exact rfl) | (refine when_pyE ?_ hk3 ?_; exact rfl) | (refine when_pnE ?_ hk3 ?_; exact rfl) | (refine br_npyE ?_ hk3 ?_; exact rfl) | (refine br_npnE ?_ hk3 ?_; exact rfl) | (refine when_npyE ?_ hk3 ?_; exact rfl) | (refine when_npnE ?_ hk3 ?_; exact rfl) | ((with_reducible show Ld _ _ _ _); first | (refine ldE0 hR he rfl ?_) | (refine ldEk hR he rfl ?_) | (refine ldE1 hR he rfl ?_) | (refine ldE0 hR he' rfl ?_) | (refine ldEk hR he' rfl ?_) | (refine ldE1 hR he' rfl ?_) | (refine ldE0 hbr hbx rfl ?_) | (refine ldEk hbr hbx rfl ?_) | (refine ldE1 hbr hbx rfl ?_) | (refine ldS0 hrx gxp rfl ?_)) | ((with_reducible show IxS _ _ _ _ _); first | ((refine ixE hR he ?_ ?_; (first | rfl | omega))) | ((refine ixE hR he' ?_ ?_; (first | rfl | omega))) | ((refine ixE hbr hbx ?_ ?_; (first | rfl | omega))) | ((refine ixC gxp hlr ?_ ?_; (first | rfl | omega)))) | ((with_reducible show LdN _ _ _ _ _); first | (refine ldNEi hR he rfl ?_) | (refine ldNEi hR he' rfl ?_) | (refine ldNEi hbr hbx rfl ?_)) | ((with_reducible show CallQ _ _ _ _ _ _); first | (((refine call_qi (fun ex => hcf _) ?_ ?_ ?_; (exact rfl); exact rfl)))) | (refine ari ?_ ?_; omega) | (refine aru ?_ ?_; omega) | (apply sel; exact rfl) | (refine ix0 rfl ?_) | (refine ix1 rfl ?_) | (refine ix2 rfl ?_) | (refine ix3 rfl ?_) | (apply ixj; omega) | (refine ixn ?_ ?_; omega) | (refine ixs0 rfl ?_) | (refine ixs1 rfl ?_) | (refine ixs_j ?_ ?_; omega) | (refine ixs_n ?_ ?_; omega) | (apply ld_o; exact rfl) | (apply ldN_a; exact rfl) | (apply ldN_o; (exact rfl); exact rfl) | (apply st_o; (exact rfl); exact rfl) | (apply stN_o; (exact rfl); (exact rfl); exact rfl) | (refine new_i (fun bk hbk => ?_)) | (apply when_dE; (exact rfl); (exact rfl); all_goals intro hc) | (apply when_dF; (exact rfl); (exact rfl); all_goals intro hc) | (apply when_nE; (exact rfl); (exact rfl); all_goals intro hc) | (apply when_nF; (exact rfl); (exact rfl); all_goals intro hc) | (apply br_dE; (exact rfl); all_goals intro hc) | (apply br_nE; (exact rfl); all_goals intro hc) | (refine mm_min ?_) | (refine mm_max ?_) | (refine rem_i ?_ ?_; omega) | (refine SelN.mk ?_) | (refine cut_n ?_) | (refine Both.mk ?_ ?_) | (exact True.intro))
                    refine ⟨(x + 1, ra3, rc3, D3), ⟨by simp only; omega, by simp only; rw [hsc, hGn]; simpa using hB3⟩, by simp only; omega, ?_, Ent.refl⟩
                    simp only
                    rw [hsc, hGn]
                    simp only [Bool.false_eq_true, if_false, List.append_nil]
                    exact (by repeat' (first | exact True.intro | refine And.intro ?_ ?_ | exact rfl | exact vi (by omega) | (dsimp only; exact rfl) | (dsimp only; exact vi (by omega))))
                  | false =>
                    have hb0 : rcB l y wd x = true := by rw [hrB, decide_eq_false hk3]; rfl
                    rw [hb0] at hsc
                    repeat' ((try (conv => whnf)); first | (refine when_ye ?_ ?_; exact rfl) | (refine when_ne ?_ ?_; exact rfl) | (refine br_te ?_ ?_; exact rfl) | (refine br_fe ?_ ?_; exact rfl) | (apply br_pyE; (exact rfl); omega) | (apply br_pnE; (exact rfl); omega) | (apply when_pyE; (exact rfl); omega) | (apply when_pnE; (exact rfl); omega) | (apply br_npyE; (exact rfl); omega) | (apply br_npnE; (exact rfl); omega) | (apply when_npyE; (exact rfl); omega) | (apply when_npnE; (exact rfl); omega) | (refine br_pyE ?_ hxl' ?_; exact rfl) | (refine br_pnE ?_ hxl' ?_; exact rfl) | (refine when_pyE ?_ hxl' ?_; exact rfl) | (refine when_pnE ?_ hxl' ?_; exact rfl) | (refine br_npyE ?_ hxl' ?_; exact rfl) | (refine br_npnE ?_ hxl' ?_; exact rfl) | (refine when_npyE ?_ hxl' ?_; exact rfl) | (refine when_npnE ?_ hxl' ?_; exact rfl) | (refine br_pyE ?_ hk3 ?_; exact rfl) | (refine br_pnE ?_ hk3 ?_; exact rfl) | (refine when_pyE ?_ hk3 ?_; exact rfl) | (refine when_pnE ?_ hk3 ?_; exact rfl) | (refine br_npyE ?_ hk3 ?_; exact rfl) | (refine br_npnE ?_ hk3 ?_; exact rfl) | (refine when_npyE ?_ hk3 ?_; exact rfl) | (refine when_npnE ?_ hk3 ?_; exact rfl) | (apply app_i (enc := encRc) ((x : Int), (y : Int), (wd : Int)) hB3; (exact rfl); (exact rfl); (omega); (exact rfl); (exact rfl); (omega); intro a1 c1 D1 hb1) | ((with_reducible show Ld _ _ _ _); first | (refine ldE0 hR he rfl ?_) | (refine ldEk hR he rfl ?_) | (refine ldE1 hR he rfl ?_) | (refine ldE0 hR he' rfl ?_) | (refine ldEk hR he' rfl ?_) | (refine ldE1 hR he' rfl ?_) | (refine ldE0 hbr hbx rfl ?_) | (refine ldEk hbr hbx rfl ?_) | (refine ldE1 hbr hbx rfl ?_) | (refine ldS0 hrx gxp rfl ?_)) | ((with_reducible show IxS _ _ _ _ _); first | ((refine ixE hR he ?_ ?_; (first | rfl | omega))) | ((refine ixE hR he' ?_ ?_; (first | rfl | omega))) | ((refine ixE hbr hbx ?_ ?_; (first | rfl | omega))) | ((refine ixC gxp hlr ?_ ?_; (first | rfl | omega)))) | ((with_reducible show LdN _ _ _ _ _); first | (refine ldNEi hR he rfl ?_) | (refine ldNEi hR he' rfl ?_) | (refine ldNEi hbr hbx rfl ?_)) | ((with_reducible show CallQ _ _ _ _ _ _); first | (((refine call_qi (fun ex => hcf _) ?_ ?_ ?_; (exact rfl); exact rfl)))) | (refine ari ?_ ?_; omega) | (refine aru ?_ ?_; omega) | (apply sel; exact rfl) | (refine ix0 rfl ?_) | (refine ix1 rfl ?_) | (refine ix2 rfl ?_) | (refine ix3 rfl ?_) | (apply ixj; omega) | (refine ixn ?_ ?_; omega) | (refine ixs0 rfl ?_) | (refine ixs1 rfl ?_) | (refine ixs_j ?_ ?_; omega) | (refine ixs_n ?_ ?_; omega) | (apply ld_o; exact rfl) | (apply ldN_a; exact rfl) | (apply ldN_o; (exact rfl); exact rfl) | (apply st_o; (exact rfl); exact rfl) | (apply stN_o; (exact rfl); (exact rfl); exact rfl) | (refine new_i (fun bk hbk => ?_)) | (apply when_dE; (exact rfl); (exact rfl); all_goals intro hc) | (apply when_dF; (exact rfl); (exact rfl); all_goals intro hc) | (apply when_nE; (exact rfl); (exact rfl); all_goals intro hc) | (apply when_nF; (exact rfl); (exact rfl); all_goals intro hc) | (apply br_dE; (exact rfl); all_goals intro hc) | (apply br_nE; (exact rfl); all_goals intro hc) | (refine mm_min ?_) | (refine mm_max ?_) | (refine rem_i ?_ ?_; omega) | (refine SelN.mk ?_) | (refine cut_n ?_) | (refine Both.mk ?_ ?_) | (exact True.intro))
                    refine ⟨(x + 1, a1, c1, D1), ⟨by simp only; omega, by simp only; rw [hsc, hGn]; exact hb1⟩, by simp only; omega, ?_, Ent.cons Ent.refl⟩
                    simp only
                    rw [hsc, hGn]
                    simp only [if_true, List.length_append, List.length_cons, List.length_nil, Nat.zero_add]
                    exact (by repeat' (first | exact True.intro | refine And.intro ?_ ?_ | exact rfl | exact vi (by omega) | (dsimp only; exact rfl) | (dsimp only; exact vi (by omega))))
            · have hxl' : ¬ (x : Int) < y := by omega
              have hx2 : x = y := by omega
              subst hx2
              repeat' ((try (conv => whnf)); first | (refine when_ye ?_ ?_; exact rfl) | (refine when_ne ?_ ?_; exact rfl) | (refine br_te ?_ ?_; exact rfl) | (refine br_fe ?_ ?_; exact rfl) | (apply br_pyE; (exact rfl); omega) | (apply br_pnE; (exact rfl); omega) | (apply when_pyE; (exact rfl); omega) | (apply when_pnE; (exact rfl); omega) | (apply br_npyE; (exact rfl); omega) | (apply br_npnE; (exact rfl); omega) | (apply when_npyE; (exact rfl); omega) | (apply when_npnE; (exact rfl); omega) | (refine br_pyE ?_ hxl' ?_; exact rfl) | (refine br_pnE ?_ hxl' ?_; exact rfl) | (refine when_pyE ?_ hxl' ?_; exact rfl) | (refine when_pnE ?_ hxl' ?_; exact rfl) | (refine br_npyE ?_ hxl' ?_; exact rfl) | (refine br_npnE ?_ hxl' ?_; exact rfl) | (refine when_npyE ?_ hxl' ?_; exact rfl) | (refine when_npnE ?_ hxl' ?_; exact rfl) | (refine ari ?_ ?_; omega) | (refine aru ?_ ?_; omega) | (apply sel; exact rfl) | (refine ix0 rfl ?_) | (refine ix1 rfl ?_) | (refine ix2 rfl ?_) | (refine ix3 rfl ?_) | (apply ixj; omega) | (refine ixn ?_ ?_; omega) | (refine ixs0 rfl ?_) | (refine ixs1 rfl ?_) | (refine ixs_j ?_ ?_; omega) | (refine ixs_n ?_ ?_; omega) | (apply ld_o; exact rfl) | (apply ldN_a; exact rfl) | (apply ldN_o; (exact rfl); exact rfl) | (apply st_o; (exact rfl); exact rfl) | (apply stN_o; (exact rfl); (exact rfl); exact rfl) | (refine new_i (fun bk hbk => ?_)) | (apply when_dE; (exact rfl); (exact rfl); all_goals intro hc) | (apply when_dF; (exact rfl); (exact rfl); all_goals intro hc) | (apply when_nE; (exact rfl); (exact rfl); all_goals intro hc) | (apply when_nF; (exact rfl); (exact rfl); all_goals intro hc) | (apply br_dE; (exact rfl); all_goals intro hc) | (apply br_nE; (exact rfl); all_goals intro hc) | (refine mm_min ?_) | (refine mm_max ?_) | (refine rem_i ?_ ?_; omega) | (refine SelN.mk ?_) | (refine cut_n ?_) | (refine Both.mk ?_ ?_) | (exact True.intro))
              refine ⟨(wd + 1, ra3, rc3, D3), ⟨by simp only; omega, by simp only; rw [rcW_succ, ← List.append_assoc]; exact hB3⟩, by simp only; omega, ?_, Ent.refl⟩
              simp only
              rw [rcW_succ, ← List.append_assoc]
              exact (by repeat' (first | exact True.intro | refine And.intro ?_ ?_ | exact rfl | exact vi (by omega) | (dsimp only; exact rfl) | (dsimp only; exact vi (by omega))))
          · have hwl' : ¬ (wd : Int) < 64 := by omega
            have hw2 : wd = 64 := by omega
            subst hw2
            repeat' ((try (conv => whnf)); first | (refine when_ye ?_ ?_; exact rfl) | (refine when_ne ?_ ?_; exact rfl) | (refine br_te ?_ ?_; exact rfl) | (refine br_fe ?_ ?_; exact rfl) | (apply br_pyE; (exact rfl); omega) | (apply br_pnE; (exact rfl); omega) | (apply when_pyE; (exact rfl); omega) | (apply when_pnE; (exact rfl); omega) | (apply br_npyE; (exact rfl); omega) | (apply br_npnE; (exact rfl); omega) | (apply when_npyE; (exact rfl); omega) | (apply when_npnE; (exact rfl); omega) | (refine br_pyE ?_ hwl' ?_; exact rfl) | (refine br_pnE ?_ hwl' ?_; exact rfl) | (refine when_pyE ?_ hwl' ?_; exact rfl) | (refine when_pnE ?_ hwl' ?_; exact rfl) | (refine br_npyE ?_ hwl' ?_; exact rfl) | (refine br_npnE ?_ hwl' ?_; exact rfl) | (refine when_npyE ?_ hwl' ?_; exact rfl) | (refine when_npnE ?_ hwl' ?_; exact rfl) | (refine ari ?_ ?_; omega) | (refine aru ?_ ?_; omega) | (apply sel; exact rfl) | (refine ix0 rfl ?_) | (refine ix1 rfl ?_) | (refine ix2 rfl ?_) | (refine ix3 rfl ?_) | (apply ixj; omega) | (refine ixn ?_ ?_; omega) | (refine ixs0 rfl ?_) | (refine ixs1 rfl ?_) | (refine ixs_j ?_ ?_; omega) | (refine ixs_n ?_ ?_; omega) | (apply ld_o; exact rfl) | (apply ldN_a; exact rfl) | (apply ldN_o; (exact rfl); exact rfl) | (apply st_o; (exact rfl); exact rfl) | (apply stN_o; (exact rfl); (exact rfl); exact rfl) | (refine new_i (fun bk hbk => ?_)) | (apply when_dE; (exact rfl); (exact rfl); all_goals intro hc) | (apply when_dF; (exact rfl); (exact rfl); all_goals intro hc) | (apply when_nE; (exact rfl); (exact rfl); all_goals intro hc) | (apply when_nF; (exact rfl); (exact rfl); all_goals intro hc) | (apply br_dE; (exact rfl); all_goals intro hc) | (apply br_nE; (exact rfl); all_goals intro hc) | (refine mm_min ?_) | (refine mm_max ?_) | (refine rem_i ?_ ?_; omega) | (refine SelN.mk ?_) | (refine cut_n ?_) | (refine Both.mk ?_ ?_) | (exact True.intro))
            refine ⟨(y + 1, ra2, rc2, D2), ⟨by simp only; omega, by simp only; rw [hnx]; exact hB2⟩, by simp only; omega, ?_, Ent.refl⟩
            simp only
            rw [hnx]
            exact (by repeat' (first | exact True.intro | refine And.intro ?_ ?_ | exact rfl | exact vi (by omega) | (dsimp only; exact rfl) | (dsimp only; exact vi (by omega))))
    · have hyl' : ¬ (y : Int) < l.length := by omega
      have hy2 : y = l.length := by omega
      subst hy2
      repeat' ((try (conv => whnf)); first | (refine when_ye ?_ ?_; exact rfl) | (refine when_ne ?_ ?_; exact rfl) | (refine br_te ?_ ?_; exact rfl) | (refine br_fe ?_ ?_; exact rfl) | (apply br_pyE; (exact rfl); omega) | (apply br_pnE; (exact rfl); omega) | (apply when_pyE; (exact rfl); omega) | (apply when_pnE; (exact rfl); omega) | (apply br_npyE; (exact rfl); omega) | (apply br_npnE; (exact rfl); omega) | (apply when_npyE; (exact rfl); omega) | (apply when_npnE; (exact rfl); omega) | (refine br_pyE ?_ hyl' ?_; exact rfl) | (refine br_pnE ?_ hyl' ?_; exact rfl) | (refine when_pyE ?_ hyl' ?_; exact rfl) | (refine when_pnE ?_ hyl' ?_; exact rfl) | (refine br_npyE ?_ hyl' ?_; exact rfl) | (refine br_npnE ?_ hyl' ?_; exact rfl) | (refine when_npyE ?_ hyl' ?_; exact rfl) | (refine when_npnE ?_ hyl' ?_; exact rfl) | (refine ari ?_ ?_; omega) | (refine aru ?_ ?_; omega) | (apply sel; exact rfl) | (refine ix0 rfl ?_) | (refine ix1 rfl ?_) | (refine ix2 rfl ?_) | (refine ix3 rfl ?_) | (apply ixj; omega) | (refine ixn ?_ ?_; omega) | (refine ixs0 rfl ?_) | (refine ixs1 rfl ?_) | (refine ixs_j ?_ ?_; omega) | (refine ixs_n ?_ ?_; omega) | (apply ld_o; exact rfl) | (apply ldN_a; exact rfl) | (apply ldN_o; (exact rfl); exact rfl) | (apply st_o; (exact rfl); exact rfl) | (apply stN_o; (exact rfl); (exact rfl); exact rfl) | (refine new_i (fun bk hbk => ?_)) | (apply when_dE; (exact rfl); (exact rfl); all_goals intro hc) | (apply when_dF; (exact rfl); (exact rfl); all_goals intro hc) | (apply when_nE; (exact rfl); (exact rfl); all_goals intro hc) | (apply when_nF; (exact rfl); (exact rfl); all_goals intro hc) | (apply br_dE; (exact rfl); all_goals intro hc) | (apply br_nE; (exact rfl); all_goals intro hc) | (refine mm_min ?_) | (refine mm_max ?_) | (refine rem_i ?_ ?_; omega) | (refine SelN.mk ?_) | (refine cut_n ?_) | (refine Both.mk ?_ ?_) | (exact True.intro))
      exact ⟨(ra, rc, D), ⟨rfl, hB⟩, Ent.of_sub ((List.sublist_append_right X own).append_left D)⟩
  · rw [if_neg hc]
    generalize chkE l n = r at *
    repeat' ((try (conv => whnf)); first | (refine when_ye ?_ ?_; exact rfl) | (refine when_ne ?_ ?_; exact rfl) | (refine br_te ?_ ?_; exact rfl) | (refine br_fe ?_ ?_; exact rfl) | (apply br_pyE; (exact rfl); omega) | (apply br_pnE; (exact rfl); omega) | (apply when_pyE; (exact rfl); omega) | (apply when_pnE; (exact rfl); omega) | (apply br_npyE; (exact rfl); omega) | (apply br_npnE; (exact rfl); omega) | (apply when_npyE; (exact rfl); omega) | (apply when_npnE; (exact rfl); omega) | ((with_reducible show CallT _ _ _ _ _ _); first | ((refine call_pe (hck) ?_ ?_ ?_; (exact rfl); exact rfl))) | (refine ari ?_ ?_; omega) | (refine aru ?_ ?_; omega) | (apply sel; exact rfl) | (refine ix0 rfl ?_) | (refine ix1 rfl ?_) | (refine ix2 rfl ?_) | (refine ix3 rfl ?_) | (apply ixj; omega) | (refine ixn ?_ ?_; omega) | (refine ixs0 rfl ?_) | (refine ixs1 rfl ?_) | (refine ixs_j ?_ ?_; omega) | (refine ixs_n ?_ ?_; omega) | (apply ld_o; exact rfl) | (apply ldN_a; exact rfl) | (apply ldN_o; (exact rfl); exact rfl) | (apply st_o; (exact rfl); exact rfl) | (apply stN_o; (exact rfl); (exact rfl); exact rfl) | (refine new_i (fun bk hbk => ?_)) | (apply when_dE; (exact rfl); (exact rfl); all_goals intro hc) | (apply when_dF; (exact rfl); (exact rfl); all_goals intro hc) | (apply when_nE; (exact rfl); (exact rfl); all_goals intro hc) | (apply when_nF; (exact rfl); (exact rfl); all_goals intro hc) | (apply br_dE; (exact rfl); all_goals intro hc) | (apply br_nE; (exact rfl); all_goals intro hc) | (refine mm_min ?_) | (refine mm_max ?_) | (refine rem_i ?_ ?_; omega) | (refine SelN.mk ?_) | (refine cut_n ?_) | (refine Both.mk ?_ ?_) | (exact True.intro))
    all_goals exact ⟨(none, 0, []), ⟨rfl, BufE.nil⟩, (by first | exact ent_i | (repeat (first | exact Ent.refl | exact Ent.left | refine Ent.cons ?_ | refine Ent.app ?_)))⟩
end
end Go.Proofs.YtofjnldidkiihaaDoor
namespace Go.Proofs.YtofjnldidkiihaaDoor
open Go
set_option maxRecDepth 10000
set_option maxHeartbeats 4000000
/-- The last plain access or end of a thread, or -1. -/
def lnA (l : List EH) (t : Int) : Nat → Int
  | 0 => -1
  | i + 1 => if thr l i = t ∧ knd l i ≠ 3 then i else lnA l t i
theorem lnA_lt (l : List EH) (t : Int) : ∀ i, lnA l t i < i ∧ -1 ≤ lnA l t i
  | 0 => by simp [lnA]
  | i + 1 => by
    have := lnA_lt l t i
    unfold lnA
    split <;> omega
/-- How many ends of a thread happen before a place or are it. -/
noncomputable def ckE (l : List EH) (last : Nat) (u : Int) : Nat → Int
  | 0 => 0
  | i + 1 => ckE l last u i + if knd l i = 4 ∧ (i = last ∨ hbB l i last = true) ∧ thr l i = u then 1 else 0
theorem ckE_rng (l : List EH) (last : Nat) (u : Int) : ∀ i, 0 ≤ ckE l last u i ∧ ckE l last u i ≤ i
  | 0 => by simp [ckE]
  | i + 1 => by
    have := ckE_rng l last u i
    unfold ckE
    split <;> omega
noncomputable def clkR (l : List EH) (n : Nat) (t : Int) : List Int := if lnA l t l.length < 0 then rowG n (fun _ => 0) else rowG n fun u => ckE l (lnA l t l.length).toNat u l.length
noncomputable def frR (l : List EH) (n : Int) : RaceM := if (chkE l n).2 = 0 then frst l else (-1, -1, -1)
theorem best_rcR (l : List EH) (n : Int) : bestF (rcR l n) = frR l n := by
  unfold rcR frR
  split
  · exact best_all l
  · rfl
section
variable {W0 : World} {own : Own} {a : Option Addr} {cap : Nat} {l : List EH}
theorem sp_rnone (W0 : World) (own : Own) : Pure Tryd.prog W0 22 [] own (.agg #[.int .i64 (-1), .int .i64 (-1), .int .i64 (-1)]) := by
  refine pure_of (spec_of mixed low_ref24_None (by simp [ir_ref24_None]) ?_)
  repeat' ((try (conv => whnf)); first | (refine when_ye ?_ ?_; exact rfl) | (refine when_ne ?_ ?_; exact rfl) | (refine br_te ?_ ?_; exact rfl) | (refine br_fe ?_ ?_; exact rfl) | (apply br_pyE; (exact rfl); omega) | (apply br_pnE; (exact rfl); omega) | (apply when_pyE; (exact rfl); omega) | (apply when_pnE; (exact rfl); omega) | (apply br_npyE; (exact rfl); omega) | (apply br_npnE; (exact rfl); omega) | (apply when_npyE; (exact rfl); omega) | (apply when_npnE; (exact rfl); omega) | (refine ari ?_ ?_; omega) | (refine aru ?_ ?_; omega) | (apply sel; exact rfl) | (refine ix0 rfl ?_) | (refine ix1 rfl ?_) | (refine ix2 rfl ?_) | (refine ix3 rfl ?_) | (apply ixj; omega) | (refine ixn ?_ ?_; omega) | (refine ixs0 rfl ?_) | (refine ixs1 rfl ?_) | (refine ixs_j ?_ ?_; omega) | (refine ixs_n ?_ ?_; omega) | (apply ld_o; exact rfl) | (apply ldN_a; exact rfl) | (apply ldN_o; (exact rfl); exact rfl) | (apply st_o; (exact rfl); exact rfl) | (apply stN_o; (exact rfl); (exact rfl); exact rfl) | (refine new_i (fun bk hbk => ?_)) | (apply when_dE; (exact rfl); (exact rfl); all_goals intro hc) | (apply when_dF; (exact rfl); (exact rfl); all_goals intro hc) | (apply when_nE; (exact rfl); (exact rfl); all_goals intro hc) | (apply when_nF; (exact rfl); (exact rfl); all_goals intro hc) | (apply br_dE; (exact rfl); all_goals intro hc) | (apply br_nE; (exact rfl); all_goals intro hc) | (refine mm_min ?_) | (refine mm_max ?_) | (refine rem_i ?_ ?_; omega) | (refine SelN.mk ?_) | (refine cut_n ?_) | (refine Both.mk ?_ ?_) | (exact True.intro))
  exact ⟨rfl, (by first | exact ent_i | (repeat (first | exact Ent.refl | exact Ent.left | refine Ent.cons ?_ | refine Ent.app ?_)))⟩
theorem sp_rfirst (hR : RdE EH.enc 6 W0 own a l) (hE : ∀ e ∈ l, EvR W0 own e) (n : Int) :
    Pure Tryd.prog W0 20 [.slice a l.length cap, .int .i64 n] own (.agg (encRc (frR l n)).toArray) := by
  refine pure_of (spec_of mixed low_ref24_First (by simp [ir_ref24_First]) ?_)
  rw [← best_rcR]
  have hlen : (rcR l n).length ≤ 65536 * (64 * 65536) := by
    unfold rcR
    split
    · rename_i hc
      have hl := (chk_wf hc).2.1
      exact Nat.le_trans (rcA_len l l.length l.length (Nat.le_refl _)) (Nat.mul_le_mul hl (by omega))
    · simp
  have hrc : ∀ own' [EntC own' own], Spec Tryd.prog W0 39 [.slice a l.length cap, .int .i64 n] own' _ := fun own' h => sp_rraces (hR.up (own := own')) (fun e he => (hE e he).up (own := own')) n
  repeat' ((try (conv => whnf)); first | (refine when_ye ?_ ?_; exact rfl) | (refine when_ne ?_ ?_; exact rfl) | (refine br_te ?_ ?_; exact rfl) | (refine br_fe ?_ ?_; exact rfl) | (apply br_pyE; (exact rfl); omega) | (apply br_pnE; (exact rfl); omega) | (apply when_pyE; (exact rfl); omega) | (apply when_pnE; (exact rfl); omega) | (apply br_npyE; (exact rfl); omega) | (apply br_npnE; (exact rfl); omega) | (apply when_npyE; (exact rfl); omega) | (apply when_npnE; (exact rfl); omega) | ((with_reducible show CallT _ _ _ _ _ _); first | ((refine call_x (hrc _) ?_ ?_ (fun s v hv => ?_); (exact rfl); (exact rfl); (obtain ⟨ra, rc, D⟩ := s; obtain ⟨rfl, hB⟩ := hv; dsimp only at hB); (apply Stop.h)))) | (refine ari ?_ ?_; omega) | (refine aru ?_ ?_; omega) | (apply sel; exact rfl) | (refine ix0 rfl ?_) | (refine ix1 rfl ?_) | (refine ix2 rfl ?_) | (refine ix3 rfl ?_) | (apply ixj; omega) | (refine ixn ?_ ?_; omega) | (refine ixs0 rfl ?_) | (refine ixs1 rfl ?_) | (refine ixs_j ?_ ?_; omega) | (refine ixs_n ?_ ?_; omega) | (apply ld_o; exact rfl) | (apply ldN_a; exact rfl) | (apply ldN_o; (exact rfl); exact rfl) | (apply st_o; (exact rfl); exact rfl) | (apply stN_o; (exact rfl); (exact rfl); exact rfl) | (refine new_i (fun bk hbk => ?_)) | (apply when_dE; (exact rfl); (exact rfl); all_goals intro hc) | (apply when_dF; (exact rfl); (exact rfl); all_goals intro hc) | (apply when_nE; (exact rfl); (exact rfl); all_goals intro hc) | (apply when_nF; (exact rfl); (exact rfl); all_goals intro hc) | (apply br_dE; (exact rfl); all_goals intro hc) | (apply br_nE; (exact rfl); all_goals intro hc) | (refine mm_min ?_) | (refine mm_max ?_) | (refine rem_i ?_ ?_; omega) | (refine SelN.mk ?_) | (refine cut_n ?_) | (refine Both.mk ?_ ?_) | (exact True.intro))
  refine Stop.mk ?_
  clear hrc
  have hno := sp_rnone W0
  generalize rcR l n = L at *
  cases L with
  | nil =>
    have h0 : ((([] : List RaceM).length : Nat) : Int) = 0 := rfl
    repeat' ((try (conv => whnf)); first | (refine when_ye ?_ ?_; exact rfl) | (refine when_ne ?_ ?_; exact rfl) | (refine br_te ?_ ?_; exact rfl) | (refine br_fe ?_ ?_; exact rfl) | (apply br_pyE; (exact rfl); omega) | (apply br_pnE; (exact rfl); omega) | (apply when_pyE; (exact rfl); omega) | (apply when_pnE; (exact rfl); omega) | (apply br_npyE; (exact rfl); omega) | (apply br_npnE; (exact rfl); omega) | (apply when_npyE; (exact rfl); omega) | (apply when_npnE; (exact rfl); omega) | (refine br_pyE ?_ h0 ?_; exact rfl) | (refine br_pnE ?_ h0 ?_; exact rfl) | (refine when_pyE ?_ h0 ?_; exact rfl) | (refine when_pnE ?_ h0 ?_; exact rfl) | (refine br_npyE ?_ h0 ?_; exact rfl) | (refine br_npnE ?_ h0 ?_; exact rfl) | (refine when_npyE ?_ h0 ?_; exact rfl) | (refine when_npnE ?_ h0 ?_; exact rfl) | ((with_reducible show CallT _ _ _ _ _ _); first | ((refine call_pe (hno _) ?_ ?_ ?_; (exact rfl); exact rfl))) | (refine ari ?_ ?_; omega) | (refine aru ?_ ?_; omega) | (apply sel; exact rfl) | (refine ix0 rfl ?_) | (refine ix1 rfl ?_) | (refine ix2 rfl ?_) | (refine ix3 rfl ?_) | (apply ixj; omega) | (refine ixn ?_ ?_; omega) | (refine ixs0 rfl ?_) | (refine ixs1 rfl ?_) | (refine ixs_j ?_ ?_; omega) | (refine ixs_n ?_ ?_; omega) | (apply ld_o; exact rfl) | (apply ldN_a; exact rfl) | (apply ldN_o; (exact rfl); exact rfl) | (apply st_o; (exact rfl); exact rfl) | (apply stN_o; (exact rfl); (exact rfl); exact rfl) | (refine new_i (fun bk hbk => ?_)) | (apply when_dE; (exact rfl); (exact rfl); all_goals intro hc) | (apply when_dF; (exact rfl); (exact rfl); all_goals intro hc) | (apply when_nE; (exact rfl); (exact rfl); all_goals intro hc) | (apply when_nF; (exact rfl); (exact rfl); all_goals intro hc) | (apply br_dE; (exact rfl); all_goals intro hc) | (apply br_nE; (exact rfl); all_goals intro hc) | (refine mm_min ?_) | (refine mm_max ?_) | (refine rem_i ?_ ?_; omega) | (refine SelN.mk ?_) | (refine cut_n ?_) | (refine Both.mk ?_ ?_) | (exact True.intro))
    exact ⟨rfl, (by first | exact ent_i | (repeat (first | exact Ent.refl | exact Ent.left | refine Ent.cons ?_ | refine Ent.app ?_)))⟩
  | cons r0 rs =>
    have hrd := hB.rd (W0 := W0)
    have hl0 : ¬ (((r0 :: rs).length : Nat) : Int) = 0 := by simp; omega
    have hx0 : (r0 :: rs)[0]? = some r0 := rfl
    obtain ⟨res, hres⟩ : ∃ res, res = bestF (r0 :: rs) := ⟨_, rfl⟩
    rw [← hres]
    have hrs : rs.foldl bstep r0 = res := hres.symm
    clear hres
    generalize hL : r0 :: rs = L at *
    have hLl : L.length = rs.length + 1 := by rw [← hL]; rfl
    have hLg : ∀ c x, rs[c]? = some x → L[c + 1]? = some x := fun c x h => by rw [← hL]; simpa using h
    repeat' ((try (conv => whnf)); first | (refine when_ye ?_ ?_; exact rfl) | (refine when_ne ?_ ?_; exact rfl) | (refine br_te ?_ ?_; exact rfl) | (refine br_fe ?_ ?_; exact rfl) | (apply br_pyE; (exact rfl); omega) | (apply br_pnE; (exact rfl); omega) | (apply when_pyE; (exact rfl); omega) | (apply when_pnE; (exact rfl); omega) | (apply br_npyE; (exact rfl); omega) | (apply br_npnE; (exact rfl); omega) | (apply when_npyE; (exact rfl); omega) | (apply when_npnE; (exact rfl); omega) | (refine br_pyE ?_ hl0 ?_; exact rfl) | (refine br_pnE ?_ hl0 ?_; exact rfl) | (refine when_pyE ?_ hl0 ?_; exact rfl) | (refine when_pnE ?_ hl0 ?_; exact rfl) | (refine br_npyE ?_ hl0 ?_; exact rfl) | (refine br_npnE ?_ hl0 ?_; exact rfl) | (refine when_npyE ?_ hl0 ?_; exact rfl) | (refine when_npnE ?_ hl0 ?_; exact rfl) | (refine new_i (fun bk1 hbk1 => ?_)) | ((with_reducible show Ld _ _ _ _); first | (refine ldE0 hrd hx0 rfl ?_) | (refine ldEk hrd hx0 rfl ?_) | (refine ldE1 hrd hx0 rfl ?_)) | ((with_reducible show IxS _ _ _ _ _); first | ((refine ixE hrd hx0 ?_ ?_; (first | rfl | omega)))) | ((with_reducible show LdN _ _ _ _ _); first | (refine ldNEi hrd hx0 rfl ?_)) | (refine ari ?_ ?_; omega) | (refine aru ?_ ?_; omega) | (apply sel; exact rfl) | (refine ix0 rfl ?_) | (refine ix1 rfl ?_) | (refine ix2 rfl ?_) | (refine ix3 rfl ?_) | (apply ixj; omega) | (refine ixn ?_ ?_; omega) | (refine ixs0 rfl ?_) | (refine ixs1 rfl ?_) | (refine ixs_j ?_ ?_; omega) | (refine ixs_n ?_ ?_; omega) | (apply ld_o; exact rfl) | (apply ldN_a; exact rfl) | (apply ldN_o; (exact rfl); exact rfl) | (apply st_o; (exact rfl); exact rfl) | (apply stN_o; (exact rfl); (exact rfl); exact rfl) | (refine new_i (fun bk hbk => ?_)) | (apply when_dE; (exact rfl); (exact rfl); all_goals intro hc) | (apply when_dF; (exact rfl); (exact rfl); all_goals intro hc) | (apply when_nE; (exact rfl); (exact rfl); all_goals intro hc) | (apply when_nF; (exact rfl); (exact rfl); all_goals intro hc) | (apply br_dE; (exact rfl); all_goals intro hc) | (apply br_nE; (exact rfl); all_goals intro hc) | (refine mm_min ?_) | (refine mm_max ?_) | (refine rem_i ?_ ?_; omega) | (refine SelN.mk ?_) | (refine cut_n ?_) | (refine Both.mk ?_ ?_) | (exact True.intro))
    refine loop_i (σ := Nat × RaceM) (fun s => [(7, .int .i64 ((s.1 : Nat) + 1 : Int))]) (fun s => (bk1, fun o => o = Obj.cells (encRc s.2).toArray 28) :: (D ++ ((bk, fun o => o = Obj.cells #[.int .i64 0, .int .i64 0, .int .i64 0] 28) :: own)))
      (fun s => s.1 ≤ rs.length ∧ (rs.drop s.1).foldl bstep s.2 = res) (fun s => rs.length - s.1) (0, r0) ⟨by simp, by simpa using hrs⟩ (by repeat' (first | exact True.intro | refine And.intro ?_ ?_ | exact rfl | exact vi (by omega) | (dsimp only; exact rfl) | (dsimp only; exact vi (by omega)))) Ent.refl rfl ?_
    rintro ⟨c, b⟩ junk ⟨hc, hI⟩
    dsimp only at hc hI ⊢
    by_cases hlt : c < rs.length
    · obtain ⟨x, hx⟩ : ∃ x, rs[c]? = some x := ⟨_, List.getElem?_eq_getElem hlt⟩
      have hx' := hLg c x hx
      have hlt' : ((c : Int) + 1) < L.length := by omega
      rw [drop_at hx, List.foldl_cons] at hI
      obtain ⟨x1, x2, x3⟩ := x
      obtain ⟨b1, b2, b3⟩ := b
      by_cases h1 : x2 = b2 ∧ x3 = b3 ∧ b1 < x1
      · have hb : bstep (b1, b2, b3) (x1, x2, x3) = (x1, x2, x3) := by unfold bstep; rw [if_pos h1]
        rw [hb] at hI
        obtain ⟨h1, h2, h3⟩ := h1
        have hx4 : L[c + 1]? = some (x1, x2, x3) := hx'
        repeat' ((try (conv => whnf)); first | (refine when_ye ?_ ?_; exact rfl) | (refine when_ne ?_ ?_; exact rfl) | (refine br_te ?_ ?_; exact rfl) | (refine br_fe ?_ ?_; exact rfl) | (apply br_pyE; (exact rfl); omega) | (apply br_pnE; (exact rfl); omega) | (apply when_pyE; (exact rfl); omega) | (apply when_pnE; (exact rfl); omega) | (apply br_npyE; (exact rfl); omega) | (apply br_npnE; (exact rfl); omega) | (apply when_npyE; (exact rfl); omega) | (apply when_npnE; (exact rfl); omega) | (refine br_pyE ?_ hlt' ?_; exact rfl) | (refine br_pnE ?_ hlt' ?_; exact rfl) | (refine when_pyE ?_ hlt' ?_; exact rfl) | (refine when_pnE ?_ hlt' ?_; exact rfl) | (refine br_npyE ?_ hlt' ?_; exact rfl) | (refine br_npnE ?_ hlt' ?_; exact rfl) | (refine when_npyE ?_ hlt' ?_; exact rfl) | (refine when_npnE ?_ hlt' ?_; exact rfl) | (refine br_pyE ?_ h1 ?_; exact rfl) | (refine br_pnE ?_ h1 ?_; exact rfl) | (refine when_pyE ?_ h1 ?_; exact rfl) | (refine when_pnE ?_ h1 ?_; exact rfl) | (refine br_npyE ?_ h1 ?_; exact rfl) | (refine br_npnE ?_ h1 ?_; exact rfl) | (refine when_npyE ?_ h1 ?_; exact rfl) | (refine when_npnE ?_ h1 ?_; exact rfl) | (refine br_pyE ?_ h2 ?_; exact rfl) | (refine br_pnE ?_ h2 ?_; exact rfl) | (refine when_pyE ?_ h2 ?_; exact rfl) | (refine when_pnE ?_ h2 ?_; exact rfl) | (refine br_npyE ?_ h2 ?_; exact rfl) | (refine br_npnE ?_ h2 ?_; exact rfl) | (refine when_npyE ?_ h2 ?_; exact rfl) | (refine when_npnE ?_ h2 ?_; exact rfl) | (refine br_pyE ?_ h3 ?_; exact rfl) | (refine br_pnE ?_ h3 ?_; exact rfl) | (refine when_pyE ?_ h3 ?_; exact rfl) | (refine when_pnE ?_ h3 ?_; exact rfl) | (refine br_npyE ?_ h3 ?_; exact rfl) | (refine br_npnE ?_ h3 ?_; exact rfl) | (refine when_npyE ?_ h3 ?_; exact rfl) | (refine when_npnE ?_ h3 ?_; exact rfl) | ((with_reducible show Ld _ _ _ _); first | (refine ldE0 hrd hx' rfl ?_) | (refine ldEk hrd hx' rfl ?_) | (refine ldE1 hrd hx' rfl ?_)) | ((with_reducible show IxS _ _ _ _ _); first | ((refine ixE hrd hx' ?_ ?_; (first | rfl | omega)))) | ((with_reducible show LdN _ _ _ _ _); first | (refine ldNEi hrd hx' rfl ?_)) | (refine ari ?_ ?_; omega) | (refine aru ?_ ?_; omega) | (apply sel; exact rfl) | (refine ix0 rfl ?_) | (refine ix1 rfl ?_) | (refine ix2 rfl ?_) | (refine ix3 rfl ?_) | (apply ixj; omega) | (refine ixn ?_ ?_; omega) | (refine ixs0 rfl ?_) | (refine ixs1 rfl ?_) | (refine ixs_j ?_ ?_; omega) | (refine ixs_n ?_ ?_; omega) | (apply ld_o; exact rfl) | (apply ldN_a; exact rfl) | (apply ldN_o; (exact rfl); exact rfl) | (apply st_o; (exact rfl); exact rfl) | (apply stN_o; (exact rfl); (exact rfl); exact rfl) | (refine new_i (fun bk hbk => ?_)) | (apply when_dE; (exact rfl); (exact rfl); all_goals intro hc) | (apply when_dF; (exact rfl); (exact rfl); all_goals intro hc) | (apply when_nE; (exact rfl); (exact rfl); all_goals intro hc) | (apply when_nF; (exact rfl); (exact rfl); all_goals intro hc) | (apply br_dE; (exact rfl); all_goals intro hc) | (apply br_nE; (exact rfl); all_goals intro hc) | (refine mm_min ?_) | (refine mm_max ?_) | (refine rem_i ?_ ?_; omega) | (refine SelN.mk ?_) | (refine cut_n ?_) | (refine Both.mk ?_ ?_) | (exact True.intro))
        exact ⟨(c + 1, x1, x2, x3), ⟨by simp only; omega, hI⟩, by simp only; omega, (by repeat' (first | exact True.intro | refine And.intro ?_ ?_ | exact rfl | exact vi (by omega) | (dsimp only; exact rfl) | (dsimp only; exact vi (by omega)))), Ent.refl⟩
      · have hb : bstep (b1, b2, b3) (x1, x2, x3) = (b1, b2, b3) := by unfold bstep; rw [if_neg h1]
        rw [hb] at hI
        repeat' ((try (conv => whnf)); first | (refine when_ye ?_ ?_; exact rfl) | (refine when_ne ?_ ?_; exact rfl) | (refine br_te ?_ ?_; exact rfl) | (refine br_fe ?_ ?_; exact rfl) | (apply br_pyE; (exact rfl); omega) | (apply br_pnE; (exact rfl); omega) | (apply when_pyE; (exact rfl); omega) | (apply when_pnE; (exact rfl); omega) | (apply br_npyE; (exact rfl); omega) | (apply br_npnE; (exact rfl); omega) | (apply when_npyE; (exact rfl); omega) | (apply when_npnE; (exact rfl); omega) | (refine br_pyE ?_ hlt' ?_; exact rfl) | (refine br_pnE ?_ hlt' ?_; exact rfl) | (refine when_pyE ?_ hlt' ?_; exact rfl) | (refine when_pnE ?_ hlt' ?_; exact rfl) | (refine br_npyE ?_ hlt' ?_; exact rfl) | (refine br_npnE ?_ hlt' ?_; exact rfl) | (refine when_npyE ?_ hlt' ?_; exact rfl) | (refine when_npnE ?_ hlt' ?_; exact rfl) | ((with_reducible show Ld _ _ _ _); first | (refine ldE0 hrd hx' rfl ?_) | (refine ldEk hrd hx' rfl ?_) | (refine ldE1 hrd hx' rfl ?_)) | ((with_reducible show IxS _ _ _ _ _); first | ((refine ixE hrd hx' ?_ ?_; (first | rfl | omega)))) | ((with_reducible show LdN _ _ _ _ _); first | (refine ldNEi hrd hx' rfl ?_)) | (refine ari ?_ ?_; omega) | (refine aru ?_ ?_; omega) | (apply sel; exact rfl) | (refine ix0 rfl ?_) | (refine ix1 rfl ?_) | (refine ix2 rfl ?_) | (refine ix3 rfl ?_) | (apply ixj; omega) | (refine ixn ?_ ?_; omega) | (refine ixs0 rfl ?_) | (refine ixs1 rfl ?_) | (refine ixs_j ?_ ?_; omega) | (refine ixs_n ?_ ?_; omega) | (apply ld_o; exact rfl) | (apply ldN_a; exact rfl) | (apply ldN_o; (exact rfl); exact rfl) | (apply st_o; (exact rfl); exact rfl) | (apply stN_o; (exact rfl); (exact rfl); exact rfl) | (refine new_i (fun bk hbk => ?_)) | (apply when_dE; (exact rfl); (exact rfl); all_goals intro hc) | (apply when_dF; (exact rfl); (exact rfl); all_goals intro hc) | (apply when_nE; (exact rfl); (exact rfl); all_goals intro hc) | (apply when_nF; (exact rfl); (exact rfl); all_goals intro hc) | (apply br_dE; (exact rfl); all_goals intro hc) | (apply br_nE; (exact rfl); all_goals intro hc) | (refine mm_min ?_) | (refine mm_max ?_) | (refine rem_i ?_ ?_; omega) | (refine SelN.mk ?_) | (refine cut_n ?_) | (refine Both.mk ?_ ?_) | (exact True.intro))
        all_goals first | (exfalso; omega) | (exfalso; dsimp only at *; omega) | exact ⟨(c + 1, b1, b2, b3), ⟨by simp only; omega, hI⟩, by simp only; omega, (by repeat' (first | exact True.intro | refine And.intro ?_ ?_ | exact rfl | exact vi (by omega) | (dsimp only; exact rfl) | (dsimp only; exact vi (by omega)))), Ent.refl⟩
    · have hlt' : ¬ ((c : Int) + 1) < L.length := by omega
      have hb : b = res := by rw [List.drop_eq_nil_of_le (by omega)] at hI; exact hI
      subst hb
      repeat' ((try (conv => whnf)); first | (refine when_ye ?_ ?_; exact rfl) | (refine when_ne ?_ ?_; exact rfl) | (refine br_te ?_ ?_; exact rfl) | (refine br_fe ?_ ?_; exact rfl) | (apply br_pyE; (exact rfl); omega) | (apply br_pnE; (exact rfl); omega) | (apply when_pyE; (exact rfl); omega) | (apply when_pnE; (exact rfl); omega) | (apply br_npyE; (exact rfl); omega) | (apply br_npnE; (exact rfl); omega) | (apply when_npyE; (exact rfl); omega) | (apply when_npnE; (exact rfl); omega) | (refine br_pyE ?_ hlt' ?_; exact rfl) | (refine br_pnE ?_ hlt' ?_; exact rfl) | (refine when_pyE ?_ hlt' ?_; exact rfl) | (refine when_pnE ?_ hlt' ?_; exact rfl) | (refine br_npyE ?_ hlt' ?_; exact rfl) | (refine br_npnE ?_ hlt' ?_; exact rfl) | (refine when_npyE ?_ hlt' ?_; exact rfl) | (refine when_npnE ?_ hlt' ?_; exact rfl) | (refine ari ?_ ?_; omega) | (refine aru ?_ ?_; omega) | (apply sel; exact rfl) | (refine ix0 rfl ?_) | (refine ix1 rfl ?_) | (refine ix2 rfl ?_) | (refine ix3 rfl ?_) | (apply ixj; omega) | (refine ixn ?_ ?_; omega) | (refine ixs0 rfl ?_) | (refine ixs1 rfl ?_) | (refine ixs_j ?_ ?_; omega) | (refine ixs_n ?_ ?_; omega) | (apply ld_o; exact rfl) | (apply ldN_a; exact rfl) | (apply ldN_o; (exact rfl); exact rfl) | (apply st_o; (exact rfl); exact rfl) | (apply stN_o; (exact rfl); (exact rfl); exact rfl) | (refine new_i (fun bk hbk => ?_)) | (apply when_dE; (exact rfl); (exact rfl); all_goals intro hc) | (apply when_dF; (exact rfl); (exact rfl); all_goals intro hc) | (apply when_nE; (exact rfl); (exact rfl); all_goals intro hc) | (apply when_nF; (exact rfl); (exact rfl); all_goals intro hc) | (apply br_dE; (exact rfl); all_goals intro hc) | (apply br_nE; (exact rfl); all_goals intro hc) | (refine mm_min ?_) | (refine mm_max ?_) | (refine rem_i ?_ ?_; omega) | (refine SelN.mk ?_) | (refine cut_n ?_) | (refine Both.mk ?_ ?_) | (exact True.intro))
      exact ⟨rfl, (by first | exact ent_i | (repeat (first | exact Ent.refl | exact Ent.left | refine Ent.cons ?_ | refine Ent.app ?_)))⟩
theorem sp_rclock {n : Nat} {t : Int} (hw : Wf l n) (hn : n ≤ 16) (ht : 0 ≤ t ∧ t < n) (hR : RdE EH.enc 6 W0 own a l) (hl : l.length ≤ 65536) :
    Spec Tryd.prog W0 31 [.slice a l.length cap, .int .i64 n, .int .i64 t] own fun v own' => ∃ s : Nat, v = .slice (some ⟨s, 0, none⟩) n n ∧ Ent W0 own' (canE encI 3 s (clkR l n t) :: own) := by
  refine spec_of mixed low_ref24_Clock (by simp [ir_ref24_Clock]) ?_
  repeat' ((try (conv => whnf)); first | (refine when_ye ?_ ?_; exact rfl) | (refine when_ne ?_ ?_; exact rfl) | (refine br_te ?_ ?_; exact rfl) | (refine br_fe ?_ ?_; exact rfl) | (apply br_pyE; (exact rfl); omega) | (apply br_pnE; (exact rfl); omega) | (apply when_pyE; (exact rfl); omega) | (apply when_pnE; (exact rfl); omega) | (apply br_npyE; (exact rfl); omega) | (apply br_npnE; (exact rfl); omega) | (apply when_npyE; (exact rfl); omega) | (apply when_npnE; (exact rfl); omega) | (refine mkC (enc := encI) n 0 rfl rfl rfl (by omega) (fun b => ?_)) | (refine ari ?_ ?_; omega) | (refine aru ?_ ?_; omega) | (apply sel; exact rfl) | (refine ix0 rfl ?_) | (refine ix1 rfl ?_) | (refine ix2 rfl ?_) | (refine ix3 rfl ?_) | (apply ixj; omega) | (refine ixn ?_ ?_; omega) | (refine ixs0 rfl ?_) | (refine ixs1 rfl ?_) | (refine ixs_j ?_ ?_; omega) | (refine ixs_n ?_ ?_; omega) | (apply ld_o; exact rfl) | (apply ldN_a; exact rfl) | (apply ldN_o; (exact rfl); exact rfl) | (apply st_o; (exact rfl); exact rfl) | (apply stN_o; (exact rfl); (exact rfl); exact rfl) | (refine new_i (fun bk hbk => ?_)) | (apply when_dE; (exact rfl); (exact rfl); all_goals intro hc) | (apply when_dF; (exact rfl); (exact rfl); all_goals intro hc) | (apply when_nE; (exact rfl); (exact rfl); all_goals intro hc) | (apply when_nF; (exact rfl); (exact rfl); all_goals intro hc) | (apply br_dE; (exact rfl); all_goals intro hc) | (apply br_nE; (exact rfl); all_goals intro hc) | (refine mm_min ?_) | (refine mm_max ?_) | (refine rem_i ?_ ?_; omega) | (refine SelN.mk ?_) | (refine cut_n ?_) | (refine Both.mk ?_ ?_) | (exact True.intro))
  refine loop_c (σ := Nat) (fun i => [(8, .int .i64 (lnA l t i)), (9, .int .i64 i)]) (fun i => i ≤ l.length) (fun i => l.length - i) 0 (by omega) (by repeat' (first | exact True.intro | refine And.intro ?_ ?_ | exact rfl | exact vi (by omega) | (dsimp only; exact rfl) | (dsimp only; exact vi (by omega)))) rfl ?_
  intro i junk hi
  by_cases hlt : i < l.length
  · obtain ⟨e, he⟩ : ∃ e, l[i]? = some e := ⟨_, List.getElem?_eq_getElem hlt⟩
    have hlt' : (i : Int) < l.length := by omega
    have hae : at' l i = e := at_get he
    have hnx : lnA l t (i + 1) = if e.t = t ∧ e.k ≠ 3 then (i : Int) else lnA l t i := by show (if thr l i = t ∧ knd l i ≠ 3 then _ else _) = _; unfold thr knd; rw [hae]
    by_cases h1 : e.t = t ∧ e.k ≠ 3
    · rw [if_pos h1] at hnx
      obtain ⟨h1, h2⟩ := h1
      repeat' ((try (conv => whnf)); first | (refine when_ye ?_ ?_; exact rfl) | (refine when_ne ?_ ?_; exact rfl) | (refine br_te ?_ ?_; exact rfl) | (refine br_fe ?_ ?_; exact rfl) | (apply br_pyE; (exact rfl); omega) | (apply br_pnE; (exact rfl); omega) | (apply when_pyE; (exact rfl); omega) | (apply when_pnE; (exact rfl); omega) | (apply br_npyE; (exact rfl); omega) | (apply br_npnE; (exact rfl); omega) | (apply when_npyE; (exact rfl); omega) | (apply when_npnE; (exact rfl); omega) | (refine br_pyE ?_ hlt' ?_; exact rfl) | (refine br_pnE ?_ hlt' ?_; exact rfl) | (refine when_pyE ?_ hlt' ?_; exact rfl) | (refine when_pnE ?_ hlt' ?_; exact rfl) | (refine br_npyE ?_ hlt' ?_; exact rfl) | (refine br_npnE ?_ hlt' ?_; exact rfl) | (refine when_npyE ?_ hlt' ?_; exact rfl) | (refine when_npnE ?_ hlt' ?_; exact rfl) | (refine br_pyE ?_ h1 ?_; exact rfl) | (refine br_pnE ?_ h1 ?_; exact rfl) | (refine when_pyE ?_ h1 ?_; exact rfl) | (refine when_pnE ?_ h1 ?_; exact rfl) | (refine br_npyE ?_ h1 ?_; exact rfl) | (refine br_npnE ?_ h1 ?_; exact rfl) | (refine when_npyE ?_ h1 ?_; exact rfl) | (refine when_npnE ?_ h1 ?_; exact rfl) | (refine br_pyE ?_ h2 ?_; exact rfl) | (refine br_pnE ?_ h2 ?_; exact rfl) | (refine when_pyE ?_ h2 ?_; exact rfl) | (refine when_pnE ?_ h2 ?_; exact rfl) | (refine br_npyE ?_ h2 ?_; exact rfl) | (refine br_npnE ?_ h2 ?_; exact rfl) | (refine when_npyE ?_ h2 ?_; exact rfl) | (refine when_npnE ?_ h2 ?_; exact rfl) | ((with_reducible show Ld _ _ _ _); first | (refine ldE0 hR he rfl ?_) | (refine ldEk hR he rfl ?_) | (refine ldE1 hR he rfl ?_)) | ((with_reducible show IxS _ _ _ _ _); first | ((refine ixE hR he ?_ ?_; (first | rfl | omega)))) | ((with_reducible show LdN _ _ _ _ _); first | (refine ldNEi hR he rfl ?_)) | (refine ari ?_ ?_; omega) | (refine aru ?_ ?_; omega) | (apply sel; exact rfl) | (refine ix0 rfl ?_) | (refine ix1 rfl ?_) | (refine ix2 rfl ?_) | (refine ix3 rfl ?_) | (apply ixj; omega) | (refine ixn ?_ ?_; omega) | (refine ixs0 rfl ?_) | (refine ixs1 rfl ?_) | (refine ixs_j ?_ ?_; omega) | (refine ixs_n ?_ ?_; omega) | (apply ld_o; exact rfl) | (apply ldN_a; exact rfl) | (apply ldN_o; (exact rfl); exact rfl) | (apply st_o; (exact rfl); exact rfl) | (apply stN_o; (exact rfl); (exact rfl); exact rfl) | (refine new_i (fun bk hbk => ?_)) | (apply when_dE; (exact rfl); (exact rfl); all_goals intro hc) | (apply when_dF; (exact rfl); (exact rfl); all_goals intro hc) | (apply when_nE; (exact rfl); (exact rfl); all_goals intro hc) | (apply when_nF; (exact rfl); (exact rfl); all_goals intro hc) | (apply br_dE; (exact rfl); all_goals intro hc) | (apply br_nE; (exact rfl); all_goals intro hc) | (refine mm_min ?_) | (refine mm_max ?_) | (refine rem_i ?_ ?_; omega) | (refine SelN.mk ?_) | (refine cut_n ?_) | (refine Both.mk ?_ ?_) | (exact True.intro))
      exact ⟨i + 1, by omega, by omega, (by rw [hnx]; exact (by repeat' (first | exact True.intro | refine And.intro ?_ ?_ | exact rfl | exact vi (by omega) | (dsimp only; exact rfl) | (dsimp only; exact vi (by omega))))), Ent.refl⟩
    · rw [if_neg h1] at hnx
      repeat' ((try (conv => whnf)); first | (refine when_ye ?_ ?_; exact rfl) | (refine when_ne ?_ ?_; exact rfl) | (refine br_te ?_ ?_; exact rfl) | (refine br_fe ?_ ?_; exact rfl) | (apply br_pyE; (exact rfl); omega) | (apply br_pnE; (exact rfl); omega) | (apply when_pyE; (exact rfl); omega) | (apply when_pnE; (exact rfl); omega) | (apply br_npyE; (exact rfl); omega) | (apply br_npnE; (exact rfl); omega) | (apply when_npyE; (exact rfl); omega) | (apply when_npnE; (exact rfl); omega) | (refine br_pyE ?_ hlt' ?_; exact rfl) | (refine br_pnE ?_ hlt' ?_; exact rfl) | (refine when_pyE ?_ hlt' ?_; exact rfl) | (refine when_pnE ?_ hlt' ?_; exact rfl) | (refine br_npyE ?_ hlt' ?_; exact rfl) | (refine br_npnE ?_ hlt' ?_; exact rfl) | (refine when_npyE ?_ hlt' ?_; exact rfl) | (refine when_npnE ?_ hlt' ?_; exact rfl) | ((with_reducible show Ld _ _ _ _); first | (refine ldE0 hR he rfl ?_) | (refine ldEk hR he rfl ?_) | (refine ldE1 hR he rfl ?_)) | ((with_reducible show IxS _ _ _ _ _); first | ((refine ixE hR he ?_ ?_; (first | rfl | omega)))) | ((with_reducible show LdN _ _ _ _ _); first | (refine ldNEi hR he rfl ?_)) | (refine ari ?_ ?_; omega) | (refine aru ?_ ?_; omega) | (apply sel; exact rfl) | (refine ix0 rfl ?_) | (refine ix1 rfl ?_) | (refine ix2 rfl ?_) | (refine ix3 rfl ?_) | (apply ixj; omega) | (refine ixn ?_ ?_; omega) | (refine ixs0 rfl ?_) | (refine ixs1 rfl ?_) | (refine ixs_j ?_ ?_; omega) | (refine ixs_n ?_ ?_; omega) | (apply ld_o; exact rfl) | (apply ldN_a; exact rfl) | (apply ldN_o; (exact rfl); exact rfl) | (apply st_o; (exact rfl); exact rfl) | (apply stN_o; (exact rfl); (exact rfl); exact rfl) | (refine new_i (fun bk hbk => ?_)) | (apply when_dE; (exact rfl); (exact rfl); all_goals intro hc) | (apply when_dF; (exact rfl); (exact rfl); all_goals intro hc) | (apply when_nE; (exact rfl); (exact rfl); all_goals intro hc) | (apply when_nF; (exact rfl); (exact rfl); all_goals intro hc) | (apply br_dE; (exact rfl); all_goals intro hc) | (apply br_nE; (exact rfl); all_goals intro hc) | (refine mm_min ?_) | (refine mm_max ?_) | (refine rem_i ?_ ?_; omega) | (refine SelN.mk ?_) | (refine cut_n ?_) | (refine Both.mk ?_ ?_) | (exact True.intro))
      all_goals first | (exfalso; omega) | exact ⟨i + 1, by omega, by omega, (by rw [hnx]; exact (by repeat' (first | exact True.intro | refine And.intro ?_ ?_ | exact rfl | exact vi (by omega) | (dsimp only; exact rfl) | (dsimp only; exact vi (by omega))))), Ent.refl⟩
  · have hlt' : ¬ (i : Int) < l.length := by omega
    have hi2 : i = l.length := by omega
    subst hi2
    have hln := lnA_lt l t l.length
    unfold clkR
    generalize lnA l t l.length = last at *
    by_cases h0 : last < 0
    · repeat' ((try (conv => whnf)); first | (refine when_ye ?_ ?_; exact rfl) | (refine when_ne ?_ ?_; exact rfl) | (refine br_te ?_ ?_; exact rfl) | (refine br_fe ?_ ?_; exact rfl) | (apply br_pyE; (exact rfl); omega) | (apply br_pnE; (exact rfl); omega) | (apply when_pyE; (exact rfl); omega) | (apply when_pnE; (exact rfl); omega) | (apply br_npyE; (exact rfl); omega) | (apply br_npnE; (exact rfl); omega) | (apply when_npyE; (exact rfl); omega) | (apply when_npnE; (exact rfl); omega) | (refine br_pyE ?_ hlt' ?_; exact rfl) | (refine br_pnE ?_ hlt' ?_; exact rfl) | (refine when_pyE ?_ hlt' ?_; exact rfl) | (refine when_pnE ?_ hlt' ?_; exact rfl) | (refine br_npyE ?_ hlt' ?_; exact rfl) | (refine br_npnE ?_ hlt' ?_; exact rfl) | (refine when_npyE ?_ hlt' ?_; exact rfl) | (refine when_npnE ?_ hlt' ?_; exact rfl) | (refine br_pyE ?_ h0 ?_; exact rfl) | (refine br_pnE ?_ h0 ?_; exact rfl) | (refine when_pyE ?_ h0 ?_; exact rfl) | (refine when_pnE ?_ h0 ?_; exact rfl) | (refine br_npyE ?_ h0 ?_; exact rfl) | (refine br_npnE ?_ h0 ?_; exact rfl) | (refine when_npyE ?_ h0 ?_; exact rfl) | (refine when_npnE ?_ h0 ?_; exact rfl) | (refine ari ?_ ?_; omega) | (refine aru ?_ ?_; omega) | (apply sel; exact rfl) | (refine ix0 rfl ?_) | (refine ix1 rfl ?_) | (refine ix2 rfl ?_) | (refine ix3 rfl ?_) | (apply ixj; omega) | (refine ixn ?_ ?_; omega) | (refine ixs0 rfl ?_) | (refine ixs1 rfl ?_) | (refine ixs_j ?_ ?_; omega) | (refine ixs_n ?_ ?_; omega) | (apply ld_o; exact rfl) | (apply ldN_a; exact rfl) | (apply ldN_o; (exact rfl); exact rfl) | (apply st_o; (exact rfl); exact rfl) | (apply stN_o; (exact rfl); (exact rfl); exact rfl) | (refine new_i (fun bk hbk => ?_)) | (apply when_dE; (exact rfl); (exact rfl); all_goals intro hc) | (apply when_dF; (exact rfl); (exact rfl); all_goals intro hc) | (apply when_nE; (exact rfl); (exact rfl); all_goals intro hc) | (apply when_nF; (exact rfl); (exact rfl); all_goals intro hc) | (apply br_dE; (exact rfl); all_goals intro hc) | (apply br_nE; (exact rfl); all_goals intro hc) | (refine mm_min ?_) | (refine mm_max ?_) | (refine rem_i ?_ ?_; omega) | (refine SelN.mk ?_) | (refine cut_n ?_) | (refine Both.mk ?_ ?_) | (exact True.intro))
      exact ⟨b, rfl, by rw [if_pos h0, rowG_rep]; exact Ent.refl⟩
    · rw [if_neg h0]
      obtain ⟨last, rfl⟩ : ∃ m : Nat, last = m := ⟨last.toNat, by omega⟩
      rw [Int.toNat_natCast]
      have hcl := sp_rclosureH (cap := cap) (own := canE encI 3 b (List.replicate n 0) :: own) hw hR.up hl
      repeat' ((try (conv => whnf)); first | (refine when_ye ?_ ?_; exact rfl) | (refine when_ne ?_ ?_; exact rfl) | (refine br_te ?_ ?_; exact rfl) | (refine br_fe ?_ ?_; exact rfl) | (apply br_pyE; (exact rfl); omega) | (apply br_pnE; (exact rfl); omega) | (apply when_pyE; (exact rfl); omega) | (apply when_pnE; (exact rfl); omega) | (apply br_npyE; (exact rfl); omega) | (apply br_npnE; (exact rfl); omega) | (apply when_npyE; (exact rfl); omega) | (apply when_npnE; (exact rfl); omega) | (refine br_pyE ?_ hlt' ?_; exact rfl) | (refine br_pnE ?_ hlt' ?_; exact rfl) | (refine when_pyE ?_ hlt' ?_; exact rfl) | (refine when_pnE ?_ hlt' ?_; exact rfl) | (refine br_npyE ?_ hlt' ?_; exact rfl) | (refine br_npnE ?_ hlt' ?_; exact rfl) | (refine when_npyE ?_ hlt' ?_; exact rfl) | (refine when_npnE ?_ hlt' ?_; exact rfl) | (refine br_pyE ?_ h0 ?_; exact rfl) | (refine br_pnE ?_ h0 ?_; exact rfl) | (refine when_pyE ?_ h0 ?_; exact rfl) | (refine when_pnE ?_ h0 ?_; exact rfl) | (refine br_npyE ?_ h0 ?_; exact rfl) | (refine br_npnE ?_ h0 ?_; exact rfl) | (refine when_npyE ?_ h0 ?_; exact rfl) | (refine when_npnE ?_ h0 ?_; exact rfl) | ((with_reducible show CallT _ _ _ _ _ _); first | ((refine call_x hcl ?_ ?_ (fun s v hv => ?_); (exact rfl); (exact rfl); (obtain ⟨ha, hcc, bs, X⟩ := s; obtain ⟨rfl, hb⟩ := hv; dsimp only at hb); (apply Stop.h)))) | (refine ari ?_ ?_; omega) | (refine aru ?_ ?_; omega) | (apply sel; exact rfl) | (refine ix0 rfl ?_) | (refine ix1 rfl ?_) | (refine ix2 rfl ?_) | (refine ix3 rfl ?_) | (apply ixj; omega) | (refine ixn ?_ ?_; omega) | (refine ixs0 rfl ?_) | (refine ixs1 rfl ?_) | (refine ixs_j ?_ ?_; omega) | (refine ixs_n ?_ ?_; omega) | (apply ld_o; exact rfl) | (apply ldN_a; exact rfl) | (apply ldN_o; (exact rfl); exact rfl) | (apply st_o; (exact rfl); exact rfl) | (apply stN_o; (exact rfl); (exact rfl); exact rfl) | (refine new_i (fun bk hbk => ?_)) | (apply when_dE; (exact rfl); (exact rfl); all_goals intro hc) | (apply when_dF; (exact rfl); (exact rfl); all_goals intro hc) | (apply when_nE; (exact rfl); (exact rfl); all_goals intro hc) | (apply when_nF; (exact rfl); (exact rfl); all_goals intro hc) | (apply br_dE; (exact rfl); all_goals intro hc) | (apply br_nE; (exact rfl); all_goals intro hc) | (refine mm_min ?_) | (refine mm_max ?_) | (refine rem_i ?_ ?_; omega) | (refine SelN.mk ?_) | (refine cut_n ?_) | (refine Both.mk ?_ ?_) | (exact True.intro))
      refine Stop.mk ?_
      clear hcl
      have hbl := hb.len
      have hbr := hb.rd
      repeat' ((try (conv => whnf)); first | (refine when_ye ?_ ?_; exact rfl) | (refine when_ne ?_ ?_; exact rfl) | (refine br_te ?_ ?_; exact rfl) | (refine br_fe ?_ ?_; exact rfl) | (apply br_pyE; (exact rfl); omega) | (apply br_pnE; (exact rfl); omega) | (apply when_pyE; (exact rfl); omega) | (apply when_pnE; (exact rfl); omega) | (apply br_npyE; (exact rfl); omega) | (apply br_npnE; (exact rfl); omega) | (apply when_npyE; (exact rfl); omega) | (apply when_npnE; (exact rfl); omega) | (refine ari ?_ ?_; omega) | (refine aru ?_ ?_; omega) | (apply sel; exact rfl) | (refine ix0 rfl ?_) | (refine ix1 rfl ?_) | (refine ix2 rfl ?_) | (refine ix3 rfl ?_) | (apply ixj; omega) | (refine ixn ?_ ?_; omega) | (refine ixs0 rfl ?_) | (refine ixs1 rfl ?_) | (refine ixs_j ?_ ?_; omega) | (refine ixs_n ?_ ?_; omega) | (apply ld_o; exact rfl) | (apply ldN_a; exact rfl) | (apply ldN_o; (exact rfl); exact rfl) | (apply st_o; (exact rfl); exact rfl) | (apply stN_o; (exact rfl); (exact rfl); exact rfl) | (refine new_i (fun bk hbk => ?_)) | (apply when_dE; (exact rfl); (exact rfl); all_goals intro hc) | (apply when_dF; (exact rfl); (exact rfl); all_goals intro hc) | (apply when_nE; (exact rfl); (exact rfl); all_goals intro hc) | (apply when_nF; (exact rfl); (exact rfl); all_goals intro hc) | (apply br_dE; (exact rfl); all_goals intro hc) | (apply br_nE; (exact rfl); all_goals intro hc) | (refine mm_min ?_) | (refine mm_max ?_) | (refine rem_i ?_ ?_; omega) | (refine SelN.mk ?_) | (refine cut_n ?_) | (refine Both.mk ?_ ?_) | (exact True.intro))
      refine loop_i (σ := Nat) (fun i => [(11, .int .i64 i)]) (fun i => X ++ (canE encI 3 b (rowG n fun u => ckE l last u i) :: own)) (fun i => i ≤ l.length) (fun i => l.length - i) 0 (by omega) (by repeat' (first | exact True.intro | refine And.intro ?_ ?_ | exact rfl | exact vi (by omega) | (dsimp only; exact rfl) | (dsimp only; exact vi (by omega)))) (by rw [rowG_rep]; exact Ent.refl) rfl ?_
      intro i junk hi
      by_cases hlt : i < l.length
      · obtain ⟨e, he⟩ : ∃ e, l[i]? = some e := ⟨_, List.getElem?_eq_getElem hlt⟩
        have hlt' : (i : Int) < l.length := by omega
        have hae : at' l i = e := at_get he
        have hkd := hw.kd i hlt
        have hte : thr l i = e.t := by unfold thr; rw [hae]
        have hke : knd l i = e.k := by unfold knd; rw [hae]
        rw [hte] at hkd
        obtain ⟨_, _, ht0, ht1, _⟩ := hkd
        obtain ⟨bi, hbi⟩ : ∃ x, bs[i]? = some x := ⟨_, List.getElem?_eq_getElem (by omega)⟩
        have hri := hb.rows i bi hbi
        have gil := rowL_get (n := l.length) (g := hbB l i) (j := last) (by omega)
        have hlr := (rowL_len l.length (hbB l i)).symm
        have hnx : ∀ u : Nat, ckE l last u (i + 1) = ckE l last u i + if e.k = 4 ∧ (i = last ∨ hbB l i last = true) ∧ e.t = u then 1 else 0 := fun u => by show _ + (if knd l i = 4 ∧ _ ∧ thr l i = u then _ else _) = _; rw [hte, hke]
        have hwI : ∀ x ∈ rowG n (fun u => ckE l last u i), (encI x).length = 1 := fun _ _ => rfl
        have hlI : n = (rowG n (fun u => ckE l last u i)).length := rowG_len.symm
        obtain ⟨q, hq⟩ : ∃ q : Nat, e.t = q := ⟨e.t.toNat, by omega⟩
        have hxI := rowG_get (n := n) (g := fun u => ckE l last u i) (j := q) (by omega)
        have hck := ckE_rng l last q i
        generalize hbv : hbB l i last = hv at *
        by_cases h1 : e.k = 4 ∧ (i = last ∨ hv = true)
        · have hset : (rowG n fun u => ckE l last u i).set q (ckE l last q i + 1) = rowG n fun u => ckE l last u (i + 1) := by
            refine rowG_set_eq fun u _ => ?_
            rw [hnx]
            by_cases hu : u = q
            · subst hu; rw [if_pos rfl, if_pos ⟨h1.1, h1.2, hq⟩]
            · rw [if_neg hu, if_neg (fun hh => hu (by omega))]; omega
          obtain ⟨h1, h2⟩ := h1
          by_cases h3 : i = last
          · have h3' : (i : Int) = last := by omega
            repeat' ((try (conv => whnf)); first | (refine when_ye ?_ ?_; exact rfl) | (refine when_ne ?_ ?_; exact rfl) | (refine br_te ?_ ?_; exact rfl) | (refine br_fe ?_ ?_; exact rfl) | (apply br_pyE; (exact rfl); omega) | (apply br_pnE; (exact rfl); omega) | (apply when_pyE; (exact rfl); omega) | (apply when_pnE; (exact rfl); omega) | (apply br_npyE; (exact rfl); omega) | (apply br_npnE; (exact rfl); omega) | (apply when_npyE; (exact rfl); omega) | (apply when_npnE; (exact rfl); omega) | (refine br_pyE ?_ hlt' ?_; exact rfl) | (refine br_pnE ?_ hlt' ?_; exact rfl) | (refine when_pyE ?_ hlt' ?_; exact rfl) | (refine when_pnE ?_ hlt' ?_; exact rfl) | (refine br_npyE ?_ hlt' ?_; exact rfl) | (refine br_npnE ?_ hlt' ?_; exact rfl) | (refine when_npyE ?_ hlt' ?_; exact rfl) | (refine when_npnE ?_ hlt' ?_; exact rfl) | (refine br_pyE ?_ h1 ?_; exact rfl) | (refine br_pnE ?_ h1 ?_; exact rfl) | (refine when_pyE ?_ h1 ?_; exact rfl) | (refine when_pnE ?_ h1 ?_; exact rfl) | (refine br_npyE ?_ h1 ?_; exact rfl) | (refine br_npnE ?_ h1 ?_; exact rfl) | (refine when_npyE ?_ h1 ?_; exact rfl) | (refine when_npnE ?_ h1 ?_; exact rfl) | (refine br_pyE ?_ h3' ?_; exact rfl) | (refine br_pnE ?_ h3' ?_; exact rfl) | (refine when_pyE ?_ h3' ?_; exact rfl) | (refine when_pnE ?_ h3' ?_; exact rfl) | (refine br_npyE ?_ h3' ?_; exact rfl) | (refine br_npnE ?_ h3' ?_; exact rfl) | (refine when_npyE ?_ h3' ?_; exact rfl) | (refine when_npnE ?_ h3' ?_; exact rfl) | (apply stC (T := 3) (k := 0) (ckE l last q i + 1) hwI hxI; (exact rfl); (omega); (exact rfl); (exact rfl)) | ((with_reducible show Ld _ _ _ _); first | (refine ldE0 hR he rfl ?_) | (refine ldEk hR he rfl ?_) | (refine ldE1 hR he rfl ?_) | (refine ldC0 hwI hxI rfl ?_) | (refine ldC1 hwI hxI rfl ?_) | (refine ldC hwI hxI rfl ?_)) | ((with_reducible show IxS _ _ _ _ _); first | ((refine ixE hR he ?_ ?_; (first | rfl | omega))) | ((refine ixC hxI hlI ?_ ?_; (first | rfl | omega)))) | ((with_reducible show LdN _ _ _ _ _); first | (refine ldNEi hR he rfl ?_) | (refine ldNC hwI hxI rfl ?_)) | (refine ari ?_ ?_; omega) | (refine aru ?_ ?_; omega) | (apply sel; exact rfl) | (refine ix0 rfl ?_) | (refine ix1 rfl ?_) | (refine ix2 rfl ?_) | (refine ix3 rfl ?_) | (apply ixj; omega) | (refine ixn ?_ ?_; omega) | (refine ixs0 rfl ?_) | (refine ixs1 rfl ?_) | (refine ixs_j ?_ ?_; omega) | (refine ixs_n ?_ ?_; omega) | (apply ld_o; exact rfl) | (apply ldN_a; exact rfl) | (apply ldN_o; (exact rfl); exact rfl) | (apply st_o; (exact rfl); exact rfl) | (apply stN_o; (exact rfl); (exact rfl); exact rfl) | (refine new_i (fun bk hbk => ?_)) | (apply when_dE; (exact rfl); (exact rfl); all_goals intro hc) | (apply when_dF; (exact rfl); (exact rfl); all_goals intro hc) | (apply when_nE; (exact rfl); (exact rfl); all_goals intro hc) | (apply when_nF; (exact rfl); (exact rfl); all_goals intro hc) | (apply br_dE; (exact rfl); all_goals intro hc) | (apply br_nE; (exact rfl); all_goals intro hc) | (refine mm_min ?_) | (refine mm_max ?_) | (refine rem_i ?_ ?_; omega) | (refine SelN.mk ?_) | (refine cut_n ?_) | (refine Both.mk ?_ ?_) | (exact True.intro))
            exact ⟨i + 1, by omega, by omega, (by repeat' (first | exact True.intro | refine And.intro ?_ ?_ | exact rfl | exact vi (by omega) | (dsimp only; exact rfl) | (dsimp only; exact vi (by omega)))), by rw [hset]; exact Ent.refl⟩
          · have h3' : ¬ (i : Int) = last := by omega
            have h4 : hv = true := h2.resolve_left h3
            rw [h4] at gil
            repeat' ((try (conv => whnf)); first | (refine when_ye ?_ ?_; exact rfl) | (refine when_ne ?_ ?_; exact rfl) | (refine br_te ?_ ?_; exact rfl) | (refine br_fe ?_ ?_; exact rfl) | (apply br_pyE; (exact rfl); omega) | (apply br_pnE; (exact rfl); omega) | (apply when_pyE; (exact rfl); omega) | (apply when_pnE; (exact rfl); omega) | (apply br_npyE; (exact rfl); omega) | (apply br_npnE; (exact rfl); omega) | (apply when_npyE; (exact rfl); omega) | (apply when_npnE; (exact rfl); omega) | (refine br_pyE ?_ hlt' ?_; exact rfl) | (refine br_pnE ?_ hlt' ?_; exact rfl) | (refine when_pyE ?_ hlt' ?_; exact rfl) | (refine when_pnE ?_ hlt' ?_; exact rfl) | (refine br_npyE ?_ hlt' ?_; exact rfl) | (refine br_npnE ?_ hlt' ?_; exact rfl) | (refine when_npyE ?_ hlt' ?_; exact rfl) | (refine when_npnE ?_ hlt' ?_; exact rfl) | (refine br_pyE ?_ h1 ?_; exact rfl) | (refine br_pnE ?_ h1 ?_; exact rfl) | (refine when_pyE ?_ h1 ?_; exact rfl) | (refine when_pnE ?_ h1 ?_; exact rfl) | (refine br_npyE ?_ h1 ?_; exact rfl) | (refine br_npnE ?_ h1 ?_; exact rfl) | (refine when_npyE ?_ h1 ?_; exact rfl) | (refine when_npnE ?_ h1 ?_; exact rfl) | (refine br_pyE ?_ h3' ?_; exact rfl) | (refine br_pnE ?_ h3' ?_; exact rfl) | (refine when_pyE ?_ h3' ?_; exact rfl) | (refine when_pnE ?_ h3' ?_; exact rfl) | (refine br_npyE ?_ h3' ?_; exact rfl) | (refine br_npnE ?_ h3' ?_; exact rfl) | (refine when_npyE ?_ h3' ?_; exact rfl) | (refine when_npnE ?_ h3' ?_; exact rfl) | (apply stC (T := 3) (k := 0) (ckE l last q i + 1) hwI hxI; (exact rfl); (omega); (exact rfl); (exact rfl)) | ((with_reducible show Ld _ _ _ _); first | (refine ldE0 hR he rfl ?_) | (refine ldEk hR he rfl ?_) | (refine ldE1 hR he rfl ?_) | (refine ldE0 hbr hbi rfl ?_) | (refine ldEk hbr hbi rfl ?_) | (refine ldE1 hbr hbi rfl ?_) | (refine ldS0 hri gil rfl ?_) | (refine ldC0 hwI hxI rfl ?_) | (refine ldC1 hwI hxI rfl ?_) | (refine ldC hwI hxI rfl ?_)) | ((with_reducible show IxS _ _ _ _ _); first | ((refine ixE hR he ?_ ?_; (first | rfl | omega))) | ((refine ixE hbr hbi ?_ ?_; (first | rfl | omega))) | ((refine ixC gil hlr ?_ ?_; (first | rfl | omega))) | ((refine ixC hxI hlI ?_ ?_; (first | rfl | omega)))) | ((with_reducible show LdN _ _ _ _ _); first | (refine ldNEi hR he rfl ?_) | (refine ldNEi hbr hbi rfl ?_) | (refine ldNC hwI hxI rfl ?_)) | (refine ari ?_ ?_; omega) | (refine aru ?_ ?_; omega) | (apply sel; exact rfl) | (refine ix0 rfl ?_) | (refine ix1 rfl ?_) | (refine ix2 rfl ?_) | (refine ix3 rfl ?_) | (apply ixj; omega) | (refine ixn ?_ ?_; omega) | (refine ixs0 rfl ?_) | (refine ixs1 rfl ?_) | (refine ixs_j ?_ ?_; omega) | (refine ixs_n ?_ ?_; omega) | (apply ld_o; exact rfl) | (apply ldN_a; exact rfl) | (apply ldN_o; (exact rfl); exact rfl) | (apply st_o; (exact rfl); exact rfl) | (apply stN_o; (exact rfl); (exact rfl); exact rfl) | (refine new_i (fun bk hbk => ?_)) | (apply when_dE; (exact rfl); (exact rfl); all_goals intro hc) | (apply when_dF; (exact rfl); (exact rfl); all_goals intro hc) | (apply when_nE; (exact rfl); (exact rfl); all_goals intro hc) | (apply when_nF; (exact rfl); (exact rfl); all_goals intro hc) | (apply br_dE; (exact rfl); all_goals intro hc) | (apply br_nE; (exact rfl); all_goals intro hc) | (refine mm_min ?_) | (refine mm_max ?_) | (refine rem_i ?_ ?_; omega) | (refine SelN.mk ?_) | (refine cut_n ?_) | (refine Both.mk ?_ ?_) | (exact True.intro))
            exact ⟨i + 1, by omega, by omega, (by repeat' (first | exact True.intro | refine And.intro ?_ ?_ | exact rfl | exact vi (by omega) | (dsimp only; exact rfl) | (dsimp only; exact vi (by omega)))), by rw [hset]; exact Ent.refl⟩
        · have hset : (rowG n fun u => ckE l last u (i + 1)) = rowG n fun u => ckE l last u i := by
            refine rowG_congr fun u _ => ?_
            rw [hnx, if_neg (fun hh => h1 ⟨hh.1, hh.2.1⟩)]; omega
          by_cases h2 : e.k = 4
          · have h3' : ¬ (i : Int) = last := fun h => h1 ⟨h2, .inl (by omega)⟩
            have h4 : hv = false := by cases hv with | false => rfl | true => exact absurd ⟨h2, .inr rfl⟩ h1
            rw [h4] at gil
            repeat' ((try (conv => whnf)); first | (refine when_ye ?_ ?_; exact rfl) | (refine when_ne ?_ ?_; exact rfl) | (refine br_te ?_ ?_; exact rfl) | (refine br_fe ?_ ?_; exact rfl) | (apply br_pyE; (exact rfl); omega) | (apply br_pnE; (exact rfl); omega) | (apply when_pyE; (exact rfl); omega) | (apply when_pnE; (exact rfl); omega) | (apply br_npyE; (exact rfl); omega) | (apply br_npnE; (exact rfl); omega) | (apply when_npyE; (exact rfl); omega) | (apply when_npnE; (exact rfl); omega) | (refine br_pyE ?_ hlt' ?_; exact rfl) | (refine br_pnE ?_ hlt' ?_; exact rfl) | (refine when_pyE ?_ hlt' ?_; exact rfl) | (refine when_pnE ?_ hlt' ?_; exact rfl) | (refine br_npyE ?_ hlt' ?_; exact rfl) | (refine br_npnE ?_ hlt' ?_; exact rfl) | (refine when_npyE ?_ hlt' ?_; exact rfl) | (refine when_npnE ?_ hlt' ?_; exact rfl) | (refine br_pyE ?_ h2 ?_; exact rfl) | (refine br_pnE ?_ h2 ?_; exact rfl) | (refine when_pyE ?_ h2 ?_; exact rfl) | (refine when_pnE ?_ h2 ?_; exact rfl) | (refine br_npyE ?_ h2 ?_; exact rfl) | (refine br_npnE ?_ h2 ?_; exact rfl) | (refine when_npyE ?_ h2 ?_; exact rfl) | (refine when_npnE ?_ h2 ?_; exact rfl) | (refine br_pyE ?_ h3' ?_; exact rfl) | (refine br_pnE ?_ h3' ?_; exact rfl) | (refine when_pyE ?_ h3' ?_; exact rfl) | (refine when_pnE ?_ h3' ?_; exact rfl) | (refine br_npyE ?_ h3' ?_; exact rfl) | (refine br_npnE ?_ h3' ?_; exact rfl) | (refine when_npyE ?_ h3' ?_; exact rfl) | (refine when_npnE ?_ h3' ?_; exact rfl) | ((with_reducible show Ld _ _ _ _); first | (refine ldE0 hR he rfl ?_) | (refine ldEk hR he rfl ?_) | (refine ldE1 hR he rfl ?_) | (refine ldE0 hbr hbi rfl ?_) | (refine ldEk hbr hbi rfl ?_) | (refine ldE1 hbr hbi rfl ?_) | (refine ldS0 hri gil rfl ?_)) | ((with_reducible show IxS _ _ _ _ _); first | ((refine ixE hR he ?_ ?_; (first | rfl | omega))) | ((refine ixE hbr hbi ?_ ?_; (first | rfl | omega))) | ((refine ixC gil hlr ?_ ?_; (first | rfl | omega)))) | ((with_reducible show LdN _ _ _ _ _); first | (refine ldNEi hR he rfl ?_) | (refine ldNEi hbr hbi rfl ?_)) | (refine ari ?_ ?_; omega) | (refine aru ?_ ?_; omega) | (apply sel; exact rfl) | (refine ix0 rfl ?_) | (refine ix1 rfl ?_) | (refine ix2 rfl ?_) | (refine ix3 rfl ?_) | (apply ixj; omega) | (refine ixn ?_ ?_; omega) | (refine ixs0 rfl ?_) | (refine ixs1 rfl ?_) | (refine ixs_j ?_ ?_; omega) | (refine ixs_n ?_ ?_; omega) | (apply ld_o; exact rfl) | (apply ldN_a; exact rfl) | (apply ldN_o; (exact rfl); exact rfl) | (apply st_o; (exact rfl); exact rfl) | (apply stN_o; (exact rfl); (exact rfl); exact rfl) | (refine new_i (fun bk hbk => ?_)) | (apply when_dE; (exact rfl); (exact rfl); all_goals intro hc) | (apply when_dF; (exact rfl); (exact rfl); all_goals intro hc) | (apply when_nE; (exact rfl); (exact rfl); all_goals intro hc) | (apply when_nF; (exact rfl); (exact rfl); all_goals intro hc) | (apply br_dE; (exact rfl); all_goals intro hc) | (apply br_nE; (exact rfl); all_goals intro hc) | (refine mm_min ?_) | (refine mm_max ?_) | (refine rem_i ?_ ?_; omega) | (refine SelN.mk ?_) | (refine cut_n ?_) | (refine Both.mk ?_ ?_) | (exact True.intro))
            exact ⟨i + 1, by omega, by omega, (by repeat' (first | exact True.intro | refine And.intro ?_ ?_ | exact rfl | exact vi (by omega) | (dsimp only; exact rfl) | (dsimp only; exact vi (by omega)))), by rw [hset]; exact Ent.refl⟩
          · repeat' ((try (conv => whnf)); first | (refine when_ye ?_ ?_; exact rfl) | (refine when_ne ?_ ?_; exact rfl) | (refine br_te ?_ ?_; exact rfl) | (refine br_fe ?_ ?_; exact rfl) | (apply br_pyE; (exact rfl); omega) | (apply br_pnE; (exact rfl); omega) | (apply when_pyE; (exact rfl); omega) | (apply when_pnE; (exact rfl); omega) | (apply br_npyE; (exact rfl); omega) | (apply br_npnE; (exact rfl); omega) | (apply when_npyE; (exact rfl); omega) | (apply when_npnE; (exact rfl); omega) | (refine br_pyE ?_ hlt' ?_; exact rfl) | (refine br_pnE ?_ hlt' ?_; exact rfl) | (refine when_pyE ?_ hlt' ?_; exact rfl) | (refine when_pnE ?_ hlt' ?_; exact rfl) | (refine br_npyE ?_ hlt' ?_; exact rfl) | (refine br_npnE ?_ hlt' ?_; exact rfl) | (refine when_npyE ?_ hlt' ?_; exact rfl) | (refine when_npnE ?_ hlt' ?_; exact rfl) | (refine br_pyE ?_ h2 ?_; exact rfl) | (refine br_pnE ?_ h2 ?_; exact rfl) | (refine when_pyE ?_ h2 ?_; exact rfl) | (refine when_pnE ?_ h2 ?_; exact rfl) | (refine br_npyE ?_ h2 ?_; exact rfl) | (refine br_npnE ?_ h2 ?_; exact rfl) | (refine when_npyE ?_ h2 ?_; exact rfl) | (refine when_npnE ?_ h2 ?_; exact rfl) | ((with_reducible show Ld _ _ _ _); first | (refine ldE0 hR he rfl ?_) | (refine ldEk hR he rfl ?_) | (refine ldE1 hR he rfl ?_)) | ((with_reducible show IxS _ _ _ _ _); first | ((refine ixE hR he ?_ ?_; (first | rfl | omega)))) | ((with_reducible show LdN _ _ _ _ _); first | (refine ldNEi hR he rfl ?_)) | (refine ari ?_ ?_; omega) | (refine aru ?_ ?_; omega) | (apply sel; exact rfl) | (refine ix0 rfl ?_) | (refine ix1 rfl ?_) | (refine ix2 rfl ?_) | (refine ix3 rfl ?_) | (apply ixj; omega) | (refine ixn ?_ ?_; omega) | (refine ixs0 rfl ?_) | (refine ixs1 rfl ?_) | (refine ixs_j ?_ ?_; omega) | (refine ixs_n ?_ ?_; omega) | (apply ld_o; exact rfl) | (apply ldN_a; exact rfl) | (apply ldN_o; (exact rfl); exact rfl) | (apply st_o; (exact rfl); exact rfl) | (apply stN_o; (exact rfl); (exact rfl); exact rfl) | (refine new_i (fun bk hbk => ?_)) | (apply when_dE; (exact rfl); (exact rfl); all_goals intro hc) | (apply when_dF; (exact rfl); (exact rfl); all_goals intro hc) | (apply when_nE; (exact rfl); (exact rfl); all_goals intro hc) | (apply when_nF; (exact rfl); (exact rfl); all_goals intro hc) | (apply br_dE; (exact rfl); all_goals intro hc) | (apply br_nE; (exact rfl); all_goals intro hc) | (refine mm_min ?_) | (refine mm_max ?_) | (refine rem_i ?_ ?_; omega) | (refine SelN.mk ?_) | (refine cut_n ?_) | (refine Both.mk ?_ ?_) | (exact True.intro))
            exact ⟨i + 1, by omega, by omega, (by repeat' (first | exact True.intro | refine And.intro ?_ ?_ | exact rfl | exact vi (by omega) | (dsimp only; exact rfl) | (dsimp only; exact vi (by omega)))), by rw [hset]; exact Ent.refl⟩
      · have hlt' : ¬ (i : Int) < l.length := by omega
        have hi2 : i = l.length := by omega
        subst hi2
        repeat' ((try (conv => whnf)); first | (refine when_ye ?_ ?_; exact rfl) | (refine when_ne ?_ ?_; exact rfl) | (refine br_te ?_ ?_; exact rfl) | (refine br_fe ?_ ?_; exact rfl) | (apply br_pyE; (exact rfl); omega) | (apply br_pnE; (exact rfl); omega) | (apply when_pyE; (exact rfl); omega) | (apply when_pnE; (exact rfl); omega) | (apply br_npyE; (exact rfl); omega) | (apply br_npnE; (exact rfl); omega) | (apply when_npyE; (exact rfl); omega) | (apply when_npnE; (exact rfl); omega) | (refine br_pyE ?_ hlt' ?_; exact rfl) | (refine br_pnE ?_ hlt' ?_; exact rfl) | (refine when_pyE ?_ hlt' ?_; exact rfl) | (refine when_pnE ?_ hlt' ?_; exact rfl) | (refine br_npyE ?_ hlt' ?_; exact rfl) | (refine br_npnE ?_ hlt' ?_; exact rfl) | (refine when_npyE ?_ hlt' ?_; exact rfl) | (refine when_npnE ?_ hlt' ?_; exact rfl) | (refine ari ?_ ?_; omega) | (refine aru ?_ ?_; omega) | (apply sel; exact rfl) | (refine ix0 rfl ?_) | (refine ix1 rfl ?_) | (refine ix2 rfl ?_) | (refine ix3 rfl ?_) | (apply ixj; omega) | (refine ixn ?_ ?_; omega) | (refine ixs0 rfl ?_) | (refine ixs1 rfl ?_) | (refine ixs_j ?_ ?_; omega) | (refine ixs_n ?_ ?_; omega) | (apply ld_o; exact rfl) | (apply ldN_a; exact rfl) | (apply ldN_o; (exact rfl); exact rfl) | (apply st_o; (exact rfl); exact rfl) | (apply stN_o; (exact rfl); (exact rfl); exact rfl) | (refine new_i (fun bk hbk => ?_)) | (apply when_dE; (exact rfl); (exact rfl); all_goals intro hc) | (apply when_dF; (exact rfl); (exact rfl); all_goals intro hc) | (apply when_nE; (exact rfl); (exact rfl); all_goals intro hc) | (apply when_nF; (exact rfl); (exact rfl); all_goals intro hc) | (apply br_dE; (exact rfl); all_goals intro hc) | (apply br_nE; (exact rfl); all_goals intro hc) | (refine mm_min ?_) | (refine mm_max ?_) | (refine rem_i ?_ ?_; omega) | (refine SelN.mk ?_) | (refine cut_n ?_) | (refine Both.mk ?_ ?_) | (exact True.intro))
        exact ⟨b, rfl, Ent.app Ent.refl⟩
end
end Go.Proofs.YtofjnldidkiihaaDoor
namespace Go.Proofs.YtofjnldidkiihaaDoor
open Go
set_option maxRecDepth 10000
theorem at_app {l r : List EH} {i : Nat} (h : i < l.length) : at' (l ++ r) i = at' l i := by
  unfold at'
  rw [List.getD_eq_getElem?_getD, List.getD_eq_getElem?_getD, List.getElem?_append_left h]
theorem at_end {l : List EH} {e : EH} : at' (l ++ [e]) l.length = e := at_get (by simp)
theorem thr_app {l r : List EH} {i : Nat} (h : i < l.length) : thr (l ++ r) i = thr l i := by unfold thr; rw [at_app h]
theorem knd_app {l r : List EH} {i : Nat} (h : i < l.length) : knd (l ++ r) i = knd l i := by unfold knd; rw [at_app h]
theorem lkL_app {l r : List EH} {t : Int} : ∀ i, i ≤ l.length → lkL (l ++ r) t i = lkL l t i
  | 0, _ => rfl
  | i + 1, h => by rw [lkL_succ, lkL_succ, thr_app (by omega), knd_app (by omega), lkL_app i (by omega)]
theorem paAt_app {l r : List EH} {i : Nat} (h : i ≤ l.length) : paAt (l ++ r) i = paAt l i := by
  unfold paAt
  split
  · rfl
  · rw [at_app (by omega)]
theorem okAt_app {l r : List EH} {n i : Nat} (h : i < l.length) : okAt (l ++ r) n i = okAt l n i := by
  unfold okAt
  rw [paAt_app (by omega), thr_app h, lkL_app i (by omega), at_app h]
theorem okAt_end {l : List EH} {e : EH} {n : Nat} : okAt (l ++ [e]) n l.length = fitsM n (l.length == 0) (paAt l l.length) (lkL l e.t l.length) e := by
  unfold okAt
  have ht : thr (l ++ [e]) l.length = e.t := by unfold thr; rw [at_end]
  rw [paAt_app (Nat.le_refl _), ht, lkL_app _ (Nat.le_refl _), at_end]
theorem lkL_end {l : List EH} {e : EH} {t : Int} : lkL (l ++ [e]) t (l.length + 1) = if e.t = t then e.k else lkL l t l.length := by
  have ht : thr (l ++ [e]) l.length = e.t := by unfold thr; rw [at_end]
  have hk : knd (l ++ [e]) l.length = e.k := by unfold knd; rw [at_end]
  rw [lkL_succ, ht, hk, lkL_app _ (Nat.le_refl _)]
theorem paAt_end {l : List EH} {e : EH} : paAt (l ++ [e]) (l.length + 1) = e.ev := paAt_succ (by simp)
theorem WF0.snoc {l : List EH} {e : EH} {n : Nat} (h : WF0 l n) (hl : l.length + 1 ≤ 65536) (hf : fitsM n (l.length == 0) (paAt l l.length) (lkL l e.t l.length) e = true) : WF0 (l ++ [e]) n := by
  refine ⟨h.1, h.2.1, by simpa using hl, fun k hk => ?_⟩
  simp only [List.length_append, List.length_cons, List.length_nil] at hk
  by_cases hkl : k < l.length
  · rw [okAt_app hkl]; exact h.2.2.2 k hkl
  · obtain rfl : k = l.length := by omega
    rw [okAt_end]; exact hf
theorem WF0.nil {n : Nat} (h1 : 1 ≤ n) (h2 : n ≤ 16) : WF0 [] n := ⟨h1, h2, by simp, fun k hk => by simp at hk⟩
end Go.Proofs.YtofjnldidkiihaaDoor
namespace Go.Proofs.YtofjnldidkiihaaDoor
open Go
set_option maxRecDepth 100000
/-- strongtx/strongtxmake.Events -/
def ir_make_Events : IFn := ⟨94,
 (.seq (.region [
 ⟨some 4, .mov (.const (.slice none 0 0)), none⟩])
 (.seq (.region [
 ⟨some 5, .mov (.const (.slice none 0 0)), none⟩])
 (.seq (.region [
 ⟨some 14, .mov (.tmp 1), none⟩,
 ⟨some 15, .mk 3 1 8 [(.int .i64 0)] (.tmp 14) (.tmp 14), none⟩,
 ⟨some 6, .mov (.tmp 15), none⟩])
 (.seq (.seq (.region [
 ⟨some 7, .mov (.const (.int .i64 0)), none⟩])
 (.block 0
  (.loop 9903520314283042199192944544
   (.seq (.seq (.region [
   ⟨some 16, .mov (.tmp 7), none⟩,
   ⟨some 17, .mov (.tmp 0), none⟩,
   ⟨some 18, .len (.tmp 17), none⟩,
   ⟨some 19, .bin .lss (.tmp 16) (.tmp 18), none⟩])
   (.cond (.tmp 19)
    .skip
    (.exit 0)))
   (.seq (.block 1
    (.seq (.region [
    ⟨some 22, .mov (.tmp 0), none⟩,
    ⟨some 23, .mov (.tmp 7), none⟩,
    ⟨some 24, .ixs 1 (.tmp 22) (.tmp 23), none⟩,
    ⟨some 25, .ld (.tmp 24), none⟩,
    ⟨some 26, .conv .u64 (.tmp 25), none⟩,
    ⟨some 8, .mov (.tmp 26), none⟩])
    (.seq (.region [
    ⟨some 27, .mov (.tmp 8), none⟩,
    ⟨some 28, .mov (.tmp 1), none⟩,
    ⟨some 29, .conv .u64 (.tmp 28), none⟩,
    ⟨some 30, .bin .rem (.tmp 27) (.tmp 29), none⟩,
    ⟨some 31, .conv .i64 (.tmp 30), none⟩,
    ⟨some 9, .mov (.tmp 31), none⟩])
    (.seq (.region [
    ⟨some 32, .mov (.tmp 8), none⟩,
    ⟨some 33, .mov (.tmp 1), none⟩,
    ⟨some 34, .conv .u64 (.tmp 33), none⟩,
    ⟨some 35, .bin .quo (.tmp 32) (.tmp 34), none⟩,
    ⟨some 8, .mov (.tmp 35), none⟩])
    (.seq (.region [
    ⟨some 36, .mov (.tmp 8), none⟩,
    ⟨some 37, .bin .quo (.tmp 36) (.const (.int .u64 8)), none⟩,
    ⟨some 38, .bin .rem (.tmp 37) (.const (.int .u64 4)), none⟩,
    ⟨some 39, .conv .i64 (.tmp 38), none⟩,
    ⟨some 40, .mov (.tmp 8), none⟩,
    ⟨some 41, .bin .quo (.tmp 40) (.const (.int .u64 32)), none⟩,
    ⟨some 42, .bin .rem (.tmp 41) (.const (.int .u64 4)), none⟩,
    ⟨some 43, .conv .i64 (.tmp 42), none⟩,
    ⟨some 10, .mov (.tmp 39), none⟩,
    ⟨some 11, .mov (.tmp 43), none⟩])
    (.seq (.region [
    ⟨some 44, .mov (.tmp 7), none⟩,
    ⟨some 45, .mov (.tmp 9), none⟩,
    ⟨some 46, .bld [(.int .i64 0), (.int .i64 0), (.int .i64 0), (.int .i64 0), (.slice none 0 0), (.slice none 0 0)] [(0, 1, (.tmp 44)), (1, 1, (.tmp 45))], none⟩,
    ⟨some 12, .new 42 (.agg #[.int .i64 0, .int .i64 0, .int .i64 0, .int .i64 0, .slice none 0 0, .slice none 0 0]), none⟩,
    ⟨none, .stN 6 (.tmp 12) (.tmp 46), none⟩])
    (.seq (.seq (.region [
    ⟨some 47, .mov (.tmp 8), none⟩,
    ⟨some 48, .bin .rem (.tmp 47) (.const (.int .u64 8)), none⟩,
    ⟨some 13, .mov (.tmp 48), none⟩])
    (.block 2
     (.seq (.region [
     ⟨some 51, .mov (.tmp 6), none⟩,
     ⟨some 52, .mov (.tmp 9), none⟩,
     ⟨some 53, .ixs 1 (.tmp 51) (.tmp 52), none⟩,
     ⟨some 54, .ld (.tmp 53), none⟩,
     ⟨some 55, .bin .eql (.tmp 54) (.const (.int .i64 3)), none⟩,
     ⟨some 56, .mov (.tmp 55), none⟩,
     ⟨some 57, .mov (.tmp 13), some (56, true)⟩,
     ⟨some 58, .bin .lss (.tmp 57) (.const (.int .u64 6)), some (56, true)⟩,
     ⟨some 59, .pick (.tmp 56) (.tmp 58) (.const (.bool false)), none⟩,
     ⟨some 50, .mov (.tmp 59), none⟩])
     (.cond (.tmp 50)
      (.seq (.region [
      ⟨some 60, .fad 2 (.tmp 12), none⟩,
      ⟨none, .st (.tmp 60) (.const (.int .i64 4)), none⟩])
      (.seq (.region [
      ⟨some 61, .mov (.tmp 10), none⟩,
      ⟨some 62, .blds 3 1 [(.int .i64 0)] [(0, 1, (.tmp 61))], none⟩,
      ⟨some 63, .fad 4 (.tmp 12), none⟩,
      ⟨none, .st (.tmp 63) (.tmp 62), none⟩])
      (.seq (.seq (.region [
      ⟨some 64, .mov (.tmp 13), none⟩,
      ⟨some 65, .bin .lss (.tmp 64) (.const (.int .u64 4)), none⟩])
      (.cond (.tmp 65)
       (.region [
       ⟨some 66, .mov (.tmp 11), none⟩,
       ⟨some 67, .blds 3 1 [(.int .i64 0)] [(0, 1, (.tmp 66))], none⟩,
       ⟨some 68, .fad 5 (.tmp 12), none⟩,
       ⟨none, .st (.tmp 68) (.tmp 67), none⟩])
       .skip))
      (.seq (.region [
      ⟨some 69, .mov (.tmp 13), none⟩,
      ⟨some 70, .bin .eql (.tmp 69) (.const (.int .u64 5)), none⟩])
      (.cond (.tmp 70)
       (.region [
       ⟨some 71, .fad 4 (.tmp 12), none⟩,
       ⟨none, .st (.tmp 71) (.const (.slice none 0 0)), none⟩])
       .skip)))))
      (.seq (.region [
      ⟨some 73, .mov (.tmp 13), none⟩,
      ⟨some 74, .bin .lss (.tmp 73) (.const (.int .u64 2)), none⟩,
      ⟨some 72, .mov (.tmp 74), none⟩])
      (.cond (.tmp 72)
       (.region [
       ⟨some 75, .mov (.tmp 10), none⟩,
       ⟨some 76, .fad 2 (.tmp 12), none⟩,
       ⟨none, .st (.tmp 76) (.const (.int .i64 1)), none⟩,
       ⟨some 77, .fad 3 (.tmp 12), none⟩,
       ⟨none, .st (.tmp 77) (.tmp 75), none⟩])
       (.seq (.region [
       ⟨some 79, .mov (.tmp 13), none⟩,
       ⟨some 80, .bin .lss (.tmp 79) (.const (.int .u64 4)), none⟩,
       ⟨some 78, .mov (.tmp 80), none⟩])
       (.cond (.tmp 78)
        (.region [
        ⟨some 81, .mov (.tmp 10), none⟩,
        ⟨some 82, .fad 2 (.tmp 12), none⟩,
        ⟨none, .st (.tmp 82) (.const (.int .i64 2)), none⟩,
        ⟨some 83, .fad 3 (.tmp 12), none⟩,
        ⟨none, .st (.tmp 83) (.tmp 81), none⟩])
        (.region [
        ⟨some 49, .fad 2 (.tmp 12), none⟩,
        ⟨none, .st (.tmp 49) (.const (.int .i64 3)), none⟩])))))))))
    (.seq (.region [
    ⟨some 84, .mov (.tmp 6), none⟩,
    ⟨some 85, .mov (.tmp 9), none⟩,
    ⟨some 86, .fad 2 (.tmp 12), none⟩,
    ⟨some 87, .ld (.tmp 86), none⟩,
    ⟨some 88, .ixs 1 (.tmp 84) (.tmp 85), none⟩,
    ⟨none, .st (.tmp 88) (.tmp 87), none⟩])
    (.region [
    ⟨some 89, .mov (.tmp 5), none⟩,
    ⟨some 90, .ldN 6 (.tmp 12), none⟩,
    ⟨some 91, .blds 42 1 [(.int .i64 0), (.int .i64 0), (.int .i64 0), (.int .i64 0), (.slice none 0 0), (.slice none 0 0)] [(0, 6, (.tmp 90))], none⟩,
    ⟨some 92, .app 42 6 80 [(.int .i64 0), (.int .i64 0), (.int .i64 0), (.int .i64 0), (.slice none 0 0), (.slice none 0 0)] (.tmp 89) (.tmp 91), none⟩,
    ⟨some 5, .mov (.tmp 92), none⟩])))))))))
   (.region [
   ⟨some 20, .mov (.tmp 7), none⟩,
   ⟨some 21, .bin .add (.tmp 20) (.const (.int .i64 1)), none⟩,
   ⟨some 7, .mov (.tmp 21), none⟩]))))))
 (.seq (.region [
 ⟨some 93, .mov (.tmp 5), none⟩,
 ⟨some 4, .mov (.tmp 93), none⟩])
 .ret))))),
 [.tmp 4]⟩
theorem low_make_Events : lowFn Tryd.prog movers 18 = some ⟨ir_make_Events.n, strip ir_make_Events.body, ir_make_Events.res⟩ := by kernel_rfl
end Go.Proofs.YtofjnldidkiihaaDoor
