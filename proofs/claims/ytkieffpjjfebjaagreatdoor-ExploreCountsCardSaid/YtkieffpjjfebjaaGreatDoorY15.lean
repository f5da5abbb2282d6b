/- What the laws share, part 15. No condition. -/
import Derived.Test.YtkieffpjjfebjaaGreatDoorY14
namespace Go.Proofs.YtkieffpjjfebjaaGreatDoor
open Go Go.RowKit
set_option maxRecDepth 10000
def endL : List Ins → Nat → Nat
  | [], k => k
  | x :: l, k => if x.op = 8 then k else endL l (k + 1)
def endM (p : List Ins) (b : Nat) : Nat := endL (p.drop (b + 1)) (b + 1)
def intoL (len : Nat) : List Ins → Nat → Nat → Bool
  | [], _, _ => false
  | x :: l, j, t => decide (j < t ∧ x.op = 7 ∧ t ≤ endL l (j + 1) ∧ t + 1 ≤ len) || intoL len l (j + 1) t
def spanL (len t : Nat) : List Ins → Nat → Int → Int × Int
  | [], _, b => if 0 ≤ b ∧ b ≤ t ∧ t < len then (b, len) else (-1, -1)
  | x :: l, k, b => if b < 0 ∧ x.op = 7 then spanL len t l (k + 1) k else if 0 ≤ b ∧ x.op = 8 then (if b ≤ t ∧ t ≤ k then (b, k) else spanL len t l (k + 1) (-1)) else spanL len t l (k + 1) b
def span (p : List Ins) (t : Nat) : Int × Int := spanL p.length t p 0 (-1)
def targetM (p : List Ins) (k : Nat) (b : Int) (x : Ins) : Int :=
  if iskips x then (if (p.length : Int) < k + 1 + x.imm then 42 else if 0 ≤ b then (if (endM p b.toNat : Int) < k + 1 + x.imm then 42 else 0) else (if intoL p.length (p.drop (k + 1)) (k + 1) (k + 1 + x.imm.toNat) then 42 else 0)) else 0
def reachesM (p : List Ins) (k t : Nat) : Bool :=
  if p.length < t then false else if 0 ≤ (span p k).1 then decide ((t : Int) ≤ (span p k).2) else decide ((span p t).1 < 0 ∨ (span p t).1 = t)
def rtargetM (p : List Ins) (k : Nat) (x : Ins) : Int := if iskips x then (if reachesM p k (k + 1 + x.imm.toNat) then 0 else 42) else 0
def oneX (tgt : Int) (b : Int) (x : Ins) : Int :=
  if icheck x ≠ 0 then icheck x else if (x.op = 7 ∧ 0 ≤ b) ∨ (x.op = 8 ∧ b < 0) then 40 else if (iplace x = 1 ∧ b < 0) ∨ (iplace x = 2 ∧ 0 ≤ b) then 41 else tgt
def nextB (x : Ins) (k : Nat) (b : Int) : Int := if x.op = 7 then k else if x.op = 8 then -1 else b
def checkG (tgt : Nat → Int → Ins → Int) : List Ins → Nat → Int → Int × Int
  | [], _, b => if 0 ≤ b then (b, 43) else (0, 0)
  | x :: l, k, b => if oneX (tgt k b x) b x ≠ 0 then (k, oneX (tgt k b x) b x) else checkG tgt l (k + 1) (nextB x k b)
def checkP (p : List Ins) : Int × Int := if 64 < p.length then (0, 3) else checkG (targetM p) p 0 (-1)
def checkR (p : List Ins) : Int × Int := if 64 < p.length then (0, 3) else checkG (fun k _ x => rtargetM p k x) p 0 (-1)
theorem endL_ge : ∀ (l : List Ins) (k : Nat), k ≤ endL l k ∧ endL l k ≤ k + l.length
  | [], k => by simp [endL]
  | x :: l, k => by
    unfold endL
    have := endL_ge l (k + 1)
    simp only [List.length_cons]
    split <;> omega
theorem intoL_le (len : Nat) : ∀ (l : List Ins) (j t : Nat), t ≤ j → intoL len l j t = false
  | [], _, _, _ => rfl
  | x :: l, j, t, h => by
    unfold intoL
    rw [intoL_le len l (j + 1) t (by omega), Bool.or_false, decide_eq_false_iff_not]
    omega
theorem spanL_low (len t : Nat) : ∀ (l : List Ins) (j : Nat) (b : Int), (b < 0 ∧ t < j) ∨ ((t : Int) < b ∧ t < j) → (spanL len t l j b).1 < 0
  | [], j, b, h => by
    unfold spanL
    rw [if_neg (by omega)]
    decide
  | x :: l, j, b, h => by
    unfold spanL
    split
    · exact spanL_low len t l (j + 1) j (.inr ⟨by omega, by omega⟩)
    · split
      · rw [if_neg (by omega)]
        exact spanL_low len t l (j + 1) (-1) (.inl ⟨by omega, by omega⟩)
      · exact spanL_low len t l (j + 1) b (by omega)
theorem spanL_at (len t : Nat) : ∀ (l : List Ins) (j : Nat), t < j → len = j + l.length → spanL len t l j t = ((t : Int), (endL l j : Int))
  | [], j, h, hl => by
    simp only [List.length_nil, Nat.add_zero] at hl
    unfold spanL endL
    rw [if_pos (by omega), hl]
  | x :: l, j, h, hl => by
    simp only [List.length_cons] at hl
    unfold spanL endL
    rw [if_neg (by omega)]
    split
    · rename_i h8
      rw [if_pos (by omega), if_pos h8.2]
    · rename_i h8
      rw [if_neg (by omega)]
      exact spanL_at len t l (j + 1) (by omega) (by omega)
theorem spanL_in (len t : Nat) : ∀ (l : List Ins) (j : Nat) (b : Int), 0 ≤ b → b ≤ t → t < j → len = j + l.length → spanL len t l j b = (b, (endL l j : Int))
  | [], j, b, h0, h1, h, hl => by
    simp only [List.length_nil, Nat.add_zero] at hl
    unfold spanL endL
    rw [if_pos (by omega), hl]
  | x :: l, j, b, h0, h1, h, hl => by
    simp only [List.length_cons] at hl
    unfold spanL endL
    rw [if_neg (by omega)]
    split
    · rename_i h8
      rw [if_pos (by omega), if_pos h8.2]
    · rename_i h8
      rw [if_neg (by omega)]
      exact spanL_in len t l (j + 1) b h0 h1 (by omega) (by omega)
mutual
theorem span_out (len t : Nat) : ∀ (l : List Ins) (j : Nat), len = j + l.length → t ≤ len → (((spanL len t l j (-1)).1 < 0 ∨ (spanL len t l j (-1)).1 = t) ↔ intoL len l j t = false)
  | [], j, _, _ => by
    unfold spanL intoL
    simp
  | x :: l, j, hl, ht => by
    simp only [List.length_cons] at hl
    unfold spanL intoL
    by_cases h7 : x.op = 7
    · rw [if_pos ⟨by omega, h7⟩]
      by_cases hjt : j < t
      · rw [span_open len t l (j + 1) j hjt (by omega) ht]
        rw [Bool.or_eq_false_iff, decide_eq_false_iff_not]
        constructor
        · intro h; exact ⟨by omega, h.2⟩
        · intro h; exact ⟨by omega, h.2⟩
      · rw [intoL_le len l (j + 1) t (by omega)]
        by_cases hjt2 : j = t
        · subst hjt2
          rw [spanL_at len j l (j + 1) (by omega) (by omega)]
          simp
        · have := spanL_low len t l (j + 1) j (.inr ⟨by omega, by omega⟩)
          simp [this]; omega
    · rw [if_neg (by omega), if_neg (by omega), span_out len t l (j + 1) (by omega) ht]
      simp [h7]
theorem span_open (len t : Nat) : ∀ (l : List Ins) (j : Nat) (b : Nat), b < t → len = j + l.length → t ≤ len → (((spanL len t l j b).1 < 0 ∨ (spanL len t l j b).1 = t) ↔ (¬(t ≤ endL l j ∧ t + 1 ≤ len) ∧ intoL len l j t = false))
  | [], j, b, hb, hl, ht => by
    simp only [List.length_nil, Nat.add_zero] at hl
    unfold spanL intoL endL
    by_cases h : t < len
    · rw [if_pos (by omega)]
      simp; omega
    · rw [if_neg (by omega)]
      simp; omega
  | x :: l, j, b, hb, hl, ht => by
    simp only [List.length_cons] at hl
    rw [spanL, intoL, show endL (x :: l) j = (if x.op = 8 then j else endL l (j + 1)) from rfl]
    rw [if_neg (by omega)]
    by_cases h8 : x.op = 8
    · rw [if_pos ⟨by omega, h8⟩, if_pos h8]
      by_cases htj : t ≤ j
      · rw [if_pos ⟨by omega, by omega⟩]
        simp; omega
      · rw [if_neg (by omega), span_out len t l (j + 1) (by omega) ht]
        have h7 : ¬ x.op = 7 := by omega
        simp [h7]; omega
    · rw [if_neg (by omega), if_neg h8, span_open len t l (j + 1) b hb (by omega) ht]
      rw [Bool.or_eq_false_iff, decide_eq_false_iff_not]
      constructor
      · intro h; exact ⟨h.1, by omega, h.2⟩
      · intro h; exact ⟨h.1, h.2.2⟩
end
structure PInv (p : List Ins) (k : Nat) (b : Int) : Prop where
  sp : ∀ t, k ≤ t → span p t = spanL p.length t (p.drop k) k b
  bb : b = -1 ∨ (0 ≤ b ∧ b < k ∧ endM p b.toNat = endL (p.drop k) k)
theorem PInv.start (p : List Ins) : PInv p 0 (-1) := ⟨fun _ _ => rfl, .inl rfl⟩
theorem drop_at {p : List Ins} {k : Nat} {x : Ins} (hx : p[k]? = some x) : p.drop k = x :: p.drop (k + 1) := by
  obtain ⟨hk, he⟩ := List.getElem?_eq_some_iff.1 hx
  rw [List.drop_eq_getElem_cons hk, he]
theorem PInv.step {p : List Ins} {k : Nat} {b : Int} {x : Ins} (h : PInv p k b) (hx : p[k]? = some x) (h7 : x.op = 7 → b < 0) (h8 : x.op = 8 → 0 ≤ b) : PInv p (k + 1) (nextB x k b) := by
  have hd := drop_at hx
  refine ⟨fun t ht => ?_, ?_⟩
  · rw [h.sp t (by omega), hd, spanL]
    unfold nextB
    by_cases e7 : x.op = 7
    · rw [if_pos ⟨h7 e7, e7⟩, if_pos e7]
    · by_cases e8 : x.op = 8
      · rw [if_neg (by omega), if_pos ⟨h8 e8, e8⟩, if_neg (by omega), if_neg e7, if_pos e8]
      · rw [if_neg (by omega), if_neg (by omega), if_neg e7, if_neg e8]
  · unfold nextB
    by_cases e7 : x.op = 7
    · rw [if_pos e7]
      refine .inr ⟨by omega, by omega, ?_⟩
      simp [endM]
    · by_cases e8 : x.op = 8
      · rw [if_neg e7, if_pos e8]; exact .inl rfl
      · rw [if_neg e7, if_neg e8]
        rcases h.bb with hb | ⟨h0, h1, h2⟩
        · exact .inl hb
        · refine .inr ⟨h0, by omega, ?_⟩
          rw [h2, hd, endL, if_neg e8]
theorem skips_op {x : Ins} (h : iskips x = true) : (x.op = 4 ∨ x.op = 5 ∨ x.op = 6) ∧ 0 ≤ x.imm ∧ x.imm ≤ 64 := by
  unfold iskips at h
  simp only [decide_eq_true_eq] at h
  refine ⟨h.2, ?_⟩
  have hc := h.1
  unfold icheck at hc
  split at hc
  · omega
  · split at hc
    · split at hc
      · rename_i hi
        unfold immOk at hi
        rw [if_neg (by omega), if_neg (by omega), if_pos (by omega)] at hi
        exact hi
      · omega
    · omega
theorem PInv.target {p : List Ins} {k : Nat} {b : Int} {x : Ins} (h : PInv p k b) (hx : p[k]? = some x) : targetM p k b x = rtargetM p k x := by
  unfold targetM rtargetM
  by_cases hs : iskips x = true
  · obtain ⟨hop, hi0, hi1⟩ := skips_op hs
    rw [if_pos hs, if_pos hs]
    obtain ⟨t, ht⟩ : ∃ t : Nat, (t : Int) = k + 1 + x.imm := ⟨k + 1 + x.imm.toNat, by omega⟩
    have ht' : k + 1 + x.imm.toNat = t := by omega
    rw [ht', ← ht]
    have hk := (List.getElem?_eq_some_iff.1 hx).1
    have hd := drop_at hx
    have hlen : p.length = k + 1 + (p.drop (k + 1)).length := by rw [List.length_drop]; omega
    by_cases hlt : p.length < t
    · have hr : reachesM p k t = false := by unfold reachesM; rw [if_pos hlt]
      rw [hr, if_pos (by omega)]; rfl
    · rw [if_neg (show ¬ (p.length : Int) < t by omega)]
      have s1 := h.sp k (Nat.le_refl _)
      rw [hd, spanL, if_neg (by omega), if_neg (by omega)] at s1
      have s2 := h.sp t (by omega)
      rw [hd, spanL, if_neg (by omega), if_neg (by omega)] at s2
      rcases h.bb with hb | ⟨h0, h1, h2⟩
      · subst hb
        have hl := spanL_low p.length k (p.drop (k + 1)) (k + 1) (-1) (.inl ⟨by omega, by omega⟩)
        rw [← s1] at hl
        have ho := span_out p.length t (p.drop (k + 1)) (k + 1) hlen (by omega)
        rw [← s2] at ho
        have hr : reachesM p k t = !intoL p.length (p.drop (k + 1)) (k + 1) t := by
          unfold reachesM
          rw [if_neg hlt, if_neg (show ¬ 0 ≤ (span p k).1 by omega)]
          cases hin : intoL p.length (p.drop (k + 1)) (k + 1) t with
          | true => rw [hin] at ho; rw [decide_eq_false (by rw [ho]; simp)]; rfl
          | false => rw [hin] at ho; rw [decide_eq_true (ho.2 rfl)]; rfl
        rw [hr, if_neg (by omega)]
        cases intoL p.length (p.drop (k + 1)) (k + 1) t <;> rfl
      · have hin := spanL_in p.length k (p.drop (k + 1)) (k + 1) b h0 (by omega) (by omega) hlen
        rw [hin] at s1
        have hr : reachesM p k t = decide ((t : Int) ≤ (endL (p.drop (k + 1)) (k + 1) : Nat)) := by
          unfold reachesM
          rw [if_neg hlt, s1, if_pos h0]
        have he : endL (p.drop k) k = endL (p.drop (k + 1)) (k + 1) := by rw [hd, endL, if_neg (by omega)]
        rw [hr, if_pos h0, h2, he]
        by_cases hle : (t : Int) ≤ (endL (p.drop (k + 1)) (k + 1) : Nat)
        · rw [if_neg (by omega), decide_eq_true hle]; rfl
        · rw [if_pos (by omega), decide_eq_false hle]; rfl
  · rw [if_neg hs, if_neg hs]
theorem oneX_ok {t b : Int} {x : Ins} (h : oneX t b x = 0) : (x.op = 7 → b < 0) ∧ (x.op = 8 → 0 ≤ b) ∧ icheck x = 0 ∧ t = 0 := by
  unfold oneX at h
  split at h
  · omega
  · split at h
    · omega
    · split at h
      · omega
      · rename_i h1 h2 _
        simp at h1
        refine ⟨by omega, by omega, h1, h⟩
theorem check_same (p : List Ins) : ∀ (n k : Nat) (b : Int), n + k = p.length → PInv p k b → checkG (targetM p) (p.drop k) k b = checkG (fun k _ x => rtargetM p k x) (p.drop k) k b
  | 0, k, b, hn, _ => by
    have : p.drop k = [] := List.drop_eq_nil_iff.2 (by omega)
    rw [this, checkG, checkG]
  | n + 1, k, b, hn, h => by
    obtain ⟨x, hx⟩ : ∃ x, p[k]? = some x := ⟨_, List.getElem?_eq_getElem (by omega)⟩
    rw [drop_at hx, checkG, checkG, h.target hx]
    split
    · rfl
    · rename_i h0
      have ho := oneX_ok (t := rtargetM p k x) (b := b) (x := x) (by simpa using h0)
      exact check_same p n (k + 1) _ (by omega) (h.step hx ho.1 ho.2.1)
theorem checkP_R (p : List Ins) : checkP p = checkR p := by
  unfold checkP checkR
  split
  · rfl
  · exact check_same p p.length 0 (-1) (by omega) (PInv.start p)
end Go.Proofs.YtkieffpjjfebjaaGreatDoor
namespace Go.Proofs.YtkieffpjjfebjaaGreatDoor
open Go
set_option maxRecDepth 10000
set_option maxHeartbeats 4000000
theorem stN_and' {W0 : World} {own : Own} {a : Addr} {vs : List Value} {n : Nat} {K : Own → Prop} (h : vs.length = n) (h2 : StN W0 own a vs K) : vs.length = n ∧ StN W0 own a vs K := ⟨h, h2⟩
section
variable {W0 : World} {own : Own} {a : Option Addr} {cap : Nat} {p : List Ins}
theorem sp_end (hR : RdE Ins.enc 5 W0 own a p) (hl : p.length ≤ 1099511627776) (b : Nat) (hb : b + 1 ≤ p.length) : Pure Tryz.prog W0 124 [.slice a p.length cap, .int .i64 b] own (.int .i64 (endM p b)) := by
  refine pure_of (spec_of mixed low_program_end (by simp [ir_program_end]) ?_)
  repeat' ((try (conv => whnf)); first | (refine ari ?_ ?_; omega))
  refine loop_c (σ := Nat) (fun k => [(5, .int .i64 k)]) (fun k => k ≤ p.length ∧ endL (p.drop k) k = endM p b) (fun k => p.length - k) (b + 1) ⟨by omega, rfl⟩ (by repeat' (first | exact True.intro | refine And.intro ?_ ?_ | exact rfl | exact vi (by omega) | (dsimp only; exact rfl) | (dsimp only; exact vi (by omega)))) rfl ?_
  rintro k junk ⟨hk, hI⟩
  by_cases hlt : k < p.length
  · obtain ⟨x, hx⟩ : ∃ x, p[k]? = some x := ⟨_, List.getElem?_eq_getElem hlt⟩
    rw [drop_at hx, endL] at hI
    repeat' ((try (conv => whnf)); first | (refine br_py (by omega) ?_) | ((with_reducible show Ld _ _ _ _); first | (refine ldE (k := 0) (RdE.ent hR ?_) hx ?_ rfl ?_; rotate_left; rfl; rotate_left; (solve | (repeat (first | exact Ent.refl | exact Ent.left | refine Ent.cons ?_ | refine Ent.app ?_))))) | ((with_reducible show IxS _ _ _ _ _); first | (refine ixE hR hx ?_ ?_; (first | rfl | omega))) | (refine ari ?_ ?_; omega) | (refine br_d (fun hc => ?_) (fun hc => ?_)))
    · rw [if_pos hc] at hI
      exact ⟨ret1 (vi (by rw [hI])), by (repeat (first | exact Ent.refl | exact Ent.left | refine Ent.cons ?_ | refine Ent.app ?_))⟩
    · rw [if_neg hc] at hI
      exact ⟨k + 1, ⟨by omega, hI⟩, by omega, (by repeat' (first | exact True.intro | refine And.intro ?_ ?_ | exact rfl | exact vi (by omega) | (dsimp only; exact rfl) | (dsimp only; exact vi (by omega)))), Ent.refl⟩
  · have hk' : k = p.length := by omega
    subst hk'
    rw [List.drop_length, endL] at hI
    repeat' ((try (conv => whnf)); first | (refine br_pn (by omega) ?_))
    exact ⟨ret1 (vi (by rw [← hI])), by (repeat (first | exact Ent.refl | exact Ent.left | refine Ent.cons ?_ | refine Ent.app ?_))⟩
theorem sp_into (hR : RdE Ins.enc 5 W0 own a p) (hl : p.length ≤ 1099511627776) (k t : Nat) (ht : k + 1 ≤ t ∧ t ≤ p.length) :
    Pure Tryz.prog W0 187 [.slice a p.length cap, .int .i64 k, .int .i64 t] own (.bool (intoL p.length (p.drop (k + 1)) (k + 1) t)) := by
  refine pure_of (spec_of mixed low_program_into (by simp [ir_program_into]) ?_)
  repeat' ((try (conv => whnf)); first | (refine ari ?_ ?_; omega))
  refine loop_c (σ := Nat) (fun b => [(7, .int .i64 b)]) (fun b => b ≤ t ∧ intoL p.length (p.drop b) b t = intoL p.length (p.drop (k + 1)) (k + 1) t) (fun b => t - b) (k + 1) ⟨by omega, rfl⟩ (by repeat' (first | exact True.intro | refine And.intro ?_ ?_ | exact rfl | exact vi (by omega) | (dsimp only; exact rfl) | (dsimp only; exact vi (by omega)))) rfl ?_
  rintro b junk ⟨hb, hI⟩
  by_cases hlt : b < t
  · obtain ⟨x, hx⟩ : ∃ x, p[b]? = some x := ⟨_, List.getElem?_eq_getElem (by omega)⟩
    have hE := fun ex => sp_end (cap := cap) (hR.ent (Ent.app (A := ex) Ent.refl)) hl b (by omega)
    have he : endM p b = endL (p.drop (b + 1)) (b + 1) := rfl
    rw [drop_at hx, intoL, ← he] at hI
    have hge := endL_ge (p.drop (b + 1)) (b + 1)
    rw [← he, List.length_drop] at hge
    by_cases h7 : x.op = 7
    · by_cases hin : t ≤ endM p b ∧ t + 1 ≤ p.length
      · rw [decide_eq_true ⟨hlt, h7, hin.1, hin.2⟩, Bool.true_or] at hI
        repeat' ((try (conv => whnf)); first | (refine when_y ?_) | (refine br_py (by omega) ?_) | (refine when_py (by omega) ?_) | (refine call_p (hE []) ?_) | ((with_reducible show Ld _ _ _ _); first | (refine ldE (k := 0) (RdE.ent hR ?_) hx ?_ rfl ?_; rotate_left; rfl; rotate_left; (solve | (repeat (first | exact Ent.refl | exact Ent.left | refine Ent.cons ?_ | refine Ent.app ?_))))) | ((with_reducible show IxS _ _ _ _ _); first | (refine ixE hR hx ?_ ?_; (first | rfl | omega))) | (refine ari ?_ ?_; omega) | (refine mm_min ?_))
        all_goals first | exact ⟨ret1 (vb hI), by (repeat (first | exact Ent.refl | exact Ent.left | refine Ent.cons ?_ | refine Ent.app ?_))⟩ | (exfalso; omega)
      · rw [decide_eq_false (by omega), Bool.false_or] at hI
        repeat' ((try (conv => whnf)); first | (refine when_y ?_) | (refine br_py (by omega) ?_) | (refine br_pn (by omega) ?_) | (refine when_py (by omega) ?_) | (refine call_p (hE []) ?_) | ((with_reducible show Ld _ _ _ _); first | (refine ldE (k := 0) (RdE.ent hR ?_) hx ?_ rfl ?_; rotate_left; rfl; rotate_left; (solve | (repeat (first | exact Ent.refl | exact Ent.left | refine Ent.cons ?_ | refine Ent.app ?_))))) | ((with_reducible show IxS _ _ _ _ _); first | (refine ixE hR hx ?_ ?_; (first | rfl | omega))) | (refine ari ?_ ?_; omega) | (refine mm_min ?_))
        all_goals first | exact ⟨b + 1, ⟨by omega, hI⟩, by omega, (by repeat' (first | exact True.intro | refine And.intro ?_ ?_ | exact rfl | exact vi (by omega) | (dsimp only; exact rfl) | (dsimp only; exact vi (by omega)))), Ent.refl⟩ | (exfalso; omega)
    · rw [decide_eq_false (by omega), Bool.false_or] at hI
      repeat' ((try (conv => whnf)); first | (refine when_ft ?_) | (refine br_f ?_) | (refine br_py (by omega) ?_) | (refine when_pn (by omega) ?_) | ((with_reducible show Ld _ _ _ _); first | (refine ldE (k := 0) (RdE.ent hR ?_) hx ?_ rfl ?_; rotate_left; rfl; rotate_left; (solve | (repeat (first | exact Ent.refl | exact Ent.left | refine Ent.cons ?_ | refine Ent.app ?_))))) | ((with_reducible show IxS _ _ _ _ _); first | (refine ixE hR hx ?_ ?_; (first | rfl | omega))) | (refine ari ?_ ?_; omega))
      all_goals exact ⟨b + 1, ⟨by omega, hI⟩, by omega, (by repeat' (first | exact True.intro | refine And.intro ?_ ?_ | exact rfl | exact vi (by omega) | (dsimp only; exact rfl) | (dsimp only; exact vi (by omega)))), Ent.refl⟩
  · rw [intoL_le _ _ _ _ (by omega)] at hI
    repeat' ((try (conv => whnf)); first | (refine br_pn (by omega) ?_))
    exact ⟨ret1 (vb hI), by (repeat (first | exact Ent.refl | exact Ent.left | refine Ent.cons ?_ | refine Ent.app ?_))⟩
theorem sp_target (hF : FormsAt W0) (hR : RdE Ins.enc 5 W0 own a p) (hl : p.length ≤ 64) (k : Nat) (b : Int) (x : Ins) (hx : p[k]? = some x) (hb : b = -1 ∨ (0 ≤ b ∧ b < k)) :
    Pure Tryz.prog W0 156 [.slice a p.length cap, .int .i64 k, .int .i64 b] own (.int .i64 (targetM p k b x)) := by
  refine pure_of (spec_of mixed low_program_target (by simp [ir_program_target]) ?_)
  have hk := (List.getElem?_eq_some_iff.1 hx).1
  have hs := fun own => sp_iskips W0 own hF x
  unfold targetM
  cases hsk : iskips x
  · have hi : iskip x = 0 := by unfold iskip; rw [hsk]; rfl
    rw [hsk, hi] at hs
    repeat' ((try (conv => whnf)); first | (refine br_t ?_) | (apply call_p (hs _)) | ((with_reducible show IxS _ _ _ _ _); first | (refine ixE hR hx ?_ ?_; (first | rfl | omega))) | ((with_reducible show LdN _ _ _ _ _); first | (refine ldNE (RdE.ent hR ?_) hx ?_ ?_ ?_; rotate_left; rfl; rfl; rotate_left; (solve | (repeat (first | exact Ent.refl | exact Ent.left | refine Ent.cons ?_ | refine Ent.app ?_))))) | (apply sel; exact rfl))
    all_goals exact ⟨ret1 (vi (by simp)), by (repeat (first | exact Ent.refl | exact Ent.left | refine Ent.cons ?_ | refine Ent.app ?_))⟩
  · obtain ⟨hop, hi0, hi1⟩ := skips_op hsk
    have hi : iskip x = x.imm := by unfold iskip; rw [hsk]; rfl
    rw [hsk, hi] at hs
    simp only [if_true]
    generalize x.imm = m at *
    by_cases hlt : (p.length : Int) < k + 1 + m
    · rw [if_pos hlt]
      repeat' ((try (conv => whnf)); first | (refine br_f ?_) | (refine br_py (by omega) ?_) | (apply call_p (hs _)) | ((with_reducible show IxS _ _ _ _ _); first | (refine ixE hR hx ?_ ?_; (first | rfl | omega))) | ((with_reducible show LdN _ _ _ _ _); first | (refine ldNE (RdE.ent hR ?_) hx ?_ ?_ ?_; rotate_left; rfl; rfl; rotate_left; (solve | (repeat (first | exact Ent.refl | exact Ent.left | refine Ent.cons ?_ | refine Ent.app ?_))))) | (refine ari ?_ ?_; omega) | (apply sel; exact rfl))
      all_goals exact ⟨rfl, by (repeat (first | exact Ent.refl | exact Ent.left | refine Ent.cons ?_ | refine Ent.app ?_))⟩
    · rw [if_neg hlt]
      rcases hb with hb | ⟨hb0, hb1⟩
      · subst hb
        rw [if_neg (by omega)]
        obtain ⟨t, ht⟩ : ∃ t : Nat, (t : Int) = k + 1 + m := ⟨k + 1 + m.toNat, by omega⟩
        have ht' : k + 1 + m.toNat = t := by omega
        rw [ht']
        have hin := sp_into (cap := cap) hR (by omega) k t (by omega)
        rw [ht] at hin
        cases hv : intoL p.length (p.drop (k + 1)) (k + 1) t <;> rw [hv] at hin
        all_goals
          repeat' ((try (conv => whnf)); first | (refine when_y ?_) | (refine when_ft ?_) | (refine br_t ?_) | (refine br_f ?_) | (refine br_pn (by omega) ?_) | (apply call_p (hs _)) | (refine call_p hin ?_) | ((with_reducible show IxS _ _ _ _ _); first | (refine ixE hR hx ?_ ?_; (first | rfl | omega))) | ((with_reducible show LdN _ _ _ _ _); first | (refine ldNE (RdE.ent hR ?_) hx ?_ ?_ ?_; rotate_left; rfl; rfl; rotate_left; (solve | (repeat (first | exact Ent.refl | exact Ent.left | refine Ent.cons ?_ | refine Ent.app ?_))))) | (refine ari ?_ ?_; omega) | (apply sel; exact rfl))
          all_goals exact ⟨rfl, by (repeat (first | exact Ent.refl | exact Ent.left | refine Ent.cons ?_ | refine Ent.app ?_))⟩
      · rw [if_pos hb0]
        obtain ⟨b, rfl⟩ := Int.eq_ofNat_of_zero_le hb0
        simp only [Int.toNat_natCast]
        have hE := sp_end (cap := cap) hR (by omega) b (by omega)
        have hge := endL_ge (p.drop (b + 1)) (b + 1)
        have he : endM p b = endL (p.drop (b + 1)) (b + 1) := rfl
        rw [← he, List.length_drop] at hge
        repeat' ((try (conv => whnf)); first | (refine when_y ?_) | (refine when_ft ?_) | (refine br_f ?_) | (refine br_pn (by omega) ?_) | (apply call_p (hs _)) | (refine call_p hE ?_) | ((with_reducible show IxS _ _ _ _ _); first | (refine ixE hR hx ?_ ?_; (first | rfl | omega))) | ((with_reducible show LdN _ _ _ _ _); first | (refine ldNE (RdE.ent hR ?_) hx ?_ ?_ ?_; rotate_left; rfl; rfl; rotate_left; (solve | (repeat (first | exact Ent.refl | exact Ent.left | refine Ent.cons ?_ | refine Ent.app ?_))))) | (refine ari ?_ ?_; omega) | (apply sel; exact rfl) | (refine br_d (fun hc => ?_) (fun hc => ?_)))
        all_goals (refine ⟨ret1 (vi ?_), by (repeat (first | exact Ent.refl | exact Ent.left | refine Ent.cons ?_ | refine Ent.app ?_))⟩; first | (rw [if_pos (by omega)]; done) | (rw [if_neg (by omega)]; done) | (split <;> omega))
theorem sp_one (hF : FormsAt W0) (hR : RdE Ins.enc 5 W0 own a p) (hl : p.length ≤ 64) (k : Nat) (b : Int) (x : Ins) (hx : p[k]? = some x) (hb : b = -1 ∨ (0 ≤ b ∧ b < k)) :
    Pure Tryz.prog W0 129 [.slice a p.length cap, .int .i64 k, .int .i64 b] own (.int .i64 (oneX (targetM p k b x) b x)) := by
  refine pure_of (spec_of mixed low_program_one (by simp [ir_program_one]) ?_)
  have hk := (List.getElem?_eq_some_iff.1 hx).1
  have hc := fun own => sp_icheck W0 own hF x
  have hp := fun own => sp_iplace W0 own hF x
  have ht := sp_target (cap := cap) hF hR hl k b x hx hb
  generalize targetM p k b x = t at *
  unfold oneX
  generalize icheck x = z at *
  generalize iplace x = q at *
  repeat' ((try (conv => whnf)); first | (refine when_y ?_) | (refine when_ft ?_) | (refine br_f ?_) | (refine br_py (by omega) ?_) | (refine br_pn (by omega) ?_) | (refine when_pn (by omega) ?_) | (refine br_npy (by omega) ?_) | (refine br_npn (by omega) ?_) | (apply call_p (hc _)) | (apply call_p (hp _)) | (refine call_p ht ?_) | ((with_reducible show Ld _ _ _ _); first | (refine ldE (k := 0) (RdE.ent hR ?_) hx ?_ rfl ?_; rotate_left; rfl; rotate_left; (solve | (repeat (first | exact Ent.refl | exact Ent.left | refine Ent.cons ?_ | refine Ent.app ?_))))) | ((with_reducible show IxS _ _ _ _ _); first | (refine ixE hR hx ?_ ?_; (first | rfl | omega))) | ((with_reducible show LdN _ _ _ _ _); first | (refine ldNE (RdE.ent hR ?_) hx ?_ ?_ ?_; rotate_left; rfl; rfl; rotate_left; (solve | (repeat (first | exact Ent.refl | exact Ent.left | refine Ent.cons ?_ | refine Ent.app ?_))))) | (refine when_dt (fun hc => ?_) (fun hc => ?_)) | (refine br_d (fun hc => ?_) (fun hc => ?_)) | (refine br_nd (fun hc => ?_) (fun hc => ?_)))
  all_goals (refine ⟨ret1 (vi ?_), by (repeat (first | exact Ent.refl | exact Ent.left | refine Ent.cons ?_ | refine Ent.app ?_))⟩; (repeat' split) <;> first | rfl | (exfalso; omega) | omega)
theorem sp_pcheck (hF : FormsAt W0) (hR : RdE Ins.enc 5 W0 own a p) :
    Pure Tryz.prog W0 98 [.slice a p.length cap] own (.tuple #[.int .i64 (checkP p).1, .int .i64 (checkP p).2]) := by
  refine pure_of (spec_of mixed low_program_Check (by simp [ir_program_Check]) ?_)
  unfold checkP
  by_cases h64 : 64 < p.length
  · rw [if_pos h64]
    repeat' ((try (conv => whnf)); first | (refine br_py (by omega) ?_))
    all_goals first | exact ⟨rfl, by (repeat (first | exact Ent.refl | exact Ent.left | refine Ent.cons ?_ | refine Ent.app ?_))⟩ | (exfalso; omega)
  · rw [if_neg h64]
    generalize hres : checkG (targetM p) p 0 (-1) = res
    repeat' ((try (conv => whnf)); first | (refine br_pn (by omega) ?_))
    refine loop_c (σ := Nat × Int) (fun s => [(13, .int .i64 s.1), (4, .int .i64 s.2)]) (fun s => s.1 ≤ p.length ∧ (s.2 = -1 ∨ (0 ≤ s.2 ∧ s.2 < s.1)) ∧ checkG (targetM p) (p.drop s.1) s.1 s.2 = res) (fun s => p.length - s.1) (0, -1) ⟨by simp, by simp, hres⟩ (by repeat' (first | exact True.intro | refine And.intro ?_ ?_ | exact rfl | exact vi (by omega) | (dsimp only; exact rfl) | (dsimp only; exact vi (by omega)))) rfl ?_
    rintro ⟨k, b⟩ junk ⟨hk, hb, hI⟩
    simp only [] at hk hb hI
    by_cases hlt : k < p.length
    · obtain ⟨x, hx⟩ : ∃ x, p[k]? = some x := ⟨_, List.getElem?_eq_getElem hlt⟩
      rw [drop_at hx, checkG] at hI
      have ho := fun ex => sp_one (cap := cap) hF (hR.ent (Ent.app (A := ex) Ent.refl)) (by omega) k b x hx hb
      have hnb : nextB x k b = -1 ∨ (0 ≤ nextB x k b ∧ nextB x k b < (k + 1 : Nat)) := by unfold nextB; (repeat' split) <;> omega
      generalize hz : oneX (targetM p k b x) b x = z at *
      by_cases h0 : z = 0
      · rw [if_neg (by simpa using h0)] at hI
        unfold nextB at hI hnb
        subst h0
        by_cases h7 : x.op = 7
        · rw [if_pos h7] at hI hnb
          repeat' ((try (conv => whnf)); first | (refine br_f ?_) | (refine br_py (by omega) ?_) | (refine stN_and' rfl ?_) | (refine call_p (ho [_]) ?_) | ((with_reducible show IxS _ _ _ _ _); first | (refine ixE hR hx ?_ ?_; (first | rfl | omega))) | ((with_reducible show LdN _ _ _ _ _); first | (refine ldNE (RdE.ent hR ?_) hx ?_ ?_ ?_; rotate_left; rfl; rfl; rotate_left; (solve | (repeat (first | exact Ent.refl | exact Ent.left | refine Ent.cons ?_ | refine Ent.app ?_))))) | (refine ari ?_ ?_; omega) | (apply ld_own; (first | (solve | repeat (first | with_reducible exact List.mem_cons_self | (with_reducible (apply List.mem_append_left; exact List.mem_cons_self)) | with_reducible apply List.mem_cons_of_mem | with_reducible apply List.mem_append_right)) | (repeat (first | exact List.Mem.head _ | apply List.Mem.tail | apply List.mem_append_right))); exact rfl) | (apply stN_own; (first | (solve | repeat (first | with_reducible exact Up.head | with_reducible apply Up.tail | with_reducible apply Up.app)) | (repeat (first | exact Up.head | apply Up.tail | apply Up.app))); (solve | ((try (conv => arg 2; whnf)); repeat' (first | exact Lis.nil | apply Lis.cons | apply SetAt.here | apply SetAt.there | apply PutAt.done | apply PutAt.put | apply PutAt.skip))); exact rfl) | (refine new_i (fun bk hbk => ?_)))
          all_goals exact ⟨(k + 1, (k : Int)), ⟨by simp; omega, hnb, hI⟩, by simp; omega, (by repeat' (first | exact True.intro | refine And.intro ?_ ?_ | exact rfl | exact vi (by omega) | (dsimp only; exact rfl) | (dsimp only; exact vi (by omega)))), by (repeat (first | exact Ent.refl | exact Ent.left | refine Ent.cons ?_ | refine Ent.app ?_))⟩
        · by_cases h8 : x.op = 8
          · rw [if_neg h7, if_pos h8] at hI hnb
            repeat' ((try (conv => whnf)); first | (refine br_f ?_) | (refine br_py (by omega) ?_) | (refine br_pn (by omega) ?_) | (refine stN_and' rfl ?_) | (refine call_p (ho [_]) ?_) | ((with_reducible show IxS _ _ _ _ _); first | (refine ixE hR hx ?_ ?_; (first | rfl | omega))) | ((with_reducible show LdN _ _ _ _ _); first | (refine ldNE (RdE.ent hR ?_) hx ?_ ?_ ?_; rotate_left; rfl; rfl; rotate_left; (solve | (repeat (first | exact Ent.refl | exact Ent.left | refine Ent.cons ?_ | refine Ent.app ?_))))) | (refine ari ?_ ?_; omega) | (apply ld_own; (first | (solve | repeat (first | with_reducible exact List.mem_cons_self | (with_reducible (apply List.mem_append_left; exact List.mem_cons_self)) | with_reducible apply List.mem_cons_of_mem | with_reducible apply List.mem_append_right)) | (repeat (first | exact List.Mem.head _ | apply List.Mem.tail | apply List.mem_append_right))); exact rfl) | (apply stN_own; (first | (solve | repeat (first | with_reducible exact Up.head | with_reducible apply Up.tail | with_reducible apply Up.app)) | (repeat (first | exact Up.head | apply Up.tail | apply Up.app))); (solve | ((try (conv => arg 2; whnf)); repeat' (first | exact Lis.nil | apply Lis.cons | apply SetAt.here | apply SetAt.there | apply PutAt.done | apply PutAt.put | apply PutAt.skip))); exact rfl) | (refine new_i (fun bk hbk => ?_)))
            all_goals exact ⟨(k + 1, -1), ⟨by simp; omega, hnb, hI⟩, by simp; omega, (by repeat' (first | exact True.intro | refine And.intro ?_ ?_ | exact rfl | exact vi (by omega) | (dsimp only; exact rfl) | (dsimp only; exact vi (by omega)))), by (repeat (first | exact Ent.refl | exact Ent.left | refine Ent.cons ?_ | refine Ent.app ?_))⟩
          · rw [if_neg h7, if_neg h8] at hI hnb
            repeat' ((try (conv => whnf)); first | (refine br_f ?_) | (refine br_py (by omega) ?_) | (refine br_pn (by omega) ?_) | (refine stN_and' rfl ?_) | (refine call_p (ho [_]) ?_) | ((with_reducible show IxS _ _ _ _ _); first | (refine ixE hR hx ?_ ?_; (first | rfl | omega))) | ((with_reducible show LdN _ _ _ _ _); first | (refine ldNE (RdE.ent hR ?_) hx ?_ ?_ ?_; rotate_left; rfl; rfl; rotate_left; (solve | (repeat (first | exact Ent.refl | exact Ent.left | refine Ent.cons ?_ | refine Ent.app ?_))))) | (refine ari ?_ ?_; omega) | (apply ld_own; (first | (solve | repeat (first | with_reducible exact List.mem_cons_self | (with_reducible (apply List.mem_append_left; exact List.mem_cons_self)) | with_reducible apply List.mem_cons_of_mem | with_reducible apply List.mem_append_right)) | (repeat (first | exact List.Mem.head _ | apply List.Mem.tail | apply List.mem_append_right))); exact rfl) | (apply stN_own; (first | (solve | repeat (first | with_reducible exact Up.head | with_reducible apply Up.tail | with_reducible apply Up.app)) | (repeat (first | exact Up.head | apply Up.tail | apply Up.app))); (solve | ((try (conv => arg 2; whnf)); repeat' (first | exact Lis.nil | apply Lis.cons | apply SetAt.here | apply SetAt.there | apply PutAt.done | apply PutAt.put | apply PutAt.skip))); exact rfl) | (refine new_i (fun bk hbk => ?_)))
            all_goals exact ⟨(k + 1, b), ⟨by simp; omega, hnb, hI⟩, by simp; omega, (by repeat' (first | exact True.intro | refine And.intro ?_ ?_ | exact rfl | exact vi (by omega) | (dsimp only; exact rfl) | (dsimp only; exact vi (by omega)))), by (repeat (first | exact Ent.refl | exact Ent.left | refine Ent.cons ?_ | refine Ent.app ?_))⟩
      · rw [if_pos h0] at hI
        repeat' ((try (conv => whnf)); first | (refine br_py (by omega) ?_) | (refine stN_and' rfl ?_) | (refine call_p (ho [_]) ?_) | ((with_reducible show IxS _ _ _ _ _); first | (refine ixE hR hx ?_ ?_; (first | rfl | omega))) | ((with_reducible show LdN _ _ _ _ _); first | (refine ldNE (RdE.ent hR ?_) hx ?_ ?_ ?_; rotate_left; rfl; rfl; rotate_left; (solve | (repeat (first | exact Ent.refl | exact Ent.left | refine Ent.cons ?_ | refine Ent.app ?_))))) | (apply stN_own; (first | (solve | repeat (first | with_reducible exact Up.head | with_reducible apply Up.tail | with_reducible apply Up.app)) | (repeat (first | exact Up.head | apply Up.tail | apply Up.app))); (solve | ((try (conv => arg 2; whnf)); repeat' (first | exact Lis.nil | apply Lis.cons | apply SetAt.here | apply SetAt.there | apply PutAt.done | apply PutAt.put | apply PutAt.skip))); exact rfl) | (refine new_i (fun bk hbk => ?_)))
        all_goals (rw [← hI]; exact ⟨rfl, by (repeat (first | exact Ent.refl | exact Ent.left | refine Ent.cons ?_ | refine Ent.app ?_))⟩)
    · have hk' : k = p.length := by omega
      subst hk'
      rw [List.drop_length, checkG] at hI
      rw [← hI]
      repeat' ((try (conv => whnf)); first | (refine br_pn (by omega) ?_) | (refine br_d (fun hc => ?_) (fun hc => ?_)))
      all_goals (refine ⟨ret2 (vi ?_) (vi ?_), by (repeat (first | exact Ent.refl | exact Ent.left | refine Ent.cons ?_ | refine Ent.app ?_))⟩ <;> split <;> first | rfl | (exfalso; omega))
end
end Go.Proofs.YtkieffpjjfebjaaGreatDoor
namespace Go.Proofs.YtkieffpjjfebjaaGreatDoor
open Go
set_option maxRecDepth 10000
structure Cfg where
  words : Int
  orecs : Int
  base : Int
  c0 : Int
  c1 : Int
  c2 : Int
  c3 : Int
  reads : Int
  writes : Int
  allocs : Int
  frees : Int
  clock : Int
  strong : Bool
def Cfg.cs (c : Cfg) : Array Value := #[.int .i64 c.words, .int .i64 c.orecs, .int .i64 c.base, .int .i64 c.c0, .int .i64 c.c1, .int .i64 c.c2, .int .i64 c.c3, .int .i64 c.reads, .int .i64 c.writes, .int .i64 c.allocs, .int .i64 c.frees, .int .i64 c.clock, .bool c.strong]
def Cfg.v (c : Cfg) : Value := .agg c.cs
def okW (c : Cfg) : Prop := 1 ≤ c.words ∧ c.words ≤ 64 ∧ 1 ≤ c.orecs ∧ c.orecs ≤ 64
def okC (c : Cfg) : Prop := 0 ≤ c.c0 ∧ c.c0 ≤ 64 ∧ 0 ≤ c.c1 ∧ c.c1 ≤ 64 ∧ 0 ≤ c.c2 ∧ c.c2 ≤ 64 ∧ 0 ≤ c.c3 ∧ c.c3 ≤ 64
def nB (c : Cfg) : Int := c.c0 + c.c1 + c.c2 + c.c3
def nW (c : Cfg) : Int := c.c0 + c.c1 * 2 + c.c2 * 4 + c.c3 * 8
def okH (c : Cfg) : Prop := okC c ∧ nB c ≤ 64 ∧ 0 ≤ c.base ∧ c.base ≤ c.words ∧ c.base + nW c ≤ c.words
def okL (c : Cfg) : Prop := 1 ≤ c.reads ∧ c.reads ≤ 32 ∧ 1 ≤ c.writes ∧ c.writes ≤ 32 ∧ 0 ≤ c.allocs ∧ c.allocs ≤ 8 ∧ 0 ≤ c.frees ∧ c.frees ≤ 8
def okK (c : Cfg) : Prop := 0 ≤ c.clock ∧ c.clock ≤ 1099511627776
instance (c : Cfg) : Decidable (okW c) := by unfold okW; exact inferInstance
instance (c : Cfg) : Decidable (okC c) := by unfold okC; exact inferInstance
instance (c : Cfg) : Decidable (okH c) := by unfold okH; exact inferInstance
instance (c : Cfg) : Decidable (okL c) := by unfold okL; exact inferInstance
instance (c : Cfg) : Decidable (okK c) := by unfold okK; exact inferInstance
def checkM (c : Cfg) : Int := if okW c then if okH c then if okL c then if okK c then 0 else 53 else 52 else 51 else 50
theorem cm50 {c : Cfg} (h1 : ¬okW c) : 50 = checkM c := by simp [checkM, h1]
theorem cm51 {c : Cfg} (h1 : okW c) (h2 : ¬okH c) : 51 = checkM c := by simp [checkM, h1, h2]
theorem cm52 {c : Cfg} (h1 : okW c) (h2 : okH c) (h3 : ¬okL c) : 52 = checkM c := by simp [checkM, h1, h2, h3]
theorem cm53 {c : Cfg} (h1 : okW c) (h2 : okH c) (h3 : okL c) (h4 : ¬okK c) : 53 = checkM c := by simp [checkM, h1, h2, h3, h4]
theorem cm0 {c : Cfg} (h1 : okW c) (h2 : okH c) (h3 : okL c) (h4 : okK c) : 0 = checkM c := by simp [checkM, h1, h2, h3, h4]
def blocksM (c : Cfg) : Int := if checkM c = 0 then nB c else 0
theorem sp_within (W0 : World) (own : Own) (a b c : Int) : Pure Tryz.prog W0 97 [.int .i64 a, .int .i64 b, .int .i64 c] own (.bool (decide (b ≤ a ∧ a ≤ c))) := by
  refine pure_of (spec_of mixed low_layout_within (by simp [ir_layout_within]) ?_)
  repeat' ((try (conv => whnf)); first | (refine when_y ?_) | (refine when_ft ?_) | (refine when_dt (fun hc => ?_) (fun hc => ?_)))
  all_goals (refine ⟨ret1 (vb ?_), by (repeat (first | exact Ent.refl | exact Ent.left | refine Ent.cons ?_ | refine Ent.app ?_))⟩; (first | rfl | (refine dd ?_; omega) | (refine df ?_; omega) | (refine dt ?_; omega) | (refine dn ?_; omega)))
theorem sp_heap (W0 : World) (own : Own) (c : Cfg) : Pure Tryz.prog W0 128 [c.v] own
    (.tuple #[.int .i64 (if okC c then nB c else 0), .int .i64 (if okC c then nW c else 0), .bool (decide (okC c ∧ nB c ≤ 64))]) := by
  refine pure_of (spec_of mixed low_layout_heap (by simp [ir_layout_heap]) ?_)
  repeat' ((try (conv => whnf)); first | (refine loop_r 5 ?_) | (refine when_y ?_) | (refine when_tf ?_) | (refine br_t ?_) | (refine br_f ?_) | (refine ari ?_ ?_; omega) | (apply sel; exact rfl) | (refine ix0 rfl ?_) | (refine ix1 rfl ?_) | (refine ix2 rfl ?_) | (refine ix3 rfl ?_) | (apply ldN_own; (first | (solve | repeat (first | with_reducible exact List.mem_cons_self | (with_reducible (apply List.mem_append_left; exact List.mem_cons_self)) | with_reducible apply List.mem_cons_of_mem | with_reducible apply List.mem_append_right)) | (repeat (first | exact List.Mem.head _ | apply List.Mem.tail | apply List.mem_append_right))); exact rfl; exact rfl) | (refine new_i (fun bk hbk => ?_)) | (refine when_df (fun hc => ?_) (fun hc => ?_)) | (refine br_d (fun hc => ?_) (fun hc => ?_)) | (refine shl0 ?_ ?_; omega) | (refine shl1 ?_ ?_; omega) | (refine shl2 ?_ ?_; omega) | (refine shl3 ?_ ?_; omega))
  all_goals
    refine ⟨ret3 (vi ?_) (vi ?_) (vb ?_), by (repeat (first | exact Ent.refl | exact Ent.left | refine Ent.cons ?_ | refine Ent.app ?_))⟩
    · (try simp only [okC, nB]); (first | rfl | omega | (split <;> omega) | (split <;> split <;> omega))
    · (try simp only [okC, nW]); (first | rfl | omega | (split <;> omega) | (split <;> split <;> omega))
    · (try simp only [okC, nB]); (first | rfl | (refine dd ?_; omega) | (refine df ?_; omega) | (refine dt ?_; omega) | (refine dn ?_; omega))
theorem sp_heap_y (W0 : World) (own : Own) (c : Cfg) (h : okC c) : Pure Tryz.prog W0 128 [c.v] own (.tuple #[.int .i64 (nB c), .int .i64 (nW c), .bool (decide (nB c ≤ 64))]) := by
  have := sp_heap W0 own c
  simpa [h] using this
theorem sp_heap_n (W0 : World) (own : Own) (c : Cfg) (h : ¬okC c) : Pure Tryz.prog W0 128 [c.v] own (.tuple #[.int .i64 0, .int .i64 0, .bool false]) := by
  have := sp_heap W0 own c
  simpa [h] using this
theorem sp_check (W0 : World) (own : Own) (c : Cfg) : Pure Tryz.prog W0 96 [c.v] own (.int .i64 (checkM c)) := by
  refine pure_of (spec_of mixed low_layout_Check (by simp [ir_layout_Check]) ?_)
  by_cases hc : okC c
  · have hc' := hc
    unfold okC at hc'
    repeat' ((try (conv => whnf)); first | (apply call_p (sp_within _ _ _ _ _)) | (apply call_p (sp_heap_y _ _ c hc)) | (refine when_y ?_) | (refine when_tf ?_) | (refine br_t ?_) | (refine ari ?_ ?_; omega) | (apply sel; exact rfl) | (apply ld_own; (first | (solve | repeat (first | with_reducible exact List.mem_cons_self | (with_reducible (apply List.mem_append_left; exact List.mem_cons_self)) | with_reducible apply List.mem_cons_of_mem | with_reducible apply List.mem_append_right)) | (repeat (first | exact List.Mem.head _ | apply List.Mem.tail | apply List.mem_append_right))); exact rfl) | (apply ldN_all; (first | (solve | repeat (first | with_reducible exact List.mem_cons_self | (with_reducible (apply List.mem_append_left; exact List.mem_cons_self)) | with_reducible apply List.mem_cons_of_mem | with_reducible apply List.mem_append_right)) | (repeat (first | exact List.Mem.head _ | apply List.Mem.tail | apply List.mem_append_right))); exact rfl) | (refine new_i (fun bk hbk => ?_)) | (refine when_ndf (fun hc => ?_) (fun hc => ?_)) | (refine br_d (fun hc => ?_) (fun hc => ?_)) | (refine br_nd (fun hc => ?_) (fun hc => ?_)))
    all_goals (refine ⟨ret1 (vi ?_), by (repeat (first | exact Ent.refl | exact Ent.left | refine Ent.cons ?_ | refine Ent.app ?_))⟩; (try unfold nB at *); (try unfold nW at *))
    all_goals first | exact cm50 (by unfold okW; omega) | exact cm51 (by unfold okW; omega) (by unfold okH okC nB nW; omega) | exact cm52 (by unfold okW; omega) (by unfold okH okC nB nW; omega) (by unfold okL; omega) | exact cm53 (by unfold okW; omega) (by unfold okH okC nB nW; omega) (by unfold okL; omega) (by unfold okK; omega) | exact cm0 (by unfold okW; omega) (by unfold okH okC nB nW; omega) (by unfold okL; omega) (by unfold okK; omega)
  · repeat' ((try (conv => whnf)); first | (apply call_p (sp_within _ _ _ _ _)) | (apply call_p (sp_heap_n _ _ c hc)) | (refine when_y ?_) | (refine when_tf ?_) | (refine br_t ?_) | (apply sel; exact rfl) | (apply ld_own; (first | (solve | repeat (first | with_reducible exact List.mem_cons_self | (with_reducible (apply List.mem_append_left; exact List.mem_cons_self)) | with_reducible apply List.mem_cons_of_mem | with_reducible apply List.mem_append_right)) | (repeat (first | exact List.Mem.head _ | apply List.Mem.tail | apply List.mem_append_right))); exact rfl) | (apply ldN_all; (first | (solve | repeat (first | with_reducible exact List.mem_cons_self | (with_reducible (apply List.mem_append_left; exact List.mem_cons_self)) | with_reducible apply List.mem_cons_of_mem | with_reducible apply List.mem_append_right)) | (repeat (first | exact List.Mem.head _ | apply List.Mem.tail | apply List.mem_append_right))); exact rfl) | (refine new_i (fun bk hbk => ?_)) | (refine when_ndf (fun hc => ?_) (fun hc => ?_)) | (refine br_nd (fun hc => ?_) (fun hc => ?_)))
    all_goals (refine ⟨ret1 (vi ?_), by (repeat (first | exact Ent.refl | exact Ent.left | refine Ent.cons ?_ | refine Ent.app ?_))⟩; (try unfold okC at *))
    all_goals first | exact cm50 (by unfold okW; omega) | exact cm51 (by unfold okW; omega) (by unfold okH okC nB nW; omega) | exact cm52 (by unfold okW; omega) (by unfold okH okC nB nW; omega) (by unfold okL; omega) | exact cm53 (by unfold okW; omega) (by unfold okH okC nB nW; omega) (by unfold okL; omega) (by unfold okK; omega) | exact cm0 (by unfold okW; omega) (by unfold okH okC nB nW; omega) (by unfold okL; omega) (by unfold okK; omega)
theorem check_ok {c : Cfg} (h : checkM c = 0) : okW c ∧ okH c ∧ okL c ∧ okK c := by
  unfold checkM at h
  split at h
  · split at h
    · split at h
      · split at h
        · exact ⟨by assumption, by assumption, by assumption, by assumption⟩
        · omega
      · omega
    · omega
  · omega
theorem check_bd {c : Cfg} (h : checkM c = 0) : 1 ≤ c.words ∧ c.words ≤ 64 ∧ 1 ≤ c.orecs ∧ c.orecs ≤ 64 ∧ 0 ≤ c.c0 ∧ 0 ≤ c.c1 ∧ 0 ≤ c.c2 ∧ 0 ≤ c.c3 ∧ c.c0 + c.c1 + c.c2 + c.c3 ≤ 64 ∧ 0 ≤ c.base ∧ c.base + (c.c0 + c.c1 * 2 + c.c2 * 4 + c.c3 * 8) ≤ c.words := by
  obtain ⟨h1, h2, _, _⟩ := check_ok h
  unfold okW at h1
  unfold okH okC nB nW at h2
  omega
theorem sp_blocks (W0 : World) (own : Own) (c : Cfg) : Pure Tryz.prog W0 194 [c.v] own (.int .i64 (blocksM c)) := by
  refine pure_of (spec_of mixed low_layout_Blocks (by simp [ir_layout_Blocks]) ?_)
  by_cases h0 : checkM c = 0
  · have hC : okC c := (check_ok h0).2.1.1
    repeat' ((try (conv => whnf)); first | (apply call_p (sp_check _ _ c)) | (apply call_p (sp_heap_y _ _ c hC)) | (apply sel; exact rfl) | (apply ldN_all; (first | (solve | repeat (first | with_reducible exact List.mem_cons_self | (with_reducible (apply List.mem_append_left; exact List.mem_cons_self)) | with_reducible apply List.mem_cons_of_mem | with_reducible apply List.mem_append_right)) | (repeat (first | exact List.Mem.head _ | apply List.Mem.tail | apply List.mem_append_right))); exact rfl) | (refine new_i (fun bk hbk => ?_)) | (refine br_d (fun hc => ?_) (fun hc => ?_)))
    all_goals first | (exfalso; omega) | (refine ⟨ret1 (vi ?_), by (repeat (first | exact Ent.refl | exact Ent.left | refine Ent.cons ?_ | refine Ent.app ?_))⟩; simp only [blocksM, h0, if_true])
  · repeat' ((try (conv => whnf)); first | (apply call_p (sp_check _ _ c)) | (apply ldN_all; (first | (solve | repeat (first | with_reducible exact List.mem_cons_self | (with_reducible (apply List.mem_append_left; exact List.mem_cons_self)) | with_reducible apply List.mem_cons_of_mem | with_reducible apply List.mem_append_right)) | (repeat (first | exact List.Mem.head _ | apply List.Mem.tail | apply List.mem_append_right))); exact rfl) | (refine new_i (fun bk hbk => ?_)) | (refine br_d (fun hc => ?_) (fun hc => ?_)))
    all_goals first | (exfalso; omega) | (refine ⟨ret1 (vi ?_), by (repeat (first | exact Ent.refl | exact Ent.left | refine Ent.cons ?_ | refine Ent.app ?_))⟩; simp only [blocksM, h0, if_false])
def classM (c : Cfg) (b : Int) : Int :=
  if checkM c = 0 ∧ 0 ≤ b then if b < c.c0 then 0 else if b < c.c0 + c.c1 then 1 else if b < c.c0 + c.c1 + c.c2 then 2 else if b < c.c0 + c.c1 + c.c2 + c.c3 then 3 else -1 else -1
def firstM (c : Cfg) (b : Int) : Int :=
  if checkM c = 0 ∧ 0 ≤ b then if b < c.c0 then c.base + b else if b < c.c0 + c.c1 then c.base + c.c0 + (b - c.c0) * 2
    else if b < c.c0 + c.c1 + c.c2 then c.base + c.c0 + c.c1 * 2 + (b - c.c0 - c.c1) * 4 else if b < c.c0 + c.c1 + c.c2 + c.c3 then c.base + c.c0 + c.c1 * 2 + c.c2 * 4 + (b - c.c0 - c.c1 - c.c2) * 8 else -1 else -1
theorem sp_locate (W0 : World) (own : Own) (c : Cfg) (b : Int) (hb : -9223372036854775808 ≤ b ∧ b ≤ 9223372036854775807) :
    Pure Tryz.prog W0 196 [c.v, .int .i64 b] own (.tuple #[.int .i64 (classM c b), .int .i64 (firstM c b)]) := by
  refine pure_of (spec_of mixed low_layout_locate (by simp [ir_layout_locate]) ?_)
  by_cases h0 : checkM c = 0 ∧ 0 ≤ b
  · have hbd := check_bd h0.1
    repeat' ((try (conv => whnf)); first | (apply call_p (sp_check _ _ c)) | (refine loop_r 5 ?_) | (refine when_y ?_) | (refine when_tf ?_) | (refine br_t ?_) | (refine br_f ?_) | (refine ari ?_ ?_; omega) | (apply sel; exact rfl) | (refine ix0 rfl ?_) | (refine ix1 rfl ?_) | (refine ix2 rfl ?_) | (refine ix3 rfl ?_) | (apply ld_own; (first | (solve | repeat (first | with_reducible exact List.mem_cons_self | (with_reducible (apply List.mem_append_left; exact List.mem_cons_self)) | with_reducible apply List.mem_cons_of_mem | with_reducible apply List.mem_append_right)) | (repeat (first | exact List.Mem.head _ | apply List.Mem.tail | apply List.mem_append_right))); exact rfl) | (apply ldN_all; (first | (solve | repeat (first | with_reducible exact List.mem_cons_self | (with_reducible (apply List.mem_append_left; exact List.mem_cons_self)) | with_reducible apply List.mem_cons_of_mem | with_reducible apply List.mem_append_right)) | (repeat (first | exact List.Mem.head _ | apply List.Mem.tail | apply List.mem_append_right))); exact rfl) | (apply ldN_own; (first | (solve | repeat (first | with_reducible exact List.mem_cons_self | (with_reducible (apply List.mem_append_left; exact List.mem_cons_self)) | with_reducible apply List.mem_cons_of_mem | with_reducible apply List.mem_append_right)) | (repeat (first | exact List.Mem.head _ | apply List.Mem.tail | apply List.mem_append_right))); exact rfl; exact rfl) | (refine new_i (fun bk hbk => ?_)) | (refine when_df (fun hc => ?_) (fun hc => ?_)) | (refine br_d (fun hc => ?_) (fun hc => ?_)) | (refine shl0 ?_ ?_; omega) | (refine shl1 ?_ ?_; omega) | (refine shl2 ?_ ?_; omega) | (refine shl3 ?_ ?_; omega))
    all_goals first | (exfalso; omega) | refine ⟨ret2 (vi ?_) (vi ?_), by (repeat (first | exact Ent.refl | exact Ent.left | refine Ent.cons ?_ | refine Ent.app ?_))⟩
    all_goals (simp only [classM, firstM, h0, if_true, and_self]; repeat' (first | omega | (rw [if_pos (by omega)]) | (rw [if_neg (by omega)])))
  · repeat' ((try (conv => whnf)); first | (apply call_p (sp_check _ _ c)) | (refine when_y ?_) | (refine when_tf ?_) | (refine br_t ?_) | (apply ld_own; (first | (solve | repeat (first | with_reducible exact List.mem_cons_self | (with_reducible (apply List.mem_append_left; exact List.mem_cons_self)) | with_reducible apply List.mem_cons_of_mem | with_reducible apply List.mem_append_right)) | (repeat (first | exact List.Mem.head _ | apply List.Mem.tail | apply List.mem_append_right))); exact rfl) | (apply ldN_all; (first | (solve | repeat (first | with_reducible exact List.mem_cons_self | (with_reducible (apply List.mem_append_left; exact List.mem_cons_self)) | with_reducible apply List.mem_cons_of_mem | with_reducible apply List.mem_append_right)) | (repeat (first | exact List.Mem.head _ | apply List.Mem.tail | apply List.mem_append_right))); exact rfl) | (apply ldN_own; (first | (solve | repeat (first | with_reducible exact List.mem_cons_self | (with_reducible (apply List.mem_append_left; exact List.mem_cons_self)) | with_reducible apply List.mem_cons_of_mem | with_reducible apply List.mem_append_right)) | (repeat (first | exact List.Mem.head _ | apply List.Mem.tail | apply List.mem_append_right))); exact rfl; exact rfl) | (refine new_i (fun bk hbk => ?_)) | (refine when_df (fun hc => ?_) (fun hc => ?_)) | (refine br_d (fun hc => ?_) (fun hc => ?_)))
    all_goals first | (exfalso; omega) | refine ⟨ret2 (vi ?_) (vi ?_), by (repeat (first | exact Ent.refl | exact Ent.left | refine Ent.cons ?_ | refine Ent.app ?_))⟩
    all_goals simp only [classM, firstM, h0, if_false]
theorem sp_class (W0 : World) (own : Own) (c : Cfg) (b : Int) (hb : -9223372036854775808 ≤ b ∧ b ≤ 9223372036854775807) :
    Pure Tryz.prog W0 178 [c.v, .int .i64 b] own (.int .i64 (classM c b)) := by
  refine pure_of (spec_of mixed low_layout_Class (by simp [ir_layout_Class]) ?_)
  repeat' ((try (conv => whnf)); first | (apply call_p (sp_locate _ _ c b hb)) | (apply sel; exact rfl) | (apply ldN_all; (first | (solve | repeat (first | with_reducible exact List.mem_cons_self | (with_reducible (apply List.mem_append_left; exact List.mem_cons_self)) | with_reducible apply List.mem_cons_of_mem | with_reducible apply List.mem_append_right)) | (repeat (first | exact List.Mem.head _ | apply List.Mem.tail | apply List.mem_append_right))); exact rfl) | (refine new_i (fun bk hbk => ?_)) | (exact Ent.refl) | (refine Ent.cons ?_) | (refine And.intro rfl ?_))
  all_goals exact ⟨rfl, by (repeat (first | exact Ent.refl | exact Ent.left | refine Ent.cons ?_ | refine Ent.app ?_))⟩
theorem sp_first (W0 : World) (own : Own) (c : Cfg) (b : Int) (hb : -9223372036854775808 ≤ b ∧ b ≤ 9223372036854775807) :
    Pure Tryz.prog W0 195 [c.v, .int .i64 b] own (.int .i64 (firstM c b)) := by
  refine pure_of (spec_of mixed low_layout_First (by simp [ir_layout_First]) ?_)
  repeat' ((try (conv => whnf)); first | (apply call_p (sp_locate _ _ c b hb)) | (apply sel; exact rfl) | (apply ldN_all; (first | (solve | repeat (first | with_reducible exact List.mem_cons_self | (with_reducible (apply List.mem_append_left; exact List.mem_cons_self)) | with_reducible apply List.mem_cons_of_mem | with_reducible apply List.mem_append_right)) | (repeat (first | exact List.Mem.head _ | apply List.Mem.tail | apply List.mem_append_right))); exact rfl) | (refine new_i (fun bk hbk => ?_)) | (exact Ent.refl) | (refine Ent.cons ?_) | (refine And.intro rfl ?_))
  all_goals exact ⟨rfl, by (repeat (first | exact Ent.refl | exact Ent.left | refine Ent.cons ?_ | refine Ent.app ?_))⟩
theorem blocks_bd (c : Cfg) : 0 ≤ blocksM c ∧ blocksM c ≤ 64 := by
  unfold blocksM
  split
  · have := check_bd (by assumption)
    unfold nB
    omega
  · omega
theorem blocks_pos {c : Cfg} {b : Int} (h0 : 0 ≤ b) (h : b < blocksM c) : checkM c = 0 ∧ b < c.c0 + c.c1 + c.c2 + c.c3 := by
  unfold blocksM at h
  split at h
  · exact ⟨by assumption, h⟩
  · omega
theorem first_bd {c : Cfg} {b : Int} (h0 : 0 ≤ b) (h : b < blocksM c) : 0 ≤ firstM c b ∧ firstM c b < 64 := by
  have hp := blocks_pos h0 h
  have hb := check_bd hp.1
  simp only [firstM, hp.1, h0, and_self, if_true]
  repeat' split
  all_goals omega
def findG (c : Cfg) (a : Int) : Nat → Int → Int
  | 0, _ => -1
  | n + 1, k => if firstM c k = a then k else findG c a n (k + 1)
def lfindM (c : Cfg) (a : Int) : Int := findG c a (blocksM c).toNat 0
theorem sp_find (W0 : World) (own : Own) (c : Cfg) (a : Int) : Pure Tryz.prog W0 177 [c.v, .int .u64 a] own (.int .i64 (lfindM c a)) := by
  refine pure_of (spec_of mixed low_layout_Find (by simp [ir_layout_Find]) ?_)
  have hB := blocks_bd c
  repeat' ((try (conv => whnf)); first | (apply call_p (sp_blocks _ _ c)) | (apply ldN_all; (first | (solve | repeat (first | with_reducible exact List.mem_cons_self | (with_reducible (apply List.mem_append_left; exact List.mem_cons_self)) | with_reducible apply List.mem_cons_of_mem | with_reducible apply List.mem_append_right)) | (repeat (first | exact List.Mem.head _ | apply List.Mem.tail | apply List.mem_append_right))); exact rfl) | (refine new_i (fun bk hbk => ?_)))
  refine loop_c (σ := Int) (fun k => [(8, .int .i64 k)]) (fun k => 0 ≤ k ∧ k ≤ blocksM c ∧ findG c a (blocksM c - k).toNat k = lfindM c a) (fun k => (blocksM c - k).toNat) 0 ⟨by omega, by omega, by simp [lfindM]⟩ (by repeat' (first | exact True.intro | refine And.intro ?_ ?_ | exact rfl | exact vi (by omega) | (dsimp only; exact rfl) | (dsimp only; exact vi (by omega)))) rfl ?_
  rintro k junk ⟨hk0, hk1, hk⟩
  by_cases hlt : k < blocksM c
  · have hf := first_bd hk0 hlt
    have e : (blocksM c - k).toNat = (blocksM c - (k + 1)).toNat + 1 := by omega
    rw [e, findG] at hk
    repeat' ((try (conv => whnf)); first | (apply call_p (sp_first _ _ c k (by omega))) | (refine ari ?_ ?_; omega) | (refine aru ?_ ?_; omega) | (apply ldN_all; (first | (solve | repeat (first | with_reducible exact List.mem_cons_self | (with_reducible (apply List.mem_append_left; exact List.mem_cons_self)) | with_reducible apply List.mem_cons_of_mem | with_reducible apply List.mem_append_right)) | (repeat (first | exact List.Mem.head _ | apply List.Mem.tail | apply List.mem_append_right))); exact rfl) | (refine br_d (fun hc => ?_) (fun hc => ?_)))
    · rw [if_pos (by assumption)] at hk
      exact ⟨ret1 (vi hk), by (repeat (first | exact Ent.refl | exact Ent.left | refine Ent.cons ?_ | refine Ent.app ?_))⟩
    · rw [if_neg (by assumption)] at hk
      exact ⟨k + 1, ⟨by omega, by omega, hk⟩, by omega, (by repeat' (first | exact True.intro | refine And.intro ?_ ?_ | exact rfl | exact vi (by omega) | (dsimp only; exact rfl) | (dsimp only; exact vi (by omega)))), Ent.refl⟩
    · omega
  · repeat' ((try (conv => whnf)); first | (apply call_p (sp_first _ _ c k (by omega))) | (refine ari ?_ ?_; omega) | (refine aru ?_ ?_; omega) | (apply ldN_all; (first | (solve | repeat (first | with_reducible exact List.mem_cons_self | (with_reducible (apply List.mem_append_left; exact List.mem_cons_self)) | with_reducible apply List.mem_cons_of_mem | with_reducible apply List.mem_append_right)) | (repeat (first | exact List.Mem.head _ | apply List.Mem.tail | apply List.mem_append_right))); exact rfl) | (refine br_d (fun hc => ?_) (fun hc => ?_)))
    · omega
    · omega
    · have e : (blocksM c - k).toNat = 0 := by omega
      rw [e, findG] at hk
      exact ⟨ret1 (vi hk), by (repeat (first | exact Ent.refl | exact Ent.left | refine Ent.cons ?_ | refine Ent.app ?_))⟩
end Go.Proofs.YtkieffpjjfebjaaGreatDoor
