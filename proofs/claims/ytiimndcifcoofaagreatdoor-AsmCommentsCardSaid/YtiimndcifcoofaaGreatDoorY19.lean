/- What the laws share, part 19. No condition. -/
import Derived.Test.YtiimndcifcoofaaGreatDoorY18
namespace Go.Proofs.YtiimndcifcoofaaGreatDoor
open Go Go.RowKit
set_option maxRecDepth 10000
def endL : List Ins → Nat → Nat
  | [], k => k
  | x :: l, k => if x.op = 8 then k else endL l (k + 1)
def endM (p : List Ins) (b : Nat) : Nat := endL (p.drop (b + 1)) (b + 1)
def intoL (len : Nat) : List Ins → Nat → Nat → Bool
  | [], _, _ => false
  | x :: l, j, t => decide (j < t ∧ x.op = 7 ∧ t ≤ endL l (j + 1) ∧ t + 1 ≤ len) || intoL len l (j + 1) t
def spanL (len t : Nat) : List Ins → Nat → Int → Int × Int
  | [], _, b => if 0 ≤ b ∧ b ≤ t ∧ t < len then (b, len) else (-1, -1)
  | x :: l, k, b => if b < 0 ∧ x.op = 7 then spanL len t l (k + 1) k else if 0 ≤ b ∧ x.op = 8 then (if b ≤ t ∧ t ≤ k then (b, k) else spanL len t l (k + 1) (-1)) else spanL len t l (k + 1) b
def span (p : List Ins) (t : Nat) : Int × Int := spanL p.length t p 0 (-1)
def targetM (p : List Ins) (k : Nat) (b : Int) (x : Ins) : Int :=
  if iskips x then (if (p.length : Int) < k + 1 + x.imm then 42 else if 0 ≤ b then (if (endM p b.toNat : Int) < k + 1 + x.imm then 42 else 0) else (if intoL p.length (p.drop (k + 1)) (k + 1) (k + 1 + x.imm.toNat) then 42 else 0)) else 0
def reachesM (p : List Ins) (k t : Nat) : Bool :=
  if p.length < t then false else if 0 ≤ (span p k).1 then decide ((t : Int) ≤ (span p k).2) else decide ((span p t).1 < 0 ∨ (span p t).1 = t)
def rtargetM (p : List Ins) (k : Nat) (x : Ins) : Int := if iskips x then (if reachesM p k (k + 1 + x.imm.toNat) then 0 else 42) else 0
def oneX (tgt : Int) (b : Int) (x : Ins) : Int :=
  if icheck x ≠ 0 then icheck x else if (x.op = 7 ∧ 0 ≤ b) ∨ (x.op = 8 ∧ b < 0) then 40 else if (iplace x = 1 ∧ b < 0) ∨ (iplace x = 2 ∧ 0 ≤ b) then 41 else tgt
def nextB (x : Ins) (k : Nat) (b : Int) : Int := if x.op = 7 then k else if x.op = 8 then -1 else b
def checkG (tgt : Nat → Int → Ins → Int) : List Ins → Nat → Int → Int × Int
  | [], _, b => if 0 ≤ b then (b, 43) else (0, 0)
  | x :: l, k, b => if oneX (tgt k b x) b x ≠ 0 then (k, oneX (tgt k b x) b x) else checkG tgt l (k + 1) (nextB x k b)
def checkP (p : List Ins) : Int × Int := if 64 < p.length then (0, 3) else checkG (targetM p) p 0 (-1)
def checkR (p : List Ins) : Int × Int := if 64 < p.length then (0, 3) else checkG (fun k _ x => rtargetM p k x) p 0 (-1)
theorem endL_ge : ∀ (l : List Ins) (k : Nat), k ≤ endL l k ∧ endL l k ≤ k + l.length
  | [], k => by simp [endL]
  | x :: l, k => by
    unfold endL
    have := endL_ge l (k + 1)
    simp only [List.length_cons]
    split <;> omega
theorem intoL_le (len : Nat) : ∀ (l : List Ins) (j t : Nat), t ≤ j → intoL len l j t = false
  | [], _, _, _ => rfl
  | x :: l, j, t, h => by
    unfold intoL
    rw [intoL_le len l (j + 1) t (by omega), Bool.or_false, decide_eq_false_iff_not]
    omega
theorem spanL_low (len t : Nat) : ∀ (l : List Ins) (j : Nat) (b : Int), (b < 0 ∧ t < j) ∨ ((t : Int) < b ∧ t < j) → (spanL len t l j b).1 < 0
  | [], j, b, h => by
    unfold spanL
    rw [if_neg (by omega)]
    decide
  | x :: l, j, b, h => by
    unfold spanL
    split
    · exact spanL_low len t l (j + 1) j (.inr ⟨by omega, by omega⟩)
    · split
      · rw [if_neg (by omega)]
        exact spanL_low len t l (j + 1) (-1) (.inl ⟨by omega, by omega⟩)
      · exact spanL_low len t l (j + 1) b (by omega)
theorem spanL_at (len t : Nat) : ∀ (l : List Ins) (j : Nat), t < j → len = j + l.length → spanL len t l j t = ((t : Int), (endL l j : Int))
  | [], j, h, hl => by
    simp only [List.length_nil, Nat.add_zero] at hl
    unfold spanL endL
    rw [if_pos (by omega), hl]
  | x :: l, j, h, hl => by
    simp only [List.length_cons] at hl
    unfold spanL endL
    rw [if_neg (by omega)]
    split
    · rename_i h8
      rw [if_pos (by omega), if_pos h8.2]
    · rename_i h8
      rw [if_neg (by omega)]
      exact spanL_at len t l (j + 1) (by omega) (by omega)
theorem spanL_in (len t : Nat) : ∀ (l : List Ins) (j : Nat) (b : Int), 0 ≤ b → b ≤ t → t < j → len = j + l.length → spanL len t l j b = (b, (endL l j : Int))
  | [], j, b, h0, h1, h, hl => by
    simp only [List.length_nil, Nat.add_zero] at hl
    unfold spanL endL
    rw [if_pos (by omega), hl]
  | x :: l, j, b, h0, h1, h, hl => by
    simp only [List.length_cons] at hl
    unfold spanL endL
    rw [if_neg (by omega)]
    split
    · rename_i h8
      rw [if_pos (by omega), if_pos h8.2]
    · rename_i h8
      rw [if_neg (by omega)]
      exact spanL_in len t l (j + 1) b h0 h1 (by omega) (by omega)
mutual
theorem span_out (len t : Nat) : ∀ (l : List Ins) (j : Nat), len = j + l.length → t ≤ len → (((spanL len t l j (-1)).1 < 0 ∨ (spanL len t l j (-1)).1 = t) ↔ intoL len l j t = false)
  | [], j, _, _ => by
    unfold spanL intoL
    simp
  | x :: l, j, hl, ht => by
    simp only [List.length_cons] at hl
    unfold spanL intoL
    by_cases h7 : x.op = 7
    · rw [if_pos ⟨by omega, h7⟩]
      by_cases hjt : j < t
      · rw [span_open len t l (j + 1) j hjt (by omega) ht]
        rw [Bool.or_eq_false_iff, decide_eq_false_iff_not]
        constructor
        · intro h; exact ⟨by omega, h.2⟩
        · intro h; exact ⟨by omega, h.2⟩
      · rw [intoL_le len l (j + 1) t (by omega)]
        by_cases hjt2 : j = t
        · subst hjt2
          rw [spanL_at len j l (j + 1) (by omega) (by omega)]
          simp
        · have := spanL_low len t l (j + 1) j (.inr ⟨by omega, by omega⟩)
          simp [this]; omega
    · rw [if_neg (by omega), if_neg (by omega), span_out len t l (j + 1) (by omega) ht]
      simp [h7]
theorem span_open (len t : Nat) : ∀ (l : List Ins) (j : Nat) (b : Nat), b < t → len = j + l.length → t ≤ len → (((spanL len t l j b).1 < 0 ∨ (spanL len t l j b).1 = t) ↔ (¬(t ≤ endL l j ∧ t + 1 ≤ len) ∧ intoL len l j t = false))
  | [], j, b, hb, hl, ht => by
    simp only [List.length_nil, Nat.add_zero] at hl
    unfold spanL intoL endL
    by_cases h : t < len
    · rw [if_pos (by omega)]
      simp; omega
    · rw [if_neg (by omega)]
      simp; omega
  | x :: l, j, b, hb, hl, ht => by
    simp only [List.length_cons] at hl
    rw [spanL, intoL, show endL (x :: l) j = (if x.op = 8 then j else endL l (j + 1)) from rfl]
    rw [if_neg (by omega)]
    by_cases h8 : x.op = 8
    · rw [if_pos ⟨by omega, h8⟩, if_pos h8]
      by_cases htj : t ≤ j
      · rw [if_pos ⟨by omega, by omega⟩]
        simp; omega
      · rw [if_neg (by omega), span_out len t l (j + 1) (by omega) ht]
        have h7 : ¬ x.op = 7 := by omega
        simp [h7]; omega
    · rw [if_neg (by omega), if_neg h8, span_open len t l (j + 1) b hb (by omega) ht]
      rw [Bool.or_eq_false_iff, decide_eq_false_iff_not]
      constructor
      · intro h; exact ⟨h.1, by omega, h.2⟩
      · intro h; exact ⟨h.1, h.2.2⟩
end
structure PInv (p : List Ins) (k : Nat) (b : Int) : Prop where
  sp : ∀ t, k ≤ t → span p t = spanL p.length t (p.drop k) k b
  bb : b = -1 ∨ (0 ≤ b ∧ b < k ∧ endM p b.toNat = endL (p.drop k) k)
theorem PInv.start (p : List Ins) : PInv p 0 (-1) := ⟨fun _ _ => rfl, .inl rfl⟩
theorem drop_at {p : List Ins} {k : Nat} {x : Ins} (hx : p[k]? = some x) : p.drop k = x :: p.drop (k + 1) := by
  obtain ⟨hk, he⟩ := List.getElem?_eq_some_iff.1 hx
  rw [List.drop_eq_getElem_cons hk, he]
theorem PInv.step {p : List Ins} {k : Nat} {b : Int} {x : Ins} (h : PInv p k b) (hx : p[k]? = some x) (h7 : x.op = 7 → b < 0) (h8 : x.op = 8 → 0 ≤ b) : PInv p (k + 1) (nextB x k b) := by
  have hd := drop_at hx
  refine ⟨fun t ht => ?_, ?_⟩
  · rw [h.sp t (by omega), hd, spanL]
    unfold nextB
    by_cases e7 : x.op = 7
    · rw [if_pos ⟨h7 e7, e7⟩, if_pos e7]
    · by_cases e8 : x.op = 8
      · rw [if_neg (by omega), if_pos ⟨h8 e8, e8⟩, if_neg (by omega), if_neg e7, if_pos e8]
      · rw [if_neg (by omega), if_neg (by omega), if_neg e7, if_neg e8]
  · unfold nextB
    by_cases e7 : x.op = 7
    · rw [if_pos e7]
      refine .inr ⟨by omega, by omega, ?_⟩
      simp [endM]
    · by_cases e8 : x.op = 8
      · rw [if_neg e7, if_pos e8]; exact .inl rfl
      · rw [if_neg e7, if_neg e8]
        rcases h.bb with hb | ⟨h0, h1, h2⟩
        · exact .inl hb
        · refine .inr ⟨h0, by omega, ?_⟩
          rw [h2, hd, endL, if_neg e8]
theorem skips_op {x : Ins} (h : iskips x = true) : (x.op = 4 ∨ x.op = 5 ∨ x.op = 6) ∧ 0 ≤ x.imm ∧ x.imm ≤ 64 := by
  unfold iskips at h
  simp only [decide_eq_true_eq] at h
  refine ⟨h.2, ?_⟩
  have hc := h.1
  unfold icheck at hc
  split at hc
  · omega
  · split at hc
    · split at hc
      · rename_i hi
        unfold immOk at hi
        rw [if_neg (by omega), if_neg (by omega), if_pos (by omega)] at hi
        exact hi
      · omega
    · omega
theorem PInv.target {p : List Ins} {k : Nat} {b : Int} {x : Ins} (h : PInv p k b) (hx : p[k]? = some x) : targetM p k b x = rtargetM p k x := by
  unfold targetM rtargetM
  by_cases hs : iskips x = true
  · obtain ⟨hop, hi0, hi1⟩ := skips_op hs
    rw [if_pos hs, if_pos hs]
    obtain ⟨t, ht⟩ : ∃ t : Nat, (t : Int) = k + 1 + x.imm := ⟨k + 1 + x.imm.toNat, by omega⟩
    have ht' : k + 1 + x.imm.toNat = t := by omega
    rw [ht', ← ht]
    have hk := (List.getElem?_eq_some_iff.1 hx).1
    have hd := drop_at hx
    have hlen : p.length = k + 1 + (p.drop (k + 1)).length := by rw [List.length_drop]; omega
    by_cases hlt : p.length < t
    · have hr : reachesM p k t = false := by unfold reachesM; rw [if_pos hlt]
      rw [hr, if_pos (by omega)]; rfl
    · rw [if_neg (show ¬ (p.length : Int) < t by omega)]
      have s1 := h.sp k (Nat.le_refl _)
      rw [hd, spanL, if_neg (by omega), if_neg (by omega)] at s1
      have s2 := h.sp t (by omega)
      rw [hd, spanL, if_neg (by omega), if_neg (by omega)] at s2
      rcases h.bb with hb | ⟨h0, h1, h2⟩
      · subst hb
        have hl := spanL_low p.length k (p.drop (k + 1)) (k + 1) (-1) (.inl ⟨by omega, by omega⟩)
        rw [← s1] at hl
        have ho := span_out p.length t (p.drop (k + 1)) (k + 1) hlen (by omega)
        rw [← s2] at ho
        have hr : reachesM p k t = !intoL p.length (p.drop (k + 1)) (k + 1) t := by
          unfold reachesM
          rw [if_neg hlt, if_neg (show ¬ 0 ≤ (span p k).1 by omega)]
          cases hin : intoL p.length (p.drop (k + 1)) (k + 1) t with
          | true => rw [hin] at ho; rw [decide_eq_false (by rw [ho]; simp)]; rfl
          | false => rw [hin] at ho; rw [decide_eq_true (ho.2 rfl)]; rfl
        rw [hr, if_neg (by omega)]
        cases intoL p.length (p.drop (k + 1)) (k + 1) t <;> rfl
      · have hin := spanL_in p.length k (p.drop (k + 1)) (k + 1) b h0 (by omega) (by omega) hlen
        rw [hin] at s1
        have hr : reachesM p k t = decide ((t : Int) ≤ (endL (p.drop (k + 1)) (k + 1) : Nat)) := by
          unfold reachesM
          rw [if_neg hlt, s1, if_pos h0]
        have he : endL (p.drop k) k = endL (p.drop (k + 1)) (k + 1) := by rw [hd, endL, if_neg (by omega)]
        rw [hr, if_pos h0, h2, he]
        by_cases hle : (t : Int) ≤ (endL (p.drop (k + 1)) (k + 1) : Nat)
        · rw [if_neg (by omega), decide_eq_true hle]; rfl
        · rw [if_pos (by omega), decide_eq_false hle]; rfl
  · rw [if_neg hs, if_neg hs]
theorem oneX_ok {t b : Int} {x : Ins} (h : oneX t b x = 0) : (x.op = 7 → b < 0) ∧ (x.op = 8 → 0 ≤ b) ∧ icheck x = 0 ∧ t = 0 := by
  unfold oneX at h
  split at h
  · omega
  · split at h
    · omega
    · split at h
      · omega
      · rename_i h1 h2 _
        simp at h1
        refine ⟨by omega, by omega, h1, h⟩
theorem check_same (p : List Ins) : ∀ (n k : Nat) (b : Int), n + k = p.length → PInv p k b → checkG (targetM p) (p.drop k) k b = checkG (fun k _ x => rtargetM p k x) (p.drop k) k b
  | 0, k, b, hn, _ => by
    have : p.drop k = [] := List.drop_eq_nil_iff.2 (by omega)
    rw [this, checkG, checkG]
  | n + 1, k, b, hn, h => by
    obtain ⟨x, hx⟩ : ∃ x, p[k]? = some x := ⟨_, List.getElem?_eq_getElem (by omega)⟩
    rw [drop_at hx, checkG, checkG, h.target hx]
    split
    · rfl
    · rename_i h0
      have ho := oneX_ok (t := rtargetM p k x) (b := b) (x := x) (by simpa using h0)
      exact check_same p n (k + 1) _ (by omega) (h.step hx ho.1 ho.2.1)
theorem checkP_R (p : List Ins) : checkP p = checkR p := by
  unfold checkP checkR
  split
  · rfl
  · exact check_same p p.length 0 (-1) (by omega) (PInv.start p)
end Go.Proofs.YtiimndcifcoofaaGreatDoor
