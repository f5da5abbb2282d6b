/- What the laws share, part 2. No condition. -/
import Derived.Lib.FieldsP
import Derived.Lib.MapLaws
import Derived.Lib.DecodeN
import Derived.Test.YtiimndcifcoofaaGreatDoorY1
namespace Go.Proofs.YtiimndcifcoofaaGreatDoor
open Go
set_option maxRecDepth 100000
def spB (s : ByteArray) (i : Nat) : Bool := decide (s.get! i = 32)
def wsp (s : ByteArray) : Nat → Nat × List (Nat × Nat)
  | 0 => (0, [])
  | i + 1 => if i < s.size ∧ spB s i = false then wsp s i else (i + 1, if i > (wsp s i).1 then (wsp s i).2 ++ [((wsp s i).1, i)] else (wsp s i).2)
def wordsM (s : ByteArray) : List ByteArray := (wsp s (s.size + 1)).2.map fun x => s.extract x.1 x.2
theorem wsp_le (s : ByteArray) : ∀ i, (wsp s i).1 ≤ i
  | 0 => Nat.le_refl _
  | i + 1 => by
    have := wsp_le s i
    unfold wsp
    split
    · omega
    · exact Nat.le_refl _
theorem wsp_run (s : ByteArray) {i : Nat} : ∀ w, i + w ≤ s.size → (∀ k, k < w → spB s (i + k) = false) → wsp s (i + w) = wsp s i
  | 0, _, _ => rfl
  | w + 1, h, hk => by
    show wsp s ((i + w) + 1) = _
    show (if i + w < s.size ∧ spB s (i + w) = false then wsp s (i + w) else _) = _
    rw [if_pos ⟨by omega, hk w (by omega)⟩]
    exact wsp_run s w (by omega) fun k hk1 => hk k (by omega)
theorem dec_space (s : ByteArray) {i : Nat} (hi : i < s.size) : (spB s i = true → Utf8.decode s i = (32, 1)) ∧ (spB s i = false → (Utf8.decode s i).1 ≠ 32 ∧ 1 ≤ (Utf8.decode s i).2 ∧ i + (Utf8.decode s i).2 ≤ s.size ∧ ∀ k, k < (Utf8.decode s i).2 → spB s (i + k) = false) := by
  have key : ∀ k, (s.get! (i + k)).toNat / 64 = 2 → spB s (i + k) = false := fun k h => by
    unfold spB
    rw [decide_eq_false_iff_not]
    intro h2
    rw [h2] at h
    revert h
    decide
  have k0 : spB s i = false → ∀ k, k < 1 → spB s (i + k) = false := fun h k hk => by
    have : k = 0 := by omega
    subst this
    exact h
  have e := Go.Lib.decode_at s i
  have hsh := Go.Lib.decodeN_shape (s.size - i) (s.get! i).toNat (s.get! (i + 1)).toNat (s.get! (i + 2)).toNat (s.get! (i + 3)).toNat
  rw [← e] at hsh
  constructor
  · intro h
    have h2 : s.get! i = 32 := of_decide_eq_true h
    have h3 : (s.get! i).toNat = 32 := by rw [h2]; decide
    rw [e]
    unfold Go.Lib.decodeN
    rw [if_pos (by omega), h3]
  · intro h
    have h2 : s.get! i ≠ 32 := of_decide_eq_false h
    have h3 : (s.get! i).toNat ≠ 32 := fun e => h2 (UInt8.toNat_inj.1 (e.trans (by decide)))
    rcases hsh with ⟨_, hd⟩ | ⟨_, g1, g2, g3, hd⟩ | ⟨_, g1, g2, g3, g4, _, hd⟩ | ⟨_, g1, g2, g3, g4, g5, _, hd⟩ | hd
    · rw [hd]
      exact ⟨h3, Nat.le_refl _, by show i + 1 ≤ _; omega, k0 h⟩
    · rw [hd]
      refine ⟨by show _ ≠ 32; omega, by show 1 ≤ 2; omega, by show i + 2 ≤ _; omega, fun k hk => ?_⟩
      have hk' : k < 2 := hk
      have hk2 : k = 0 ∨ k = 1 := by omega
      rcases hk2 with rfl | rfl
      · exact h
      · exact key 1 g2
    · rw [hd]
      refine ⟨by show _ ≠ 32; omega, by show 1 ≤ 3; omega, by show i + 3 ≤ _; omega, fun k hk => ?_⟩
      have hk' : k < 3 := hk
      have hk2 : k = 0 ∨ k = 1 ∨ k = 2 := by omega
      rcases hk2 with rfl | rfl | rfl
      · exact h
      · exact key 1 g2
      · exact key 2 g3
    · rw [hd]
      refine ⟨by show _ ≠ 32; omega, by show 1 ≤ 4; omega, by show i + 4 ≤ _; omega, fun k hk => ?_⟩
      have hk' : k < 4 := hk
      have hk2 : k = 0 ∨ k = 1 ∨ k = 2 ∨ k = 3 := by omega
      rcases hk2 with rfl | rfl | rfl | rfl
      · exact h
      · exact key 1 g2
      · exact key 2 g3
      · exact key 3 g4
    · rw [hd]
      exact ⟨by show (65533 : Nat) ≠ 32; decide, Nat.le_refl _, by show i + 1 ≤ _; omega, k0 h⟩
def stO (s : ByteArray) (i : Nat) : Option Nat := if (wsp s i).1 = i then none else some (wsp s i).1
def spR (x : Nat) : Bool := decide (x = 32)
theorem spans_wsp (s : ByteArray) : ∀ f i, i ≤ s.size → s.size ≤ i + f → Go.Lib.spansFromP spR s f i (stO s i) (wsp s i).2 = ((wsp s s.size).2, stO s s.size)
  | 0, i, h1, h2 => by
    have : i = s.size := by omega
    subst this
    rfl
  | f + 1, i, h1, h2 => by
    by_cases hi : i < s.size
    · obtain ⟨d1, d2⟩ := dec_space s hi
      have hle := wsp_le s i
      unfold Go.Lib.spansFromP
      rw [if_pos hi]
      cases hsp : spB s i with
      | true =>
        rw [d1 hsp]
        have e1 : wsp s (i + 1) = (i + 1, if i > (wsp s i).1 then (wsp s i).2 ++ [((wsp s i).1, i)] else (wsp s i).2) := by
          show (if i < s.size ∧ spB s i = false then wsp s i else _) = _
          rw [if_neg (by rw [hsp]; simp)]
        have e2 : stO s (i + 1) = none := by unfold stO; rw [e1, if_pos rfl]
        have ih := spans_wsp s f (i + 1) (by omega) (by omega)
        rw [e2, e1] at ih
        show (if spR 32 = true then _ else _) = _
        rw [if_pos (by decide)]
        unfold stO
        by_cases hf : (wsp s i).1 = i
        · rw [if_pos hf]
          rw [if_neg (by omega)] at ih
          exact ih
        · rw [if_neg hf]
          rw [if_pos (by omega)] at ih
          exact ih
      | false =>
        obtain ⟨g1, g2, g3, g4⟩ := d2 hsp
        have e1 := wsp_run s (i := i) (Utf8.decode s i).2 g3 g4
        have ih := spans_wsp s f (i + (Utf8.decode s i).2) g3 (by omega)
        have hne : stO s (i + (Utf8.decode s i).2) = some (wsp s i).1 := by unfold stO; rw [e1, if_neg (by omega)]
        rw [hne, e1] at ih
        rw [if_neg (by unfold spR; rw [decide_eq_true_iff]; exact g1)]
        unfold stO
        by_cases hf : (wsp s i).1 = i
        · rw [if_pos hf]
          rw [hf] at ih
          exact ih
        · rw [if_neg hf]
          exact ih
    · have : i = s.size := by omega
      subst this
      exact Go.Lib.spansFromP_end _ _ _ _ _ _ hi
theorem fields_words (s : ByteArray) : Go.Lib.goFieldsP spR s = wordsM s := by
  unfold Go.Lib.goFieldsP Go.Lib.spansOfP wordsM
  have h := spans_wsp s s.size 0 (Nat.zero_le _) (by omega)
  have h0 : stO s 0 = none := rfl
  have h1 : (wsp s 0).2 = [] := rfl
  rw [h0, h1] at h
  rw [h]
  congr 1
  have hle := wsp_le s s.size
  have e : wsp s (s.size + 1) = (s.size + 1, if s.size > (wsp s s.size).1 then (wsp s s.size).2 ++ [((wsp s s.size).1, s.size)] else (wsp s s.size).2) := by
    show (if s.size < s.size ∧ _ then _ else _) = _
    rw [if_neg (fun h => absurd h.1 (Nat.lt_irrefl _))]
  rw [e]
  unfold Go.Lib.closeSpans stO
  by_cases hf : (wsp s s.size).1 = s.size
  · simp [hf]
  · have h2 : s.size > (wsp s s.size).1 := by omega
    simp [hf, h2]
end Go.Proofs.YtiimndcifcoofaaGreatDoor
