/- isa: the document's way through the operands. Plain. No condition. -/
import Derived.Test.YtiimndcifcoofaaGreatDoorIcG
namespace Go.Proofs.YtiimndcifcoofaaGreatDoor
open Go Go.RowKit
set_option maxRecDepth 10000
set_option maxHeartbeats 4000000
def isRegR (c : UInt8) : Prop := (c.toNat : Int) = 114 ∨ (c.toNat : Int) = 115 ∨ (c.toNat : Int) = 116
instance (k : UInt8) : Decidable (isRegR k) := by unfold isRegR; infer_instance
def rdBR (c : UInt8) (w : ByteArray) : Bool := if isRegR c then (regM w).2 else (numR w.data.toList).2
def rdVR (c : UInt8) (w : ByteArray) : Int := if isRegR c then (regM w).1 else (numR w.data.toList).1
def setR (i : Ins) (k : UInt8) (v : Int) : Ins := if (k.toNat : Int) = 114 then ⟨i.op, v, i.b, i.c, i.imm⟩ else if (k.toNat : Int) = 115 then ⟨i.op, i.a, v, i.c, i.imm⟩ else if (k.toNat : Int) = 116 then ⟨i.op, i.a, i.b, v, i.imm⟩ else ⟨i.op, i.a, i.b, i.c, v⟩
theorem setR_op (i : Ins) (k : UInt8) (v : Int) : (setR i k v).op = i.op := by unfold setR; (repeat' split) <;> rfl
def opsR : List UInt8 → List ByteArray → Ins → Option Ins
  | [], ws, i => match ws with
    | [] => some i
    | _ :: _ => none
  | c :: cs, ws, i => if (c.toNat : Int) = 102 then opsR cs ws i else match ws with
    | [] => none
    | w :: ws => if rdBR c w = true then opsR cs ws (setR i c (rdVR c w)) else none
theorem opsR_e {c : UInt8} {cs : List UInt8} {ws : List ByteArray} {i : Ins} : opsR (c :: cs) ws i = if (c.toNat : Int) = 102 then opsR cs ws i else match ws with
    | [] => none
    | w :: ws => if rdBR c w = true then opsR cs ws (setR i c (rdVR c w)) else none := rfl
theorem opsR_c {c : UInt8} {cs : List UInt8} {w : ByteArray} {ws : List ByteArray} {i : Ins} (h : ¬ (c.toNat : Int) = 102) : opsR (c :: cs) (w :: ws) i = if rdBR c w = true then opsR cs ws (setR i c (rdVR c w)) else none := by
  rw [opsR_e, if_neg h]
theorem opsR_n {c : UInt8} {cs : List UInt8} {i : Ins} (h : ¬ (c.toNat : Int) = 102) : opsR (c :: cs) [] i = none := by
  rw [opsR_e, if_neg h]
theorem opsR_f {c : UInt8} {cs : List UInt8} {ws : List ByteArray} {i : Ins} (h : (c.toNat : Int) = 102) : opsR (c :: cs) ws i = opsR cs ws i := by
  rw [opsR_e, if_pos h]
def trK (c : UInt8) : UInt8 := if (c.toNat : Int) = 114 then 65 else if (c.toNat : Int) = 115 then 66 else if (c.toNat : Int) = 116 then 67 else 73
theorem tr_cases (c : UInt8) : ((c.toNat : Int) = 114 ∧ trK c = 65) ∨ ((c.toNat : Int) = 115 ∧ trK c = 66) ∨ ((c.toNat : Int) = 116 ∧ trK c = 67) ∨ (¬ isRegR c ∧ trK c = 73) := by
  unfold trK isRegR
  by_cases h1 : (c.toNat : Int) = 114
  · exact .inl ⟨h1, if_pos h1⟩
  · by_cases h2 : (c.toNat : Int) = 115
    · exact .inr (.inl ⟨h2, by rw [if_neg h1, if_pos h2]⟩)
    · by_cases h3 : (c.toNat : Int) = 116
      · exact .inr (.inr (.inl ⟨h3, by rw [if_neg h1, if_neg h2, if_pos h3]⟩))
      · exact .inr (.inr (.inr ⟨by omega, by rw [if_neg h1, if_neg h2, if_neg h3]⟩))
theorem reg65 : isReg 65 := .inl rfl
theorem reg66 : isReg 66 := .inr (.inl rfl)
theorem reg67 : isReg 67 := .inr (.inr rfl)
theorem reg73 : ¬ isReg 73 := by decide
theorem rd_tr (c : UInt8) (w : ByteArray) (i : Ins) : rdBR c w = rdB (trK c) w ∧ (rdBR c w = true → setR i c (rdVR c w) = setI i (trK c) (rdV (trK c) w)) := by
  have hn := dec_num w
  rcases tr_cases c with ⟨h, e⟩ | ⟨h, e⟩ | ⟨h, e⟩ | ⟨h, e⟩
  · have hr : isRegR c := .inl h
    rw [e]
    unfold rdBR rdB rdVR rdV setR setI
    rw [if_pos hr, if_pos reg65, if_pos hr, if_pos reg65, if_pos h, if_pos (show ((65 : UInt8).toNat : Int) = 65 from rfl)]
    exact ⟨rfl, fun _ => rfl⟩
  · have hr : isRegR c := .inr (.inl h)
    rw [e]
    unfold rdBR rdB rdVR rdV setR setI
    rw [if_pos hr, if_pos reg66, if_pos hr, if_pos reg66, if_neg (by omega), if_pos h, if_neg (show ¬ ((66 : UInt8).toNat : Int) = 65 by decide), if_pos (show ((66 : UInt8).toNat : Int) = 66 from rfl)]
    exact ⟨rfl, fun _ => rfl⟩
  · have hr : isRegR c := .inr (.inr h)
    rw [e]
    unfold rdBR rdB rdVR rdV setR setI
    rw [if_pos hr, if_pos reg67, if_pos hr, if_pos reg67, if_neg (by omega), if_neg (by omega), if_pos h, if_neg (show ¬ ((67 : UInt8).toNat : Int) = 65 by decide), if_neg (show ¬ ((67 : UInt8).toNat : Int) = 66 by decide), if_pos (show ((67 : UInt8).toNat : Int) = 67 from rfl)]
    exact ⟨rfl, fun _ => rfl⟩
  · rw [e]
    have h1 : ¬ (c.toNat : Int) = 114 := fun x => h (.inl x)
    have h2 : ¬ (c.toNat : Int) = 115 := fun x => h (.inr (.inl x))
    have h3 : ¬ (c.toNat : Int) = 116 := fun x => h (.inr (.inr x))
    unfold rdBR rdB rdVR rdV setR setI
    rw [if_neg h, if_neg reg73, if_neg h, if_neg reg73, if_neg h1, if_neg h2, if_neg h3, if_neg (show ¬ ((73 : UInt8).toNat : Int) = 65 by decide), if_neg (show ¬ ((73 : UInt8).toNat : Int) = 66 by decide), if_neg (show ¬ ((73 : UInt8).toNat : Int) = 67 by decide)]
    refine ⟨hn.1.symm, fun ht => ?_⟩
    rw [hn.2 (by rw [hn.1]; exact ht)]
theorem opsR_opsP : ∀ (cs : List UInt8) (ws : List ByteArray) (i : Ins), opsR cs ws i = opsP ((cs.filter fun c => !decide ((c.toNat : Int) = 102)).map trK) ws i
  | [], [], i => rfl
  | [], _ :: _, i => rfl
  | c :: cs, ws, i => by
    rw [opsR_e]
    by_cases h : (c.toNat : Int) = 102
    · rw [if_pos h, List.filter_cons_of_neg (by simp only [decide_eq_true h]; decide)]
      exact opsR_opsP cs ws i
    · rw [if_neg h, List.filter_cons_of_pos (by simp only [decide_eq_false h]; decide), List.map_cons]
      cases ws with
      | nil => rfl
      | cons w ws =>
        show (if rdBR c w = true then opsR cs ws (setR i c (rdVR c w)) else none) = if rdB (trK c) w = true then opsP _ ws (setI i (trK c) (rdV (trK c) w)) else none
        obtain ⟨h1, h2⟩ := rd_tr c w i
        rw [← h1]
        by_cases hb : rdBR c w = true
        · rw [if_pos hb, if_pos hb, h2 hb]
          exact opsR_opsP cs ws _
        · rw [if_neg hb, if_neg hb]
theorem rform_opAt {n : Nat} (h : n < 18) : ((rform n).data.toList.filter fun c => !decide ((c.toNat : Int) = 102)).map trK = (opAt n).data.toList := by
  rcases cases18 h with rfl | rfl | rfl | rfl | rfl | rfl | rfl | rfl | rfl | rfl | rfl | rfl | rfl | rfl | rfl | rfl | rfl | rfl <;> decide +kernel
theorem opsP_len : ∀ (ks : List UInt8) (ws : List ByteArray) (i : Ins), ws.length ≠ ks.length → opsP ks ws i = none
  | [], [], i, h => absurd rfl h
  | [], _ :: _, i, h => rfl
  | _ :: _, [], i, h => rfl
  | k :: ks, w :: ws, i, h => by
    rw [opsP]
    split
    · exact opsP_len ks ws _ (fun e => h (by simp [e]))
    · rfl
/-- What Parse returns, said in the document's words. -/
theorem parse_ref {s w : ByteArray} {ws : List ByteArray} (h2 : ¬ 200 < s.size) (hw : wordsM s = w :: ws) (hb : stB w = true) {n : Nat} {m : Int} (hn : n < 18) (hst : stI w = ⟨n, 0, 0, 0, m⟩) :
    parseM s = finP (opsR (rform n).data.toList ws ⟨n, 0, 0, 0, m⟩) := by
  have e : parseM s = if stB w = true ∧ ws.length = (opAt (stI w).op.toNat).size then finP (opsP (opAt (stI w).op.toNat).data.toList ws (stI w)) else (insZ, 4) := by
    unfold parseM; rw [if_neg h2, hw]
  have en : (⟨n, 0, 0, 0, m⟩ : Ins).op.toNat = n := by show (n : Int).toNat = n; omega
  rw [e, hst, en, opsR_opsP, rform_opAt hn]
  by_cases hl : ws.length = (opAt n).size
  · rw [if_pos ⟨hb, hl⟩]
  · rw [if_neg (fun h => hl h.2), opsP_len _ _ _ (by simpa using hl)]
    rfl
theorem parse_nb {s w : ByteArray} {ws : List ByteArray} (h2 : ¬ 200 < s.size) (hw : wordsM s = w :: ws) (hb : stB w = false) : parseM s = (insZ, 4) := by
  have e : parseM s = if stB w = true ∧ ws.length = (opAt (stI w).op.toNat).size then finP (opsP (opAt (stI w).op.toNat).data.toList ws (stI w)) else (insZ, 4) := by
    unfold parseM; rw [if_neg h2, hw]
  rw [e, if_neg (fun h => by rw [hb] at h; cases h.1)]
end Go.Proofs.YtiimndcifcoofaaGreatDoor
