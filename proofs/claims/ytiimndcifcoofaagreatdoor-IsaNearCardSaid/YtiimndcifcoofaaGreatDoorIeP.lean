/- isa: the text of an instruction, read back: plain. No condition. -/
import Derived.Test.YtiimndcifcoofaaGreatDoorIcI
import Derived.Lib.ItoaLen
namespace Go.Proofs.YtiimndcifcoofaaGreatDoor
open Go Go.RowKit
set_option maxRecDepth 10000
set_option maxHeartbeats 4000000
def regW (r : Int) : List UInt8 := 114 :: Go.Lib.itoa r
def opdW (i : Ins) (k : UInt8) : List UInt8 := if (k.toNat : Int) = 65 then regW i.a else if (k.toNat : Int) = 66 then regW i.b else if (k.toNat : Int) = 67 then regW i.c else Go.Lib.itoa i.imm
def headW (i : Ins) : List UInt8 := if i.op = 3 then (nameAt i.imm.toNat).data.toList else (nmAt i.op.toNat).data.toList
def fmtL (i : Ins) : List (List UInt8) := headW i :: (opAt i.op.toNat).data.toList.map (opdW i)
def fmtB (i : Ins) : ByteArray := ⟨(Go.Lib.join (fmtL i) [32]).toArray⟩
/-- What Format returns. -/
def fmtM (i : Ins) : ByteArray × Int := if icheck i = 0 then (fmtB i, 0) else (⟨#[]⟩, icheck i)
theorem ba_mk (s : ByteArray) : (⟨s.data.toList.toArray⟩ : ByteArray) = s := ba_ext (by simp)
theorem reg_fmt : ∀ r : Nat, r < 8 → regM ⟨(regW r).toArray⟩ = ((r : Int), true) := by decide +kernel
theorem reg_fmt' {r : Int} (h : 0 ≤ r ∧ r < 8) : regM ⟨(regW r).toArray⟩ = (r, true) := by
  obtain ⟨n, rfl⟩ : ∃ n : Nat, r = n := ⟨r.toNat, by omega⟩
  exact reg_fmt n (by omega)
theorem num_fmt {n : Int} (h1 : -9223372036854775808 ≤ n) (h2 : n ≤ 9223372036854775807) : decM ⟨(Go.Lib.itoa n).toArray⟩ = (n, true) := by
  obtain ⟨e1, e2⟩ := dec_num ⟨(Go.Lib.itoa n).toArray⟩
  have hr : numR (⟨(Go.Lib.itoa n).toArray⟩ : ByteArray).data.toList = (n, true) := by
    show numR (Go.Lib.itoa n) = _
    unfold numR
    rw [rnum_itoa h1 h2]
  rw [hr] at e1 e2
  exact Prod.ext (e2 e1) e1
theorem fmt_regs {i : Ins} (h : icheck i = 0) : (0 ≤ i.op ∧ i.op < 18) ∧ regOk (useA i.op) i.a ∧ regOk (useB i.op) i.b ∧ regOk (useC i.op) i.c ∧ immOk i.op i.imm := by
  unfold icheck at h
  split at h
  · omega
  · split at h
    · rename_i h3
      split at h
      · rename_i h4
        exact ⟨by omega, h3.1, h3.2.1, h3.2.2, h4⟩
      · omega
    · omega
theorem st_op : ∀ n : Nat, n < 18 → n ≠ 3 → stI (nmAt n) = ⟨n, 0, 0, 0, 0⟩ ∧ stB (nmAt n) = true := fun n hn h3 => by
  have h : opM (nmAt n) = n := opG_some hn rfl h3 18 0 (by omega) (by omega) (by omega)
  unfold stI stB
  rw [h, if_pos (by omega), if_pos (by omega)]
  exact ⟨rfl, rfl⟩
theorem num_name : ∀ m : Nat, m < 22 → numM (nameAt m) = ((m : Int), true) := by decide +kernel
theorem st_fn {m : Nat} (hm : m < 22) : stI (nameAt m) = ⟨3, 0, 0, 0, m⟩ ∧ stB (nameAt m) = true := by
  have h : opM (nameAt m) = -1 := opG_none 18 0 fun j _ hj hh => nm_alu j (by omega) m hm hh.2 hh.1.symm
  unfold stI stB
  rw [h, if_neg (by omega), if_neg (by omega), num_name m hm]
  exact ⟨rfl, rfl⟩
theorem rd_a {r : Int} (h : 0 ≤ r ∧ r < 8) (k : UInt8) (hk : isReg k) : rdB k ⟨(regW r).toArray⟩ = true ∧ rdV k ⟨(regW r).toArray⟩ = r := by
  unfold rdB rdV
  rw [if_pos hk, if_pos hk, reg_fmt' h]
  exact ⟨rfl, rfl⟩
theorem rd_i {n : Int} (h1 : -9223372036854775808 ≤ n) (h2 : n ≤ 9223372036854775807) (k : UInt8) (hk : ¬ isReg k) : rdB k ⟨(Go.Lib.itoa n).toArray⟩ = true ∧ rdV k ⟨(Go.Lib.itoa n).toArray⟩ = n := by
  unfold rdB rdV
  rw [if_neg hk, if_neg hk, num_fmt h1 h2]
  exact ⟨rfl, rfl⟩
theorem opsP_y {k : UInt8} {ks : List UInt8} {w : ByteArray} {ws : List ByteArray} {i : Ins} {v : Int} (h : rdB k w = true ∧ rdV k w = v) : opsP (k :: ks) (w :: ws) i = opsP ks ws (setI i k v) := by
  show (if rdB k w = true then opsP ks ws (setI i k (rdV k w)) else none) = _
  rw [if_pos h.1, h.2]
section
variable {ks : List UInt8} {ws : List ByteArray} {i : Ins} {o a b c m : Int}
theorem oy_a (h : 0 ≤ a ∧ a < 8) : opsP (65 :: ks) (⟨(opdW ⟨o, a, b, c, m⟩ 65).toArray⟩ :: ws) i = opsP ks ws (setI i 65 a) := opsP_y (rd_a h 65 reg65)
theorem oy_b (h : 0 ≤ b ∧ b < 8) : opsP (66 :: ks) (⟨(opdW ⟨o, a, b, c, m⟩ 66).toArray⟩ :: ws) i = opsP ks ws (setI i 66 b) := opsP_y (rd_a h 66 reg66)
theorem oy_c (h : 0 ≤ c ∧ c < 8) : opsP (67 :: ks) (⟨(opdW ⟨o, a, b, c, m⟩ 67).toArray⟩ :: ws) i = opsP ks ws (setI i 67 c) := opsP_y (rd_a h 67 reg67)
theorem oy_i (h1 : -9223372036854775808 ≤ m) (h2 : m ≤ 9223372036854775807) : opsP (73 :: ks) (⟨(opdW ⟨o, a, b, c, m⟩ 73).toArray⟩ :: ws) i = opsP ks ws (setI i 73 m) := opsP_y (rd_i h1 h2 73 reg73)
end
theorem ops_fmt {n : Nat} (hn : n < 18) {a b c m m0 : Int} (h : regOk (useA n) a ∧ regOk (useB n) b ∧ regOk (useC n) c ∧ immOk n m) (h1 : -9223372036854775808 ≤ m) (h2 : m ≤ 9223372036854775807) (hm0 : if n = 3 then m0 = m else m0 = 0) :
    opsP (opAt n).data.toList (((opAt n).data.toList.map (opdW ⟨n, a, b, c, m⟩)).map fun l => ⟨l.toArray⟩) ⟨n, 0, 0, 0, m0⟩ = some ⟨n, a, b, c, m⟩ := by
  have hA : useA n = true → 0 ≤ a ∧ a < 8 := fun e => by have := h.1; rw [e] at this; exact this
  have hB : useB n = true → 0 ≤ b ∧ b < 8 := fun e => by have := h.2.1; rw [e] at this; exact this
  have hC : useC n = true → 0 ≤ c ∧ c < 8 := fun e => by have := h.2.2.1; rw [e] at this; exact this
  have hA' : useA n = false → a = 0 := fun e => by have := h.1; rw [e] at this; exact this
  have hB' : useB n = false → b = 0 := fun e => by have := h.2.1; rw [e] at this; exact this
  have hC' : useC n = false → c = 0 := fun e => by have := h.2.2.1; rw [e] at this; exact this
  have hI := h.2.2.2
  rcases cases18 hn with rfl | rfl | rfl | rfl | rfl | rfl | rfl | rfl | rfl | rfl | rfl | rfl | rfl | rfl | rfl | rfl | rfl | rfl
  all_goals
    first | have hA := hA rfl | have hA := hA' rfl
    first | have hB := hB rfl | have hB := hB' rfl
    first | have hC := hC rfl | have hC := hC' rfl
    simp only [immOk] at hI
    try subst hA
    try subst hB
    try subst hC
    simp at hm0
    subst hm0
    simp only [opAt, op18, List.getD_cons_zero, List.getD_cons_succ, List.map_cons, List.map_nil]
    repeat (first | rw [oy_a hA] | rw [oy_b hB] | rw [oy_c hC] | rw [oy_i h1 h2])
    try simp at hI
    try subst hI
    rfl
theorem word_imm {c : UInt8} {s : List UInt8} (h : s.all (fun x => decide (x ≠ 32)) = true) (hc : c ∈ s) : c ≠ 32 := by
  simpa using List.all_eq_true.1 h c hc
theorem nm_words : ∀ n : Nat, n < 18 → n ≠ 3 → (nmAt n).data.toList ≠ [] ∧ (nmAt n).data.toList.all (fun x => decide (x ≠ 32)) = true ∧ (nmAt n).data.toList.length ≤ 21 := by decide +kernel
theorem name_words : ∀ n : Nat, n < 22 → (nameAt n).data.toList ≠ [] ∧ (nameAt n).data.toList.all (fun x => decide (x ≠ 32)) = true ∧ (nameAt n).data.toList.length ≤ 21 := by decide +kernel
theorem regs_words : ∀ r : Nat, r < 8 → regW r ≠ [] ∧ (regW r).all (fun x => decide (x ≠ 32)) = true ∧ (regW r).length ≤ 21 := by decide +kernel
theorem head_words {i : Ins} (h : icheck i = 0) : headW i ≠ [] ∧ (∀ c ∈ headW i, c ≠ 32) ∧ (headW i).length ≤ 21 := by
  obtain ⟨ho, _, _, _, hi⟩ := fmt_regs h
  unfold headW
  by_cases h3 : i.op = 3
  · rw [if_pos h3]
    rw [h3] at hi
    have hi : 0 ≤ i.imm ∧ i.imm < 22 := hi
    obtain ⟨h1, h2, h4⟩ := name_words i.imm.toNat (by omega)
    exact ⟨h1, fun c hc => word_imm h2 hc, h4⟩
  · rw [if_neg h3]
    obtain ⟨h1, h2, h4⟩ := nm_words i.op.toNat (by omega) (by omega)
    exact ⟨h1, fun c hc => word_imm h2 hc, h4⟩
theorem itoa_words {n : Int} (h1 : -9223372036854775808 ≤ n) (h2 : n ≤ 9223372036854775807) : Go.Lib.itoa n ≠ [] ∧ (∀ c ∈ Go.Lib.itoa n, c ≠ 32) ∧ (Go.Lib.itoa n).length ≤ 21 := ⟨itoa_ne, itoa_sp, Go.Lib.itoa_length_le n h1 h2⟩
theorem reg_words {r : Int} (h : 0 ≤ r ∧ r < 8) : regW r ≠ [] ∧ (∀ c ∈ regW r, c ≠ 32) ∧ (regW r).length ≤ 21 := by
  obtain ⟨n, rfl⟩ : ∃ n : Nat, r = n := ⟨r.toNat, by omega⟩
  obtain ⟨h1, h2, h4⟩ := regs_words n (by omega)
  exact ⟨h1, fun c hc => word_imm h2 hc, h4⟩
theorem op_use : ∀ n : Nat, n < 18 → ∀ k ∈ (opAt n).data.toList, (k = 65 ∧ useA n = true) ∨ (k = 66 ∧ useB n = true) ∨ (k = 67 ∧ useC n = true) ∨ k = 73 := by decide +kernel
theorem opd_words {i : Ins} (h : icheck i = 0) (h1 : -9223372036854775808 ≤ i.imm) (h2 : i.imm ≤ 9223372036854775807) {k : UInt8} (hk : k ∈ (opAt i.op.toNat).data.toList) : opdW i k ≠ [] ∧ (∀ c ∈ opdW i k, c ≠ 32) ∧ (opdW i k).length ≤ 21 := by
  obtain ⟨ho, hA, hB, hC, hi⟩ := fmt_regs h
  have e : ((i.op.toNat : Nat) : Int) = i.op := by omega
  rcases op_use i.op.toNat (by omega) k hk with ⟨rfl, hu⟩ | ⟨rfl, hu⟩ | ⟨rfl, hu⟩ | rfl
  · rw [e] at hu; rw [hu] at hA
    exact reg_words hA
  · rw [e] at hu; rw [hu] at hB
    exact reg_words hB
  · rw [e] at hu; rw [hu] at hC
    exact reg_words hC
  · exact itoa_words h1 h2
theorem fmt_words {i : Ins} (h : icheck i = 0) (h1 : -9223372036854775808 ≤ i.imm) (h2 : i.imm ≤ 9223372036854775807) : ∀ w ∈ fmtL i, w ≠ [] ∧ (∀ c ∈ w, c ≠ 32) ∧ w.length ≤ 21 := by
  intro w hw
  rcases List.mem_cons.1 hw with rfl | hw
  · exact head_words h
  · obtain ⟨k, hk, rfl⟩ := List.mem_map.1 hw
    exact opd_words h h1 h2 hk
theorem join_len : ∀ ws : List (List UInt8), (∀ w ∈ ws, w.length ≤ 21) → (Go.Lib.join ws [32]).length ≤ 22 * ws.length
  | [], _ => by simp [Go.Lib.join]
  | [w], h => by
    have := h w List.mem_cons_self
    have e : Go.Lib.join [w] [32] = w := by simp [Go.Lib.join, List.intercalate]
    rw [e]; simp; omega
  | w :: w2 :: r, h => by
    have := h w List.mem_cons_self
    have ih := join_len (w2 :: r) fun x hx => h x (List.mem_cons_of_mem _ hx)
    have e : Go.Lib.join (w :: w2 :: r) [32] = w ++ 32 :: Go.Lib.join (w2 :: r) [32] := by simp [Go.Lib.join, List.intercalate, List.intersperse]
    rw [e]
    simp only [List.length_append, List.length_cons] at *
    omega
theorem op_len : ∀ n : Nat, (opAt n).data.toList.length ≤ 3 := fun n => by
  by_cases h : n < 18
  · exact (by decide +kernel : ∀ n : Nat, n < 18 → (opAt n).data.toList.length ≤ 3) n h
  · have : opAt n = ⟨#[]⟩ := by unfold opAt; rw [List.getD_eq_getElem?_getD, List.getElem?_eq_none (by show 18 ≤ n; omega)]; rfl
    rw [this]; simp
theorem fmt_len (i : Ins) : (fmtL i).length ≤ 4 := by
  have := op_len i.op.toNat
  unfold fmtL
  simp only [List.length_cons, List.length_map]
  omega
theorem fmt_size {i : Ins} (h : icheck i = 0) (h1 : -9223372036854775808 ≤ i.imm) (h2 : i.imm ≤ 9223372036854775807) : (fmtB i).size ≤ 88 := by
  have a := join_len (fmtL i) fun w hw => (fmt_words h h1 h2 w hw).2.2
  have b := fmt_len i
  have c : (fmtB i).size = (Go.Lib.join (fmtL i) [32]).length := by
    unfold fmtB; simp [ByteArray.size]
  omega
/-- A text with the words of a valid instruction is read as this instruction. -/
theorem fmt_parse {i : Ins} (h : icheck i = 0) (h1 : -9223372036854775808 ≤ i.imm) (h2 : i.imm ≤ 9223372036854775807) {s : ByteArray} (hs : s.size ≤ 200) (hw : wl [] s.data.toList = fmtL i) : parseM s = (i, 0) := by
  have hm : wordsM s = (fmtL i).map fun l => (⟨l.toArray⟩ : ByteArray) := by
    rw [← hw, ← words_wl, List.map_map]
    have : ((fun l : List UInt8 => (⟨l.toArray⟩ : ByteArray)) ∘ fun x : ByteArray => x.data.toList) = id := by funext x; exact ba_mk x
    rw [this, List.map_id]
  obtain ⟨ho, hr⟩ := fmt_regs h
  obtain ⟨op, a, b, c, m⟩ := i
  dsimp only at ho hr h1 h2
  obtain ⟨n, rfl⟩ : ∃ n : Nat, op = n := ⟨op.toNat, by omega⟩
  have hn : n < 18 := by omega
  have hst : ∃ m0 : Int, stI ⟨(headW ⟨n, a, b, c, m⟩).toArray⟩ = ⟨n, 0, 0, 0, m0⟩ ∧ stB ⟨(headW ⟨n, a, b, c, m⟩).toArray⟩ = true ∧ (if n = 3 then m0 = m else m0 = 0) := by
    unfold headW
    dsimp only
    by_cases h3 : (n : Int) = 3
    · have h3n : n = 3 := by omega
      subst h3n
      rw [if_pos h3, ba_mk]
      have hi : 0 ≤ m ∧ m < 22 := hr.2.2.2
      obtain ⟨e1, e2⟩ := st_fn (m := m.toNat) (by omega)
      exact ⟨m, by rw [e1, show ((m.toNat : Nat) : Int) = m by omega]; rfl, e2, by simp⟩
    · rw [if_neg h3, ba_mk]
      obtain ⟨e1, e2⟩ := st_op n hn (by omega)
      exact ⟨0, e1, e2, by rw [if_neg (by omega)]⟩
  obtain ⟨m0, e1, e2, e3⟩ := hst
  unfold parseM
  rw [if_neg (by omega), hm]
  simp only [fmtL, List.map_cons]
  have en : (((n : Nat) : Int)).toNat = n := by omega
  rw [e1, e2]
  dsimp only
  rw [en, if_pos ⟨rfl, by simp⟩, ops_fmt hn hr h1 h2 e3]
  unfold finP
  simp only
  rw [if_pos h]
theorem fmt_back {i : Ins} (h : icheck i = 0) (h1 : -9223372036854775808 ≤ i.imm) (h2 : i.imm ≤ 9223372036854775807) : parseM (fmtB i) = (i, 0) ∧ parseM (⟨#[32, 32]⟩ ++ fmtB i ++ ⟨#[32]⟩) = (i, 0) := by
  have hsz := fmt_size h h1 h2
  have hj : wl [] (fmtB i).data.toList = fmtL i := by
    show wl [] (Go.Lib.join (fmtL i) [32]).toArray.toList = _
    simp only
    exact wl_join _ fun w hw => ⟨(fmt_words h h1 h2 w hw).1, (fmt_words h h1 h2 w hw).2.1⟩
  refine ⟨fmt_parse h h1 h2 (by omega) hj, fmt_parse h h1 h2 ?_ ?_⟩
  · have : (⟨#[32]⟩ : ByteArray).size = 1 := rfl
    have : (⟨#[32, 32]⟩ : ByteArray).size = 2 := rfl
    simp only [ByteArray.size_append]
    omega
  · have : (⟨#[32, 32]⟩ ++ fmtB i ++ ⟨#[32]⟩ : ByteArray).data.toList = 32 :: 32 :: ((fmtB i).data.toList ++ [32]) := by
      simp [ByteArray.data_append]
    rw [this, wl_sp, wl_sp, wl_end, hj]
end Go.Proofs.YtiimndcifcoofaaGreatDoor
