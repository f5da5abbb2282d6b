/- What the laws share, part 4. No condition. -/
import Derived.Lib.ItoaLen
import Derived.Test.YtiimndcifcoofaaGreatDoorRows
import Derived.Stop.LaidErr
import Derived.Lib.LaidTab
import Derived.Shelf.Strings.Split
import Derived.Shelf.Strings.Cut
import Derived.Shelf.Strings.Trim
import Derived.Shelf.Strings.LastIndex
import Derived.Shelf.Strings.Repeat
import Derived.Shelf.Strings.Prefix
import Derived.Shelf.Strings.OnBuilder
import Derived.Shelf.Strings.Builder1
import Derived.Shelf.Strings.Builder2
import Derived.Ground.Names2Prog
import Derived.Test.YtiimndcifcoofaaGreatDoorProg
import Derived.Lib.SplitLaws
import Derived.Lib.Split
import Derived.Lib.TrimByte
import Derived.Lib.IndexLaws
import Derived.Lib.IndexBytes
import Derived.Lib.Strings
import Derived.Lib.LastIndexByte
import Derived.Test.YtiimndcifcoofaaGreatDoorX3
namespace Go.Proofs.YtiimndcifcoofaaGreatDoor
open Go Go.RowKit
set_option maxRecDepth 10000
set_option maxHeartbeats 4000000
theorem reg_fmt : ∀ r : Nat, r < 8 → regM ⟨(regW r).toArray⟩ = ((r : Int), true) := by decide +kernel
theorem reg_fmt' {r : Int} (h : 0 ≤ r ∧ r < 8) : regM ⟨(regW r).toArray⟩ = (r, true) := by
  obtain ⟨n, rfl⟩ : ∃ n : Nat, r = n := ⟨r.toNat, by omega⟩
  exact reg_fmt n (by omega)
theorem num_fmt {n : Int} (h1 : -9223372036854775808 ≤ n) (h2 : n ≤ 9223372036854775807) : decM ⟨(Go.Lib.itoa n).toArray⟩ = (n, true) := by
  obtain ⟨e1, e2⟩ := dec_num ⟨(Go.Lib.itoa n).toArray⟩
  have hr : numR (⟨(Go.Lib.itoa n).toArray⟩ : ByteArray).data.toList = (n, true) := by
    show numR (Go.Lib.itoa n) = _
    unfold numR
    rw [rnum_itoa h1 h2]
  rw [hr] at e1 e2
  exact Prod.ext (e2 e1) e1
theorem st_op : ∀ n : Nat, n < 18 → n ≠ 3 → stI (nmAt n) = ⟨n, 0, 0, 0, 0⟩ ∧ stB (nmAt n) = true := fun n hn h3 => by
  have h : opM (nmAt n) = n := opG_some hn rfl h3 18 0 (by omega) (by omega) (by omega)
  unfold stI stB
  rw [h, if_pos (by omega), if_pos (by omega)]
  exact ⟨rfl, rfl⟩
theorem num_name : ∀ m : Nat, m < 22 → numM (nameAt m) = ((m : Int), true) := by decide +kernel
theorem st_fn {m : Nat} (hm : m < 22) : stI (nameAt m) = ⟨3, 0, 0, 0, m⟩ ∧ stB (nameAt m) = true := by
  have h : opM (nameAt m) = -1 := opG_none 18 0 fun j _ hj hh => nm_alu j (by omega) m hm hh.2 hh.1.symm
  unfold stI stB
  rw [h, if_neg (by omega), if_neg (by omega), num_name m hm]
  exact ⟨rfl, rfl⟩
theorem rd_a {r : Int} (h : 0 ≤ r ∧ r < 8) (k : UInt8) (hk : isReg k) : rdB k ⟨(regW r).toArray⟩ = true ∧ rdV k ⟨(regW r).toArray⟩ = r := by
  unfold rdB rdV
  rw [if_pos hk, if_pos hk, reg_fmt' h]
  exact ⟨rfl, rfl⟩
theorem rd_i {n : Int} (h1 : -9223372036854775808 ≤ n) (h2 : n ≤ 9223372036854775807) (k : UInt8) (hk : ¬ isReg k) : rdB k ⟨(Go.Lib.itoa n).toArray⟩ = true ∧ rdV k ⟨(Go.Lib.itoa n).toArray⟩ = n := by
  unfold rdB rdV
  rw [if_neg hk, if_neg hk, num_fmt h1 h2]
  exact ⟨rfl, rfl⟩
theorem opsP_y {k : UInt8} {ks : List UInt8} {w : ByteArray} {ws : List ByteArray} {i : Ins} {v : Int} (h : rdB k w = true ∧ rdV k w = v) : opsP (k :: ks) (w :: ws) i = opsP ks ws (setI i k v) := by
  show (if rdB k w = true then opsP ks ws (setI i k (rdV k w)) else none) = _
  rw [if_pos h.1, h.2]
section
variable {ks : List UInt8} {ws : List ByteArray} {i : Ins} {o a b c m : Int}
theorem oy_a (h : 0 ≤ a ∧ a < 8) : opsP (65 :: ks) (⟨(opdW ⟨o, a, b, c, m⟩ 65).toArray⟩ :: ws) i = opsP ks ws (setI i 65 a) := opsP_y (rd_a h 65 reg65)
theorem oy_b (h : 0 ≤ b ∧ b < 8) : opsP (66 :: ks) (⟨(opdW ⟨o, a, b, c, m⟩ 66).toArray⟩ :: ws) i = opsP ks ws (setI i 66 b) := opsP_y (rd_a h 66 reg66)
theorem oy_c (h : 0 ≤ c ∧ c < 8) : opsP (67 :: ks) (⟨(opdW ⟨o, a, b, c, m⟩ 67).toArray⟩ :: ws) i = opsP ks ws (setI i 67 c) := opsP_y (rd_a h 67 reg67)
theorem oy_i (h1 : -9223372036854775808 ≤ m) (h2 : m ≤ 9223372036854775807) : opsP (73 :: ks) (⟨(opdW ⟨o, a, b, c, m⟩ 73).toArray⟩ :: ws) i = opsP ks ws (setI i 73 m) := opsP_y (rd_i h1 h2 73 reg73)
end
theorem ops_fmt {n : Nat} (hn : n < 18) {a b c m m0 : Int} (h : regOk (useA n) a ∧ regOk (useB n) b ∧ regOk (useC n) c ∧ immOk n m) (h1 : -9223372036854775808 ≤ m) (h2 : m ≤ 9223372036854775807) (hm0 : if n = 3 then m0 = m else m0 = 0) :
    opsP (opAt n).data.toList (((opAt n).data.toList.map (opdW ⟨n, a, b, c, m⟩)).map fun l => ⟨l.toArray⟩) ⟨n, 0, 0, 0, m0⟩ = some ⟨n, a, b, c, m⟩ := by
  have hA : useA n = true → 0 ≤ a ∧ a < 8 := fun e => by have := h.1; rw [e] at this; exact this
  have hB : useB n = true → 0 ≤ b ∧ b < 8 := fun e => by have := h.2.1; rw [e] at this; exact this
  have hC : useC n = true → 0 ≤ c ∧ c < 8 := fun e => by have := h.2.2.1; rw [e] at this; exact this
  have hA' : useA n = false → a = 0 := fun e => by have := h.1; rw [e] at this; exact this
  have hB' : useB n = false → b = 0 := fun e => by have := h.2.1; rw [e] at this; exact this
  have hC' : useC n = false → c = 0 := fun e => by have := h.2.2.1; rw [e] at this; exact this
  have hI := h.2.2.2
  rcases cases18 hn with rfl | rfl | rfl | rfl | rfl | rfl | rfl | rfl | rfl | rfl | rfl | rfl | rfl | rfl | rfl | rfl | rfl | rfl
  all_goals
    first | have hA := hA rfl | have hA := hA' rfl
    first | have hB := hB rfl | have hB := hB' rfl
    first | have hC := hC rfl | have hC := hC' rfl
    simp only [immOk] at hI
    try subst hA
    try subst hB
    try subst hC
    simp at hm0
    subst hm0
    simp only [opAt, op18, List.getD_cons_zero, List.getD_cons_succ, List.map_cons, List.map_nil]
    repeat (first | rw [oy_a hA] | rw [oy_b hB] | rw [oy_c hC] | rw [oy_i h1 h2])
    try simp at hI
    try subst hI
    rfl
theorem fmt_parse {i : Ins} (h : icheck i = 0) (h1 : -9223372036854775808 ≤ i.imm) (h2 : i.imm ≤ 9223372036854775807) {s : ByteArray} (hs : s.size ≤ 200) (hw : wl [] s.data.toList = fmtL i) : parseM s = (i, 0) := by
  have hm : wordsM s = (fmtL i).map fun l => (⟨l.toArray⟩ : ByteArray) := by
    rw [← hw, ← words_wl, List.map_map]
    have : ((fun l : List UInt8 => (⟨l.toArray⟩ : ByteArray)) ∘ fun x : ByteArray => x.data.toList) = id := by funext x; exact ba_mk x
    rw [this, List.map_id]
  obtain ⟨ho, hr⟩ := fmt_regs h
  obtain ⟨op, a, b, c, m⟩ := i
  dsimp only at ho hr h1 h2
  obtain ⟨n, rfl⟩ : ∃ n : Nat, op = n := ⟨op.toNat, by omega⟩
  have hn : n < 18 := by omega
  have hst : ∃ m0 : Int, stI ⟨(headW ⟨n, a, b, c, m⟩).toArray⟩ = ⟨n, 0, 0, 0, m0⟩ ∧ stB ⟨(headW ⟨n, a, b, c, m⟩).toArray⟩ = true ∧ (if n = 3 then m0 = m else m0 = 0) := by
    unfold headW
    dsimp only
    by_cases h3 : (n : Int) = 3
    · have h3n : n = 3 := by omega
      subst h3n
      rw [if_pos h3, ba_mk]
      have hi : 0 ≤ m ∧ m < 22 := hr.2.2.2
      obtain ⟨e1, e2⟩ := st_fn (m := m.toNat) (by omega)
      exact ⟨m, by rw [e1, show ((m.toNat : Nat) : Int) = m by omega]; rfl, e2, by simp⟩
    · rw [if_neg h3, ba_mk]
      obtain ⟨e1, e2⟩ := st_op n hn (by omega)
      exact ⟨0, e1, e2, by rw [if_neg (by omega)]⟩
  obtain ⟨m0, e1, e2, e3⟩ := hst
  unfold parseM
  rw [if_neg (by omega), hm]
  simp only [fmtL, List.map_cons]
  have en : (((n : Nat) : Int)).toNat = n := by omega
  rw [e1, e2]
  dsimp only
  rw [en, if_pos ⟨rfl, by simp⟩, ops_fmt hn hr h1 h2 e3]
  unfold finP
  simp only
  rw [if_pos h]
end Go.Proofs.YtiimndcifcoofaaGreatDoor
namespace Go.Proofs.YtiimndcifcoofaaGreatDoor
open Go Go.RowKit
set_option maxRecDepth 10000
set_option maxHeartbeats 4000000
theorem take_ext {l : List UInt8} {i f : Nat} {c : UInt8} (hf : f ≤ i) (hc : l[i]? = some c) : (l.drop f).take (i + 1 - f) = (l.drop f).take (i - f) ++ [c] := by
  have e3 : i + 1 - f = (i - f) + 1 := by omega
  rw [e3, List.take_add_one]
  congr 1
  rw [List.getElem?_drop]
  have e4 : f + (i - f) = i := by omega
  rw [e4, hc]
  rfl
section
variable {W0 : World} {own : Own}
theorem sp_rLines (s : ByteArray) (hs : s.size ≤ 4294967296) : Spec Tryz.prog W0 32 [.string s] own (LinesR W0 own (linesB s)) := by
  refine spec_of mixed low_ref04_Lines (by simp [ir_ref04_Lines]) ?_
  have hl : s.data.toList.length = s.size := by simp
  repeat' ((try (conv => whnf)); first | (refine when_ye ?_ ?_; exact rfl) | (refine when_ne ?_ ?_; exact rfl) | (refine br_te ?_ ?_; exact rfl) | (refine br_fe ?_ ?_; exact rfl) | (apply br_pyE; (exact rfl); omega) | (apply br_pnE; (exact rfl); omega) | (apply when_pyE; (exact rfl); omega) | (apply when_pnE; (exact rfl); omega) | (apply br_npyE; (exact rfl); omega) | (apply br_npnE; (exact rfl); omega) | (apply when_npyE; (exact rfl); omega) | (apply when_npnE; (exact rfl); omega) | (refine ari ?_ ?_; omega) | (refine aru ?_ ?_; omega) | (apply sel; exact rfl) | (refine ix0 rfl ?_) | (refine ix1 rfl ?_) | (refine ix2 rfl ?_) | (refine ix3 rfl ?_) | (apply ixj; omega) | (refine ixn ?_ ?_; omega) | (refine ixs0 rfl ?_) | (refine ixs1 rfl ?_) | (refine ixs_j ?_ ?_; omega) | (refine ixs_n ?_ ?_; omega) | (apply ld_o; exact rfl) | (apply ldN_a; exact rfl) | (apply ldN_o; (exact rfl); exact rfl) | (apply st_o; (exact rfl); exact rfl) | (apply stN_o; (exact rfl); (exact rfl); exact rfl) | (refine new_i (fun bk hbk => ?_)) | (apply when_dE; (exact rfl); (exact rfl); all_goals intro hc) | (apply when_dF; (exact rfl); (exact rfl); all_goals intro hc) | (apply when_nE; (exact rfl); (exact rfl); all_goals intro hc) | (apply when_nF; (exact rfl); (exact rfl); all_goals intro hc) | (apply br_dE; (exact rfl); all_goals intro hc) | (apply br_nE; (exact rfl); all_goals intro hc) | (refine mm_min ?_) | (refine mm_max ?_) | (refine rem_i ?_ ?_; omega) | (refine SelN.mk ?_) | (refine cut_n ?_) | (refine Both.mk ?_ ?_) | (exact True.intro))
  refine loop_i (σ := Nat × Nat × List ByteArray × Option Addr × Nat × Own) (fun x => [(3, .slice x.2.2.2.1 x.2.2.1.length x.2.2.2.2.1), (4, .int .i64 x.2.1), (5, .int .i64 x.1)]) (fun x => x.2.2.2.2.2 ++ own) (fun x => x.1 ≤ s.size ∧ x.2.1 ≤ x.1 ∧ x.2.2.1.length ≤ x.1 ∧ BufE encS 9 1 x.2.2.2.1 x.2.2.2.2.1 x.2.2.1 x.2.2.2.2.2 ∧
    x.2.2.1.map (fun y => y.data.toList) ++ lnL ((s.data.toList.drop x.2.1).take (x.1 - x.2.1)) (s.data.toList.drop x.1) = lnL [] s.data.toList) (fun x => s.size - x.1) (0, 0, [], none, 0, []) ⟨Nat.zero_le _, Nat.le_refl _, Nat.le_refl _, BufE.nil, by simp⟩ (by repeat' (first | exact True.intro | refine And.intro ?_ ?_ | exact rfl | exact vi (by omega) | (dsimp only; exact rfl) | (dsimp only; exact vi (by omega)))) Ent.refl rfl ?_
  rintro ⟨i, f, acc, a, cap, D⟩ junk ⟨hi, hfi, hal, hB, hI⟩
  dsimp only at hi hfi hal hB hI ⊢
  by_cases hlt : i < s.size
  · have hlt' : (i : Int) < s.size := by omega
    obtain ⟨x, hx⟩ : ∃ x, s.data.toList[i]? = some x := ⟨_, List.getElem?_eq_getElem (by omega)⟩
    have hd : s.data.toList.drop i = x :: s.data.toList.drop (i + 1) := by
      rw [List.drop_eq_getElem_cons (by omega)]
      congr 1
      exact (List.getElem?_eq_some_iff.1 hx).2
    rw [hd, ln_cons] at hI
    by_cases h10 : (x.toNat : Int) = 10
    · have hx10 : x = 10 := UInt8.toNat.inj (by show x.toNat = 10; omega)
      rw [if_pos hx10] at hI
      repeat' ((try (conv => whnf)); first | (refine when_ye ?_ ?_; exact rfl) | (refine when_ne ?_ ?_; exact rfl) | (refine br_te ?_ ?_; exact rfl) | (refine br_fe ?_ ?_; exact rfl) | (apply br_pyE; (exact rfl); omega) | (apply br_pnE; (exact rfl); omega) | (apply when_pyE; (exact rfl); omega) | (apply when_pnE; (exact rfl); omega) | (apply br_npyE; (exact rfl); omega) | (apply br_npnE; (exact rfl); omega) | (apply when_npyE; (exact rfl); omega) | (apply when_npnE; (exact rfl); omega) | (refine ⟨i, x, rfl, hx, ?_⟩) | (refine SscT.mk ⟨f, i, rfl, rfl, ?_, ?_, ?_⟩; (omega); (omega)) | (apply app_i (enc := encS) (s.extract f i) hB; (exact rfl); (exact rfl); (omega); (exact rfl); (exact rfl); (omega); intro a2 c2 D2 hb2) | (refine ari ?_ ?_; omega) | (refine aru ?_ ?_; omega) | (apply sel; exact rfl) | (refine ix0 rfl ?_) | (refine ix1 rfl ?_) | (refine ix2 rfl ?_) | (refine ix3 rfl ?_) | (apply ixj; omega) | (refine ixn ?_ ?_; omega) | (refine ixs0 rfl ?_) | (refine ixs1 rfl ?_) | (refine ixs_j ?_ ?_; omega) | (refine ixs_n ?_ ?_; omega) | (apply ld_o; exact rfl) | (apply ldN_a; exact rfl) | (apply ldN_o; (exact rfl); exact rfl) | (apply st_o; (exact rfl); exact rfl) | (apply stN_o; (exact rfl); (exact rfl); exact rfl) | (refine new_i (fun bk hbk => ?_)) | (apply when_dE; (exact rfl); (exact rfl); all_goals intro hc) | (apply when_dF; (exact rfl); (exact rfl); all_goals intro hc) | (apply when_nE; (exact rfl); (exact rfl); all_goals intro hc) | (apply when_nF; (exact rfl); (exact rfl); all_goals intro hc) | (apply br_dE; (exact rfl); all_goals intro hc) | (apply br_nE; (exact rfl); all_goals intro hc) | (refine mm_min ?_) | (refine mm_max ?_) | (refine rem_i ?_ ?_; omega) | (refine SelN.mk ?_) | (refine cut_n ?_) | (refine Both.mk ?_ ?_) | (exact True.intro))
      refine ⟨(i + 1, i + 1, acc ++ [s.extract f i], a2, c2, D2), ⟨by dsimp only; omega, by dsimp only; omega, by dsimp only; simp; omega, hb2, ?_⟩, by dsimp only; omega, ?_, (by first | exact ent_i | (repeat (first | exact Ent.refl | exact Ent.left | refine Ent.cons ?_ | refine Ent.app ?_)))⟩
      · dsimp only
        rw [Nat.sub_self, List.take_zero, List.map_append, List.append_assoc, List.map_singleton, ba_extract]
        exact hI
      · dsimp only
        rw [List.length_append]
        exact (by repeat' (first | exact True.intro | refine And.intro ?_ ?_ | exact rfl | exact vi (by omega) | (dsimp only; exact rfl) | (dsimp only; exact vi (by omega))))
    · have hx10 : x ≠ 10 := fun e => h10 (by rw [e]; rfl)
      rw [if_neg hx10, ← take_ext hfi hx] at hI
      repeat' ((try (conv => whnf)); first | (refine when_ye ?_ ?_; exact rfl) | (refine when_ne ?_ ?_; exact rfl) | (refine br_te ?_ ?_; exact rfl) | (refine br_fe ?_ ?_; exact rfl) | (apply br_pyE; (exact rfl); omega) | (apply br_pnE; (exact rfl); omega) | (apply when_pyE; (exact rfl); omega) | (apply when_pnE; (exact rfl); omega) | (apply br_npyE; (exact rfl); omega) | (apply br_npnE; (exact rfl); omega) | (apply when_npyE; (exact rfl); omega) | (apply when_npnE; (exact rfl); omega) | (refine ⟨i, x, rfl, hx, ?_⟩) | (refine ari ?_ ?_; omega) | (refine aru ?_ ?_; omega) | (apply sel; exact rfl) | (refine ix0 rfl ?_) | (refine ix1 rfl ?_) | (refine ix2 rfl ?_) | (refine ix3 rfl ?_) | (apply ixj; omega) | (refine ixn ?_ ?_; omega) | (refine ixs0 rfl ?_) | (refine ixs1 rfl ?_) | (refine ixs_j ?_ ?_; omega) | (refine ixs_n ?_ ?_; omega) | (apply ld_o; exact rfl) | (apply ldN_a; exact rfl) | (apply ldN_o; (exact rfl); exact rfl) | (apply st_o; (exact rfl); exact rfl) | (apply stN_o; (exact rfl); (exact rfl); exact rfl) | (refine new_i (fun bk hbk => ?_)) | (apply when_dE; (exact rfl); (exact rfl); all_goals intro hc) | (apply when_dF; (exact rfl); (exact rfl); all_goals intro hc) | (apply when_nE; (exact rfl); (exact rfl); all_goals intro hc) | (apply when_nF; (exact rfl); (exact rfl); all_goals intro hc) | (apply br_dE; (exact rfl); all_goals intro hc) | (apply br_nE; (exact rfl); all_goals intro hc) | (refine mm_min ?_) | (refine mm_max ?_) | (refine rem_i ?_ ?_; omega) | (refine SelN.mk ?_) | (refine cut_n ?_) | (refine Both.mk ?_ ?_) | (exact True.intro))
      exact ⟨(i + 1, f, acc, a, cap, D), ⟨by dsimp only; omega, by dsimp only; omega, by dsimp only; omega, hB, hI⟩, by dsimp only; omega, (by repeat' (first | exact True.intro | refine And.intro ?_ ?_ | exact rfl | exact vi (by omega) | (dsimp only; exact rfl) | (dsimp only; exact vi (by omega)))), (by first | exact ent_i | (repeat (first | exact Ent.refl | exact Ent.left | refine Ent.cons ?_ | refine Ent.app ?_)))⟩
  · have hlt' : ¬ (i : Int) < s.size := by omega
    have hie : i = s.size := by omega
    subst hie
    have e1 : s.data.toList.drop s.size = [] := List.drop_eq_nil_of_le (by omega)
    rw [e1, ln_nil] at hI
    have e2 : (s.data.toList.drop f).take (s.size - f) = s.data.toList.drop f := List.take_of_length_le (by rw [List.length_drop]; omega)
    rw [e2] at hI
    have hmap : ∀ l : List ByteArray, (l.map (fun y => y.data.toList)).map bW = l := fun l => by
      rw [List.map_map]
      have : (bW ∘ fun x : ByteArray => x.data.toList) = id := by funext x; exact bW_self x
      rw [this, List.map_id]
    unfold linesB
    rw [← hI]
    by_cases hfl : f < s.size
    · have hfl' : (f : Int) < s.size := by omega
      have hne : s.data.toList.drop f ≠ [] := fun e => by have := congrArg List.length e; rw [List.length_drop] at this; simp at this; omega
      rw [if_neg hne]
      have e3 : (acc.map (fun y => y.data.toList) ++ [s.data.toList.drop f]).map bW = acc ++ [s.extract f s.size] := by
        rw [List.map_append, hmap, List.map_singleton]
        congr 2
        exact ba_ext (by rw [bW_data, ba_extract, e2])
      rw [e3]
      repeat' ((try (conv => whnf)); first | (refine when_ye ?_ ?_; exact rfl) | (refine when_ne ?_ ?_; exact rfl) | (refine br_te ?_ ?_; exact rfl) | (refine br_fe ?_ ?_; exact rfl) | (apply br_pyE; (exact rfl); omega) | (apply br_pnE; (exact rfl); omega) | (apply when_pyE; (exact rfl); omega) | (apply when_pnE; (exact rfl); omega) | (apply br_npyE; (exact rfl); omega) | (apply br_npnE; (exact rfl); omega) | (apply when_npyE; (exact rfl); omega) | (apply when_npnE; (exact rfl); omega) | (refine SscT.mk ⟨f, s.size, rfl, rfl, ?_, ?_, ?_⟩; (omega); (omega)) | (apply app_i (enc := encS) (s.extract f s.size) hB; (exact rfl); (exact rfl); (omega); (exact rfl); (exact rfl); (omega); intro a2 c2 D2 hb2) | (refine ari ?_ ?_; omega) | (refine aru ?_ ?_; omega) | (apply sel; exact rfl) | (refine ix0 rfl ?_) | (refine ix1 rfl ?_) | (refine ix2 rfl ?_) | (refine ix3 rfl ?_) | (apply ixj; omega) | (refine ixn ?_ ?_; omega) | (refine ixs0 rfl ?_) | (refine ixs1 rfl ?_) | (refine ixs_j ?_ ?_; omega) | (refine ixs_n ?_ ?_; omega) | (apply ld_o; exact rfl) | (apply ldN_a; exact rfl) | (apply ldN_o; (exact rfl); exact rfl) | (apply st_o; (exact rfl); exact rfl) | (apply stN_o; (exact rfl); (exact rfl); exact rfl) | (refine new_i (fun bk hbk => ?_)) | (apply when_dE; (exact rfl); (exact rfl); all_goals intro hc) | (apply when_dF; (exact rfl); (exact rfl); all_goals intro hc) | (apply when_nE; (exact rfl); (exact rfl); all_goals intro hc) | (apply when_nF; (exact rfl); (exact rfl); all_goals intro hc) | (apply br_dE; (exact rfl); all_goals intro hc) | (apply br_nE; (exact rfl); all_goals intro hc) | (refine mm_min ?_) | (refine mm_max ?_) | (refine rem_i ?_ ?_; omega) | (refine SelN.mk ?_) | (refine cut_n ?_) | (refine Both.mk ?_ ?_) | (exact True.intro))
      exact ⟨a2, c2, D2, by rw [List.length_append]; rfl, hb2.rd, (by first | exact ent_i | (repeat (first | exact Ent.refl | exact Ent.left | refine Ent.cons ?_ | refine Ent.app ?_)))⟩
    · have hfl' : ¬ (f : Int) < s.size := by omega
      have hne : s.data.toList.drop f = [] := List.drop_eq_nil_of_le (by omega)
      rw [if_pos hne, List.append_nil, hmap]
      repeat' ((try (conv => whnf)); first | (refine when_ye ?_ ?_; exact rfl) | (refine when_ne ?_ ?_; exact rfl) | (refine br_te ?_ ?_; exact rfl) | (refine br_fe ?_ ?_; exact rfl) | (apply br_pyE; (exact rfl); omega) | (apply br_pnE; (exact rfl); omega) | (apply when_pyE; (exact rfl); omega) | (apply when_pnE; (exact rfl); omega) | (apply br_npyE; (exact rfl); omega) | (apply br_npnE; (exact rfl); omega) | (apply when_npyE; (exact rfl); omega) | (apply when_npnE; (exact rfl); omega) | (refine ari ?_ ?_; omega) | (refine aru ?_ ?_; omega) | (apply sel; exact rfl) | (refine ix0 rfl ?_) | (refine ix1 rfl ?_) | (refine ix2 rfl ?_) | (refine ix3 rfl ?_) | (apply ixj; omega) | (refine ixn ?_ ?_; omega) | (refine ixs0 rfl ?_) | (refine ixs1 rfl ?_) | (refine ixs_j ?_ ?_; omega) | (refine ixs_n ?_ ?_; omega) | (apply ld_o; exact rfl) | (apply ldN_a; exact rfl) | (apply ldN_o; (exact rfl); exact rfl) | (apply st_o; (exact rfl); exact rfl) | (apply stN_o; (exact rfl); (exact rfl); exact rfl) | (refine new_i (fun bk hbk => ?_)) | (apply when_dE; (exact rfl); (exact rfl); all_goals intro hc) | (apply when_dF; (exact rfl); (exact rfl); all_goals intro hc) | (apply when_nE; (exact rfl); (exact rfl); all_goals intro hc) | (apply when_nF; (exact rfl); (exact rfl); all_goals intro hc) | (apply br_dE; (exact rfl); all_goals intro hc) | (apply br_nE; (exact rfl); all_goals intro hc) | (refine mm_min ?_) | (refine mm_max ?_) | (refine rem_i ?_ ?_; omega) | (refine SelN.mk ?_) | (refine cut_n ?_) | (refine Both.mk ?_ ?_) | (exact True.intro))
      exact ⟨a, cap, D, rfl, hB.rd, (by first | exact ent_i | (repeat (first | exact Ent.refl | exact Ent.left | refine Ent.cons ?_ | refine Ent.app ?_)))⟩
end
end Go.Proofs.YtiimndcifcoofaaGreatDoor
namespace Go.Proofs.YtiimndcifcoofaaGreatDoor
open Go Go.RowKit
set_option maxRecDepth 10000
set_option maxHeartbeats 4000000
section
variable {W0 : World} {own : Own}
theorem sp_kprog {a b : Option Addr} {c1 c2 : Nat} {L : List Ins} (h1 : RdE Ins.enc 5 W0 own a L) (h2 : RdE Ins.enc 5 W0 own b L) (hl : L.length ≤ 9223372036854775807) : Pure Tryz.prog W0 26 [.slice a L.length c1, .slice b L.length c2] own (.bool true) := by
  refine pure_of (spec_of mixed low_kit_Program (by simp [ir_kit_Program]) ?_)
  have hne : ¬ ((L.length : Nat) : Int) ≠ L.length := by omega
  repeat' ((try (conv => whnf)); first | (refine when_ye ?_ ?_; exact rfl) | (refine when_ne ?_ ?_; exact rfl) | (refine br_te ?_ ?_; exact rfl) | (refine br_fe ?_ ?_; exact rfl) | (apply br_pyE; (exact rfl); omega) | (apply br_pnE; (exact rfl); omega) | (apply when_pyE; (exact rfl); omega) | (apply when_pnE; (exact rfl); omega) | (apply br_npyE; (exact rfl); omega) | (apply br_npnE; (exact rfl); omega) | (apply when_npyE; (exact rfl); omega) | (apply when_npnE; (exact rfl); omega) | (refine br_pyE ?_ hne ?_; exact rfl) | (refine br_pnE ?_ hne ?_; exact rfl) | (refine when_pyE ?_ hne ?_; exact rfl) | (refine when_pnE ?_ hne ?_; exact rfl) | (refine br_npyE ?_ hne ?_; exact rfl) | (refine br_npnE ?_ hne ?_; exact rfl) | (refine when_npyE ?_ hne ?_; exact rfl) | (refine when_npnE ?_ hne ?_; exact rfl) | (refine ari ?_ ?_; omega) | (refine aru ?_ ?_; omega) | (apply sel; exact rfl) | (refine ix0 rfl ?_) | (refine ix1 rfl ?_) | (refine ix2 rfl ?_) | (refine ix3 rfl ?_) | (apply ixj; omega) | (refine ixn ?_ ?_; omega) | (refine ixs0 rfl ?_) | (refine ixs1 rfl ?_) | (refine ixs_j ?_ ?_; omega) | (refine ixs_n ?_ ?_; omega) | (apply ld_o; exact rfl) | (apply ldN_a; exact rfl) | (apply ldN_o; (exact rfl); exact rfl) | (apply st_o; (exact rfl); exact rfl) | (apply stN_o; (exact rfl); (exact rfl); exact rfl) | (refine new_i (fun bk hbk => ?_)) | (apply when_dE; (exact rfl); (exact rfl); all_goals intro hc) | (apply when_dF; (exact rfl); (exact rfl); all_goals intro hc) | (apply when_nE; (exact rfl); (exact rfl); all_goals intro hc) | (apply when_nF; (exact rfl); (exact rfl); all_goals intro hc) | (apply br_dE; (exact rfl); all_goals intro hc) | (apply br_nE; (exact rfl); all_goals intro hc) | (refine mm_min ?_) | (refine mm_max ?_) | (refine rem_i ?_ ?_; omega) | (refine SelN.mk ?_) | (refine cut_n ?_) | (refine Both.mk ?_ ?_) | (exact True.intro))
  refine loop_c (σ := Nat) (fun i => [(5, .int .i64 i)]) (fun i => i ≤ L.length) (fun i => L.length - i) 0 (by omega) (by repeat' (first | exact True.intro | refine And.intro ?_ ?_ | exact rfl | exact vi (by omega) | (dsimp only; exact rfl) | (dsimp only; exact vi (by omega)))) rfl ?_
  intro i junk hi
  by_cases hlt : i < L.length
  · obtain ⟨x, hx⟩ : ∃ x, L[i]? = some x := ⟨_, List.getElem?_eq_getElem hlt⟩
    have hlt' : (i : Int) < L.length := by omega
    obtain ⟨io, ia, ib, ic, im⟩ := x
    repeat' ((try (conv => whnf)); first | (refine when_ye ?_ ?_; exact rfl) | (refine when_ne ?_ ?_; exact rfl) | (refine br_te ?_ ?_; exact rfl) | (refine br_fe ?_ ?_; exact rfl) | (apply br_pyE; (exact rfl); omega) | (apply br_pnE; (exact rfl); omega) | (apply when_pyE; (exact rfl); omega) | (apply when_pnE; (exact rfl); omega) | (apply br_npyE; (exact rfl); omega) | (apply br_npnE; (exact rfl); omega) | (apply when_npyE; (exact rfl); omega) | (apply when_npnE; (exact rfl); omega) | (refine br_pyE ?_ hlt' ?_; exact rfl) | (refine br_pnE ?_ hlt' ?_; exact rfl) | (refine when_pyE ?_ hlt' ?_; exact rfl) | (refine when_pnE ?_ hlt' ?_; exact rfl) | (refine br_npyE ?_ hlt' ?_; exact rfl) | (refine br_npnE ?_ hlt' ?_; exact rfl) | (refine when_npyE ?_ hlt' ?_; exact rfl) | (refine when_npnE ?_ hlt' ?_; exact rfl) | (refine eq_yes ?_ ?_; (simp [eqC, eqOne])) | ((with_reducible show Ld _ _ _ _); first | (refine ldE0 h1 hx rfl ?_) | (refine ldEk h1 hx rfl ?_) | (refine ldE1 h1 hx rfl ?_) | (refine ldE0 h2 hx rfl ?_) | (refine ldEk h2 hx rfl ?_) | (refine ldE1 h2 hx rfl ?_)) | ((with_reducible show IxS _ _ _ _ _); first | ((refine ixE h1 hx ?_ ?_; (first | rfl | omega))) | ((refine ixE h2 hx ?_ ?_; (first | rfl | omega)))) | ((with_reducible show LdN _ _ _ _ _); first | (refine ldNEi h1 hx rfl ?_) | (refine ldNEi h2 hx rfl ?_)) | (refine ari ?_ ?_; omega) | (refine aru ?_ ?_; omega) | (apply sel; exact rfl) | (refine ix0 rfl ?_) | (refine ix1 rfl ?_) | (refine ix2 rfl ?_) | (refine ix3 rfl ?_) | (apply ixj; omega) | (refine ixn ?_ ?_; omega) | (refine ixs0 rfl ?_) | (refine ixs1 rfl ?_) | (refine ixs_j ?_ ?_; omega) | (refine ixs_n ?_ ?_; omega) | (apply ld_o; exact rfl) | (apply ldN_a; exact rfl) | (apply ldN_o; (exact rfl); exact rfl) | (apply st_o; (exact rfl); exact rfl) | (apply stN_o; (exact rfl); (exact rfl); exact rfl) | (refine new_i (fun bk hbk => ?_)) | (apply when_dE; (exact rfl); (exact rfl); all_goals intro hc) | (apply when_dF; (exact rfl); (exact rfl); all_goals intro hc) | (apply when_nE; (exact rfl); (exact rfl); all_goals intro hc) | (apply when_nF; (exact rfl); (exact rfl); all_goals intro hc) | (apply br_dE; (exact rfl); all_goals intro hc) | (apply br_nE; (exact rfl); all_goals intro hc) | (refine mm_min ?_) | (refine mm_max ?_) | (refine rem_i ?_ ?_; omega) | (refine SelN.mk ?_) | (refine cut_n ?_) | (refine Both.mk ?_ ?_) | (exact True.intro))
    exact ⟨i + 1, by omega, by omega, (by repeat' (first | exact True.intro | refine And.intro ?_ ?_ | exact rfl | exact vi (by omega) | (dsimp only; exact rfl) | (dsimp only; exact vi (by omega)))), (by first | exact ent_i | (repeat (first | exact Ent.refl | exact Ent.left | refine Ent.cons ?_ | refine Ent.app ?_)))⟩
  · have hlt' : ¬ (i : Int) < L.length := by omega
    repeat' ((try (conv => whnf)); first | (refine when_ye ?_ ?_; exact rfl) | (refine when_ne ?_ ?_; exact rfl) | (refine br_te ?_ ?_; exact rfl) | (refine br_fe ?_ ?_; exact rfl) | (apply br_pyE; (exact rfl); omega) | (apply br_pnE; (exact rfl); omega) | (apply when_pyE; (exact rfl); omega) | (apply when_pnE; (exact rfl); omega) | (apply br_npyE; (exact rfl); omega) | (apply br_npnE; (exact rfl); omega) | (apply when_npyE; (exact rfl); omega) | (apply when_npnE; (exact rfl); omega) | (refine br_pyE ?_ hlt' ?_; exact rfl) | (refine br_pnE ?_ hlt' ?_; exact rfl) | (refine when_pyE ?_ hlt' ?_; exact rfl) | (refine when_pnE ?_ hlt' ?_; exact rfl) | (refine br_npyE ?_ hlt' ?_; exact rfl) | (refine br_npnE ?_ hlt' ?_; exact rfl) | (refine when_npyE ?_ hlt' ?_; exact rfl) | (refine when_npnE ?_ hlt' ?_; exact rfl) | (refine ari ?_ ?_; omega) | (refine aru ?_ ?_; omega) | (apply sel; exact rfl) | (refine ix0 rfl ?_) | (refine ix1 rfl ?_) | (refine ix2 rfl ?_) | (refine ix3 rfl ?_) | (apply ixj; omega) | (refine ixn ?_ ?_; omega) | (refine ixs0 rfl ?_) | (refine ixs1 rfl ?_) | (refine ixs_j ?_ ?_; omega) | (refine ixs_n ?_ ?_; omega) | (apply ld_o; exact rfl) | (apply ldN_a; exact rfl) | (apply ldN_o; (exact rfl); exact rfl) | (apply st_o; (exact rfl); exact rfl) | (apply stN_o; (exact rfl); (exact rfl); exact rfl) | (refine new_i (fun bk hbk => ?_)) | (apply when_dE; (exact rfl); (exact rfl); all_goals intro hc) | (apply when_dF; (exact rfl); (exact rfl); all_goals intro hc) | (apply when_nE; (exact rfl); (exact rfl); all_goals intro hc) | (apply when_nF; (exact rfl); (exact rfl); all_goals intro hc) | (apply br_dE; (exact rfl); all_goals intro hc) | (apply br_nE; (exact rfl); all_goals intro hc) | (refine mm_min ?_) | (refine mm_max ?_) | (refine rem_i ?_ ?_; omega) | (refine SelN.mk ?_) | (refine cut_n ?_) | (refine Both.mk ?_ ?_) | (exact True.intro))
    exact ⟨rfl, (by first | exact ent_i | (repeat (first | exact Ent.refl | exact Ent.left | refine Ent.cons ?_ | refine Ent.app ?_)))⟩
end
end Go.Proofs.YtiimndcifcoofaaGreatDoor
namespace Go.Proofs.YtiimndcifcoofaaGreatDoor
open Go Go.RowKit
set_option maxRecDepth 10000
set_option maxHeartbeats 4000000
def goodC (c : UInt8) : Bool := decide (c ≠ 32 ∧ c ≠ 10 ∧ c ≠ 35 ∧ c ≠ 58)
theorem good_ne {c : UInt8} (h : goodC c = true) : c ≠ 32 ∧ c ≠ 10 ∧ c ≠ 35 ∧ c ≠ 58 := of_decide_eq_true h
theorem good_nm : ∀ n : Nat, n < 18 → (nmAt n).data.toList.all goodC = true := by decide +kernel
theorem good_name : ∀ n : Nat, n < 22 → (nameAt n).data.toList.all goodC = true := by decide +kernel
theorem good_regs : ∀ r : Nat, r < 8 → (regW r).all goodC = true := by decide +kernel
theorem good_dig {c : UInt8} (h : 48 ≤ c.toNat ∧ c.toNat ≤ 57) : goodC c = true := by
  refine decide_eq_true ⟨?_, ?_, ?_, ?_⟩ <;> (rintro rfl; revert h; decide)
theorem itoa_chars {n : Int} : ∀ c ∈ Go.Lib.itoa n, c = 45 ∨ (48 ≤ c.toNat ∧ c.toNat ≤ 57) := by
  intro c hc
  unfold Go.Lib.itoa at hc
  split at hc
  · rcases List.mem_cons.1 hc with rfl | hc
    · exact .inl rfl
    · exact .inr (dec_all _ c hc)
  · exact .inr (dec_all _ c hc)
theorem good_itoa {n : Int} : (Go.Lib.itoa n).all goodC = true := by
  refine List.all_eq_true.2 fun c hc => ?_
  rcases itoa_chars c hc with rfl | h
  · decide
  · exact good_dig h
def rngI (i : Ins) : Prop := icheck i = 0 ∧ -9223372036854775808 ≤ i.imm ∧ i.imm ≤ 9223372036854775807
theorem good_reg {r : Int} (h : 0 ≤ r ∧ r < 8) : (regW r).all goodC = true := by
  obtain ⟨n, rfl⟩ : ∃ n : Nat, r = n := ⟨r.toNat, by omega⟩
  exact good_regs n (by omega)
theorem good_fmt {i : Ins} (h : rngI i) : ∀ w ∈ fmtL i, w.all goodC = true := by
  obtain ⟨h0, h1, h2⟩ := h
  obtain ⟨ho, hA, hB, hC, hi⟩ := fmt_regs h0
  intro w hw
  rcases List.mem_cons.1 hw with rfl | hw
  · unfold headW
    by_cases h3 : i.op = 3
    · rw [if_pos h3]
      rw [h3] at hi
      have hi : 0 ≤ i.imm ∧ i.imm < 22 := hi
      exact good_name _ (by omega)
    · rw [if_neg h3]
      exact good_nm _ (by omega)
  · obtain ⟨k, hk, rfl⟩ := List.mem_map.1 hw
    have e : ((i.op.toNat : Nat) : Int) = i.op := by omega
    rcases op_use i.op.toNat (by omega) k hk with ⟨rfl, hu⟩ | ⟨rfl, hu⟩ | ⟨rfl, hu⟩ | rfl
    · rw [e] at hu; rw [hu] at hA
      exact good_reg hA
    · rw [e] at hu; rw [hu] at hB
      exact good_reg hB
    · rw [e] at hu; rw [hu] at hC
      exact good_reg hC
    · exact good_itoa
theorem lnm_facts : ∀ j : Nat, j < 65 → nameB (bW (lnmL j)) = true ∧ (lnmL j).all goodC = true := by decide +kernel
theorem lnm_inj {a b : Nat} (ha : a ≤ 64) (hb : b ≤ 64) (h : lnmL a = lnmL b) : a = b := by
  have h2 : Go.Lib.itoa ((a : Int) + 1) = Go.Lib.itoa ((b : Int) + 1) := by
    unfold lnmL at h
    simpa using h
  have e1 := rnum_itoa (n := (a : Int) + 1) (by omega) (by omega)
  have e2 := rnum_itoa (n := (b : Int) + 1) (by omega) (by omega)
  rw [h2, e2] at e1
  have := Option.some.inj e1
  omega
inductive Cmd
  | lab (j : Nat)
  | ins (i : Ins)
  | jmp (i : Ins) (j : Nat)
def Cmd.ws : Cmd → List (List UInt8)
  | .lab j => [lnmL j ++ [58]]
  | .ins i => fmtL i
  | .jmp i j => (fmtL i).dropLast ++ [lnmL j]
def Cmd.ok : Cmd → Prop
  | .lab j => j ≤ 64
  | .ins i => rngI i
  | .jmp i j => rngI i ∧ iskips i = true ∧ j ≤ 64
theorem fmt_form {i : Ins} (h : iskips i = true) : (i.op = 4 ∧ i.a = 0 ∧ i.b = 0 ∧ i.c = 0 ∧ fmtL i = [jumpW.data.toList, Go.Lib.itoa i.imm]) ∨
    ((0 ≤ i.a ∧ i.a < 8) ∧ i.b = 0 ∧ i.c = 0 ∧ ((i.op = 5 ∧ fmtL i = [zeroW.data.toList, regW i.a, Go.Lib.itoa i.imm]) ∨ (i.op = 6 ∧ fmtL i = [nonzW.data.toList, regW i.a, Go.Lib.itoa i.imm]))) := by
  unfold iskips at h
  obtain ⟨h0, ho⟩ := of_decide_eq_true h
  obtain ⟨_, hA, hB, hC, _⟩ := fmt_regs h0
  rcases ho with ho | ho | ho
  · rw [ho] at hA hB hC
    refine .inl ⟨ho, hA, hB, hC, ?_⟩
    unfold fmtL headW
    rw [ho]
    rfl
  · rw [ho] at hA hB hC
    refine .inr ⟨hA, hB, hC, .inl ⟨ho, ?_⟩⟩
    unfold fmtL headW
    rw [ho]
    rfl
  · rw [ho] at hA hB hC
    refine .inr ⟨hA, hB, hC, .inr ⟨ho, ?_⟩⟩
    unfold fmtL headW
    rw [ho]
    rfl
theorem ws_good {c : Cmd} (h : c.ok) : ∀ w ∈ c.ws, w ≠ [] ∧ ∀ x ∈ w, x ≠ 32 ∧ x ≠ 10 ∧ x ≠ 35 := by
  cases c with
  | lab j =>
    intro w hw
    rw [List.mem_singleton.1 hw]
    refine ⟨by simp, fun x hx => ?_⟩
    rcases List.mem_append.1 hx with hx | hx
    · have := good_ne (List.all_eq_true.1 (lnm_facts j (by have : j ≤ 64 := h; omega)).2 x hx)
      exact ⟨this.1, this.2.1, this.2.2.1⟩
    · rw [List.mem_singleton.1 hx]; decide
  | ins i =>
    intro w hw
    refine ⟨(fmt_words h.1 h.2.1 h.2.2 w hw).1, fun x hx => ?_⟩
    have := good_ne (List.all_eq_true.1 (good_fmt h w hw) x hx)
    exact ⟨this.1, this.2.1, this.2.2.1⟩
  | jmp i j =>
    obtain ⟨hr, _, hj⟩ := h
    intro w hw
    rcases List.mem_append.1 hw with hw | hw
    · have hw := List.dropLast_subset _ hw
      refine ⟨(fmt_words hr.1 hr.2.1 hr.2.2 w hw).1, fun x hx => ?_⟩
      have := good_ne (List.all_eq_true.1 (good_fmt hr w hw) x hx)
      exact ⟨this.1, this.2.1, this.2.2.1⟩
    · rw [List.mem_singleton.1 hw]
      refine ⟨by simp [lnmL], fun x hx => ?_⟩
      have := good_ne (List.all_eq_true.1 (lnm_facts j (by omega)).2 x hx)
      exact ⟨this.1, this.2.1, this.2.2.1⟩
def LineOf (s : ByteArray) (c : Cmd) : Prop := wordsM (bareS s) = c.ws.map bW ∧ (bareS s).size ≤ 200
theorem jmpM_head {w0 : ByteArray} {r : List ByteArray} {x : Ins × ByteArray} (h : jmpM (w0 :: r) = some x) : w0 = jumpW ∨ w0 = zeroW ∨ w0 = nonzW := by
  match r, h with
  | [n], h =>
    simp only [jmpM] at h
    split at h
    · rename_i hc; exact .inl (ba_toList hc.1)
    · cases h
  | [r, n], h =>
    simp only [jmpM] at h
    split at h
    · rename_i hc
      rcases hc.1 with h1 | h1
      · exact .inr (.inl (ba_toList h1))
      · exact .inr (.inr (ba_toList h1))
    · cases h
theorem nm_other : ∀ n : Nat, n < 18 → (n ≠ 4 ∧ n ≠ 5 ∧ n ≠ 6) → (nmAt n).data.toList ≠ jumpW.data.toList ∧ (nmAt n).data.toList ≠ zeroW.data.toList ∧ (nmAt n).data.toList ≠ nonzW.data.toList := by decide +kernel
theorem name_other : ∀ n : Nat, n < 22 → (nameAt n).data.toList ≠ jumpW.data.toList ∧ (nameAt n).data.toList ≠ zeroW.data.toList ∧ (nameAt n).data.toList ≠ nonzW.data.toList := by decide +kernel
theorem itoa_noname {n : Int} : nameB (bW (Go.Lib.itoa n)) = false := by
  unfold nameB
  rw [bW_data]
  cases hi : Go.Lib.itoa n with
  | nil => rfl
  | cons c r =>
    have hc : letB c = false := by
      refine decide_eq_false fun h => ?_
      rcases itoa_chars c (by rw [hi]; exact List.mem_cons_self) with rfl | h2
      · revert h; decide
      · omega
    simp [hc]
theorem fmt_nojmp {i : Ins} (h : rngI i) : jmpM ((fmtL i).map bW) = none := by
  cases hj : jmpM ((fmtL i).map bW) with
  | none => rfl
  | some x =>
    exfalso
    obtain ⟨h0, h1, h2⟩ := h
    obtain ⟨ho, _, _, _, hi⟩ := fmt_regs h0
    by_cases hs : i.op = 4 ∨ i.op = 5 ∨ i.op = 6
    · have hk : iskips i = true := decide_eq_true ⟨h0, hs⟩
      obtain ⟨_, hn, _⟩ := jmp_parse (i := x.1) (n := x.2) hj
      have hl := (jmp_parse (i := x.1) (n := x.2) hj).1
      have : x.2 = bW (Go.Lib.itoa i.imm) := by
        rcases fmt_form hk with ⟨_, _, _, _, e⟩ | ⟨_, _, _, ⟨_, e⟩ | ⟨_, e⟩⟩ <;> (rw [e] at hl; simpa using hl.symm)
      rw [this, itoa_noname] at hn
      cases hn
    · have hh := jmpM_head (w0 := bW (headW i)) (r := ((opAt i.op.toNat).data.toList.map (opdW i)).map bW) hj
      have hd : headW i ≠ jumpW.data.toList ∧ headW i ≠ zeroW.data.toList ∧ headW i ≠ nonzW.data.toList := by
        unfold headW
        by_cases h3 : i.op = 3
        · rw [if_pos h3]
          rw [h3] at hi
          have hi : 0 ≤ i.imm ∧ i.imm < 22 := hi
          exact name_other _ (by omega)
        · rw [if_neg h3]
          exact nm_other _ (by omega) ⟨by omega, by omega, by omega⟩
      rcases hh with e | e | e
      · exact hd.1 (by rw [← e, bW_data])
      · exact hd.2.1 (by rw [← e, bW_data])
      · exact hd.2.2 (by rw [← e, bW_data])
theorem fmt_nolbl {i : Ins} (h : rngI i) : lblM ((fmtL i).map bW) = none := by
  unfold lblM
  split
  · rename_i w hw
    have hm : ∃ l ∈ fmtL i, w = bW l := by
      have : w ∈ (fmtL i).map bW := by rw [hw]; exact List.mem_cons_self
      obtain ⟨l, hl, e⟩ := List.mem_map.1 this
      exact ⟨l, hl, e.symm⟩
    obtain ⟨l, hl, rfl⟩ := hm
    rw [if_neg]
    rintro ⟨h58, _⟩
    rw [bW_data] at h58
    have := List.mem_of_getLast? h58
    exact (good_ne (List.all_eq_true.1 (good_fmt h l hl) 58 this)).2.2.2 rfl
  · rfl
theorem jw1 {n : ByteArray} (hn : nameB n = true) : jmpM [jumpW, n] = some (⟨4, 0, 0, 0, 0⟩, n) := if_pos ⟨rfl, hn⟩
theorem jw2 {r n : ByteArray} {a : Int} (hr : regM r = (a, true)) (hn : nameB n = true) : jmpM [zeroW, r, n] = some (⟨5, a, 0, 0, 0⟩, n) := by
  have : jmpM [zeroW, r, n] = some (⟨if zeroW.toList = nonzW.toList then 6 else 5, (regM r).1, 0, 0, 0⟩, n) := if_pos ⟨.inl rfl, by rw [hr], hn⟩
  rw [this, hr, if_neg (by decide +kernel)]
theorem jw3 {r n : ByteArray} {a : Int} (hr : regM r = (a, true)) (hn : nameB n = true) : jmpM [nonzW, r, n] = some (⟨6, a, 0, 0, 0⟩, n) := by
  have : jmpM [nonzW, r, n] = some (⟨if nonzW.toList = nonzW.toList then 6 else 5, (regM r).1, 0, 0, 0⟩, n) := if_pos ⟨.inr rfl, by rw [hr], hn⟩
  rw [this, hr, if_pos rfl]
theorem jmp_words {i : Ins} {j : Nat} (h : (Cmd.jmp i j).ok) : jmpM ((Cmd.jmp i j).ws.map bW) = some (⟨i.op, i.a, 0, 0, 0⟩, bW (lnmL j)) ∧ lblM ((Cmd.jmp i j).ws.map bW) = none := by
  obtain ⟨hr, hs, hj⟩ := h
  have hn := (lnm_facts j (by omega)).1
  simp only [Cmd.ws]
  rcases fmt_form hs with ⟨h4, ha, _, _, e⟩ | ⟨ha, _, _, ⟨h5, e⟩ | ⟨h6, e⟩⟩
  · rw [e]
    refine ⟨?_, rfl⟩
    show jmpM [bW jumpW.data.toList, bW (lnmL j)] = _
    rw [bW_self, jw1 hn, h4, ha]
  · rw [e]
    refine ⟨?_, rfl⟩
    show jmpM [bW zeroW.data.toList, bW (regW i.a), bW (lnmL j)] = _
    have hg : regM (bW (regW i.a)) = (i.a, true) := reg_fmt' ha
    rw [bW_self, jw2 hg hn, h5]
  · rw [e]
    refine ⟨?_, rfl⟩
    show jmpM [bW nonzW.data.toList, bW (regW i.a), bW (lnmL j)] = _
    have hg : regM (bW (regW i.a)) = (i.a, true) := reg_fmt' ha
    rw [bW_self, jw3 hg hn, h6]
def stepC (σ : AS) (ln : Int) : Cmd → Int × AS
  | .lab j => lblS σ (bW (lnmL j))
  | .ins i => pushS σ i noB ln
  | .jmp i j => pushS σ ⟨i.op, i.a, 0, 0, 0⟩ (bW (lnmL j)) ln
theorem step_cmd {σ : AS} {s : ByteArray} {ln : Int} {c : Cmd} (hc : c.ok) (h : LineOf s c) : stepS σ s ln = stepC σ ln c := by
  obtain ⟨hw, hz⟩ := h
  have hne : ¬ wordsM (bareS s) = [] := by
    rw [hw]
    cases c with
    | lab j => simp [Cmd.ws]
    | ins i => simp [Cmd.ws, fmtL]
    | jmp i j => simp [Cmd.ws]
  unfold stepS
  rw [if_neg hne, hw]
  cases c with
  | lab j =>
    have hn := (lnm_facts j (by have : j ≤ 64 := hc; omega)).1
    have : lblM ((Cmd.lab j).ws.map bW) = some (bW (lnmL j)) := by
      simp only [Cmd.ws, List.map_cons, List.map_nil, lblM, bW_data]
      rw [if_pos ⟨by simp, by simpa using hn⟩]
      simp
    rw [this]
    rfl
  | ins i =>
    have h1 := fmt_nolbl hc
    have h2 := fmt_nojmp hc
    have hp : parseM (bareS s) = (i, 0) := fmt_parse hc.1 hc.2.1 hc.2.2 hz (by
      rw [← words_wl, hw]
      simp only [Cmd.ws, List.map_map]
      have : ((fun x : ByteArray => x.data.toList) ∘ bW) = id := by funext x; exact bW_data x
      rw [this, List.map_id])
    simp only [Cmd.ws] at hw ⊢
    rw [h1]
    simp only
    unfold jmpS
    rw [hw, h2]
    simp only
    unfold insS
    rw [hp, if_pos rfl]
    rfl
  | jmp i j =>
    obtain ⟨h1, h2⟩ := jmp_words hc
    rw [h2]
    simp only
    unfold jmpS
    rw [hw, h1]
    rfl
end Go.Proofs.YtiimndcifcoofaaGreatDoor
