/- What the laws share, part 26. No condition. -/
import Derived.Lib.ItoaLen
import Derived.Test.YtiimndcifcoofaaGreatDoorY25
namespace Go.Proofs.YtiimndcifcoofaaGreatDoor
open Go Go.RowKit
set_option maxRecDepth 10000
set_option maxHeartbeats 4000000
def regW (r : Int) : List UInt8 := 114 :: Go.Lib.itoa r
def opdW (i : Ins) (k : UInt8) : List UInt8 := if (k.toNat : Int) = 65 then regW i.a else if (k.toNat : Int) = 66 then regW i.b else if (k.toNat : Int) = 67 then regW i.c else Go.Lib.itoa i.imm
def headW (i : Ins) : List UInt8 := if i.op = 3 then (nameAt i.imm.toNat).data.toList else (nmAt i.op.toNat).data.toList
def fmtL (i : Ins) : List (List UInt8) := headW i :: (opAt i.op.toNat).data.toList.map (opdW i)
def fmtB (i : Ins) : ByteArray := ⟨(Go.Lib.join (fmtL i) [32]).toArray⟩
def fmtM (i : Ins) : ByteArray × Int := if icheck i = 0 then (fmtB i, 0) else (⟨#[]⟩, icheck i)
theorem ba_mk (s : ByteArray) : (⟨s.data.toList.toArray⟩ : ByteArray) = s := ba_ext (by simp)
theorem fmt_regs {i : Ins} (h : icheck i = 0) : (0 ≤ i.op ∧ i.op < 18) ∧ regOk (useA i.op) i.a ∧ regOk (useB i.op) i.b ∧ regOk (useC i.op) i.c ∧ immOk i.op i.imm := by
  unfold icheck at h
  split at h
  · omega
  · split at h
    · rename_i h3
      split at h
      · rename_i h4
        exact ⟨by omega, h3.1, h3.2.1, h3.2.2, h4⟩
      · omega
    · omega
theorem word_imm {c : UInt8} {s : List UInt8} (h : s.all (fun x => decide (x ≠ 32)) = true) (hc : c ∈ s) : c ≠ 32 := by
  simpa using List.all_eq_true.1 h c hc
theorem nm_words : ∀ n : Nat, n < 18 → n ≠ 3 → (nmAt n).data.toList ≠ [] ∧ (nmAt n).data.toList.all (fun x => decide (x ≠ 32)) = true ∧ (nmAt n).data.toList.length ≤ 21 := by decide +kernel
theorem name_words : ∀ n : Nat, n < 22 → (nameAt n).data.toList ≠ [] ∧ (nameAt n).data.toList.all (fun x => decide (x ≠ 32)) = true ∧ (nameAt n).data.toList.length ≤ 21 := by decide +kernel
theorem regs_words : ∀ r : Nat, r < 8 → regW r ≠ [] ∧ (regW r).all (fun x => decide (x ≠ 32)) = true ∧ (regW r).length ≤ 21 := by decide +kernel
theorem head_words {i : Ins} (h : icheck i = 0) : headW i ≠ [] ∧ (∀ c ∈ headW i, c ≠ 32) ∧ (headW i).length ≤ 21 := by
  obtain ⟨ho, _, _, _, hi⟩ := fmt_regs h
  unfold headW
  by_cases h3 : i.op = 3
  · rw [if_pos h3]
    rw [h3] at hi
    have hi : 0 ≤ i.imm ∧ i.imm < 22 := hi
    obtain ⟨h1, h2, h4⟩ := name_words i.imm.toNat (by omega)
    exact ⟨h1, fun c hc => word_imm h2 hc, h4⟩
  · rw [if_neg h3]
    obtain ⟨h1, h2, h4⟩ := nm_words i.op.toNat (by omega) (by omega)
    exact ⟨h1, fun c hc => word_imm h2 hc, h4⟩
theorem itoa_words {n : Int} (h1 : -9223372036854775808 ≤ n) (h2 : n ≤ 9223372036854775807) : Go.Lib.itoa n ≠ [] ∧ (∀ c ∈ Go.Lib.itoa n, c ≠ 32) ∧ (Go.Lib.itoa n).length ≤ 21 := ⟨itoa_ne, itoa_sp, Go.Lib.itoa_length_le n h1 h2⟩
theorem reg_words {r : Int} (h : 0 ≤ r ∧ r < 8) : regW r ≠ [] ∧ (∀ c ∈ regW r, c ≠ 32) ∧ (regW r).length ≤ 21 := by
  obtain ⟨n, rfl⟩ : ∃ n : Nat, r = n := ⟨r.toNat, by omega⟩
  obtain ⟨h1, h2, h4⟩ := regs_words n (by omega)
  exact ⟨h1, fun c hc => word_imm h2 hc, h4⟩
theorem op_use : ∀ n : Nat, n < 18 → ∀ k ∈ (opAt n).data.toList, (k = 65 ∧ useA n = true) ∨ (k = 66 ∧ useB n = true) ∨ (k = 67 ∧ useC n = true) ∨ k = 73 := by decide +kernel
theorem opd_words {i : Ins} (h : icheck i = 0) (h1 : -9223372036854775808 ≤ i.imm) (h2 : i.imm ≤ 9223372036854775807) {k : UInt8} (hk : k ∈ (opAt i.op.toNat).data.toList) : opdW i k ≠ [] ∧ (∀ c ∈ opdW i k, c ≠ 32) ∧ (opdW i k).length ≤ 21 := by
  obtain ⟨ho, hA, hB, hC, hi⟩ := fmt_regs h
  have e : ((i.op.toNat : Nat) : Int) = i.op := by omega
  rcases op_use i.op.toNat (by omega) k hk with ⟨rfl, hu⟩ | ⟨rfl, hu⟩ | ⟨rfl, hu⟩ | rfl
  · rw [e] at hu; rw [hu] at hA
    exact reg_words hA
  · rw [e] at hu; rw [hu] at hB
    exact reg_words hB
  · rw [e] at hu; rw [hu] at hC
    exact reg_words hC
  · exact itoa_words h1 h2
theorem fmt_words {i : Ins} (h : icheck i = 0) (h1 : -9223372036854775808 ≤ i.imm) (h2 : i.imm ≤ 9223372036854775807) : ∀ w ∈ fmtL i, w ≠ [] ∧ (∀ c ∈ w, c ≠ 32) ∧ w.length ≤ 21 := by
  intro w hw
  rcases List.mem_cons.1 hw with rfl | hw
  · exact head_words h
  · obtain ⟨k, hk, rfl⟩ := List.mem_map.1 hw
    exact opd_words h h1 h2 hk
theorem join_len : ∀ ws : List (List UInt8), (∀ w ∈ ws, w.length ≤ 21) → (Go.Lib.join ws [32]).length ≤ 22 * ws.length
  | [], _ => by simp [Go.Lib.join]
  | [w], h => by
    have := h w List.mem_cons_self
    have e : Go.Lib.join [w] [32] = w := by simp [Go.Lib.join, List.intercalate]
    rw [e]; simp; omega
  | w :: w2 :: r, h => by
    have := h w List.mem_cons_self
    have ih := join_len (w2 :: r) fun x hx => h x (List.mem_cons_of_mem _ hx)
    have e : Go.Lib.join (w :: w2 :: r) [32] = w ++ 32 :: Go.Lib.join (w2 :: r) [32] := by simp [Go.Lib.join, List.intercalate, List.intersperse]
    rw [e]
    simp only [List.length_append, List.length_cons] at *
    omega
theorem op_len : ∀ n : Nat, (opAt n).data.toList.length ≤ 3 := fun n => by
  by_cases h : n < 18
  · exact (by decide +kernel : ∀ n : Nat, n < 18 → (opAt n).data.toList.length ≤ 3) n h
  · have : opAt n = ⟨#[]⟩ := by unfold opAt; rw [List.getD_eq_getElem?_getD, List.getElem?_eq_none (by show 18 ≤ n; omega)]; rfl
    rw [this]; simp
theorem fmt_len (i : Ins) : (fmtL i).length ≤ 4 := by
  have := op_len i.op.toNat
  unfold fmtL
  simp only [List.length_cons, List.length_map]
  omega
theorem fmt_size {i : Ins} (h : icheck i = 0) (h1 : -9223372036854775808 ≤ i.imm) (h2 : i.imm ≤ 9223372036854775807) : (fmtB i).size ≤ 88 := by
  have a := join_len (fmtL i) fun w hw => (fmt_words h h1 h2 w hw).2.2
  have b := fmt_len i
  have c : (fmtB i).size = (Go.Lib.join (fmtL i) [32]).length := by
    unfold fmtB; simp [ByteArray.size]
  omega
end Go.Proofs.YtiimndcifcoofaaGreatDoor
namespace Go.Proofs.YtiimndcifcoofaaGreatDoor
open Go Go.RowKit
set_option maxRecDepth 10000
set_option maxHeartbeats 4000000
def bW (l : List UInt8) : ByteArray := ⟨l.toArray⟩
theorem bW_size (l : List UInt8) : (bW l).size = l.length := by simp [bW, ByteArray.size]
theorem bW_reg (r : Int) : (⟨#[114]⟩ : ByteArray) ++ bW (Go.Lib.itoa r) = bW (regW r) := ba_ext (by simp [bW, regW, ByteArray.data_append])
def fmtK (i : Ins) (k : Nat) : List ByteArray := bW (headW i) :: ((opAt i.op.toNat).data.toList.take k).map (fun c => bW (opdW i c))
theorem fmtK_len {i : Ins} {k : Nat} (h : k ≤ (opAt i.op.toNat).data.toList.length) : (fmtK i k).length = k + 1 := by
  simp only [fmtK, List.length_cons, List.length_map, List.length_take]
  omega
theorem fmtK_succ {i : Ins} {k : Nat} {c : UInt8} (h : (opAt i.op.toNat).data.toList[k]? = some c) : fmtK i (k + 1) = fmtK i k ++ [bW (opdW i c)] := by
  simp only [fmtK, List.take_add_one, h, List.map_append, Option.toList, List.map_cons, List.map_nil, List.cons_append]
theorem fmtK_all (i : Ins) : (fmtK i (opAt i.op.toNat).size).map (fun x => x.data.toList) = fmtL i := by
  have hl : (opAt i.op.toNat).data.toList.length = (opAt i.op.toNat).size := by simp
  simp only [fmtK, ← hl, List.take_length, fmtL, List.map_cons, List.map_map, bW]
  rfl
theorem dec_op : ∀ n : Nat, n < 18 → ∀ k : Nat, k < (opAt n).data.toList.length → Utf8.decode (opAt n) k = (((opAt n).data.toList.getD k 0).toNat, 1) := by decide +kernel
section
variable {W0 : World} {own : Own}
theorem sp_Format (hA : IsaAt W0) (i : Ins) (h1 : -9223372036854775808 ≤ i.imm) (h2 : i.imm ≤ 9223372036854775807) : Pure Tryz.prog W0 11 [i.v] own (.tuple #[.string (fmtM i).1, .int .i64 (fmtM i).2]) := by
  refine pure_of (spec_of mixed low_isa_Format (by simp [ir_isa_Format]) ?_)
  have hF := hA.forms
  have hch := fun own => sp_icheck W0 own hF i
  unfold fmtM
  by_cases h0 : icheck i = 0
  · rw [if_pos h0]
    rw [h0] at hch
    obtain ⟨ho, rA, rB, rC, hi⟩ := fmt_regs h0
    have hwl : ∀ k, (fmtK i k).length ≤ 5 := fun k => by
      have := op_len i.op.toNat
      simp only [fmtK, List.length_cons, List.length_map, List.length_take]
      omega
    have hfs := fmt_words h0 h1 h2
    have hjl := join_len (fmtL i) fun w hw => (hfs w hw).2.2
    have hfl := fmt_len i
    have hall := fmtK_all i
    have hsu := fun k c => fmtK_succ (i := i) (k := k) (c := c)
    have hkl := fun k => fmtK_len (i := i) (k := k)
    have hk0 : fmtK i 0 = [bW (headW i)] := rfl
    have hop := fun c => op_use i.op.toNat (by omega) c
    have hdec := dec_op i.op.toNat (by omega)
    have hnm := fun own => sp_name W0 own hA.names i.imm
    have hfm : (formsV.drop (0 + i.op.toNat * 2)).take 2 = [.string (nmAt i.op.toNat), .string (opAt i.op.toNat)] := by rw [Nat.zero_add]; exact forms_at (by omega)
    have hb : fmtB i = bW (Go.Lib.join (fmtL i) [32]) := rfl
    have hh3 : i.op = 3 → headW i = (nameAt i.imm.toNat).data.toList ∧ nameM i.imm = nameAt i.imm.toNat := fun e => by
      rw [e] at hi
      have hi : 0 ≤ i.imm ∧ i.imm < 22 := hi
      refine ⟨by unfold headW; rw [if_pos e], by unfold nameM; rw [if_pos hi]⟩
    have hhn : i.op ≠ 3 → headW i = (nmAt i.op.toNat).data.toList := fun e => by unfold headW; rw [if_neg e]
    have hix : ∀ own, (0 ≤ i.a ∧ i.a < 8) → Pure Tryz.prog W0 36 [.int .i64 i.a] own (.string (bW (Go.Lib.itoa i.a))) := fun own h => sp_itoa (own := own) hA.lib (by omega) (by omega)
    have hiy : ∀ own, (0 ≤ i.b ∧ i.b < 8) → Pure Tryz.prog W0 36 [.int .i64 i.b] own (.string (bW (Go.Lib.itoa i.b))) := fun own h => sp_itoa (own := own) hA.lib (by omega) (by omega)
    have hiz : ∀ own, (0 ≤ i.c ∧ i.c < 8) → Pure Tryz.prog W0 36 [.int .i64 i.c] own (.string (bW (Go.Lib.itoa i.c))) := fun own h => sp_itoa (own := own) hA.lib (by omega) (by omega)
    have him : ∀ own, Pure Tryz.prog W0 36 [.int .i64 i.imm] own (.string (bW (Go.Lib.itoa i.imm))) := fun own => sp_itoa (own := own) hA.lib h1 h2
    have hsa : (0 ≤ i.a ∧ i.a < 8) → (bW (Go.Lib.itoa i.a)).size ≤ 21 := fun h => by rw [bW_size]; exact Go.Lib.itoa_length_le _ (by omega) (by omega)
    have hsb : (0 ≤ i.b ∧ i.b < 8) → (bW (Go.Lib.itoa i.b)).size ≤ 21 := fun h => by rw [bW_size]; exact Go.Lib.itoa_length_le _ (by omega) (by omega)
    have hsc : (0 ≤ i.c ∧ i.c < 8) → (bW (Go.Lib.itoa i.c)).size ≤ 21 := fun h => by rw [bW_size]; exact Go.Lib.itoa_length_le _ (by omega) (by omega)
    have hs1 : (⟨#[114]⟩ : ByteArray).size = 1 := rfl
    have oA : opdW i 65 = regW i.a := rfl
    have oB : opdW i 66 = regW i.b := rfl
    have oC : opdW i 67 = regW i.c := rfl
    have oI : opdW i 73 = Go.Lib.itoa i.imm := rfl
    have eop : ((i.op.toNat : Nat) : Int) = i.op := by omega
    rw [← eop] at rA rB rC
    obtain ⟨op, a, b, c, m⟩ := i
    dsimp only at *
    obtain ⟨n, rfl⟩ : ∃ n : Nat, op = n := ⟨op.toNat, by omega⟩
    have en : ((n : Nat) : Int).toNat = n := by omega
    simp only [en] at *
    have hol : (opAt n).data.toList.length = (opAt n).size := by simp
    rw [hb, ← hall]
    have hjl' : (Go.Lib.join ((fmtK ⟨n, a, b, c, m⟩ (opAt n).size).map (fun x => x.data.toList)) (⟨#[32]⟩ : ByteArray).data.toList).length ≤ 140737488355328 := by
      rw [hall]
      show (Go.Lib.join (fmtL ⟨n, a, b, c, m⟩) [32]).length ≤ _
      omega
    by_cases h3 : (n : Int) = 3
    · obtain ⟨q1, q2⟩ := hh3 h3
      rw [q2] at hnm
      have q3 : nameAt m.toNat = bW (headW ⟨n, a, b, c, m⟩) := by rw [q1]; exact (ba_mk _).symm
      rw [q3] at hnm
      generalize bW (headW ⟨n, a, b, c, m⟩) = w0 at *
      repeat' ((try (conv => whnf)); first | (refine when_ye ?_ ?_; exact rfl) | (refine when_ne ?_ ?_; exact rfl) | (refine br_te ?_ ?_; exact rfl) | (refine br_fe ?_ ?_; exact rfl) | (apply br_pyE; (exact rfl); omega) | (apply br_pnE; (exact rfl); omega) | (apply when_pyE; (exact rfl); omega) | (apply when_pnE; (exact rfl); omega) | (apply br_npyE; (exact rfl); omega) | (apply br_npnE; (exact rfl); omega) | (apply when_npyE; (exact rfl); omega) | (apply when_npnE; (exact rfl); omega) | (refine ldN_laid hF _ hfm rfl ?_) | ((with_reducible show CallT _ _ _ _ _ _); first | ((refine call_pe (hch _) ?_ ?_ ?_; (exact rfl); exact rfl)) | ((refine call_pe (hnm _) ?_ ?_ ?_; (exact rfl); exact rfl))) | (refine ari ?_ ?_; omega) | (refine aru ?_ ?_; omega) | (apply sel; exact rfl) | (refine ix0 rfl ?_) | (refine ix1 rfl ?_) | (refine ix2 rfl ?_) | (refine ix3 rfl ?_) | (apply ixj; omega) | (refine ixn ?_ ?_; omega) | (refine ixs0 rfl ?_) | (refine ixs1 rfl ?_) | (refine ixs_j ?_ ?_; omega) | (refine ixs_n ?_ ?_; omega) | (apply ld_o; exact rfl) | (apply ldN_a; exact rfl) | (apply ldN_o; (exact rfl); exact rfl) | (apply st_o; (exact rfl); exact rfl) | (apply stN_o; (exact rfl); (exact rfl); exact rfl) | (refine new_i (fun bk hbk => ?_)) | (apply when_dE; (exact rfl); (exact rfl); all_goals intro hc) | (apply when_dF; (exact rfl); (exact rfl); all_goals intro hc) | (apply when_nE; (exact rfl); (exact rfl); all_goals intro hc) | (apply when_nF; (exact rfl); (exact rfl); all_goals intro hc) | (apply br_dE; (exact rfl); all_goals intro hc) | (apply br_nE; (exact rfl); all_goals intro hc) | (refine mm_min ?_) | (refine mm_max ?_) | (refine rem_i ?_ ?_; omega) | (refine SelN.mk ?_) | (refine cut_n ?_) | (refine Both.mk ?_ ?_) | (exact True.intro))
      rename_i bx hbx bf hbf bw hbw
      refine loop_i (σ := Nat × Option Addr × Nat × Own) (fun x => [(6, .slice x.2.1 (fmtK ⟨n, a, b, c, m⟩ x.1).length x.2.2.1)]) (fun x => (bk, fun o => o = Obj.stringIter (opAt n) x.1) :: (x.2.2.2 ++ _)) (fun x => x.1 ≤ (opAt n).size ∧ BufE encS 9 1 x.2.1 x.2.2.1 (fmtK ⟨n, a, b, c, m⟩ x.1) x.2.2.2) (fun x => (opAt n).size - x.1) (0, some ⟨bw, 0, none⟩, 1, [(bw, fun o => o = Obj.cells #[.string w0] 9)]) ⟨Nat.zero_le _, by dsimp only; rw [hk0]; exact can_buf (l := [w0]) (fun _ _ => rfl)⟩ (by repeat' (first | exact True.intro | refine And.intro ?_ ?_ | exact rfl | exact vi (by omega) | (dsimp only; exact rfl) | (dsimp only; exact vi (by omega)))) Ent.refl rfl ?_
      rintro ⟨k, a1, cap, D⟩ junk ⟨hk, hB⟩
      dsimp only at hk hB ⊢
      by_cases hlt : k < (opAt n).size
      · obtain ⟨x, hx⟩ : ∃ x, (opAt n).data.toList[k]? = some x := ⟨_, List.getElem?_eq_getElem (by omega)⟩
        have hd := hdec k (by omega)
        have hg : (opAt n).data.toList.getD k 0 = x := by rw [List.getD_eq_getElem?_getD, hx]; rfl
        rw [hg] at hd
        have hsu' := hsu k x hx
        have hwk := hwl k
        have hox := hop x (List.mem_of_getElem? hx)
        clear hdec hop hsu hall
        rcases hox with ⟨rfl, hu⟩ | ⟨rfl, hu⟩ | ⟨rfl, hu⟩ | rfl
        · rw [hu] at rA
          have hi1 := fun own => hix own rA
          have hi2 := hsa rA
          rw [oA, ← bW_reg] at hsu'
          repeat' ((try (conv => whnf)); first | (refine when_ye ?_ ?_; exact rfl) | (refine when_ne ?_ ?_; exact rfl) | (refine br_te ?_ ?_; exact rfl) | (refine br_fe ?_ ?_; exact rfl) | (apply br_pyE; (exact rfl); omega) | (apply br_pnE; (exact rfl); omega) | (apply when_pyE; (exact rfl); omega) | (apply when_pnE; (exact rfl); omega) | (apply br_npyE; (exact rfl); omega) | (apply br_npnE; (exact rfl); omega) | (apply when_npyE; (exact rfl); omega) | (apply when_npnE; (exact rfl); omega) | (refine next_y hlt hd ?_) | (refine SctT.mk ⟨?_, ?_⟩; (omega)) | (apply app_i (enc := encS) (⟨#[114]⟩ ++ bW (Go.Lib.itoa a)) hB; (exact rfl); (exact rfl); (omega); (exact rfl); (exact rfl); (omega); intro a2 c2 D2 hb2) | ((with_reducible show CallT _ _ _ _ _ _); first | ((refine call_pe (hi1 _) ?_ ?_ ?_; (exact rfl); exact rfl))) | (refine ari ?_ ?_; omega) | (refine aru ?_ ?_; omega) | (apply sel; exact rfl) | (refine ix0 rfl ?_) | (refine ix1 rfl ?_) | (refine ix2 rfl ?_) | (refine ix3 rfl ?_) | (apply ixj; omega) | (refine ixn ?_ ?_; omega) | (refine ixs0 rfl ?_) | (refine ixs1 rfl ?_) | (refine ixs_j ?_ ?_; omega) | (refine ixs_n ?_ ?_; omega) | (apply ld_o; exact rfl) | (apply ldN_a; exact rfl) | (apply ldN_o; (exact rfl); exact rfl) | (apply st_o; (exact rfl); exact rfl) | (apply stN_o; (exact rfl); (exact rfl); exact rfl) | (refine new_i (fun bk hbk => ?_)) | (apply when_dE; (exact rfl); (exact rfl); all_goals intro hc) | (apply when_dF; (exact rfl); (exact rfl); all_goals intro hc) | (apply when_nE; (exact rfl); (exact rfl); all_goals intro hc) | (apply when_nF; (exact rfl); (exact rfl); all_goals intro hc) | (apply br_dE; (exact rfl); all_goals intro hc) | (apply br_nE; (exact rfl); all_goals intro hc) | (refine mm_min ?_) | (refine mm_max ?_) | (refine rem_i ?_ ?_; omega) | (refine SelN.mk ?_) | (refine cut_n ?_) | (refine Both.mk ?_ ?_) | (exact True.intro))
          refine ⟨(k + 1, a2, c2, D2), ⟨by dsimp only; omega, by dsimp only; rw [hsu']; exact hb2⟩, by dsimp only; omega, ?_, (by first | exact ent_i | (repeat (first | exact Ent.refl | exact Ent.left | refine Ent.cons ?_ | refine Ent.app ?_)))⟩
          dsimp only
          rw [hsu', List.length_append]
          exact (by repeat' (first | exact True.intro | refine And.intro ?_ ?_ | exact rfl | exact vi (by omega) | (dsimp only; exact rfl) | (dsimp only; exact vi (by omega))))
        · rw [hu] at rB
          have hi1 := fun own => hiy own rB
          have hi2 := hsb rB
          rw [oB, ← bW_reg] at hsu'
          repeat' ((try (conv => whnf)); first | (refine when_ye ?_ ?_; exact rfl) | (refine when_ne ?_ ?_; exact rfl) | (refine br_te ?_ ?_; exact rfl) | (refine br_fe ?_ ?_; exact rfl) | (apply br_pyE; (exact rfl); omega) | (apply br_pnE; (exact rfl); omega) | (apply when_pyE; (exact rfl); omega) | (apply when_pnE; (exact rfl); omega) | (apply br_npyE; (exact rfl); omega) | (apply br_npnE; (exact rfl); omega) | (apply when_npyE; (exact rfl); omega) | (apply when_npnE; (exact rfl); omega) | (refine next_y hlt hd ?_) | (refine SctT.mk ⟨?_, ?_⟩; (omega)) | (apply app_i (enc := encS) (⟨#[114]⟩ ++ bW (Go.Lib.itoa b)) hB; (exact rfl); (exact rfl); (omega); (exact rfl); (exact rfl); (omega); intro a2 c2 D2 hb2) | ((with_reducible show CallT _ _ _ _ _ _); first | ((refine call_pe (hi1 _) ?_ ?_ ?_; (exact rfl); exact rfl))) | (refine ari ?_ ?_; omega) | (refine aru ?_ ?_; omega) | (apply sel; exact rfl) | (refine ix0 rfl ?_) | (refine ix1 rfl ?_) | (refine ix2 rfl ?_) | (refine ix3 rfl ?_) | (apply ixj; omega) | (refine ixn ?_ ?_; omega) | (refine ixs0 rfl ?_) | (refine ixs1 rfl ?_) | (refine ixs_j ?_ ?_; omega) | (refine ixs_n ?_ ?_; omega) | (apply ld_o; exact rfl) | (apply ldN_a; exact rfl) | (apply ldN_o; (exact rfl); exact rfl) | (apply st_o; (exact rfl); exact rfl) | (apply stN_o; (exact rfl); (exact rfl); exact rfl) | (refine new_i (fun bk hbk => ?_)) | (apply when_dE; (exact rfl); (exact rfl); all_goals intro hc) | (apply when_dF; (exact rfl); (exact rfl); all_goals intro hc) | (apply when_nE; (exact rfl); (exact rfl); all_goals intro hc) | (apply when_nF; (exact rfl); (exact rfl); all_goals intro hc) | (apply br_dE; (exact rfl); all_goals intro hc) | (apply br_nE; (exact rfl); all_goals intro hc) | (refine mm_min ?_) | (refine mm_max ?_) | (refine rem_i ?_ ?_; omega) | (refine SelN.mk ?_) | (refine cut_n ?_) | (refine Both.mk ?_ ?_) | (exact True.intro))
          refine ⟨(k + 1, a2, c2, D2), ⟨by dsimp only; omega, by dsimp only; rw [hsu']; exact hb2⟩, by dsimp only; omega, ?_, (by first | exact ent_i | (repeat (first | exact Ent.refl | exact Ent.left | refine Ent.cons ?_ | refine Ent.app ?_)))⟩
          dsimp only
          rw [hsu', List.length_append]
          exact (by repeat' (first | exact True.intro | refine And.intro ?_ ?_ | exact rfl | exact vi (by omega) | (dsimp only; exact rfl) | (dsimp only; exact vi (by omega))))
        · rw [hu] at rC
          have hi1 := fun own => hiz own rC
          have hi2 := hsc rC
          rw [oC, ← bW_reg] at hsu'
          repeat' ((try (conv => whnf)); first | (refine when_ye ?_ ?_; exact rfl) | (refine when_ne ?_ ?_; exact rfl) | (refine br_te ?_ ?_; exact rfl) | (refine br_fe ?_ ?_; exact rfl) | (apply br_pyE; (exact rfl); omega) | (apply br_pnE; (exact rfl); omega) | (apply when_pyE; (exact rfl); omega) | (apply when_pnE; (exact rfl); omega) | (apply br_npyE; (exact rfl); omega) | (apply br_npnE; (exact rfl); omega) | (apply when_npyE; (exact rfl); omega) | (apply when_npnE; (exact rfl); omega) | (refine next_y hlt hd ?_) | (refine SctT.mk ⟨?_, ?_⟩; (omega)) | (apply app_i (enc := encS) (⟨#[114]⟩ ++ bW (Go.Lib.itoa c)) hB; (exact rfl); (exact rfl); (omega); (exact rfl); (exact rfl); (omega); intro a2 c2 D2 hb2) | ((with_reducible show CallT _ _ _ _ _ _); first | ((refine call_pe (hi1 _) ?_ ?_ ?_; (exact rfl); exact rfl))) | (refine ari ?_ ?_; omega) | (refine aru ?_ ?_; omega) | (apply sel; exact rfl) | (refine ix0 rfl ?_) | (refine ix1 rfl ?_) | (refine ix2 rfl ?_) | (refine ix3 rfl ?_) | (apply ixj; omega) | (refine ixn ?_ ?_; omega) | (refine ixs0 rfl ?_) | (refine ixs1 rfl ?_) | (refine ixs_j ?_ ?_; omega) | (refine ixs_n ?_ ?_; omega) | (apply ld_o; exact rfl) | (apply ldN_a; exact rfl) | (apply ldN_o; (exact rfl); exact rfl) | (apply st_o; (exact rfl); exact rfl) | (apply stN_o; (exact rfl); (exact rfl); exact rfl) | (refine new_i (fun bk hbk => ?_)) | (apply when_dE; (exact rfl); (exact rfl); all_goals intro hc) | (apply when_dF; (exact rfl); (exact rfl); all_goals intro hc) | (apply when_nE; (exact rfl); (exact rfl); all_goals intro hc) | (apply when_nF; (exact rfl); (exact rfl); all_goals intro hc) | (apply br_dE; (exact rfl); all_goals intro hc) | (apply br_nE; (exact rfl); all_goals intro hc) | (refine mm_min ?_) | (refine mm_max ?_) | (refine rem_i ?_ ?_; omega) | (refine SelN.mk ?_) | (refine cut_n ?_) | (refine Both.mk ?_ ?_) | (exact True.intro))
          refine ⟨(k + 1, a2, c2, D2), ⟨by dsimp only; omega, by dsimp only; rw [hsu']; exact hb2⟩, by dsimp only; omega, ?_, (by first | exact ent_i | (repeat (first | exact Ent.refl | exact Ent.left | refine Ent.cons ?_ | refine Ent.app ?_)))⟩
          dsimp only
          rw [hsu', List.length_append]
          exact (by repeat' (first | exact True.intro | refine And.intro ?_ ?_ | exact rfl | exact vi (by omega) | (dsimp only; exact rfl) | (dsimp only; exact vi (by omega))))
        · rw [oI] at hsu'
          repeat' ((try (conv => whnf)); first | (refine when_ye ?_ ?_; exact rfl) | (refine when_ne ?_ ?_; exact rfl) | (refine br_te ?_ ?_; exact rfl) | (refine br_fe ?_ ?_; exact rfl) | (apply br_pyE; (exact rfl); omega) | (apply br_pnE; (exact rfl); omega) | (apply when_pyE; (exact rfl); omega) | (apply when_pnE; (exact rfl); omega) | (apply br_npyE; (exact rfl); omega) | (apply br_npnE; (exact rfl); omega) | (apply when_npyE; (exact rfl); omega) | (apply when_npnE; (exact rfl); omega) | (refine next_y hlt hd ?_) | (apply app_i (enc := encS) (bW (Go.Lib.itoa m)) hB; (exact rfl); (exact rfl); (omega); (exact rfl); (exact rfl); (omega); intro a2 c2 D2 hb2) | ((with_reducible show CallT _ _ _ _ _ _); first | ((refine call_pe (him _) ?_ ?_ ?_; (exact rfl); exact rfl))) | (refine ari ?_ ?_; omega) | (refine aru ?_ ?_; omega) | (apply sel; exact rfl) | (refine ix0 rfl ?_) | (refine ix1 rfl ?_) | (refine ix2 rfl ?_) | (refine ix3 rfl ?_) | (apply ixj; omega) | (refine ixn ?_ ?_; omega) | (refine ixs0 rfl ?_) | (refine ixs1 rfl ?_) | (refine ixs_j ?_ ?_; omega) | (refine ixs_n ?_ ?_; omega) | (apply ld_o; exact rfl) | (apply ldN_a; exact rfl) | (apply ldN_o; (exact rfl); exact rfl) | (apply st_o; (exact rfl); exact rfl) | (apply stN_o; (exact rfl); (exact rfl); exact rfl) | (refine new_i (fun bk hbk => ?_)) | (apply when_dE; (exact rfl); (exact rfl); all_goals intro hc) | (apply when_dF; (exact rfl); (exact rfl); all_goals intro hc) | (apply when_nE; (exact rfl); (exact rfl); all_goals intro hc) | (apply when_nF; (exact rfl); (exact rfl); all_goals intro hc) | (apply br_dE; (exact rfl); all_goals intro hc) | (apply br_nE; (exact rfl); all_goals intro hc) | (refine mm_min ?_) | (refine mm_max ?_) | (refine rem_i ?_ ?_; omega) | (refine SelN.mk ?_) | (refine cut_n ?_) | (refine Both.mk ?_ ?_) | (exact True.intro))
          refine ⟨(k + 1, a2, c2, D2), ⟨by dsimp only; omega, by dsimp only; rw [hsu']; exact hb2⟩, by dsimp only; omega, ?_, (by first | exact ent_i | (repeat (first | exact Ent.refl | exact Ent.left | refine Ent.cons ?_ | refine Ent.app ?_)))⟩
          dsimp only
          rw [hsu', List.length_append]
          exact (by repeat' (first | exact True.intro | refine And.intro ?_ ?_ | exact rfl | exact vi (by omega) | (dsimp only; exact rfl) | (dsimp only; exact vi (by omega))))
      · have he : k = (opAt n).size := by omega
        subst he
        repeat' ((try (conv => whnf)); first | (refine when_ye ?_ ?_; exact rfl) | (refine when_ne ?_ ?_; exact rfl) | (refine br_te ?_ ?_; exact rfl) | (refine br_fe ?_ ?_; exact rfl) | (apply br_pyE; (exact rfl); omega) | (apply br_pnE; (exact rfl); omega) | (apply when_pyE; (exact rfl); omega) | (apply when_pnE; (exact rfl); omega) | (apply br_npyE; (exact rfl); omega) | (apply br_npnE; (exact rfl); omega) | (apply when_npyE; (exact rfl); omega) | (apply when_npnE; (exact rfl); omega) | (refine next_n hlt ?_) | ((with_reducible show CallT _ _ _ _ _ _); first | ((refine call_pe (sp_join (sep := ⟨#[32]⟩) hB (by simp [fmtK]) (by have := hwl (opAt n).size; omega) hjl') ?_ ?_ ?_; (exact rfl); exact rfl))) | (refine ari ?_ ?_; omega) | (refine aru ?_ ?_; omega) | (apply sel; exact rfl) | (refine ix0 rfl ?_) | (refine ix1 rfl ?_) | (refine ix2 rfl ?_) | (refine ix3 rfl ?_) | (apply ixj; omega) | (refine ixn ?_ ?_; omega) | (refine ixs0 rfl ?_) | (refine ixs1 rfl ?_) | (refine ixs_j ?_ ?_; omega) | (refine ixs_n ?_ ?_; omega) | (apply ld_o; exact rfl) | (apply ldN_a; exact rfl) | (apply ldN_o; (exact rfl); exact rfl) | (apply st_o; (exact rfl); exact rfl) | (apply stN_o; (exact rfl); (exact rfl); exact rfl) | (refine new_i (fun bk hbk => ?_)) | (apply when_dE; (exact rfl); (exact rfl); all_goals intro hc) | (apply when_dF; (exact rfl); (exact rfl); all_goals intro hc) | (apply when_nE; (exact rfl); (exact rfl); all_goals intro hc) | (apply when_nF; (exact rfl); (exact rfl); all_goals intro hc) | (apply br_dE; (exact rfl); all_goals intro hc) | (apply br_nE; (exact rfl); all_goals intro hc) | (refine mm_min ?_) | (refine mm_max ?_) | (refine rem_i ?_ ?_; omega) | (refine SelN.mk ?_) | (refine cut_n ?_) | (refine Both.mk ?_ ?_) | (exact True.intro))
        exact ⟨rfl, (by first | exact ent_i | (repeat (first | exact Ent.refl | exact Ent.left | refine Ent.cons ?_ | refine Ent.app ?_)))⟩
    · have q1 := hhn (by omega)
      have q3 : nmAt n = bW (headW ⟨n, a, b, c, m⟩) := by rw [q1]; exact (ba_mk _).symm
      rw [q3] at hfm
      generalize bW (headW ⟨n, a, b, c, m⟩) = w0 at *
      repeat' ((try (conv => whnf)); first | (refine when_ye ?_ ?_; exact rfl) | (refine when_ne ?_ ?_; exact rfl) | (refine br_te ?_ ?_; exact rfl) | (refine br_fe ?_ ?_; exact rfl) | (apply br_pyE; (exact rfl); omega) | (apply br_pnE; (exact rfl); omega) | (apply when_pyE; (exact rfl); omega) | (apply when_pnE; (exact rfl); omega) | (apply br_npyE; (exact rfl); omega) | (apply br_npnE; (exact rfl); omega) | (apply when_npyE; (exact rfl); omega) | (apply when_npnE; (exact rfl); omega) | (refine ldN_laid hF _ hfm rfl ?_) | ((with_reducible show CallT _ _ _ _ _ _); first | ((refine call_pe (hch _) ?_ ?_ ?_; (exact rfl); exact rfl))) | (refine ari ?_ ?_; omega) | (refine aru ?_ ?_; omega) | (apply sel; exact rfl) | (refine ix0 rfl ?_) | (refine ix1 rfl ?_) | (refine ix2 rfl ?_) | (refine ix3 rfl ?_) | (apply ixj; omega) | (refine ixn ?_ ?_; omega) | (refine ixs0 rfl ?_) | (refine ixs1 rfl ?_) | (refine ixs_j ?_ ?_; omega) | (refine ixs_n ?_ ?_; omega) | (apply ld_o; exact rfl) | (apply ldN_a; exact rfl) | (apply ldN_o; (exact rfl); exact rfl) | (apply st_o; (exact rfl); exact rfl) | (apply stN_o; (exact rfl); (exact rfl); exact rfl) | (refine new_i (fun bk hbk => ?_)) | (apply when_dE; (exact rfl); (exact rfl); all_goals intro hc) | (apply when_dF; (exact rfl); (exact rfl); all_goals intro hc) | (apply when_nE; (exact rfl); (exact rfl); all_goals intro hc) | (apply when_nF; (exact rfl); (exact rfl); all_goals intro hc) | (apply br_dE; (exact rfl); all_goals intro hc) | (apply br_nE; (exact rfl); all_goals intro hc) | (refine mm_min ?_) | (refine mm_max ?_) | (refine rem_i ?_ ?_; omega) | (refine SelN.mk ?_) | (refine cut_n ?_) | (refine Both.mk ?_ ?_) | (exact True.intro))
      rename_i bx hbx bf hbf bw hbw
      refine loop_i (σ := Nat × Option Addr × Nat × Own) (fun x => [(6, .slice x.2.1 (fmtK ⟨n, a, b, c, m⟩ x.1).length x.2.2.1)]) (fun x => (bk, fun o => o = Obj.stringIter (opAt n) x.1) :: (x.2.2.2 ++ _)) (fun x => x.1 ≤ (opAt n).size ∧ BufE encS 9 1 x.2.1 x.2.2.1 (fmtK ⟨n, a, b, c, m⟩ x.1) x.2.2.2) (fun x => (opAt n).size - x.1) (0, some ⟨bw, 0, none⟩, 1, [(bw, fun o => o = Obj.cells #[.string w0] 9)]) ⟨Nat.zero_le _, by dsimp only; rw [hk0]; exact can_buf (l := [w0]) (fun _ _ => rfl)⟩ (by repeat' (first | exact True.intro | refine And.intro ?_ ?_ | exact rfl | exact vi (by omega) | (dsimp only; exact rfl) | (dsimp only; exact vi (by omega)))) Ent.refl rfl ?_
      rintro ⟨k, a1, cap, D⟩ junk ⟨hk, hB⟩
      dsimp only at hk hB ⊢
      by_cases hlt : k < (opAt n).size
      · obtain ⟨x, hx⟩ : ∃ x, (opAt n).data.toList[k]? = some x := ⟨_, List.getElem?_eq_getElem (by omega)⟩
        have hd := hdec k (by omega)
        have hg : (opAt n).data.toList.getD k 0 = x := by rw [List.getD_eq_getElem?_getD, hx]; rfl
        rw [hg] at hd
        have hsu' := hsu k x hx
        have hwk := hwl k
        have hox := hop x (List.mem_of_getElem? hx)
        clear hdec hop hsu hall
        rcases hox with ⟨rfl, hu⟩ | ⟨rfl, hu⟩ | ⟨rfl, hu⟩ | rfl
        · rw [hu] at rA
          have hi1 := fun own => hix own rA
          have hi2 := hsa rA
          rw [oA, ← bW_reg] at hsu'
          repeat' ((try (conv => whnf)); first | (refine when_ye ?_ ?_; exact rfl) | (refine when_ne ?_ ?_; exact rfl) | (refine br_te ?_ ?_; exact rfl) | (refine br_fe ?_ ?_; exact rfl) | (apply br_pyE; (exact rfl); omega) | (apply br_pnE; (exact rfl); omega) | (apply when_pyE; (exact rfl); omega) | (apply when_pnE; (exact rfl); omega) | (apply br_npyE; (exact rfl); omega) | (apply br_npnE; (exact rfl); omega) | (apply when_npyE; (exact rfl); omega) | (apply when_npnE; (exact rfl); omega) | (refine next_y hlt hd ?_) | (refine SctT.mk ⟨?_, ?_⟩; (omega)) | (apply app_i (enc := encS) (⟨#[114]⟩ ++ bW (Go.Lib.itoa a)) hB; (exact rfl); (exact rfl); (omega); (exact rfl); (exact rfl); (omega); intro a2 c2 D2 hb2) | ((with_reducible show CallT _ _ _ _ _ _); first | ((refine call_pe (hi1 _) ?_ ?_ ?_; (exact rfl); exact rfl))) | (refine ari ?_ ?_; omega) | (refine aru ?_ ?_; omega) | (apply sel; exact rfl) | (refine ix0 rfl ?_) | (refine ix1 rfl ?_) | (refine ix2 rfl ?_) | (refine ix3 rfl ?_) | (apply ixj; omega) | (refine ixn ?_ ?_; omega) | (refine ixs0 rfl ?_) | (refine ixs1 rfl ?_) | (refine ixs_j ?_ ?_; omega) | (refine ixs_n ?_ ?_; omega) | (apply ld_o; exact rfl) | (apply ldN_a; exact rfl) | (apply ldN_o; (exact rfl); exact rfl) | (apply st_o; (exact rfl); exact rfl) | (apply stN_o; (exact rfl); (exact rfl); exact rfl) | (refine new_i (fun bk hbk => ?_)) | (apply when_dE; (exact rfl); (exact rfl); all_goals intro hc) | (apply when_dF; (exact rfl); (exact rfl); all_goals intro hc) | (apply when_nE; (exact rfl); (exact rfl); all_goals intro hc) | (apply when_nF; (exact rfl); (exact rfl); all_goals intro hc) | (apply br_dE; (exact rfl); all_goals intro hc) | (apply br_nE; (exact rfl); all_goals intro hc) | (refine mm_min ?_) | (refine mm_max ?_) | (refine rem_i ?_ ?_; omega) | (refine SelN.mk ?_) | (refine cut_n ?_) | (refine Both.mk ?_ ?_) | (exact True.intro))
          refine ⟨(k + 1, a2, c2, D2), ⟨by dsimp only; omega, by dsimp only; rw [hsu']; exact hb2⟩, by dsimp only; omega, ?_, (by first | exact ent_i | (repeat (first | exact Ent.refl | exact Ent.left | refine Ent.cons ?_ | refine Ent.app ?_)))⟩
          dsimp only
          rw [hsu', List.length_append]
          exact (by repeat' (first | exact True.intro | refine And.intro ?_ ?_ | exact rfl | exact vi (by omega) | (dsimp only; exact rfl) | (dsimp only; exact vi (by omega))))
        · rw [hu] at rB
          have hi1 := fun own => hiy own rB
          have hi2 := hsb rB
          rw [oB, ← bW_reg] at hsu'
          repeat' ((try (conv => whnf)); first | (refine when_ye ?_ ?_; exact rfl) | (refine when_ne ?_ ?_; exact rfl) | (refine br_te ?_ ?_; exact rfl) | (refine br_fe ?_ ?_; exact rfl) | (apply br_pyE; (exact rfl); omega) | (apply br_pnE; (exact rfl); omega) | (apply when_pyE; (exact rfl); omega) | (apply when_pnE; (exact rfl); omega) | (apply br_npyE; (exact rfl); omega) | (apply br_npnE; (exact rfl); omega) | (apply when_npyE; (exact rfl); omega) | (apply when_npnE; (exact rfl); omega) | (refine next_y hlt hd ?_) | (refine SctT.mk ⟨?_, ?_⟩; (omega)) | (apply app_i (enc := encS) (⟨#[114]⟩ ++ bW (Go.Lib.itoa b)) hB; (exact rfl); (exact rfl); (omega); (exact rfl); (exact rfl); (omega); intro a2 c2 D2 hb2) | ((with_reducible show CallT _ _ _ _ _ _); first | ((refine call_pe (hi1 _) ?_ ?_ ?_; (exact rfl); exact rfl))) | (refine ari ?_ ?_; omega) | (refine aru ?_ ?_; omega) | (apply sel; exact rfl) | (refine ix0 rfl ?_) | (refine ix1 rfl ?_) | (refine ix2 rfl ?_) | (refine ix3 rfl ?_) | (apply ixj; omega) | (refine ixn ?_ ?_; omega) | (refine ixs0 rfl ?_) | (refine ixs1 rfl ?_) | (refine ixs_j ?_ ?_; omega) | (refine ixs_n ?_ ?_; omega) | (apply ld_o; exact rfl) | (apply ldN_a; exact rfl) | (apply ldN_o; (exact rfl); exact rfl) | (apply st_o; (exact rfl); exact rfl) | (apply stN_o; (exact rfl); (exact rfl); exact rfl) | (refine new_i (fun bk hbk => ?_)) | (apply when_dE; (exact rfl); (exact rfl); all_goals intro hc) | (apply when_dF; (exact rfl); (exact rfl); all_goals intro hc) | (apply when_nE; (exact rfl); (exact rfl); all_goals intro hc) | (apply when_nF; (exact rfl); (exact rfl); all_goals intro hc) | (apply br_dE; (exact rfl); all_goals intro hc) | (apply br_nE; (exact rfl); all_goals intro hc) | (refine mm_min ?_) | (refine mm_max ?_) | (refine rem_i ?_ ?_; omega) | (refine SelN.mk ?_) | (refine cut_n ?_) | (refine Both.mk ?_ ?_) | (exact True.intro))
          refine ⟨(k + 1, a2, c2, D2), ⟨by dsimp only; omega, by dsimp only; rw [hsu']; exact hb2⟩, by dsimp only; omega, ?_, (by first | exact ent_i | (repeat (first | exact Ent.refl | exact Ent.left | refine Ent.cons ?_ | refine Ent.app ?_)))⟩
          dsimp only
          rw [hsu', List.length_append]
          exact (by repeat' (first | exact True.intro | refine And.intro ?_ ?_ | exact rfl | exact vi (by omega) | (dsimp only; exact rfl) | (dsimp only; exact vi (by omega))))
        · rw [hu] at rC
          have hi1 := fun own => hiz own rC
          have hi2 := hsc rC
          rw [oC, ← bW_reg] at hsu'
          repeat' ((try (conv => whnf)); first | (refine when_ye ?_ ?_; exact rfl) | (refine when_ne ?_ ?_; exact rfl) | (refine br_te ?_ ?_; exact rfl) | (refine br_fe ?_ ?_; exact rfl) | (apply br_pyE; (exact rfl); omega) | (apply br_pnE; (exact rfl); omega) | (apply when_pyE; (exact rfl); omega) | (apply when_pnE; (exact rfl); omega) | (apply br_npyE; (exact rfl); omega) | (apply br_npnE; (exact rfl); omega) | (apply when_npyE; (exact rfl); omega) | (apply when_npnE; (exact rfl); omega) | (refine next_y hlt hd ?_) | (refine SctT.mk ⟨?_, ?_⟩; (omega)) | (apply app_i (enc := encS) (⟨#[114]⟩ ++ bW (Go.Lib.itoa c)) hB; (exact rfl); (exact rfl); (omega); (exact rfl); (exact rfl); (omega); intro a2 c2 D2 hb2) | ((with_reducible show CallT _ _ _ _ _ _); first | ((refine call_pe (hi1 _) ?_ ?_ ?_; (exact rfl); exact rfl))) | (refine ari ?_ ?_; omega) | (refine aru ?_ ?_; omega) | (apply sel; exact rfl) | (refine ix0 rfl ?_) | (refine ix1 rfl ?_) | (refine ix2 rfl ?_) | (refine ix3 rfl ?_) | (apply ixj; omega) | (refine ixn ?_ ?_; omega) | (refine ixs0 rfl ?_) | (refine ixs1 rfl ?_) | (refine ixs_j ?_ ?_; omega) | (refine ixs_n ?_ ?_; omega) | (apply ld_o; exact rfl) | (apply ldN_a; exact rfl) | (apply ldN_o; (exact rfl); exact rfl) | (apply st_o; (exact rfl); exact rfl) | (apply stN_o; (exact rfl); (exact rfl); exact rfl) | (refine new_i (fun bk hbk => ?_)) | (apply when_dE; (exact rfl); (exact rfl); all_goals intro hc) | (apply when_dF; (exact rfl); (exact rfl); all_goals intro hc) | (apply when_nE; (exact rfl); (exact rfl); all_goals intro hc) | (apply when_nF; (exact rfl); (exact rfl); all_goals intro hc) | (apply br_dE; (exact rfl); all_goals intro hc) | (apply br_nE; (exact rfl); all_goals intro hc) | (refine mm_min ?_) | (refine mm_max ?_) | (refine rem_i ?_ ?_; omega) | (refine SelN.mk ?_) | (refine cut_n ?_) | (refine Both.mk ?_ ?_) | (exact True.intro))
          refine ⟨(k + 1, a2, c2, D2), ⟨by dsimp only; omega, by dsimp only; rw [hsu']; exact hb2⟩, by dsimp only; omega, ?_, (by first | exact ent_i | (repeat (first | exact Ent.refl | exact Ent.left | refine Ent.cons ?_ | refine Ent.app ?_)))⟩
          dsimp only
          rw [hsu', List.length_append]
          exact (by repeat' (first | exact True.intro | refine And.intro ?_ ?_ | exact rfl | exact vi (by omega) | (dsimp only; exact rfl) | (dsimp only; exact vi (by omega))))
        · rw [oI] at hsu'
          repeat' ((try (conv => whnf)); first | (refine when_ye ?_ ?_; exact rfl) | (refine when_ne ?_ ?_; exact rfl) | (refine br_te ?_ ?_; exact rfl) | (refine br_fe ?_ ?_; exact rfl) | (apply br_pyE; (exact rfl); omega) | (apply br_pnE; (exact rfl); omega) | (apply when_pyE; (exact rfl); omega) | (apply when_pnE; (exact rfl); omega) | (apply br_npyE; (exact rfl); omega) | (apply br_npnE; (exact rfl); omega) | (apply when_npyE; (exact rfl); omega) | (apply when_npnE; (exact rfl); omega) | (refine next_y hlt hd ?_) | (apply app_i (enc := encS) (bW (Go.Lib.itoa m)) hB; (exact rfl); (exact rfl); (omega); (exact rfl); (exact rfl); (omega); intro a2 c2 D2 hb2) | ((with_reducible show CallT _ _ _ _ _ _); first | ((refine call_pe (him _) ?_ ?_ ?_; (exact rfl); exact rfl))) | (refine ari ?_ ?_; omega) | (refine aru ?_ ?_; omega) | (apply sel; exact rfl) | (refine ix0 rfl ?_) | (refine ix1 rfl ?_) | (refine ix2 rfl ?_) | (refine ix3 rfl ?_) | (apply ixj; omega) | (refine ixn ?_ ?_; omega) | (refine ixs0 rfl ?_) | (refine ixs1 rfl ?_) | (refine ixs_j ?_ ?_; omega) | (refine ixs_n ?_ ?_; omega) | (apply ld_o; exact rfl) | (apply ldN_a; exact rfl) | (apply ldN_o; (exact rfl); exact rfl) | (apply st_o; (exact rfl); exact rfl) | (apply stN_o; (exact rfl); (exact rfl); exact rfl) | (refine new_i (fun bk hbk => ?_)) | (apply when_dE; (exact rfl); (exact rfl); all_goals intro hc) | (apply when_dF; (exact rfl); (exact rfl); all_goals intro hc) | (apply when_nE; (exact rfl); (exact rfl); all_goals intro hc) | (apply when_nF; (exact rfl); (exact rfl); all_goals intro hc) | (apply br_dE; (exact rfl); all_goals intro hc) | (apply br_nE; (exact rfl); all_goals intro hc) | (refine mm_min ?_) | (refine mm_max ?_) | (refine rem_i ?_ ?_; omega) | (refine SelN.mk ?_) | (refine cut_n ?_) | (refine Both.mk ?_ ?_) | (exact True.intro))
          refine ⟨(k + 1, a2, c2, D2), ⟨by dsimp only; omega, by dsimp only; rw [hsu']; exact hb2⟩, by dsimp only; omega, ?_, (by first | exact ent_i | (repeat (first | exact Ent.refl | exact Ent.left | refine Ent.cons ?_ | refine Ent.app ?_)))⟩
          dsimp only
          rw [hsu', List.length_append]
          exact (by repeat' (first | exact True.intro | refine And.intro ?_ ?_ | exact rfl | exact vi (by omega) | (dsimp only; exact rfl) | (dsimp only; exact vi (by omega))))
      · have he : k = (opAt n).size := by omega
        subst he
        repeat' ((try (conv => whnf)); first | (refine when_ye ?_ ?_; exact rfl) | (refine when_ne ?_ ?_; exact rfl) | (refine br_te ?_ ?_; exact rfl) | (refine br_fe ?_ ?_; exact rfl) | (apply br_pyE; (exact rfl); omega) | (apply br_pnE; (exact rfl); omega) | (apply when_pyE; (exact rfl); omega) | (apply when_pnE; (exact rfl); omega) | (apply br_npyE; (exact rfl); omega) | (apply br_npnE; (exact rfl); omega) | (apply when_npyE; (exact rfl); omega) | (apply when_npnE; (exact rfl); omega) | (refine next_n hlt ?_) | ((with_reducible show CallT _ _ _ _ _ _); first | ((refine call_pe (sp_join (sep := ⟨#[32]⟩) hB (by simp [fmtK]) (by have := hwl (opAt n).size; omega) hjl') ?_ ?_ ?_; (exact rfl); exact rfl))) | (refine ari ?_ ?_; omega) | (refine aru ?_ ?_; omega) | (apply sel; exact rfl) | (refine ix0 rfl ?_) | (refine ix1 rfl ?_) | (refine ix2 rfl ?_) | (refine ix3 rfl ?_) | (apply ixj; omega) | (refine ixn ?_ ?_; omega) | (refine ixs0 rfl ?_) | (refine ixs1 rfl ?_) | (refine ixs_j ?_ ?_; omega) | (refine ixs_n ?_ ?_; omega) | (apply ld_o; exact rfl) | (apply ldN_a; exact rfl) | (apply ldN_o; (exact rfl); exact rfl) | (apply st_o; (exact rfl); exact rfl) | (apply stN_o; (exact rfl); (exact rfl); exact rfl) | (refine new_i (fun bk hbk => ?_)) | (apply when_dE; (exact rfl); (exact rfl); all_goals intro hc) | (apply when_dF; (exact rfl); (exact rfl); all_goals intro hc) | (apply when_nE; (exact rfl); (exact rfl); all_goals intro hc) | (apply when_nF; (exact rfl); (exact rfl); all_goals intro hc) | (apply br_dE; (exact rfl); all_goals intro hc) | (apply br_nE; (exact rfl); all_goals intro hc) | (refine mm_min ?_) | (refine mm_max ?_) | (refine rem_i ?_ ?_; omega) | (refine SelN.mk ?_) | (refine cut_n ?_) | (refine Both.mk ?_ ?_) | (exact True.intro))
        exact ⟨rfl, (by first | exact ent_i | (repeat (first | exact Ent.refl | exact Ent.left | refine Ent.cons ?_ | refine Ent.app ?_)))⟩
  · rw [if_neg h0]
    obtain ⟨op, a, b, c, m⟩ := i
    repeat' ((try (conv => whnf)); first | (refine when_ye ?_ ?_; exact rfl) | (refine when_ne ?_ ?_; exact rfl) | (refine br_te ?_ ?_; exact rfl) | (refine br_fe ?_ ?_; exact rfl) | (apply br_pyE; (exact rfl); omega) | (apply br_pnE; (exact rfl); omega) | (apply when_pyE; (exact rfl); omega) | (apply when_pnE; (exact rfl); omega) | (apply br_npyE; (exact rfl); omega) | (apply br_npnE; (exact rfl); omega) | (apply when_npyE; (exact rfl); omega) | (apply when_npnE; (exact rfl); omega) | ((with_reducible show CallT _ _ _ _ _ _); first | ((refine call_pe (hch _) ?_ ?_ ?_; (exact rfl); exact rfl))) | (refine ari ?_ ?_; omega) | (refine aru ?_ ?_; omega) | (apply sel; exact rfl) | (refine ix0 rfl ?_) | (refine ix1 rfl ?_) | (refine ix2 rfl ?_) | (refine ix3 rfl ?_) | (apply ixj; omega) | (refine ixn ?_ ?_; omega) | (refine ixs0 rfl ?_) | (refine ixs1 rfl ?_) | (refine ixs_j ?_ ?_; omega) | (refine ixs_n ?_ ?_; omega) | (apply ld_o; exact rfl) | (apply ldN_a; exact rfl) | (apply ldN_o; (exact rfl); exact rfl) | (apply st_o; (exact rfl); exact rfl) | (apply stN_o; (exact rfl); (exact rfl); exact rfl) | (refine new_i (fun bk hbk => ?_)) | (apply when_dE; (exact rfl); (exact rfl); all_goals intro hc) | (apply when_dF; (exact rfl); (exact rfl); all_goals intro hc) | (apply when_nE; (exact rfl); (exact rfl); all_goals intro hc) | (apply when_nF; (exact rfl); (exact rfl); all_goals intro hc) | (apply br_dE; (exact rfl); all_goals intro hc) | (apply br_nE; (exact rfl); all_goals intro hc) | (refine mm_min ?_) | (refine mm_max ?_) | (refine rem_i ?_ ?_; omega) | (refine SelN.mk ?_) | (refine cut_n ?_) | (refine Both.mk ?_ ?_) | (exact True.intro))
    exact ⟨rfl, (by first | exact ent_i | (repeat (first | exact Ent.refl | exact Ent.left | refine Ent.cons ?_ | refine Ent.app ?_)))⟩
end
end Go.Proofs.YtiimndcifcoofaaGreatDoor
namespace Go.Proofs.YtiimndcifcoofaaGreatDoor
open Go Go.RowKit
set_option maxRecDepth 10000
set_option maxHeartbeats 4000000
theorem sp_rname (W0 : World) (own : Own) (fn : Int) : Pure Tryz.prog W0 40 [.int .i64 fn] own (.string (nameM fn)) := by
  refine pure_of (spec_of mixed low_ref02_Name (by simp [ir_ref02_Name]) ?_)
  by_cases h : 0 ≤ fn ∧ fn < 22
  · have e : 0 + fn.toNat * 1 = fn.toNat := by omega
    have hk := nmV_get (j := 0 + fn.toNat * 1) (by omega)
    repeat' ((try (conv => whnf)); first | (refine when_ye ?_ ?_; exact rfl) | (refine when_ne ?_ ?_; exact rfl) | (refine br_te ?_ ?_; exact rfl) | (refine br_fe ?_ ?_; exact rfl) | (apply br_pyE; (exact rfl); omega) | (apply br_pnE; (exact rfl); omega) | (apply when_pyE; (exact rfl); omega) | (apply when_pnE; (exact rfl); omega) | (apply br_npyE; (exact rfl); omega) | (apply br_npnE; (exact rfl); omega) | (apply when_npyE; (exact rfl); omega) | (apply when_npnE; (exact rfl); omega) | (refine ld_own _ (List.Mem.head _) hk ?_) | ((with_reducible show CallT _ _ _ _ _ _); first | ((refine call_se (sp_rnames _ _) ?_ ?_ (fun v own' hv => ?_); (exact rfl); (exact rfl); (obtain ⟨b, rfl, rfl⟩ := hv)))) | (refine ari ?_ ?_; omega) | (refine aru ?_ ?_; omega) | (apply sel; exact rfl) | (refine ix0 rfl ?_) | (refine ix1 rfl ?_) | (refine ix2 rfl ?_) | (refine ix3 rfl ?_) | (apply ixj; omega) | (refine ixn ?_ ?_; omega) | (refine ixs0 rfl ?_) | (refine ixs1 rfl ?_) | (refine ixs_j ?_ ?_; omega) | (refine ixs_n ?_ ?_; omega) | (apply ld_o; exact rfl) | (apply ldN_a; exact rfl) | (apply ldN_o; (exact rfl); exact rfl) | (apply st_o; (exact rfl); exact rfl) | (apply stN_o; (exact rfl); (exact rfl); exact rfl) | (refine new_i (fun bk hbk => ?_)) | (apply when_dE; (exact rfl); (exact rfl); all_goals intro hc) | (apply when_dF; (exact rfl); (exact rfl); all_goals intro hc) | (apply when_nE; (exact rfl); (exact rfl); all_goals intro hc) | (apply when_nF; (exact rfl); (exact rfl); all_goals intro hc) | (apply br_dE; (exact rfl); all_goals intro hc) | (apply br_nE; (exact rfl); all_goals intro hc) | (refine mm_min ?_) | (refine mm_max ?_) | (refine rem_i ?_ ?_; omega) | (refine SelN.mk ?_) | (refine cut_n ?_) | (refine Both.mk ?_ ?_) | (exact True.intro))
    all_goals (refine ⟨?_, (by first | exact ent_i | (repeat (first | exact Ent.refl | exact Ent.left | refine Ent.cons ?_ | refine Ent.app ?_)))⟩; rw [e]; simp [nameM, h, resV])
  · repeat' ((try (conv => whnf)); first | (refine when_ye ?_ ?_; exact rfl) | (refine when_ne ?_ ?_; exact rfl) | (refine br_te ?_ ?_; exact rfl) | (refine br_fe ?_ ?_; exact rfl) | (apply br_pyE; (exact rfl); omega) | (apply br_pnE; (exact rfl); omega) | (apply when_pyE; (exact rfl); omega) | (apply when_pnE; (exact rfl); omega) | (apply br_npyE; (exact rfl); omega) | (apply br_npnE; (exact rfl); omega) | (apply when_npyE; (exact rfl); omega) | (apply when_npnE; (exact rfl); omega) | (refine ari ?_ ?_; omega) | (refine aru ?_ ?_; omega) | (apply sel; exact rfl) | (refine ix0 rfl ?_) | (refine ix1 rfl ?_) | (refine ix2 rfl ?_) | (refine ix3 rfl ?_) | (apply ixj; omega) | (refine ixn ?_ ?_; omega) | (refine ixs0 rfl ?_) | (refine ixs1 rfl ?_) | (refine ixs_j ?_ ?_; omega) | (refine ixs_n ?_ ?_; omega) | (apply ld_o; exact rfl) | (apply ldN_a; exact rfl) | (apply ldN_o; (exact rfl); exact rfl) | (apply st_o; (exact rfl); exact rfl) | (apply stN_o; (exact rfl); (exact rfl); exact rfl) | (refine new_i (fun bk hbk => ?_)) | (apply when_dE; (exact rfl); (exact rfl); all_goals intro hc) | (apply when_dF; (exact rfl); (exact rfl); all_goals intro hc) | (apply when_nE; (exact rfl); (exact rfl); all_goals intro hc) | (apply when_nF; (exact rfl); (exact rfl); all_goals intro hc) | (apply br_dE; (exact rfl); all_goals intro hc) | (apply br_nE; (exact rfl); all_goals intro hc) | (refine mm_min ?_) | (refine mm_max ?_) | (refine rem_i ?_ ?_; omega) | (refine SelN.mk ?_) | (refine cut_n ?_) | (refine Both.mk ?_ ?_) | (exact True.intro))
    all_goals (refine ⟨?_, (by first | exact ent_i | (repeat (first | exact Ent.refl | exact Ent.left | refine Ent.cons ?_ | refine Ent.app ?_)))⟩; simp [nameM, h, resV])
theorem vstr {a b : ByteArray} (h : a = b) : Value.string a = .string b := by rw [h]
section
variable {W0 : World} {own : Own}
theorem sp_rfmt (hA : IsaAt W0) (i : Ins) (h1 : -9223372036854775808 ≤ i.imm) (h2 : i.imm ≤ 9223372036854775807) : Pure Tryz.prog W0 12 [i.v] own (.tuple #[.string (fmtM i).1, .int .i64 (fmtM i).2]) := by
  refine pure_of (spec_of mixed low_ref03_Format (by simp [ir_ref03_Format]) ?_)
  have hch := fun own => sp_rcheck W0 own i
  unfold fmtM
  by_cases h0 : icheck i = 0
  · rw [if_pos h0]
    rw [h0] at hch
    obtain ⟨ho, rA, rB, rC, hi⟩ := fmt_regs h0
    obtain ⟨_, _, hh⟩ := head_words h0
    have hL := hA.lib
    have hrm := fun own => sp_rform W0 own i.op ho
    have hnm := fun own => sp_rnm (W0 := W0) (own := own) i.op ho
    have hfn := fun own => sp_rname W0 own i.imm
    have him : ∀ own, Pure Tryz.prog W0 36 [.int .i64 i.imm] own (.string (bW (Go.Lib.itoa i.imm))) := fun own => sp_itoa (own := own) hA.lib h1 h2
    have hsm : (bW (Go.Lib.itoa i.imm)).size ≤ 21 := by rw [bW_size]; exact Go.Lib.itoa_length_le _ h1 h2
    have hs1 : (⟨#[32]⟩ : ByteArray).size = 1 := rfl
    have hs2 : (⟨#[32, 114]⟩ : ByteArray).size = 2 := rfl
    have key : ∀ r : Int, (0 ≤ r ∧ r < 8) → (∀ own, Pure Tryz.prog W0 36 [.int .i64 r] own (.string (bW (Go.Lib.itoa r)))) ∧ (bW (Go.Lib.itoa r)).size ≤ 21 := fun r h =>
      ⟨fun own => sp_itoa (own := own) hA.lib (by omega) (by omega), by rw [bW_size]; exact Go.Lib.itoa_length_le _ (by omega) (by omega)⟩
    have hw : ∃ w0 : ByteArray, headW i = w0.data.toList ∧ w0.size ≤ 21 ∧ (i.op ≠ 3 → nmAt i.op.toNat = w0) ∧ (i.op = 3 → nameM i.imm = w0) := by
      refine ⟨bW (headW i), by simp [bW], by rw [bW_size]; exact hh, fun h3 => ?_, fun h3 => ?_⟩
      · unfold headW; rw [if_neg h3]; exact (ba_mk _).symm
      · unfold headW; rw [if_pos h3]
        rw [h3] at hi
        have hi : 0 ≤ i.imm ∧ i.imm < 22 := hi
        unfold nameM; rw [if_pos hi]; exact (ba_mk _).symm
    obtain ⟨w0, hw0, hws, hn1, hn2⟩ := hw
    have hfm : fmtB i = bW (Go.Lib.join (w0.data.toList :: (opAt i.op.toNat).data.toList.map (opdW i)) [32]) := by rw [← hw0]; rfl
    rw [hfm]
    obtain ⟨op, a, b, c, m⟩ := i
    dsimp only at *
    have hz : op = 0 ∨ op = 1 ∨ op = 2 ∨ op = 3 ∨ op = 4 ∨ op = 5 ∨ op = 6 ∨ op = 7 ∨ op = 8 ∨ op = 9 ∨ op = 10 ∨ op = 11 ∨ op = 12 ∨ op = 13 ∨ op = 14 ∨ op = 15 ∨ op = 16 ∨ op = 17 := by omega
    clear hfm hw0 hh h0 hi
    rcases hz with rfl | rfl | rfl | rfl | rfl | rfl | rfl | rfl | rfl | rfl | rfl | rfl | rfl | rfl | rfl | rfl | rfl | rfl
    all_goals
      first | rw [hn1 (by decide)] at hnm | rw [hn2 rfl] at hfn
      first | have kA := key a rA | skip
      first | have kB := key b rB | skip
      first | have kC := key c rC | skip
      first | obtain ⟨iA, sA⟩ := kA | (have iA := hch; skip)
      first | obtain ⟨iB, sB⟩ := kB | (have iB := hch; skip)
      first | obtain ⟨iC, sC⟩ := kC | (have iC := hch; skip)
      repeat' ((try (conv => whnf)); first | (refine when_ye ?_ ?_; exact rfl) | (refine when_ne ?_ ?_; exact rfl) | (refine br_te ?_ ?_; exact rfl) | (refine br_fe ?_ ?_; exact rfl) | (apply br_pyE; (exact rfl); omega) | (apply br_pnE; (exact rfl); omega) | (apply when_pyE; (exact rfl); omega) | (apply when_pnE; (exact rfl); omega) | (apply br_npyE; (exact rfl); omega) | (apply br_npnE; (exact rfl); omega) | (apply when_npyE; (exact rfl); omega) | (apply when_npnE; (exact rfl); omega) | (refine p_rhas true rfl rfl ?_) | (refine p_rhas false rfl rfl ?_) | (refine SctT.mk ⟨?_, ?_⟩; (first | omega | (simp only [ByteArray.size_append]; omega))) | ((with_reducible show CallT _ _ _ _ _ _); first | ((refine call_pe (hch _) ?_ ?_ ?_; (exact rfl); exact rfl)) | ((refine call_pe (hrm _) ?_ ?_ ?_; (exact rfl); exact rfl)) | ((refine call_pe (hnm _) ?_ ?_ ?_; (exact rfl); exact rfl)) | ((refine call_pe (hfn _) ?_ ?_ ?_; (exact rfl); exact rfl)) | ((refine call_pe (iA _) ?_ ?_ ?_; (exact rfl); exact rfl)) | ((refine call_pe (iB _) ?_ ?_ ?_; (exact rfl); exact rfl)) | ((refine call_pe (iC _) ?_ ?_ ?_; (exact rfl); exact rfl)) | ((refine call_pe (him _) ?_ ?_ ?_; (exact rfl); exact rfl))) | (refine ari ?_ ?_; omega) | (refine aru ?_ ?_; omega) | (apply sel; exact rfl) | (refine ix0 rfl ?_) | (refine ix1 rfl ?_) | (refine ix2 rfl ?_) | (refine ix3 rfl ?_) | (apply ixj; omega) | (refine ixn ?_ ?_; omega) | (refine ixs0 rfl ?_) | (refine ixs1 rfl ?_) | (refine ixs_j ?_ ?_; omega) | (refine ixs_n ?_ ?_; omega) | (apply ld_o; exact rfl) | (apply ldN_a; exact rfl) | (apply ldN_o; (exact rfl); exact rfl) | (apply st_o; (exact rfl); exact rfl) | (apply stN_o; (exact rfl); (exact rfl); exact rfl) | (refine new_i (fun bk hbk => ?_)) | (apply when_dE; (exact rfl); (exact rfl); all_goals intro hc) | (apply when_dF; (exact rfl); (exact rfl); all_goals intro hc) | (apply when_nE; (exact rfl); (exact rfl); all_goals intro hc) | (apply when_nF; (exact rfl); (exact rfl); all_goals intro hc) | (apply br_dE; (exact rfl); all_goals intro hc) | (apply br_nE; (exact rfl); all_goals intro hc) | (refine mm_min ?_) | (refine mm_max ?_) | (refine rem_i ?_ ?_; omega) | (refine SelN.mk ?_) | (refine cut_n ?_) | (refine Both.mk ?_ ?_) | (exact True.intro))
      exact ⟨ret2 (vstr (ba_ext (by simp [opAt, op18, opdW, regW, bW, Go.Lib.join, List.intercalate, ByteArray.data_append]))) rfl, (by first | exact ent_i | (repeat (first | exact Ent.refl | exact Ent.left | refine Ent.cons ?_ | refine Ent.app ?_)))⟩
  · rw [if_neg h0]
    obtain ⟨op, a, b, c, m⟩ := i
    repeat' ((try (conv => whnf)); first | (refine when_ye ?_ ?_; exact rfl) | (refine when_ne ?_ ?_; exact rfl) | (refine br_te ?_ ?_; exact rfl) | (refine br_fe ?_ ?_; exact rfl) | (apply br_pyE; (exact rfl); omega) | (apply br_pnE; (exact rfl); omega) | (apply when_pyE; (exact rfl); omega) | (apply when_pnE; (exact rfl); omega) | (apply br_npyE; (exact rfl); omega) | (apply br_npnE; (exact rfl); omega) | (apply when_npyE; (exact rfl); omega) | (apply when_npnE; (exact rfl); omega) | ((with_reducible show CallT _ _ _ _ _ _); first | ((refine call_pe (hch _) ?_ ?_ ?_; (exact rfl); exact rfl))) | (refine ari ?_ ?_; omega) | (refine aru ?_ ?_; omega) | (apply sel; exact rfl) | (refine ix0 rfl ?_) | (refine ix1 rfl ?_) | (refine ix2 rfl ?_) | (refine ix3 rfl ?_) | (apply ixj; omega) | (refine ixn ?_ ?_; omega) | (refine ixs0 rfl ?_) | (refine ixs1 rfl ?_) | (refine ixs_j ?_ ?_; omega) | (refine ixs_n ?_ ?_; omega) | (apply ld_o; exact rfl) | (apply ldN_a; exact rfl) | (apply ldN_o; (exact rfl); exact rfl) | (apply st_o; (exact rfl); exact rfl) | (apply stN_o; (exact rfl); (exact rfl); exact rfl) | (refine new_i (fun bk hbk => ?_)) | (apply when_dE; (exact rfl); (exact rfl); all_goals intro hc) | (apply when_dF; (exact rfl); (exact rfl); all_goals intro hc) | (apply when_nE; (exact rfl); (exact rfl); all_goals intro hc) | (apply when_nF; (exact rfl); (exact rfl); all_goals intro hc) | (apply br_dE; (exact rfl); all_goals intro hc) | (apply br_nE; (exact rfl); all_goals intro hc) | (refine mm_min ?_) | (refine mm_max ?_) | (refine rem_i ?_ ?_; omega) | (refine SelN.mk ?_) | (refine cut_n ?_) | (refine Both.mk ?_ ?_) | (exact True.intro))
    exact ⟨rfl, (by first | exact ent_i | (repeat (first | exact Ent.refl | exact Ent.left | refine Ent.cons ?_ | refine Ent.app ?_)))⟩
end
end Go.Proofs.YtiimndcifcoofaaGreatDoor
