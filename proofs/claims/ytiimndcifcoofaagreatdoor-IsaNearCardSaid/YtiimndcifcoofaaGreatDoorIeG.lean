/- isa: the document's Format. No condition. -/
import Derived.Test.YtiimndcifcoofaaGreatDoorIeF
import Derived.Test.YtiimndcifcoofaaGreatDoorIsC
namespace Go.Proofs.YtiimndcifcoofaaGreatDoor
open Go Go.RowKit
set_option maxRecDepth 10000
set_option maxHeartbeats 4000000
theorem sp_rname (W0 : World) (own : Own) (fn : Int) : Pure Tryz.prog W0 40 [.int .i64 fn] own (.string (nameM fn)) := by
  refine pure_of (spec_of mixed low_ref02_Name (by simp [ir_ref02_Name]) ?_)
  by_cases h : 0 ≤ fn ∧ fn < 22
  · have e : 0 + fn.toNat * 1 = fn.toNat := by omega
    have hk := nmV_get (j := 0 + fn.toNat * 1) (by omega)
    repeat' ((try (conv => whnf)); first | (refine when_ye ?_ ?_; exact rfl) | (refine when_ne ?_ ?_; exact rfl) | (refine br_te ?_ ?_; exact rfl) | (refine br_fe ?_ ?_; exact rfl) | (apply br_pyE; (exact rfl); omega) | (apply br_pnE; (exact rfl); omega) | (apply when_pyE; (exact rfl); omega) | (apply when_pnE; (exact rfl); omega) | (apply br_npyE; (exact rfl); omega) | (apply br_npnE; (exact rfl); omega) | (apply when_npyE; (exact rfl); omega) | (apply when_npnE; (exact rfl); omega) | (refine ld_own _ (List.Mem.head _) hk ?_) | ((with_reducible show CallT _ _ _ _ _ _); first | ((refine call_se (sp_rnames _ _) ?_ ?_ (fun v own' hv => ?_); (exact rfl); (exact rfl); (obtain ⟨b, rfl, rfl⟩ := hv)))) | (refine ari ?_ ?_; omega) | (refine aru ?_ ?_; omega) | (apply sel; exact rfl) | (refine ix0 rfl ?_) | (refine ix1 rfl ?_) | (refine ix2 rfl ?_) | (refine ix3 rfl ?_) | (apply ixj; omega) | (refine ixn ?_ ?_; omega) | (refine ixs0 rfl ?_) | (refine ixs1 rfl ?_) | (refine ixs_j ?_ ?_; omega) | (refine ixs_n ?_ ?_; omega) | (apply ld_o; exact rfl) | (apply ldN_a; exact rfl) | (apply ldN_o; (exact rfl); exact rfl) | (apply st_o; (exact rfl); exact rfl) | (apply stN_o; (exact rfl); (exact rfl); exact rfl) | (refine new_i (fun bk hbk => ?_)) | (apply when_dE; (exact rfl); (exact rfl); all_goals intro hc) | (apply when_dF; (exact rfl); (exact rfl); all_goals intro hc) | (apply when_nE; (exact rfl); (exact rfl); all_goals intro hc) | (apply when_nF; (exact rfl); (exact rfl); all_goals intro hc) | (apply br_dE; (exact rfl); all_goals intro hc) | (apply br_nE; (exact rfl); all_goals intro hc) | (refine mm_min ?_) | (refine mm_max ?_) | (refine rem_i ?_ ?_; omega) | (refine SelN.mk ?_) | (refine cut_n ?_) | (refine Both.mk ?_ ?_) | (exact True.intro))
    all_goals (refine ⟨?_, (by first | exact ent_i | (repeat (first | exact Ent.refl | exact Ent.left | refine Ent.cons ?_ | refine Ent.app ?_)))⟩; rw [e]; simp [nameM, h, resV])
  · repeat' ((try (conv => whnf)); first | (refine when_ye ?_ ?_; exact rfl) | (refine when_ne ?_ ?_; exact rfl) | (refine br_te ?_ ?_; exact rfl) | (refine br_fe ?_ ?_; exact rfl) | (apply br_pyE; (exact rfl); omega) | (apply br_pnE; (exact rfl); omega) | (apply when_pyE; (exact rfl); omega) | (apply when_pnE; (exact rfl); omega) | (apply br_npyE; (exact rfl); omega) | (apply br_npnE; (exact rfl); omega) | (apply when_npyE; (exact rfl); omega) | (apply when_npnE; (exact rfl); omega) | (refine ari ?_ ?_; omega) | (refine aru ?_ ?_; omega) | (apply sel; exact rfl) | (refine ix0 rfl ?_) | (refine ix1 rfl ?_) | (refine ix2 rfl ?_) | (refine ix3 rfl ?_) | (apply ixj; omega) | (refine ixn ?_ ?_; omega) | (refine ixs0 rfl ?_) | (refine ixs1 rfl ?_) | (refine ixs_j ?_ ?_; omega) | (refine ixs_n ?_ ?_; omega) | (apply ld_o; exact rfl) | (apply ldN_a; exact rfl) | (apply ldN_o; (exact rfl); exact rfl) | (apply st_o; (exact rfl); exact rfl) | (apply stN_o; (exact rfl); (exact rfl); exact rfl) | (refine new_i (fun bk hbk => ?_)) | (apply when_dE; (exact rfl); (exact rfl); all_goals intro hc) | (apply when_dF; (exact rfl); (exact rfl); all_goals intro hc) | (apply when_nE; (exact rfl); (exact rfl); all_goals intro hc) | (apply when_nF; (exact rfl); (exact rfl); all_goals intro hc) | (apply br_dE; (exact rfl); all_goals intro hc) | (apply br_nE; (exact rfl); all_goals intro hc) | (refine mm_min ?_) | (refine mm_max ?_) | (refine rem_i ?_ ?_; omega) | (refine SelN.mk ?_) | (refine cut_n ?_) | (refine Both.mk ?_ ?_) | (exact True.intro))
    all_goals (refine ⟨?_, (by first | exact ent_i | (repeat (first | exact Ent.refl | exact Ent.left | refine Ent.cons ?_ | refine Ent.app ?_)))⟩; simp [nameM, h, resV])
theorem vstr {a b : ByteArray} (h : a = b) : Value.string a = .string b := by rw [h]
section
variable {W0 : World} {own : Own}
theorem sp_rfmt (hA : IsaAt W0) (i : Ins) (h1 : -9223372036854775808 ≤ i.imm) (h2 : i.imm ≤ 9223372036854775807) : Pure Tryz.prog W0 12 [i.v] own (.tuple #[.string (fmtM i).1, .int .i64 (fmtM i).2]) := by
  refine pure_of (spec_of mixed low_ref03_Format (by simp [ir_ref03_Format]) ?_)
  have hch := fun own => sp_rcheck W0 own i
  unfold fmtM
  by_cases h0 : icheck i = 0
  · rw [if_pos h0]
    rw [h0] at hch
    obtain ⟨ho, rA, rB, rC, hi⟩ := fmt_regs h0
    obtain ⟨_, _, hh⟩ := head_words h0
    have hL := hA.lib
    have hrm := fun own => sp_rform W0 own i.op ho
    have hnm := fun own => sp_rnm (W0 := W0) (own := own) i.op ho
    have hfn := fun own => sp_rname W0 own i.imm
    have him : ∀ own, Pure Tryz.prog W0 36 [.int .i64 i.imm] own (.string (bW (Go.Lib.itoa i.imm))) := fun own => sp_itoa (own := own) hA.lib h1 h2
    have hsm : (bW (Go.Lib.itoa i.imm)).size ≤ 21 := by rw [bW_size]; exact Go.Lib.itoa_length_le _ h1 h2
    have hs1 : (⟨#[32]⟩ : ByteArray).size = 1 := rfl
    have hs2 : (⟨#[32, 114]⟩ : ByteArray).size = 2 := rfl
    have key : ∀ r : Int, (0 ≤ r ∧ r < 8) → (∀ own, Pure Tryz.prog W0 36 [.int .i64 r] own (.string (bW (Go.Lib.itoa r)))) ∧ (bW (Go.Lib.itoa r)).size ≤ 21 := fun r h =>
      ⟨fun own => sp_itoa (own := own) hA.lib (by omega) (by omega), by rw [bW_size]; exact Go.Lib.itoa_length_le _ (by omega) (by omega)⟩
    have hw : ∃ w0 : ByteArray, headW i = w0.data.toList ∧ w0.size ≤ 21 ∧ (i.op ≠ 3 → nmAt i.op.toNat = w0) ∧ (i.op = 3 → nameM i.imm = w0) := by
      refine ⟨bW (headW i), by simp [bW], by rw [bW_size]; exact hh, fun h3 => ?_, fun h3 => ?_⟩
      · unfold headW; rw [if_neg h3]; exact (ba_mk _).symm
      · unfold headW; rw [if_pos h3]
        rw [h3] at hi
        have hi : 0 ≤ i.imm ∧ i.imm < 22 := hi
        unfold nameM; rw [if_pos hi]; exact (ba_mk _).symm
    obtain ⟨w0, hw0, hws, hn1, hn2⟩ := hw
    have hfm : fmtB i = bW (Go.Lib.join (w0.data.toList :: (opAt i.op.toNat).data.toList.map (opdW i)) [32]) := by rw [← hw0]; rfl
    rw [hfm]
    obtain ⟨op, a, b, c, m⟩ := i
    dsimp only at *
    have hz : op = 0 ∨ op = 1 ∨ op = 2 ∨ op = 3 ∨ op = 4 ∨ op = 5 ∨ op = 6 ∨ op = 7 ∨ op = 8 ∨ op = 9 ∨ op = 10 ∨ op = 11 ∨ op = 12 ∨ op = 13 ∨ op = 14 ∨ op = 15 ∨ op = 16 ∨ op = 17 := by omega
    clear hfm hw0 hh h0 hi
    rcases hz with rfl | rfl | rfl | rfl | rfl | rfl | rfl | rfl | rfl | rfl | rfl | rfl | rfl | rfl | rfl | rfl | rfl | rfl
    all_goals
      first | rw [hn1 (by decide)] at hnm | rw [hn2 rfl] at hfn
      first | have kA := key a rA | skip
      first | have kB := key b rB | skip
      first | have kC := key c rC | skip
      first | obtain ⟨iA, sA⟩ := kA | (have iA := hch; skip)
      first | obtain ⟨iB, sB⟩ := kB | (have iB := hch; skip)
      first | obtain ⟨iC, sC⟩ := kC | (have iC := hch; skip)
      repeat' ((try (conv => whnf)); first | (refine when_ye ?_ ?_; exact rfl) | (refine when_ne ?_ ?_; exact rfl) | (refine br_te ?_ ?_; exact rfl) | (refine br_fe ?_ ?_; exact rfl) | (apply br_pyE; (exact rfl); omega) | (apply br_pnE; (exact rfl); omega) | (apply when_pyE; (exact rfl); omega) | (apply when_pnE; (exact rfl); omega) | (apply br_npyE; (exact rfl); omega) | (apply br_npnE; (exact rfl); omega) | (apply when_npyE; (exact rfl); omega) | (apply when_npnE; (exact rfl); omega) | (refine p_rhas true rfl rfl ?_) | (refine p_rhas false rfl rfl ?_) | (refine SctT.mk ⟨?_, ?_⟩; (first | omega | (simp only [ByteArray.size_append]; omega))) | ((with_reducible show CallT _ _ _ _ _ _); first | ((refine call_pe (hch _) ?_ ?_ ?_; (exact rfl); exact rfl)) | ((refine call_pe (hrm _) ?_ ?_ ?_; (exact rfl); exact rfl)) | ((refine call_pe (hnm _) ?_ ?_ ?_; (exact rfl); exact rfl)) | ((refine call_pe (hfn _) ?_ ?_ ?_; (exact rfl); exact rfl)) | ((refine call_pe (iA _) ?_ ?_ ?_; (exact rfl); exact rfl)) | ((refine call_pe (iB _) ?_ ?_ ?_; (exact rfl); exact rfl)) | ((refine call_pe (iC _) ?_ ?_ ?_; (exact rfl); exact rfl)) | ((refine call_pe (him _) ?_ ?_ ?_; (exact rfl); exact rfl))) | (refine ari ?_ ?_; omega) | (refine aru ?_ ?_; omega) | (apply sel; exact rfl) | (refine ix0 rfl ?_) | (refine ix1 rfl ?_) | (refine ix2 rfl ?_) | (refine ix3 rfl ?_) | (apply ixj; omega) | (refine ixn ?_ ?_; omega) | (refine ixs0 rfl ?_) | (refine ixs1 rfl ?_) | (refine ixs_j ?_ ?_; omega) | (refine ixs_n ?_ ?_; omega) | (apply ld_o; exact rfl) | (apply ldN_a; exact rfl) | (apply ldN_o; (exact rfl); exact rfl) | (apply st_o; (exact rfl); exact rfl) | (apply stN_o; (exact rfl); (exact rfl); exact rfl) | (refine new_i (fun bk hbk => ?_)) | (apply when_dE; (exact rfl); (exact rfl); all_goals intro hc) | (apply when_dF; (exact rfl); (exact rfl); all_goals intro hc) | (apply when_nE; (exact rfl); (exact rfl); all_goals intro hc) | (apply when_nF; (exact rfl); (exact rfl); all_goals intro hc) | (apply br_dE; (exact rfl); all_goals intro hc) | (apply br_nE; (exact rfl); all_goals intro hc) | (refine mm_min ?_) | (refine mm_max ?_) | (refine rem_i ?_ ?_; omega) | (refine SelN.mk ?_) | (refine cut_n ?_) | (refine Both.mk ?_ ?_) | (exact True.intro))
      exact ⟨ret2 (vstr (ba_ext (by simp [opAt, op18, opdW, regW, bW, Go.Lib.join, List.intercalate, ByteArray.data_append]))) rfl, (by first | exact ent_i | (repeat (first | exact Ent.refl | exact Ent.left | refine Ent.cons ?_ | refine Ent.app ?_)))⟩
  · rw [if_neg h0]
    obtain ⟨op, a, b, c, m⟩ := i
    repeat' ((try (conv => whnf)); first | (refine when_ye ?_ ?_; exact rfl) | (refine when_ne ?_ ?_; exact rfl) | (refine br_te ?_ ?_; exact rfl) | (refine br_fe ?_ ?_; exact rfl) | (apply br_pyE; (exact rfl); omega) | (apply br_pnE; (exact rfl); omega) | (apply when_pyE; (exact rfl); omega) | (apply when_pnE; (exact rfl); omega) | (apply br_npyE; (exact rfl); omega) | (apply br_npnE; (exact rfl); omega) | (apply when_npyE; (exact rfl); omega) | (apply when_npnE; (exact rfl); omega) | ((with_reducible show CallT _ _ _ _ _ _); first | ((refine call_pe (hch _) ?_ ?_ ?_; (exact rfl); exact rfl))) | (refine ari ?_ ?_; omega) | (refine aru ?_ ?_; omega) | (apply sel; exact rfl) | (refine ix0 rfl ?_) | (refine ix1 rfl ?_) | (refine ix2 rfl ?_) | (refine ix3 rfl ?_) | (apply ixj; omega) | (refine ixn ?_ ?_; omega) | (refine ixs0 rfl ?_) | (refine ixs1 rfl ?_) | (refine ixs_j ?_ ?_; omega) | (refine ixs_n ?_ ?_; omega) | (apply ld_o; exact rfl) | (apply ldN_a; exact rfl) | (apply ldN_o; (exact rfl); exact rfl) | (apply st_o; (exact rfl); exact rfl) | (apply stN_o; (exact rfl); (exact rfl); exact rfl) | (refine new_i (fun bk hbk => ?_)) | (apply when_dE; (exact rfl); (exact rfl); all_goals intro hc) | (apply when_dF; (exact rfl); (exact rfl); all_goals intro hc) | (apply when_nE; (exact rfl); (exact rfl); all_goals intro hc) | (apply when_nF; (exact rfl); (exact rfl); all_goals intro hc) | (apply br_dE; (exact rfl); all_goals intro hc) | (apply br_nE; (exact rfl); all_goals intro hc) | (refine mm_min ?_) | (refine mm_max ?_) | (refine rem_i ?_ ?_; omega) | (refine SelN.mk ?_) | (refine cut_n ?_) | (refine Both.mk ?_ ?_) | (exact True.intro))
    exact ⟨rfl, (by first | exact ent_i | (repeat (first | exact Ent.refl | exact Ent.left | refine Ent.cons ?_ | refine Ent.app ?_)))⟩
end
end Go.Proofs.YtiimndcifcoofaaGreatDoor
