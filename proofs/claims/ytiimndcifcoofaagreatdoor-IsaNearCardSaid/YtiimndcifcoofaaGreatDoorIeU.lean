/- isa: instructions of the laws, and the walk of IsaUses. No condition. -/
import Derived.Test.YtiimndcifcoofaaGreatDoorIdC
import Derived.Test.YtiimndcifcoofaaGreatDoorIcL
namespace Go.Proofs.YtiimndcifcoofaaGreatDoor
open Go Go.RowKit
set_option maxRecDepth 10000
set_option maxHeartbeats 4000000
def nearI (op a b c imm : Int) : Ins := ⟨plc op 19, plc a 9, plc b 9, plc c 9, plc imm 70 - 2⟩
theorem uses_asc (i : Ins) : (usesM i).Pairwise (· < ·) := by
  unfold usesM
  split
  · exact (cmp_spec (srt_sorted (rawU i))).1
  · exact List.Pairwise.nil
theorem uses_rng {i : Ins} : ∀ x ∈ usesM i, 0 ≤ x ∧ x < 8 := by
  intro x hx
  unfold usesM at hx
  split at hx
  · rename_i h
    have hm : x ∈ rawU i := srt_mem.1 (((cmp_spec (srt_sorted (rawU i))).2.1 x).1 hx)
    have ho := op_rng h
    obtain ⟨op, a, b, c, m⟩ := i
    dsimp only at ho
    unfold icheck at h
    dsimp only at h
    rw [if_neg (by omega)] at h
    split at h
    · rename_i hr
      have hw : op = 0 ∨ op = 1 ∨ op = 2 ∨ op = 3 ∨ op = 4 ∨ op = 5 ∨ op = 6 ∨ op = 7 ∨ op = 8 ∨ op = 9 ∨ op = 10 ∨ op = 11 ∨ op = 12 ∨ op = 13 ∨ op = 14 ∨ op = 15 ∨ op = 16 ∨ op = 17 := by omega
      unfold rawU at hm
      rcases hw with rfl | rfl | rfl | rfl | rfl | rfl | rfl | rfl | rfl | rfl | rfl | rfl | rfl | rfl | rfl | rfl | rfl | rfl <;> simp at hm <;> simp [regOk, useA, useB, useC] at hr <;> omega
    · omega
  · cases hx
theorem uses_no {i : Ins} (h : icheck i ≠ 0) : usesM i = [] := by unfold usesM; rw [if_neg h]
theorem sets_rng (i : Ins) : -1 ≤ isets i ∧ isets i < 8 ∧ (icheck i ≠ 0 → isets i = -1) := by
  unfold isets
  split
  · rename_i h
    obtain ⟨h0, h1⟩ := h
    refine ⟨?_, ?_, fun h => absurd h0 h⟩
    all_goals
      unfold icheck at h0
      split at h0
      · omega
      · split at h0
        · rename_i hr
          obtain ⟨op, a, b, c, m⟩ := i
          dsimp only at *
          rcases h1 with rfl | rfl | rfl | rfl | rfl | rfl | rfl <;> simp [regOk, useA, useB, useC] at hr <;> omega
        · omega
  · exact ⟨by omega, by omega, fun _ => rfl⟩
theorem place_no {i : Ins} (h : icheck i ≠ 0) : iplace i = 0 := by unfold iplace; rw [if_neg h]
theorem skips_facts {i : Ins} (h : iskips i = true) : iplace i = 0 ∧ isets i = -1 := by
  unfold iskips at h
  have h := of_decide_eq_true h
  unfold iplace isets
  obtain ⟨h0, h1⟩ := h
  rw [if_pos h0]
  constructor
  · rw [if_neg (by omega), if_neg (by omega)]
  · rw [if_neg (by omega)]
section
variable {W0 : World} {own : Own}
theorem sp_near (op a b c imm : Int) : Pure Tryz.prog W0 10 [.int .i64 op, .int .i64 a, .int .i64 b, .int .i64 c, .int .i64 imm] own (nearI op a b c imm).v := by
  refine pure_of (spec_of mixed low_law03_near (by simp [ir_law03_near]) ?_)
  have h1 := fun own => sp_place W0 own op (n := 19) ⟨by omega, by omega⟩
  have h2 := fun own => sp_place W0 own a (n := 9) ⟨by omega, by omega⟩
  have h3 := fun own => sp_place W0 own b (n := 9) ⟨by omega, by omega⟩
  have h4 := fun own => sp_place W0 own c (n := 9) ⟨by omega, by omega⟩
  have h5 := fun own => sp_place W0 own imm (n := 70) ⟨by omega, by omega⟩
  have hr := plc_rng imm (n := 70) (by omega)
  repeat' ((try (conv => whnf)); first | (refine when_ye ?_ ?_; exact rfl) | (refine when_ne ?_ ?_; exact rfl) | (refine br_te ?_ ?_; exact rfl) | (refine br_fe ?_ ?_; exact rfl) | (apply br_pyE; (exact rfl); omega) | (apply br_pnE; (exact rfl); omega) | (apply when_pyE; (exact rfl); omega) | (apply when_pnE; (exact rfl); omega) | (apply br_npyE; (exact rfl); omega) | (apply br_npnE; (exact rfl); omega) | (apply when_npyE; (exact rfl); omega) | (apply when_npnE; (exact rfl); omega) | ((with_reducible show CallT _ _ _ _ _ _); first | ((refine call_pe (h1 _) ?_ ?_ ?_; (exact rfl); exact rfl)) | ((refine call_pe (h2 _) ?_ ?_ ?_; (exact rfl); exact rfl)) | ((refine call_pe (h3 _) ?_ ?_ ?_; (exact rfl); exact rfl)) | ((refine call_pe (h4 _) ?_ ?_ ?_; (exact rfl); exact rfl)) | ((refine call_pe (h5 _) ?_ ?_ ?_; (exact rfl); exact rfl))) | ((with_reducible show CallQ _ _ _ _ _ _); first | ((refine call_qq (fun _ => h1 _) ?_ ?_ ?_; (exact rfl); exact rfl)) | ((refine call_qq (fun _ => h2 _) ?_ ?_ ?_; (exact rfl); exact rfl)) | ((refine call_qq (fun _ => h3 _) ?_ ?_ ?_; (exact rfl); exact rfl)) | ((refine call_qq (fun _ => h4 _) ?_ ?_ ?_; (exact rfl); exact rfl)) | ((refine call_qq (fun _ => h5 _) ?_ ?_ ?_; (exact rfl); exact rfl))) | (refine ari ?_ ?_; omega) | (refine aru ?_ ?_; omega) | (apply sel; exact rfl) | (refine ix0 rfl ?_) | (refine ix1 rfl ?_) | (refine ix2 rfl ?_) | (refine ix3 rfl ?_) | (apply ixj; omega) | (refine ixn ?_ ?_; omega) | (refine ixs0 rfl ?_) | (refine ixs1 rfl ?_) | (refine ixs_j ?_ ?_; omega) | (refine ixs_n ?_ ?_; omega) | (apply ld_o; exact rfl) | (apply ldN_a; exact rfl) | (apply ldN_o; (exact rfl); exact rfl) | (apply st_o; (exact rfl); exact rfl) | (apply stN_o; (exact rfl); (exact rfl); exact rfl) | (refine new_i (fun bk hbk => ?_)) | (apply when_dE; (exact rfl); (exact rfl); all_goals intro hc) | (apply when_dF; (exact rfl); (exact rfl); all_goals intro hc) | (apply when_nE; (exact rfl); (exact rfl); all_goals intro hc) | (apply when_nF; (exact rfl); (exact rfl); all_goals intro hc) | (apply br_dE; (exact rfl); all_goals intro hc) | (apply br_nE; (exact rfl); all_goals intro hc) | (refine mm_min ?_) | (refine mm_max ?_) | (refine rem_i ?_ ?_; omega) | (refine SelN.mk ?_) | (refine cut_n ?_) | (refine Both.mk ?_ ?_) | (exact True.intro))
  exact ⟨rfl, (by first | exact ent_i | (repeat (first | exact Ent.refl | exact Ent.left | refine Ent.cons ?_ | refine Ent.app ?_)))⟩
end
end Go.Proofs.YtiimndcifcoofaaGreatDoor
