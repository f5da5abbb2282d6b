/- isa: a register and a number in words, both sides. No condition. -/
import Derived.Test.YtiimndcifcoofaaDoorIcA
import Derived.Test.YtiimndcifcoofaaDoorIRref03
namespace Go.Proofs.YtiimndcifcoofaaDoor
open Go Go.RowKit
set_option maxRecDepth 10000
set_option maxHeartbeats 4000000
def regM (s : ByteArray) : Int × Bool := match s.data.toList with
  | [c, d] => if (c.toNat : Int) = 114 ∧ 48 ≤ (d.toNat : Int) ∧ (d.toNat : Int) ≤ 55 then ((d.toNat : Int) - 48, true) else (0, false)
  | _ => (0, false)
theorem reg_no {s : ByteArray} (h : s.size ≠ 2) : regM s = (0, false) := by
  have hl : s.data.toList.length = s.size := by simp
  unfold regM
  split
  · rename_i c d e
    rw [e] at hl
    exact absurd hl.symm h
  · rfl
theorem wrap_u8 {e : Int} (h1 : 0 ≤ e) (h2 : e ≤ 255) : IntKind.u8.wrap e = e := by
  unfold IntKind.wrap
  simp [IntKind.signed, IntKind.bits]
  omega
section
variable {W0 : World} {own : Own}
theorem sp_register0 (s : ByteArray) : Pure Tryd.prog W0 36 [.string s] own (.tuple #[.int .i64 (regM s).1, .bool (regM s).2]) := by
  refine pure_of (spec_of mixed low_isa_register (by simp [ir_isa_register]) ?_)
  have hl : s.data.toList.length = s.size := by simp
  by_cases h2 : (s.size : Int) = 2
  · obtain ⟨c, d, e⟩ : ∃ c d, s.data.toList = [c, d] := by
      match s.data.toList, hl with
      | [c, d], _ => exact ⟨c, d, rfl⟩
      | [], h => simp at h; omega
      | [c], h => simp at h; omega
      | _ :: _ :: _ :: _, h => simp at h; omega
    have h0 : s.data.toList[0]? = some c := by rw [e]; rfl
    have h1 : s.data.toList[1]? = some d := by rw [e]; rfl
    have hr : regM s = if (c.toNat : Int) = 114 ∧ 48 ≤ (d.toNat : Int) ∧ (d.toNat : Int) ≤ 55 then ((d.toNat : Int) - 48, true) else (0, false) := by unfold regM; rw [e]
    have hd := d.toNat_lt
    by_cases hc1 : (c.toNat : Int) = 114
    · by_cases hd1 : (d.toNat : Int) < 48
      · rw [hr, if_neg (by omega)]
        repeat' ((try (conv => whnf)); first | (refine when_ye ?_ ?_; exact rfl) | (refine when_ne ?_ ?_; exact rfl) | (refine br_te ?_ ?_; exact rfl) | (refine br_fe ?_ ?_; exact rfl) | (apply br_pyE; (exact rfl); omega) | (apply br_pnE; (exact rfl); omega) | (apply when_pyE; (exact rfl); omega) | (apply when_pnE; (exact rfl); omega) | (apply br_npyE; (exact rfl); omega) | (apply br_npnE; (exact rfl); omega) | (apply when_npyE; (exact rfl); omega) | (apply when_npnE; (exact rfl); omega) | (refine ⟨0, c, rfl, h0, ?_⟩) | (refine ⟨1, d, rfl, h1, ?_⟩) | (refine ari ?_ ?_; omega) | (refine aru ?_ ?_; omega) | (apply sel; exact rfl) | (refine ix0 rfl ?_) | (refine ix1 rfl ?_) | (refine ix2 rfl ?_) | (refine ix3 rfl ?_) | (apply ixj; omega) | (refine ixn ?_ ?_; omega) | (refine ixs0 rfl ?_) | (refine ixs1 rfl ?_) | (refine ixs_j ?_ ?_; omega) | (refine ixs_n ?_ ?_; omega) | (apply ld_o; exact rfl) | (apply ldN_a; exact rfl) | (apply ldN_o; (exact rfl); exact rfl) | (apply st_o; (exact rfl); exact rfl) | (apply stN_o; (exact rfl); (exact rfl); exact rfl) | (refine new_i (fun bk hbk => ?_)) | (apply when_dE; (exact rfl); (exact rfl); all_goals intro hc) | (apply when_dF; (exact rfl); (exact rfl); all_goals intro hc) | (apply when_nE; (exact rfl); (exact rfl); all_goals intro hc) | (apply when_nF; (exact rfl); (exact rfl); all_goals intro hc) | (apply br_dE; (exact rfl); all_goals intro hc) | (apply br_nE; (exact rfl); all_goals intro hc) | (refine mm_min ?_) | (refine mm_max ?_) | (refine rem_i ?_ ?_; omega) | (refine SelN.mk ?_) | (refine cut_n ?_) | (refine Both.mk ?_ ?_) | (exact True.intro))
        exact ⟨rfl, (by first | exact ent_i | (repeat (first | exact Ent.refl | exact Ent.left | refine Ent.cons ?_ | refine Ent.app ?_)))⟩
      · by_cases hd2 : (d.toNat : Int) ≤ 55
        · rw [hr, if_pos (by omega)]
          repeat' ((try (conv => whnf)); first | (refine when_ye ?_ ?_; exact rfl) | (refine when_ne ?_ ?_; exact rfl) | (refine br_te ?_ ?_; exact rfl) | (refine br_fe ?_ ?_; exact rfl) | (apply br_pyE; (exact rfl); omega) | (apply br_pnE; (exact rfl); omega) | (apply when_pyE; (exact rfl); omega) | (apply when_pnE; (exact rfl); omega) | (apply br_npyE; (exact rfl); omega) | (apply br_npnE; (exact rfl); omega) | (apply when_npyE; (exact rfl); omega) | (apply when_npnE; (exact rfl); omega) | (refine ⟨0, c, rfl, h0, ?_⟩) | (refine ⟨1, d, rfl, h1, ?_⟩) | (refine ari ?_ ?_; omega) | (refine aru ?_ ?_; omega) | (apply sel; exact rfl) | (refine ix0 rfl ?_) | (refine ix1 rfl ?_) | (refine ix2 rfl ?_) | (refine ix3 rfl ?_) | (apply ixj; omega) | (refine ixn ?_ ?_; omega) | (refine ixs0 rfl ?_) | (refine ixs1 rfl ?_) | (refine ixs_j ?_ ?_; omega) | (refine ixs_n ?_ ?_; omega) | (apply ld_o; exact rfl) | (apply ldN_a; exact rfl) | (apply ldN_o; (exact rfl); exact rfl) | (apply st_o; (exact rfl); exact rfl) | (apply stN_o; (exact rfl); (exact rfl); exact rfl) | (refine new_i (fun bk hbk => ?_)) | (apply when_dE; (exact rfl); (exact rfl); all_goals intro hc) | (apply when_dF; (exact rfl); (exact rfl); all_goals intro hc) | (apply when_nE; (exact rfl); (exact rfl); all_goals intro hc) | (apply when_nF; (exact rfl); (exact rfl); all_goals intro hc) | (apply br_dE; (exact rfl); all_goals intro hc) | (apply br_nE; (exact rfl); all_goals intro hc) | (refine mm_min ?_) | (refine mm_max ?_) | (refine rem_i ?_ ?_; omega) | (refine SelN.mk ?_) | (refine cut_n ?_) | (refine Both.mk ?_ ?_) | (exact True.intro))
          exact ⟨ret2 (vi (by rw [wrap_u8 (by omega) (by omega), wrap_i64 (by omega) (by omega)])) rfl, (by first | exact ent_i | (repeat (first | exact Ent.refl | exact Ent.left | refine Ent.cons ?_ | refine Ent.app ?_)))⟩
        · rw [hr, if_neg (by omega)]
          repeat' ((try (conv => whnf)); first | (refine when_ye ?_ ?_; exact rfl) | (refine when_ne ?_ ?_; exact rfl) | (refine br_te ?_ ?_; exact rfl) | (refine br_fe ?_ ?_; exact rfl) | (apply br_pyE; (exact rfl); omega) | (apply br_pnE; (exact rfl); omega) | (apply when_pyE; (exact rfl); omega) | (apply when_pnE; (exact rfl); omega) | (apply br_npyE; (exact rfl); omega) | (apply br_npnE; (exact rfl); omega) | (apply when_npyE; (exact rfl); omega) | (apply when_npnE; (exact rfl); omega) | (refine ⟨0, c, rfl, h0, ?_⟩) | (refine ⟨1, d, rfl, h1, ?_⟩) | (refine ari ?_ ?_; omega) | (refine aru ?_ ?_; omega) | (apply sel; exact rfl) | (refine ix0 rfl ?_) | (refine ix1 rfl ?_) | (refine ix2 rfl ?_) | (refine ix3 rfl ?_) | (apply ixj; omega) | (refine ixn ?_ ?_; omega) | (refine ixs0 rfl ?_) | (refine ixs1 rfl ?_) | (refine ixs_j ?_ ?_; omega) | (refine ixs_n ?_ ?_; omega) | (apply ld_o; exact rfl) | (apply ldN_a; exact rfl) | (apply ldN_o; (exact rfl); exact rfl) | (apply st_o; (exact rfl); exact rfl) | (apply stN_o; (exact rfl); (exact rfl); exact rfl) | (refine new_i (fun bk hbk => ?_)) | (apply when_dE; (exact rfl); (exact rfl); all_goals intro hc) | (apply when_dF; (exact rfl); (exact rfl); all_goals intro hc) | (apply when_nE; (exact rfl); (exact rfl); all_goals intro hc) | (apply when_nF; (exact rfl); (exact rfl); all_goals intro hc) | (apply br_dE; (exact rfl); all_goals intro hc) | (apply br_nE; (exact rfl); all_goals intro hc) | (refine mm_min ?_) | (refine mm_max ?_) | (refine rem_i ?_ ?_; omega) | (refine SelN.mk ?_) | (refine cut_n ?_) | (refine Both.mk ?_ ?_) | (exact True.intro))
          exact ⟨rfl, (by first | exact ent_i | (repeat (first | exact Ent.refl | exact Ent.left | refine Ent.cons ?_ | refine Ent.app ?_)))⟩
    · rw [hr, if_neg (by omega)]
      repeat' ((try (conv => whnf)); first | (refine when_ye ?_ ?_; exact rfl) | (refine when_ne ?_ ?_; exact rfl) | (refine br_te ?_ ?_; exact rfl) | (refine br_fe ?_ ?_; exact rfl) | (apply br_pyE; (exact rfl); omega) | (apply br_pnE; (exact rfl); omega) | (apply when_pyE; (exact rfl); omega) | (apply when_pnE; (exact rfl); omega) | (apply br_npyE; (exact rfl); omega) | (apply br_npnE; (exact rfl); omega) | (apply when_npyE; (exact rfl); omega) | (apply when_npnE; (exact rfl); omega) | (refine ⟨0, c, rfl, h0, ?_⟩) | (refine ⟨1, d, rfl, h1, ?_⟩) | (refine ari ?_ ?_; omega) | (refine aru ?_ ?_; omega) | (apply sel; exact rfl) | (refine ix0 rfl ?_) | (refine ix1 rfl ?_) | (refine ix2 rfl ?_) | (refine ix3 rfl ?_) | (apply ixj; omega) | (refine ixn ?_ ?_; omega) | (refine ixs0 rfl ?_) | (refine ixs1 rfl ?_) | (refine ixs_j ?_ ?_; omega) | (refine ixs_n ?_ ?_; omega) | (apply ld_o; exact rfl) | (apply ldN_a; exact rfl) | (apply ldN_o; (exact rfl); exact rfl) | (apply st_o; (exact rfl); exact rfl) | (apply stN_o; (exact rfl); (exact rfl); exact rfl) | (refine new_i (fun bk hbk => ?_)) | (apply when_dE; (exact rfl); (exact rfl); all_goals intro hc) | (apply when_dF; (exact rfl); (exact rfl); all_goals intro hc) | (apply when_nE; (exact rfl); (exact rfl); all_goals intro hc) | (apply when_nF; (exact rfl); (exact rfl); all_goals intro hc) | (apply br_dE; (exact rfl); all_goals intro hc) | (apply br_nE; (exact rfl); all_goals intro hc) | (refine mm_min ?_) | (refine mm_max ?_) | (refine rem_i ?_ ?_; omega) | (refine SelN.mk ?_) | (refine cut_n ?_) | (refine Both.mk ?_ ?_) | (exact True.intro))
      exact ⟨rfl, (by first | exact ent_i | (repeat (first | exact Ent.refl | exact Ent.left | refine Ent.cons ?_ | refine Ent.app ?_)))⟩
  · rw [reg_no (by omega)]
    repeat' ((try (conv => whnf)); first | (refine when_ye ?_ ?_; exact rfl) | (refine when_ne ?_ ?_; exact rfl) | (refine br_te ?_ ?_; exact rfl) | (refine br_fe ?_ ?_; exact rfl) | (apply br_pyE; (exact rfl); omega) | (apply br_pnE; (exact rfl); omega) | (apply when_pyE; (exact rfl); omega) | (apply when_pnE; (exact rfl); omega) | (apply br_npyE; (exact rfl); omega) | (apply br_npnE; (exact rfl); omega) | (apply when_npyE; (exact rfl); omega) | (apply when_npnE; (exact rfl); omega) | (refine ari ?_ ?_; omega) | (refine aru ?_ ?_; omega) | (apply sel; exact rfl) | (refine ix0 rfl ?_) | (refine ix1 rfl ?_) | (refine ix2 rfl ?_) | (refine ix3 rfl ?_) | (apply ixj; omega) | (refine ixn ?_ ?_; omega) | (refine ixs0 rfl ?_) | (refine ixs1 rfl ?_) | (refine ixs_j ?_ ?_; omega) | (refine ixs_n ?_ ?_; omega) | (apply ld_o; exact rfl) | (apply ldN_a; exact rfl) | (apply ldN_o; (exact rfl); exact rfl) | (apply st_o; (exact rfl); exact rfl) | (apply stN_o; (exact rfl); (exact rfl); exact rfl) | (refine new_i (fun bk hbk => ?_)) | (apply when_dE; (exact rfl); (exact rfl); all_goals intro hc) | (apply when_dF; (exact rfl); (exact rfl); all_goals intro hc) | (apply when_nE; (exact rfl); (exact rfl); all_goals intro hc) | (apply when_nF; (exact rfl); (exact rfl); all_goals intro hc) | (apply br_dE; (exact rfl); all_goals intro hc) | (apply br_nE; (exact rfl); all_goals intro hc) | (refine mm_min ?_) | (refine mm_max ?_) | (refine rem_i ?_ ?_; omega) | (refine SelN.mk ?_) | (refine cut_n ?_) | (refine Both.mk ?_ ?_) | (exact True.intro))
    exact ⟨rfl, (by first | exact ent_i | (repeat (first | exact Ent.refl | exact Ent.left | refine Ent.cons ?_ | refine Ent.app ?_)))⟩
end
end Go.Proofs.YtiimndcifcoofaaDoor
