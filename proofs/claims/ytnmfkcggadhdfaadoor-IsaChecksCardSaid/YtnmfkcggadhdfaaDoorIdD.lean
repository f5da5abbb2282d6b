/- isa: the walk of IsaChecks. No condition. -/
import Derived.Test.YtnmfkcggadhdfaaDoorIdC
namespace Go.Proofs.YtnmfkcggadhdfaaDoor
open Go
set_option maxRecDepth 10000
set_option maxHeartbeats 4000000
section
variable {W0 : World} {own : Own}
theorem ldN_up {own' : Own} {a : Addr} {n : Nat} {K : Array Value → Prop} (hE : Ent W0 own' own) (h : LdN W0 own a n K) : LdN W0 own' a n K := by
  obtain ⟨vs, h1, h2, h3⟩ := h
  exact ⟨vs, h1, h2.ent hE, h3⟩
theorem uses_len (i : Ins) : (usesM i).length ≤ 9223372036854775807 := by
  unfold usesM
  split
  · have := (cmp_spec (srt_sorted (rawU i))).2.2
    rw [srt_len] at this
    have h2 : (rawU i).length ≤ 2 := by unfold rawU; (repeat' split) <;> simp
    omega
  · simp
theorem sp_IsaChecks (hA : IsaAt W0) (i : Ins) : Pure Tryd.prog W0 6 [i.v] own (.bool true) := by
  refine pure_of (spec_of mixed low_law03_IsaChecks (by simp [ir_law03_IsaChecks]) ?_)
  have hF := hA.forms
  have hl := uses_len i
  have h1 := fun own => sp_icheck W0 own hF i
  have h2 := fun own => sp_rcheck W0 own i
  have h3 := fun own => sp_isets (own := own) hF i
  have h4 := fun own => sp_rsets (W0 := W0) (own := own) i
  have h5 := fun own => sp_iplace W0 own hF i
  have h6 := fun own => sp_rplace W0 own i
  have h7 := fun own => sp_iskips W0 own hF i
  have h8 := fun own => sp_rskips W0 own i
  have h9 := fun own => sp_awake (own := own) hA
  have hu1 := fun own => sp_iuses (own := own) hF i
  have hu2 := fun own => sp_ruses (W0 := W0) (own := own) i
  generalize usesM i = L at hu1 hu2 hl
  generalize icheck i = e1 at h1 h2
  generalize isets i = e3 at h3 h4
  generalize iplace i = e5 at h5 h6
  generalize iskip i = e7 at h7 h8
  generalize iskips i = e8 at h7 h8
  obtain ⟨io, ia, ib, ic, im⟩ := i
  cases e8
  all_goals
    repeat' ((try (conv => whnf)); first | (refine when_ye ?_ ?_; exact rfl) | (refine when_ne ?_ ?_; exact rfl) | (refine br_te ?_ ?_; exact rfl) | (refine br_fe ?_ ?_; exact rfl) | (apply br_pyE; (exact rfl); omega) | (apply br_pnE; (exact rfl); omega) | (apply when_pyE; (exact rfl); omega) | (apply when_pnE; (exact rfl); omega) | (apply br_npyE; (exact rfl); omega) | (apply br_npnE; (exact rfl); omega) | (apply when_npyE; (exact rfl); omega) | (apply when_npnE; (exact rfl); omega) | (refine ldN_up hE2 ?_) | (refine ldN_up hE1 ?_) | ((with_reducible show CallT _ _ _ _ _ _); first | ((refine call_pe (h1 _) ?_ ?_ ?_; (exact rfl); exact rfl)) | ((refine call_pe (h2 _) ?_ ?_ ?_; (exact rfl); exact rfl)) | ((refine call_pe (h3 _) ?_ ?_ ?_; (exact rfl); exact rfl)) | ((refine call_pe (h4 _) ?_ ?_ ?_; (exact rfl); exact rfl)) | ((refine call_pe (h5 _) ?_ ?_ ?_; (exact rfl); exact rfl)) | ((refine call_pe (h6 _) ?_ ?_ ?_; (exact rfl); exact rfl)) | ((refine call_pe (h7 _) ?_ ?_ ?_; (exact rfl); exact rfl)) | ((refine call_pe (h8 _) ?_ ?_ ?_; (exact rfl); exact rfl)) | ((refine call_pe (h9 _) ?_ ?_ ?_; (exact rfl); exact rfl)) | ((refine call_se (hu1 _) ?_ ?_ (fun v own' hv => ?_); (exact rfl); (exact rfl); (obtain ⟨a1, c1, rfl, hR1, hE1⟩ := hv))) | ((refine call_se (hu2 _) ?_ ?_ (fun v own' hv => ?_); (exact rfl); (exact rfl); (obtain ⟨a2, c2, rfl, hR2, hE2⟩ := hv)))) | ((with_reducible show CallQ _ _ _ _ _ _); first | ((refine call_qq (fun _ => h1 _) ?_ ?_ ?_; (exact rfl); exact rfl)) | ((refine call_qq (fun _ => h2 _) ?_ ?_ ?_; (exact rfl); exact rfl)) | ((refine call_qq (fun _ => h3 _) ?_ ?_ ?_; (exact rfl); exact rfl)) | ((refine call_qq (fun _ => h4 _) ?_ ?_ ?_; (exact rfl); exact rfl)) | ((refine call_qq (fun _ => h5 _) ?_ ?_ ?_; (exact rfl); exact rfl)) | ((refine call_qq (fun _ => h6 _) ?_ ?_ ?_; (exact rfl); exact rfl)) | ((refine call_qq (fun _ => h7 _) ?_ ?_ ?_; (exact rfl); exact rfl)) | ((refine call_qq (fun _ => h8 _) ?_ ?_ ?_; (exact rfl); exact rfl)) | ((refine call_qq (fun _ => h9 _) ?_ ?_ ?_; (exact rfl); exact rfl)) | (((refine call_qi (fun ex => sp_kints (c1 := c1) (c2 := c2) ((hR1.ent hE2).ent (Ent.app Ent.refl)) (hR2.ent (Ent.app Ent.refl)) hl) ?_ ?_ ?_; (exact rfl); exact rfl))) | (((refine call_qi (fun ex => sp_kints (c1 := c1) (c2 := c2) (hR1.ent (Ent.app Ent.refl)) ((hR2.ent hE1).ent (Ent.app Ent.refl)) hl) ?_ ?_ ?_; (exact rfl); exact rfl)))) | (refine ari ?_ ?_; omega) | (refine aru ?_ ?_; omega) | (apply sel; exact rfl) | (refine ix0 rfl ?_) | (refine ix1 rfl ?_) | (refine ix2 rfl ?_) | (refine ix3 rfl ?_) | (apply ixj; omega) | (refine ixn ?_ ?_; omega) | (refine ixs0 rfl ?_) | (refine ixs1 rfl ?_) | (refine ixs_j ?_ ?_; omega) | (refine ixs_n ?_ ?_; omega) | (apply ld_o; exact rfl) | (apply ldN_a; exact rfl) | (apply ldN_o; (exact rfl); exact rfl) | (apply st_o; (exact rfl); exact rfl) | (apply stN_o; (exact rfl); (exact rfl); exact rfl) | (refine new_i (fun bk hbk => ?_)) | (apply when_dE; (exact rfl); (exact rfl); all_goals intro hc) | (apply when_dF; (exact rfl); (exact rfl); all_goals intro hc) | (apply when_nE; (exact rfl); (exact rfl); all_goals intro hc) | (apply when_nF; (exact rfl); (exact rfl); all_goals intro hc) | (apply br_dE; (exact rfl); all_goals intro hc) | (apply br_nE; (exact rfl); all_goals intro hc) | (refine mm_min ?_) | (refine mm_max ?_) | (refine rem_i ?_ ?_; omega) | (refine SelN.mk ?_) | (refine cut_n ?_) | (refine Both.mk ?_ ?_) | (exact True.intro))
    all_goals exact ⟨rfl, by first | exact hE2.trans (hE1.trans ent_i) | exact hE1.trans (hE2.trans ent_i)⟩
end
end Go.Proofs.YtnmfkcggadhdfaaDoor
