/- Traces: Check of both sides, as contracts. No condition. -/
import Derived.Test.YtofjnldidkiihaaDoorOcA
namespace Go.Proofs.YtofjnldidkiihaaDoor
open Go
set_option maxRecDepth 10000
set_option maxHeartbeats 4000000

/-- What order's own test asks of an event. -/
def ofitsM (n : Int) (e : EH) : Bool := decide (0 ≤ e.t ∧ e.t < n ∧ 1 ≤ e.k ∧ e.k ≤ 4 ∧ 0 ≤ e.w ∧ e.w < 64) && (if e.k = 4 then e.rl.all inW && e.wl.all inW else decide (e.rl.length = 0 ∧ e.wl.length = 0))
def rfitsM (n : Int) (first : Bool) (pa last : Int) (e : EH) : Bool :=
  decide (0 ≤ e.t ∧ e.t < n ∧ 1 ≤ e.k ∧ e.k ≤ 4 ∧ (first = true ∨ pa ≤ e.ev) ∧ 0 ≤ e.w ∧ e.w < 64) && e.rl.all inW && e.wl.all inW && (if e.k = 4 then decide (last = 3) else decide (e.rl.length = 0 ∧ e.wl.length = 0))
section
variable {W0 : World} {own : Own} {a : Option Addr} {cap : Nat}
theorem sp_rfits {e : EH} (hE : EvR W0 own e) (n : Int) (first : Bool) (pa last : Int) :
    Pure Tryd.prog W0 40 [e.v, .int .i64 n, .bool first, .int .i64 pa, .int .i64 last] own (.bool (rfitsM n first pa last e)) := by
  refine pure_of (spec_of mixed low_ref24_Fits (by simp [ir_ref24_Fits]) ?_)
  have hr : ∀ own' [EntC own' own], Pure Tryd.prog W0 60 [.slice e.ra e.rl.length e.rc] own' (.bool (e.rl.all inW)) := fun own' h => sp_rwords (hE.r.ent (h.h W0)) hE.rn
  have hw : ∀ own' [EntC own' own], Pure Tryd.prog W0 60 [.slice e.wa e.wl.length e.wc] own' (.bool (e.wl.all inW)) := fun own' h => sp_rwords (hE.w.ent (h.h W0)) hE.wn
  unfold rfitsM
  clear hE
  obtain ⟨ev, t, k, w, ra, rl, rc, wa, wl, wc⟩ := e
  dsimp only [EH.v] at *
  generalize rl.all inW = zr at *
  generalize wl.all inW = zw at *
  generalize rl.length = lr at *
  generalize wl.length = lw at *
  by_cases h1 : 0 ≤ t ∧ t < n ∧ 1 ≤ k ∧ k ≤ 4 ∧ (first = true ∨ pa ≤ ev) ∧ 0 ≤ w ∧ w < 64
  · rw [decide_eq_true h1]
    obtain ⟨a1, a2, a3, a4, a5, a6, a7⟩ := h1
    cases first <;> cases zr <;> cases zw
    all_goals (try simp only [Bool.false_eq_true, false_or] at a5)
    all_goals
      repeat' ((try (conv => whnf)); first | (refine when_ye ?_ ?_; exact rfl) | (refine when_ne ?_ ?_; exact rfl) | (refine br_te ?_ ?_; exact rfl) | (refine br_fe ?_ ?_; exact rfl) | (apply br_pyE; (exact rfl); omega) | (apply br_pnE; (exact rfl); omega) | (apply when_pyE; (exact rfl); omega) | (apply when_pnE; (exact rfl); omega) | (apply br_npyE; (exact rfl); omega) | (apply br_npnE; (exact rfl); omega) | (apply when_npyE; (exact rfl); omega) | (apply when_npnE; (exact rfl); omega) | ((with_reducible show CallT _ _ _ _ _ _); first | ((refine call_pe (hr _) ?_ ?_ ?_; (exact rfl); exact rfl)) | ((refine call_pe (hw _) ?_ ?_ ?_; (exact rfl); exact rfl))) | (refine ari ?_ ?_; omega) | (refine aru ?_ ?_; omega) | (apply sel; exact rfl) | (refine ix0 rfl ?_) | (refine ix1 rfl ?_) | (refine ix2 rfl ?_) | (refine ix3 rfl ?_) | (apply ixj; omega) | (refine ixn ?_ ?_; omega) | (refine ixs0 rfl ?_) | (refine ixs1 rfl ?_) | (refine ixs_j ?_ ?_; omega) | (refine ixs_n ?_ ?_; omega) | (apply ld_o; exact rfl) | (apply ldN_a; exact rfl) | (apply ldN_o; (exact rfl); exact rfl) | (apply st_o; (exact rfl); exact rfl) | (apply stN_o; (exact rfl); (exact rfl); exact rfl) | (refine new_i (fun bk hbk => ?_)) | (apply when_dE; (exact rfl); (exact rfl); all_goals intro hc) | (apply when_dF; (exact rfl); (exact rfl); all_goals intro hc) | (apply when_nE; (exact rfl); (exact rfl); all_goals intro hc) | (apply when_nF; (exact rfl); (exact rfl); all_goals intro hc) | (apply br_dE; (exact rfl); all_goals intro hc) | (apply br_nE; (exact rfl); all_goals intro hc) | (refine mm_min ?_) | (refine mm_max ?_) | (refine rem_i ?_ ?_; omega) | (refine SelN.mk ?_) | (refine cut_n ?_) | (refine Both.mk ?_ ?_) | (exact True.intro))
      all_goals first | exact ⟨rfl, (by first | exact ent_i | (repeat (first | exact Ent.refl | exact Ent.left | refine Ent.cons ?_ | refine Ent.app ?_)))⟩ | (refine ⟨ret1 (vb ?_), (by first | exact ent_i | (repeat (first | exact Ent.refl | exact Ent.left | refine Ent.cons ?_ | refine Ent.app ?_)))⟩; simp_all; done) | (refine ⟨ret1 (vb ?_), (by first | exact ent_i | (repeat (first | exact Ent.refl | exact Ent.left | refine Ent.cons ?_ | refine Ent.app ?_)))⟩; simp_all; omega)
  · rw [decide_eq_false h1]
    cases first <;> cases zr <;> cases zw
    all_goals (try simp only [Bool.false_eq_true, false_or, true_or, true_and] at h1)
    all_goals
      repeat' ((try (conv => whnf)); first | (refine when_ye ?_ ?_; exact rfl) | (refine when_ne ?_ ?_; exact rfl) | (refine br_te ?_ ?_; exact rfl) | (refine br_fe ?_ ?_; exact rfl) | (apply br_pyE; (exact rfl); omega) | (apply br_pnE; (exact rfl); omega) | (apply when_pyE; (exact rfl); omega) | (apply when_pnE; (exact rfl); omega) | (apply br_npyE; (exact rfl); omega) | (apply br_npnE; (exact rfl); omega) | (apply when_npyE; (exact rfl); omega) | (apply when_npnE; (exact rfl); omega) | ((with_reducible show CallT _ _ _ _ _ _); first | ((refine call_pe (hr _) ?_ ?_ ?_; (exact rfl); exact rfl)) | ((refine call_pe (hw _) ?_ ?_ ?_; (exact rfl); exact rfl))) | (refine ari ?_ ?_; omega) | (refine aru ?_ ?_; omega) | (apply sel; exact rfl) | (refine ix0 rfl ?_) | (refine ix1 rfl ?_) | (refine ix2 rfl ?_) | (refine ix3 rfl ?_) | (apply ixj; omega) | (refine ixn ?_ ?_; omega) | (refine ixs0 rfl ?_) | (refine ixs1 rfl ?_) | (refine ixs_j ?_ ?_; omega) | (refine ixs_n ?_ ?_; omega) | (apply ld_o; exact rfl) | (apply ldN_a; exact rfl) | (apply ldN_o; (exact rfl); exact rfl) | (apply st_o; (exact rfl); exact rfl) | (apply stN_o; (exact rfl); (exact rfl); exact rfl) | (refine new_i (fun bk hbk => ?_)) | (apply when_dE; (exact rfl); (exact rfl); all_goals intro hc) | (apply when_dF; (exact rfl); (exact rfl); all_goals intro hc) | (apply when_nE; (exact rfl); (exact rfl); all_goals intro hc) | (apply when_nF; (exact rfl); (exact rfl); all_goals intro hc) | (apply br_dE; (exact rfl); all_goals intro hc) | (apply br_nE; (exact rfl); all_goals intro hc) | (refine mm_min ?_) | (refine mm_max ?_) | (refine rem_i ?_ ?_; omega) | (refine SelN.mk ?_) | (refine cut_n ?_) | (refine Both.mk ?_ ?_) | (exact True.intro))
      all_goals first | exact ⟨rfl, (by first | exact ent_i | (repeat (first | exact Ent.refl | exact Ent.left | refine Ent.cons ?_ | refine Ent.app ?_)))⟩ | (exfalso; omega)
theorem sp_ofits {e : EH} (hE : EvR W0 own e) (n : Int) : Pure Tryd.prog W0 67 [e.v, .int .i64 n] own (.bool (ofitsM n e)) := by
  refine pure_of (spec_of mixed low_order_fits (by simp [ir_order_fits]) ?_)
  have hr : ∀ own' [EntC own' own], Pure Tryd.prog W0 79 [.slice e.ra e.rl.length e.rc] own' (.bool (e.rl.all inW)) := fun own' h => sp_owords (hE.r.ent (h.h W0)) hE.rn
  have hw : ∀ own' [EntC own' own], Pure Tryd.prog W0 79 [.slice e.wa e.wl.length e.wc] own' (.bool (e.wl.all inW)) := fun own' h => sp_owords (hE.w.ent (h.h W0)) hE.wn
  have h1w : ∀ (own' : Own) (b : Nat), EntC own' [(b, fun o => o = Obj.cells #[.int .i64 e.w] 3)] → Pure Tryd.prog W0 79 [.slice (some ⟨b, 0, none⟩) 1 1] own' (.bool (inW e.w)) := fun own' b h => by
    have := sp_owords (W0 := W0) (own := own') (a := some ⟨b, 0, none⟩) (cap := 1) (l := [e.w]) ((can_rd (enc := encI) (sz := 1) (T := 3) (fun _ _ => rfl)).ent (h.h W0)) (by simp)
    simpa using this
  unfold ofitsM
  clear hE
  obtain ⟨ev, t, k, w, ra, rl, rc, wa, wl, wc⟩ := e
  dsimp only [EH.v] at *
  generalize rl.all inW = zr at *
  generalize wl.all inW = zw at *
  generalize rl.length = lr at *
  generalize wl.length = lw at *
  by_cases h0 : 0 ≤ w ∧ w < 64
  · have h0' : inW w = true := decide_eq_true h0
    rw [h0'] at h1w
    by_cases h1 : 0 ≤ t ∧ t < n ∧ 1 ≤ k ∧ k ≤ 4
    · rw [decide_eq_true ⟨h1.1, h1.2.1, h1.2.2.1, h1.2.2.2, h0.1, h0.2⟩]
      obtain ⟨a1, a2, a3, a4⟩ := h1
      cases zr <;> cases zw
      all_goals
        repeat' ((try (conv => whnf)); first | (refine when_ye ?_ ?_; exact rfl) | (refine when_ne ?_ ?_; exact rfl) | (refine br_te ?_ ?_; exact rfl) | (refine br_fe ?_ ?_; exact rfl) | (apply br_pyE; (exact rfl); omega) | (apply br_pnE; (exact rfl); omega) | (apply when_pyE; (exact rfl); omega) | (apply when_pnE; (exact rfl); omega) | (apply br_npyE; (exact rfl); omega) | (apply br_npnE; (exact rfl); omega) | (apply when_npyE; (exact rfl); omega) | (apply when_npnE; (exact rfl); omega) | ((with_reducible show CallT _ _ _ _ _ _); first | ((refine call_pe (hr _) ?_ ?_ ?_; (exact rfl); exact rfl)) | ((refine call_pe (hw _) ?_ ?_ ?_; (exact rfl); exact rfl)) | ((refine call_pe (h1w _ _ ⟨fun _ => Ent.left (D := [_])⟩) ?_ ?_ ?_; (exact rfl); exact rfl))) | (refine ari ?_ ?_; omega) | (refine aru ?_ ?_; omega) | (apply sel; exact rfl) | (refine ix0 rfl ?_) | (refine ix1 rfl ?_) | (refine ix2 rfl ?_) | (refine ix3 rfl ?_) | (apply ixj; omega) | (refine ixn ?_ ?_; omega) | (refine ixs0 rfl ?_) | (refine ixs1 rfl ?_) | (refine ixs_j ?_ ?_; omega) | (refine ixs_n ?_ ?_; omega) | (apply ld_o; exact rfl) | (apply ldN_a; exact rfl) | (apply ldN_o; (exact rfl); exact rfl) | (apply st_o; (exact rfl); exact rfl) | (apply stN_o; (exact rfl); (exact rfl); exact rfl) | (refine new_i (fun bk hbk => ?_)) | (apply when_dE; (exact rfl); (exact rfl); all_goals intro hc) | (apply when_dF; (exact rfl); (exact rfl); all_goals intro hc) | (apply when_nE; (exact rfl); (exact rfl); all_goals intro hc) | (apply when_nF; (exact rfl); (exact rfl); all_goals intro hc) | (apply br_dE; (exact rfl); all_goals intro hc) | (apply br_nE; (exact rfl); all_goals intro hc) | (refine mm_min ?_) | (refine mm_max ?_) | (refine rem_i ?_ ?_; omega) | (refine SelN.mk ?_) | (refine cut_n ?_) | (refine Both.mk ?_ ?_) | (exact True.intro))
        all_goals first | exact ⟨rfl, (by first | exact ent_i | (repeat (first | exact Ent.refl | exact Ent.left | refine Ent.cons ?_ | refine Ent.app ?_)))⟩ | (refine ⟨ret1 (vb ?_), (by first | exact ent_i | (repeat (first | exact Ent.refl | exact Ent.left | refine Ent.cons ?_ | refine Ent.app ?_)))⟩; simp_all; done) | (refine ⟨ret1 (vb ?_), (by first | exact ent_i | (repeat (first | exact Ent.refl | exact Ent.left | refine Ent.cons ?_ | refine Ent.app ?_)))⟩; simp_all; omega)
    · rw [decide_eq_false (fun h => h1 ⟨h.1, h.2.1, h.2.2.1, h.2.2.2.1⟩)]
      repeat' ((try (conv => whnf)); first | (refine when_ye ?_ ?_; exact rfl) | (refine when_ne ?_ ?_; exact rfl) | (refine br_te ?_ ?_; exact rfl) | (refine br_fe ?_ ?_; exact rfl) | (apply br_pyE; (exact rfl); omega) | (apply br_pnE; (exact rfl); omega) | (apply when_pyE; (exact rfl); omega) | (apply when_pnE; (exact rfl); omega) | (apply br_npyE; (exact rfl); omega) | (apply br_npnE; (exact rfl); omega) | (apply when_npyE; (exact rfl); omega) | (apply when_npnE; (exact rfl); omega) | ((with_reducible show CallT _ _ _ _ _ _); first | ((refine call_pe (hr _) ?_ ?_ ?_; (exact rfl); exact rfl)) | ((refine call_pe (hw _) ?_ ?_ ?_; (exact rfl); exact rfl)) | ((refine call_pe (h1w _ _ ⟨fun _ => Ent.left (D := [_])⟩) ?_ ?_ ?_; (exact rfl); exact rfl))) | (refine ari ?_ ?_; omega) | (refine aru ?_ ?_; omega) | (apply sel; exact rfl) | (refine ix0 rfl ?_) | (refine ix1 rfl ?_) | (refine ix2 rfl ?_) | (refine ix3 rfl ?_) | (apply ixj; omega) | (refine ixn ?_ ?_; omega) | (refine ixs0 rfl ?_) | (refine ixs1 rfl ?_) | (refine ixs_j ?_ ?_; omega) | (refine ixs_n ?_ ?_; omega) | (apply ld_o; exact rfl) | (apply ldN_a; exact rfl) | (apply ldN_o; (exact rfl); exact rfl) | (apply st_o; (exact rfl); exact rfl) | (apply stN_o; (exact rfl); (exact rfl); exact rfl) | (refine new_i (fun bk hbk => ?_)) | (apply when_dE; (exact rfl); (exact rfl); all_goals intro hc) | (apply when_dF; (exact rfl); (exact rfl); all_goals intro hc) | (apply when_nE; (exact rfl); (exact rfl); all_goals intro hc) | (apply when_nF; (exact rfl); (exact rfl); all_goals intro hc) | (apply br_dE; (exact rfl); all_goals intro hc) | (apply br_nE; (exact rfl); all_goals intro hc) | (refine mm_min ?_) | (refine mm_max ?_) | (refine rem_i ?_ ?_; omega) | (refine SelN.mk ?_) | (refine cut_n ?_) | (refine Both.mk ?_ ?_) | (exact True.intro))
      all_goals first | exact ⟨rfl, (by first | exact ent_i | (repeat (first | exact Ent.refl | exact Ent.left | refine Ent.cons ?_ | refine Ent.app ?_)))⟩ | (exfalso; omega)
  · have h0' : inW w = false := decide_eq_false h0
    rw [h0'] at h1w
    rw [decide_eq_false (fun h => h0 ⟨h.2.2.2.2.1, h.2.2.2.2.2⟩)]
    repeat' ((try (conv => whnf)); first | (refine when_ye ?_ ?_; exact rfl) | (refine when_ne ?_ ?_; exact rfl) | (refine br_te ?_ ?_; exact rfl) | (refine br_fe ?_ ?_; exact rfl) | (apply br_pyE; (exact rfl); omega) | (apply br_pnE; (exact rfl); omega) | (apply when_pyE; (exact rfl); omega) | (apply when_pnE; (exact rfl); omega) | (apply br_npyE; (exact rfl); omega) | (apply br_npnE; (exact rfl); omega) | (apply when_npyE; (exact rfl); omega) | (apply when_npnE; (exact rfl); omega) | ((with_reducible show CallT _ _ _ _ _ _); first | ((refine call_pe (hr _) ?_ ?_ ?_; (exact rfl); exact rfl)) | ((refine call_pe (hw _) ?_ ?_ ?_; (exact rfl); exact rfl)) | ((refine call_pe (h1w _ _ ⟨fun _ => Ent.left (D := [_])⟩) ?_ ?_ ?_; (exact rfl); exact rfl))) | (refine ari ?_ ?_; omega) | (refine aru ?_ ?_; omega) | (apply sel; exact rfl) | (refine ix0 rfl ?_) | (refine ix1 rfl ?_) | (refine ix2 rfl ?_) | (refine ix3 rfl ?_) | (apply ixj; omega) | (refine ixn ?_ ?_; omega) | (refine ixs0 rfl ?_) | (refine ixs1 rfl ?_) | (refine ixs_j ?_ ?_; omega) | (refine ixs_n ?_ ?_; omega) | (apply ld_o; exact rfl) | (apply ldN_a; exact rfl) | (apply ldN_o; (exact rfl); exact rfl) | (apply st_o; (exact rfl); exact rfl) | (apply stN_o; (exact rfl); (exact rfl); exact rfl) | (refine new_i (fun bk hbk => ?_)) | (apply when_dE; (exact rfl); (exact rfl); all_goals intro hc) | (apply when_dF; (exact rfl); (exact rfl); all_goals intro hc) | (apply when_nE; (exact rfl); (exact rfl); all_goals intro hc) | (apply when_nF; (exact rfl); (exact rfl); all_goals intro hc) | (apply br_dE; (exact rfl); all_goals intro hc) | (apply br_nE; (exact rfl); all_goals intro hc) | (refine mm_min ?_) | (refine mm_max ?_) | (refine rem_i ?_ ?_; omega) | (refine SelN.mk ?_) | (refine cut_n ?_) | (refine Both.mk ?_ ?_) | (exact True.intro))
    all_goals first | exact ⟨rfl, (by first | exact ent_i | (repeat (first | exact Ent.refl | exact Ent.left | refine Ent.cons ?_ | refine Ent.app ?_)))⟩ | (exfalso; omega)
end
end Go.Proofs.YtofjnldidkiihaaDoor
