/- isa: the walk of IsaRound. No condition. -/
import Derived.Test.YtiimndcifcoofaaDoorIeF
import Derived.Test.YtiimndcifcoofaaDoorIeU
namespace Go.Proofs.YtiimndcifcoofaaDoor
open Go Go.RowKit
set_option maxRecDepth 10000
set_option maxHeartbeats 4000000
theorem near_imm (op a b c imm : Int) : -9223372036854775808 ≤ (nearI op a b c imm).imm ∧ (nearI op a b c imm).imm ≤ 9223372036854775807 := by
  have hr := plc_rng imm (n := 70) (by omega)
  unfold nearI
  dsimp only
  omega
section
variable {W0 : World} {own : Own}
theorem sp_IsaRound (hA : IsaAt W0) (i : Ins) (hi : -9223372036854775808 ≤ i.imm ∧ i.imm ≤ 9223372036854775807) (op a b c imm : Int) : Pure Tryd.prog W0 3 [i.v, .int .i64 op, .int .i64 a, .int .i64 b, .int .i64 c, .int .i64 imm] own (.bool true) := by
  refine pure_of (spec_of mixed low_law03_IsaRound (by simp [ir_law03_IsaRound]) ?_)
  have n1 := fun own => sp_near (W0 := W0) (own := own) op a b c imm
  have n2 := fun own => sp_near (W0 := W0) (own := own) op a b 0 imm
  have n3 := fun own => sp_near (W0 := W0) (own := own) op a 0 0 imm
  have n4 := fun own => sp_near (W0 := W0) (own := own) op 0 0 0 imm
  have n5 := fun own => sp_place W0 own op (n := 18) ⟨by omega, by omega⟩
  have h9 := fun own => sp_awake (own := own) hA
  have r1 := near_imm op a b c imm
  have r2 := near_imm op a b 0 imm
  have r3 := near_imm op a 0 0 imm
  have r4 := near_imm op 0 0 0 imm
  generalize nearI op a b c imm = i1 at n1 r1
  generalize nearI op a b 0 imm = i2 at n2 r2
  generalize nearI op a 0 0 imm = i3 at n3 r3
  generalize nearI op 0 0 0 imm = i4 at n4 r4
  generalize plc op 18 = p5 at n5
  have hL : ∀ x ∈ [i, i1, i2, i3, i4, ⟨p5, 0, 0, 0, 0⟩], -9223372036854775808 ≤ x.imm ∧ x.imm ≤ 9223372036854775807 := by
    intro x hx
    simp only [List.mem_cons, List.not_mem_nil, or_false] at hx
    rcases hx with rfl | rfl | rfl | rfl | rfl | rfl
    · exact hi
    · exact r1
    · exact r2
    · exact r3
    · exact r4
    · dsimp only; omega
  have hll : [i, i1, i2, i3, i4, ⟨p5, 0, 0, 0, 0⟩].length = 6 := rfl
  obtain ⟨o0, a0, b0, c0, m0⟩ := i
  obtain ⟨o1, a1, b1, c1, m1⟩ := i1
  obtain ⟨o2, a2, b2, c2, m2⟩ := i2
  obtain ⟨o3, a3, b3, c3, m3⟩ := i3
  obtain ⟨o4, a4, b4, c4, m4⟩ := i4
  repeat' ((try (conv => whnf)); first | (refine when_ye ?_ ?_; exact rfl) | (refine when_ne ?_ ?_; exact rfl) | (refine br_te ?_ ?_; exact rfl) | (refine br_fe ?_ ?_; exact rfl) | (apply br_pyE; (exact rfl); omega) | (apply br_pnE; (exact rfl); omega) | (apply when_pyE; (exact rfl); omega) | (apply when_pnE; (exact rfl); omega) | (apply br_npyE; (exact rfl); omega) | (apply br_npnE; (exact rfl); omega) | (apply when_npyE; (exact rfl); omega) | (apply when_npnE; (exact rfl); omega) | ((with_reducible show CallT _ _ _ _ _ _); first | ((refine call_pe (n1 _) ?_ ?_ ?_; (exact rfl); exact rfl)) | ((refine call_pe (n2 _) ?_ ?_ ?_; (exact rfl); exact rfl)) | ((refine call_pe (n3 _) ?_ ?_ ?_; (exact rfl); exact rfl)) | ((refine call_pe (n4 _) ?_ ?_ ?_; (exact rfl); exact rfl)) | ((refine call_pe (n5 _) ?_ ?_ ?_; (exact rfl); exact rfl))) | ((with_reducible show CallQ _ _ _ _ _ _); first | ((refine call_qq (fun _ => n1 _) ?_ ?_ ?_; (exact rfl); exact rfl)) | ((refine call_qq (fun _ => n2 _) ?_ ?_ ?_; (exact rfl); exact rfl)) | ((refine call_qq (fun _ => n3 _) ?_ ?_ ?_; (exact rfl); exact rfl)) | ((refine call_qq (fun _ => n4 _) ?_ ?_ ?_; (exact rfl); exact rfl)) | ((refine call_qq (fun _ => n5 _) ?_ ?_ ?_; (exact rfl); exact rfl))) | (refine ari ?_ ?_; omega) | (refine aru ?_ ?_; omega) | (apply sel; exact rfl) | (refine ix0 rfl ?_) | (refine ix1 rfl ?_) | (refine ix2 rfl ?_) | (refine ix3 rfl ?_) | (apply ixj; omega) | (refine ixn ?_ ?_; omega) | (refine ixs0 rfl ?_) | (refine ixs1 rfl ?_) | (refine ixs_j ?_ ?_; omega) | (refine ixs_n ?_ ?_; omega) | (apply ld_o; exact rfl) | (apply ldN_a; exact rfl) | (apply ldN_o; (exact rfl); exact rfl) | (apply st_o; (exact rfl); exact rfl) | (apply stN_o; (exact rfl); (exact rfl); exact rfl) | (refine new_i (fun bk hbk => ?_)) | (apply when_dE; (exact rfl); (exact rfl); all_goals intro hc) | (apply when_dF; (exact rfl); (exact rfl); all_goals intro hc) | (apply when_nE; (exact rfl); (exact rfl); all_goals intro hc) | (apply when_nF; (exact rfl); (exact rfl); all_goals intro hc) | (apply br_dE; (exact rfl); all_goals intro hc) | (apply br_nE; (exact rfl); all_goals intro hc) | (refine mm_min ?_) | (refine mm_max ?_) | (refine rem_i ?_ ?_; omega) | (refine SelN.mk ?_) | (refine cut_n ?_) | (refine Both.mk ?_ ?_) | (exact True.intro))
  refine loop_i (σ := Nat) (fun k => [(14, .int .i64 k)]) (fun _ => canE Ins.enc 23 bk [⟨o0, a0, b0, c0, m0⟩, ⟨o1, a1, b1, c1, m1⟩, ⟨o2, a2, b2, c2, m2⟩, ⟨o3, a3, b3, c3, m3⟩, ⟨o4, a4, b4, c4, m4⟩, ⟨p5, 0, 0, 0, 0⟩] :: _) (fun k => k ≤ 6) (fun k => 6 - k) 0 (by omega) (by repeat' (first | exact True.intro | refine And.intro ?_ ?_ | exact rfl | exact vi (by omega) | (dsimp only; exact rfl) | (dsimp only; exact vi (by omega)))) Ent.refl rfl ?_
  generalize hLd : ([⟨o0, a0, b0, c0, m0⟩, ⟨o1, a1, b1, c1, m1⟩, ⟨o2, a2, b2, c2, m2⟩, ⟨o3, a3, b3, c3, m3⟩, ⟨o4, a4, b4, c4, m4⟩, ⟨p5, 0, 0, 0, 0⟩] : List Ins) = L at hL hll ⊢
  clear hLd
  have hwd : ∀ x ∈ L, (Ins.enc x).length = 5 := fun _ _ => rfl
  have hnl : 6 = L.length := hll.symm
  intro k junk hk
  by_cases hlt : k < 6
  · have hlt' : (k : Int) < 6 := by omega
    obtain ⟨x, hx⟩ : ∃ x, L[k]? = some x := ⟨_, List.getElem?_eq_getElem (by omega)⟩
    obtain ⟨x1, x2⟩ := hL x (List.mem_of_getElem? hx)
    have hfm := fun own => sp_Format (own := own) hA x x1 x2
    have hck := fun own => sp_rcheck W0 own x
    have hs1 : (⟨#[]⟩ : ByteArray).toList = (⟨#[]⟩ : ByteArray).toList := rfl
    by_cases h0 : icheck x = 0
    · obtain ⟨e1, e2⟩ := fmt_back h0 x1 x2
      have hsz := fmt_size h0 x1 x2
      have hp1 := fun own => sp_parse (own := own) hA.lib hA.forms hA.names (fmtB x)
      have hp2 := fun own => sp_parse (own := own) hA.lib hA.forms hA.names (⟨#[32, 32]⟩ ++ fmtB x ++ ⟨#[32]⟩)
      rw [e1] at hp1
      rw [e2] at hp2
      unfold fmtM at hfm
      rw [if_pos h0] at hfm
      rw [h0] at hck
      generalize fmtB x = s at *
      have z1 : (⟨#[32]⟩ : ByteArray).size = 1 := rfl
      have z2 : (⟨#[32, 32]⟩ : ByteArray).size = 2 := rfl
      obtain ⟨xo, xa, xb, xc, xm⟩ := x
      repeat' ((try (conv => whnf)); first | (refine when_ye ?_ ?_; exact rfl) | (refine when_ne ?_ ?_; exact rfl) | (refine br_te ?_ ?_; exact rfl) | (refine br_fe ?_ ?_; exact rfl) | (apply br_pyE; (exact rfl); omega) | (apply br_pnE; (exact rfl); omega) | (apply when_pyE; (exact rfl); omega) | (apply when_pnE; (exact rfl); omega) | (apply br_npyE; (exact rfl); omega) | (apply br_npnE; (exact rfl); omega) | (apply when_npyE; (exact rfl); omega) | (apply when_npnE; (exact rfl); omega) | (refine SctT.mk ⟨?_, ?_⟩; (first | omega | (simp only [ByteArray.size_append]; omega))) | (refine eq_yes ?_ ?_; (simp [eqC, eqOne])) | ((with_reducible show Ld _ _ _ _); first | (refine ldC0 hwd hx rfl ?_) | (refine ldC1 hwd hx rfl ?_) | (refine ldC hwd hx rfl ?_)) | ((with_reducible show IxS _ _ _ _ _); first | ((refine ixC hx hnl ?_ ?_; (first | rfl | omega)))) | ((with_reducible show LdN _ _ _ _ _); first | (refine ldNC hwd hx rfl ?_)) | ((with_reducible show CallT _ _ _ _ _ _); first | ((refine call_pe (hfm _) ?_ ?_ ?_; (exact rfl); exact rfl)) | ((refine call_pe (hck _) ?_ ?_ ?_; (exact rfl); exact rfl)) | ((refine call_pe (hp1 _) ?_ ?_ ?_; (exact rfl); exact rfl)) | ((refine call_pe (hp2 _) ?_ ?_ ?_; (exact rfl); exact rfl))) | (refine ari ?_ ?_; omega) | (refine aru ?_ ?_; omega) | (apply sel; exact rfl) | (refine ix0 rfl ?_) | (refine ix1 rfl ?_) | (refine ix2 rfl ?_) | (refine ix3 rfl ?_) | (apply ixj; omega) | (refine ixn ?_ ?_; omega) | (refine ixs0 rfl ?_) | (refine ixs1 rfl ?_) | (refine ixs_j ?_ ?_; omega) | (refine ixs_n ?_ ?_; omega) | (apply ld_o; exact rfl) | (apply ldN_a; exact rfl) | (apply ldN_o; (exact rfl); exact rfl) | (apply st_o; (exact rfl); exact rfl) | (apply stN_o; (exact rfl); (exact rfl); exact rfl) | (refine new_i (fun bk hbk => ?_)) | (apply when_dE; (exact rfl); (exact rfl); all_goals intro hc) | (apply when_dF; (exact rfl); (exact rfl); all_goals intro hc) | (apply when_nE; (exact rfl); (exact rfl); all_goals intro hc) | (apply when_nF; (exact rfl); (exact rfl); all_goals intro hc) | (apply br_dE; (exact rfl); all_goals intro hc) | (apply br_nE; (exact rfl); all_goals intro hc) | (refine mm_min ?_) | (refine mm_max ?_) | (refine rem_i ?_ ?_; omega) | (refine SelN.mk ?_) | (refine cut_n ?_) | (refine Both.mk ?_ ?_) | (exact True.intro))
      exact ⟨k + 1, by omega, by omega, (by repeat' (first | exact True.intro | refine And.intro ?_ ?_ | exact rfl | exact vi (by omega) | (dsimp only; exact rfl) | (dsimp only; exact vi (by omega)))), (by first | exact ent_i | (repeat (first | exact Ent.refl | exact Ent.left | refine Ent.cons ?_ | refine Ent.app ?_)))⟩
    · unfold fmtM at hfm
      rw [if_neg h0] at hfm
      generalize icheck x = e at *
      obtain ⟨xo, xa, xb, xc, xm⟩ := x
      repeat' ((try (conv => whnf)); first | (refine when_ye ?_ ?_; exact rfl) | (refine when_ne ?_ ?_; exact rfl) | (refine br_te ?_ ?_; exact rfl) | (refine br_fe ?_ ?_; exact rfl) | (apply br_pyE; (exact rfl); omega) | (apply br_pnE; (exact rfl); omega) | (apply when_pyE; (exact rfl); omega) | (apply when_pnE; (exact rfl); omega) | (apply br_npyE; (exact rfl); omega) | (apply br_npnE; (exact rfl); omega) | (apply when_npyE; (exact rfl); omega) | (apply when_npnE; (exact rfl); omega) | (refine br_pyE ?_ hs1 ?_; exact rfl) | (refine br_pnE ?_ hs1 ?_; exact rfl) | (refine when_pyE ?_ hs1 ?_; exact rfl) | (refine when_pnE ?_ hs1 ?_; exact rfl) | (refine br_npyE ?_ hs1 ?_; exact rfl) | (refine br_npnE ?_ hs1 ?_; exact rfl) | (refine when_npyE ?_ hs1 ?_; exact rfl) | (refine when_npnE ?_ hs1 ?_; exact rfl) | ((with_reducible show Ld _ _ _ _); first | (refine ldC0 hwd hx rfl ?_) | (refine ldC1 hwd hx rfl ?_) | (refine ldC hwd hx rfl ?_)) | ((with_reducible show IxS _ _ _ _ _); first | ((refine ixC hx hnl ?_ ?_; (first | rfl | omega)))) | ((with_reducible show LdN _ _ _ _ _); first | (refine ldNC hwd hx rfl ?_)) | ((with_reducible show CallT _ _ _ _ _ _); first | ((refine call_pe (hfm _) ?_ ?_ ?_; (exact rfl); exact rfl)) | ((refine call_pe (hck _) ?_ ?_ ?_; (exact rfl); exact rfl))) | (refine ari ?_ ?_; omega) | (refine aru ?_ ?_; omega) | (apply sel; exact rfl) | (refine ix0 rfl ?_) | (refine ix1 rfl ?_) | (refine ix2 rfl ?_) | (refine ix3 rfl ?_) | (apply ixj; omega) | (refine ixn ?_ ?_; omega) | (refine ixs0 rfl ?_) | (refine ixs1 rfl ?_) | (refine ixs_j ?_ ?_; omega) | (refine ixs_n ?_ ?_; omega) | (apply ld_o; exact rfl) | (apply ldN_a; exact rfl) | (apply ldN_o; (exact rfl); exact rfl) | (apply st_o; (exact rfl); exact rfl) | (apply stN_o; (exact rfl); (exact rfl); exact rfl) | (refine new_i (fun bk hbk => ?_)) | (apply when_dE; (exact rfl); (exact rfl); all_goals intro hc) | (apply when_dF; (exact rfl); (exact rfl); all_goals intro hc) | (apply when_nE; (exact rfl); (exact rfl); all_goals intro hc) | (apply when_nF; (exact rfl); (exact rfl); all_goals intro hc) | (apply br_dE; (exact rfl); all_goals intro hc) | (apply br_nE; (exact rfl); all_goals intro hc) | (refine mm_min ?_) | (refine mm_max ?_) | (refine rem_i ?_ ?_; omega) | (refine SelN.mk ?_) | (refine cut_n ?_) | (refine Both.mk ?_ ?_) | (exact True.intro))
      exact ⟨k + 1, by omega, by omega, (by repeat' (first | exact True.intro | refine And.intro ?_ ?_ | exact rfl | exact vi (by omega) | (dsimp only; exact rfl) | (dsimp only; exact vi (by omega)))), (by first | exact ent_i | (repeat (first | exact Ent.refl | exact Ent.left | refine Ent.cons ?_ | refine Ent.app ?_)))⟩
  · have hk6 : k = 6 := by omega
    subst hk6
    repeat' ((try (conv => whnf)); first | (refine when_ye ?_ ?_; exact rfl) | (refine when_ne ?_ ?_; exact rfl) | (refine br_te ?_ ?_; exact rfl) | (refine br_fe ?_ ?_; exact rfl) | (apply br_pyE; (exact rfl); omega) | (apply br_pnE; (exact rfl); omega) | (apply when_pyE; (exact rfl); omega) | (apply when_pnE; (exact rfl); omega) | (apply br_npyE; (exact rfl); omega) | (apply br_npnE; (exact rfl); omega) | (apply when_npyE; (exact rfl); omega) | (apply when_npnE; (exact rfl); omega) | ((with_reducible show CallT _ _ _ _ _ _); first | ((refine call_pe (h9 _) ?_ ?_ ?_; (exact rfl); exact rfl))) | (refine ari ?_ ?_; omega) | (refine aru ?_ ?_; omega) | (apply sel; exact rfl) | (refine ix0 rfl ?_) | (refine ix1 rfl ?_) | (refine ix2 rfl ?_) | (refine ix3 rfl ?_) | (apply ixj; omega) | (refine ixn ?_ ?_; omega) | (refine ixs0 rfl ?_) | (refine ixs1 rfl ?_) | (refine ixs_j ?_ ?_; omega) | (refine ixs_n ?_ ?_; omega) | (apply ld_o; exact rfl) | (apply ldN_a; exact rfl) | (apply ldN_o; (exact rfl); exact rfl) | (apply st_o; (exact rfl); exact rfl) | (apply stN_o; (exact rfl); (exact rfl); exact rfl) | (refine new_i (fun bk hbk => ?_)) | (apply when_dE; (exact rfl); (exact rfl); all_goals intro hc) | (apply when_dF; (exact rfl); (exact rfl); all_goals intro hc) | (apply when_nE; (exact rfl); (exact rfl); all_goals intro hc) | (apply when_nF; (exact rfl); (exact rfl); all_goals intro hc) | (apply br_dE; (exact rfl); all_goals intro hc) | (apply br_nE; (exact rfl); all_goals intro hc) | (refine mm_min ?_) | (refine mm_max ?_) | (refine rem_i ?_ ?_; omega) | (refine SelN.mk ?_) | (refine cut_n ?_) | (refine Both.mk ?_ ?_) | (exact True.intro))
    exact ⟨rfl, (by first | exact ent_i | (repeat (first | exact Ent.refl | exact Ent.left | refine Ent.cons ?_ | refine Ent.app ?_)))⟩
end
end Go.Proofs.YtiimndcifcoofaaDoor
