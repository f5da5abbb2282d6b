/- What the laws share, part 6. No condition. -/
import Derived.Shelf.Vars
import Derived.HandedShaped
import Derived.Test.YtiimndcifcoofaaGreatDoorX5
namespace Go.Proofs.YtiimndcifcoofaaGreatDoor
open Go Go.RowKit
set_option maxRecDepth 10000
set_option maxHeartbeats 4000000
section
variable {W0 : World} {own : Own}
theorem sp_AsmComments (hA : AsmAt W0) {la : Option Addr} {lc : Nat} {l : List Int} (hL : RdE encI 1 W0 own la l) (skip : Int) :
    Pure Tryz.prog W0 7 [.slice la l.length lc, .int .i64 skip] own (.bool true) := by
  refine pure_of (spec_of mixed low_law04_AsmComments (by simp [ir_law04_AsmComments]) ?_)
  have h9 := fun own => sp_awake4 (own := own) hA
  by_cases h6 : 40 < (l.length : Int)
  · repeat' ((try (conv => whnf)); first | (refine when_ye ?_ ?_; exact rfl) | (refine when_ne ?_ ?_; exact rfl) | (refine br_te ?_ ?_; exact rfl) | (refine br_fe ?_ ?_; exact rfl) | (apply br_pyE; (exact rfl); omega) | (apply br_pnE; (exact rfl); omega) | (apply when_pyE; (exact rfl); omega) | (apply when_pnE; (exact rfl); omega) | (apply br_npyE; (exact rfl); omega) | (apply br_npnE; (exact rfl); omega) | (apply when_npyE; (exact rfl); omega) | (apply when_npnE; (exact rfl); omega) | ((with_reducible show CallT _ _ _ _ _ _); first | ((refine call_pe (h9 _) ?_ ?_ ?_; (exact rfl); exact rfl))) | (refine ari ?_ ?_; omega) | (refine aru ?_ ?_; omega) | (apply sel; exact rfl) | (refine ix0 rfl ?_) | (refine ix1 rfl ?_) | (refine ix2 rfl ?_) | (refine ix3 rfl ?_) | (apply ixj; omega) | (refine ixn ?_ ?_; omega) | (refine ixs0 rfl ?_) | (refine ixs1 rfl ?_) | (refine ixs_j ?_ ?_; omega) | (refine ixs_n ?_ ?_; omega) | (apply ld_o; exact rfl) | (apply ldN_a; exact rfl) | (apply ldN_o; (exact rfl); exact rfl) | (apply st_o; (exact rfl); exact rfl) | (apply stN_o; (exact rfl); (exact rfl); exact rfl) | (refine new_i (fun bk hbk => ?_)) | (apply when_dE; (exact rfl); (exact rfl); all_goals intro hc) | (apply when_dF; (exact rfl); (exact rfl); all_goals intro hc) | (apply when_nE; (exact rfl); (exact rfl); all_goals intro hc) | (apply when_nF; (exact rfl); (exact rfl); all_goals intro hc) | (apply br_dE; (exact rfl); all_goals intro hc) | (apply br_nE; (exact rfl); all_goals intro hc) | (refine mm_min ?_) | (refine mm_max ?_) | (refine rem_i ?_ ?_; omega) | (refine SelN.mk ?_) | (refine cut_n ?_) | (refine Both.mk ?_ ?_) | (exact True.intro))
    exact ⟨rfl, (by first | exact ent_i | (repeat (first | exact Ent.refl | exact Ent.left | refine Ent.cons ?_ | refine Ent.app ?_)))⟩
  · repeat' ((try (conv => whnf)); first | (refine when_ye ?_ ?_; exact rfl) | (refine when_ne ?_ ?_; exact rfl) | (refine br_te ?_ ?_; exact rfl) | (refine br_fe ?_ ?_; exact rfl) | (apply br_pyE; (exact rfl); omega) | (apply br_pnE; (exact rfl); omega) | (apply when_pyE; (exact rfl); omega) | (apply when_pnE; (exact rfl); omega) | (apply br_npyE; (exact rfl); omega) | (apply br_npnE; (exact rfl); omega) | (apply when_npyE; (exact rfl); omega) | (apply when_npnE; (exact rfl); omega) | ((with_reducible show CallT _ _ _ _ _ _); first | ((refine call_prog (lc := lc) 30 hL (by omega) ⟨by decide, by decide⟩ ?_ ?_ (fun qa qc D q hB hI hQ2 => ?_); (exact rfl); (exact rfl); apply Stop.h))) | (refine ari ?_ ?_; omega) | (refine aru ?_ ?_; omega) | (apply sel; exact rfl) | (refine ix0 rfl ?_) | (refine ix1 rfl ?_) | (refine ix2 rfl ?_) | (refine ix3 rfl ?_) | (apply ixj; omega) | (refine ixn ?_ ?_; omega) | (refine ixs0 rfl ?_) | (refine ixs1 rfl ?_) | (refine ixs_j ?_ ?_; omega) | (refine ixs_n ?_ ?_; omega) | (apply ld_o; exact rfl) | (apply ldN_a; exact rfl) | (apply ldN_o; (exact rfl); exact rfl) | (apply st_o; (exact rfl); exact rfl) | (apply stN_o; (exact rfl); (exact rfl); exact rfl) | (refine new_i (fun bk hbk => ?_)) | (apply when_dE; (exact rfl); (exact rfl); all_goals intro hc) | (apply when_dF; (exact rfl); (exact rfl); all_goals intro hc) | (apply when_nE; (exact rfl); (exact rfl); all_goals intro hc) | (apply when_nF; (exact rfl); (exact rfl); all_goals intro hc) | (apply br_dE; (exact rfl); all_goals intro hc) | (apply br_nE; (exact rfl); all_goals intro hc) | (refine mm_min ?_) | (refine mm_max ?_) | (refine rem_i ?_ ?_; omega) | (refine SelN.mk ?_) | (refine cut_n ?_) | (refine Both.mk ?_ ?_) | (exact True.intro))
    refine Stop.mk ?_
    have hRE := (hB.rd (W0 := W0)).ent (Ent.left (D := D) (r := own))
    have hri : ∀ i ∈ q, -9223372036854775808 ≤ i.imm ∧ i.imm ≤ 9223372036854775807 := fun i hi => by have := hI i hi; omega
    have hrg : ∀ i ∈ q, rngI i := fun i hi => ⟨(hI i hi).1, hri i hi⟩
    have d3 := sp_Disassemble (cap := qc) hA hRE (by omega) hri
    have hz := dis_size hrg (by omega)
    have hr2 := congrArg Prod.snd (disM_ok hrg (by omega))
    dsimp only at hr2
    rw [hr2] at d3
    have hln := fun own => sp_rLines (W0 := W0) (own := own) (disM q).1 (by omega)
    rw [dis_lines hrg (by omega)] at hln
    have hcom := fun u s => asm_comments hrg (by omega) u (s := s)
    have htl := tgtT_len q
    have hok := cmds_ok (T := tgtT q) (by omega) q 0 hrg
    have hcl := cmds_len (tgtT q) q 0
    generalize (disM q).1 = tx at *
    generalize cmds (tgtT q) q 0 = cs at *
    have hpl := fun own => sp_place W0 own skip (n := 3) ⟨by omega, by omega⟩
    have hpr := plc_rng skip (n := 3) (by omega)
    generalize plc skip 3 = u at *
    obtain ⟨tot, htot⟩ : ∃ tot, flatN ([35, 32, 104, 101, 97, 100] :: cmtL u (cs.map Cmd.txt) 0) = tot := ⟨_, rfl⟩
    repeat' ((try (conv => whnf)); first | (refine when_ye ?_ ?_; exact rfl) | (refine when_ne ?_ ?_; exact rfl) | (refine br_te ?_ ?_; exact rfl) | (refine br_fe ?_ ?_; exact rfl) | (apply br_pyE; (exact rfl); omega) | (apply br_pnE; (exact rfl); omega) | (apply when_pyE; (exact rfl); omega) | (apply when_pnE; (exact rfl); omega) | (apply br_npyE; (exact rfl); omega) | (apply br_npnE; (exact rfl); omega) | (apply when_npyE; (exact rfl); omega) | (apply when_npnE; (exact rfl); omega) | ((with_reducible show CallT _ _ _ _ _ _); first | ((refine call_pe (d3) ?_ ?_ ?_; (exact rfl); exact rfl)) | ((refine call_se (hln _) ?_ ?_ (fun v own' hv => ?_); (exact rfl); (exact rfl); (obtain ⟨a1, c1, L1, rfl, hR1, hE1⟩ := hv)))) | (refine ari ?_ ?_; omega) | (refine aru ?_ ?_; omega) | (apply sel; exact rfl) | (refine ix0 rfl ?_) | (refine ix1 rfl ?_) | (refine ix2 rfl ?_) | (refine ix3 rfl ?_) | (apply ixj; omega) | (refine ixn ?_ ?_; omega) | (refine ixs0 rfl ?_) | (refine ixs1 rfl ?_) | (refine ixs_j ?_ ?_; omega) | (refine ixs_n ?_ ?_; omega) | (apply ld_o; exact rfl) | (apply ldN_a; exact rfl) | (apply ldN_o; (exact rfl); exact rfl) | (apply st_o; (exact rfl); exact rfl) | (apply stN_o; (exact rfl); (exact rfl); exact rfl) | (refine new_i (fun bk hbk => ?_)) | (apply when_dE; (exact rfl); (exact rfl); all_goals intro hc) | (apply when_dF; (exact rfl); (exact rfl); all_goals intro hc) | (apply when_nE; (exact rfl); (exact rfl); all_goals intro hc) | (apply when_nF; (exact rfl); (exact rfl); all_goals intro hc) | (apply br_dE; (exact rfl); all_goals intro hc) | (apply br_nE; (exact rfl); all_goals intro hc) | (refine mm_min ?_) | (refine mm_max ?_) | (refine rem_i ?_ ?_; omega) | (refine SelN.mk ?_) | (refine cut_n ?_) | (refine Both.mk ?_ ?_) | (exact True.intro))
    have hRl := hR1.ent (hE1.trans Ent.left)
    have hRq := hRE.ent (hE1.trans Ent.right)
    have hll : (cs.map fun c => bW c.txt).length = cs.length := by simp
    refine loop_c (σ := Nat × List UInt8) (fun x => [(8, .string (bW x.2)), (10, .int .i64 x.1)]) (fun x => x.1 ≤ cs.length ∧ x.2.length ≤ 7 + 200 * x.1 ∧ x.2 ++ flatN (cmtL u ((cs.drop x.1).map Cmd.txt) x.1) = tot) (fun x => cs.length - x.1) (0, [35, 32, 104, 101, 97, 100, 10]) ⟨Nat.zero_le _, by simp, by rw [← htot]; rfl⟩ (by repeat' (first | exact True.intro | refine And.intro ?_ ?_ | exact rfl | exact vi (by omega) | (dsimp only; exact rfl) | (dsimp only; exact vi (by omega)))) rfl ?_
    rintro ⟨m, t⟩ junk ⟨hm, ht, hJ⟩
    dsimp only at hm ht hJ ⊢
    by_cases hlt : m < cs.length
    · have hlt' : (m : Int) < (cs.map fun c => bW c.txt).length := by omega
      obtain ⟨c, hc⟩ : ∃ c, cs[m]? = some c := ⟨_, List.getElem?_eq_getElem hlt⟩
      have hxm : (cs.map fun c => bW c.txt)[m]? = some (bW c.txt) := by rw [List.getElem?_map, hc]; rfl
      have hcz := txt_len (hok c (List.mem_of_getElem? hc))
      have hd : cs.drop m = c :: cs.drop (m + 1) := by
        rw [List.drop_eq_getElem_cons hlt]
        congr 1
        exact (List.getElem?_eq_some_iff.1 hc).2
      rw [hd, List.map_cons, cmtL] at hJ
      have f1 := bW_app t [32]
      have f2 := bW_app (t ++ [32]) c.txt
      have f3 := bW_app (t ++ [32] ++ c.txt) [32, 32, 35, 32, 110, 111, 112, 58, 32, 55, 10]
      have f4 := bW_app (t ++ [32] ++ c.txt ++ [32, 32, 35, 32, 110, 111, 112, 58, 32, 55, 10]) [32, 32, 32, 10, 35, 10]
      have y0 := bW_size t
      have y1 := bW_size (t ++ [32])
      have y2 := bW_size c.txt
      have y3 := bW_size (t ++ [32] ++ c.txt)
      have y4 := bW_size (t ++ [32] ++ c.txt ++ [32, 32, 35, 32, 110, 111, 112, 58, 32, 55, 10])
      have y5 : (bW [32]).size = 1 := rfl
      have y6 : (bW [32, 32, 35, 32, 110, 111, 112, 58, 32, 55, 10]).size = 11 := rfl
      have y7 : (bW [32, 32, 32, 10, 35, 10]).size = 6 := rfl
      simp only [List.length_append, List.length_cons, List.length_nil] at y1 y3 y4
      by_cases hu : u = (m : Int) % 3
      · rw [if_pos hu] at hJ
        repeat' ((try (conv => whnf)); first | (refine when_ye ?_ ?_; exact rfl) | (refine when_ne ?_ ?_; exact rfl) | (refine br_te ?_ ?_; exact rfl) | (refine br_fe ?_ ?_; exact rfl) | (apply br_pyE; (exact rfl); omega) | (apply br_pnE; (exact rfl); omega) | (apply when_pyE; (exact rfl); omega) | (apply when_pnE; (exact rfl); omega) | (apply br_npyE; (exact rfl); omega) | (apply br_npnE; (exact rfl); omega) | (apply when_npyE; (exact rfl); omega) | (apply when_npnE; (exact rfl); omega) | (refine sct_n _ f1 ?_ ?_; (show _ + (bW [32]).size ≤ _; omega)) | (refine sct_n _ f2 ?_ ?_; (omega)) | (refine sct_n _ f3 ?_ ?_; (show _ + (bW [32, 32, 35, 32, 110, 111, 112, 58, 32, 55, 10]).size ≤ _; omega)) | (refine sct_n _ f4 ?_ ?_; (show _ + (bW [32, 32, 32, 10, 35, 10]).size ≤ _; omega)) | ((with_reducible show Ld _ _ _ _); first | (refine ldE0 hRl hxm rfl ?_) | (refine ldEk hRl hxm rfl ?_) | (refine ldE1 hRl hxm rfl ?_)) | ((with_reducible show IxS _ _ _ _ _); first | ((refine ixE hRl hxm ?_ ?_; (first | rfl | omega)))) | ((with_reducible show LdN _ _ _ _ _); first | (refine ldNEi hRl hxm rfl ?_)) | ((with_reducible show CallT _ _ _ _ _ _); first | ((refine call_pe (hpl _) ?_ ?_ ?_; (exact rfl); exact rfl))) | (refine ari ?_ ?_; omega) | (refine aru ?_ ?_; omega) | (apply sel; exact rfl) | (refine ix0 rfl ?_) | (refine ix1 rfl ?_) | (refine ix2 rfl ?_) | (refine ix3 rfl ?_) | (apply ixj; omega) | (refine ixn ?_ ?_; omega) | (refine ixs0 rfl ?_) | (refine ixs1 rfl ?_) | (refine ixs_j ?_ ?_; omega) | (refine ixs_n ?_ ?_; omega) | (apply ld_o; exact rfl) | (apply ldN_a; exact rfl) | (apply ldN_o; (exact rfl); exact rfl) | (apply st_o; (exact rfl); exact rfl) | (apply stN_o; (exact rfl); (exact rfl); exact rfl) | (refine new_i (fun bk hbk => ?_)) | (apply when_dE; (exact rfl); (exact rfl); all_goals intro hc) | (apply when_dF; (exact rfl); (exact rfl); all_goals intro hc) | (apply when_nE; (exact rfl); (exact rfl); all_goals intro hc) | (apply when_nF; (exact rfl); (exact rfl); all_goals intro hc) | (apply br_dE; (exact rfl); all_goals intro hc) | (apply br_nE; (exact rfl); all_goals intro hc) | (refine mm_min ?_) | (refine mm_max ?_) | (refine rem_i ?_ ?_; omega) | (refine SelN.mk ?_) | (refine cut_n ?_) | (refine Both.mk ?_ ?_) | (exact True.intro))
        refine ⟨(m + 1, t ++ [32] ++ c.txt ++ [32, 32, 35, 32, 110, 111, 112, 58, 32, 55, 10] ++ [32, 32, 32, 10, 35, 10]), ⟨by dsimp only; omega, ?_, ?_⟩, by dsimp only; omega, (by repeat' (first | exact True.intro | refine And.intro ?_ ?_ | exact rfl | exact vi (by omega) | (dsimp only; exact rfl) | (dsimp only; exact vi (by omega)))), (by first | exact ent_i | (repeat (first | exact Ent.refl | exact Ent.left | refine Ent.cons ?_ | refine Ent.app ?_)))⟩
        · dsimp only
          simp only [List.length_append, List.length_cons, List.length_nil]
          omega
        · dsimp only
          rw [← hJ, flatN_cons, flatN_cons, flatN_cons]
          simp
      · rw [if_neg hu] at hJ
        repeat' ((try (conv => whnf)); first | (refine when_ye ?_ ?_; exact rfl) | (refine when_ne ?_ ?_; exact rfl) | (refine br_te ?_ ?_; exact rfl) | (refine br_fe ?_ ?_; exact rfl) | (apply br_pyE; (exact rfl); omega) | (apply br_pnE; (exact rfl); omega) | (apply when_pyE; (exact rfl); omega) | (apply when_pnE; (exact rfl); omega) | (apply br_npyE; (exact rfl); omega) | (apply br_npnE; (exact rfl); omega) | (apply when_npyE; (exact rfl); omega) | (apply when_npnE; (exact rfl); omega) | (refine sct_n _ f1 ?_ ?_; (show _ + (bW [32]).size ≤ _; omega)) | (refine sct_n _ f2 ?_ ?_; (omega)) | (refine sct_n _ f3 ?_ ?_; (show _ + (bW [32, 32, 35, 32, 110, 111, 112, 58, 32, 55, 10]).size ≤ _; omega)) | ((with_reducible show Ld _ _ _ _); first | (refine ldE0 hRl hxm rfl ?_) | (refine ldEk hRl hxm rfl ?_) | (refine ldE1 hRl hxm rfl ?_)) | ((with_reducible show IxS _ _ _ _ _); first | ((refine ixE hRl hxm ?_ ?_; (first | rfl | omega)))) | ((with_reducible show LdN _ _ _ _ _); first | (refine ldNEi hRl hxm rfl ?_)) | ((with_reducible show CallT _ _ _ _ _ _); first | ((refine call_pe (hpl _) ?_ ?_ ?_; (exact rfl); exact rfl))) | (refine ari ?_ ?_; omega) | (refine aru ?_ ?_; omega) | (apply sel; exact rfl) | (refine ix0 rfl ?_) | (refine ix1 rfl ?_) | (refine ix2 rfl ?_) | (refine ix3 rfl ?_) | (apply ixj; omega) | (refine ixn ?_ ?_; omega) | (refine ixs0 rfl ?_) | (refine ixs1 rfl ?_) | (refine ixs_j ?_ ?_; omega) | (refine ixs_n ?_ ?_; omega) | (apply ld_o; exact rfl) | (apply ldN_a; exact rfl) | (apply ldN_o; (exact rfl); exact rfl) | (apply st_o; (exact rfl); exact rfl) | (apply stN_o; (exact rfl); (exact rfl); exact rfl) | (refine new_i (fun bk hbk => ?_)) | (apply when_dE; (exact rfl); (exact rfl); all_goals intro hc) | (apply when_dF; (exact rfl); (exact rfl); all_goals intro hc) | (apply when_nE; (exact rfl); (exact rfl); all_goals intro hc) | (apply when_nF; (exact rfl); (exact rfl); all_goals intro hc) | (apply br_dE; (exact rfl); all_goals intro hc) | (apply br_nE; (exact rfl); all_goals intro hc) | (refine mm_min ?_) | (refine mm_max ?_) | (refine rem_i ?_ ?_; omega) | (refine SelN.mk ?_) | (refine cut_n ?_) | (refine Both.mk ?_ ?_) | (exact True.intro))
        refine ⟨(m + 1, t ++ [32] ++ c.txt ++ [32, 32, 35, 32, 110, 111, 112, 58, 32, 55, 10]), ⟨by dsimp only; omega, ?_, ?_⟩, by dsimp only; omega, (by repeat' (first | exact True.intro | refine And.intro ?_ ?_ | exact rfl | exact vi (by omega) | (dsimp only; exact rfl) | (dsimp only; exact vi (by omega)))), (by first | exact ent_i | (repeat (first | exact Ent.refl | exact Ent.left | refine Ent.cons ?_ | refine Ent.app ?_)))⟩
        · dsimp only
          simp only [List.length_append, List.length_cons, List.length_nil]
          omega
        · dsimp only
          rw [← hJ, flatN_cons]
          simp
    · have hlt' : ¬ (m : Int) < (cs.map fun c => bW c.txt).length := by omega
      have hd : cs.drop m = [] := List.drop_eq_nil_of_le (by omega)
      rw [hd] at hJ
      have ht2 : t = tot := by rw [← hJ]; simp [cmtL, flatN]
      have hr1 := hcom u t (by rw [ht2, htot]) (by omega)
      have k1 := fun own => sp_Assemble (own := own) hA (bW t) (by rw [bW_size]; omega)
      rw [hr1] at k1
      have hkp := fun (a1 : Option Addr) (c1 : Nat) (own' : Own) (h1 : RdE Ins.enc 5 W0 own' a1 q) (h2 : RdE Ins.enc 5 W0 own' qa q) => sp_kprog (c1 := c1) (c2 := qc) h1 h2 (by omega)
      repeat' ((try (conv => whnf)); first | (refine when_ye ?_ ?_; exact rfl) | (refine when_ne ?_ ?_; exact rfl) | (refine br_te ?_ ?_; exact rfl) | (refine br_fe ?_ ?_; exact rfl) | (apply br_pyE; (exact rfl); omega) | (apply br_pnE; (exact rfl); omega) | (apply when_pyE; (exact rfl); omega) | (apply when_pnE; (exact rfl); omega) | (apply br_npyE; (exact rfl); omega) | (apply br_npnE; (exact rfl); omega) | (apply when_npyE; (exact rfl); omega) | (apply when_npnE; (exact rfl); omega) | ((with_reducible show CallT _ _ _ _ _ _); first | ((refine call_se (k1 _) ?_ ?_ (fun v own' hv => ?_); (exact rfl); (exact rfl); (obtain ⟨a2, c2, rfl, hR2, hE2⟩ := hv))) | ((refine call_pe (hkp a2 c2 _ hR2 (hRq.ent hE2)) ?_ ?_ ?_; (exact rfl); exact rfl)) | ((refine call_pe (h9 _) ?_ ?_ ?_; (exact rfl); exact rfl))) | (refine ari ?_ ?_; omega) | (refine aru ?_ ?_; omega) | (apply sel; exact rfl) | (refine ix0 rfl ?_) | (refine ix1 rfl ?_) | (refine ix2 rfl ?_) | (refine ix3 rfl ?_) | (apply ixj; omega) | (refine ixn ?_ ?_; omega) | (refine ixs0 rfl ?_) | (refine ixs1 rfl ?_) | (refine ixs_j ?_ ?_; omega) | (refine ixs_n ?_ ?_; omega) | (apply ld_o; exact rfl) | (apply ldN_a; exact rfl) | (apply ldN_o; (exact rfl); exact rfl) | (apply st_o; (exact rfl); exact rfl) | (apply stN_o; (exact rfl); (exact rfl); exact rfl) | (refine new_i (fun bk hbk => ?_)) | (apply when_dE; (exact rfl); (exact rfl); all_goals intro hc) | (apply when_dF; (exact rfl); (exact rfl); all_goals intro hc) | (apply when_nE; (exact rfl); (exact rfl); all_goals intro hc) | (apply when_nF; (exact rfl); (exact rfl); all_goals intro hc) | (apply br_dE; (exact rfl); all_goals intro hc) | (apply br_nE; (exact rfl); all_goals intro hc) | (refine mm_min ?_) | (refine mm_max ?_) | (refine rem_i ?_ ?_; omega) | (refine SelN.mk ?_) | (refine cut_n ?_) | (refine Both.mk ?_ ?_) | (exact True.intro))
      exact ⟨rfl, hE2.trans (hE1.trans (Ent.app Ent.right))⟩
end
end Go.Proofs.YtiimndcifcoofaaGreatDoor
