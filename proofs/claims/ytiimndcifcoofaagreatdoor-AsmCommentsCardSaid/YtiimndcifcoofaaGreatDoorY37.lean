/- What the laws share, part 37. No condition. -/
import Derived.Test.YtiimndcifcoofaaGreatDoorY36
namespace Go.Proofs.YtiimndcifcoofaaGreatDoor
open Go Go.RowKit
set_option maxRecDepth 10000
set_option maxHeartbeats 4000000
theorem lab_len {T : List Int} (h : T.length ≤ 64) (k : Int) : (labT T k).length ≤ 24 := by
  unfold labT
  cases hx : idxI k T 0 with
  | none => simp
  | some j =>
    have := idx_lt k T 0 j hx
    have := lnm_len (j := j) (by omega)
    simp only [List.length_append, List.length_cons, List.length_nil]
    omega
theorem bW_app (a b : List UInt8) : bW a ++ bW b = bW (a ++ b) := ba_ext (by simp [bW, ByteArray.data_append])
section
variable {W0 : World} {own : Own}
theorem sp_rDisassemble (hA : AsmAt W0) {a : Option Addr} {cap : Nat} {p : List Ins} (hR : RdE Ins.enc 5 W0 own a p) (hl : p.length ≤ 9223372036854775807) (him : ∀ i ∈ p, -9223372036854775808 ≤ i.imm ∧ i.imm ≤ 9223372036854775807) :
    Pure Tryz.prog W0 28 [.slice a p.length cap] own (.tuple #[.string (disM p).1, .int .i64 (disM p).2]) := by
  refine pure_of (spec_of mixed lowc_ref04_Disassemble (by simp [irc_ref04_Disassemble]) ?_)
  have hw : ∀ (f : Nat → Int) (m : Nat), ∀ x ∈ numL f m, (encI x).length = 1 := fun _ _ _ _ => rfl
  have hln : ∀ f : Nat → Int, p.length + 1 = (numL f (p.length + 1)).length := fun f => (num_len f _).symm
  unfold disM
  by_cases h64 : 64 < p.length
  · rw [if_pos h64]
    have h64' : 64 < (p.length : Int) := by omega
    repeat' ((try (conv => whnf)); first | (refine when_ye ?_ ?_; exact rfl) | (refine when_ne ?_ ?_; exact rfl) | (refine br_te ?_ ?_; exact rfl) | (refine br_fe ?_ ?_; exact rfl) | (apply br_pyE; (exact rfl); omega) | (apply br_pnE; (exact rfl); omega) | (apply when_pyE; (exact rfl); omega) | (apply when_pnE; (exact rfl); omega) | (apply br_npyE; (exact rfl); omega) | (apply br_npnE; (exact rfl); omega) | (apply when_npyE; (exact rfl); omega) | (apply when_npnE; (exact rfl); omega) | (refine ari ?_ ?_; omega) | (refine aru ?_ ?_; omega) | (apply sel; exact rfl) | (refine ix0 rfl ?_) | (refine ix1 rfl ?_) | (refine ix2 rfl ?_) | (refine ix3 rfl ?_) | (apply ixj; omega) | (refine ixn ?_ ?_; omega) | (refine ixs0 rfl ?_) | (refine ixs1 rfl ?_) | (refine ixs_j ?_ ?_; omega) | (refine ixs_n ?_ ?_; omega) | (apply ld_o; exact rfl) | (apply ldN_a; exact rfl) | (apply ldN_o; (exact rfl); exact rfl) | (apply st_o; (exact rfl); exact rfl) | (apply stN_o; (exact rfl); (exact rfl); exact rfl) | (refine new_i (fun bk hbk => ?_)) | (apply when_dE; (exact rfl); (exact rfl); all_goals intro hc) | (apply when_dF; (exact rfl); (exact rfl); all_goals intro hc) | (apply when_nE; (exact rfl); (exact rfl); all_goals intro hc) | (apply when_nF; (exact rfl); (exact rfl); all_goals intro hc) | (apply br_dE; (exact rfl); all_goals intro hc) | (apply br_nE; (exact rfl); all_goals intro hc) | (refine mm_min ?_) | (refine mm_max ?_) | (refine rem_i ?_ ?_; omega) | (refine SelN.mk ?_) | (refine cut_n ?_) | (refine Both.mk ?_ ?_) | (exact True.intro))
    exact ⟨rfl, (by first | exact ent_i | (repeat (first | exact Ent.refl | exact Ent.left | refine Ent.cons ?_ | refine Ent.app ?_)))⟩
  · rw [if_neg h64]
    have h64' : ¬ 64 < (p.length : Int) := by omega
    repeat' ((try (conv => whnf)); first | (refine when_ye ?_ ?_; exact rfl) | (refine when_ne ?_ ?_; exact rfl) | (refine br_te ?_ ?_; exact rfl) | (refine br_fe ?_ ?_; exact rfl) | (apply br_pyE; (exact rfl); omega) | (apply br_pnE; (exact rfl); omega) | (apply when_pyE; (exact rfl); omega) | (apply when_pnE; (exact rfl); omega) | (apply br_npyE; (exact rfl); omega) | (apply br_npnE; (exact rfl); omega) | (apply when_npyE; (exact rfl); omega) | (apply when_npnE; (exact rfl); omega) | (refine mkC (enc := encI) (p.length + 1) 0 ?_ ?_ rfl ?_ (fun b => ?_); (omega); (omega); (omega)) | (refine ari ?_ ?_; omega) | (refine aru ?_ ?_; omega) | (apply sel; exact rfl) | (refine ix0 rfl ?_) | (refine ix1 rfl ?_) | (refine ix2 rfl ?_) | (refine ix3 rfl ?_) | (apply ixj; omega) | (refine ixn ?_ ?_; omega) | (refine ixs0 rfl ?_) | (refine ixs1 rfl ?_) | (refine ixs_j ?_ ?_; omega) | (refine ixs_n ?_ ?_; omega) | (apply ld_o; exact rfl) | (apply ldN_a; exact rfl) | (apply ldN_o; (exact rfl); exact rfl) | (apply st_o; (exact rfl); exact rfl) | (apply stN_o; (exact rfl); (exact rfl); exact rfl) | (refine new_i (fun bk hbk => ?_)) | (apply when_dE; (exact rfl); (exact rfl); all_goals intro hc) | (apply when_dF; (exact rfl); (exact rfl); all_goals intro hc) | (apply when_nE; (exact rfl); (exact rfl); all_goals intro hc) | (apply when_nF; (exact rfl); (exact rfl); all_goals intro hc) | (apply br_dE; (exact rfl); all_goals intro hc) | (apply br_nE; (exact rfl); all_goals intro hc) | (refine mm_min ?_) | (refine mm_max ?_) | (refine rem_i ?_ ?_; omega) | (refine SelN.mk ?_) | (refine cut_n ?_) | (refine Both.mk ?_ ?_) | (exact True.intro))
    rw [num_zero]
    refine loop_i (σ := Nat × (Nat → Int)) (fun x => [(5, .int .i64 x.1)]) (fun x => canE encI 3 b (numL x.2 (p.length + 1)) :: own) (fun x => x.1 ≤ p.length ∧ errP (p.drop x.1) = errP p ∧ (∀ j, x.2 j = 0 ∨ x.2 j = 1) ∧ ∀ j : Nat, (x.2 j = 1 ∨ (j : Int) ∈ rawT p.length (p.drop x.1) x.1) ↔ (j : Int) ∈ rawT p.length p 0) (fun x => p.length - x.1) (0, fun _ => 0) ⟨Nat.zero_le _, rfl, fun _ => .inl rfl, fun j => by simp⟩ (by repeat' (first | exact True.intro | refine And.intro ?_ ?_ | exact rfl | exact vi (by omega) | (dsimp only; exact rfl) | (dsimp only; exact vi (by omega)))) Ent.refl rfl ?_
    rintro ⟨k, f⟩ junk ⟨hk, hI, hf, hJ⟩
    dsimp only at hk hI hf hJ ⊢
    by_cases hlt : k < p.length
    · have hlt' : (k : Int) < p.length := by omega
      obtain ⟨i, hi⟩ : ∃ i, p[k]? = some i := ⟨_, List.getElem?_eq_getElem hlt⟩
      have hd : p.drop k = i :: p.drop (k + 1) := by
        rw [List.drop_eq_getElem_cons hlt]
        congr 1
        exact (List.getElem?_eq_some_iff.1 hi).2
      rw [hd, errP] at hI
      rw [hd] at hJ
      simp only [rawT] at hJ
      have hc := fun own => sp_rcheck W0 own i
      have hs := fun own => sp_rskips W0 own i
      have hr := iskip_le i
      by_cases h0 : icheck i = 0
      · rw [if_pos h0] at hI
        rw [h0] at hc
        cases hq : iskips i with
        | false =>
          rw [hq] at hs
          simp only [hq, Bool.false_eq_true, false_and, if_false] at hJ
          generalize iskip i = s at *
          obtain ⟨io, ia, ib, ic, im⟩ := i
          repeat' ((try (conv => whnf)); first | (refine when_ye ?_ ?_; exact rfl) | (refine when_ne ?_ ?_; exact rfl) | (refine br_te ?_ ?_; exact rfl) | (refine br_fe ?_ ?_; exact rfl) | (apply br_pyE; (exact rfl); omega) | (apply br_pnE; (exact rfl); omega) | (apply when_pyE; (exact rfl); omega) | (apply when_pnE; (exact rfl); omega) | (apply br_npyE; (exact rfl); omega) | (apply br_npnE; (exact rfl); omega) | (apply when_npyE; (exact rfl); omega) | (apply when_npnE; (exact rfl); omega) | ((with_reducible show Ld _ _ _ _); first | (refine ldE0 hR hi rfl ?_) | (refine ldEk hR hi rfl ?_) | (refine ldE1 hR hi rfl ?_)) | ((with_reducible show IxS _ _ _ _ _); first | ((refine ixE hR hi ?_ ?_; (first | rfl | omega)))) | ((with_reducible show LdN _ _ _ _ _); first | (refine ldNEi hR hi rfl ?_)) | ((with_reducible show CallT _ _ _ _ _ _); first | ((refine call_pe (hc _) ?_ ?_ ?_; (exact rfl); exact rfl)) | ((refine call_pe (hs _) ?_ ?_ ?_; (exact rfl); exact rfl))) | (refine ari ?_ ?_; omega) | (refine aru ?_ ?_; omega) | (apply sel; exact rfl) | (refine ix0 rfl ?_) | (refine ix1 rfl ?_) | (refine ix2 rfl ?_) | (refine ix3 rfl ?_) | (apply ixj; omega) | (refine ixn ?_ ?_; omega) | (refine ixs0 rfl ?_) | (refine ixs1 rfl ?_) | (refine ixs_j ?_ ?_; omega) | (refine ixs_n ?_ ?_; omega) | (apply ld_o; exact rfl) | (apply ldN_a; exact rfl) | (apply ldN_o; (exact rfl); exact rfl) | (apply st_o; (exact rfl); exact rfl) | (apply stN_o; (exact rfl); (exact rfl); exact rfl) | (refine new_i (fun bk hbk => ?_)) | (apply when_dE; (exact rfl); (exact rfl); all_goals intro hc) | (apply when_dF; (exact rfl); (exact rfl); all_goals intro hc) | (apply when_nE; (exact rfl); (exact rfl); all_goals intro hc) | (apply when_nF; (exact rfl); (exact rfl); all_goals intro hc) | (apply br_dE; (exact rfl); all_goals intro hc) | (apply br_nE; (exact rfl); all_goals intro hc) | (refine mm_min ?_) | (refine mm_max ?_) | (refine rem_i ?_ ?_; omega) | (refine SelN.mk ?_) | (refine cut_n ?_) | (refine Both.mk ?_ ?_) | (exact True.intro))
          exact ⟨(k + 1, f), ⟨by dsimp only; omega, hI, hf, hJ⟩, by dsimp only; omega, (by repeat' (first | exact True.intro | refine And.intro ?_ ?_ | exact rfl | exact vi (by omega) | (dsimp only; exact rfl) | (dsimp only; exact vi (by omega)))), (by first | exact ent_i | (repeat (first | exact Ent.refl | exact Ent.left | refine Ent.cons ?_ | refine Ent.app ?_)))⟩
        | true =>
          rw [hq] at hs
          simp only [hq, true_and] at hJ
          generalize iskip i = s at *
          obtain ⟨io, ia, ib, ic, im⟩ := i
          by_cases hn : (k : Int) + 1 + s ≤ p.length
          · rw [if_pos hn] at hJ
            obtain ⟨t, ht⟩ : ∃ t : Nat, (k : Int) + 1 + s = t := ⟨((k : Int) + 1 + s).toNat, by omega⟩
            have htl : t < p.length + 1 := by omega
            have hxt := num_at (f := f) htl
            have hwv := hw (f) (p.length + 1)
            have hlv := hln (f)
            repeat' ((try (conv => whnf)); first | (refine when_ye ?_ ?_; exact rfl) | (refine when_ne ?_ ?_; exact rfl) | (refine br_te ?_ ?_; exact rfl) | (refine br_fe ?_ ?_; exact rfl) | (apply br_pyE; (exact rfl); omega) | (apply br_pnE; (exact rfl); omega) | (apply when_pyE; (exact rfl); omega) | (apply when_pnE; (exact rfl); omega) | (apply br_npyE; (exact rfl); omega) | (apply br_npnE; (exact rfl); omega) | (apply when_npyE; (exact rfl); omega) | (apply when_npnE; (exact rfl); omega) | (apply stC (T := 3) (k := 0) 1 hwv hxt; (exact rfl); (omega); (exact rfl); (exact rfl)) | ((with_reducible show Ld _ _ _ _); first | (refine ldE0 hR hi rfl ?_) | (refine ldEk hR hi rfl ?_) | (refine ldE1 hR hi rfl ?_) | (refine ldC0 hwv hxt rfl ?_) | (refine ldC1 hwv hxt rfl ?_) | (refine ldC hwv hxt rfl ?_)) | ((with_reducible show IxS _ _ _ _ _); first | ((refine ixE hR hi ?_ ?_; (first | rfl | omega))) | ((refine ixC hxt hlv ?_ ?_; (first | rfl | omega)))) | ((with_reducible show LdN _ _ _ _ _); first | (refine ldNEi hR hi rfl ?_) | (refine ldNC hwv hxt rfl ?_)) | ((with_reducible show CallT _ _ _ _ _ _); first | ((refine call_pe (hc _) ?_ ?_ ?_; (exact rfl); exact rfl)) | ((refine call_pe (hs _) ?_ ?_ ?_; (exact rfl); exact rfl))) | (refine ari ?_ ?_; omega) | (refine aru ?_ ?_; omega) | (apply sel; exact rfl) | (refine ix0 rfl ?_) | (refine ix1 rfl ?_) | (refine ix2 rfl ?_) | (refine ix3 rfl ?_) | (apply ixj; omega) | (refine ixn ?_ ?_; omega) | (refine ixs0 rfl ?_) | (refine ixs1 rfl ?_) | (refine ixs_j ?_ ?_; omega) | (refine ixs_n ?_ ?_; omega) | (apply ld_o; exact rfl) | (apply ldN_a; exact rfl) | (apply ldN_o; (exact rfl); exact rfl) | (apply st_o; (exact rfl); exact rfl) | (apply stN_o; (exact rfl); (exact rfl); exact rfl) | (refine new_i (fun bk hbk => ?_)) | (apply when_dE; (exact rfl); (exact rfl); all_goals intro hc) | (apply when_dF; (exact rfl); (exact rfl); all_goals intro hc) | (apply when_nE; (exact rfl); (exact rfl); all_goals intro hc) | (apply when_nF; (exact rfl); (exact rfl); all_goals intro hc) | (apply br_dE; (exact rfl); all_goals intro hc) | (apply br_nE; (exact rfl); all_goals intro hc) | (refine mm_min ?_) | (refine mm_max ?_) | (refine rem_i ?_ ?_; omega) | (refine SelN.mk ?_) | (refine cut_n ?_) | (refine Both.mk ?_ ?_) | (exact True.intro))
            refine ⟨(k + 1, fun j => if j = t then 1 else f j), ⟨by dsimp only; omega, hI, fun j => ?_, fun j => ?_⟩, by dsimp only; omega, (by repeat' (first | exact True.intro | refine And.intro ?_ ?_ | exact rfl | exact vi (by omega) | (dsimp only; exact rfl) | (dsimp only; exact vi (by omega)))), by rw [num_set]; exact Ent.refl⟩
            · dsimp only
              split
              · exact .inr rfl
              · exact hf j
            · dsimp only
              rw [← hJ j]
              by_cases hjt : j = t
              · rw [if_pos hjt]
                exact ⟨fun _ => .inr (by rw [ht, hjt]; exact List.mem_cons_self), fun _ => .inl rfl⟩
              · rw [if_neg hjt]
                have : ((j : Int) ∈ ((k : Int) + 1 + s) :: rawT p.length (p.drop (k + 1)) (k + 1)) ↔ (j : Int) ∈ rawT p.length (p.drop (k + 1)) (k + 1) := by
                  rw [List.mem_cons]
                  exact ⟨fun h => h.resolve_left (by omega), .inr⟩
                rw [this]
          · rw [if_neg hn] at hJ
            repeat' ((try (conv => whnf)); first | (refine when_ye ?_ ?_; exact rfl) | (refine when_ne ?_ ?_; exact rfl) | (refine br_te ?_ ?_; exact rfl) | (refine br_fe ?_ ?_; exact rfl) | (apply br_pyE; (exact rfl); omega) | (apply br_pnE; (exact rfl); omega) | (apply when_pyE; (exact rfl); omega) | (apply when_pnE; (exact rfl); omega) | (apply br_npyE; (exact rfl); omega) | (apply br_npnE; (exact rfl); omega) | (apply when_npyE; (exact rfl); omega) | (apply when_npnE; (exact rfl); omega) | ((with_reducible show Ld _ _ _ _); first | (refine ldE0 hR hi rfl ?_) | (refine ldEk hR hi rfl ?_) | (refine ldE1 hR hi rfl ?_)) | ((with_reducible show IxS _ _ _ _ _); first | ((refine ixE hR hi ?_ ?_; (first | rfl | omega)))) | ((with_reducible show LdN _ _ _ _ _); first | (refine ldNEi hR hi rfl ?_)) | ((with_reducible show CallT _ _ _ _ _ _); first | ((refine call_pe (hc _) ?_ ?_ ?_; (exact rfl); exact rfl)) | ((refine call_pe (hs _) ?_ ?_ ?_; (exact rfl); exact rfl))) | (refine ari ?_ ?_; omega) | (refine aru ?_ ?_; omega) | (apply sel; exact rfl) | (refine ix0 rfl ?_) | (refine ix1 rfl ?_) | (refine ix2 rfl ?_) | (refine ix3 rfl ?_) | (apply ixj; omega) | (refine ixn ?_ ?_; omega) | (refine ixs0 rfl ?_) | (refine ixs1 rfl ?_) | (refine ixs_j ?_ ?_; omega) | (refine ixs_n ?_ ?_; omega) | (apply ld_o; exact rfl) | (apply ldN_a; exact rfl) | (apply ldN_o; (exact rfl); exact rfl) | (apply st_o; (exact rfl); exact rfl) | (apply stN_o; (exact rfl); (exact rfl); exact rfl) | (refine new_i (fun bk hbk => ?_)) | (apply when_dE; (exact rfl); (exact rfl); all_goals intro hc) | (apply when_dF; (exact rfl); (exact rfl); all_goals intro hc) | (apply when_nE; (exact rfl); (exact rfl); all_goals intro hc) | (apply when_nF; (exact rfl); (exact rfl); all_goals intro hc) | (apply br_dE; (exact rfl); all_goals intro hc) | (apply br_nE; (exact rfl); all_goals intro hc) | (refine mm_min ?_) | (refine mm_max ?_) | (refine rem_i ?_ ?_; omega) | (refine SelN.mk ?_) | (refine cut_n ?_) | (refine Both.mk ?_ ?_) | (exact True.intro))
            exact ⟨(k + 1, f), ⟨by dsimp only; omega, hI, hf, hJ⟩, by dsimp only; omega, (by repeat' (first | exact True.intro | refine And.intro ?_ ?_ | exact rfl | exact vi (by omega) | (dsimp only; exact rfl) | (dsimp only; exact vi (by omega)))), (by first | exact ent_i | (repeat (first | exact Ent.refl | exact Ent.left | refine Ent.cons ?_ | refine Ent.app ?_)))⟩
      · rw [if_neg h0] at hI
        have hne : ¬ errP p = 0 := by rw [← hI]; exact h0
        rw [if_neg hne, ← hI]
        generalize icheck i = e at *
        obtain ⟨io, ia, ib, ic, im⟩ := i
        repeat' ((try (conv => whnf)); first | (refine when_ye ?_ ?_; exact rfl) | (refine when_ne ?_ ?_; exact rfl) | (refine br_te ?_ ?_; exact rfl) | (refine br_fe ?_ ?_; exact rfl) | (apply br_pyE; (exact rfl); omega) | (apply br_pnE; (exact rfl); omega) | (apply when_pyE; (exact rfl); omega) | (apply when_pnE; (exact rfl); omega) | (apply br_npyE; (exact rfl); omega) | (apply br_npnE; (exact rfl); omega) | (apply when_npyE; (exact rfl); omega) | (apply when_npnE; (exact rfl); omega) | ((with_reducible show Ld _ _ _ _); first | (refine ldE0 hR hi rfl ?_) | (refine ldEk hR hi rfl ?_) | (refine ldE1 hR hi rfl ?_)) | ((with_reducible show IxS _ _ _ _ _); first | ((refine ixE hR hi ?_ ?_; (first | rfl | omega)))) | ((with_reducible show LdN _ _ _ _ _); first | (refine ldNEi hR hi rfl ?_)) | ((with_reducible show CallT _ _ _ _ _ _); first | ((refine call_pe (hc _) ?_ ?_ ?_; (exact rfl); exact rfl))) | (refine ari ?_ ?_; omega) | (refine aru ?_ ?_; omega) | (apply sel; exact rfl) | (refine ix0 rfl ?_) | (refine ix1 rfl ?_) | (refine ix2 rfl ?_) | (refine ix3 rfl ?_) | (apply ixj; omega) | (refine ixn ?_ ?_; omega) | (refine ixs0 rfl ?_) | (refine ixs1 rfl ?_) | (refine ixs_j ?_ ?_; omega) | (refine ixs_n ?_ ?_; omega) | (apply ld_o; exact rfl) | (apply ldN_a; exact rfl) | (apply ldN_o; (exact rfl); exact rfl) | (apply st_o; (exact rfl); exact rfl) | (apply stN_o; (exact rfl); (exact rfl); exact rfl) | (refine new_i (fun bk hbk => ?_)) | (apply when_dE; (exact rfl); (exact rfl); all_goals intro hc) | (apply when_dF; (exact rfl); (exact rfl); all_goals intro hc) | (apply when_nE; (exact rfl); (exact rfl); all_goals intro hc) | (apply when_nF; (exact rfl); (exact rfl); all_goals intro hc) | (apply br_dE; (exact rfl); all_goals intro hc) | (apply br_nE; (exact rfl); all_goals intro hc) | (refine mm_min ?_) | (refine mm_max ?_) | (refine rem_i ?_ ?_; omega) | (refine SelN.mk ?_) | (refine cut_n ?_) | (refine Both.mk ?_ ?_) | (exact True.intro))
        exact ⟨rfl, (by first | exact ent_i | (repeat (first | exact Ent.refl | exact Ent.left | refine Ent.cons ?_ | refine Ent.app ?_)))⟩
    · have hlt' : ¬ (k : Int) < p.length := by omega
      have hd : p.drop k = [] := List.drop_eq_nil_of_le (by omega)
      rw [hd, errP] at hI
      rw [hd] at hJ
      rw [if_pos hI.symm]
      have hall := errP_all hI.symm
      have htl := tgtT_len p
      have hta := tgtT_asc p
      have htr := tgtT_rng p
      have hrw := fun (i : Ins) (m : Nat) h => raw_in p.length (i := i) p 0 m h
      have hff : ∀ j : Nat, f j = 1 ↔ (j : Int) ∈ tgtT p := fun j => by
        rw [tgtT_mem, ← hJ j]
        simp [rawT]
      simp only [← tgtT_mem] at hrw
      generalize tgtT p = T at *
      have hc0 : cntT T 0 = 0 := cnt_zero fun x hx => (htr x hx).1
      repeat' ((try (conv => whnf)); first | (refine when_ye ?_ ?_; exact rfl) | (refine when_ne ?_ ?_; exact rfl) | (refine br_te ?_ ?_; exact rfl) | (refine br_fe ?_ ?_; exact rfl) | (apply br_pyE; (exact rfl); omega) | (apply br_pnE; (exact rfl); omega) | (apply when_pyE; (exact rfl); omega) | (apply when_pnE; (exact rfl); omega) | (apply br_npyE; (exact rfl); omega) | (apply br_npnE; (exact rfl); omega) | (apply when_npyE; (exact rfl); omega) | (apply when_npnE; (exact rfl); omega) | (refine ari ?_ ?_; omega) | (refine aru ?_ ?_; omega) | (apply sel; exact rfl) | (refine ix0 rfl ?_) | (refine ix1 rfl ?_) | (refine ix2 rfl ?_) | (refine ix3 rfl ?_) | (apply ixj; omega) | (refine ixn ?_ ?_; omega) | (refine ixs0 rfl ?_) | (refine ixs1 rfl ?_) | (refine ixs_j ?_ ?_; omega) | (refine ixs_n ?_ ?_; omega) | (apply ld_o; exact rfl) | (apply ldN_a; exact rfl) | (apply ldN_o; (exact rfl); exact rfl) | (apply st_o; (exact rfl); exact rfl) | (apply stN_o; (exact rfl); (exact rfl); exact rfl) | (refine new_i (fun bk hbk => ?_)) | (apply when_dE; (exact rfl); (exact rfl); all_goals intro hc) | (apply when_dF; (exact rfl); (exact rfl); all_goals intro hc) | (apply when_nE; (exact rfl); (exact rfl); all_goals intro hc) | (apply when_nF; (exact rfl); (exact rfl); all_goals intro hc) | (apply br_dE; (exact rfl); all_goals intro hc) | (apply br_nE; (exact rfl); all_goals intro hc) | (refine mm_min ?_) | (refine mm_max ?_) | (refine rem_i ?_ ?_; omega) | (refine SelN.mk ?_) | (refine cut_n ?_) | (refine Both.mk ?_ ?_) | (exact True.intro))
      refine loop_i (σ := Nat × (Nat → Int)) (fun x => [(9, .int .i64 (cntT T x.1)), (10, .int .i64 x.1)]) (fun x => canE encI 3 b (numL x.2 (p.length + 1)) :: own) (fun x => x.1 ≤ p.length + 1 ∧ (∀ j, j < x.1 → x.2 j = nmT T j) ∧ ∀ j, x.1 ≤ j → (x.2 j = 0 ∨ x.2 j = 1) ∧ (x.2 j = 1 ↔ (j : Int) ∈ T)) (fun x => p.length + 1 - x.1) (0, f) ⟨Nat.zero_le _, fun j h => absurd h (Nat.not_lt_zero _), fun j _ => ⟨hf j, hff j⟩⟩ (by repeat' (first | exact True.intro | refine And.intro ?_ ?_ | exact rfl | exact vi (by omega) | (dsimp only; exact rfl) | (dsimp only; exact vi (by omega)))) Ent.refl rfl ?_
      rintro ⟨k2, g⟩ junk2 ⟨hk2, hg1, hg2⟩
      dsimp only at hk2 hg1 hg2 ⊢
      by_cases hk3 : k2 ≤ p.length
      · have hk3' : (k2 : Int) ≤ p.length := by omega
        have hxk := num_at (f := g) (m := p.length + 1) (j := k2) (by omega)
        have hwv := hw (g) (p.length + 1)
        have hlv := hln (g)
        have hcs := cnt_succ (k := k2) T hta
        have hcl := cnt_le T k2
        obtain ⟨hg3, hg4⟩ := hg2 k2 (Nat.le_refl _)
        by_cases hin : (k2 : Int) ∈ T
        · rw [if_pos hin] at hcs
          have hgk := hg4.2 hin
          have hny := nm_yes hta hin
          repeat' ((try (conv => whnf)); first | (refine when_ye ?_ ?_; exact rfl) | (refine when_ne ?_ ?_; exact rfl) | (refine br_te ?_ ?_; exact rfl) | (refine br_fe ?_ ?_; exact rfl) | (apply br_pyE; (exact rfl); omega) | (apply br_pnE; (exact rfl); omega) | (apply when_pyE; (exact rfl); omega) | (apply when_pnE; (exact rfl); omega) | (apply br_npyE; (exact rfl); omega) | (apply br_npnE; (exact rfl); omega) | (apply when_npyE; (exact rfl); omega) | (apply when_npnE; (exact rfl); omega) | (apply stC (T := 3) (k := 0) ((cntT T k2 : Int) + 1) hwv hxk; (exact rfl); (omega); (exact rfl); (exact rfl)) | ((with_reducible show Ld _ _ _ _); first | (refine ldC0 hwv hxk rfl ?_) | (refine ldC1 hwv hxk rfl ?_) | (refine ldC hwv hxk rfl ?_)) | ((with_reducible show IxS _ _ _ _ _); first | ((refine ixC hxk hlv ?_ ?_; (first | rfl | omega)))) | ((with_reducible show LdN _ _ _ _ _); first | (refine ldNC hwv hxk rfl ?_)) | (refine ari ?_ ?_; omega) | (refine aru ?_ ?_; omega) | (apply sel; exact rfl) | (refine ix0 rfl ?_) | (refine ix1 rfl ?_) | (refine ix2 rfl ?_) | (refine ix3 rfl ?_) | (apply ixj; omega) | (refine ixn ?_ ?_; omega) | (refine ixs0 rfl ?_) | (refine ixs1 rfl ?_) | (refine ixs_j ?_ ?_; omega) | (refine ixs_n ?_ ?_; omega) | (apply ld_o; exact rfl) | (apply ldN_a; exact rfl) | (apply ldN_o; (exact rfl); exact rfl) | (apply st_o; (exact rfl); exact rfl) | (apply stN_o; (exact rfl); (exact rfl); exact rfl) | (refine new_i (fun bk hbk => ?_)) | (apply when_dE; (exact rfl); (exact rfl); all_goals intro hc) | (apply when_dF; (exact rfl); (exact rfl); all_goals intro hc) | (apply when_nE; (exact rfl); (exact rfl); all_goals intro hc) | (apply when_nF; (exact rfl); (exact rfl); all_goals intro hc) | (apply br_dE; (exact rfl); all_goals intro hc) | (apply br_nE; (exact rfl); all_goals intro hc) | (refine mm_min ?_) | (refine mm_max ?_) | (refine rem_i ?_ ?_; omega) | (refine SelN.mk ?_) | (refine cut_n ?_) | (refine Both.mk ?_ ?_) | (exact True.intro))
          refine ⟨(k2 + 1, fun j => if j = k2 then (cntT T k2 : Int) + 1 else g j), ⟨by dsimp only; omega, fun j hj => ?_, fun j hj => ?_⟩, by dsimp only; omega, (by repeat' (first | exact True.intro | refine And.intro ?_ ?_ | exact rfl | exact vi (by omega) | (dsimp only; exact rfl) | (dsimp only; exact vi (by omega)))), by rw [num_set]; exact Ent.refl⟩
          · dsimp only at hj ⊢
            by_cases hjk : j = k2
            · rw [if_pos hjk, hjk, hny]
            · rw [if_neg hjk]
              exact hg1 j (by omega)
          · dsimp only at hj ⊢
            rw [if_neg (by omega)]
            exact hg2 j (by omega)
        · rw [if_neg hin] at hcs
          have hgk : g k2 = 0 := hg3.resolve_right fun h => hin (hg4.1 h)
          have hnn := nm_no hin
          repeat' ((try (conv => whnf)); first | (refine when_ye ?_ ?_; exact rfl) | (refine when_ne ?_ ?_; exact rfl) | (refine br_te ?_ ?_; exact rfl) | (refine br_fe ?_ ?_; exact rfl) | (apply br_pyE; (exact rfl); omega) | (apply br_pnE; (exact rfl); omega) | (apply when_pyE; (exact rfl); omega) | (apply when_pnE; (exact rfl); omega) | (apply br_npyE; (exact rfl); omega) | (apply br_npnE; (exact rfl); omega) | (apply when_npyE; (exact rfl); omega) | (apply when_npnE; (exact rfl); omega) | ((with_reducible show Ld _ _ _ _); first | (refine ldC0 hwv hxk rfl ?_) | (refine ldC1 hwv hxk rfl ?_) | (refine ldC hwv hxk rfl ?_)) | ((with_reducible show IxS _ _ _ _ _); first | ((refine ixC hxk hlv ?_ ?_; (first | rfl | omega)))) | ((with_reducible show LdN _ _ _ _ _); first | (refine ldNC hwv hxk rfl ?_)) | (refine ari ?_ ?_; omega) | (refine aru ?_ ?_; omega) | (apply sel; exact rfl) | (refine ix0 rfl ?_) | (refine ix1 rfl ?_) | (refine ix2 rfl ?_) | (refine ix3 rfl ?_) | (apply ixj; omega) | (refine ixn ?_ ?_; omega) | (refine ixs0 rfl ?_) | (refine ixs1 rfl ?_) | (refine ixs_j ?_ ?_; omega) | (refine ixs_n ?_ ?_; omega) | (apply ld_o; exact rfl) | (apply ldN_a; exact rfl) | (apply ldN_o; (exact rfl); exact rfl) | (apply st_o; (exact rfl); exact rfl) | (apply stN_o; (exact rfl); (exact rfl); exact rfl) | (refine new_i (fun bk hbk => ?_)) | (apply when_dE; (exact rfl); (exact rfl); all_goals intro hc) | (apply when_dF; (exact rfl); (exact rfl); all_goals intro hc) | (apply when_nE; (exact rfl); (exact rfl); all_goals intro hc) | (apply when_nF; (exact rfl); (exact rfl); all_goals intro hc) | (apply br_dE; (exact rfl); all_goals intro hc) | (apply br_nE; (exact rfl); all_goals intro hc) | (refine mm_min ?_) | (refine mm_max ?_) | (refine rem_i ?_ ?_; omega) | (refine SelN.mk ?_) | (refine cut_n ?_) | (refine Both.mk ?_ ?_) | (exact True.intro))
          refine ⟨(k2 + 1, g), ⟨by dsimp only; omega, fun j hj => ?_, fun j hj => ?_⟩, by dsimp only; omega, (by repeat' (first | exact True.intro | refine And.intro ?_ ?_ | exact rfl | exact vi (by omega) | (dsimp only; exact rfl) | (dsimp only; exact vi (by omega)))), (by first | exact ent_i | (repeat (first | exact Ent.refl | exact Ent.left | refine Ent.cons ?_ | refine Ent.app ?_)))⟩
          · dsimp only at hj ⊢
            by_cases hjk : j = k2
            · rw [hjk, hgk, hnn]
            · exact hg1 j (by omega)
          · dsimp only at hj
            exact hg2 j (by omega)
      · have hk3' : ¬ (k2 : Int) ≤ p.length := by omega
        have hgn : numL g (p.length + 1) = numL (nmT T) (p.length + 1) := num_congr fun j hj => hg1 j (by omega)
        rw [hgn]
        repeat' ((try (conv => whnf)); first | (refine when_ye ?_ ?_; exact rfl) | (refine when_ne ?_ ?_; exact rfl) | (refine br_te ?_ ?_; exact rfl) | (refine br_fe ?_ ?_; exact rfl) | (apply br_pyE; (exact rfl); omega) | (apply br_pnE; (exact rfl); omega) | (apply when_pyE; (exact rfl); omega) | (apply when_pnE; (exact rfl); omega) | (apply br_npyE; (exact rfl); omega) | (apply br_npnE; (exact rfl); omega) | (apply when_npyE; (exact rfl); omega) | (apply when_npnE; (exact rfl); omega) | (refine ari ?_ ?_; omega) | (refine aru ?_ ?_; omega) | (apply sel; exact rfl) | (refine ix0 rfl ?_) | (refine ix1 rfl ?_) | (refine ix2 rfl ?_) | (refine ix3 rfl ?_) | (apply ixj; omega) | (refine ixn ?_ ?_; omega) | (refine ixs0 rfl ?_) | (refine ixs1 rfl ?_) | (refine ixs_j ?_ ?_; omega) | (refine ixs_n ?_ ?_; omega) | (apply ld_o; exact rfl) | (apply ldN_a; exact rfl) | (apply ldN_o; (exact rfl); exact rfl) | (apply st_o; (exact rfl); exact rfl) | (apply stN_o; (exact rfl); (exact rfl); exact rfl) | (refine new_i (fun bk hbk => ?_)) | (apply when_dE; (exact rfl); (exact rfl); all_goals intro hc) | (apply when_dF; (exact rfl); (exact rfl); all_goals intro hc) | (apply when_nE; (exact rfl); (exact rfl); all_goals intro hc) | (apply when_nF; (exact rfl); (exact rfl); all_goals intro hc) | (apply br_dE; (exact rfl); all_goals intro hc) | (apply br_nE; (exact rfl); all_goals intro hc) | (refine mm_min ?_) | (refine mm_max ?_) | (refine rem_i ?_ ?_; omega) | (refine SelN.mk ?_) | (refine cut_n ?_) | (refine Both.mk ?_ ?_) | (exact True.intro))
        refine loop_c (σ := Nat × List UInt8) (fun x => [(11, .string (bW x.2)), (12, .int .i64 x.1)]) (fun x => x.1 ≤ p.length ∧ x.2.length ≤ 200 * x.1 ∧ x.2 ++ disR T (p.drop x.1) x.1 = disR T p 0) (fun x => p.length - x.1) (0, []) ⟨Nat.zero_le _, by simp, rfl⟩ (by repeat' (first | exact True.intro | refine And.intro ?_ ?_ | exact rfl | exact vi (by omega) | (dsimp only; exact rfl) | (dsimp only; exact vi (by omega)))) rfl ?_
        rintro ⟨m, l⟩ junk3 ⟨hm, hll, hJ2⟩
        dsimp only at hm hll hJ2 ⊢
        have hmle : (m : Int) ≤ p.length := by omega
        have hxm := num_at (f := nmT T) (m := p.length + 1) (j := m) (by omega)
        have hwv := hw (nmT T) (p.length + 1)
        have hlv := hln (nmT T)
        have hlb := lab_len (T := T) (by omega) m
        repeat' ((try (conv => whnf)); first | (refine when_ye ?_ ?_; exact rfl) | (refine when_ne ?_ ?_; exact rfl) | (refine br_te ?_ ?_; exact rfl) | (refine br_fe ?_ ?_; exact rfl) | (apply br_pyE; (exact rfl); omega) | (apply br_pnE; (exact rfl); omega) | (apply when_pyE; (exact rfl); omega) | (apply when_pnE; (exact rfl); omega) | (apply br_npyE; (exact rfl); omega) | (apply br_npnE; (exact rfl); omega) | (apply when_npyE; (exact rfl); omega) | (apply when_npnE; (exact rfl); omega) | (refine ari ?_ ?_; omega) | (refine aru ?_ ?_; omega) | (apply sel; exact rfl) | (refine ix0 rfl ?_) | (refine ix1 rfl ?_) | (refine ix2 rfl ?_) | (refine ix3 rfl ?_) | (apply ixj; omega) | (refine ixn ?_ ?_; omega) | (refine ixs0 rfl ?_) | (refine ixs1 rfl ?_) | (refine ixs_j ?_ ?_; omega) | (refine ixs_n ?_ ?_; omega) | (apply ld_o; exact rfl) | (apply ldN_a; exact rfl) | (apply ldN_o; (exact rfl); exact rfl) | (apply st_o; (exact rfl); exact rfl) | (apply stN_o; (exact rfl); (exact rfl); exact rfl) | (refine new_i (fun bk hbk => ?_)) | (apply when_dE; (exact rfl); (exact rfl); all_goals intro hc) | (apply when_dF; (exact rfl); (exact rfl); all_goals intro hc) | (apply when_nE; (exact rfl); (exact rfl); all_goals intro hc) | (apply when_nF; (exact rfl); (exact rfl); all_goals intro hc) | (apply br_dE; (exact rfl); all_goals intro hc) | (apply br_nE; (exact rfl); all_goals intro hc) | (refine mm_min ?_) | (refine mm_max ?_) | (refine rem_i ?_ ?_; omega) | (refine SelN.mk ?_) | (refine Both.mk ?_ ?_) | (exact True.intro))
        refine cut_i (σ := List UInt8) 2535146457951548130459044022272 (fun r => [(11, .string (bW r))]) (fun _ => canE encI 3 b (numL (nmT T) (p.length + 1)) :: own) (fun r => r = l ++ labT T m) rfl ?_ ?_
        · cases hix : idxI (m : Int) T 0 with
          | none =>
            have hnm : nmT T m = 0 := by unfold nmT; rw [hix]
            rw [hnm] at hxm
            repeat' ((try (conv => whnf)); first | (refine when_ye ?_ ?_; exact rfl) | (refine when_ne ?_ ?_; exact rfl) | (refine br_te ?_ ?_; exact rfl) | (refine br_fe ?_ ?_; exact rfl) | (apply br_pyE; (exact rfl); omega) | (apply br_pnE; (exact rfl); omega) | (apply when_pyE; (exact rfl); omega) | (apply when_pnE; (exact rfl); omega) | (apply br_npyE; (exact rfl); omega) | (apply br_npnE; (exact rfl); omega) | (apply when_npyE; (exact rfl); omega) | (apply when_npnE; (exact rfl); omega) | ((with_reducible show Ld _ _ _ _); first | (refine ldC0 hwv hxm rfl ?_) | (refine ldC1 hwv hxm rfl ?_) | (refine ldC hwv hxm rfl ?_)) | ((with_reducible show IxS _ _ _ _ _); first | ((refine ixC hxm hlv ?_ ?_; (first | rfl | omega)))) | ((with_reducible show LdN _ _ _ _ _); first | (refine ldNC hwv hxm rfl ?_)) | (refine ari ?_ ?_; omega) | (refine aru ?_ ?_; omega) | (apply sel; exact rfl) | (refine ix0 rfl ?_) | (refine ix1 rfl ?_) | (refine ix2 rfl ?_) | (refine ix3 rfl ?_) | (apply ixj; omega) | (refine ixn ?_ ?_; omega) | (refine ixs0 rfl ?_) | (refine ixs1 rfl ?_) | (refine ixs_j ?_ ?_; omega) | (refine ixs_n ?_ ?_; omega) | (apply ld_o; exact rfl) | (apply ldN_a; exact rfl) | (apply ldN_o; (exact rfl); exact rfl) | (apply st_o; (exact rfl); exact rfl) | (apply stN_o; (exact rfl); (exact rfl); exact rfl) | (refine new_i (fun bk hbk => ?_)) | (apply when_dE; (exact rfl); (exact rfl); all_goals intro hc) | (apply when_dF; (exact rfl); (exact rfl); all_goals intro hc) | (apply when_nE; (exact rfl); (exact rfl); all_goals intro hc) | (apply when_nF; (exact rfl); (exact rfl); all_goals intro hc) | (apply br_dE; (exact rfl); all_goals intro hc) | (apply br_nE; (exact rfl); all_goals intro hc) | (refine mm_min ?_) | (refine mm_max ?_) | (refine rem_i ?_ ?_; omega) | (refine SelN.mk ?_) | (refine cut_n ?_) | (refine Both.mk ?_ ?_) | (exact True.intro))
            exact ⟨l, by unfold labT; rw [hix]; simp, (by repeat' (first | exact True.intro | refine And.intro ?_ ?_ | exact rfl | exact vi (by omega) | (dsimp only; exact rfl) | (dsimp only; exact vi (by omega)))), (by first | exact ent_i | (repeat (first | exact Ent.refl | exact Ent.left | refine Ent.cons ?_ | refine Ent.app ?_)))⟩
          | some q =>
            have hnm : nmT T m = (q : Int) + 1 := by unfold nmT; rw [hix]
            rw [hnm] at hxm
            have hq := idx_lt (m : Int) T 0 q hix
            have hit : ∀ own, Pure Tryz.prog W0 36 [.int .i64 ((q : Int) + 1)] own (.string (bW (Go.Lib.itoa ((q : Int) + 1)))) := fun own => sp_itoa (own := own) hA.isa.lib (by omega) (by omega)
            have his : (Go.Lib.itoa ((q : Int) + 1)).length ≤ 21 := Go.Lib.itoa_length_le _ (by omega) (by omega)
            have e1 := bW_app l [108]
            have e2 := bW_app (l ++ [108]) (Go.Lib.itoa ((q : Int) + 1))
            have e3 := bW_app (l ++ [108] ++ Go.Lib.itoa ((q : Int) + 1)) [58, 10]
            have z0 := bW_size l
            have z1 := bW_size [108]
            have z2 := bW_size (l ++ [108])
            have z3 := bW_size (Go.Lib.itoa ((q : Int) + 1))
            have z4 := bW_size (l ++ [108] ++ Go.Lib.itoa ((q : Int) + 1))
            have z5 := bW_size [58, 10]
            simp only [List.length_append, List.length_cons, List.length_nil] at z1 z2 z4 z5
            repeat' ((try (conv => whnf)); first | (refine when_ye ?_ ?_; exact rfl) | (refine when_ne ?_ ?_; exact rfl) | (refine br_te ?_ ?_; exact rfl) | (refine br_fe ?_ ?_; exact rfl) | (apply br_pyE; (exact rfl); omega) | (apply br_pnE; (exact rfl); omega) | (apply when_pyE; (exact rfl); omega) | (apply when_pnE; (exact rfl); omega) | (apply br_npyE; (exact rfl); omega) | (apply br_npnE; (exact rfl); omega) | (apply when_npyE; (exact rfl); omega) | (apply when_npnE; (exact rfl); omega) | (refine sct_n _ e1 ?_ ?_; (show (bW l).size + (bW [108]).size ≤ _; omega)) | (refine sct_n _ e2 ?_ ?_; (omega)) | (refine sct_n _ e3 ?_ ?_; (show (bW (l ++ [108] ++ Go.Lib.itoa ((q : Int) + 1))).size + (bW [58, 10]).size ≤ _; omega)) | ((with_reducible show Ld _ _ _ _); first | (refine ldC0 hwv hxm rfl ?_) | (refine ldC1 hwv hxm rfl ?_) | (refine ldC hwv hxm rfl ?_)) | ((with_reducible show IxS _ _ _ _ _); first | ((refine ixC hxm hlv ?_ ?_; (first | rfl | omega)))) | ((with_reducible show LdN _ _ _ _ _); first | (refine ldNC hwv hxm rfl ?_)) | ((with_reducible show CallT _ _ _ _ _ _); first | ((refine call_pe (hit _) ?_ ?_ ?_; (exact rfl); exact rfl))) | (refine ari ?_ ?_; omega) | (refine aru ?_ ?_; omega) | (apply sel; exact rfl) | (refine ix0 rfl ?_) | (refine ix1 rfl ?_) | (refine ix2 rfl ?_) | (refine ix3 rfl ?_) | (apply ixj; omega) | (refine ixn ?_ ?_; omega) | (refine ixs0 rfl ?_) | (refine ixs1 rfl ?_) | (refine ixs_j ?_ ?_; omega) | (refine ixs_n ?_ ?_; omega) | (apply ld_o; exact rfl) | (apply ldN_a; exact rfl) | (apply ldN_o; (exact rfl); exact rfl) | (apply st_o; (exact rfl); exact rfl) | (apply stN_o; (exact rfl); (exact rfl); exact rfl) | (refine new_i (fun bk hbk => ?_)) | (apply when_dE; (exact rfl); (exact rfl); all_goals intro hc) | (apply when_dF; (exact rfl); (exact rfl); all_goals intro hc) | (apply when_nE; (exact rfl); (exact rfl); all_goals intro hc) | (apply when_nF; (exact rfl); (exact rfl); all_goals intro hc) | (apply br_dE; (exact rfl); all_goals intro hc) | (apply br_nE; (exact rfl); all_goals intro hc) | (refine mm_min ?_) | (refine mm_max ?_) | (refine rem_i ?_ ?_; omega) | (refine SelN.mk ?_) | (refine cut_n ?_) | (refine Both.mk ?_ ?_) | (exact True.intro))
            exact ⟨l ++ [108] ++ Go.Lib.itoa ((q : Int) + 1) ++ [58, 10], by unfold labT lnmL; rw [hix]; simp, (by repeat' (first | exact True.intro | refine And.intro ?_ ?_ | exact rfl | exact vi (by omega) | (dsimp only; exact rfl) | (dsimp only; exact vi (by omega)))), (by first | exact ent_i | (repeat (first | exact Ent.refl | exact Ent.left | refine Ent.cons ?_ | refine Ent.app ?_)))⟩
        · rintro t junk4 ht
          have htz : t.length ≤ 200 * m + 24 := by rw [ht, List.length_append]; omega
          by_cases hmn : m = p.length
          · have hmn' : (m : Int) = p.length := by omega
            have hdn : p.drop m = [] := List.drop_eq_nil_of_le (by omega)
            rw [hdn, disR, ← ht] at hJ2
            rw [← hJ2]
            repeat' ((try (conv => whnf)); first | (refine when_ye ?_ ?_; exact rfl) | (refine when_ne ?_ ?_; exact rfl) | (refine br_te ?_ ?_; exact rfl) | (refine br_fe ?_ ?_; exact rfl) | (apply br_pyE; (exact rfl); omega) | (apply br_pnE; (exact rfl); omega) | (apply when_pyE; (exact rfl); omega) | (apply when_pnE; (exact rfl); omega) | (apply br_npyE; (exact rfl); omega) | (apply br_npnE; (exact rfl); omega) | (apply when_npyE; (exact rfl); omega) | (apply when_npnE; (exact rfl); omega) | (refine ari ?_ ?_; omega) | (refine aru ?_ ?_; omega) | (apply sel; exact rfl) | (refine ix0 rfl ?_) | (refine ix1 rfl ?_) | (refine ix2 rfl ?_) | (refine ix3 rfl ?_) | (apply ixj; omega) | (refine ixn ?_ ?_; omega) | (refine ixs0 rfl ?_) | (refine ixs1 rfl ?_) | (refine ixs_j ?_ ?_; omega) | (refine ixs_n ?_ ?_; omega) | (apply ld_o; exact rfl) | (apply ldN_a; exact rfl) | (apply ldN_o; (exact rfl); exact rfl) | (apply st_o; (exact rfl); exact rfl) | (apply stN_o; (exact rfl); (exact rfl); exact rfl) | (refine new_i (fun bk hbk => ?_)) | (apply when_dE; (exact rfl); (exact rfl); all_goals intro hc) | (apply when_dF; (exact rfl); (exact rfl); all_goals intro hc) | (apply when_nE; (exact rfl); (exact rfl); all_goals intro hc) | (apply when_nF; (exact rfl); (exact rfl); all_goals intro hc) | (apply br_dE; (exact rfl); all_goals intro hc) | (apply br_nE; (exact rfl); all_goals intro hc) | (refine mm_min ?_) | (refine mm_max ?_) | (refine rem_i ?_ ?_; omega) | (refine SelN.mk ?_) | (refine cut_n ?_) | (refine Both.mk ?_ ?_) | (exact True.intro))
            exact ⟨rfl, (by first | exact ent_i | (repeat (first | exact Ent.refl | exact Ent.left | refine Ent.cons ?_ | refine Ent.app ?_)))⟩
          · have hmn' : ¬ (m : Int) = p.length := by omega
            obtain ⟨i, hi⟩ : ∃ i, p[m]? = some i := ⟨_, List.getElem?_eq_getElem (by omega)⟩
            have hdn : p.drop m = i :: p.drop (m + 1) := by
              rw [List.drop_eq_getElem_cons (by omega)]
              congr 1
              exact (List.getElem?_eq_some_iff.1 hi).2
            rw [hdn, disR, ← List.append_assoc, ← ht] at hJ2
            have hv := hall i (List.mem_of_getElem? hi)
            obtain ⟨im1, im2⟩ := him i (List.mem_of_getElem? hi)
            have hfo := fun own => sp_rfmt (own := own) hA.isa i im1 im2
            have hfz := fmt_size hv im1 im2
            have hfd : (fmtB i).data.toList.length = (fmtB i).size := by simp
            unfold fmtM at hfo
            rw [if_pos hv] at hfo
            dsimp only at hfo
            have hsk := fun own => sp_rskips W0 own i
            have hsr := iskip_le i
            have e1 := bW_app t (fmtB i).data.toList
            have e2 := bW_app (t ++ (fmtB i).data.toList) [10]
            have z0 := bW_size t
            have z1 := bW_size (t ++ (fmtB i).data.toList)
            have z2 := bW_size [10]
            rw [bW_self] at e1
            rw [List.length_append] at z1
            simp only [List.length_cons, List.length_nil] at z2
            have hrw1 := hrw i m hi
            have hfs := fun h => fmt_split (i := i) h im1 im2
            have hwm := fmt_wordsM hv im1 im2
            cases hq2 : iskips i with
            | false =>
              have hin : insX T i m = (fmtB i).data.toList := by unfold insX; rw [hq2, if_neg (by simp)]
              rw [hin] at hJ2
              rw [hq2] at hsk
              generalize iskip i = sk at *
              obtain ⟨io, ia, ib, ic, im⟩ := i
              repeat' ((try (conv => whnf)); first | (refine when_ye ?_ ?_; exact rfl) | (refine when_ne ?_ ?_; exact rfl) | (refine br_te ?_ ?_; exact rfl) | (refine br_fe ?_ ?_; exact rfl) | (apply br_pyE; (exact rfl); omega) | (apply br_pnE; (exact rfl); omega) | (apply when_pyE; (exact rfl); omega) | (apply when_pnE; (exact rfl); omega) | (apply br_npyE; (exact rfl); omega) | (apply br_npnE; (exact rfl); omega) | (apply when_npyE; (exact rfl); omega) | (apply when_npnE; (exact rfl); omega) | (refine sct_n _ e1 ?_ ?_; (omega)) | (refine sct_n _ e2 ?_ ?_; (show _ + (bW [10]).size ≤ _; omega)) | ((with_reducible show Ld _ _ _ _); first | (refine ldE0 hR hi rfl ?_) | (refine ldEk hR hi rfl ?_) | (refine ldE1 hR hi rfl ?_)) | ((with_reducible show IxS _ _ _ _ _); first | ((refine ixE hR hi ?_ ?_; (first | rfl | omega)))) | ((with_reducible show LdN _ _ _ _ _); first | (refine ldNEi hR hi rfl ?_)) | ((with_reducible show CallT _ _ _ _ _ _); first | ((refine call_pe (hfo _) ?_ ?_ ?_; (exact rfl); exact rfl)) | ((refine call_pe (hsk _) ?_ ?_ ?_; (exact rfl); exact rfl))) | (refine ari ?_ ?_; omega) | (refine aru ?_ ?_; omega) | (apply sel; exact rfl) | (refine ix0 rfl ?_) | (refine ix1 rfl ?_) | (refine ix2 rfl ?_) | (refine ix3 rfl ?_) | (apply ixj; omega) | (refine ixn ?_ ?_; omega) | (refine ixs0 rfl ?_) | (refine ixs1 rfl ?_) | (refine ixs_j ?_ ?_; omega) | (refine ixs_n ?_ ?_; omega) | (apply ld_o; exact rfl) | (apply ldN_a; exact rfl) | (apply ldN_o; (exact rfl); exact rfl) | (apply st_o; (exact rfl); exact rfl) | (apply stN_o; (exact rfl); (exact rfl); exact rfl) | (refine new_i (fun bk hbk => ?_)) | (apply when_dE; (exact rfl); (exact rfl); all_goals intro hc) | (apply when_dF; (exact rfl); (exact rfl); all_goals intro hc) | (apply when_nE; (exact rfl); (exact rfl); all_goals intro hc) | (apply when_nF; (exact rfl); (exact rfl); all_goals intro hc) | (apply br_dE; (exact rfl); all_goals intro hc) | (apply br_nE; (exact rfl); all_goals intro hc) | (refine mm_min ?_) | (refine mm_max ?_) | (refine rem_i ?_ ?_; omega) | (refine SelN.mk ?_) | (refine cut_n ?_) | (refine Both.mk ?_ ?_) | (exact True.intro))
              refine ⟨(m + 1, t ++ (fmtB ⟨io, ia, ib, ic, im⟩).data.toList ++ [10]), ⟨by dsimp only; omega, ?_, ?_⟩, by dsimp only; omega, (by repeat' (first | exact True.intro | refine And.intro ?_ ?_ | exact rfl | exact vi (by omega) | (dsimp only; exact rfl) | (dsimp only; exact vi (by omega)))), (by first | exact ent_i | (repeat (first | exact Ent.refl | exact Ent.left | refine Ent.cons ?_ | refine Ent.app ?_)))⟩
              · dsimp only
                simp only [List.length_append, List.length_cons, List.length_nil]
                omega
              · dsimp only
                rw [← hJ2]
                simp only [List.append_assoc]
            | true =>
              rw [hq2] at hsk
              by_cases hn : (m : Int) + 1 + iskip i ≤ p.length
              · obtain ⟨tt, htt⟩ : ∃ tt : Nat, (m : Int) + 1 + iskip i = tt := ⟨((m : Int) + 1 + iskip i).toNat, by omega⟩
                have hmem : (tt : Int) ∈ T := by
                  have := hrw1 hq2 (by rw [Nat.zero_add]; exact hn)
                  rw [Nat.zero_add, htt] at this
                  exact this
                obtain ⟨q, hix⟩ := idx_mem hta hmem
                have hq := idx_lt (tt : Int) T 0 q hix
                have hnm : nmT T tt = (q : Int) + 1 := by unfold nmT; rw [hix]
                have hxt := num_at (f := nmT T) (m := p.length + 1) (j := tt) (by omega)
                have hwv := hw (nmT T) (p.length + 1)
                have hlv := hln (nmT T)
                rw [hnm] at hxt
                obtain ⟨ws, x, hfl, hne, _, hup, _⟩ := hfs hq2
                have hin : insX T i m = uptoL (fmtB i) ++ lnmL q := by unfold insX; rw [hq2, if_pos rfl, htt, hix]
                rw [hin, hup] at hJ2
                have hwl := fmt_words hv im1 im2
                have hf4 := fmt_len i
                rw [hfl] at hwl hf4 hwm
                cases ws with
                | nil => exact absurd rfl hne
                | cons w0 wr =>
                  have hLl : ((w0 :: wr ++ [x]).map bW).length = wr.length + 2 := by simp
                  rw [List.length_append, List.length_cons, List.length_singleton] at hf4
                  have hwo := fun own => sp_Words (W0 := W0) (own := own) (fmtB i) (by omega)
                  simp only [hwm] at hwo
                  have hx0 : ((w0 :: wr ++ [x]).map bW)[0]? = some (bW w0) := rfl
                  have hw0 := (hwl w0 (by simp)).2.2
                  generalize iskip i = sk at *
                  obtain ⟨io, ia, ib, ic, im⟩ := i
                  repeat' ((try (conv => whnf)); first | (refine when_ye ?_ ?_; exact rfl) | (refine when_ne ?_ ?_; exact rfl) | (refine br_te ?_ ?_; exact rfl) | (refine br_fe ?_ ?_; exact rfl) | (apply br_pyE; (exact rfl); omega) | (apply br_pnE; (exact rfl); omega) | (apply when_pyE; (exact rfl); omega) | (apply when_pnE; (exact rfl); omega) | (apply br_npyE; (exact rfl); omega) | (apply br_npnE; (exact rfl); omega) | (apply when_npyE; (exact rfl); omega) | (apply when_npnE; (exact rfl); omega) | ((with_reducible show Ld _ _ _ _); first | (refine ldE0 hR hi rfl ?_) | (refine ldEk hR hi rfl ?_) | (refine ldE1 hR hi rfl ?_) | (refine ldE0 hRW hx0 rfl ?_) | (refine ldEk hRW hx0 rfl ?_) | (refine ldE1 hRW hx0 rfl ?_)) | ((with_reducible show IxS _ _ _ _ _); first | ((refine ixE hR hi ?_ ?_; (first | rfl | omega))) | ((refine ixE hRW hx0 ?_ ?_; (first | rfl | omega)))) | ((with_reducible show LdN _ _ _ _ _); first | (refine ldNEi hR hi rfl ?_) | (refine ldNEi hRW hx0 rfl ?_)) | ((with_reducible show CallT _ _ _ _ _ _); first | ((refine call_pe (hfo _) ?_ ?_ ?_; (exact rfl); exact rfl)) | ((refine call_pe (hsk _) ?_ ?_ ?_; (exact rfl); exact rfl)) | ((refine call_be (hwo _) ?_ ?_ (fun wa wc WD hWB => ?_); (exact rfl); (exact rfl); (have hRW := hWB.rd (W0 := W0))))) | (refine ari ?_ ?_; omega) | (refine aru ?_ ?_; omega) | (apply sel; exact rfl) | (refine ix0 rfl ?_) | (refine ix1 rfl ?_) | (refine ix2 rfl ?_) | (refine ix3 rfl ?_) | (apply ixj; omega) | (refine ixn ?_ ?_; omega) | (refine ixs0 rfl ?_) | (refine ixs1 rfl ?_) | (refine ixs_j ?_ ?_; omega) | (refine ixs_n ?_ ?_; omega) | (apply ld_o; exact rfl) | (apply ldN_a; exact rfl) | (apply ldN_o; (exact rfl); exact rfl) | (apply st_o; (exact rfl); exact rfl) | (apply stN_o; (exact rfl); (exact rfl); exact rfl) | (refine new_i (fun bk hbk => ?_)) | (apply when_dE; (exact rfl); (exact rfl); all_goals intro hc) | (apply when_dF; (exact rfl); (exact rfl); all_goals intro hc) | (apply when_nE; (exact rfl); (exact rfl); all_goals intro hc) | (apply when_nF; (exact rfl); (exact rfl); all_goals intro hc) | (apply br_dE; (exact rfl); all_goals intro hc) | (apply br_nE; (exact rfl); all_goals intro hc) | (refine mm_min ?_) | (refine mm_max ?_) | (refine rem_i ?_ ?_; omega) | (refine SelN.mk ?_) | (refine cut_n ?_) | (refine Both.mk ?_ ?_) | (exact True.intro))
                  refine loop_c (σ := Nat × List UInt8) (fun x => [(13, .string (bW x.2)), (18, .int .i64 x.1)]) (fun x => 1 ≤ x.1 ∧ x.1 ≤ wr.length + 1 ∧ x.2.length ≤ 22 * x.1 ∧ x.2 = Go.Lib.join ((w0 :: wr).take x.1) [32]) (fun x => wr.length + 1 - x.1) (1, w0) ⟨Nat.le_refl _, by dsimp only; omega, by dsimp only; omega, by simp [Go.Lib.join, List.intercalate]⟩ (by repeat' (first | exact True.intro | refine And.intro ?_ ?_ | exact rfl | exact vi (by omega) | (dsimp only; exact rfl) | (dsimp only; exact vi (by omega)))) rfl ?_
                  rintro ⟨j, u⟩ junk5 ⟨hj1, hj2, hu, hue⟩
                  dsimp only at hj1 hj2 hu hue ⊢
                  by_cases hjl : j < wr.length + 1
                  · have hjl' : (j : Int) + 1 < ((w0 :: wr ++ [x]).map bW).length := by omega
                    obtain ⟨wj, hwj⟩ : ∃ wj, (w0 :: wr)[j]? = some wj := ⟨_, List.getElem?_eq_getElem (by simpa using hjl)⟩
                    have hxj : ((w0 :: wr ++ [x]).map bW)[j]? = some (bW wj) := by
                      rw [List.getElem?_map, List.getElem?_append_left (by simpa using hjl), hwj]; rfl
                    have hwjl := (hwl wj (List.mem_append_left _ (List.mem_of_getElem? hwj))).2.2
                    have f1 := bW_app u [32]
                    have f2 := bW_app (u ++ [32]) wj
                    have y0 := bW_size u
                    have y1 := bW_size [32]
                    have y2 := bW_size (u ++ [32])
                    have y3 := bW_size wj
                    simp only [List.length_append, List.length_cons, List.length_nil] at y1 y2
                    repeat' ((try (conv => whnf)); first | (refine when_ye ?_ ?_; exact rfl) | (refine when_ne ?_ ?_; exact rfl) | (refine br_te ?_ ?_; exact rfl) | (refine br_fe ?_ ?_; exact rfl) | (apply br_pyE; (exact rfl); omega) | (apply br_pnE; (exact rfl); omega) | (apply when_pyE; (exact rfl); omega) | (apply when_pnE; (exact rfl); omega) | (apply br_npyE; (exact rfl); omega) | (apply br_npnE; (exact rfl); omega) | (apply when_npyE; (exact rfl); omega) | (apply when_npnE; (exact rfl); omega) | (refine sct_n _ f1 ?_ ?_; (show _ + (bW [32]).size ≤ _; omega)) | (refine sct_n _ f2 ?_ ?_; (omega)) | ((with_reducible show Ld _ _ _ _); first | (refine ldE0 hRW hxj rfl ?_) | (refine ldEk hRW hxj rfl ?_) | (refine ldE1 hRW hxj rfl ?_)) | ((with_reducible show IxS _ _ _ _ _); first | ((refine ixE hRW hxj ?_ ?_; (first | rfl | omega)))) | ((with_reducible show LdN _ _ _ _ _); first | (refine ldNEi hRW hxj rfl ?_)) | (refine ari ?_ ?_; omega) | (refine aru ?_ ?_; omega) | (apply sel; exact rfl) | (refine ix0 rfl ?_) | (refine ix1 rfl ?_) | (refine ix2 rfl ?_) | (refine ix3 rfl ?_) | (apply ixj; omega) | (refine ixn ?_ ?_; omega) | (refine ixs0 rfl ?_) | (refine ixs1 rfl ?_) | (refine ixs_j ?_ ?_; omega) | (refine ixs_n ?_ ?_; omega) | (apply ld_o; exact rfl) | (apply ldN_a; exact rfl) | (apply ldN_o; (exact rfl); exact rfl) | (apply st_o; (exact rfl); exact rfl) | (apply stN_o; (exact rfl); (exact rfl); exact rfl) | (refine new_i (fun bk hbk => ?_)) | (apply when_dE; (exact rfl); (exact rfl); all_goals intro hc) | (apply when_dF; (exact rfl); (exact rfl); all_goals intro hc) | (apply when_nE; (exact rfl); (exact rfl); all_goals intro hc) | (apply when_nF; (exact rfl); (exact rfl); all_goals intro hc) | (apply br_dE; (exact rfl); all_goals intro hc) | (apply br_nE; (exact rfl); all_goals intro hc) | (refine mm_min ?_) | (refine mm_max ?_) | (refine rem_i ?_ ?_; omega) | (refine SelN.mk ?_) | (refine cut_n ?_) | (refine Both.mk ?_ ?_) | (exact True.intro))
                    refine ⟨(j + 1, u ++ [32] ++ wj), ⟨by dsimp only; omega, by dsimp only; omega, ?_, ?_⟩, by dsimp only; omega, (by repeat' (first | exact True.intro | refine And.intro ?_ ?_ | exact rfl | exact vi (by omega) | (dsimp only; exact rfl) | (dsimp only; exact vi (by omega)))), (by first | exact ent_i | (repeat (first | exact Ent.refl | exact Ent.left | refine Ent.cons ?_ | refine Ent.app ?_)))⟩
                    · dsimp only
                      simp only [List.length_append, List.length_cons, List.length_nil]
                      omega
                    · dsimp only
                      have hne2 : (w0 :: wr).take j ≠ [] := fun e => by
                        have := congrArg List.length e
                        simp at this
                        omega
                      rw [List.take_add_one, hwj, hue]
                      simp only [Option.toList]
                      rw [join_snoc _ _ hne2]
                      simp
                  · have hjl' : ¬ (j : Int) + 1 < ((w0 :: wr ++ [x]).map bW).length := by omega
                    have htk : (w0 :: wr).take j = w0 :: wr := List.take_of_length_le (by simp; omega)
                    rw [htk] at hue
                    rw [← hue] at hJ2
                    have hit : ∀ own, Pure Tryz.prog W0 36 [.int .i64 ((q : Int) + 1)] own (.string (bW (Go.Lib.itoa ((q : Int) + 1)))) := fun own => sp_itoa (own := own) hA.isa.lib (by omega) (by omega)
                    have his : (Go.Lib.itoa ((q : Int) + 1)).length ≤ 21 := Go.Lib.itoa_length_le _ (by omega) (by omega)
                    have f1 := bW_app u [32, 108]
                    have f2 := bW_app (u ++ [32, 108]) (Go.Lib.itoa ((q : Int) + 1))
                    have f3 := bW_app t (u ++ [32, 108] ++ Go.Lib.itoa ((q : Int) + 1))
                    have f4 := bW_app (t ++ (u ++ [32, 108] ++ Go.Lib.itoa ((q : Int) + 1))) [10]
                    have y0 := bW_size u
                    have y1 := bW_size [32, 108]
                    have y2 := bW_size (u ++ [32, 108])
                    have y3 := bW_size (Go.Lib.itoa ((q : Int) + 1))
                    have y4 := bW_size (u ++ [32, 108] ++ Go.Lib.itoa ((q : Int) + 1))
                    have y5 := bW_size (t ++ (u ++ [32, 108] ++ Go.Lib.itoa ((q : Int) + 1)))
                    simp only [List.length_append, List.length_cons, List.length_nil] at y1 y2 y4 y5
                    repeat' ((try (conv => whnf)); first | (refine when_ye ?_ ?_; exact rfl) | (refine when_ne ?_ ?_; exact rfl) | (refine br_te ?_ ?_; exact rfl) | (refine br_fe ?_ ?_; exact rfl) | (apply br_pyE; (exact rfl); omega) | (apply br_pnE; (exact rfl); omega) | (apply when_pyE; (exact rfl); omega) | (apply when_pnE; (exact rfl); omega) | (apply br_npyE; (exact rfl); omega) | (apply br_npnE; (exact rfl); omega) | (apply when_npyE; (exact rfl); omega) | (apply when_npnE; (exact rfl); omega) | (refine sct_n _ f1 ?_ ?_; (show _ + (bW [32, 108]).size ≤ _; omega)) | (refine sct_n _ f2 ?_ ?_; (omega)) | (refine sct_n _ f3 ?_ ?_; (omega)) | (refine sct_n _ f4 ?_ ?_; (show _ + (bW [10]).size ≤ _; omega)) | ((with_reducible show Ld _ _ _ _); first | (refine ldC0 hwv hxt rfl ?_) | (refine ldC1 hwv hxt rfl ?_) | (refine ldC hwv hxt rfl ?_)) | ((with_reducible show IxS _ _ _ _ _); first | ((refine ixC hxt hlv ?_ ?_; (first | rfl | omega)))) | ((with_reducible show LdN _ _ _ _ _); first | (refine ldNC hwv hxt rfl ?_)) | ((with_reducible show CallT _ _ _ _ _ _); first | ((refine call_pe (hit _) ?_ ?_ ?_; (exact rfl); exact rfl))) | (refine ari ?_ ?_; omega) | (refine aru ?_ ?_; omega) | (apply sel; exact rfl) | (refine ix0 rfl ?_) | (refine ix1 rfl ?_) | (refine ix2 rfl ?_) | (refine ix3 rfl ?_) | (apply ixj; omega) | (refine ixn ?_ ?_; omega) | (refine ixs0 rfl ?_) | (refine ixs1 rfl ?_) | (refine ixs_j ?_ ?_; omega) | (refine ixs_n ?_ ?_; omega) | (apply ld_o; exact rfl) | (apply ldN_a; exact rfl) | (apply ldN_o; (exact rfl); exact rfl) | (apply st_o; (exact rfl); exact rfl) | (apply stN_o; (exact rfl); (exact rfl); exact rfl) | (refine new_i (fun bk hbk => ?_)) | (apply when_dE; (exact rfl); (exact rfl); all_goals intro hc) | (apply when_dF; (exact rfl); (exact rfl); all_goals intro hc) | (apply when_nE; (exact rfl); (exact rfl); all_goals intro hc) | (apply when_nF; (exact rfl); (exact rfl); all_goals intro hc) | (apply br_dE; (exact rfl); all_goals intro hc) | (apply br_nE; (exact rfl); all_goals intro hc) | (refine mm_min ?_) | (refine mm_max ?_) | (refine rem_i ?_ ?_; omega) | (refine SelN.mk ?_) | (refine cut_n ?_) | (refine Both.mk ?_ ?_) | (exact True.intro))
                    refine ⟨(m + 1, t ++ (u ++ [32, 108] ++ Go.Lib.itoa ((q : Int) + 1)) ++ [10]), ⟨by dsimp only; omega, ?_, ?_⟩, by dsimp only; omega, (by repeat' (first | exact True.intro | refine And.intro ?_ ?_ | exact rfl | exact vi (by omega) | (dsimp only; exact rfl) | (dsimp only; exact vi (by omega)))), (by first | exact ent_i | (repeat (first | exact Ent.refl | exact Ent.left | refine Ent.cons ?_ | refine Ent.app ?_)))⟩
                    · dsimp only
                      simp only [List.length_append, List.length_cons, List.length_nil]
                      omega
                    · dsimp only
                      rw [← hJ2]
                      simp [lnmL]
              · have hno : idxI ((m : Int) + 1 + iskip i) T 0 = none := idx_none _ T 0 fun h => hn (htr _ h).2
                have hin : insX T i m = (fmtB i).data.toList := by unfold insX; rw [hq2, if_pos rfl, hno]
                rw [hin] at hJ2
                generalize iskip i = sk at *
                obtain ⟨io, ia, ib, ic, im⟩ := i
                repeat' ((try (conv => whnf)); first | (refine when_ye ?_ ?_; exact rfl) | (refine when_ne ?_ ?_; exact rfl) | (refine br_te ?_ ?_; exact rfl) | (refine br_fe ?_ ?_; exact rfl) | (apply br_pyE; (exact rfl); omega) | (apply br_pnE; (exact rfl); omega) | (apply when_pyE; (exact rfl); omega) | (apply when_pnE; (exact rfl); omega) | (apply br_npyE; (exact rfl); omega) | (apply br_npnE; (exact rfl); omega) | (apply when_npyE; (exact rfl); omega) | (apply when_npnE; (exact rfl); omega) | (refine sct_n _ e1 ?_ ?_; (omega)) | (refine sct_n _ e2 ?_ ?_; (show _ + (bW [10]).size ≤ _; omega)) | ((with_reducible show Ld _ _ _ _); first | (refine ldE0 hR hi rfl ?_) | (refine ldEk hR hi rfl ?_) | (refine ldE1 hR hi rfl ?_)) | ((with_reducible show IxS _ _ _ _ _); first | ((refine ixE hR hi ?_ ?_; (first | rfl | omega)))) | ((with_reducible show LdN _ _ _ _ _); first | (refine ldNEi hR hi rfl ?_)) | ((with_reducible show CallT _ _ _ _ _ _); first | ((refine call_pe (hfo _) ?_ ?_ ?_; (exact rfl); exact rfl)) | ((refine call_pe (hsk _) ?_ ?_ ?_; (exact rfl); exact rfl))) | (refine ari ?_ ?_; omega) | (refine aru ?_ ?_; omega) | (apply sel; exact rfl) | (refine ix0 rfl ?_) | (refine ix1 rfl ?_) | (refine ix2 rfl ?_) | (refine ix3 rfl ?_) | (apply ixj; omega) | (refine ixn ?_ ?_; omega) | (refine ixs0 rfl ?_) | (refine ixs1 rfl ?_) | (refine ixs_j ?_ ?_; omega) | (refine ixs_n ?_ ?_; omega) | (apply ld_o; exact rfl) | (apply ldN_a; exact rfl) | (apply ldN_o; (exact rfl); exact rfl) | (apply st_o; (exact rfl); exact rfl) | (apply stN_o; (exact rfl); (exact rfl); exact rfl) | (refine new_i (fun bk hbk => ?_)) | (apply when_dE; (exact rfl); (exact rfl); all_goals intro hc) | (apply when_dF; (exact rfl); (exact rfl); all_goals intro hc) | (apply when_nE; (exact rfl); (exact rfl); all_goals intro hc) | (apply when_nF; (exact rfl); (exact rfl); all_goals intro hc) | (apply br_dE; (exact rfl); all_goals intro hc) | (apply br_nE; (exact rfl); all_goals intro hc) | (refine mm_min ?_) | (refine mm_max ?_) | (refine rem_i ?_ ?_; omega) | (refine SelN.mk ?_) | (refine cut_n ?_) | (refine Both.mk ?_ ?_) | (exact True.intro))
                refine ⟨(m + 1, t ++ (fmtB ⟨io, ia, ib, ic, im⟩).data.toList ++ [10]), ⟨by dsimp only; omega, ?_, ?_⟩, by dsimp only; omega, (by repeat' (first | exact True.intro | refine And.intro ?_ ?_ | exact rfl | exact vi (by omega) | (dsimp only; exact rfl) | (dsimp only; exact vi (by omega)))), (by first | exact ent_i | (repeat (first | exact Ent.refl | exact Ent.left | refine Ent.cons ?_ | refine Ent.app ?_)))⟩
                · dsimp only
                  simp only [List.length_append, List.length_cons, List.length_nil]
                  omega
                · dsimp only
                  rw [← hJ2]
                  simp only [List.append_assoc]
end
end Go.Proofs.YtiimndcifcoofaaGreatDoor
