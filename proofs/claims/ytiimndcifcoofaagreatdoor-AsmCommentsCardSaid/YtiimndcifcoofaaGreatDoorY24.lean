/- What the laws share, part 24. No condition. -/
import Derived.Test.YtiimndcifcoofaaGreatDoorY23
namespace Go.Proofs.YtiimndcifcoofaaGreatDoor
open Go Go.RowKit
set_option maxRecDepth 10000
set_option maxHeartbeats 4000000
abbrev exW (s : ByteArray) (l : List (Nat × Nat)) : List ByteArray := l.map fun x => s.extract x.1 x.2
theorem wsp_succ (s : ByteArray) (i : Nat) : wsp s (i + 1) = if i < s.size ∧ spB s i = false then wsp s i else (i + 1, if i > (wsp s i).1 then (wsp s i).2 ++ [((wsp s i).1, i)] else (wsp s i).2) := rfl
theorem wsp_len (s : ByteArray) : ∀ i, (wsp s i).2.length ≤ i
  | 0 => by simp [wsp]
  | i + 1 => by
    have h := wsp_len s i
    rw [wsp_succ]
    split
    · omega
    · dsimp only
      split
      · simp; omega
      · omega
section
variable {W0 : World} {own : Own}
theorem sp_split (s : ByteArray) (hs : s.size ≤ 4294967296) : Spec Tryz.prog W0 73 [.string s] own fun v own' => ∃ b, v = .slice (some ⟨b, 0, none⟩) (wordsM s).length (wordsM s).length ∧ own' = canE encS 9 b (wordsM s) :: own := by
  refine spec_of mixed low_isa_split (by simp [ir_isa_split]) ?_
  repeat' ((try (conv => whnf)); first | (refine when_ye ?_ ?_; exact rfl) | (refine when_ne ?_ ?_; exact rfl) | (refine br_te ?_ ?_; exact rfl) | (refine br_fe ?_ ?_; exact rfl) | (apply br_pyE; (exact rfl); omega) | (apply br_pnE; (exact rfl); omega) | (apply when_pyE; (exact rfl); omega) | (apply when_pnE; (exact rfl); omega) | (apply br_npyE; (exact rfl); omega) | (apply br_npnE; (exact rfl); omega) | (apply when_npyE; (exact rfl); omega) | (apply when_npnE; (exact rfl); omega) | ((with_reducible show CallT _ _ _ _ _ _); first | ((refine call_se (sp_fields s hs) ?_ ?_ (fun v own' hv => ?_); (exact rfl); (exact rfl); (obtain ⟨b, rfl, rfl⟩ := hv)))) | (refine ari ?_ ?_; omega) | (refine aru ?_ ?_; omega) | (apply sel; exact rfl) | (refine ix0 rfl ?_) | (refine ix1 rfl ?_) | (refine ix2 rfl ?_) | (refine ix3 rfl ?_) | (apply ixj; omega) | (refine ixn ?_ ?_; omega) | (refine ixs0 rfl ?_) | (refine ixs1 rfl ?_) | (refine ixs_j ?_ ?_; omega) | (refine ixs_n ?_ ?_; omega) | (apply ld_o; exact rfl) | (apply ldN_a; exact rfl) | (apply ldN_o; (exact rfl); exact rfl) | (apply st_o; (exact rfl); exact rfl) | (apply stN_o; (exact rfl); (exact rfl); exact rfl) | (refine new_i (fun bk hbk => ?_)) | (apply when_dE; (exact rfl); (exact rfl); all_goals intro hc) | (apply when_dF; (exact rfl); (exact rfl); all_goals intro hc) | (apply when_nE; (exact rfl); (exact rfl); all_goals intro hc) | (apply when_nF; (exact rfl); (exact rfl); all_goals intro hc) | (apply br_dE; (exact rfl); all_goals intro hc) | (apply br_nE; (exact rfl); all_goals intro hc) | (refine mm_min ?_) | (refine mm_max ?_) | (refine rem_i ?_ ?_; omega) | (refine SelN.mk ?_) | (refine cut_n ?_) | (refine Both.mk ?_ ?_) | (exact True.intro))
  exact ⟨_, rfl, rfl⟩
theorem sp_Words (s : ByteArray) (hs : s.size ≤ 4294967296) : Spec Tryz.prog W0 52 [.string s] own fun v own' => ∃ a cap D, v = .slice a (wordsM s).length cap ∧ BufE encS 9 1 a cap (wordsM s) D ∧ Ent W0 own' (D ++ own) := by
  refine spec_of mixed low_ref03_Words (by simp [ir_ref03_Words]) ?_
  have hl : s.data.toList.length = s.size := by simp
  repeat' ((try (conv => whnf)); first | (refine when_ye ?_ ?_; exact rfl) | (refine when_ne ?_ ?_; exact rfl) | (refine br_te ?_ ?_; exact rfl) | (refine br_fe ?_ ?_; exact rfl) | (apply br_pyE; (exact rfl); omega) | (apply br_pnE; (exact rfl); omega) | (apply when_pyE; (exact rfl); omega) | (apply when_pnE; (exact rfl); omega) | (apply br_npyE; (exact rfl); omega) | (apply br_npnE; (exact rfl); omega) | (apply when_npyE; (exact rfl); omega) | (apply when_npnE; (exact rfl); omega) | (refine ari ?_ ?_; omega) | (refine aru ?_ ?_; omega) | (apply sel; exact rfl) | (refine ix0 rfl ?_) | (refine ix1 rfl ?_) | (refine ix2 rfl ?_) | (refine ix3 rfl ?_) | (apply ixj; omega) | (refine ixn ?_ ?_; omega) | (refine ixs0 rfl ?_) | (refine ixs1 rfl ?_) | (refine ixs_j ?_ ?_; omega) | (refine ixs_n ?_ ?_; omega) | (apply ld_o; exact rfl) | (apply ldN_a; exact rfl) | (apply ldN_o; (exact rfl); exact rfl) | (apply st_o; (exact rfl); exact rfl) | (apply stN_o; (exact rfl); (exact rfl); exact rfl) | (refine new_i (fun bk hbk => ?_)) | (apply when_dE; (exact rfl); (exact rfl); all_goals intro hc) | (apply when_dF; (exact rfl); (exact rfl); all_goals intro hc) | (apply when_nE; (exact rfl); (exact rfl); all_goals intro hc) | (apply when_nF; (exact rfl); (exact rfl); all_goals intro hc) | (apply br_dE; (exact rfl); all_goals intro hc) | (apply br_nE; (exact rfl); all_goals intro hc) | (refine mm_min ?_) | (refine mm_max ?_) | (refine rem_i ?_ ?_; omega) | (refine SelN.mk ?_) | (refine cut_n ?_) | (refine Both.mk ?_ ?_) | (exact True.intro))
  refine loop_i (σ := Nat × Option Addr × Nat × Own) (fun x => [(3, .slice x.2.1 (exW s (wsp s x.1).2).length x.2.2.1), (4, .int .i64 (wsp s x.1).1), (5, .int .i64 x.1)]) (fun x => x.2.2.2 ++ own) (fun x => x.1 ≤ s.size + 1 ∧ BufE encS 9 1 x.2.1 x.2.2.1 (exW s (wsp s x.1).2) x.2.2.2) (fun x => s.size + 1 - x.1) (0, none, 0, []) ⟨by omega, BufE.nil⟩ (by repeat' (first | exact True.intro | refine And.intro ?_ ?_ | exact rfl | exact vi (by omega) | (dsimp only; exact rfl) | (dsimp only; exact vi (by omega)))) Ent.refl rfl ?_
  rintro ⟨i, a, cap, D⟩ junk ⟨hi, hB⟩
  dsimp only at hi hB ⊢
  have hsu := wsp_succ s i
  have hle := wsp_le s i
  have hln := wsp_len s i
  by_cases hin : i ≤ s.size
  · have hin' : (i : Int) ≤ s.size := by omega
    by_cases hlt : i < s.size
    · have hlt' : (i : Int) < s.size := by omega
      obtain ⟨x, hx⟩ : ∃ x, s.data.toList[i]? = some x := ⟨_, List.getElem?_eq_getElem (by omega)⟩
      have hg := ba_get s hx
      by_cases hx32 : (x.toNat : Int) = 32
      · have hsp : spB s i = true := by unfold spB; rw [hg]; exact decide_eq_true (UInt8.toNat.inj (show x.toNat = 32 by omega))
        rw [if_neg (by rw [hsp]; simp)] at hsu
        by_cases hgt : i > (wsp s i).1
        · rw [if_pos hgt] at hsu
          repeat' ((try (conv => whnf)); first | (refine when_ye ?_ ?_; exact rfl) | (refine when_ne ?_ ?_; exact rfl) | (refine br_te ?_ ?_; exact rfl) | (refine br_fe ?_ ?_; exact rfl) | (apply br_pyE; (exact rfl); omega) | (apply br_pnE; (exact rfl); omega) | (apply when_pyE; (exact rfl); omega) | (apply when_pnE; (exact rfl); omega) | (apply br_npyE; (exact rfl); omega) | (apply br_npnE; (exact rfl); omega) | (apply when_npyE; (exact rfl); omega) | (apply when_npnE; (exact rfl); omega) | (refine ⟨i, x, rfl, hx, ?_⟩) | (refine SscT.mk ⟨(wsp s i).1, i, rfl, rfl, ?_, ?_, ?_⟩; (omega); (omega)) | (apply app_i (enc := encS) (s.extract (wsp s i).1 i) hB; (exact rfl); (exact rfl); (omega); (exact rfl); (exact rfl); (simp; omega); intro a1 c1 D1 hb1) | (refine ari ?_ ?_; omega) | (refine aru ?_ ?_; omega) | (apply sel; exact rfl) | (refine ix0 rfl ?_) | (refine ix1 rfl ?_) | (refine ix2 rfl ?_) | (refine ix3 rfl ?_) | (apply ixj; omega) | (refine ixn ?_ ?_; omega) | (refine ixs0 rfl ?_) | (refine ixs1 rfl ?_) | (refine ixs_j ?_ ?_; omega) | (refine ixs_n ?_ ?_; omega) | (apply ld_o; exact rfl) | (apply ldN_a; exact rfl) | (apply ldN_o; (exact rfl); exact rfl) | (apply st_o; (exact rfl); exact rfl) | (apply stN_o; (exact rfl); (exact rfl); exact rfl) | (refine new_i (fun bk hbk => ?_)) | (apply when_dE; (exact rfl); (exact rfl); all_goals intro hc) | (apply when_dF; (exact rfl); (exact rfl); all_goals intro hc) | (apply when_nE; (exact rfl); (exact rfl); all_goals intro hc) | (apply when_nF; (exact rfl); (exact rfl); all_goals intro hc) | (apply br_dE; (exact rfl); all_goals intro hc) | (apply br_nE; (exact rfl); all_goals intro hc) | (refine mm_min ?_) | (refine mm_max ?_) | (refine rem_i ?_ ?_; omega) | (refine SelN.mk ?_) | (refine cut_n ?_) | (refine Both.mk ?_ ?_) | (exact True.intro))
          have e : exW s (wsp s (i + 1)).2 = exW s (wsp s i).2 ++ [s.extract (wsp s i).1 i] := by rw [hsu]; simp [exW]
          refine ⟨(i + 1, a1, c1, D1), ⟨by dsimp only; omega, by dsimp only; rw [e]; exact hb1⟩, by dsimp only; omega, ?_, Ent.cons Ent.refl⟩
          dsimp only
          rw [e, hsu, List.length_append]
          exact (by repeat' (first | exact True.intro | refine And.intro ?_ ?_ | exact rfl | exact vi (by omega) | (dsimp only; exact rfl) | (dsimp only; exact vi (by omega))))
        · rw [if_neg hgt] at hsu
          repeat' ((try (conv => whnf)); first | (refine when_ye ?_ ?_; exact rfl) | (refine when_ne ?_ ?_; exact rfl) | (refine br_te ?_ ?_; exact rfl) | (refine br_fe ?_ ?_; exact rfl) | (apply br_pyE; (exact rfl); omega) | (apply br_pnE; (exact rfl); omega) | (apply when_pyE; (exact rfl); omega) | (apply when_pnE; (exact rfl); omega) | (apply br_npyE; (exact rfl); omega) | (apply br_npnE; (exact rfl); omega) | (apply when_npyE; (exact rfl); omega) | (apply when_npnE; (exact rfl); omega) | (refine ⟨i, x, rfl, hx, ?_⟩) | (refine ari ?_ ?_; omega) | (refine aru ?_ ?_; omega) | (apply sel; exact rfl) | (refine ix0 rfl ?_) | (refine ix1 rfl ?_) | (refine ix2 rfl ?_) | (refine ix3 rfl ?_) | (apply ixj; omega) | (refine ixn ?_ ?_; omega) | (refine ixs0 rfl ?_) | (refine ixs1 rfl ?_) | (refine ixs_j ?_ ?_; omega) | (refine ixs_n ?_ ?_; omega) | (apply ld_o; exact rfl) | (apply ldN_a; exact rfl) | (apply ldN_o; (exact rfl); exact rfl) | (apply st_o; (exact rfl); exact rfl) | (apply stN_o; (exact rfl); (exact rfl); exact rfl) | (refine new_i (fun bk hbk => ?_)) | (apply when_dE; (exact rfl); (exact rfl); all_goals intro hc) | (apply when_dF; (exact rfl); (exact rfl); all_goals intro hc) | (apply when_nE; (exact rfl); (exact rfl); all_goals intro hc) | (apply when_nF; (exact rfl); (exact rfl); all_goals intro hc) | (apply br_dE; (exact rfl); all_goals intro hc) | (apply br_nE; (exact rfl); all_goals intro hc) | (refine mm_min ?_) | (refine mm_max ?_) | (refine rem_i ?_ ?_; omega) | (refine SelN.mk ?_) | (refine cut_n ?_) | (refine Both.mk ?_ ?_) | (exact True.intro))
          refine ⟨(i + 1, a, cap, D), ⟨by dsimp only; omega, by dsimp only; rw [hsu]; exact hB⟩, by dsimp only; omega, ?_, Ent.refl⟩
          dsimp only
          rw [hsu]
          exact (by repeat' (first | exact True.intro | refine And.intro ?_ ?_ | exact rfl | exact vi (by omega) | (dsimp only; exact rfl) | (dsimp only; exact vi (by omega))))
      · have hsp : spB s i = false := by unfold spB; rw [hg]; exact decide_eq_false (fun e => hx32 (by rw [e]; rfl))
        rw [if_pos ⟨hlt, hsp⟩] at hsu
        repeat' ((try (conv => whnf)); first | (refine when_ye ?_ ?_; exact rfl) | (refine when_ne ?_ ?_; exact rfl) | (refine br_te ?_ ?_; exact rfl) | (refine br_fe ?_ ?_; exact rfl) | (apply br_pyE; (exact rfl); omega) | (apply br_pnE; (exact rfl); omega) | (apply when_pyE; (exact rfl); omega) | (apply when_pnE; (exact rfl); omega) | (apply br_npyE; (exact rfl); omega) | (apply br_npnE; (exact rfl); omega) | (apply when_npyE; (exact rfl); omega) | (apply when_npnE; (exact rfl); omega) | (refine ⟨i, x, rfl, hx, ?_⟩) | (refine ari ?_ ?_; omega) | (refine aru ?_ ?_; omega) | (apply sel; exact rfl) | (refine ix0 rfl ?_) | (refine ix1 rfl ?_) | (refine ix2 rfl ?_) | (refine ix3 rfl ?_) | (apply ixj; omega) | (refine ixn ?_ ?_; omega) | (refine ixs0 rfl ?_) | (refine ixs1 rfl ?_) | (refine ixs_j ?_ ?_; omega) | (refine ixs_n ?_ ?_; omega) | (apply ld_o; exact rfl) | (apply ldN_a; exact rfl) | (apply ldN_o; (exact rfl); exact rfl) | (apply st_o; (exact rfl); exact rfl) | (apply stN_o; (exact rfl); (exact rfl); exact rfl) | (refine new_i (fun bk hbk => ?_)) | (apply when_dE; (exact rfl); (exact rfl); all_goals intro hc) | (apply when_dF; (exact rfl); (exact rfl); all_goals intro hc) | (apply when_nE; (exact rfl); (exact rfl); all_goals intro hc) | (apply when_nF; (exact rfl); (exact rfl); all_goals intro hc) | (apply br_dE; (exact rfl); all_goals intro hc) | (apply br_nE; (exact rfl); all_goals intro hc) | (refine mm_min ?_) | (refine mm_max ?_) | (refine rem_i ?_ ?_; omega) | (refine SelN.mk ?_) | (refine cut_n ?_) | (refine Both.mk ?_ ?_) | (exact True.intro))
        refine ⟨(i + 1, a, cap, D), ⟨by dsimp only; omega, by dsimp only; rw [hsu]; exact hB⟩, by dsimp only; omega, ?_, Ent.refl⟩
        dsimp only
        rw [hsu]
        exact (by repeat' (first | exact True.intro | refine And.intro ?_ ?_ | exact rfl | exact vi (by omega) | (dsimp only; exact rfl) | (dsimp only; exact vi (by omega))))
    · have hlt' : ¬ (i : Int) < s.size := by omega
      rw [if_neg (by omega)] at hsu
      by_cases hgt : i > (wsp s i).1
      · rw [if_pos hgt] at hsu
        repeat' ((try (conv => whnf)); first | (refine when_ye ?_ ?_; exact rfl) | (refine when_ne ?_ ?_; exact rfl) | (refine br_te ?_ ?_; exact rfl) | (refine br_fe ?_ ?_; exact rfl) | (apply br_pyE; (exact rfl); omega) | (apply br_pnE; (exact rfl); omega) | (apply when_pyE; (exact rfl); omega) | (apply when_pnE; (exact rfl); omega) | (apply br_npyE; (exact rfl); omega) | (apply br_npnE; (exact rfl); omega) | (apply when_npyE; (exact rfl); omega) | (apply when_npnE; (exact rfl); omega) | (refine SscT.mk ⟨(wsp s i).1, i, rfl, rfl, ?_, ?_, ?_⟩; (omega); (omega)) | (apply app_i (enc := encS) (s.extract (wsp s i).1 i) hB; (exact rfl); (exact rfl); (omega); (exact rfl); (exact rfl); (simp; omega); intro a1 c1 D1 hb1) | (refine ari ?_ ?_; omega) | (refine aru ?_ ?_; omega) | (apply sel; exact rfl) | (refine ix0 rfl ?_) | (refine ix1 rfl ?_) | (refine ix2 rfl ?_) | (refine ix3 rfl ?_) | (apply ixj; omega) | (refine ixn ?_ ?_; omega) | (refine ixs0 rfl ?_) | (refine ixs1 rfl ?_) | (refine ixs_j ?_ ?_; omega) | (refine ixs_n ?_ ?_; omega) | (apply ld_o; exact rfl) | (apply ldN_a; exact rfl) | (apply ldN_o; (exact rfl); exact rfl) | (apply st_o; (exact rfl); exact rfl) | (apply stN_o; (exact rfl); (exact rfl); exact rfl) | (refine new_i (fun bk hbk => ?_)) | (apply when_dE; (exact rfl); (exact rfl); all_goals intro hc) | (apply when_dF; (exact rfl); (exact rfl); all_goals intro hc) | (apply when_nE; (exact rfl); (exact rfl); all_goals intro hc) | (apply when_nF; (exact rfl); (exact rfl); all_goals intro hc) | (apply br_dE; (exact rfl); all_goals intro hc) | (apply br_nE; (exact rfl); all_goals intro hc) | (refine mm_min ?_) | (refine mm_max ?_) | (refine rem_i ?_ ?_; omega) | (refine SelN.mk ?_) | (refine cut_n ?_) | (refine Both.mk ?_ ?_) | (exact True.intro))
        have e : exW s (wsp s (i + 1)).2 = exW s (wsp s i).2 ++ [s.extract (wsp s i).1 i] := by rw [hsu]; simp [exW]
        refine ⟨(i + 1, a1, c1, D1), ⟨by dsimp only; omega, by dsimp only; rw [e]; exact hb1⟩, by dsimp only; omega, ?_, Ent.cons Ent.refl⟩
        dsimp only
        rw [e, hsu, List.length_append]
        exact (by repeat' (first | exact True.intro | refine And.intro ?_ ?_ | exact rfl | exact vi (by omega) | (dsimp only; exact rfl) | (dsimp only; exact vi (by omega))))
      · rw [if_neg hgt] at hsu
        repeat' ((try (conv => whnf)); first | (refine when_ye ?_ ?_; exact rfl) | (refine when_ne ?_ ?_; exact rfl) | (refine br_te ?_ ?_; exact rfl) | (refine br_fe ?_ ?_; exact rfl) | (apply br_pyE; (exact rfl); omega) | (apply br_pnE; (exact rfl); omega) | (apply when_pyE; (exact rfl); omega) | (apply when_pnE; (exact rfl); omega) | (apply br_npyE; (exact rfl); omega) | (apply br_npnE; (exact rfl); omega) | (apply when_npyE; (exact rfl); omega) | (apply when_npnE; (exact rfl); omega) | (refine ari ?_ ?_; omega) | (refine aru ?_ ?_; omega) | (apply sel; exact rfl) | (refine ix0 rfl ?_) | (refine ix1 rfl ?_) | (refine ix2 rfl ?_) | (refine ix3 rfl ?_) | (apply ixj; omega) | (refine ixn ?_ ?_; omega) | (refine ixs0 rfl ?_) | (refine ixs1 rfl ?_) | (refine ixs_j ?_ ?_; omega) | (refine ixs_n ?_ ?_; omega) | (apply ld_o; exact rfl) | (apply ldN_a; exact rfl) | (apply ldN_o; (exact rfl); exact rfl) | (apply st_o; (exact rfl); exact rfl) | (apply stN_o; (exact rfl); (exact rfl); exact rfl) | (refine new_i (fun bk hbk => ?_)) | (apply when_dE; (exact rfl); (exact rfl); all_goals intro hc) | (apply when_dF; (exact rfl); (exact rfl); all_goals intro hc) | (apply when_nE; (exact rfl); (exact rfl); all_goals intro hc) | (apply when_nF; (exact rfl); (exact rfl); all_goals intro hc) | (apply br_dE; (exact rfl); all_goals intro hc) | (apply br_nE; (exact rfl); all_goals intro hc) | (refine mm_min ?_) | (refine mm_max ?_) | (refine rem_i ?_ ?_; omega) | (refine SelN.mk ?_) | (refine cut_n ?_) | (refine Both.mk ?_ ?_) | (exact True.intro))
        refine ⟨(i + 1, a, cap, D), ⟨by dsimp only; omega, by dsimp only; rw [hsu]; exact hB⟩, by dsimp only; omega, ?_, Ent.refl⟩
        dsimp only
        rw [hsu]
        exact (by repeat' (first | exact True.intro | refine And.intro ?_ ?_ | exact rfl | exact vi (by omega) | (dsimp only; exact rfl) | (dsimp only; exact vi (by omega))))
  · have hin' : ¬ (i : Int) ≤ s.size := by omega
    have : i = s.size + 1 := by omega
    subst this
    repeat' ((try (conv => whnf)); first | (refine when_ye ?_ ?_; exact rfl) | (refine when_ne ?_ ?_; exact rfl) | (refine br_te ?_ ?_; exact rfl) | (refine br_fe ?_ ?_; exact rfl) | (apply br_pyE; (exact rfl); omega) | (apply br_pnE; (exact rfl); omega) | (apply when_pyE; (exact rfl); omega) | (apply when_pnE; (exact rfl); omega) | (apply br_npyE; (exact rfl); omega) | (apply br_npnE; (exact rfl); omega) | (apply when_npyE; (exact rfl); omega) | (apply when_npnE; (exact rfl); omega) | (refine ari ?_ ?_; omega) | (refine aru ?_ ?_; omega) | (apply sel; exact rfl) | (refine ix0 rfl ?_) | (refine ix1 rfl ?_) | (refine ix2 rfl ?_) | (refine ix3 rfl ?_) | (apply ixj; omega) | (refine ixn ?_ ?_; omega) | (refine ixs0 rfl ?_) | (refine ixs1 rfl ?_) | (refine ixs_j ?_ ?_; omega) | (refine ixs_n ?_ ?_; omega) | (apply ld_o; exact rfl) | (apply ldN_a; exact rfl) | (apply ldN_o; (exact rfl); exact rfl) | (apply st_o; (exact rfl); exact rfl) | (apply stN_o; (exact rfl); (exact rfl); exact rfl) | (refine new_i (fun bk hbk => ?_)) | (apply when_dE; (exact rfl); (exact rfl); all_goals intro hc) | (apply when_dF; (exact rfl); (exact rfl); all_goals intro hc) | (apply when_nE; (exact rfl); (exact rfl); all_goals intro hc) | (apply when_nF; (exact rfl); (exact rfl); all_goals intro hc) | (apply br_dE; (exact rfl); all_goals intro hc) | (apply br_nE; (exact rfl); all_goals intro hc) | (refine mm_min ?_) | (refine mm_max ?_) | (refine rem_i ?_ ?_; omega) | (refine SelN.mk ?_) | (refine cut_n ?_) | (refine Both.mk ?_ ?_) | (exact True.intro))
    exact ⟨a, cap, D, rfl, hB, Ent.refl⟩
end
end Go.Proofs.YtiimndcifcoofaaGreatDoor
namespace Go.Proofs.YtiimndcifcoofaaGreatDoor
open Go Go.RowKit
set_option maxRecDepth 10000
set_option maxHeartbeats 4000000
abbrev insP (i : Ins) : Obj → Prop := fun o => o = Obj.cells #[.int .i64 i.op, .int .i64 i.a, .int .i64 i.b, .int .i64 i.c, .int .i64 i.imm] 23
def isReg (k : UInt8) : Prop := (k.toNat : Int) = 65 ∨ (k.toNat : Int) = 66 ∨ (k.toNat : Int) = 67
instance (k : UInt8) : Decidable (isReg k) := by unfold isReg; infer_instance
def rdB (k : UInt8) (w : ByteArray) : Bool := if isReg k then (regM w).2 else (decM w).2
def rdV (k : UInt8) (w : ByteArray) : Int := if isReg k then (regM w).1 else (decM w).1
def setI (i : Ins) (k : UInt8) (v : Int) : Ins := if (k.toNat : Int) = 65 then ⟨i.op, v, i.b, i.c, i.imm⟩ else if (k.toNat : Int) = 66 then ⟨i.op, i.a, v, i.c, i.imm⟩ else if (k.toNat : Int) = 67 then ⟨i.op, i.a, i.b, v, i.imm⟩ else ⟨i.op, i.a, i.b, i.c, v⟩
theorem setI_op (i : Ins) (k : UInt8) (v : Int) : (setI i k v).op = i.op := by unfold setI; (repeat' split) <;> rfl
def opsP : List UInt8 → List ByteArray → Ins → Option Ins
  | [], [], i => some i
  | k :: ks, w :: ws, i => if rdB k w = true then opsP ks ws (setI i k (rdV k w)) else none
  | _, _, _ => none
def insZ : Ins := ⟨0, 0, 0, 0, 0⟩
def finP (o : Option Ins) : Ins × Int := match o with
  | none => (insZ, 4)
  | some i => if icheck i = 0 then (i, 0) else (insZ, icheck i)
def parseM (s : ByteArray) : Ins × Int :=
  if 200 < s.size then (insZ, 3) else match wordsM s with
  | [] => (insZ, 4)
  | w :: ws => if stB w = true ∧ ws.length = (opAt (stI w).op.toNat).size then finP (opsP (opAt (stI w).op.toNat).data.toList ws (stI w)) else (insZ, 4)
theorem stI_form (w : ByteArray) : ∃ (n : Nat) (m : Int), n < 18 ∧ stI w = ⟨n, 0, 0, 0, m⟩ := by
  unfold stI
  rcases op_cases w with ⟨h, _⟩ | ⟨i, hi, _, h, _, _⟩
  · rw [h, if_neg (by omega)]
    exact ⟨3, _, by omega, rfl⟩
  · rw [h, if_pos (by omega)]
    exact ⟨i, 0, hi, rfl⟩
theorem word_size {s w : ByteArray} (h : w ∈ wordsM s) : w.size ≤ s.size := by
  unfold wordsM at h
  obtain ⟨x, _, rfl⟩ := List.mem_map.1 h
  rw [ByteArray.size_extract]
  omega
theorem forms_op' {k : Nat} (h : k < 18) : formsV[0 + k * 2 + 1]? = some (.string (opAt k)) := by
  rw [Nat.zero_add]; exact forms_op h
theorem sls_1 {b n m sz : Nat} {K : Value → Prop} (hn : n = m + 1) (hk : K (.slice (slA (some ⟨b, 0, none⟩) n 1 sz) m m)) : SlsT (some ⟨b, 0, none⟩) n n sz (some 1) none none K := by
  subst hn
  exact ⟨1, m + 1, m + 1, rfl, rfl, rfl, by omega, by simp, by simp, by simp, hk⟩
section
variable {W0 : World} {own : Own}
theorem rd_tail {T : TypeId} {b : Nat} {w : ByteArray} {ws : List ByteArray} : RdE encS 1 W0 [canE encS T b (w :: ws)] (slA (some ⟨b, 0, none⟩) (ws.length + 1) 1 1) ws := by
  have hr : RdE encS 1 W0 [canE encS T b (w :: ws)] (some ⟨b, 0, none⟩) (w :: ws) := can_rd (fun _ _ => rfl)
  cases ws with
  | nil => exact ⟨fun h => absurd rfl h, fun _ _ => rfl, fun h => by simp at h⟩
  | cons x r =>
    have e : slA (some ⟨b, 0, none⟩) ((x :: r).length + 1) 1 1 = some ⟨b, 1, none⟩ := by
      unfold slA
      rw [if_neg (by simp)]
      rfl
    rw [e]
    refine ⟨fun _ => rfl, fun _ _ => rfl, fun {j k y v} hy hv => ?_⟩
    have := hr.cell (j := j + 1) (k := k) (x := y) (v := v) (by simpa using hy) hv
    have e2 : ao (some (⟨b, 1, none⟩ : Addr)) + j * 1 + k = ao (some (⟨b, 0, none⟩ : Addr)) + (j + 1) * 1 + k := by show 1 + j * 1 + k = 0 + (j + 1) * 1 + k; omega
    rw [e2]
    exact this
theorem sp_operand (hL : LibAt W0) {b : Nat} {i : Ins} {k : UInt8} {w : ByteArray} (hw : w.size ≤ 281474976710656) {C : (Obj → Prop) → Own} [m : UpC b (insP i) own C] :
    Spec Tryz.prog W0 75 [.pointer (some ⟨b, 0, none⟩), .int .u8 k.toNat, .string w] own fun v own' => v = .bool (rdB k w) ∧ Ent W0 own' (C (insP (setI i k (rdV k w)))) := by
  refine spec_of mixed low_isa_operand (by simp [ir_isa_operand]) ?_
  unfold rdB rdV setI
  unfold insP at m
  by_cases h1 : (k.toNat : Int) = 65
  · have hr : isReg k := .inl h1
    rw [if_pos hr, if_pos hr, if_pos h1]
    repeat' ((try (conv => whnf)); first | (refine when_ye ?_ ?_; exact rfl) | (refine when_ne ?_ ?_; exact rfl) | (refine br_te ?_ ?_; exact rfl) | (refine br_fe ?_ ?_; exact rfl) | (apply br_pyE; (exact rfl); omega) | (apply br_pnE; (exact rfl); omega) | (apply when_pyE; (exact rfl); omega) | (apply when_pnE; (exact rfl); omega) | (apply br_npyE; (exact rfl); omega) | (apply br_npnE; (exact rfl); omega) | (apply when_npyE; (exact rfl); omega) | (apply when_npnE; (exact rfl); omega) | ((with_reducible show CallT _ _ _ _ _ _); first | ((refine call_pe (sp_register0 w) ?_ ?_ ?_; (exact rfl); exact rfl))) | (refine ari ?_ ?_; omega) | (refine aru ?_ ?_; omega) | (apply sel; exact rfl) | (refine ix0 rfl ?_) | (refine ix1 rfl ?_) | (refine ix2 rfl ?_) | (refine ix3 rfl ?_) | (apply ixj; omega) | (refine ixn ?_ ?_; omega) | (refine ixs0 rfl ?_) | (refine ixs1 rfl ?_) | (refine ixs_j ?_ ?_; omega) | (refine ixs_n ?_ ?_; omega) | (apply ld_o; exact rfl) | (apply ldN_a; exact rfl) | (apply ldN_o; (exact rfl); exact rfl) | (apply st_o; (exact rfl); exact rfl) | (apply stN_o; (exact rfl); (exact rfl); exact rfl) | (refine new_i (fun bk hbk => ?_)) | (apply when_dE; (exact rfl); (exact rfl); all_goals intro hc) | (apply when_dF; (exact rfl); (exact rfl); all_goals intro hc) | (apply when_nE; (exact rfl); (exact rfl); all_goals intro hc) | (apply when_nF; (exact rfl); (exact rfl); all_goals intro hc) | (apply br_dE; (exact rfl); all_goals intro hc) | (apply br_nE; (exact rfl); all_goals intro hc) | (refine mm_min ?_) | (refine mm_max ?_) | (refine rem_i ?_ ?_; omega) | (refine SelN.mk ?_) | (refine cut_n ?_) | (refine Both.mk ?_ ?_) | (exact True.intro))
    exact ⟨rfl, Ent.refl⟩
  · by_cases h2 : (k.toNat : Int) = 66
    · have hr : isReg k := .inr (.inl h2)
      rw [if_pos hr, if_pos hr, if_neg h1, if_pos h2]
      repeat' ((try (conv => whnf)); first | (refine when_ye ?_ ?_; exact rfl) | (refine when_ne ?_ ?_; exact rfl) | (refine br_te ?_ ?_; exact rfl) | (refine br_fe ?_ ?_; exact rfl) | (apply br_pyE; (exact rfl); omega) | (apply br_pnE; (exact rfl); omega) | (apply when_pyE; (exact rfl); omega) | (apply when_pnE; (exact rfl); omega) | (apply br_npyE; (exact rfl); omega) | (apply br_npnE; (exact rfl); omega) | (apply when_npyE; (exact rfl); omega) | (apply when_npnE; (exact rfl); omega) | ((with_reducible show CallT _ _ _ _ _ _); first | ((refine call_pe (sp_register0 w) ?_ ?_ ?_; (exact rfl); exact rfl))) | (refine ari ?_ ?_; omega) | (refine aru ?_ ?_; omega) | (apply sel; exact rfl) | (refine ix0 rfl ?_) | (refine ix1 rfl ?_) | (refine ix2 rfl ?_) | (refine ix3 rfl ?_) | (apply ixj; omega) | (refine ixn ?_ ?_; omega) | (refine ixs0 rfl ?_) | (refine ixs1 rfl ?_) | (refine ixs_j ?_ ?_; omega) | (refine ixs_n ?_ ?_; omega) | (apply ld_o; exact rfl) | (apply ldN_a; exact rfl) | (apply ldN_o; (exact rfl); exact rfl) | (apply st_o; (exact rfl); exact rfl) | (apply stN_o; (exact rfl); (exact rfl); exact rfl) | (refine new_i (fun bk hbk => ?_)) | (apply when_dE; (exact rfl); (exact rfl); all_goals intro hc) | (apply when_dF; (exact rfl); (exact rfl); all_goals intro hc) | (apply when_nE; (exact rfl); (exact rfl); all_goals intro hc) | (apply when_nF; (exact rfl); (exact rfl); all_goals intro hc) | (apply br_dE; (exact rfl); all_goals intro hc) | (apply br_nE; (exact rfl); all_goals intro hc) | (refine mm_min ?_) | (refine mm_max ?_) | (refine rem_i ?_ ?_; omega) | (refine SelN.mk ?_) | (refine cut_n ?_) | (refine Both.mk ?_ ?_) | (exact True.intro))
      exact ⟨rfl, Ent.refl⟩
    · by_cases h3 : (k.toNat : Int) = 67
      · have hr : isReg k := .inr (.inr h3)
        rw [if_pos hr, if_pos hr, if_neg h1, if_neg h2, if_pos h3]
        repeat' ((try (conv => whnf)); first | (refine when_ye ?_ ?_; exact rfl) | (refine when_ne ?_ ?_; exact rfl) | (refine br_te ?_ ?_; exact rfl) | (refine br_fe ?_ ?_; exact rfl) | (apply br_pyE; (exact rfl); omega) | (apply br_pnE; (exact rfl); omega) | (apply when_pyE; (exact rfl); omega) | (apply when_pnE; (exact rfl); omega) | (apply br_npyE; (exact rfl); omega) | (apply br_npnE; (exact rfl); omega) | (apply when_npyE; (exact rfl); omega) | (apply when_npnE; (exact rfl); omega) | ((with_reducible show CallT _ _ _ _ _ _); first | ((refine call_pe (sp_register0 w) ?_ ?_ ?_; (exact rfl); exact rfl))) | (refine ari ?_ ?_; omega) | (refine aru ?_ ?_; omega) | (apply sel; exact rfl) | (refine ix0 rfl ?_) | (refine ix1 rfl ?_) | (refine ix2 rfl ?_) | (refine ix3 rfl ?_) | (apply ixj; omega) | (refine ixn ?_ ?_; omega) | (refine ixs0 rfl ?_) | (refine ixs1 rfl ?_) | (refine ixs_j ?_ ?_; omega) | (refine ixs_n ?_ ?_; omega) | (apply ld_o; exact rfl) | (apply ldN_a; exact rfl) | (apply ldN_o; (exact rfl); exact rfl) | (apply st_o; (exact rfl); exact rfl) | (apply stN_o; (exact rfl); (exact rfl); exact rfl) | (refine new_i (fun bk hbk => ?_)) | (apply when_dE; (exact rfl); (exact rfl); all_goals intro hc) | (apply when_dF; (exact rfl); (exact rfl); all_goals intro hc) | (apply when_nE; (exact rfl); (exact rfl); all_goals intro hc) | (apply when_nF; (exact rfl); (exact rfl); all_goals intro hc) | (apply br_dE; (exact rfl); all_goals intro hc) | (apply br_nE; (exact rfl); all_goals intro hc) | (refine mm_min ?_) | (refine mm_max ?_) | (refine rem_i ?_ ?_; omega) | (refine SelN.mk ?_) | (refine cut_n ?_) | (refine Both.mk ?_ ?_) | (exact True.intro))
        exact ⟨rfl, Ent.refl⟩
      · have hr : ¬ isReg k := by unfold isReg; omega
        rw [if_neg hr, if_neg hr, if_neg h1, if_neg h2, if_neg h3]
        repeat' ((try (conv => whnf)); first | (refine when_ye ?_ ?_; exact rfl) | (refine when_ne ?_ ?_; exact rfl) | (refine br_te ?_ ?_; exact rfl) | (refine br_fe ?_ ?_; exact rfl) | (apply br_pyE; (exact rfl); omega) | (apply br_pnE; (exact rfl); omega) | (apply when_pyE; (exact rfl); omega) | (apply when_pnE; (exact rfl); omega) | (apply br_npyE; (exact rfl); omega) | (apply br_npnE; (exact rfl); omega) | (apply when_npyE; (exact rfl); omega) | (apply when_npnE; (exact rfl); omega) | ((with_reducible show CallT _ _ _ _ _ _); first | ((refine call_pe (sp_decimal hL w hw) ?_ ?_ ?_; (exact rfl); exact rfl))) | (refine ari ?_ ?_; omega) | (refine aru ?_ ?_; omega) | (apply sel; exact rfl) | (refine ix0 rfl ?_) | (refine ix1 rfl ?_) | (refine ix2 rfl ?_) | (refine ix3 rfl ?_) | (apply ixj; omega) | (refine ixn ?_ ?_; omega) | (refine ixs0 rfl ?_) | (refine ixs1 rfl ?_) | (refine ixs_j ?_ ?_; omega) | (refine ixs_n ?_ ?_; omega) | (apply ld_o; exact rfl) | (apply ldN_a; exact rfl) | (apply ldN_o; (exact rfl); exact rfl) | (apply st_o; (exact rfl); exact rfl) | (apply stN_o; (exact rfl); (exact rfl); exact rfl) | (refine new_i (fun bk hbk => ?_)) | (apply when_dE; (exact rfl); (exact rfl); all_goals intro hc) | (apply when_dF; (exact rfl); (exact rfl); all_goals intro hc) | (apply when_nE; (exact rfl); (exact rfl); all_goals intro hc) | (apply when_nF; (exact rfl); (exact rfl); all_goals intro hc) | (apply br_dE; (exact rfl); all_goals intro hc) | (apply br_nE; (exact rfl); all_goals intro hc) | (refine mm_min ?_) | (refine mm_max ?_) | (refine rem_i ?_ ?_; omega) | (refine SelN.mk ?_) | (refine cut_n ?_) | (refine Both.mk ?_ ?_) | (exact True.intro))
        exact ⟨rfl, Ent.refl⟩
end
end Go.Proofs.YtiimndcifcoofaaGreatDoor
namespace Go.Proofs.YtiimndcifcoofaaGreatDoor
open Go Go.RowKit
set_option maxRecDepth 10000
set_option maxHeartbeats 4000000
theorem call_e {P : Program} {W0 : World} {own : Own} {k k0 : FuncId} {args args0 : List Value} {v0 : Value} {O : Own} {K : Value → Own → Prop} (h : Spec P W0 k0 args0 own fun v own' => v = v0 ∧ Ent W0 own' O) (ek : k = k0) (ea : args = args0) (hk : K v0 O) : CallT P W0 own k args K :=
  call_x (σ := Unit) (R := fun _ v => v = v0) (O := fun _ => O) (fun w hw => (h w hw).mono fun _ _ ⟨v, o, a, b, c, d⟩ => ⟨v, o, a, b, (), c, d⟩) ek ea (fun _ _ e => by subst e; exact hk)
section
variable {W0 : World} {own : Own}
theorem sp_parse (hL : LibAt W0) (hF : FormsAt W0) (hN : NamesAt W0) (s : ByteArray) : Pure Tryz.prog W0 48 [.string s] own (.tuple #[(parseM s).1.v, .int .i64 (parseM s).2]) := by
  refine pure_of (spec_of mixed low_isa_Parse (by simp [ir_isa_Parse]) ?_)
  by_cases h200 : 200 < s.size
  · have h200' : 200 < (s.size : Int) := by omega
    have e : parseM s = (insZ, 3) := by unfold parseM; rw [if_pos h200]
    rw [e]
    repeat' ((try (conv => whnf)); first | (refine when_ye ?_ ?_; exact rfl) | (refine when_ne ?_ ?_; exact rfl) | (refine br_te ?_ ?_; exact rfl) | (refine br_fe ?_ ?_; exact rfl) | (apply br_pyE; (exact rfl); omega) | (apply br_pnE; (exact rfl); omega) | (apply when_pyE; (exact rfl); omega) | (apply when_pnE; (exact rfl); omega) | (apply br_npyE; (exact rfl); omega) | (apply br_npnE; (exact rfl); omega) | (apply when_npyE; (exact rfl); omega) | (apply when_npnE; (exact rfl); omega) | (refine ari ?_ ?_; omega) | (refine aru ?_ ?_; omega) | (apply sel; exact rfl) | (refine ix0 rfl ?_) | (refine ix1 rfl ?_) | (refine ix2 rfl ?_) | (refine ix3 rfl ?_) | (apply ixj; omega) | (refine ixn ?_ ?_; omega) | (refine ixs0 rfl ?_) | (refine ixs1 rfl ?_) | (refine ixs_j ?_ ?_; omega) | (refine ixs_n ?_ ?_; omega) | (apply ld_o; exact rfl) | (apply ldN_a; exact rfl) | (apply ldN_o; (exact rfl); exact rfl) | (apply st_o; (exact rfl); exact rfl) | (apply stN_o; (exact rfl); (exact rfl); exact rfl) | (refine new_i (fun bk hbk => ?_)) | (apply when_dE; (exact rfl); (exact rfl); all_goals intro hc) | (apply when_dF; (exact rfl); (exact rfl); all_goals intro hc) | (apply when_nE; (exact rfl); (exact rfl); all_goals intro hc) | (apply when_nF; (exact rfl); (exact rfl); all_goals intro hc) | (apply br_dE; (exact rfl); all_goals intro hc) | (apply br_nE; (exact rfl); all_goals intro hc) | (refine mm_min ?_) | (refine mm_max ?_) | (refine rem_i ?_ ?_; omega) | (refine SelN.mk ?_) | (refine cut_n ?_) | (refine Both.mk ?_ ?_) | (exact True.intro))
    exact ⟨rfl, (by first | exact ent_i | (repeat (first | exact Ent.refl | exact Ent.left | refine Ent.cons ?_ | refine Ent.app ?_)))⟩
  · have h200' : ¬ 200 < (s.size : Int) := by omega
    have hsp := fun own => sp_split (W0 := W0) (own := own) s (by omega)
    have hws := fun w => word_size (s := s) (w := w)
    cases hw : wordsM s with
    | nil =>
      have e : parseM s = (insZ, 4) := by unfold parseM; rw [if_neg h200, hw]
      rw [e]
      rw [hw] at hsp
      simp only [List.length_nil] at hsp
      repeat' ((try (conv => whnf)); first | (refine when_ye ?_ ?_; exact rfl) | (refine when_ne ?_ ?_; exact rfl) | (refine br_te ?_ ?_; exact rfl) | (refine br_fe ?_ ?_; exact rfl) | (apply br_pyE; (exact rfl); omega) | (apply br_pnE; (exact rfl); omega) | (apply when_pyE; (exact rfl); omega) | (apply when_pnE; (exact rfl); omega) | (apply br_npyE; (exact rfl); omega) | (apply br_npnE; (exact rfl); omega) | (apply when_npyE; (exact rfl); omega) | (apply when_npnE; (exact rfl); omega) | ((with_reducible show CallT _ _ _ _ _ _); first | ((refine call_se (hsp _) ?_ ?_ (fun v own' hv => ?_); (exact rfl); (exact rfl); (obtain ⟨b, rfl, rfl⟩ := hv)))) | (refine ari ?_ ?_; omega) | (refine aru ?_ ?_; omega) | (apply sel; exact rfl) | (refine ix0 rfl ?_) | (refine ix1 rfl ?_) | (refine ix2 rfl ?_) | (refine ix3 rfl ?_) | (apply ixj; omega) | (refine ixn ?_ ?_; omega) | (refine ixs0 rfl ?_) | (refine ixs1 rfl ?_) | (refine ixs_j ?_ ?_; omega) | (refine ixs_n ?_ ?_; omega) | (apply ld_o; exact rfl) | (apply ldN_a; exact rfl) | (apply ldN_o; (exact rfl); exact rfl) | (apply st_o; (exact rfl); exact rfl) | (apply stN_o; (exact rfl); (exact rfl); exact rfl) | (refine new_i (fun bk hbk => ?_)) | (apply when_dE; (exact rfl); (exact rfl); all_goals intro hc) | (apply when_dF; (exact rfl); (exact rfl); all_goals intro hc) | (apply when_nE; (exact rfl); (exact rfl); all_goals intro hc) | (apply when_nF; (exact rfl); (exact rfl); all_goals intro hc) | (apply br_dE; (exact rfl); all_goals intro hc) | (apply br_nE; (exact rfl); all_goals intro hc) | (refine mm_min ?_) | (refine mm_max ?_) | (refine rem_i ?_ ?_; omega) | (refine SelN.mk ?_) | (refine cut_n ?_) | (refine Both.mk ?_ ?_) | (exact True.intro))
      exact ⟨rfl, (by first | exact ent_i | (repeat (first | exact Ent.refl | exact Ent.left | refine Ent.cons ?_ | refine Ent.app ?_)))⟩
    | cons w ws =>
      have hbd : ws.length < 202 := by
        have := wsp_len s (s.size + 1)
        have h2 : (wordsM s).length = (wsp s (s.size + 1)).2.length := by simp [wordsM]
        rw [hw, List.length_cons] at h2
        omega
      rw [hw] at hsp hws
      simp only [List.length_cons] at hsp
      have hwd : ∀ x ∈ w :: ws, (encS x).length = 1 := fun _ _ => rfl
      have hnl : ws.length + 1 = (w :: ws).length := rfl
      have hx0 : (w :: ws)[0]? = some w := rfl
      obtain ⟨n, m, hn, hst⟩ := stI_form w
      have hop := fun own => sp_operation (own := own) hF hN w
      have e : parseM s = if stB w = true ∧ ws.length = (opAt (stI w).op.toNat).size then finP (opsP (opAt (stI w).op.toNat).data.toList ws (stI w)) else (insZ, 4) := by
          unfold parseM; rw [if_neg h200, hw]
      rw [e]
      cases hb : stB w with
      | false =>
        rw [if_neg (fun h => by cases h.1)]
        rw [hst, hb] at hop
        repeat' ((try (conv => whnf)); first | (refine when_ye ?_ ?_; exact rfl) | (refine when_ne ?_ ?_; exact rfl) | (refine br_te ?_ ?_; exact rfl) | (refine br_fe ?_ ?_; exact rfl) | (apply br_pyE; (exact rfl); omega) | (apply br_pnE; (exact rfl); omega) | (apply when_pyE; (exact rfl); omega) | (apply when_pnE; (exact rfl); omega) | (apply br_npyE; (exact rfl); omega) | (apply br_npnE; (exact rfl); omega) | (apply when_npyE; (exact rfl); omega) | (apply when_npnE; (exact rfl); omega) | ((with_reducible show Ld _ _ _ _); first | (refine ldC0 hwd hx0 rfl ?_) | (refine ldC1 hwd hx0 rfl ?_) | (refine ldC hwd hx0 rfl ?_)) | ((with_reducible show IxS _ _ _ _ _); first | ((refine ixC hx0 hnl ?_ ?_; (first | rfl | omega)))) | ((with_reducible show LdN _ _ _ _ _); first | (refine ldNC hwd hx0 rfl ?_)) | ((with_reducible show CallT _ _ _ _ _ _); first | ((refine call_pe (hop _) ?_ ?_ ?_; (exact rfl); exact rfl)) | ((refine call_se (hsp _) ?_ ?_ (fun v own' hv => ?_); (exact rfl); (exact rfl); (obtain ⟨b, rfl, rfl⟩ := hv)))) | (refine ari ?_ ?_; omega) | (refine aru ?_ ?_; omega) | (apply sel; exact rfl) | (refine ix0 rfl ?_) | (refine ix1 rfl ?_) | (refine ix2 rfl ?_) | (refine ix3 rfl ?_) | (apply ixj; omega) | (refine ixn ?_ ?_; omega) | (refine ixs0 rfl ?_) | (refine ixs1 rfl ?_) | (refine ixs_j ?_ ?_; omega) | (refine ixs_n ?_ ?_; omega) | (apply ld_o; exact rfl) | (apply ldN_a; exact rfl) | (apply ldN_o; (exact rfl); exact rfl) | (apply st_o; (exact rfl); exact rfl) | (apply stN_o; (exact rfl); (exact rfl); exact rfl) | (refine new_i (fun bk hbk => ?_)) | (apply when_dE; (exact rfl); (exact rfl); all_goals intro hc) | (apply when_dF; (exact rfl); (exact rfl); all_goals intro hc) | (apply when_nE; (exact rfl); (exact rfl); all_goals intro hc) | (apply when_nF; (exact rfl); (exact rfl); all_goals intro hc) | (apply br_dE; (exact rfl); all_goals intro hc) | (apply br_nE; (exact rfl); all_goals intro hc) | (refine mm_min ?_) | (refine mm_max ?_) | (refine rem_i ?_ ?_; omega) | (refine SelN.mk ?_) | (refine cut_n ?_) | (refine Both.mk ?_ ?_) | (exact True.intro))
        exact ⟨rfl, (by first | exact ent_i | (repeat (first | exact Ent.refl | exact Ent.left | refine Ent.cons ?_ | refine Ent.app ?_)))⟩
      | true =>
        rw [hst, hb] at hop
        rw [hst]
        have en : (⟨n, 0, 0, 0, m⟩ : Ins).op.toNat = n := by show (n : Int).toNat = n; omega
        rw [en]
        by_cases hlen : ws.length = (opAt n).size
        · rw [if_pos ⟨rfl, hlen⟩]
          have hlen' : (ws.length : Int) = (opAt n).size := by omega
          repeat' ((try (conv => whnf)); first | (refine when_ye ?_ ?_; exact rfl) | (refine when_ne ?_ ?_; exact rfl) | (refine br_te ?_ ?_; exact rfl) | (refine br_fe ?_ ?_; exact rfl) | (apply br_pyE; (exact rfl); omega) | (apply br_pnE; (exact rfl); omega) | (apply when_pyE; (exact rfl); omega) | (apply when_pnE; (exact rfl); omega) | (apply br_npyE; (exact rfl); omega) | (apply br_npnE; (exact rfl); omega) | (apply when_npyE; (exact rfl); omega) | (apply when_npnE; (exact rfl); omega) | (refine ld_laid hF _ (forms_op' hn) ?_) | (refine sls_1 rfl ?_) | ((with_reducible show Ld _ _ _ _); first | (refine ldC0 hwd hx0 rfl ?_) | (refine ldC1 hwd hx0 rfl ?_) | (refine ldC hwd hx0 rfl ?_)) | ((with_reducible show IxS _ _ _ _ _); first | ((refine ixC hx0 hnl ?_ ?_; (first | rfl | omega)))) | ((with_reducible show LdN _ _ _ _ _); first | (refine ldNC hwd hx0 rfl ?_)) | ((with_reducible show CallT _ _ _ _ _ _); first | ((refine call_pe (hop _) ?_ ?_ ?_; (exact rfl); exact rfl)) | ((refine call_se (hsp _) ?_ ?_ (fun v own' hv => ?_); (exact rfl); (exact rfl); (obtain ⟨b, rfl, rfl⟩ := hv)))) | (refine ari ?_ ?_; omega) | (refine aru ?_ ?_; omega) | (apply sel; exact rfl) | (refine ix0 rfl ?_) | (refine ix1 rfl ?_) | (refine ix2 rfl ?_) | (refine ix3 rfl ?_) | (apply ixj; omega) | (refine ixn ?_ ?_; omega) | (refine ixs0 rfl ?_) | (refine ixs1 rfl ?_) | (refine ixs_j ?_ ?_; omega) | (refine ixs_n ?_ ?_; omega) | (apply ld_o; exact rfl) | (apply ldN_a; exact rfl) | (apply ldN_o; (exact rfl); exact rfl) | (apply st_o; (exact rfl); exact rfl) | (apply stN_o; (exact rfl); (exact rfl); exact rfl) | (refine new_i (fun bk hbk => ?_)) | (apply when_dE; (exact rfl); (exact rfl); all_goals intro hc) | (apply when_dF; (exact rfl); (exact rfl); all_goals intro hc) | (apply when_nE; (exact rfl); (exact rfl); all_goals intro hc) | (apply when_nF; (exact rfl); (exact rfl); all_goals intro hc) | (apply br_dE; (exact rfl); all_goals intro hc) | (apply br_nE; (exact rfl); all_goals intro hc) | (refine mm_min ?_) | (refine mm_max ?_) | (refine rem_i ?_ ?_; omega) | (refine SelN.mk ?_) | (refine cut_n ?_) | (refine Both.mk ?_ ?_) | (exact True.intro))
          have hR := rd_tail (W0 := W0) (T := 9) (b := b) (w := w) (ws := ws)
          rename_i b2 hb2
          refine loop_i (σ := Nat × Ins) (fun x => [(45, .int .i64 x.1)]) (fun x => (bk, insP x.2) :: ([canE encS 9 b (w :: ws)] ++ ((b2, insP insZ) :: own))) (fun x => x.1 ≤ ws.length ∧ x.2.op = n ∧ opsP ((opAt n).data.toList.drop x.1) (ws.drop x.1) x.2 = opsP (opAt n).data.toList ws ⟨n, 0, 0, 0, m⟩) (fun x => ws.length - x.1) (0, ⟨n, 0, 0, 0, m⟩) ⟨by omega, rfl, rfl⟩ (by repeat' (first | exact True.intro | refine And.intro ?_ ?_ | exact rfl | exact vi (by omega) | (dsimp only; exact rfl) | (dsimp only; exact vi (by omega)))) Ent.refl rfl ?_
          rintro ⟨k, i⟩ junk ⟨hk, hio, hI⟩
          rcases i with ⟨io, ia, ib, ic, im⟩
          dsimp only at hk hio hI ⊢
          subst hio
          by_cases hlt : k < ws.length
          · have hlt' : (k : Int) < ws.length := by omega
            have hol : (opAt n).data.toList.length = (opAt n).size := by simp
            obtain ⟨c, hc⟩ : ∃ c, (opAt n).data.toList[k]? = some c := ⟨_, List.getElem?_eq_getElem (by omega)⟩
            obtain ⟨x, hx⟩ : ∃ x, ws[k]? = some x := ⟨_, List.getElem?_eq_getElem hlt⟩
            have hd1 : (opAt n).data.toList.drop k = c :: (opAt n).data.toList.drop (k + 1) := by
              rw [List.drop_eq_getElem_cons (by omega)]
              congr 1
              exact (List.getElem?_eq_some_iff.1 hc).2
            have hd2 : ws.drop k = x :: ws.drop (k + 1) := by
              rw [List.drop_eq_getElem_cons (by omega)]
              congr 1
              exact (List.getElem?_eq_some_iff.1 hx).2
            rw [hd1, hd2, opsP] at hI
            have hxs : x.size ≤ 281474976710656 := by
              have := hws x (List.mem_cons_of_mem _ (List.mem_of_getElem? hx))
              omega
            have hcl := sp_operand (W0 := W0) (own := (bk, insP ⟨n, ia, ib, ic, im⟩) :: ([canE encS 9 b (w :: ws)] ++ ((b2, insP insZ) :: own))) hL (b := bk) (i := ⟨n, ia, ib, ic, im⟩) (k := c) hxs
            cases hr : rdB c x with
            | false =>
              rw [hr, if_neg (by simp)] at hI
              rw [← hI]
              rw [hr] at hcl
              repeat' ((try (conv => whnf)); first | (refine when_ye ?_ ?_; exact rfl) | (refine when_ne ?_ ?_; exact rfl) | (refine br_te ?_ ?_; exact rfl) | (refine br_fe ?_ ?_; exact rfl) | (apply br_pyE; (exact rfl); omega) | (apply br_pnE; (exact rfl); omega) | (apply when_pyE; (exact rfl); omega) | (apply when_pnE; (exact rfl); omega) | (apply br_npyE; (exact rfl); omega) | (apply br_npnE; (exact rfl); omega) | (apply when_npyE; (exact rfl); omega) | (apply when_npnE; (exact rfl); omega) | (refine ld_laid hF _ (forms_op' hn) ?_) | (refine ⟨k, c, rfl, hc, ?_⟩) | ((with_reducible show Ld _ _ _ _); first | (refine ldE0 hR hx rfl ?_) | (refine ldEk hR hx rfl ?_) | (refine ldE1 hR hx rfl ?_)) | ((with_reducible show IxS _ _ _ _ _); first | ((refine ixE hR hx ?_ ?_; (first | rfl | omega)))) | ((with_reducible show LdN _ _ _ _ _); first | (refine ldNEi hR hx rfl ?_)) | ((with_reducible show CallT _ _ _ _ _ _); first | ((refine call_e hcl ?_ ?_ ?_; (exact rfl); (exact rfl)))) | (refine ari ?_ ?_; omega) | (refine aru ?_ ?_; omega) | (apply sel; exact rfl) | (refine ix0 rfl ?_) | (refine ix1 rfl ?_) | (refine ix2 rfl ?_) | (refine ix3 rfl ?_) | (apply ixj; omega) | (refine ixn ?_ ?_; omega) | (refine ixs0 rfl ?_) | (refine ixs1 rfl ?_) | (refine ixs_j ?_ ?_; omega) | (refine ixs_n ?_ ?_; omega) | (apply ld_o; exact rfl) | (apply ldN_a; exact rfl) | (apply ldN_o; (exact rfl); exact rfl) | (apply st_o; (exact rfl); exact rfl) | (apply stN_o; (exact rfl); (exact rfl); exact rfl) | (refine new_i (fun bk hbk => ?_)) | (apply when_dE; (exact rfl); (exact rfl); all_goals intro hc) | (apply when_dF; (exact rfl); (exact rfl); all_goals intro hc) | (apply when_nE; (exact rfl); (exact rfl); all_goals intro hc) | (apply when_nF; (exact rfl); (exact rfl); all_goals intro hc) | (apply br_dE; (exact rfl); all_goals intro hc) | (apply br_nE; (exact rfl); all_goals intro hc) | (refine mm_min ?_) | (refine mm_max ?_) | (refine rem_i ?_ ?_; omega) | (refine SelN.mk ?_) | (refine cut_n ?_) | (refine Both.mk ?_ ?_) | (exact True.intro))
              exact ⟨rfl, (by first | exact ent_i | (repeat (first | exact Ent.refl | exact Ent.left | refine Ent.cons ?_ | refine Ent.app ?_)))⟩
            | true =>
              rw [hr, if_pos rfl] at hI
              rw [hr] at hcl
              repeat' ((try (conv => whnf)); first | (refine when_ye ?_ ?_; exact rfl) | (refine when_ne ?_ ?_; exact rfl) | (refine br_te ?_ ?_; exact rfl) | (refine br_fe ?_ ?_; exact rfl) | (apply br_pyE; (exact rfl); omega) | (apply br_pnE; (exact rfl); omega) | (apply when_pyE; (exact rfl); omega) | (apply when_pnE; (exact rfl); omega) | (apply br_npyE; (exact rfl); omega) | (apply br_npnE; (exact rfl); omega) | (apply when_npyE; (exact rfl); omega) | (apply when_npnE; (exact rfl); omega) | (refine ld_laid hF _ (forms_op' hn) ?_) | (refine ⟨k, c, rfl, hc, ?_⟩) | ((with_reducible show Ld _ _ _ _); first | (refine ldE0 hR hx rfl ?_) | (refine ldEk hR hx rfl ?_) | (refine ldE1 hR hx rfl ?_)) | ((with_reducible show IxS _ _ _ _ _); first | ((refine ixE hR hx ?_ ?_; (first | rfl | omega)))) | ((with_reducible show LdN _ _ _ _ _); first | (refine ldNEi hR hx rfl ?_)) | ((with_reducible show CallT _ _ _ _ _ _); first | ((refine call_e hcl ?_ ?_ ?_; (exact rfl); (exact rfl)))) | (refine ari ?_ ?_; omega) | (refine aru ?_ ?_; omega) | (apply sel; exact rfl) | (refine ix0 rfl ?_) | (refine ix1 rfl ?_) | (refine ix2 rfl ?_) | (refine ix3 rfl ?_) | (apply ixj; omega) | (refine ixn ?_ ?_; omega) | (refine ixs0 rfl ?_) | (refine ixs1 rfl ?_) | (refine ixs_j ?_ ?_; omega) | (refine ixs_n ?_ ?_; omega) | (apply ld_o; exact rfl) | (apply ldN_a; exact rfl) | (apply ldN_o; (exact rfl); exact rfl) | (apply st_o; (exact rfl); exact rfl) | (apply stN_o; (exact rfl); (exact rfl); exact rfl) | (refine new_i (fun bk hbk => ?_)) | (apply when_dE; (exact rfl); (exact rfl); all_goals intro hc) | (apply when_dF; (exact rfl); (exact rfl); all_goals intro hc) | (apply when_nE; (exact rfl); (exact rfl); all_goals intro hc) | (apply when_nF; (exact rfl); (exact rfl); all_goals intro hc) | (apply br_dE; (exact rfl); all_goals intro hc) | (apply br_nE; (exact rfl); all_goals intro hc) | (refine mm_min ?_) | (refine mm_max ?_) | (refine rem_i ?_ ?_; omega) | (refine SelN.mk ?_) | (refine cut_n ?_) | (refine Both.mk ?_ ?_) | (exact True.intro))
              exact ⟨(k + 1, setI ⟨n, ia, ib, ic, im⟩ c (rdV c x)), ⟨by dsimp only; omega, by dsimp only; rw [setI_op], hI⟩, by dsimp only; omega, (by repeat' (first | exact True.intro | refine And.intro ?_ ?_ | exact rfl | exact vi (by omega) | (dsimp only; exact rfl) | (dsimp only; exact vi (by omega)))), Ent.refl⟩
          · have hlt' : ¬ (k : Int) < ws.length := by omega
            have hk2 : k = ws.length := by omega
            subst hk2
            have hol : (opAt n).data.toList.length = (opAt n).size := by simp
            rw [List.drop_of_length_le (by omega), List.drop_of_length_le (by omega), opsP] at hI
            rw [← hI]
            have hch := fun own => sp_icheck W0 own hF ⟨n, ia, ib, ic, im⟩
            by_cases h0 : icheck ⟨n, ia, ib, ic, im⟩ = 0
            · have e : finP (some ⟨n, ia, ib, ic, im⟩) = (⟨n, ia, ib, ic, im⟩, 0) := if_pos h0
              rw [e]
              repeat' ((try (conv => whnf)); first | (refine when_ye ?_ ?_; exact rfl) | (refine when_ne ?_ ?_; exact rfl) | (refine br_te ?_ ?_; exact rfl) | (refine br_fe ?_ ?_; exact rfl) | (apply br_pyE; (exact rfl); omega) | (apply br_pnE; (exact rfl); omega) | (apply when_pyE; (exact rfl); omega) | (apply when_pnE; (exact rfl); omega) | (apply br_npyE; (exact rfl); omega) | (apply br_npnE; (exact rfl); omega) | (apply when_npyE; (exact rfl); omega) | (apply when_npnE; (exact rfl); omega) | ((with_reducible show CallT _ _ _ _ _ _); first | ((refine call_pe (hch _) ?_ ?_ ?_; (exact rfl); exact rfl))) | (refine ari ?_ ?_; omega) | (refine aru ?_ ?_; omega) | (apply sel; exact rfl) | (refine ix0 rfl ?_) | (refine ix1 rfl ?_) | (refine ix2 rfl ?_) | (refine ix3 rfl ?_) | (apply ixj; omega) | (refine ixn ?_ ?_; omega) | (refine ixs0 rfl ?_) | (refine ixs1 rfl ?_) | (refine ixs_j ?_ ?_; omega) | (refine ixs_n ?_ ?_; omega) | (apply ld_o; exact rfl) | (apply ldN_a; exact rfl) | (apply ldN_o; (exact rfl); exact rfl) | (apply st_o; (exact rfl); exact rfl) | (apply stN_o; (exact rfl); (exact rfl); exact rfl) | (refine new_i (fun bk hbk => ?_)) | (apply when_dE; (exact rfl); (exact rfl); all_goals intro hc) | (apply when_dF; (exact rfl); (exact rfl); all_goals intro hc) | (apply when_nE; (exact rfl); (exact rfl); all_goals intro hc) | (apply when_nF; (exact rfl); (exact rfl); all_goals intro hc) | (apply br_dE; (exact rfl); all_goals intro hc) | (apply br_nE; (exact rfl); all_goals intro hc) | (refine mm_min ?_) | (refine mm_max ?_) | (refine rem_i ?_ ?_; omega) | (refine SelN.mk ?_) | (refine cut_n ?_) | (refine Both.mk ?_ ?_) | (exact True.intro))
              exact ⟨rfl, (by first | exact ent_i | (repeat (first | exact Ent.refl | exact Ent.left | refine Ent.cons ?_ | refine Ent.app ?_)))⟩
            · have e : finP (some ⟨n, ia, ib, ic, im⟩) = (insZ, icheck ⟨n, ia, ib, ic, im⟩) := if_neg h0
              rw [e]
              repeat' ((try (conv => whnf)); first | (refine when_ye ?_ ?_; exact rfl) | (refine when_ne ?_ ?_; exact rfl) | (refine br_te ?_ ?_; exact rfl) | (refine br_fe ?_ ?_; exact rfl) | (apply br_pyE; (exact rfl); omega) | (apply br_pnE; (exact rfl); omega) | (apply when_pyE; (exact rfl); omega) | (apply when_pnE; (exact rfl); omega) | (apply br_npyE; (exact rfl); omega) | (apply br_npnE; (exact rfl); omega) | (apply when_npyE; (exact rfl); omega) | (apply when_npnE; (exact rfl); omega) | ((with_reducible show CallT _ _ _ _ _ _); first | ((refine call_pe (hch _) ?_ ?_ ?_; (exact rfl); exact rfl))) | (refine ari ?_ ?_; omega) | (refine aru ?_ ?_; omega) | (apply sel; exact rfl) | (refine ix0 rfl ?_) | (refine ix1 rfl ?_) | (refine ix2 rfl ?_) | (refine ix3 rfl ?_) | (apply ixj; omega) | (refine ixn ?_ ?_; omega) | (refine ixs0 rfl ?_) | (refine ixs1 rfl ?_) | (refine ixs_j ?_ ?_; omega) | (refine ixs_n ?_ ?_; omega) | (apply ld_o; exact rfl) | (apply ldN_a; exact rfl) | (apply ldN_o; (exact rfl); exact rfl) | (apply st_o; (exact rfl); exact rfl) | (apply stN_o; (exact rfl); (exact rfl); exact rfl) | (refine new_i (fun bk hbk => ?_)) | (apply when_dE; (exact rfl); (exact rfl); all_goals intro hc) | (apply when_dF; (exact rfl); (exact rfl); all_goals intro hc) | (apply when_nE; (exact rfl); (exact rfl); all_goals intro hc) | (apply when_nF; (exact rfl); (exact rfl); all_goals intro hc) | (apply br_dE; (exact rfl); all_goals intro hc) | (apply br_nE; (exact rfl); all_goals intro hc) | (refine mm_min ?_) | (refine mm_max ?_) | (refine rem_i ?_ ?_; omega) | (refine SelN.mk ?_) | (refine cut_n ?_) | (refine Both.mk ?_ ?_) | (exact True.intro))
              exact ⟨rfl, (by first | exact ent_i | (repeat (first | exact Ent.refl | exact Ent.left | refine Ent.cons ?_ | refine Ent.app ?_)))⟩
        · rw [if_neg (fun h => hlen h.2)]
          have hlen' : ¬ (ws.length : Int) = (opAt n).size := by omega
          repeat' ((try (conv => whnf)); first | (refine when_ye ?_ ?_; exact rfl) | (refine when_ne ?_ ?_; exact rfl) | (refine br_te ?_ ?_; exact rfl) | (refine br_fe ?_ ?_; exact rfl) | (apply br_pyE; (exact rfl); omega) | (apply br_pnE; (exact rfl); omega) | (apply when_pyE; (exact rfl); omega) | (apply when_pnE; (exact rfl); omega) | (apply br_npyE; (exact rfl); omega) | (apply br_npnE; (exact rfl); omega) | (apply when_npyE; (exact rfl); omega) | (apply when_npnE; (exact rfl); omega) | (refine ld_laid hF _ (forms_op' hn) ?_) | ((with_reducible show Ld _ _ _ _); first | (refine ldC0 hwd hx0 rfl ?_) | (refine ldC1 hwd hx0 rfl ?_) | (refine ldC hwd hx0 rfl ?_)) | ((with_reducible show IxS _ _ _ _ _); first | ((refine ixC hx0 hnl ?_ ?_; (first | rfl | omega)))) | ((with_reducible show LdN _ _ _ _ _); first | (refine ldNC hwd hx0 rfl ?_)) | ((with_reducible show CallT _ _ _ _ _ _); first | ((refine call_pe (hop _) ?_ ?_ ?_; (exact rfl); exact rfl)) | ((refine call_se (hsp _) ?_ ?_ (fun v own' hv => ?_); (exact rfl); (exact rfl); (obtain ⟨b, rfl, rfl⟩ := hv)))) | (refine ari ?_ ?_; omega) | (refine aru ?_ ?_; omega) | (apply sel; exact rfl) | (refine ix0 rfl ?_) | (refine ix1 rfl ?_) | (refine ix2 rfl ?_) | (refine ix3 rfl ?_) | (apply ixj; omega) | (refine ixn ?_ ?_; omega) | (refine ixs0 rfl ?_) | (refine ixs1 rfl ?_) | (refine ixs_j ?_ ?_; omega) | (refine ixs_n ?_ ?_; omega) | (apply ld_o; exact rfl) | (apply ldN_a; exact rfl) | (apply ldN_o; (exact rfl); exact rfl) | (apply st_o; (exact rfl); exact rfl) | (apply stN_o; (exact rfl); (exact rfl); exact rfl) | (refine new_i (fun bk hbk => ?_)) | (apply when_dE; (exact rfl); (exact rfl); all_goals intro hc) | (apply when_dF; (exact rfl); (exact rfl); all_goals intro hc) | (apply when_nE; (exact rfl); (exact rfl); all_goals intro hc) | (apply when_nF; (exact rfl); (exact rfl); all_goals intro hc) | (apply br_dE; (exact rfl); all_goals intro hc) | (apply br_nE; (exact rfl); all_goals intro hc) | (refine mm_min ?_) | (refine mm_max ?_) | (refine rem_i ?_ ?_; omega) | (refine SelN.mk ?_) | (refine cut_n ?_) | (refine Both.mk ?_ ?_) | (exact True.intro))
          exact ⟨rfl, (by first | exact ent_i | (repeat (first | exact Ent.refl | exact Ent.left | refine Ent.cons ?_ | refine Ent.app ?_)))⟩
end
end Go.Proofs.YtiimndcifcoofaaGreatDoor
namespace Go.Proofs.YtiimndcifcoofaaGreatDoor
open Go Go.RowKit
set_option maxRecDepth 10000
set_option maxHeartbeats 4000000
theorem call_be {α : Type} {enc : α → List Value} {sz : Nat} {l : List α} {W0 : World} {own : Own} {P : Program} {k k0 : FuncId} {args args0 : List Value} {T : TypeId} {K : Value → Own → Prop} (h : Spec P W0 k0 args0 own fun v own' => ∃ a cap D, v = .slice a l.length cap ∧ BufE enc T sz a cap l D ∧ Ent W0 own' (D ++ own))
    (ek : k = k0) (ea : args = args0) (hk : ∀ a cap D, BufE enc T sz a cap l D → K (.slice a l.length cap) (D ++ own)) : CallT P W0 own k args K := by
  subst ek; subst ea; exact call_b h hk
end Go.Proofs.YtiimndcifcoofaaGreatDoor
namespace Go.Proofs.YtiimndcifcoofaaGreatDoor
open Go Go.RowKit
set_option maxRecDepth 10000
set_option maxHeartbeats 4000000
section
variable {W0 : World} {own : Own}
theorem next_y {b : Nat} {s : ByteArray} {pos r n : Nat} {K : Value → Own → Prop} {C : (Obj → Prop) → Own} [m : UpC b (fun o => o = Obj.stringIter s pos) own C] (h : pos < s.size) (hd : Utf8.decode s pos = (r, n)) (hk : K (.tuple #[.bool true, .int .i64 pos, .int .i32 r]) (C (fun o => o = Obj.stringIter s (pos + n)))) : NextT W0 own b K :=
  ⟨s, pos, (m.h (fun _ => True)).mem, fun _ => ⟨_, m.h _, by rw [hd]; exact hk⟩, fun hn => absurd h hn⟩
theorem next_n {b : Nat} {s : ByteArray} {pos : Nat} {K : Value → Own → Prop} {C : (Obj → Prop) → Own} [m : UpC b (fun o => o = Obj.stringIter s pos) own C] (h : ¬ pos < s.size) (hk : K (.tuple #[.bool false]) own) : NextT W0 own b K :=
  ⟨s, pos, (m.h (fun _ => True)).mem, fun hp => absurd hp h, fun _ => hk⟩
theorem cell_lt {w : World} {a : Addr} {v : Value} (h : w.cell? a = some v) : a.block < w.heap.size := by
  rcases Nat.lt_or_ge a.block w.heap.size with h' | h'
  · exact h'
  · unfold World.cell? at h
    rw [Array.getElem?_eq_none h'] at h
    simp at h
theorem sp_join {a : Option Addr} {l : List ByteArray} {c : Nat} {sep : ByteArray} {D : Own} (hB : BufE encS 9 1 a c l D) [me : EntC own D] (hne : l ≠ []) (hc : l.length ≤ 140737488355328)
    (hj : (Go.Lib.join (l.map (·.data.toList)) sep.data.toList).length ≤ 140737488355328) : Pure Tryz.prog W0 37 [.slice a l.length c, .string sep] own (.string ⟨(Go.Lib.join (l.map (·.data.toList)) sep.data.toList).toArray⟩) := fun w hw => by
  have hR : RdE encS 1 W0 own a l := hB.rd.ent (me.h W0)
  rcases hB.how with ⟨h, _, _⟩ | ⟨b, rest, rfl, _, _, hle⟩
  · exact absurd h hne
  · have hcell : ∀ (j : Nat) x, l[j]? = some x → w.cell? ⟨b, 0 + j, none⟩ = some (.string x) := fun j x hx => by
      have := hR.cell (k := 0) (v := .string x) hx rfl w hw
      rw [show ao (some (⟨b, 0, none⟩ : Addr)) + j * 1 + 0 = 0 + j by show 0 + j * 1 + 0 = 0 + j; omega] at this
      exact this
    have hlt : b < w.heap.size := by
      cases l with
      | nil => exact absurd rfl hne
      | cons x r => exact cell_lt (hcell 0 x rfl)
    refine (shelf_strings_Join b 0 c l sep w hcell hlt hc hle hj).mono ?_
    rintro e w' ⟨rfl, hb⟩
    exact ⟨rfl, hw.below hb⟩
end
end Go.Proofs.YtiimndcifcoofaaGreatDoor
