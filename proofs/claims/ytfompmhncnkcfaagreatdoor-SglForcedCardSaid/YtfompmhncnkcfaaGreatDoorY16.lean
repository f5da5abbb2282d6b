/- What the laws share, part 16. No condition. -/
import Derived.Test.YtfompmhncnkcfaaGreatDoorY15
namespace Go.Proofs.YtfompmhncnkcfaaGreatDoor
open Go Go.RowKit
set_option maxRecDepth 10000
set_option maxHeartbeats 4000000
section
variable {W0 : World} {own : Own} {a : Option Addr} {cap : Nat} {p : List Ins}
theorem sp_span (hR : RdE Ins.enc 5 W0 own a p) (hl : p.length ≤ 1099511627776) (t : Nat) :
    Pure Tryz.prog W0 67 [.slice a p.length cap, .int .i64 t] own (.tuple #[.int .i64 (span p t).1, .int .i64 (span p t).2]) := by
  refine pure_of (spec_of mixed low_ref06_Span (by simp [ir_ref06_Span]) ?_)
  unfold span
  generalize hres : spanL p.length t p 0 (-1) = res
  skip
  refine loop_c (σ := Nat × Int) (fun s => [(7, .int .i64 s.1), (6, .int .i64 s.2)]) (fun s => s.1 ≤ p.length ∧ (s.2 = -1 ∨ (0 ≤ s.2 ∧ s.2 < s.1)) ∧ spanL p.length t (p.drop s.1) s.1 s.2 = res) (fun s => p.length - s.1) (0, -1) ⟨by simp, by simp, hres⟩ (by repeat' (first | exact True.intro | refine And.intro ?_ ?_ | exact rfl | exact vi (by omega) | (dsimp only; exact rfl) | (dsimp only; exact vi (by omega)))) rfl ?_
  rintro ⟨k, b⟩ junk ⟨hk, hb, hI⟩
  simp only [] at hk hb hI
  by_cases hlt : k < p.length
  · obtain ⟨x, hx⟩ : ∃ x, p[k]? = some x := ⟨_, List.getElem?_eq_getElem hlt⟩
    rw [drop_at hx, spanL] at hI
    by_cases h7 : b < 0 ∧ x.op = 7
    · rw [if_pos h7] at hI
      repeat' ((try (conv => whnf)); first | (refine when_ye ?_ ?_; exact rfl) | (apply br_pyE; (exact rfl); omega) | (apply when_pyE; (exact rfl); omega) | ((with_reducible show Ld _ _ _ _); first | (refine ldE0 hR hx rfl ?_)) | ((with_reducible show IxS _ _ _ _ _); first | ((refine ixE hR hx ?_ ?_; (first | rfl | omega)))) | (refine ari ?_ ?_; omega))
      all_goals exact ⟨(k + 1, (k : Int)), ⟨by simp; omega, by simp; omega, hI⟩, by simp; omega, (by repeat' (first | exact True.intro | refine And.intro ?_ ?_ | exact rfl | exact vi (by omega) | (dsimp only; exact rfl) | (dsimp only; exact vi (by omega)))), (by first | exact ent_i | (repeat (first | exact Ent.refl | exact Ent.left | refine Ent.cons ?_ | refine Ent.app ?_)))⟩
    · rw [if_neg h7] at hI
      by_cases h8 : 0 ≤ b ∧ x.op = 8
      · rw [if_pos h8] at hI
        by_cases hin : b ≤ t ∧ t ≤ k
        · rw [if_pos hin] at hI
          repeat' ((try (conv => whnf)); first | (refine when_ye ?_ ?_; exact rfl) | (refine when_ne ?_ ?_; exact rfl) | (refine br_fe ?_ ?_; exact rfl) | (apply br_pyE; (exact rfl); omega) | (apply when_pyE; (exact rfl); omega) | (apply when_pnE; (exact rfl); omega) | ((with_reducible show Ld _ _ _ _); first | (refine ldE0 hR hx rfl ?_)) | ((with_reducible show IxS _ _ _ _ _); first | ((refine ixE hR hx ?_ ?_; (first | rfl | omega)))))
          all_goals (rw [← hI]; exact ⟨rfl, (by first | exact ent_i | (repeat (first | exact Ent.refl | exact Ent.left | refine Ent.cons ?_ | refine Ent.app ?_)))⟩)
        · rw [if_neg hin] at hI
          repeat' ((try (conv => whnf)); first | (refine when_ye ?_ ?_; exact rfl) | (refine when_ne ?_ ?_; exact rfl) | (refine br_fe ?_ ?_; exact rfl) | (apply br_pyE; (exact rfl); omega) | (apply br_pnE; (exact rfl); omega) | (apply when_pyE; (exact rfl); omega) | (apply when_pnE; (exact rfl); omega) | ((with_reducible show Ld _ _ _ _); first | (refine ldE0 hR hx rfl ?_)) | ((with_reducible show IxS _ _ _ _ _); first | ((refine ixE hR hx ?_ ?_; (first | rfl | omega)))) | (refine ari ?_ ?_; omega) | (apply when_dE; (exact rfl); (exact rfl); all_goals intro hc))
          all_goals exact ⟨(k + 1, -1), ⟨by simp; omega, by simp, hI⟩, by simp; omega, (by repeat' (first | exact True.intro | refine And.intro ?_ ?_ | exact rfl | exact vi (by omega) | (dsimp only; exact rfl) | (dsimp only; exact vi (by omega)))), (by first | exact ent_i | (repeat (first | exact Ent.refl | exact Ent.left | refine Ent.cons ?_ | refine Ent.app ?_)))⟩
      · rw [if_neg h8] at hI
        repeat' ((try (conv => whnf)); first | (refine when_ye ?_ ?_; exact rfl) | (refine when_ne ?_ ?_; exact rfl) | (refine br_fe ?_ ?_; exact rfl) | (apply br_pyE; (exact rfl); omega) | (apply br_pnE; (exact rfl); omega) | (apply when_pyE; (exact rfl); omega) | (apply when_pnE; (exact rfl); omega) | ((with_reducible show Ld _ _ _ _); first | (refine ldE0 hR hx rfl ?_)) | ((with_reducible show IxS _ _ _ _ _); first | ((refine ixE hR hx ?_ ?_; (first | rfl | omega)))) | (refine ari ?_ ?_; omega) | (apply when_dE; (exact rfl); (exact rfl); all_goals intro hc))
        all_goals exact ⟨(k + 1, b), ⟨by simp; omega, by simp; omega, hI⟩, by simp; omega, (by repeat' (first | exact True.intro | refine And.intro ?_ ?_ | exact rfl | exact vi (by omega) | (dsimp only; exact rfl) | (dsimp only; exact vi (by omega)))), (by first | exact ent_i | (repeat (first | exact Ent.refl | exact Ent.left | refine Ent.cons ?_ | refine Ent.app ?_)))⟩
  · have hk' : k = p.length := by omega
    subst hk'
    rw [List.drop_length, spanL] at hI
    by_cases h0 : 0 ≤ b ∧ b ≤ t ∧ t < p.length
    · rw [if_pos h0] at hI
      repeat' ((try (conv => whnf)); first | (refine when_ye ?_ ?_; exact rfl) | (apply br_pyE; (exact rfl); omega) | (apply br_pnE; (exact rfl); omega) | (apply when_pyE; (exact rfl); omega))
      all_goals (rw [← hI]; exact ⟨rfl, (by first | exact ent_i | (repeat (first | exact Ent.refl | exact Ent.left | refine Ent.cons ?_ | refine Ent.app ?_)))⟩)
    · rw [if_neg h0] at hI
      repeat' ((try (conv => whnf)); first | (refine when_ye ?_ ?_; exact rfl) | (refine when_ne ?_ ?_; exact rfl) | (refine br_fe ?_ ?_; exact rfl) | (apply br_pnE; (exact rfl); omega) | (apply when_dE; (exact rfl); (exact rfl); all_goals intro hc))
      all_goals (rw [← hI]; exact ⟨rfl, (by first | exact ent_i | (repeat (first | exact Ent.refl | exact Ent.left | refine Ent.cons ?_ | refine Ent.app ?_)))⟩)
theorem sp_reaches (hR : RdE Ins.enc 5 W0 own a p) (hl : p.length ≤ 1099511627776) (k t : Nat) :
    Pure Tryz.prog W0 77 [.slice a p.length cap, .int .i64 k, .int .i64 t] own (.bool (reachesM p k t)) := by
  refine pure_of (spec_of mixed low_ref06_reaches (by simp [ir_ref06_reaches]) ?_)
  have hs := fun t => sp_span (cap := cap) hR hl t
  unfold reachesM
  by_cases h1 : p.length < t
  · rw [if_pos h1]
    repeat' ((try (conv => whnf)); first | (apply br_pyE; (exact rfl); omega))
    all_goals exact ⟨rfl, (by first | exact ent_i | (repeat (first | exact Ent.refl | exact Ent.left | refine Ent.cons ?_ | refine Ent.app ?_)))⟩
  · rw [if_neg h1]
    by_cases h2 : 0 ≤ (span p k).1
    · rw [if_pos h2]
      repeat' ((try (conv => whnf)); first | (apply br_pyE; (exact rfl); omega) | (apply br_pnE; (exact rfl); omega) | ((with_reducible show CallT _ _ _ _ _ _); first | ((refine call_pe (hs k) ?_ ?_ ?_; (exact rfl); exact rfl))) | (apply sel; exact rfl))
      all_goals exact ⟨rfl, (by first | exact ent_i | (repeat (first | exact Ent.refl | exact Ent.left | refine Ent.cons ?_ | refine Ent.app ?_)))⟩
    · rw [if_neg h2]
      by_cases h3 : (span p t).1 < 0
      · repeat' ((try (conv => whnf)); first | (refine when_ne ?_ ?_; exact rfl) | (apply br_pnE; (exact rfl); omega) | (apply when_pyE; (exact rfl); omega) | ((with_reducible show CallT _ _ _ _ _ _); first | ((refine call_pe (hs k) ?_ ?_ ?_; (exact rfl); exact rfl)) | ((refine call_pe (hs t) ?_ ?_ ?_; (exact rfl); exact rfl))) | (apply sel; exact rfl))
        all_goals exact ⟨ret1 (vb (by symm; rw [decide_eq_true_eq]; exact .inl h3)), (by first | exact ent_i | (repeat (first | exact Ent.refl | exact Ent.left | refine Ent.cons ?_ | refine Ent.app ?_)))⟩
      · repeat' ((try (conv => whnf)); first | (refine when_ye ?_ ?_; exact rfl) | (apply br_pnE; (exact rfl); omega) | (apply when_pnE; (exact rfl); omega) | ((with_reducible show CallT _ _ _ _ _ _); first | ((refine call_pe (hs k) ?_ ?_ ?_; (exact rfl); exact rfl)) | ((refine call_pe (hs t) ?_ ?_ ?_; (exact rfl); exact rfl))) | (apply sel; exact rfl))
        all_goals (refine ⟨ret1 (vb ?_), (by first | exact ent_i | (repeat (first | exact Ent.refl | exact Ent.left | refine Ent.cons ?_ | refine Ent.app ?_)))⟩; exact dd ⟨fun h => .inr h, fun h => h.elim (fun h => absurd h h3) id⟩)
theorem sp_rpcheck (hR : RdE Ins.enc 5 W0 own a p) :
    Pure Tryz.prog W0 50 [.slice a p.length cap] own (.tuple #[.int .i64 (checkR p).1, .int .i64 (checkR p).2]) := by
  refine pure_of (spec_of mixed low_ref06_Check (by simp [ir_ref06_Check]) ?_)
  unfold checkR
  by_cases h64 : 64 < p.length
  · rw [if_pos h64]
    repeat' ((try (conv => whnf)); first | (apply br_pyE; (exact rfl); omega))
    all_goals first | exact ⟨rfl, (by first | exact ent_i | (repeat (first | exact Ent.refl | exact Ent.left | refine Ent.cons ?_ | refine Ent.app ?_)))⟩ | (exfalso; omega)
  · rw [if_neg h64]
    generalize hres : checkG (fun k _ x => rtargetM p k x) p 0 (-1) = res
    repeat' ((try (conv => whnf)); first | (apply br_pnE; (exact rfl); omega))
    refine loop_c (σ := Nat × Int) (fun s => [(5, .int .i64 s.1), (4, .int .i64 s.2)]) (fun s => s.1 ≤ p.length ∧ (s.2 = -1 ∨ (0 ≤ s.2 ∧ s.2 < s.1)) ∧ checkG (fun k _ x => rtargetM p k x) (p.drop s.1) s.1 s.2 = res) (fun s => p.length - s.1) (0, -1) ⟨by simp, by simp, hres⟩ (by repeat' (first | exact True.intro | refine And.intro ?_ ?_ | exact rfl | exact vi (by omega) | (dsimp only; exact rfl) | (dsimp only; exact vi (by omega)))) rfl ?_
    rintro ⟨k, b⟩ junk ⟨hk, hb, hI⟩
    simp only [] at hk hb hI
    by_cases hlt : k < p.length
    · obtain ⟨x, hx⟩ : ∃ x, p[k]? = some x := ⟨_, List.getElem?_eq_getElem hlt⟩
      rw [drop_at hx, checkG] at hI
      have hc := fun own => sp_rcheck W0 own x
      have hp := fun own => sp_rplace W0 own x
      have hs := fun own => sp_rskips W0 own x
      have hre := fun (t : Nat) (own' : Own) (h : Ent W0 own' own) => sp_reaches (cap := cap) (hR.ent h) (by omega) k t
      have hnb : nextB x k b = -1 ∨ (0 ≤ nextB x k b ∧ nextB x k b < (k + 1 : Nat)) := by unfold nextB; (repeat' split) <;> omega
      have hso := fun h => skips_op (x := x) h
      have hsi : iskips x = true → iskip x = x.imm := fun h => by unfold iskip; rw [h]; rfl
      unfold oneX rtargetM at hI
      generalize icheck x = z at *
      generalize iplace x = q at *
      by_cases hz : z = 0
      · subst hz
        simp only [ne_eq, not_true_eq_false, if_false] at hI
        by_cases h40 : (x.op = 7 ∧ 0 ≤ b) ∨ (x.op = 8 ∧ b < 0)
        · rw [if_pos h40] at hI
          repeat' ((try (conv => whnf)); first | (refine when_ye ?_ ?_; exact rfl) | (refine when_ne ?_ ?_; exact rfl) | (refine br_te ?_ ?_; exact rfl) | (refine br_fe ?_ ?_; exact rfl) | (apply br_pyE; (exact rfl); omega) | (apply when_pyE; (exact rfl); omega) | ((with_reducible show IxS _ _ _ _ _); first | ((refine ixE hR hx ?_ ?_; (first | rfl | omega)))) | ((with_reducible show LdN _ _ _ _ _); first | (refine ldNEi hR hx rfl ?_)) | ((with_reducible show CallT _ _ _ _ _ _); first | ((refine call_pe (hc _) ?_ ?_ ?_; (exact rfl); exact rfl))) | (apply ld_o; exact rfl) | (apply ldN_a; exact rfl) | (apply stN_o; (exact rfl); (exact rfl); exact rfl) | (refine new_i (fun bk hbk => ?_)) | (apply when_dE; (exact rfl); (exact rfl); all_goals intro hc))
          all_goals (rw [← hI]; exact ⟨rfl, (by first | exact ent_i | (repeat (first | exact Ent.refl | exact Ent.left | refine Ent.cons ?_ | refine Ent.app ?_)))⟩)
        · rw [if_neg h40] at hI
          by_cases h41 : (q = 1 ∧ b < 0) ∨ (q = 2 ∧ 0 ≤ b)
          · rw [if_pos h41] at hI
            repeat' ((try (conv => whnf)); first | (refine when_ye ?_ ?_; exact rfl) | (refine when_ne ?_ ?_; exact rfl) | (refine br_te ?_ ?_; exact rfl) | (refine br_fe ?_ ?_; exact rfl) | (apply br_pyE; (exact rfl); omega) | (apply br_pnE; (exact rfl); omega) | (apply when_pyE; (exact rfl); omega) | (apply when_pnE; (exact rfl); omega) | ((with_reducible show IxS _ _ _ _ _); first | ((refine ixE hR hx ?_ ?_; (first | rfl | omega)))) | ((with_reducible show LdN _ _ _ _ _); first | (refine ldNEi hR hx rfl ?_)) | ((with_reducible show CallT _ _ _ _ _ _); first | ((refine call_pe (hc _) ?_ ?_ ?_; (exact rfl); exact rfl)) | ((refine call_pe (hp _) ?_ ?_ ?_; (exact rfl); exact rfl))) | (apply ld_o; exact rfl) | (apply ldN_a; exact rfl) | (apply stN_o; (exact rfl); (exact rfl); exact rfl) | (refine new_i (fun bk hbk => ?_)) | (apply when_dE; (exact rfl); (exact rfl); all_goals intro hc))
            all_goals (rw [← hI]; exact ⟨rfl, (by first | exact ent_i | (repeat (first | exact Ent.refl | exact Ent.left | refine Ent.cons ?_ | refine Ent.app ?_)))⟩)
          · rw [if_neg h41] at hI
            cases hsk : iskips x
            · rw [hsk] at hs hI
              simp only [Bool.false_eq_true, if_false, not_true_eq_false] at hI
              unfold nextB at hI hnb
              by_cases h7 : x.op = 7
              · rw [if_pos h7] at hI hnb
                repeat' ((try (conv => whnf)); first | (refine when_ye ?_ ?_; exact rfl) | (refine when_ne ?_ ?_; exact rfl) | (refine br_fe ?_ ?_; exact rfl) | (apply br_pyE; (exact rfl); omega) | (apply br_pnE; (exact rfl); omega) | (apply when_pyE; (exact rfl); omega) | (apply when_pnE; (exact rfl); omega) | ((with_reducible show IxS _ _ _ _ _); first | ((refine ixE hR hx ?_ ?_; (first | rfl | omega)))) | ((with_reducible show LdN _ _ _ _ _); first | (refine ldNEi hR hx rfl ?_)) | ((with_reducible show CallT _ _ _ _ _ _); first | ((refine call_pe (hc _) ?_ ?_ ?_; (exact rfl); exact rfl)) | ((refine call_pe (hp _) ?_ ?_ ?_; (exact rfl); exact rfl)) | ((refine call_pe (hs _) ?_ ?_ ?_; (exact rfl); exact rfl))) | (refine ari ?_ ?_; omega) | (apply sel; exact rfl) | (apply ld_o; exact rfl) | (apply ldN_a; exact rfl) | (apply stN_o; (exact rfl); (exact rfl); exact rfl) | (refine new_i (fun bk hbk => ?_)) | (apply when_dE; (exact rfl); (exact rfl); all_goals intro hc))
                all_goals exact ⟨(k + 1, (k : Int)), ⟨by simp; omega, hnb, hI⟩, by simp; omega, (by repeat' (first | exact True.intro | refine And.intro ?_ ?_ | exact rfl | exact vi (by omega) | (dsimp only; exact rfl) | (dsimp only; exact vi (by omega)))), (by first | exact ent_i | (repeat (first | exact Ent.refl | exact Ent.left | refine Ent.cons ?_ | refine Ent.app ?_)))⟩
              · by_cases h8 : x.op = 8
                · rw [if_neg h7, if_pos h8] at hI hnb
                  repeat' ((try (conv => whnf)); first | (refine when_ye ?_ ?_; exact rfl) | (refine when_ne ?_ ?_; exact rfl) | (refine br_fe ?_ ?_; exact rfl) | (apply br_pyE; (exact rfl); omega) | (apply br_pnE; (exact rfl); omega) | (apply when_pyE; (exact rfl); omega) | (apply when_pnE; (exact rfl); omega) | ((with_reducible show IxS _ _ _ _ _); first | ((refine ixE hR hx ?_ ?_; (first | rfl | omega)))) | ((with_reducible show LdN _ _ _ _ _); first | (refine ldNEi hR hx rfl ?_)) | ((with_reducible show CallT _ _ _ _ _ _); first | ((refine call_pe (hc _) ?_ ?_ ?_; (exact rfl); exact rfl)) | ((refine call_pe (hp _) ?_ ?_ ?_; (exact rfl); exact rfl)) | ((refine call_pe (hs _) ?_ ?_ ?_; (exact rfl); exact rfl))) | (refine ari ?_ ?_; omega) | (apply sel; exact rfl) | (apply ld_o; exact rfl) | (apply ldN_a; exact rfl) | (apply stN_o; (exact rfl); (exact rfl); exact rfl) | (refine new_i (fun bk hbk => ?_)) | (apply when_dE; (exact rfl); (exact rfl); all_goals intro hc))
                  all_goals exact ⟨(k + 1, -1), ⟨by simp; omega, hnb, hI⟩, by simp; omega, (by repeat' (first | exact True.intro | refine And.intro ?_ ?_ | exact rfl | exact vi (by omega) | (dsimp only; exact rfl) | (dsimp only; exact vi (by omega)))), (by first | exact ent_i | (repeat (first | exact Ent.refl | exact Ent.left | refine Ent.cons ?_ | refine Ent.app ?_)))⟩
                · rw [if_neg h7, if_neg h8] at hI hnb
                  repeat' ((try (conv => whnf)); first | (refine when_ye ?_ ?_; exact rfl) | (refine when_ne ?_ ?_; exact rfl) | (refine br_fe ?_ ?_; exact rfl) | (apply br_pyE; (exact rfl); omega) | (apply br_pnE; (exact rfl); omega) | (apply when_pnE; (exact rfl); omega) | ((with_reducible show IxS _ _ _ _ _); first | ((refine ixE hR hx ?_ ?_; (first | rfl | omega)))) | ((with_reducible show LdN _ _ _ _ _); first | (refine ldNEi hR hx rfl ?_)) | ((with_reducible show CallT _ _ _ _ _ _); first | ((refine call_pe (hc _) ?_ ?_ ?_; (exact rfl); exact rfl)) | ((refine call_pe (hp _) ?_ ?_ ?_; (exact rfl); exact rfl)) | ((refine call_pe (hs _) ?_ ?_ ?_; (exact rfl); exact rfl))) | (refine ari ?_ ?_; omega) | (apply sel; exact rfl) | (apply ld_o; exact rfl) | (apply ldN_a; exact rfl) | (apply stN_o; (exact rfl); (exact rfl); exact rfl) | (refine new_i (fun bk hbk => ?_)) | (apply when_dE; (exact rfl); (exact rfl); all_goals intro hc))
                  all_goals exact ⟨(k + 1, b), ⟨by simp; omega, hnb, hI⟩, by simp; omega, (by repeat' (first | exact True.intro | refine And.intro ?_ ?_ | exact rfl | exact vi (by omega) | (dsimp only; exact rfl) | (dsimp only; exact vi (by omega)))), (by first | exact ent_i | (repeat (first | exact Ent.refl | exact Ent.left | refine Ent.cons ?_ | refine Ent.app ?_)))⟩
            · obtain ⟨hop, hi0, hi1⟩ := hso hsk
              rw [hsk, hsi hsk] at hs
              rw [hsk] at hI
              simp only [if_true] at hI
              obtain ⟨t, ht⟩ : ∃ t : Nat, (t : Int) = k + 1 + x.imm := ⟨k + 1 + x.imm.toNat, by omega⟩
              have ht' : k + 1 + x.imm.toNat = t := by omega
              rw [ht'] at hI
              have hre' := hre t
              rw [ht] at hre'
              have h7 : ¬ x.op = 7 := by omega
              have h8 : ¬ x.op = 8 := by omega
              cases hv : reachesM p k t
              · rw [hv] at hI hre'
                simp only [Bool.false_eq_true, if_false, Int.reduceEq, not_false_eq_true, if_true] at hI
                repeat' ((try (conv => whnf)); first | (refine when_ye ?_ ?_; exact rfl) | (refine when_ne ?_ ?_; exact rfl) | (refine br_te ?_ ?_; exact rfl) | (refine br_fe ?_ ?_; exact rfl) | (apply br_pyE; (exact rfl); omega) | (apply br_pnE; (exact rfl); omega) | (apply when_pnE; (exact rfl); omega) | ((with_reducible show IxS _ _ _ _ _); first | ((refine ixE hR hx ?_ ?_; (first | rfl | omega)))) | ((with_reducible show LdN _ _ _ _ _); first | (refine ldNEi hR hx rfl ?_)) | ((with_reducible show CallT _ _ _ _ _ _); first | ((refine call_pe (hc _) ?_ ?_ ?_; (exact rfl); exact rfl)) | ((refine call_pe (hp _) ?_ ?_ ?_; (exact rfl); exact rfl)) | ((refine call_pe (hs _) ?_ ?_ ?_; (exact rfl); exact rfl)) | ((refine call_pe (hre' _ ent_i) ?_ ?_ ?_; (exact rfl); exact rfl))) | (refine ari ?_ ?_; omega) | (apply sel; exact rfl) | (apply ld_o; exact rfl) | (apply ldN_a; exact rfl) | (apply stN_o; (exact rfl); (exact rfl); exact rfl) | (refine new_i (fun bk hbk => ?_)) | (apply when_dE; (exact rfl); (exact rfl); all_goals intro hc))
                all_goals (rw [← hI]; exact ⟨rfl, (by first | exact ent_i | (repeat (first | exact Ent.refl | exact Ent.left | refine Ent.cons ?_ | refine Ent.app ?_)))⟩)
              · rw [hv] at hI hre'
                simp only [if_true, not_true_eq_false, if_false] at hI
                unfold nextB at hI hnb
                rw [if_neg h7, if_neg h8] at hI hnb
                repeat' ((try (conv => whnf)); first | (refine when_ye ?_ ?_; exact rfl) | (refine when_ne ?_ ?_; exact rfl) | (refine br_fe ?_ ?_; exact rfl) | (apply br_pyE; (exact rfl); omega) | (apply br_pnE; (exact rfl); omega) | (apply when_pnE; (exact rfl); omega) | ((with_reducible show IxS _ _ _ _ _); first | ((refine ixE hR hx ?_ ?_; (first | rfl | omega)))) | ((with_reducible show LdN _ _ _ _ _); first | (refine ldNEi hR hx rfl ?_)) | ((with_reducible show CallT _ _ _ _ _ _); first | ((refine call_pe (hc _) ?_ ?_ ?_; (exact rfl); exact rfl)) | ((refine call_pe (hp _) ?_ ?_ ?_; (exact rfl); exact rfl)) | ((refine call_pe (hs _) ?_ ?_ ?_; (exact rfl); exact rfl)) | ((refine call_pe (hre' _ ent_i) ?_ ?_ ?_; (exact rfl); exact rfl))) | (refine ari ?_ ?_; omega) | (apply sel; exact rfl) | (apply ld_o; exact rfl) | (apply ldN_a; exact rfl) | (apply stN_o; (exact rfl); (exact rfl); exact rfl) | (refine new_i (fun bk hbk => ?_)) | (apply when_dE; (exact rfl); (exact rfl); all_goals intro hc))
                all_goals exact ⟨(k + 1, b), ⟨by simp; omega, hnb, hI⟩, by simp; omega, (by repeat' (first | exact True.intro | refine And.intro ?_ ?_ | exact rfl | exact vi (by omega) | (dsimp only; exact rfl) | (dsimp only; exact vi (by omega)))), (by first | exact ent_i | (repeat (first | exact Ent.refl | exact Ent.left | refine Ent.cons ?_ | refine Ent.app ?_)))⟩
      · rw [if_pos (by rw [if_pos hz]; exact hz), if_pos hz] at hI
        repeat' ((try (conv => whnf)); first | (apply br_pyE; (exact rfl); omega) | ((with_reducible show IxS _ _ _ _ _); first | ((refine ixE hR hx ?_ ?_; (first | rfl | omega)))) | ((with_reducible show LdN _ _ _ _ _); first | (refine ldNEi hR hx rfl ?_)) | ((with_reducible show CallT _ _ _ _ _ _); first | ((refine call_pe (hc _) ?_ ?_ ?_; (exact rfl); exact rfl))) | (apply ldN_a; exact rfl) | (apply stN_o; (exact rfl); (exact rfl); exact rfl) | (refine new_i (fun bk hbk => ?_)))
        all_goals (rw [← hI]; exact ⟨rfl, (by first | exact ent_i | (repeat (first | exact Ent.refl | exact Ent.left | refine Ent.cons ?_ | refine Ent.app ?_)))⟩)
    · have hk' : k = p.length := by omega
      subst hk'
      rw [List.drop_length, checkG] at hI
      rw [← hI]
      repeat' ((try (conv => whnf)); first | (apply br_pnE; (exact rfl); omega) | (apply br_dE; (exact rfl); all_goals intro hc))
      all_goals (refine ⟨ret2 (vi ?_) (vi ?_), (by first | exact ent_i | (repeat (first | exact Ent.refl | exact Ent.left | refine Ent.cons ?_ | refine Ent.app ?_)))⟩ <;> split <;> first | rfl | (exfalso; omega))
end
end Go.Proofs.YtfompmhncnkcfaaGreatDoor
namespace Go.Proofs.YtfompmhncnkcfaaGreatDoor
open Go
set_option maxRecDepth 10000
structure Cfg where
  words : Int
  orecs : Int
  base : Int
  c0 : Int
  c1 : Int
  c2 : Int
  c3 : Int
  reads : Int
  writes : Int
  allocs : Int
  frees : Int
  clock : Int
  strong : Bool
def Cfg.cs (c : Cfg) : Array Value := #[.int .i64 c.words, .int .i64 c.orecs, .int .i64 c.base, .int .i64 c.c0, .int .i64 c.c1, .int .i64 c.c2, .int .i64 c.c3, .int .i64 c.reads, .int .i64 c.writes, .int .i64 c.allocs, .int .i64 c.frees, .int .i64 c.clock, .bool c.strong]
def Cfg.v (c : Cfg) : Value := .agg c.cs
def okW (c : Cfg) : Prop := 1 ≤ c.words ∧ c.words ≤ 64 ∧ 1 ≤ c.orecs ∧ c.orecs ≤ 64
def okC (c : Cfg) : Prop := 0 ≤ c.c0 ∧ c.c0 ≤ 64 ∧ 0 ≤ c.c1 ∧ c.c1 ≤ 64 ∧ 0 ≤ c.c2 ∧ c.c2 ≤ 64 ∧ 0 ≤ c.c3 ∧ c.c3 ≤ 64
def nB (c : Cfg) : Int := c.c0 + c.c1 + c.c2 + c.c3
def nW (c : Cfg) : Int := c.c0 + c.c1 * 2 + c.c2 * 4 + c.c3 * 8
def okH (c : Cfg) : Prop := okC c ∧ nB c ≤ 64 ∧ 0 ≤ c.base ∧ c.base ≤ c.words ∧ c.base + nW c ≤ c.words
def okL (c : Cfg) : Prop := 1 ≤ c.reads ∧ c.reads ≤ 32 ∧ 1 ≤ c.writes ∧ c.writes ≤ 32 ∧ 0 ≤ c.allocs ∧ c.allocs ≤ 8 ∧ 0 ≤ c.frees ∧ c.frees ≤ 8
def okK (c : Cfg) : Prop := 0 ≤ c.clock ∧ c.clock ≤ 1099511627776
instance (c : Cfg) : Decidable (okW c) := by unfold okW; exact inferInstance
instance (c : Cfg) : Decidable (okC c) := by unfold okC; exact inferInstance
instance (c : Cfg) : Decidable (okH c) := by unfold okH; exact inferInstance
instance (c : Cfg) : Decidable (okL c) := by unfold okL; exact inferInstance
instance (c : Cfg) : Decidable (okK c) := by unfold okK; exact inferInstance
def checkM (c : Cfg) : Int := if okW c then if okH c then if okL c then if okK c then 0 else 53 else 52 else 51 else 50
theorem cm50 {c : Cfg} (h1 : ¬okW c) : 50 = checkM c := by simp [checkM, h1]
theorem cm51 {c : Cfg} (h1 : okW c) (h2 : ¬okH c) : 51 = checkM c := by simp [checkM, h1, h2]
theorem cm52 {c : Cfg} (h1 : okW c) (h2 : okH c) (h3 : ¬okL c) : 52 = checkM c := by simp [checkM, h1, h2, h3]
theorem cm53 {c : Cfg} (h1 : okW c) (h2 : okH c) (h3 : okL c) (h4 : ¬okK c) : 53 = checkM c := by simp [checkM, h1, h2, h3, h4]
theorem cm0 {c : Cfg} (h1 : okW c) (h2 : okH c) (h3 : okL c) (h4 : okK c) : 0 = checkM c := by simp [checkM, h1, h2, h3, h4]
def blocksM (c : Cfg) : Int := if checkM c = 0 then nB c else 0
theorem sp_within (W0 : World) (own : Own) (a b c : Int) : Pure Tryz.prog W0 55 [.int .i64 a, .int .i64 b, .int .i64 c] own (.bool (decide (b ≤ a ∧ a ≤ c))) := by
  refine pure_of (spec_of mixed low_layout_within (by simp [ir_layout_within]) ?_)
  repeat' ((try (conv => whnf)); first | (refine when_y ?_) | (refine when_ft ?_) | (refine when_dt (fun hc => ?_) (fun hc => ?_)))
  all_goals (refine ⟨ret1 (vb ?_), by (repeat (first | exact Ent.refl | exact Ent.left | refine Ent.cons ?_ | refine Ent.app ?_))⟩; (first | rfl | (refine dd ?_; omega) | (refine df ?_; omega) | (refine dt ?_; omega) | (refine dn ?_; omega)))
theorem sp_rwithin (W0 : World) (own : Own) (a b c : Int) : Pure Tryz.prog W0 73 [.int .i64 a, .int .i64 b, .int .i64 c] own (.bool (decide (b ≤ a ∧ a ≤ c))) := by
  refine pure_of (spec_of mixed low_ref07_within (by simp [ir_ref07_within]) ?_)
  repeat' ((try (conv => whnf)); first | (refine when_y ?_) | (refine when_ft ?_) | (refine when_dt (fun hc => ?_) (fun hc => ?_)))
  all_goals (refine ⟨ret1 (vb ?_), by (repeat (first | exact Ent.refl | exact Ent.left | refine Ent.cons ?_ | refine Ent.app ?_))⟩; (first | rfl | (refine dd ?_; omega) | (refine df ?_; omega) | (refine dt ?_; omega) | (refine dn ?_; omega)))
theorem sp_heap (W0 : World) (own : Own) (c : Cfg) : Pure Tryz.prog W0 80 [c.v] own
    (.tuple #[.int .i64 (if okC c then nB c else 0), .int .i64 (if okC c then nW c else 0), .bool (decide (okC c ∧ nB c ≤ 64))]) := by
  refine pure_of (spec_of mixed low_layout_heap (by simp [ir_layout_heap]) ?_)
  repeat' ((try (conv => whnf)); first | (refine loop_r 5 ?_) | (refine when_y ?_) | (refine when_tf ?_) | (refine br_t ?_) | (refine br_f ?_) | (refine ari ?_ ?_; omega) | (apply sel; exact rfl) | (refine ix0 rfl ?_) | (refine ix1 rfl ?_) | (refine ix2 rfl ?_) | (refine ix3 rfl ?_) | (apply ldN_own; (first | (solve | repeat (first | with_reducible exact List.mem_cons_self | (with_reducible (apply List.mem_append_left; exact List.mem_cons_self)) | with_reducible apply List.mem_cons_of_mem | with_reducible apply List.mem_append_right)) | (repeat (first | exact List.Mem.head _ | apply List.Mem.tail | apply List.mem_append_right))); exact rfl; exact rfl) | (refine new_i (fun bk hbk => ?_)) | (refine when_df (fun hc => ?_) (fun hc => ?_)) | (refine br_d (fun hc => ?_) (fun hc => ?_)) | (refine shl0 ?_ ?_; omega) | (refine shl1 ?_ ?_; omega) | (refine shl2 ?_ ?_; omega) | (refine shl3 ?_ ?_; omega))
  all_goals
    refine ⟨ret3 (vi ?_) (vi ?_) (vb ?_), by (repeat (first | exact Ent.refl | exact Ent.left | refine Ent.cons ?_ | refine Ent.app ?_))⟩
    · (try simp only [okC, nB]); (first | rfl | omega | (split <;> omega) | (split <;> split <;> omega))
    · (try simp only [okC, nW]); (first | rfl | omega | (split <;> omega) | (split <;> split <;> omega))
    · (try simp only [okC, nB]); (first | rfl | (refine dd ?_; omega) | (refine df ?_; omega) | (refine dt ?_; omega) | (refine dn ?_; omega))
theorem sp_heap_y (W0 : World) (own : Own) (c : Cfg) (h : okC c) : Pure Tryz.prog W0 80 [c.v] own (.tuple #[.int .i64 (nB c), .int .i64 (nW c), .bool (decide (nB c ≤ 64))]) := by
  have := sp_heap W0 own c
  simpa [h] using this
theorem sp_heap_n (W0 : World) (own : Own) (c : Cfg) (h : ¬okC c) : Pure Tryz.prog W0 80 [c.v] own (.tuple #[.int .i64 0, .int .i64 0, .bool false]) := by
  have := sp_heap W0 own c
  simpa [h] using this
theorem sp_check (W0 : World) (own : Own) (c : Cfg) : Pure Tryz.prog W0 54 [c.v] own (.int .i64 (checkM c)) := by
  refine pure_of (spec_of mixed low_layout_Check (by simp [ir_layout_Check]) ?_)
  by_cases hc : okC c
  · have hc' := hc
    unfold okC at hc'
    repeat' ((try (conv => whnf)); first | (apply call_p (sp_within _ _ _ _ _)) | (apply call_p (sp_heap_y _ _ c hc)) | (refine when_y ?_) | (refine when_tf ?_) | (refine br_t ?_) | (refine ari ?_ ?_; omega) | (apply sel; exact rfl) | (apply ld_own; (first | (solve | repeat (first | with_reducible exact List.mem_cons_self | (with_reducible (apply List.mem_append_left; exact List.mem_cons_self)) | with_reducible apply List.mem_cons_of_mem | with_reducible apply List.mem_append_right)) | (repeat (first | exact List.Mem.head _ | apply List.Mem.tail | apply List.mem_append_right))); exact rfl) | (apply ldN_all; (first | (solve | repeat (first | with_reducible exact List.mem_cons_self | (with_reducible (apply List.mem_append_left; exact List.mem_cons_self)) | with_reducible apply List.mem_cons_of_mem | with_reducible apply List.mem_append_right)) | (repeat (first | exact List.Mem.head _ | apply List.Mem.tail | apply List.mem_append_right))); exact rfl) | (refine new_i (fun bk hbk => ?_)) | (refine when_ndf (fun hc => ?_) (fun hc => ?_)) | (refine br_d (fun hc => ?_) (fun hc => ?_)) | (refine br_nd (fun hc => ?_) (fun hc => ?_)))
    all_goals (refine ⟨ret1 (vi ?_), by (repeat (first | exact Ent.refl | exact Ent.left | refine Ent.cons ?_ | refine Ent.app ?_))⟩; (try unfold nB at *); (try unfold nW at *))
    all_goals first | exact cm50 (by unfold okW; omega) | exact cm51 (by unfold okW; omega) (by unfold okH okC nB nW; omega) | exact cm52 (by unfold okW; omega) (by unfold okH okC nB nW; omega) (by unfold okL; omega) | exact cm53 (by unfold okW; omega) (by unfold okH okC nB nW; omega) (by unfold okL; omega) (by unfold okK; omega) | exact cm0 (by unfold okW; omega) (by unfold okH okC nB nW; omega) (by unfold okL; omega) (by unfold okK; omega)
  · repeat' ((try (conv => whnf)); first | (apply call_p (sp_within _ _ _ _ _)) | (apply call_p (sp_heap_n _ _ c hc)) | (refine when_y ?_) | (refine when_tf ?_) | (refine br_t ?_) | (apply sel; exact rfl) | (apply ld_own; (first | (solve | repeat (first | with_reducible exact List.mem_cons_self | (with_reducible (apply List.mem_append_left; exact List.mem_cons_self)) | with_reducible apply List.mem_cons_of_mem | with_reducible apply List.mem_append_right)) | (repeat (first | exact List.Mem.head _ | apply List.Mem.tail | apply List.mem_append_right))); exact rfl) | (apply ldN_all; (first | (solve | repeat (first | with_reducible exact List.mem_cons_self | (with_reducible (apply List.mem_append_left; exact List.mem_cons_self)) | with_reducible apply List.mem_cons_of_mem | with_reducible apply List.mem_append_right)) | (repeat (first | exact List.Mem.head _ | apply List.Mem.tail | apply List.mem_append_right))); exact rfl) | (refine new_i (fun bk hbk => ?_)) | (refine when_ndf (fun hc => ?_) (fun hc => ?_)) | (refine br_nd (fun hc => ?_) (fun hc => ?_)))
    all_goals (refine ⟨ret1 (vi ?_), by (repeat (first | exact Ent.refl | exact Ent.left | refine Ent.cons ?_ | refine Ent.app ?_))⟩; (try unfold okC at *))
    all_goals first | exact cm50 (by unfold okW; omega) | exact cm51 (by unfold okW; omega) (by unfold okH okC nB nW; omega) | exact cm52 (by unfold okW; omega) (by unfold okH okC nB nW; omega) (by unfold okL; omega) | exact cm53 (by unfold okW; omega) (by unfold okH okC nB nW; omega) (by unfold okL; omega) (by unfold okK; omega) | exact cm0 (by unfold okW; omega) (by unfold okH okC nB nW; omega) (by unfold okL; omega) (by unfold okK; omega)
theorem sp_rlcheck (W0 : World) (own : Own) (c : Cfg) : Pure Tryz.prog W0 49 [c.v] own (.int .i64 (checkM c)) := by
  refine pure_of (spec_of mixed low_ref07_Check (by simp [ir_ref07_Check]) ?_)
  repeat' ((try (conv => whnf)); first | (apply call_p (sp_rwithin _ _ _ _ _)) | (refine loop_r 5 ?_) | (refine when_y ?_) | (refine when_tf ?_) | (refine br_t ?_) | (refine br_f ?_) | (refine ari ?_ ?_; omega) | (refine ix0 rfl ?_) | (refine ix1 rfl ?_) | (refine ix2 rfl ?_) | (refine ix3 rfl ?_) | (apply ld_own; (first | (solve | repeat (first | with_reducible exact List.mem_cons_self | (with_reducible (apply List.mem_append_left; exact List.mem_cons_self)) | with_reducible apply List.mem_cons_of_mem | with_reducible apply List.mem_append_right)) | (repeat (first | exact List.Mem.head _ | apply List.Mem.tail | apply List.mem_append_right))); exact rfl) | (refine new_i (fun bk hbk => ?_)) | (refine when_df (fun hc => ?_) (fun hc => ?_)) | (refine when_ndf (fun hc => ?_) (fun hc => ?_)) | (refine br_d (fun hc => ?_) (fun hc => ?_)) | (refine br_nd (fun hc => ?_) (fun hc => ?_)) | (refine shl0 ?_ ?_; omega) | (refine shl1 ?_ ?_; omega) | (refine shl2 ?_ ?_; omega) | (refine shl3 ?_ ?_; omega))
  all_goals refine ⟨ret1 (vi ?_), by (repeat (first | exact Ent.refl | exact Ent.left | refine Ent.cons ?_ | refine Ent.app ?_))⟩
  all_goals first | exact cm50 (by unfold okW; omega) | exact cm51 (by unfold okW; omega) (by unfold okH okC nB nW; omega) | exact cm52 (by unfold okW; omega) (by unfold okH okC nB nW; omega) (by unfold okL; omega) | exact cm53 (by unfold okW; omega) (by unfold okH okC nB nW; omega) (by unfold okL; omega) (by unfold okK; omega) | exact cm0 (by unfold okW; omega) (by unfold okH okC nB nW; omega) (by unfold okL; omega) (by unfold okK; omega)
theorem check_ok {c : Cfg} (h : checkM c = 0) : okW c ∧ okH c ∧ okL c ∧ okK c := by
  unfold checkM at h
  split at h
  · split at h
    · split at h
      · split at h
        · exact ⟨by assumption, by assumption, by assumption, by assumption⟩
        · omega
      · omega
    · omega
  · omega
theorem check_bd {c : Cfg} (h : checkM c = 0) : 1 ≤ c.words ∧ c.words ≤ 64 ∧ 1 ≤ c.orecs ∧ c.orecs ≤ 64 ∧ 0 ≤ c.c0 ∧ 0 ≤ c.c1 ∧ 0 ≤ c.c2 ∧ 0 ≤ c.c3 ∧ c.c0 + c.c1 + c.c2 + c.c3 ≤ 64 ∧ 0 ≤ c.base ∧ c.base + (c.c0 + c.c1 * 2 + c.c2 * 4 + c.c3 * 8) ≤ c.words := by
  obtain ⟨h1, h2, _, _⟩ := check_ok h
  unfold okW at h1
  unfold okH okC nB nW at h2
  omega
theorem sp_blocks (W0 : World) (own : Own) (c : Cfg) : Pure Tryz.prog W0 129 [c.v] own (.int .i64 (blocksM c)) := by
  refine pure_of (spec_of mixed low_layout_Blocks (by simp [ir_layout_Blocks]) ?_)
  by_cases h0 : checkM c = 0
  · have hC : okC c := (check_ok h0).2.1.1
    repeat' ((try (conv => whnf)); first | (apply call_p (sp_check _ _ c)) | (apply call_p (sp_heap_y _ _ c hC)) | (apply sel; exact rfl) | (apply ldN_all; (first | (solve | repeat (first | with_reducible exact List.mem_cons_self | (with_reducible (apply List.mem_append_left; exact List.mem_cons_self)) | with_reducible apply List.mem_cons_of_mem | with_reducible apply List.mem_append_right)) | (repeat (first | exact List.Mem.head _ | apply List.Mem.tail | apply List.mem_append_right))); exact rfl) | (refine new_i (fun bk hbk => ?_)) | (refine br_d (fun hc => ?_) (fun hc => ?_)))
    all_goals first | (exfalso; omega) | (refine ⟨ret1 (vi ?_), by (repeat (first | exact Ent.refl | exact Ent.left | refine Ent.cons ?_ | refine Ent.app ?_))⟩; simp only [blocksM, h0, if_true])
  · repeat' ((try (conv => whnf)); first | (apply call_p (sp_check _ _ c)) | (apply ldN_all; (first | (solve | repeat (first | with_reducible exact List.mem_cons_self | (with_reducible (apply List.mem_append_left; exact List.mem_cons_self)) | with_reducible apply List.mem_cons_of_mem | with_reducible apply List.mem_append_right)) | (repeat (first | exact List.Mem.head _ | apply List.Mem.tail | apply List.mem_append_right))); exact rfl) | (refine new_i (fun bk hbk => ?_)) | (refine br_d (fun hc => ?_) (fun hc => ?_)))
    all_goals first | (exfalso; omega) | (refine ⟨ret1 (vi ?_), by (repeat (first | exact Ent.refl | exact Ent.left | refine Ent.cons ?_ | refine Ent.app ?_))⟩; simp only [blocksM, h0, if_false])
theorem sp_rblocks (W0 : World) (own : Own) (c : Cfg) : Pure Tryz.prog W0 35 [c.v] own (.int .i64 (blocksM c)) := by
  refine pure_of (spec_of mixed low_ref07_Blocks (by simp [ir_ref07_Blocks]) ?_)
  by_cases h0 : checkM c = 0
  · have hb := check_bd h0
    repeat' ((try (conv => whnf)); first | (apply call_p (sp_rlcheck _ _ c)) | (refine ari ?_ ?_; omega) | (refine ix0 rfl ?_) | (refine ix1 rfl ?_) | (refine ix2 rfl ?_) | (refine ix3 rfl ?_) | (apply ld_own; (first | (solve | repeat (first | with_reducible exact List.mem_cons_self | (with_reducible (apply List.mem_append_left; exact List.mem_cons_self)) | with_reducible apply List.mem_cons_of_mem | with_reducible apply List.mem_append_right)) | (repeat (first | exact List.Mem.head _ | apply List.Mem.tail | apply List.mem_append_right))); exact rfl) | (apply ldN_all; (first | (solve | repeat (first | with_reducible exact List.mem_cons_self | (with_reducible (apply List.mem_append_left; exact List.mem_cons_self)) | with_reducible apply List.mem_cons_of_mem | with_reducible apply List.mem_append_right)) | (repeat (first | exact List.Mem.head _ | apply List.Mem.tail | apply List.mem_append_right))); exact rfl) | (refine new_i (fun bk hbk => ?_)) | (refine br_d (fun hc => ?_) (fun hc => ?_)))
    all_goals first | (exfalso; omega) | (refine ⟨ret1 (vi ?_), by (repeat (first | exact Ent.refl | exact Ent.left | refine Ent.cons ?_ | refine Ent.app ?_))⟩; simp only [blocksM, h0, if_true, nB])
  · repeat' ((try (conv => whnf)); first | (apply call_p (sp_rlcheck _ _ c)) | (refine ari ?_ ?_; omega) | (refine ix0 rfl ?_) | (refine ix1 rfl ?_) | (refine ix2 rfl ?_) | (refine ix3 rfl ?_) | (apply ld_own; (first | (solve | repeat (first | with_reducible exact List.mem_cons_self | (with_reducible (apply List.mem_append_left; exact List.mem_cons_self)) | with_reducible apply List.mem_cons_of_mem | with_reducible apply List.mem_append_right)) | (repeat (first | exact List.Mem.head _ | apply List.Mem.tail | apply List.mem_append_right))); exact rfl) | (apply ldN_all; (first | (solve | repeat (first | with_reducible exact List.mem_cons_self | (with_reducible (apply List.mem_append_left; exact List.mem_cons_self)) | with_reducible apply List.mem_cons_of_mem | with_reducible apply List.mem_append_right)) | (repeat (first | exact List.Mem.head _ | apply List.Mem.tail | apply List.mem_append_right))); exact rfl) | (refine new_i (fun bk hbk => ?_)) | (refine br_d (fun hc => ?_) (fun hc => ?_)))
    all_goals first | (exfalso; omega) | (refine ⟨ret1 (vi ?_), by (repeat (first | exact Ent.refl | exact Ent.left | refine Ent.cons ?_ | refine Ent.app ?_))⟩; simp only [blocksM, h0, if_false])
def classM (c : Cfg) (b : Int) : Int :=
  if checkM c = 0 ∧ 0 ≤ b then if b < c.c0 then 0 else if b < c.c0 + c.c1 then 1 else if b < c.c0 + c.c1 + c.c2 then 2 else if b < c.c0 + c.c1 + c.c2 + c.c3 then 3 else -1 else -1
def firstM (c : Cfg) (b : Int) : Int :=
  if checkM c = 0 ∧ 0 ≤ b then if b < c.c0 then c.base + b else if b < c.c0 + c.c1 then c.base + c.c0 + (b - c.c0) * 2
    else if b < c.c0 + c.c1 + c.c2 then c.base + c.c0 + c.c1 * 2 + (b - c.c0 - c.c1) * 4 else if b < c.c0 + c.c1 + c.c2 + c.c3 then c.base + c.c0 + c.c1 * 2 + c.c2 * 4 + (b - c.c0 - c.c1 - c.c2) * 8 else -1 else -1
theorem sp_locate (W0 : World) (own : Own) (c : Cfg) (b : Int) (hb : -9223372036854775808 ≤ b ∧ b ≤ 9223372036854775807) :
    Pure Tryz.prog W0 131 [c.v, .int .i64 b] own (.tuple #[.int .i64 (classM c b), .int .i64 (firstM c b)]) := by
  refine pure_of (spec_of mixed low_layout_locate (by simp [ir_layout_locate]) ?_)
  by_cases h0 : checkM c = 0 ∧ 0 ≤ b
  · have hbd := check_bd h0.1
    repeat' ((try (conv => whnf)); first | (apply call_p (sp_check _ _ c)) | (refine loop_r 5 ?_) | (refine when_y ?_) | (refine when_tf ?_) | (refine br_t ?_) | (refine br_f ?_) | (refine ari ?_ ?_; omega) | (apply sel; exact rfl) | (refine ix0 rfl ?_) | (refine ix1 rfl ?_) | (refine ix2 rfl ?_) | (refine ix3 rfl ?_) | (apply ld_own; (first | (solve | repeat (first | with_reducible exact List.mem_cons_self | (with_reducible (apply List.mem_append_left; exact List.mem_cons_self)) | with_reducible apply List.mem_cons_of_mem | with_reducible apply List.mem_append_right)) | (repeat (first | exact List.Mem.head _ | apply List.Mem.tail | apply List.mem_append_right))); exact rfl) | (apply ldN_all; (first | (solve | repeat (first | with_reducible exact List.mem_cons_self | (with_reducible (apply List.mem_append_left; exact List.mem_cons_self)) | with_reducible apply List.mem_cons_of_mem | with_reducible apply List.mem_append_right)) | (repeat (first | exact List.Mem.head _ | apply List.Mem.tail | apply List.mem_append_right))); exact rfl) | (apply ldN_own; (first | (solve | repeat (first | with_reducible exact List.mem_cons_self | (with_reducible (apply List.mem_append_left; exact List.mem_cons_self)) | with_reducible apply List.mem_cons_of_mem | with_reducible apply List.mem_append_right)) | (repeat (first | exact List.Mem.head _ | apply List.Mem.tail | apply List.mem_append_right))); exact rfl; exact rfl) | (refine new_i (fun bk hbk => ?_)) | (refine when_df (fun hc => ?_) (fun hc => ?_)) | (refine br_d (fun hc => ?_) (fun hc => ?_)) | (refine shl0 ?_ ?_; omega) | (refine shl1 ?_ ?_; omega) | (refine shl2 ?_ ?_; omega) | (refine shl3 ?_ ?_; omega))
    all_goals first | (exfalso; omega) | refine ⟨ret2 (vi ?_) (vi ?_), by (repeat (first | exact Ent.refl | exact Ent.left | refine Ent.cons ?_ | refine Ent.app ?_))⟩
    all_goals (simp only [classM, firstM, h0, if_true, and_self]; repeat' (first | omega | (rw [if_pos (by omega)]) | (rw [if_neg (by omega)])))
  · repeat' ((try (conv => whnf)); first | (apply call_p (sp_check _ _ c)) | (refine when_y ?_) | (refine when_tf ?_) | (refine br_t ?_) | (apply ld_own; (first | (solve | repeat (first | with_reducible exact List.mem_cons_self | (with_reducible (apply List.mem_append_left; exact List.mem_cons_self)) | with_reducible apply List.mem_cons_of_mem | with_reducible apply List.mem_append_right)) | (repeat (first | exact List.Mem.head _ | apply List.Mem.tail | apply List.mem_append_right))); exact rfl) | (apply ldN_all; (first | (solve | repeat (first | with_reducible exact List.mem_cons_self | (with_reducible (apply List.mem_append_left; exact List.mem_cons_self)) | with_reducible apply List.mem_cons_of_mem | with_reducible apply List.mem_append_right)) | (repeat (first | exact List.Mem.head _ | apply List.Mem.tail | apply List.mem_append_right))); exact rfl) | (apply ldN_own; (first | (solve | repeat (first | with_reducible exact List.mem_cons_self | (with_reducible (apply List.mem_append_left; exact List.mem_cons_self)) | with_reducible apply List.mem_cons_of_mem | with_reducible apply List.mem_append_right)) | (repeat (first | exact List.Mem.head _ | apply List.Mem.tail | apply List.mem_append_right))); exact rfl; exact rfl) | (refine new_i (fun bk hbk => ?_)) | (refine when_df (fun hc => ?_) (fun hc => ?_)) | (refine br_d (fun hc => ?_) (fun hc => ?_)))
    all_goals first | (exfalso; omega) | refine ⟨ret2 (vi ?_) (vi ?_), by (repeat (first | exact Ent.refl | exact Ent.left | refine Ent.cons ?_ | refine Ent.app ?_))⟩
    all_goals simp only [classM, firstM, h0, if_false]
theorem sp_class (W0 : World) (own : Own) (c : Cfg) (b : Int) (hb : -9223372036854775808 ≤ b ∧ b ≤ 9223372036854775807) :
    Pure Tryz.prog W0 121 [c.v, .int .i64 b] own (.int .i64 (classM c b)) := by
  refine pure_of (spec_of mixed low_layout_Class (by simp [ir_layout_Class]) ?_)
  repeat' ((try (conv => whnf)); first | (apply call_p (sp_locate _ _ c b hb)) | (apply sel; exact rfl) | (apply ldN_all; (first | (solve | repeat (first | with_reducible exact List.mem_cons_self | (with_reducible (apply List.mem_append_left; exact List.mem_cons_self)) | with_reducible apply List.mem_cons_of_mem | with_reducible apply List.mem_append_right)) | (repeat (first | exact List.Mem.head _ | apply List.Mem.tail | apply List.mem_append_right))); exact rfl) | (refine new_i (fun bk hbk => ?_)) | (exact Ent.refl) | (refine Ent.cons ?_) | (refine And.intro rfl ?_))
  all_goals exact ⟨rfl, by (repeat (first | exact Ent.refl | exact Ent.left | refine Ent.cons ?_ | refine Ent.app ?_))⟩
theorem sp_first (W0 : World) (own : Own) (c : Cfg) (b : Int) (hb : -9223372036854775808 ≤ b ∧ b ≤ 9223372036854775807) :
    Pure Tryz.prog W0 130 [c.v, .int .i64 b] own (.int .i64 (firstM c b)) := by
  refine pure_of (spec_of mixed low_layout_First (by simp [ir_layout_First]) ?_)
  repeat' ((try (conv => whnf)); first | (apply call_p (sp_locate _ _ c b hb)) | (apply sel; exact rfl) | (apply ldN_all; (first | (solve | repeat (first | with_reducible exact List.mem_cons_self | (with_reducible (apply List.mem_append_left; exact List.mem_cons_self)) | with_reducible apply List.mem_cons_of_mem | with_reducible apply List.mem_append_right)) | (repeat (first | exact List.Mem.head _ | apply List.Mem.tail | apply List.mem_append_right))); exact rfl) | (refine new_i (fun bk hbk => ?_)) | (exact Ent.refl) | (refine Ent.cons ?_) | (refine And.intro rfl ?_))
  all_goals exact ⟨rfl, by (repeat (first | exact Ent.refl | exact Ent.left | refine Ent.cons ?_ | refine Ent.app ?_))⟩
theorem blocks_bd (c : Cfg) : 0 ≤ blocksM c ∧ blocksM c ≤ 64 := by
  unfold blocksM
  split
  · have := check_bd (by assumption)
    unfold nB
    omega
  · omega
theorem blocks_pos {c : Cfg} {b : Int} (h0 : 0 ≤ b) (h : b < blocksM c) : checkM c = 0 ∧ b < c.c0 + c.c1 + c.c2 + c.c3 := by
  unfold blocksM at h
  split at h
  · exact ⟨by assumption, h⟩
  · omega
theorem first_bd {c : Cfg} {b : Int} (h0 : 0 ≤ b) (h : b < blocksM c) : 0 ≤ firstM c b ∧ firstM c b < 64 := by
  have hp := blocks_pos h0 h
  have hb := check_bd hp.1
  simp only [firstM, hp.1, h0, and_self, if_true]
  repeat' split
  all_goals omega
def findG (c : Cfg) (a : Int) : Nat → Int → Int
  | 0, _ => -1
  | n + 1, k => if firstM c k = a then k else findG c a n (k + 1)
def lfindM (c : Cfg) (a : Int) : Int := findG c a (blocksM c).toNat 0
theorem sp_find (W0 : World) (own : Own) (c : Cfg) (a : Int) : Pure Tryz.prog W0 120 [c.v, .int .u64 a] own (.int .i64 (lfindM c a)) := by
  refine pure_of (spec_of mixed low_layout_Find (by simp [ir_layout_Find]) ?_)
  have hB := blocks_bd c
  repeat' ((try (conv => whnf)); first | (apply call_p (sp_blocks _ _ c)) | (apply ldN_all; (first | (solve | repeat (first | with_reducible exact List.mem_cons_self | (with_reducible (apply List.mem_append_left; exact List.mem_cons_self)) | with_reducible apply List.mem_cons_of_mem | with_reducible apply List.mem_append_right)) | (repeat (first | exact List.Mem.head _ | apply List.Mem.tail | apply List.mem_append_right))); exact rfl) | (refine new_i (fun bk hbk => ?_)))
  refine loop_c (σ := Int) (fun k => [(8, .int .i64 k)]) (fun k => 0 ≤ k ∧ k ≤ blocksM c ∧ findG c a (blocksM c - k).toNat k = lfindM c a) (fun k => (blocksM c - k).toNat) 0 ⟨by omega, by omega, by simp [lfindM]⟩ (by repeat' (first | exact True.intro | refine And.intro ?_ ?_ | exact rfl | exact vi (by omega) | (dsimp only; exact rfl) | (dsimp only; exact vi (by omega)))) rfl ?_
  rintro k junk ⟨hk0, hk1, hk⟩
  by_cases hlt : k < blocksM c
  · have hf := first_bd hk0 hlt
    have e : (blocksM c - k).toNat = (blocksM c - (k + 1)).toNat + 1 := by omega
    rw [e, findG] at hk
    repeat' ((try (conv => whnf)); first | (apply call_p (sp_first _ _ c k (by omega))) | (refine ari ?_ ?_; omega) | (refine aru ?_ ?_; omega) | (apply ldN_all; (first | (solve | repeat (first | with_reducible exact List.mem_cons_self | (with_reducible (apply List.mem_append_left; exact List.mem_cons_self)) | with_reducible apply List.mem_cons_of_mem | with_reducible apply List.mem_append_right)) | (repeat (first | exact List.Mem.head _ | apply List.Mem.tail | apply List.mem_append_right))); exact rfl) | (refine br_d (fun hc => ?_) (fun hc => ?_)))
    · rw [if_pos (by assumption)] at hk
      exact ⟨ret1 (vi hk), by (repeat (first | exact Ent.refl | exact Ent.left | refine Ent.cons ?_ | refine Ent.app ?_))⟩
    · rw [if_neg (by assumption)] at hk
      exact ⟨k + 1, ⟨by omega, by omega, hk⟩, by omega, (by repeat' (first | exact True.intro | refine And.intro ?_ ?_ | exact rfl | exact vi (by omega) | (dsimp only; exact rfl) | (dsimp only; exact vi (by omega)))), Ent.refl⟩
    · omega
  · repeat' ((try (conv => whnf)); first | (apply call_p (sp_first _ _ c k (by omega))) | (refine ari ?_ ?_; omega) | (refine aru ?_ ?_; omega) | (apply ldN_all; (first | (solve | repeat (first | with_reducible exact List.mem_cons_self | (with_reducible (apply List.mem_append_left; exact List.mem_cons_self)) | with_reducible apply List.mem_cons_of_mem | with_reducible apply List.mem_append_right)) | (repeat (first | exact List.Mem.head _ | apply List.Mem.tail | apply List.mem_append_right))); exact rfl) | (refine br_d (fun hc => ?_) (fun hc => ?_)))
    · omega
    · omega
    · have e : (blocksM c - k).toNat = 0 := by omega
      rw [e, findG] at hk
      exact ⟨ret1 (vi hk), by (repeat (first | exact Ent.refl | exact Ent.left | refine Ent.cons ?_ | refine Ent.app ?_))⟩
end Go.Proofs.YtfompmhncnkcfaaGreatDoor
