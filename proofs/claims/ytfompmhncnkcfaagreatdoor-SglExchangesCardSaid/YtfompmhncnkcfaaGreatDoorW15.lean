/- What the laws share, part 15. No condition. -/
import Derived.Test.YtfompmhncnkcfaaGreatDoorW14
namespace Go.Proofs.YtfompmhncnkcfaaGreatDoor
open Go
set_option maxRecDepth 10000
set_option maxHeartbeats 4000000
theorem stN_and' {W0 : World} {own : Own} {a : Addr} {vs : List Value} {n : Nat} {K : Own → Prop} (h : vs.length = n) (h2 : StN W0 own a vs K) : vs.length = n ∧ StN W0 own a vs K := ⟨h, h2⟩
section
variable {W0 : World} {own : Own} {a : Option Addr} {cap : Nat} {p : List Ins}
theorem sp_end (hR : RdE Ins.enc 5 W0 own a p) (hl : p.length ≤ 1099511627776) (b : Nat) (hb : b + 1 ≤ p.length) : Pure Tryz.prog W0 86 [.slice a p.length cap, .int .i64 b] own (.int .i64 (endM p b)) := by
  refine pure_of (spec_of mixed low_program_end (by simp [ir_program_end]) ?_)
  repeat' ((try (conv => whnf)); first | (refine ari ?_ ?_; omega))
  refine loop_c (σ := Nat) (fun k => [(5, .int .i64 k)]) (fun k => k ≤ p.length ∧ endL (p.drop k) k = endM p b) (fun k => p.length - k) (b + 1) ⟨by omega, rfl⟩ (by repeat' (first | exact True.intro | refine And.intro ?_ ?_ | exact rfl | exact vi (by omega) | (dsimp only; exact rfl) | (dsimp only; exact vi (by omega)))) rfl ?_
  rintro k junk ⟨hk, hI⟩
  by_cases hlt : k < p.length
  · obtain ⟨x, hx⟩ : ∃ x, p[k]? = some x := ⟨_, List.getElem?_eq_getElem hlt⟩
    rw [drop_at hx, endL] at hI
    repeat' ((try (conv => whnf)); first | (refine br_py (by omega) ?_) | ((with_reducible show Ld _ _ _ _); first | (refine ldE (k := 0) (RdE.ent hR ?_) hx ?_ rfl ?_; rotate_left; rfl; rotate_left; (solve | (repeat (first | exact Ent.refl | exact Ent.left | refine Ent.cons ?_ | refine Ent.app ?_))))) | ((with_reducible show IxS _ _ _ _ _); first | (refine ixE hR hx ?_ ?_; (first | rfl | omega))) | (refine ari ?_ ?_; omega) | (refine br_d (fun hc => ?_) (fun hc => ?_)))
    · rw [if_pos hc] at hI
      exact ⟨ret1 (vi (by rw [hI])), by (repeat (first | exact Ent.refl | exact Ent.left | refine Ent.cons ?_ | refine Ent.app ?_))⟩
    · rw [if_neg hc] at hI
      exact ⟨k + 1, ⟨by omega, hI⟩, by omega, (by repeat' (first | exact True.intro | refine And.intro ?_ ?_ | exact rfl | exact vi (by omega) | (dsimp only; exact rfl) | (dsimp only; exact vi (by omega)))), Ent.refl⟩
  · have hk' : k = p.length := by omega
    subst hk'
    rw [List.drop_length, endL] at hI
    repeat' ((try (conv => whnf)); first | (refine br_pn (by omega) ?_))
    exact ⟨ret1 (vi (by rw [← hI])), by (repeat (first | exact Ent.refl | exact Ent.left | refine Ent.cons ?_ | refine Ent.app ?_))⟩
theorem sp_into (hR : RdE Ins.enc 5 W0 own a p) (hl : p.length ≤ 1099511627776) (k t : Nat) (ht : k + 1 ≤ t ∧ t ≤ p.length) :
    Pure Tryz.prog W0 116 [.slice a p.length cap, .int .i64 k, .int .i64 t] own (.bool (intoL p.length (p.drop (k + 1)) (k + 1) t)) := by
  refine pure_of (spec_of mixed low_program_into (by simp [ir_program_into]) ?_)
  repeat' ((try (conv => whnf)); first | (refine ari ?_ ?_; omega))
  refine loop_c (σ := Nat) (fun b => [(7, .int .i64 b)]) (fun b => b ≤ t ∧ intoL p.length (p.drop b) b t = intoL p.length (p.drop (k + 1)) (k + 1) t) (fun b => t - b) (k + 1) ⟨by omega, rfl⟩ (by repeat' (first | exact True.intro | refine And.intro ?_ ?_ | exact rfl | exact vi (by omega) | (dsimp only; exact rfl) | (dsimp only; exact vi (by omega)))) rfl ?_
  rintro b junk ⟨hb, hI⟩
  by_cases hlt : b < t
  · obtain ⟨x, hx⟩ : ∃ x, p[b]? = some x := ⟨_, List.getElem?_eq_getElem (by omega)⟩
    have hE := fun ex => sp_end (cap := cap) (hR.ent (Ent.app (A := ex) Ent.refl)) hl b (by omega)
    have he : endM p b = endL (p.drop (b + 1)) (b + 1) := rfl
    rw [drop_at hx, intoL, ← he] at hI
    have hge := endL_ge (p.drop (b + 1)) (b + 1)
    rw [← he, List.length_drop] at hge
    by_cases h7 : x.op = 7
    · by_cases hin : t ≤ endM p b ∧ t + 1 ≤ p.length
      · rw [decide_eq_true ⟨hlt, h7, hin.1, hin.2⟩, Bool.true_or] at hI
        repeat' ((try (conv => whnf)); first | (refine when_y ?_) | (refine br_py (by omega) ?_) | (refine when_py (by omega) ?_) | (refine call_p (hE []) ?_) | ((with_reducible show Ld _ _ _ _); first | (refine ldE (k := 0) (RdE.ent hR ?_) hx ?_ rfl ?_; rotate_left; rfl; rotate_left; (solve | (repeat (first | exact Ent.refl | exact Ent.left | refine Ent.cons ?_ | refine Ent.app ?_))))) | ((with_reducible show IxS _ _ _ _ _); first | (refine ixE hR hx ?_ ?_; (first | rfl | omega))) | (refine ari ?_ ?_; omega) | (refine mm_min ?_))
        all_goals first | exact ⟨ret1 (vb hI), by (repeat (first | exact Ent.refl | exact Ent.left | refine Ent.cons ?_ | refine Ent.app ?_))⟩ | (exfalso; omega)
      · rw [decide_eq_false (by omega), Bool.false_or] at hI
        repeat' ((try (conv => whnf)); first | (refine when_y ?_) | (refine br_py (by omega) ?_) | (refine br_pn (by omega) ?_) | (refine when_py (by omega) ?_) | (refine call_p (hE []) ?_) | ((with_reducible show Ld _ _ _ _); first | (refine ldE (k := 0) (RdE.ent hR ?_) hx ?_ rfl ?_; rotate_left; rfl; rotate_left; (solve | (repeat (first | exact Ent.refl | exact Ent.left | refine Ent.cons ?_ | refine Ent.app ?_))))) | ((with_reducible show IxS _ _ _ _ _); first | (refine ixE hR hx ?_ ?_; (first | rfl | omega))) | (refine ari ?_ ?_; omega) | (refine mm_min ?_))
        all_goals first | exact ⟨b + 1, ⟨by omega, hI⟩, by omega, (by repeat' (first | exact True.intro | refine And.intro ?_ ?_ | exact rfl | exact vi (by omega) | (dsimp only; exact rfl) | (dsimp only; exact vi (by omega)))), Ent.refl⟩ | (exfalso; omega)
    · rw [decide_eq_false (by omega), Bool.false_or] at hI
      repeat' ((try (conv => whnf)); first | (refine when_ft ?_) | (refine br_f ?_) | (refine br_py (by omega) ?_) | (refine when_pn (by omega) ?_) | ((with_reducible show Ld _ _ _ _); first | (refine ldE (k := 0) (RdE.ent hR ?_) hx ?_ rfl ?_; rotate_left; rfl; rotate_left; (solve | (repeat (first | exact Ent.refl | exact Ent.left | refine Ent.cons ?_ | refine Ent.app ?_))))) | ((with_reducible show IxS _ _ _ _ _); first | (refine ixE hR hx ?_ ?_; (first | rfl | omega))) | (refine ari ?_ ?_; omega))
      all_goals exact ⟨b + 1, ⟨by omega, hI⟩, by omega, (by repeat' (first | exact True.intro | refine And.intro ?_ ?_ | exact rfl | exact vi (by omega) | (dsimp only; exact rfl) | (dsimp only; exact vi (by omega)))), Ent.refl⟩
  · rw [intoL_le _ _ _ _ (by omega)] at hI
    repeat' ((try (conv => whnf)); first | (refine br_pn (by omega) ?_))
    exact ⟨ret1 (vb hI), by (repeat (first | exact Ent.refl | exact Ent.left | refine Ent.cons ?_ | refine Ent.app ?_))⟩
theorem sp_target (hF : FormsAt W0) (hR : RdE Ins.enc 5 W0 own a p) (hl : p.length ≤ 64) (k : Nat) (b : Int) (x : Ins) (hx : p[k]? = some x) (hb : b = -1 ∨ (0 ≤ b ∧ b < k)) :
    Pure Tryz.prog W0 98 [.slice a p.length cap, .int .i64 k, .int .i64 b] own (.int .i64 (targetM p k b x)) := by
  refine pure_of (spec_of mixed low_program_target (by simp [ir_program_target]) ?_)
  have hk := (List.getElem?_eq_some_iff.1 hx).1
  have hs := fun own => sp_iskips W0 own hF x
  unfold targetM
  cases hsk : iskips x
  · have hi : iskip x = 0 := by unfold iskip; rw [hsk]; rfl
    rw [hsk, hi] at hs
    repeat' ((try (conv => whnf)); first | (refine br_t ?_) | (apply call_p (hs _)) | ((with_reducible show IxS _ _ _ _ _); first | (refine ixE hR hx ?_ ?_; (first | rfl | omega))) | ((with_reducible show LdN _ _ _ _ _); first | (refine ldNE (RdE.ent hR ?_) hx ?_ ?_ ?_; rotate_left; rfl; rfl; rotate_left; (solve | (repeat (first | exact Ent.refl | exact Ent.left | refine Ent.cons ?_ | refine Ent.app ?_))))) | (apply sel; exact rfl))
    all_goals exact ⟨ret1 (vi (by simp)), by (repeat (first | exact Ent.refl | exact Ent.left | refine Ent.cons ?_ | refine Ent.app ?_))⟩
  · obtain ⟨hop, hi0, hi1⟩ := skips_op hsk
    have hi : iskip x = x.imm := by unfold iskip; rw [hsk]; rfl
    rw [hsk, hi] at hs
    simp only [if_true]
    generalize x.imm = m at *
    by_cases hlt : (p.length : Int) < k + 1 + m
    · rw [if_pos hlt]
      repeat' ((try (conv => whnf)); first | (refine br_f ?_) | (refine br_py (by omega) ?_) | (apply call_p (hs _)) | ((with_reducible show IxS _ _ _ _ _); first | (refine ixE hR hx ?_ ?_; (first | rfl | omega))) | ((with_reducible show LdN _ _ _ _ _); first | (refine ldNE (RdE.ent hR ?_) hx ?_ ?_ ?_; rotate_left; rfl; rfl; rotate_left; (solve | (repeat (first | exact Ent.refl | exact Ent.left | refine Ent.cons ?_ | refine Ent.app ?_))))) | (refine ari ?_ ?_; omega) | (apply sel; exact rfl))
      all_goals exact ⟨rfl, by (repeat (first | exact Ent.refl | exact Ent.left | refine Ent.cons ?_ | refine Ent.app ?_))⟩
    · rw [if_neg hlt]
      rcases hb with hb | ⟨hb0, hb1⟩
      · subst hb
        rw [if_neg (by omega)]
        obtain ⟨t, ht⟩ : ∃ t : Nat, (t : Int) = k + 1 + m := ⟨k + 1 + m.toNat, by omega⟩
        have ht' : k + 1 + m.toNat = t := by omega
        rw [ht']
        have hin := sp_into (cap := cap) hR (by omega) k t (by omega)
        rw [ht] at hin
        cases hv : intoL p.length (p.drop (k + 1)) (k + 1) t <;> rw [hv] at hin
        all_goals
          repeat' ((try (conv => whnf)); first | (refine when_y ?_) | (refine when_ft ?_) | (refine br_t ?_) | (refine br_f ?_) | (refine br_pn (by omega) ?_) | (apply call_p (hs _)) | (refine call_p hin ?_) | ((with_reducible show IxS _ _ _ _ _); first | (refine ixE hR hx ?_ ?_; (first | rfl | omega))) | ((with_reducible show LdN _ _ _ _ _); first | (refine ldNE (RdE.ent hR ?_) hx ?_ ?_ ?_; rotate_left; rfl; rfl; rotate_left; (solve | (repeat (first | exact Ent.refl | exact Ent.left | refine Ent.cons ?_ | refine Ent.app ?_))))) | (refine ari ?_ ?_; omega) | (apply sel; exact rfl))
          all_goals exact ⟨rfl, by (repeat (first | exact Ent.refl | exact Ent.left | refine Ent.cons ?_ | refine Ent.app ?_))⟩
      · rw [if_pos hb0]
        obtain ⟨b, rfl⟩ := Int.eq_ofNat_of_zero_le hb0
        simp only [Int.toNat_natCast]
        have hE := sp_end (cap := cap) hR (by omega) b (by omega)
        have hge := endL_ge (p.drop (b + 1)) (b + 1)
        have he : endM p b = endL (p.drop (b + 1)) (b + 1) := rfl
        rw [← he, List.length_drop] at hge
        repeat' ((try (conv => whnf)); first | (refine when_y ?_) | (refine when_ft ?_) | (refine br_f ?_) | (refine br_pn (by omega) ?_) | (apply call_p (hs _)) | (refine call_p hE ?_) | ((with_reducible show IxS _ _ _ _ _); first | (refine ixE hR hx ?_ ?_; (first | rfl | omega))) | ((with_reducible show LdN _ _ _ _ _); first | (refine ldNE (RdE.ent hR ?_) hx ?_ ?_ ?_; rotate_left; rfl; rfl; rotate_left; (solve | (repeat (first | exact Ent.refl | exact Ent.left | refine Ent.cons ?_ | refine Ent.app ?_))))) | (refine ari ?_ ?_; omega) | (apply sel; exact rfl) | (refine br_d (fun hc => ?_) (fun hc => ?_)))
        all_goals (refine ⟨ret1 (vi ?_), by (repeat (first | exact Ent.refl | exact Ent.left | refine Ent.cons ?_ | refine Ent.app ?_))⟩; first | (rw [if_pos (by omega)]; done) | (rw [if_neg (by omega)]; done) | (split <;> omega))
theorem sp_one (hF : FormsAt W0) (hR : RdE Ins.enc 5 W0 own a p) (hl : p.length ≤ 64) (k : Nat) (b : Int) (x : Ins) (hx : p[k]? = some x) (hb : b = -1 ∨ (0 ≤ b ∧ b < k)) :
    Pure Tryz.prog W0 81 [.slice a p.length cap, .int .i64 k, .int .i64 b] own (.int .i64 (oneX (targetM p k b x) b x)) := by
  refine pure_of (spec_of mixed low_program_one (by simp [ir_program_one]) ?_)
  have hk := (List.getElem?_eq_some_iff.1 hx).1
  have hc := fun own => sp_icheck W0 own hF x
  have hp := fun own => sp_iplace W0 own hF x
  have ht := sp_target (cap := cap) hF hR hl k b x hx hb
  generalize targetM p k b x = t at *
  unfold oneX
  generalize icheck x = z at *
  generalize iplace x = q at *
  repeat' ((try (conv => whnf)); first | (refine when_y ?_) | (refine when_ft ?_) | (refine br_f ?_) | (refine br_py (by omega) ?_) | (refine br_pn (by omega) ?_) | (refine when_pn (by omega) ?_) | (refine br_npy (by omega) ?_) | (refine br_npn (by omega) ?_) | (apply call_p (hc _)) | (apply call_p (hp _)) | (refine call_p ht ?_) | ((with_reducible show Ld _ _ _ _); first | (refine ldE (k := 0) (RdE.ent hR ?_) hx ?_ rfl ?_; rotate_left; rfl; rotate_left; (solve | (repeat (first | exact Ent.refl | exact Ent.left | refine Ent.cons ?_ | refine Ent.app ?_))))) | ((with_reducible show IxS _ _ _ _ _); first | (refine ixE hR hx ?_ ?_; (first | rfl | omega))) | ((with_reducible show LdN _ _ _ _ _); first | (refine ldNE (RdE.ent hR ?_) hx ?_ ?_ ?_; rotate_left; rfl; rfl; rotate_left; (solve | (repeat (first | exact Ent.refl | exact Ent.left | refine Ent.cons ?_ | refine Ent.app ?_))))) | (refine when_dt (fun hc => ?_) (fun hc => ?_)) | (refine br_d (fun hc => ?_) (fun hc => ?_)) | (refine br_nd (fun hc => ?_) (fun hc => ?_)))
  all_goals (refine ⟨ret1 (vi ?_), by (repeat (first | exact Ent.refl | exact Ent.left | refine Ent.cons ?_ | refine Ent.app ?_))⟩; (repeat' split) <;> first | rfl | (exfalso; omega) | omega)
theorem sp_pcheck (hF : FormsAt W0) (hR : RdE Ins.enc 5 W0 own a p) :
    Pure Tryz.prog W0 56 [.slice a p.length cap] own (.tuple #[.int .i64 (checkP p).1, .int .i64 (checkP p).2]) := by
  refine pure_of (spec_of mixed low_program_Check (by simp [ir_program_Check]) ?_)
  unfold checkP
  by_cases h64 : 64 < p.length
  · rw [if_pos h64]
    repeat' ((try (conv => whnf)); first | (refine br_py (by omega) ?_))
    all_goals first | exact ⟨rfl, by (repeat (first | exact Ent.refl | exact Ent.left | refine Ent.cons ?_ | refine Ent.app ?_))⟩ | (exfalso; omega)
  · rw [if_neg h64]
    generalize hres : checkG (targetM p) p 0 (-1) = res
    repeat' ((try (conv => whnf)); first | (refine br_pn (by omega) ?_))
    refine loop_c (σ := Nat × Int) (fun s => [(13, .int .i64 s.1), (4, .int .i64 s.2)]) (fun s => s.1 ≤ p.length ∧ (s.2 = -1 ∨ (0 ≤ s.2 ∧ s.2 < s.1)) ∧ checkG (targetM p) (p.drop s.1) s.1 s.2 = res) (fun s => p.length - s.1) (0, -1) ⟨by simp, by simp, hres⟩ (by repeat' (first | exact True.intro | refine And.intro ?_ ?_ | exact rfl | exact vi (by omega) | (dsimp only; exact rfl) | (dsimp only; exact vi (by omega)))) rfl ?_
    rintro ⟨k, b⟩ junk ⟨hk, hb, hI⟩
    simp only [] at hk hb hI
    by_cases hlt : k < p.length
    · obtain ⟨x, hx⟩ : ∃ x, p[k]? = some x := ⟨_, List.getElem?_eq_getElem hlt⟩
      rw [drop_at hx, checkG] at hI
      have ho := fun ex => sp_one (cap := cap) hF (hR.ent (Ent.app (A := ex) Ent.refl)) (by omega) k b x hx hb
      have hnb : nextB x k b = -1 ∨ (0 ≤ nextB x k b ∧ nextB x k b < (k + 1 : Nat)) := by unfold nextB; (repeat' split) <;> omega
      generalize hz : oneX (targetM p k b x) b x = z at *
      by_cases h0 : z = 0
      · rw [if_neg (by simpa using h0)] at hI
        unfold nextB at hI hnb
        subst h0
        by_cases h7 : x.op = 7
        · rw [if_pos h7] at hI hnb
          repeat' ((try (conv => whnf)); first | (refine br_f ?_) | (refine br_py (by omega) ?_) | (refine stN_and' rfl ?_) | (refine call_p (ho [_]) ?_) | ((with_reducible show IxS _ _ _ _ _); first | (refine ixE hR hx ?_ ?_; (first | rfl | omega))) | ((with_reducible show LdN _ _ _ _ _); first | (refine ldNE (RdE.ent hR ?_) hx ?_ ?_ ?_; rotate_left; rfl; rfl; rotate_left; (solve | (repeat (first | exact Ent.refl | exact Ent.left | refine Ent.cons ?_ | refine Ent.app ?_))))) | (refine ari ?_ ?_; omega) | (apply ld_own; (first | (solve | repeat (first | with_reducible exact List.mem_cons_self | (with_reducible (apply List.mem_append_left; exact List.mem_cons_self)) | with_reducible apply List.mem_cons_of_mem | with_reducible apply List.mem_append_right)) | (repeat (first | exact List.Mem.head _ | apply List.Mem.tail | apply List.mem_append_right))); exact rfl) | (apply stN_own; (first | (solve | repeat (first | with_reducible exact Up.head | with_reducible apply Up.tail | with_reducible apply Up.app)) | (repeat (first | exact Up.head | apply Up.tail | apply Up.app))); (solve | ((try (conv => arg 2; whnf)); repeat' (first | exact Lis.nil | apply Lis.cons | apply SetAt.here | apply SetAt.there | apply PutAt.done | apply PutAt.put | apply PutAt.skip))); exact rfl) | (refine new_i (fun bk hbk => ?_)))
          all_goals exact ⟨(k + 1, (k : Int)), ⟨by simp; omega, hnb, hI⟩, by simp; omega, (by repeat' (first | exact True.intro | refine And.intro ?_ ?_ | exact rfl | exact vi (by omega) | (dsimp only; exact rfl) | (dsimp only; exact vi (by omega)))), by (repeat (first | exact Ent.refl | exact Ent.left | refine Ent.cons ?_ | refine Ent.app ?_))⟩
        · by_cases h8 : x.op = 8
          · rw [if_neg h7, if_pos h8] at hI hnb
            repeat' ((try (conv => whnf)); first | (refine br_f ?_) | (refine br_py (by omega) ?_) | (refine br_pn (by omega) ?_) | (refine stN_and' rfl ?_) | (refine call_p (ho [_]) ?_) | ((with_reducible show IxS _ _ _ _ _); first | (refine ixE hR hx ?_ ?_; (first | rfl | omega))) | ((with_reducible show LdN _ _ _ _ _); first | (refine ldNE (RdE.ent hR ?_) hx ?_ ?_ ?_; rotate_left; rfl; rfl; rotate_left; (solve | (repeat (first | exact Ent.refl | exact Ent.left | refine Ent.cons ?_ | refine Ent.app ?_))))) | (refine ari ?_ ?_; omega) | (apply ld_own; (first | (solve | repeat (first | with_reducible exact List.mem_cons_self | (with_reducible (apply List.mem_append_left; exact List.mem_cons_self)) | with_reducible apply List.mem_cons_of_mem | with_reducible apply List.mem_append_right)) | (repeat (first | exact List.Mem.head _ | apply List.Mem.tail | apply List.mem_append_right))); exact rfl) | (apply stN_own; (first | (solve | repeat (first | with_reducible exact Up.head | with_reducible apply Up.tail | with_reducible apply Up.app)) | (repeat (first | exact Up.head | apply Up.tail | apply Up.app))); (solve | ((try (conv => arg 2; whnf)); repeat' (first | exact Lis.nil | apply Lis.cons | apply SetAt.here | apply SetAt.there | apply PutAt.done | apply PutAt.put | apply PutAt.skip))); exact rfl) | (refine new_i (fun bk hbk => ?_)))
            all_goals exact ⟨(k + 1, -1), ⟨by simp; omega, hnb, hI⟩, by simp; omega, (by repeat' (first | exact True.intro | refine And.intro ?_ ?_ | exact rfl | exact vi (by omega) | (dsimp only; exact rfl) | (dsimp only; exact vi (by omega)))), by (repeat (first | exact Ent.refl | exact Ent.left | refine Ent.cons ?_ | refine Ent.app ?_))⟩
          · rw [if_neg h7, if_neg h8] at hI hnb
            repeat' ((try (conv => whnf)); first | (refine br_f ?_) | (refine br_py (by omega) ?_) | (refine br_pn (by omega) ?_) | (refine stN_and' rfl ?_) | (refine call_p (ho [_]) ?_) | ((with_reducible show IxS _ _ _ _ _); first | (refine ixE hR hx ?_ ?_; (first | rfl | omega))) | ((with_reducible show LdN _ _ _ _ _); first | (refine ldNE (RdE.ent hR ?_) hx ?_ ?_ ?_; rotate_left; rfl; rfl; rotate_left; (solve | (repeat (first | exact Ent.refl | exact Ent.left | refine Ent.cons ?_ | refine Ent.app ?_))))) | (refine ari ?_ ?_; omega) | (apply ld_own; (first | (solve | repeat (first | with_reducible exact List.mem_cons_self | (with_reducible (apply List.mem_append_left; exact List.mem_cons_self)) | with_reducible apply List.mem_cons_of_mem | with_reducible apply List.mem_append_right)) | (repeat (first | exact List.Mem.head _ | apply List.Mem.tail | apply List.mem_append_right))); exact rfl) | (apply stN_own; (first | (solve | repeat (first | with_reducible exact Up.head | with_reducible apply Up.tail | with_reducible apply Up.app)) | (repeat (first | exact Up.head | apply Up.tail | apply Up.app))); (solve | ((try (conv => arg 2; whnf)); repeat' (first | exact Lis.nil | apply Lis.cons | apply SetAt.here | apply SetAt.there | apply PutAt.done | apply PutAt.put | apply PutAt.skip))); exact rfl) | (refine new_i (fun bk hbk => ?_)))
            all_goals exact ⟨(k + 1, b), ⟨by simp; omega, hnb, hI⟩, by simp; omega, (by repeat' (first | exact True.intro | refine And.intro ?_ ?_ | exact rfl | exact vi (by omega) | (dsimp only; exact rfl) | (dsimp only; exact vi (by omega)))), by (repeat (first | exact Ent.refl | exact Ent.left | refine Ent.cons ?_ | refine Ent.app ?_))⟩
      · rw [if_pos h0] at hI
        repeat' ((try (conv => whnf)); first | (refine br_py (by omega) ?_) | (refine stN_and' rfl ?_) | (refine call_p (ho [_]) ?_) | ((with_reducible show IxS _ _ _ _ _); first | (refine ixE hR hx ?_ ?_; (first | rfl | omega))) | ((with_reducible show LdN _ _ _ _ _); first | (refine ldNE (RdE.ent hR ?_) hx ?_ ?_ ?_; rotate_left; rfl; rfl; rotate_left; (solve | (repeat (first | exact Ent.refl | exact Ent.left | refine Ent.cons ?_ | refine Ent.app ?_))))) | (apply stN_own; (first | (solve | repeat (first | with_reducible exact Up.head | with_reducible apply Up.tail | with_reducible apply Up.app)) | (repeat (first | exact Up.head | apply Up.tail | apply Up.app))); (solve | ((try (conv => arg 2; whnf)); repeat' (first | exact Lis.nil | apply Lis.cons | apply SetAt.here | apply SetAt.there | apply PutAt.done | apply PutAt.put | apply PutAt.skip))); exact rfl) | (refine new_i (fun bk hbk => ?_)))
        all_goals (rw [← hI]; exact ⟨rfl, by (repeat (first | exact Ent.refl | exact Ent.left | refine Ent.cons ?_ | refine Ent.app ?_))⟩)
    · have hk' : k = p.length := by omega
      subst hk'
      rw [List.drop_length, checkG] at hI
      rw [← hI]
      repeat' ((try (conv => whnf)); first | (refine br_pn (by omega) ?_) | (refine br_d (fun hc => ?_) (fun hc => ?_)))
      all_goals (refine ⟨ret2 (vi ?_) (vi ?_), by (repeat (first | exact Ent.refl | exact Ent.left | refine Ent.cons ?_ | refine Ent.app ?_))⟩ <;> split <;> first | rfl | (exfalso; omega))
end
end Go.Proofs.YtfompmhncnkcfaaGreatDoor
namespace Go.Proofs.YtfompmhncnkcfaaGreatDoor
open Go Go.RowKit
set_option maxRecDepth 10000
set_option maxHeartbeats 4000000
section
variable {W0 : World} {own : Own} {a : Option Addr} {cap : Nat} {p : List Ins}
theorem sp_span (hR : RdE Ins.enc 5 W0 own a p) (hl : p.length ≤ 1099511627776) (t : Nat) :
    Pure Tryz.prog W0 67 [.slice a p.length cap, .int .i64 t] own (.tuple #[.int .i64 (span p t).1, .int .i64 (span p t).2]) := by
  refine pure_of (spec_of mixed low_ref06_Span (by simp [ir_ref06_Span]) ?_)
  unfold span
  generalize hres : spanL p.length t p 0 (-1) = res
  skip
  refine loop_c (σ := Nat × Int) (fun s => [(7, .int .i64 s.1), (6, .int .i64 s.2)]) (fun s => s.1 ≤ p.length ∧ (s.2 = -1 ∨ (0 ≤ s.2 ∧ s.2 < s.1)) ∧ spanL p.length t (p.drop s.1) s.1 s.2 = res) (fun s => p.length - s.1) (0, -1) ⟨by simp, by simp, hres⟩ (by repeat' (first | exact True.intro | refine And.intro ?_ ?_ | exact rfl | exact vi (by omega) | (dsimp only; exact rfl) | (dsimp only; exact vi (by omega)))) rfl ?_
  rintro ⟨k, b⟩ junk ⟨hk, hb, hI⟩
  simp only [] at hk hb hI
  by_cases hlt : k < p.length
  · obtain ⟨x, hx⟩ : ∃ x, p[k]? = some x := ⟨_, List.getElem?_eq_getElem hlt⟩
    rw [drop_at hx, spanL] at hI
    by_cases h7 : b < 0 ∧ x.op = 7
    · rw [if_pos h7] at hI
      repeat' ((try (conv => whnf)); first | (refine when_ye ?_ ?_; exact rfl) | (apply br_pyE; (exact rfl); omega) | (apply when_pyE; (exact rfl); omega) | ((with_reducible show Ld _ _ _ _); first | (refine ldE0 hR hx rfl ?_)) | ((with_reducible show IxS _ _ _ _ _); first | ((refine ixE hR hx ?_ ?_; (first | rfl | omega)))) | (refine ari ?_ ?_; omega))
      all_goals exact ⟨(k + 1, (k : Int)), ⟨by simp; omega, by simp; omega, hI⟩, by simp; omega, (by repeat' (first | exact True.intro | refine And.intro ?_ ?_ | exact rfl | exact vi (by omega) | (dsimp only; exact rfl) | (dsimp only; exact vi (by omega)))), (by first | exact ent_i | (repeat (first | exact Ent.refl | exact Ent.left | refine Ent.cons ?_ | refine Ent.app ?_)))⟩
    · rw [if_neg h7] at hI
      by_cases h8 : 0 ≤ b ∧ x.op = 8
      · rw [if_pos h8] at hI
        by_cases hin : b ≤ t ∧ t ≤ k
        · rw [if_pos hin] at hI
          repeat' ((try (conv => whnf)); first | (refine when_ye ?_ ?_; exact rfl) | (refine when_ne ?_ ?_; exact rfl) | (refine br_fe ?_ ?_; exact rfl) | (apply br_pyE; (exact rfl); omega) | (apply when_pyE; (exact rfl); omega) | (apply when_pnE; (exact rfl); omega) | ((with_reducible show Ld _ _ _ _); first | (refine ldE0 hR hx rfl ?_)) | ((with_reducible show IxS _ _ _ _ _); first | ((refine ixE hR hx ?_ ?_; (first | rfl | omega)))))
          all_goals (rw [← hI]; exact ⟨rfl, (by first | exact ent_i | (repeat (first | exact Ent.refl | exact Ent.left | refine Ent.cons ?_ | refine Ent.app ?_)))⟩)
        · rw [if_neg hin] at hI
          repeat' ((try (conv => whnf)); first | (refine when_ye ?_ ?_; exact rfl) | (refine when_ne ?_ ?_; exact rfl) | (refine br_fe ?_ ?_; exact rfl) | (apply br_pyE; (exact rfl); omega) | (apply br_pnE; (exact rfl); omega) | (apply when_pyE; (exact rfl); omega) | (apply when_pnE; (exact rfl); omega) | ((with_reducible show Ld _ _ _ _); first | (refine ldE0 hR hx rfl ?_)) | ((with_reducible show IxS _ _ _ _ _); first | ((refine ixE hR hx ?_ ?_; (first | rfl | omega)))) | (refine ari ?_ ?_; omega) | (apply when_dE; (exact rfl); (exact rfl); all_goals intro hc))
          all_goals exact ⟨(k + 1, -1), ⟨by simp; omega, by simp, hI⟩, by simp; omega, (by repeat' (first | exact True.intro | refine And.intro ?_ ?_ | exact rfl | exact vi (by omega) | (dsimp only; exact rfl) | (dsimp only; exact vi (by omega)))), (by first | exact ent_i | (repeat (first | exact Ent.refl | exact Ent.left | refine Ent.cons ?_ | refine Ent.app ?_)))⟩
      · rw [if_neg h8] at hI
        repeat' ((try (conv => whnf)); first | (refine when_ye ?_ ?_; exact rfl) | (refine when_ne ?_ ?_; exact rfl) | (refine br_fe ?_ ?_; exact rfl) | (apply br_pyE; (exact rfl); omega) | (apply br_pnE; (exact rfl); omega) | (apply when_pyE; (exact rfl); omega) | (apply when_pnE; (exact rfl); omega) | ((with_reducible show Ld _ _ _ _); first | (refine ldE0 hR hx rfl ?_)) | ((with_reducible show IxS _ _ _ _ _); first | ((refine ixE hR hx ?_ ?_; (first | rfl | omega)))) | (refine ari ?_ ?_; omega) | (apply when_dE; (exact rfl); (exact rfl); all_goals intro hc))
        all_goals exact ⟨(k + 1, b), ⟨by simp; omega, by simp; omega, hI⟩, by simp; omega, (by repeat' (first | exact True.intro | refine And.intro ?_ ?_ | exact rfl | exact vi (by omega) | (dsimp only; exact rfl) | (dsimp only; exact vi (by omega)))), (by first | exact ent_i | (repeat (first | exact Ent.refl | exact Ent.left | refine Ent.cons ?_ | refine Ent.app ?_)))⟩
  · have hk' : k = p.length := by omega
    subst hk'
    rw [List.drop_length, spanL] at hI
    by_cases h0 : 0 ≤ b ∧ b ≤ t ∧ t < p.length
    · rw [if_pos h0] at hI
      repeat' ((try (conv => whnf)); first | (refine when_ye ?_ ?_; exact rfl) | (apply br_pyE; (exact rfl); omega) | (apply br_pnE; (exact rfl); omega) | (apply when_pyE; (exact rfl); omega))
      all_goals (rw [← hI]; exact ⟨rfl, (by first | exact ent_i | (repeat (first | exact Ent.refl | exact Ent.left | refine Ent.cons ?_ | refine Ent.app ?_)))⟩)
    · rw [if_neg h0] at hI
      repeat' ((try (conv => whnf)); first | (refine when_ye ?_ ?_; exact rfl) | (refine when_ne ?_ ?_; exact rfl) | (refine br_fe ?_ ?_; exact rfl) | (apply br_pnE; (exact rfl); omega) | (apply when_dE; (exact rfl); (exact rfl); all_goals intro hc))
      all_goals (rw [← hI]; exact ⟨rfl, (by first | exact ent_i | (repeat (first | exact Ent.refl | exact Ent.left | refine Ent.cons ?_ | refine Ent.app ?_)))⟩)
theorem sp_reaches (hR : RdE Ins.enc 5 W0 own a p) (hl : p.length ≤ 1099511627776) (k t : Nat) :
    Pure Tryz.prog W0 77 [.slice a p.length cap, .int .i64 k, .int .i64 t] own (.bool (reachesM p k t)) := by
  refine pure_of (spec_of mixed low_ref06_reaches (by simp [ir_ref06_reaches]) ?_)
  have hs := fun t => sp_span (cap := cap) hR hl t
  unfold reachesM
  by_cases h1 : p.length < t
  · rw [if_pos h1]
    repeat' ((try (conv => whnf)); first | (apply br_pyE; (exact rfl); omega))
    all_goals exact ⟨rfl, (by first | exact ent_i | (repeat (first | exact Ent.refl | exact Ent.left | refine Ent.cons ?_ | refine Ent.app ?_)))⟩
  · rw [if_neg h1]
    by_cases h2 : 0 ≤ (span p k).1
    · rw [if_pos h2]
      repeat' ((try (conv => whnf)); first | (apply br_pyE; (exact rfl); omega) | (apply br_pnE; (exact rfl); omega) | ((with_reducible show CallT _ _ _ _ _ _); first | ((refine call_pe (hs k) ?_ ?_ ?_; (exact rfl); exact rfl))) | (apply sel; exact rfl))
      all_goals exact ⟨rfl, (by first | exact ent_i | (repeat (first | exact Ent.refl | exact Ent.left | refine Ent.cons ?_ | refine Ent.app ?_)))⟩
    · rw [if_neg h2]
      by_cases h3 : (span p t).1 < 0
      · repeat' ((try (conv => whnf)); first | (refine when_ne ?_ ?_; exact rfl) | (apply br_pnE; (exact rfl); omega) | (apply when_pyE; (exact rfl); omega) | ((with_reducible show CallT _ _ _ _ _ _); first | ((refine call_pe (hs k) ?_ ?_ ?_; (exact rfl); exact rfl)) | ((refine call_pe (hs t) ?_ ?_ ?_; (exact rfl); exact rfl))) | (apply sel; exact rfl))
        all_goals exact ⟨ret1 (vb (by symm; rw [decide_eq_true_eq]; exact .inl h3)), (by first | exact ent_i | (repeat (first | exact Ent.refl | exact Ent.left | refine Ent.cons ?_ | refine Ent.app ?_)))⟩
      · repeat' ((try (conv => whnf)); first | (refine when_ye ?_ ?_; exact rfl) | (apply br_pnE; (exact rfl); omega) | (apply when_pnE; (exact rfl); omega) | ((with_reducible show CallT _ _ _ _ _ _); first | ((refine call_pe (hs k) ?_ ?_ ?_; (exact rfl); exact rfl)) | ((refine call_pe (hs t) ?_ ?_ ?_; (exact rfl); exact rfl))) | (apply sel; exact rfl))
        all_goals (refine ⟨ret1 (vb ?_), (by first | exact ent_i | (repeat (first | exact Ent.refl | exact Ent.left | refine Ent.cons ?_ | refine Ent.app ?_)))⟩; exact dd ⟨fun h => .inr h, fun h => h.elim (fun h => absurd h h3) id⟩)
theorem sp_rpcheck (hR : RdE Ins.enc 5 W0 own a p) :
    Pure Tryz.prog W0 50 [.slice a p.length cap] own (.tuple #[.int .i64 (checkR p).1, .int .i64 (checkR p).2]) := by
  refine pure_of (spec_of mixed low_ref06_Check (by simp [ir_ref06_Check]) ?_)
  unfold checkR
  by_cases h64 : 64 < p.length
  · rw [if_pos h64]
    repeat' ((try (conv => whnf)); first | (apply br_pyE; (exact rfl); omega))
    all_goals first | exact ⟨rfl, (by first | exact ent_i | (repeat (first | exact Ent.refl | exact Ent.left | refine Ent.cons ?_ | refine Ent.app ?_)))⟩ | (exfalso; omega)
  · rw [if_neg h64]
    generalize hres : checkG (fun k _ x => rtargetM p k x) p 0 (-1) = res
    repeat' ((try (conv => whnf)); first | (apply br_pnE; (exact rfl); omega))
    refine loop_c (σ := Nat × Int) (fun s => [(5, .int .i64 s.1), (4, .int .i64 s.2)]) (fun s => s.1 ≤ p.length ∧ (s.2 = -1 ∨ (0 ≤ s.2 ∧ s.2 < s.1)) ∧ checkG (fun k _ x => rtargetM p k x) (p.drop s.1) s.1 s.2 = res) (fun s => p.length - s.1) (0, -1) ⟨by simp, by simp, hres⟩ (by repeat' (first | exact True.intro | refine And.intro ?_ ?_ | exact rfl | exact vi (by omega) | (dsimp only; exact rfl) | (dsimp only; exact vi (by omega)))) rfl ?_
    rintro ⟨k, b⟩ junk ⟨hk, hb, hI⟩
    simp only [] at hk hb hI
    by_cases hlt : k < p.length
    · obtain ⟨x, hx⟩ : ∃ x, p[k]? = some x := ⟨_, List.getElem?_eq_getElem hlt⟩
      rw [drop_at hx, checkG] at hI
      have hc := fun own => sp_rcheck W0 own x
      have hp := fun own => sp_rplace W0 own x
      have hs := fun own => sp_rskips W0 own x
      have hre := fun (t : Nat) (own' : Own) (h : Ent W0 own' own) => sp_reaches (cap := cap) (hR.ent h) (by omega) k t
      have hnb : nextB x k b = -1 ∨ (0 ≤ nextB x k b ∧ nextB x k b < (k + 1 : Nat)) := by unfold nextB; (repeat' split) <;> omega
      have hso := fun h => skips_op (x := x) h
      have hsi : iskips x = true → iskip x = x.imm := fun h => by unfold iskip; rw [h]; rfl
      unfold oneX rtargetM at hI
      generalize icheck x = z at *
      generalize iplace x = q at *
      by_cases hz : z = 0
      · subst hz
        simp only [ne_eq, not_true_eq_false, if_false] at hI
        by_cases h40 : (x.op = 7 ∧ 0 ≤ b) ∨ (x.op = 8 ∧ b < 0)
        · rw [if_pos h40] at hI
          repeat' ((try (conv => whnf)); first | (refine when_ye ?_ ?_; exact rfl) | (refine when_ne ?_ ?_; exact rfl) | (refine br_te ?_ ?_; exact rfl) | (refine br_fe ?_ ?_; exact rfl) | (apply br_pyE; (exact rfl); omega) | (apply when_pyE; (exact rfl); omega) | ((with_reducible show IxS _ _ _ _ _); first | ((refine ixE hR hx ?_ ?_; (first | rfl | omega)))) | ((with_reducible show LdN _ _ _ _ _); first | (refine ldNEi hR hx rfl ?_)) | ((with_reducible show CallT _ _ _ _ _ _); first | ((refine call_pe (hc _) ?_ ?_ ?_; (exact rfl); exact rfl))) | (apply ld_o; exact rfl) | (apply ldN_a; exact rfl) | (apply stN_o; (exact rfl); (exact rfl); exact rfl) | (refine new_i (fun bk hbk => ?_)) | (apply when_dE; (exact rfl); (exact rfl); all_goals intro hc))
          all_goals (rw [← hI]; exact ⟨rfl, (by first | exact ent_i | (repeat (first | exact Ent.refl | exact Ent.left | refine Ent.cons ?_ | refine Ent.app ?_)))⟩)
        · rw [if_neg h40] at hI
          by_cases h41 : (q = 1 ∧ b < 0) ∨ (q = 2 ∧ 0 ≤ b)
          · rw [if_pos h41] at hI
            repeat' ((try (conv => whnf)); first | (refine when_ye ?_ ?_; exact rfl) | (refine when_ne ?_ ?_; exact rfl) | (refine br_te ?_ ?_; exact rfl) | (refine br_fe ?_ ?_; exact rfl) | (apply br_pyE; (exact rfl); omega) | (apply br_pnE; (exact rfl); omega) | (apply when_pyE; (exact rfl); omega) | (apply when_pnE; (exact rfl); omega) | ((with_reducible show IxS _ _ _ _ _); first | ((refine ixE hR hx ?_ ?_; (first | rfl | omega)))) | ((with_reducible show LdN _ _ _ _ _); first | (refine ldNEi hR hx rfl ?_)) | ((with_reducible show CallT _ _ _ _ _ _); first | ((refine call_pe (hc _) ?_ ?_ ?_; (exact rfl); exact rfl)) | ((refine call_pe (hp _) ?_ ?_ ?_; (exact rfl); exact rfl))) | (apply ld_o; exact rfl) | (apply ldN_a; exact rfl) | (apply stN_o; (exact rfl); (exact rfl); exact rfl) | (refine new_i (fun bk hbk => ?_)) | (apply when_dE; (exact rfl); (exact rfl); all_goals intro hc))
            all_goals (rw [← hI]; exact ⟨rfl, (by first | exact ent_i | (repeat (first | exact Ent.refl | exact Ent.left | refine Ent.cons ?_ | refine Ent.app ?_)))⟩)
          · rw [if_neg h41] at hI
            cases hsk : iskips x
            · rw [hsk] at hs hI
              simp only [Bool.false_eq_true, if_false, not_true_eq_false] at hI
              unfold nextB at hI hnb
              by_cases h7 : x.op = 7
              · rw [if_pos h7] at hI hnb
                repeat' ((try (conv => whnf)); first | (refine when_ye ?_ ?_; exact rfl) | (refine when_ne ?_ ?_; exact rfl) | (refine br_fe ?_ ?_; exact rfl) | (apply br_pyE; (exact rfl); omega) | (apply br_pnE; (exact rfl); omega) | (apply when_pyE; (exact rfl); omega) | (apply when_pnE; (exact rfl); omega) | ((with_reducible show IxS _ _ _ _ _); first | ((refine ixE hR hx ?_ ?_; (first | rfl | omega)))) | ((with_reducible show LdN _ _ _ _ _); first | (refine ldNEi hR hx rfl ?_)) | ((with_reducible show CallT _ _ _ _ _ _); first | ((refine call_pe (hc _) ?_ ?_ ?_; (exact rfl); exact rfl)) | ((refine call_pe (hp _) ?_ ?_ ?_; (exact rfl); exact rfl)) | ((refine call_pe (hs _) ?_ ?_ ?_; (exact rfl); exact rfl))) | (refine ari ?_ ?_; omega) | (apply sel; exact rfl) | (apply ld_o; exact rfl) | (apply ldN_a; exact rfl) | (apply stN_o; (exact rfl); (exact rfl); exact rfl) | (refine new_i (fun bk hbk => ?_)) | (apply when_dE; (exact rfl); (exact rfl); all_goals intro hc))
                all_goals exact ⟨(k + 1, (k : Int)), ⟨by simp; omega, hnb, hI⟩, by simp; omega, (by repeat' (first | exact True.intro | refine And.intro ?_ ?_ | exact rfl | exact vi (by omega) | (dsimp only; exact rfl) | (dsimp only; exact vi (by omega)))), (by first | exact ent_i | (repeat (first | exact Ent.refl | exact Ent.left | refine Ent.cons ?_ | refine Ent.app ?_)))⟩
              · by_cases h8 : x.op = 8
                · rw [if_neg h7, if_pos h8] at hI hnb
                  repeat' ((try (conv => whnf)); first | (refine when_ye ?_ ?_; exact rfl) | (refine when_ne ?_ ?_; exact rfl) | (refine br_fe ?_ ?_; exact rfl) | (apply br_pyE; (exact rfl); omega) | (apply br_pnE; (exact rfl); omega) | (apply when_pyE; (exact rfl); omega) | (apply when_pnE; (exact rfl); omega) | ((with_reducible show IxS _ _ _ _ _); first | ((refine ixE hR hx ?_ ?_; (first | rfl | omega)))) | ((with_reducible show LdN _ _ _ _ _); first | (refine ldNEi hR hx rfl ?_)) | ((with_reducible show CallT _ _ _ _ _ _); first | ((refine call_pe (hc _) ?_ ?_ ?_; (exact rfl); exact rfl)) | ((refine call_pe (hp _) ?_ ?_ ?_; (exact rfl); exact rfl)) | ((refine call_pe (hs _) ?_ ?_ ?_; (exact rfl); exact rfl))) | (refine ari ?_ ?_; omega) | (apply sel; exact rfl) | (apply ld_o; exact rfl) | (apply ldN_a; exact rfl) | (apply stN_o; (exact rfl); (exact rfl); exact rfl) | (refine new_i (fun bk hbk => ?_)) | (apply when_dE; (exact rfl); (exact rfl); all_goals intro hc))
                  all_goals exact ⟨(k + 1, -1), ⟨by simp; omega, hnb, hI⟩, by simp; omega, (by repeat' (first | exact True.intro | refine And.intro ?_ ?_ | exact rfl | exact vi (by omega) | (dsimp only; exact rfl) | (dsimp only; exact vi (by omega)))), (by first | exact ent_i | (repeat (first | exact Ent.refl | exact Ent.left | refine Ent.cons ?_ | refine Ent.app ?_)))⟩
                · rw [if_neg h7, if_neg h8] at hI hnb
                  repeat' ((try (conv => whnf)); first | (refine when_ye ?_ ?_; exact rfl) | (refine when_ne ?_ ?_; exact rfl) | (refine br_fe ?_ ?_; exact rfl) | (apply br_pyE; (exact rfl); omega) | (apply br_pnE; (exact rfl); omega) | (apply when_pnE; (exact rfl); omega) | ((with_reducible show IxS _ _ _ _ _); first | ((refine ixE hR hx ?_ ?_; (first | rfl | omega)))) | ((with_reducible show LdN _ _ _ _ _); first | (refine ldNEi hR hx rfl ?_)) | ((with_reducible show CallT _ _ _ _ _ _); first | ((refine call_pe (hc _) ?_ ?_ ?_; (exact rfl); exact rfl)) | ((refine call_pe (hp _) ?_ ?_ ?_; (exact rfl); exact rfl)) | ((refine call_pe (hs _) ?_ ?_ ?_; (exact rfl); exact rfl))) | (refine ari ?_ ?_; omega) | (apply sel; exact rfl) | (apply ld_o; exact rfl) | (apply ldN_a; exact rfl) | (apply stN_o; (exact rfl); (exact rfl); exact rfl) | (refine new_i (fun bk hbk => ?_)) | (apply when_dE; (exact rfl); (exact rfl); all_goals intro hc))
                  all_goals exact ⟨(k + 1, b), ⟨by simp; omega, hnb, hI⟩, by simp; omega, (by repeat' (first | exact True.intro | refine And.intro ?_ ?_ | exact rfl | exact vi (by omega) | (dsimp only; exact rfl) | (dsimp only; exact vi (by omega)))), (by first | exact ent_i | (repeat (first | exact Ent.refl | exact Ent.left | refine Ent.cons ?_ | refine Ent.app ?_)))⟩
            · obtain ⟨hop, hi0, hi1⟩ := hso hsk
              rw [hsk, hsi hsk] at hs
              rw [hsk] at hI
              simp only [if_true] at hI
              obtain ⟨t, ht⟩ : ∃ t : Nat, (t : Int) = k + 1 + x.imm := ⟨k + 1 + x.imm.toNat, by omega⟩
              have ht' : k + 1 + x.imm.toNat = t := by omega
              rw [ht'] at hI
              have hre' := hre t
              rw [ht] at hre'
              have h7 : ¬ x.op = 7 := by omega
              have h8 : ¬ x.op = 8 := by omega
              cases hv : reachesM p k t
              · rw [hv] at hI hre'
                simp only [Bool.false_eq_true, if_false, Int.reduceEq, not_false_eq_true, if_true] at hI
                repeat' ((try (conv => whnf)); first | (refine when_ye ?_ ?_; exact rfl) | (refine when_ne ?_ ?_; exact rfl) | (refine br_te ?_ ?_; exact rfl) | (refine br_fe ?_ ?_; exact rfl) | (apply br_pyE; (exact rfl); omega) | (apply br_pnE; (exact rfl); omega) | (apply when_pnE; (exact rfl); omega) | ((with_reducible show IxS _ _ _ _ _); first | ((refine ixE hR hx ?_ ?_; (first | rfl | omega)))) | ((with_reducible show LdN _ _ _ _ _); first | (refine ldNEi hR hx rfl ?_)) | ((with_reducible show CallT _ _ _ _ _ _); first | ((refine call_pe (hc _) ?_ ?_ ?_; (exact rfl); exact rfl)) | ((refine call_pe (hp _) ?_ ?_ ?_; (exact rfl); exact rfl)) | ((refine call_pe (hs _) ?_ ?_ ?_; (exact rfl); exact rfl)) | ((refine call_pe (hre' _ ent_i) ?_ ?_ ?_; (exact rfl); exact rfl))) | (refine ari ?_ ?_; omega) | (apply sel; exact rfl) | (apply ld_o; exact rfl) | (apply ldN_a; exact rfl) | (apply stN_o; (exact rfl); (exact rfl); exact rfl) | (refine new_i (fun bk hbk => ?_)) | (apply when_dE; (exact rfl); (exact rfl); all_goals intro hc))
                all_goals (rw [← hI]; exact ⟨rfl, (by first | exact ent_i | (repeat (first | exact Ent.refl | exact Ent.left | refine Ent.cons ?_ | refine Ent.app ?_)))⟩)
              · rw [hv] at hI hre'
                simp only [if_true, not_true_eq_false, if_false] at hI
                unfold nextB at hI hnb
                rw [if_neg h7, if_neg h8] at hI hnb
                repeat' ((try (conv => whnf)); first | (refine when_ye ?_ ?_; exact rfl) | (refine when_ne ?_ ?_; exact rfl) | (refine br_fe ?_ ?_; exact rfl) | (apply br_pyE; (exact rfl); omega) | (apply br_pnE; (exact rfl); omega) | (apply when_pnE; (exact rfl); omega) | ((with_reducible show IxS _ _ _ _ _); first | ((refine ixE hR hx ?_ ?_; (first | rfl | omega)))) | ((with_reducible show LdN _ _ _ _ _); first | (refine ldNEi hR hx rfl ?_)) | ((with_reducible show CallT _ _ _ _ _ _); first | ((refine call_pe (hc _) ?_ ?_ ?_; (exact rfl); exact rfl)) | ((refine call_pe (hp _) ?_ ?_ ?_; (exact rfl); exact rfl)) | ((refine call_pe (hs _) ?_ ?_ ?_; (exact rfl); exact rfl)) | ((refine call_pe (hre' _ ent_i) ?_ ?_ ?_; (exact rfl); exact rfl))) | (refine ari ?_ ?_; omega) | (apply sel; exact rfl) | (apply ld_o; exact rfl) | (apply ldN_a; exact rfl) | (apply stN_o; (exact rfl); (exact rfl); exact rfl) | (refine new_i (fun bk hbk => ?_)) | (apply when_dE; (exact rfl); (exact rfl); all_goals intro hc))
                all_goals exact ⟨(k + 1, b), ⟨by simp; omega, hnb, hI⟩, by simp; omega, (by repeat' (first | exact True.intro | refine And.intro ?_ ?_ | exact rfl | exact vi (by omega) | (dsimp only; exact rfl) | (dsimp only; exact vi (by omega)))), (by first | exact ent_i | (repeat (first | exact Ent.refl | exact Ent.left | refine Ent.cons ?_ | refine Ent.app ?_)))⟩
      · rw [if_pos (by rw [if_pos hz]; exact hz), if_pos hz] at hI
        repeat' ((try (conv => whnf)); first | (apply br_pyE; (exact rfl); omega) | ((with_reducible show IxS _ _ _ _ _); first | ((refine ixE hR hx ?_ ?_; (first | rfl | omega)))) | ((with_reducible show LdN _ _ _ _ _); first | (refine ldNEi hR hx rfl ?_)) | ((with_reducible show CallT _ _ _ _ _ _); first | ((refine call_pe (hc _) ?_ ?_ ?_; (exact rfl); exact rfl))) | (apply ldN_a; exact rfl) | (apply stN_o; (exact rfl); (exact rfl); exact rfl) | (refine new_i (fun bk hbk => ?_)))
        all_goals (rw [← hI]; exact ⟨rfl, (by first | exact ent_i | (repeat (first | exact Ent.refl | exact Ent.left | refine Ent.cons ?_ | refine Ent.app ?_)))⟩)
    · have hk' : k = p.length := by omega
      subst hk'
      rw [List.drop_length, checkG] at hI
      rw [← hI]
      repeat' ((try (conv => whnf)); first | (apply br_pnE; (exact rfl); omega) | (apply br_dE; (exact rfl); all_goals intro hc))
      all_goals (refine ⟨ret2 (vi ?_) (vi ?_), (by first | exact ent_i | (repeat (first | exact Ent.refl | exact Ent.left | refine Ent.cons ?_ | refine Ent.app ?_)))⟩ <;> split <;> first | rfl | (exfalso; omega))
end
end Go.Proofs.YtfompmhncnkcfaaGreatDoor
