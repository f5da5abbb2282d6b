/- What the laws share, part 16. No condition. -/
import Derived.Test.YtllddgdmmfmpkaaGreatDoorY15
namespace Go.Proofs.YtllddgdmmfmpkaaGreatDoor
open Go
set_option maxRecDepth 10000
set_option maxHeartbeats 4000000
theorem stN_and' {W0 : World} {own : Own} {a : Addr} {vs : List Value} {n : Nat} {K : Own → Prop} (h : vs.length = n) (h2 : StN W0 own a vs K) : vs.length = n ∧ StN W0 own a vs K := ⟨h, h2⟩
section
variable {W0 : World} {own : Own} {a : Option Addr} {cap : Nat} {p : List Ins}
theorem sp_end (hR : RdE Ins.enc 5 W0 own a p) (hl : p.length ≤ 1099511627776) (b : Nat) (hb : b + 1 ≤ p.length) : Pure Tryz.prog W0 113 [.slice a p.length cap, .int .i64 b] own (.int .i64 (endM p b)) := by
  refine pure_of (spec_of mixed low_program_end (by simp [ir_program_end]) ?_)
  repeat' ((try (conv => whnf)); first | (refine ari ?_ ?_; omega))
  refine loop_c (σ := Nat) (fun k => [(5, .int .i64 k)]) (fun k => k ≤ p.length ∧ endL (p.drop k) k = endM p b) (fun k => p.length - k) (b + 1) ⟨by omega, rfl⟩ (by repeat' (first | exact True.intro | refine And.intro ?_ ?_ | exact rfl | exact vi (by omega) | (dsimp only; exact rfl) | (dsimp only; exact vi (by omega)))) rfl ?_
  rintro k junk ⟨hk, hI⟩
  by_cases hlt : k < p.length
  · obtain ⟨x, hx⟩ : ∃ x, p[k]? = some x := ⟨_, List.getElem?_eq_getElem hlt⟩
    rw [drop_at hx, endL] at hI
    repeat' ((try (conv => whnf)); first | (refine br_py (by omega) ?_) | ((with_reducible show Ld _ _ _ _); first | (refine ldE (k := 0) (RdE.ent hR ?_) hx ?_ rfl ?_; rotate_left; rfl; rotate_left; (solve | (repeat (first | exact Ent.refl | exact Ent.left | refine Ent.cons ?_ | refine Ent.app ?_))))) | ((with_reducible show IxS _ _ _ _ _); first | (refine ixE hR hx ?_ ?_; (first | rfl | omega))) | (refine ari ?_ ?_; omega) | (refine br_d (fun hc => ?_) (fun hc => ?_)))
    · rw [if_pos hc] at hI
      exact ⟨ret1 (vi (by rw [hI])), by (repeat (first | exact Ent.refl | exact Ent.left | refine Ent.cons ?_ | refine Ent.app ?_))⟩
    · rw [if_neg hc] at hI
      exact ⟨k + 1, ⟨by omega, hI⟩, by omega, (by repeat' (first | exact True.intro | refine And.intro ?_ ?_ | exact rfl | exact vi (by omega) | (dsimp only; exact rfl) | (dsimp only; exact vi (by omega)))), Ent.refl⟩
  · have hk' : k = p.length := by omega
    subst hk'
    rw [List.drop_length, endL] at hI
    repeat' ((try (conv => whnf)); first | (refine br_pn (by omega) ?_))
    exact ⟨ret1 (vi (by rw [← hI])), by (repeat (first | exact Ent.refl | exact Ent.left | refine Ent.cons ?_ | refine Ent.app ?_))⟩
theorem sp_into (hR : RdE Ins.enc 5 W0 own a p) (hl : p.length ≤ 1099511627776) (k t : Nat) (ht : k + 1 ≤ t ∧ t ≤ p.length) :
    Pure Tryz.prog W0 114 [.slice a p.length cap, .int .i64 k, .int .i64 t] own (.bool (intoL p.length (p.drop (k + 1)) (k + 1) t)) := by
  refine pure_of (spec_of mixed low_program_into (by simp [ir_program_into]) ?_)
  repeat' ((try (conv => whnf)); first | (refine ari ?_ ?_; omega))
  refine loop_c (σ := Nat) (fun b => [(7, .int .i64 b)]) (fun b => b ≤ t ∧ intoL p.length (p.drop b) b t = intoL p.length (p.drop (k + 1)) (k + 1) t) (fun b => t - b) (k + 1) ⟨by omega, rfl⟩ (by repeat' (first | exact True.intro | refine And.intro ?_ ?_ | exact rfl | exact vi (by omega) | (dsimp only; exact rfl) | (dsimp only; exact vi (by omega)))) rfl ?_
  rintro b junk ⟨hb, hI⟩
  by_cases hlt : b < t
  · obtain ⟨x, hx⟩ : ∃ x, p[b]? = some x := ⟨_, List.getElem?_eq_getElem (by omega)⟩
    have hE := fun ex => sp_end (cap := cap) (hR.ent (Ent.app (A := ex) Ent.refl)) hl b (by omega)
    have he : endM p b = endL (p.drop (b + 1)) (b + 1) := rfl
    rw [drop_at hx, intoL, ← he] at hI
    have hge := endL_ge (p.drop (b + 1)) (b + 1)
    rw [← he, List.length_drop] at hge
    by_cases h7 : x.op = 7
    · by_cases hin : t ≤ endM p b ∧ t + 1 ≤ p.length
      · rw [decide_eq_true ⟨hlt, h7, hin.1, hin.2⟩, Bool.true_or] at hI
        repeat' ((try (conv => whnf)); first | (refine when_y ?_) | (refine br_py (by omega) ?_) | (refine when_py (by omega) ?_) | (refine call_p (hE []) ?_) | ((with_reducible show Ld _ _ _ _); first | (refine ldE (k := 0) (RdE.ent hR ?_) hx ?_ rfl ?_; rotate_left; rfl; rotate_left; (solve | (repeat (first | exact Ent.refl | exact Ent.left | refine Ent.cons ?_ | refine Ent.app ?_))))) | ((with_reducible show IxS _ _ _ _ _); first | (refine ixE hR hx ?_ ?_; (first | rfl | omega))) | (refine ari ?_ ?_; omega) | (refine mm_min ?_))
        all_goals first | exact ⟨ret1 (vb hI), by (repeat (first | exact Ent.refl | exact Ent.left | refine Ent.cons ?_ | refine Ent.app ?_))⟩ | (exfalso; omega)
      · rw [decide_eq_false (by omega), Bool.false_or] at hI
        repeat' ((try (conv => whnf)); first | (refine when_y ?_) | (refine br_py (by omega) ?_) | (refine br_pn (by omega) ?_) | (refine when_py (by omega) ?_) | (refine call_p (hE []) ?_) | ((with_reducible show Ld _ _ _ _); first | (refine ldE (k := 0) (RdE.ent hR ?_) hx ?_ rfl ?_; rotate_left; rfl; rotate_left; (solve | (repeat (first | exact Ent.refl | exact Ent.left | refine Ent.cons ?_ | refine Ent.app ?_))))) | ((with_reducible show IxS _ _ _ _ _); first | (refine ixE hR hx ?_ ?_; (first | rfl | omega))) | (refine ari ?_ ?_; omega) | (refine mm_min ?_))
        all_goals first | exact ⟨b + 1, ⟨by omega, hI⟩, by omega, (by repeat' (first | exact True.intro | refine And.intro ?_ ?_ | exact rfl | exact vi (by omega) | (dsimp only; exact rfl) | (dsimp only; exact vi (by omega)))), Ent.refl⟩ | (exfalso; omega)
    · rw [decide_eq_false (by omega), Bool.false_or] at hI
      repeat' ((try (conv => whnf)); first | (refine when_ft ?_) | (refine br_f ?_) | (refine br_py (by omega) ?_) | (refine when_pn (by omega) ?_) | ((with_reducible show Ld _ _ _ _); first | (refine ldE (k := 0) (RdE.ent hR ?_) hx ?_ rfl ?_; rotate_left; rfl; rotate_left; (solve | (repeat (first | exact Ent.refl | exact Ent.left | refine Ent.cons ?_ | refine Ent.app ?_))))) | ((with_reducible show IxS _ _ _ _ _); first | (refine ixE hR hx ?_ ?_; (first | rfl | omega))) | (refine ari ?_ ?_; omega))
      all_goals exact ⟨b + 1, ⟨by omega, hI⟩, by omega, (by repeat' (first | exact True.intro | refine And.intro ?_ ?_ | exact rfl | exact vi (by omega) | (dsimp only; exact rfl) | (dsimp only; exact vi (by omega)))), Ent.refl⟩
  · rw [intoL_le _ _ _ _ (by omega)] at hI
    repeat' ((try (conv => whnf)); first | (refine br_pn (by omega) ?_))
    exact ⟨ret1 (vb hI), by (repeat (first | exact Ent.refl | exact Ent.left | refine Ent.cons ?_ | refine Ent.app ?_))⟩
theorem sp_target (hF : FormsAt W0) (hR : RdE Ins.enc 5 W0 own a p) (hl : p.length ≤ 64) (k : Nat) (b : Int) (x : Ins) (hx : p[k]? = some x) (hb : b = -1 ∨ (0 ≤ b ∧ b < k)) :
    Pure Tryz.prog W0 63 [.slice a p.length cap, .int .i64 k, .int .i64 b] own (.int .i64 (targetM p k b x)) := by
  refine pure_of (spec_of mixed low_program_target (by simp [ir_program_target]) ?_)
  have hk := (List.getElem?_eq_some_iff.1 hx).1
  have hs := fun own => sp_iskips W0 own hF x
  unfold targetM
  cases hsk : iskips x
  · have hi : iskip x = 0 := by unfold iskip; rw [hsk]; rfl
    rw [hsk, hi] at hs
    repeat' ((try (conv => whnf)); first | (refine br_t ?_) | (apply call_p (hs _)) | ((with_reducible show IxS _ _ _ _ _); first | (refine ixE hR hx ?_ ?_; (first | rfl | omega))) | ((with_reducible show LdN _ _ _ _ _); first | (refine ldNE (RdE.ent hR ?_) hx ?_ ?_ ?_; rotate_left; rfl; rfl; rotate_left; (solve | (repeat (first | exact Ent.refl | exact Ent.left | refine Ent.cons ?_ | refine Ent.app ?_))))) | (apply sel; exact rfl))
    all_goals exact ⟨ret1 (vi (by simp)), by (repeat (first | exact Ent.refl | exact Ent.left | refine Ent.cons ?_ | refine Ent.app ?_))⟩
  · obtain ⟨hop, hi0, hi1⟩ := skips_op hsk
    have hi : iskip x = x.imm := by unfold iskip; rw [hsk]; rfl
    rw [hsk, hi] at hs
    simp only [if_true]
    generalize x.imm = m at *
    by_cases hlt : (p.length : Int) < k + 1 + m
    · rw [if_pos hlt]
      repeat' ((try (conv => whnf)); first | (refine br_f ?_) | (refine br_py (by omega) ?_) | (apply call_p (hs _)) | ((with_reducible show IxS _ _ _ _ _); first | (refine ixE hR hx ?_ ?_; (first | rfl | omega))) | ((with_reducible show LdN _ _ _ _ _); first | (refine ldNE (RdE.ent hR ?_) hx ?_ ?_ ?_; rotate_left; rfl; rfl; rotate_left; (solve | (repeat (first | exact Ent.refl | exact Ent.left | refine Ent.cons ?_ | refine Ent.app ?_))))) | (refine ari ?_ ?_; omega) | (apply sel; exact rfl))
      all_goals exact ⟨rfl, by (repeat (first | exact Ent.refl | exact Ent.left | refine Ent.cons ?_ | refine Ent.app ?_))⟩
    · rw [if_neg hlt]
      rcases hb with hb | ⟨hb0, hb1⟩
      · subst hb
        rw [if_neg (by omega)]
        obtain ⟨t, ht⟩ : ∃ t : Nat, (t : Int) = k + 1 + m := ⟨k + 1 + m.toNat, by omega⟩
        have ht' : k + 1 + m.toNat = t := by omega
        rw [ht']
        have hin := sp_into (cap := cap) hR (by omega) k t (by omega)
        rw [ht] at hin
        cases hv : intoL p.length (p.drop (k + 1)) (k + 1) t <;> rw [hv] at hin
        all_goals
          repeat' ((try (conv => whnf)); first | (refine when_y ?_) | (refine when_ft ?_) | (refine br_t ?_) | (refine br_f ?_) | (refine br_pn (by omega) ?_) | (apply call_p (hs _)) | (refine call_p hin ?_) | ((with_reducible show IxS _ _ _ _ _); first | (refine ixE hR hx ?_ ?_; (first | rfl | omega))) | ((with_reducible show LdN _ _ _ _ _); first | (refine ldNE (RdE.ent hR ?_) hx ?_ ?_ ?_; rotate_left; rfl; rfl; rotate_left; (solve | (repeat (first | exact Ent.refl | exact Ent.left | refine Ent.cons ?_ | refine Ent.app ?_))))) | (refine ari ?_ ?_; omega) | (apply sel; exact rfl))
          all_goals exact ⟨rfl, by (repeat (first | exact Ent.refl | exact Ent.left | refine Ent.cons ?_ | refine Ent.app ?_))⟩
      · rw [if_pos hb0]
        obtain ⟨b, rfl⟩ := Int.eq_ofNat_of_zero_le hb0
        simp only [Int.toNat_natCast]
        have hE := sp_end (cap := cap) hR (by omega) b (by omega)
        have hge := endL_ge (p.drop (b + 1)) (b + 1)
        have he : endM p b = endL (p.drop (b + 1)) (b + 1) := rfl
        rw [← he, List.length_drop] at hge
        repeat' ((try (conv => whnf)); first | (refine when_y ?_) | (refine when_ft ?_) | (refine br_f ?_) | (refine br_pn (by omega) ?_) | (apply call_p (hs _)) | (refine call_p hE ?_) | ((with_reducible show IxS _ _ _ _ _); first | (refine ixE hR hx ?_ ?_; (first | rfl | omega))) | ((with_reducible show LdN _ _ _ _ _); first | (refine ldNE (RdE.ent hR ?_) hx ?_ ?_ ?_; rotate_left; rfl; rfl; rotate_left; (solve | (repeat (first | exact Ent.refl | exact Ent.left | refine Ent.cons ?_ | refine Ent.app ?_))))) | (refine ari ?_ ?_; omega) | (apply sel; exact rfl) | (refine br_d (fun hc => ?_) (fun hc => ?_)))
        all_goals (refine ⟨ret1 (vi ?_), by (repeat (first | exact Ent.refl | exact Ent.left | refine Ent.cons ?_ | refine Ent.app ?_))⟩; first | (rw [if_pos (by omega)]; done) | (rw [if_neg (by omega)]; done) | (split <;> omega))
theorem sp_one (hF : FormsAt W0) (hR : RdE Ins.enc 5 W0 own a p) (hl : p.length ≤ 64) (k : Nat) (b : Int) (x : Ins) (hx : p[k]? = some x) (hb : b = -1 ∨ (0 ≤ b ∧ b < k)) :
    Pure Tryz.prog W0 35 [.slice a p.length cap, .int .i64 k, .int .i64 b] own (.int .i64 (oneX (targetM p k b x) b x)) := by
  refine pure_of (spec_of mixed low_program_one (by simp [ir_program_one]) ?_)
  have hk := (List.getElem?_eq_some_iff.1 hx).1
  have hc := fun own => sp_icheck W0 own hF x
  have hp := fun own => sp_iplace W0 own hF x
  have ht := sp_target (cap := cap) hF hR hl k b x hx hb
  generalize targetM p k b x = t at *
  unfold oneX
  generalize icheck x = z at *
  generalize iplace x = q at *
  repeat' ((try (conv => whnf)); first | (refine when_y ?_) | (refine when_ft ?_) | (refine br_f ?_) | (refine br_py (by omega) ?_) | (refine br_pn (by omega) ?_) | (refine when_pn (by omega) ?_) | (refine br_npy (by omega) ?_) | (refine br_npn (by omega) ?_) | (apply call_p (hc _)) | (apply call_p (hp _)) | (refine call_p ht ?_) | ((with_reducible show Ld _ _ _ _); first | (refine ldE (k := 0) (RdE.ent hR ?_) hx ?_ rfl ?_; rotate_left; rfl; rotate_left; (solve | (repeat (first | exact Ent.refl | exact Ent.left | refine Ent.cons ?_ | refine Ent.app ?_))))) | ((with_reducible show IxS _ _ _ _ _); first | (refine ixE hR hx ?_ ?_; (first | rfl | omega))) | ((with_reducible show LdN _ _ _ _ _); first | (refine ldNE (RdE.ent hR ?_) hx ?_ ?_ ?_; rotate_left; rfl; rfl; rotate_left; (solve | (repeat (first | exact Ent.refl | exact Ent.left | refine Ent.cons ?_ | refine Ent.app ?_))))) | (refine when_dt (fun hc => ?_) (fun hc => ?_)) | (refine br_d (fun hc => ?_) (fun hc => ?_)) | (refine br_nd (fun hc => ?_) (fun hc => ?_)))
  all_goals (refine ⟨ret1 (vi ?_), by (repeat (first | exact Ent.refl | exact Ent.left | refine Ent.cons ?_ | refine Ent.app ?_))⟩; (repeat' split) <;> first | rfl | (exfalso; omega) | omega)
theorem sp_pcheck (hF : FormsAt W0) (hR : RdE Ins.enc 5 W0 own a p) :
    Pure Tryz.prog W0 22 [.slice a p.length cap] own (.tuple #[.int .i64 (checkP p).1, .int .i64 (checkP p).2]) := by
  refine pure_of (spec_of mixed low_program_Check (by simp [ir_program_Check]) ?_)
  unfold checkP
  by_cases h64 : 64 < p.length
  · rw [if_pos h64]
    repeat' ((try (conv => whnf)); first | (refine br_py (by omega) ?_))
    all_goals first | exact ⟨rfl, by (repeat (first | exact Ent.refl | exact Ent.left | refine Ent.cons ?_ | refine Ent.app ?_))⟩ | (exfalso; omega)
  · rw [if_neg h64]
    generalize hres : checkG (targetM p) p 0 (-1) = res
    repeat' ((try (conv => whnf)); first | (refine br_pn (by omega) ?_))
    refine loop_c (σ := Nat × Int) (fun s => [(13, .int .i64 s.1), (4, .int .i64 s.2)]) (fun s => s.1 ≤ p.length ∧ (s.2 = -1 ∨ (0 ≤ s.2 ∧ s.2 < s.1)) ∧ checkG (targetM p) (p.drop s.1) s.1 s.2 = res) (fun s => p.length - s.1) (0, -1) ⟨by simp, by simp, hres⟩ (by repeat' (first | exact True.intro | refine And.intro ?_ ?_ | exact rfl | exact vi (by omega) | (dsimp only; exact rfl) | (dsimp only; exact vi (by omega)))) rfl ?_
    rintro ⟨k, b⟩ junk ⟨hk, hb, hI⟩
    simp only [] at hk hb hI
    by_cases hlt : k < p.length
    · obtain ⟨x, hx⟩ : ∃ x, p[k]? = some x := ⟨_, List.getElem?_eq_getElem hlt⟩
      rw [drop_at hx, checkG] at hI
      have ho := fun ex => sp_one (cap := cap) hF (hR.ent (Ent.app (A := ex) Ent.refl)) (by omega) k b x hx hb
      have hnb : nextB x k b = -1 ∨ (0 ≤ nextB x k b ∧ nextB x k b < (k + 1 : Nat)) := by unfold nextB; (repeat' split) <;> omega
      generalize hz : oneX (targetM p k b x) b x = z at *
      by_cases h0 : z = 0
      · rw [if_neg (by simpa using h0)] at hI
        unfold nextB at hI hnb
        subst h0
        by_cases h7 : x.op = 7
        · rw [if_pos h7] at hI hnb
          repeat' ((try (conv => whnf)); first | (refine br_f ?_) | (refine br_py (by omega) ?_) | (refine stN_and' rfl ?_) | (refine call_p (ho [_]) ?_) | ((with_reducible show IxS _ _ _ _ _); first | (refine ixE hR hx ?_ ?_; (first | rfl | omega))) | ((with_reducible show LdN _ _ _ _ _); first | (refine ldNE (RdE.ent hR ?_) hx ?_ ?_ ?_; rotate_left; rfl; rfl; rotate_left; (solve | (repeat (first | exact Ent.refl | exact Ent.left | refine Ent.cons ?_ | refine Ent.app ?_))))) | (refine ari ?_ ?_; omega) | (apply ld_own; (first | (solve | repeat (first | with_reducible exact List.mem_cons_self | (with_reducible (apply List.mem_append_left; exact List.mem_cons_self)) | with_reducible apply List.mem_cons_of_mem | with_reducible apply List.mem_append_right)) | (repeat (first | exact List.Mem.head _ | apply List.Mem.tail | apply List.mem_append_right))); exact rfl) | (apply stN_own; (first | (solve | repeat (first | with_reducible exact Up.head | with_reducible apply Up.tail | with_reducible apply Up.app)) | (repeat (first | exact Up.head | apply Up.tail | apply Up.app))); (solve | ((try (conv => arg 2; whnf)); repeat' (first | exact Lis.nil | apply Lis.cons | apply SetAt.here | apply SetAt.there | apply PutAt.done | apply PutAt.put | apply PutAt.skip))); exact rfl) | (refine new_i (fun bk hbk => ?_)))
          all_goals exact ⟨(k + 1, (k : Int)), ⟨by simp; omega, hnb, hI⟩, by simp; omega, (by repeat' (first | exact True.intro | refine And.intro ?_ ?_ | exact rfl | exact vi (by omega) | (dsimp only; exact rfl) | (dsimp only; exact vi (by omega)))), by (repeat (first | exact Ent.refl | exact Ent.left | refine Ent.cons ?_ | refine Ent.app ?_))⟩
        · by_cases h8 : x.op = 8
          · rw [if_neg h7, if_pos h8] at hI hnb
            repeat' ((try (conv => whnf)); first | (refine br_f ?_) | (refine br_py (by omega) ?_) | (refine br_pn (by omega) ?_) | (refine stN_and' rfl ?_) | (refine call_p (ho [_]) ?_) | ((with_reducible show IxS _ _ _ _ _); first | (refine ixE hR hx ?_ ?_; (first | rfl | omega))) | ((with_reducible show LdN _ _ _ _ _); first | (refine ldNE (RdE.ent hR ?_) hx ?_ ?_ ?_; rotate_left; rfl; rfl; rotate_left; (solve | (repeat (first | exact Ent.refl | exact Ent.left | refine Ent.cons ?_ | refine Ent.app ?_))))) | (refine ari ?_ ?_; omega) | (apply ld_own; (first | (solve | repeat (first | with_reducible exact List.mem_cons_self | (with_reducible (apply List.mem_append_left; exact List.mem_cons_self)) | with_reducible apply List.mem_cons_of_mem | with_reducible apply List.mem_append_right)) | (repeat (first | exact List.Mem.head _ | apply List.Mem.tail | apply List.mem_append_right))); exact rfl) | (apply stN_own; (first | (solve | repeat (first | with_reducible exact Up.head | with_reducible apply Up.tail | with_reducible apply Up.app)) | (repeat (first | exact Up.head | apply Up.tail | apply Up.app))); (solve | ((try (conv => arg 2; whnf)); repeat' (first | exact Lis.nil | apply Lis.cons | apply SetAt.here | apply SetAt.there | apply PutAt.done | apply PutAt.put | apply PutAt.skip))); exact rfl) | (refine new_i (fun bk hbk => ?_)))
            all_goals exact ⟨(k + 1, -1), ⟨by simp; omega, hnb, hI⟩, by simp; omega, (by repeat' (first | exact True.intro | refine And.intro ?_ ?_ | exact rfl | exact vi (by omega) | (dsimp only; exact rfl) | (dsimp only; exact vi (by omega)))), by (repeat (first | exact Ent.refl | exact Ent.left | refine Ent.cons ?_ | refine Ent.app ?_))⟩
          · rw [if_neg h7, if_neg h8] at hI hnb
            repeat' ((try (conv => whnf)); first | (refine br_f ?_) | (refine br_py (by omega) ?_) | (refine br_pn (by omega) ?_) | (refine stN_and' rfl ?_) | (refine call_p (ho [_]) ?_) | ((with_reducible show IxS _ _ _ _ _); first | (refine ixE hR hx ?_ ?_; (first | rfl | omega))) | ((with_reducible show LdN _ _ _ _ _); first | (refine ldNE (RdE.ent hR ?_) hx ?_ ?_ ?_; rotate_left; rfl; rfl; rotate_left; (solve | (repeat (first | exact Ent.refl | exact Ent.left | refine Ent.cons ?_ | refine Ent.app ?_))))) | (refine ari ?_ ?_; omega) | (apply ld_own; (first | (solve | repeat (first | with_reducible exact List.mem_cons_self | (with_reducible (apply List.mem_append_left; exact List.mem_cons_self)) | with_reducible apply List.mem_cons_of_mem | with_reducible apply List.mem_append_right)) | (repeat (first | exact List.Mem.head _ | apply List.Mem.tail | apply List.mem_append_right))); exact rfl) | (apply stN_own; (first | (solve | repeat (first | with_reducible exact Up.head | with_reducible apply Up.tail | with_reducible apply Up.app)) | (repeat (first | exact Up.head | apply Up.tail | apply Up.app))); (solve | ((try (conv => arg 2; whnf)); repeat' (first | exact Lis.nil | apply Lis.cons | apply SetAt.here | apply SetAt.there | apply PutAt.done | apply PutAt.put | apply PutAt.skip))); exact rfl) | (refine new_i (fun bk hbk => ?_)))
            all_goals exact ⟨(k + 1, b), ⟨by simp; omega, hnb, hI⟩, by simp; omega, (by repeat' (first | exact True.intro | refine And.intro ?_ ?_ | exact rfl | exact vi (by omega) | (dsimp only; exact rfl) | (dsimp only; exact vi (by omega)))), by (repeat (first | exact Ent.refl | exact Ent.left | refine Ent.cons ?_ | refine Ent.app ?_))⟩
      · rw [if_pos h0] at hI
        repeat' ((try (conv => whnf)); first | (refine br_py (by omega) ?_) | (refine stN_and' rfl ?_) | (refine call_p (ho [_]) ?_) | ((with_reducible show IxS _ _ _ _ _); first | (refine ixE hR hx ?_ ?_; (first | rfl | omega))) | ((with_reducible show LdN _ _ _ _ _); first | (refine ldNE (RdE.ent hR ?_) hx ?_ ?_ ?_; rotate_left; rfl; rfl; rotate_left; (solve | (repeat (first | exact Ent.refl | exact Ent.left | refine Ent.cons ?_ | refine Ent.app ?_))))) | (apply stN_own; (first | (solve | repeat (first | with_reducible exact Up.head | with_reducible apply Up.tail | with_reducible apply Up.app)) | (repeat (first | exact Up.head | apply Up.tail | apply Up.app))); (solve | ((try (conv => arg 2; whnf)); repeat' (first | exact Lis.nil | apply Lis.cons | apply SetAt.here | apply SetAt.there | apply PutAt.done | apply PutAt.put | apply PutAt.skip))); exact rfl) | (refine new_i (fun bk hbk => ?_)))
        all_goals (rw [← hI]; exact ⟨rfl, by (repeat (first | exact Ent.refl | exact Ent.left | refine Ent.cons ?_ | refine Ent.app ?_))⟩)
    · have hk' : k = p.length := by omega
      subst hk'
      rw [List.drop_length, checkG] at hI
      rw [← hI]
      repeat' ((try (conv => whnf)); first | (refine br_pn (by omega) ?_) | (refine br_d (fun hc => ?_) (fun hc => ?_)))
      all_goals (refine ⟨ret2 (vi ?_) (vi ?_), by (repeat (first | exact Ent.refl | exact Ent.left | refine Ent.cons ?_ | refine Ent.app ?_))⟩ <;> split <;> first | rfl | (exfalso; omega))
end
end Go.Proofs.YtllddgdmmfmpkaaGreatDoor
namespace Go.Proofs.YtllddgdmmfmpkaaGreatDoor
open Go
set_option maxRecDepth 10000
structure Cfg where
  words : Int
  orecs : Int
  base : Int
  c0 : Int
  c1 : Int
  c2 : Int
  c3 : Int
  reads : Int
  writes : Int
  allocs : Int
  frees : Int
  clock : Int
  strong : Bool
def Cfg.cs (c : Cfg) : Array Value := #[.int .i64 c.words, .int .i64 c.orecs, .int .i64 c.base, .int .i64 c.c0, .int .i64 c.c1, .int .i64 c.c2, .int .i64 c.c3, .int .i64 c.reads, .int .i64 c.writes, .int .i64 c.allocs, .int .i64 c.frees, .int .i64 c.clock, .bool c.strong]
def Cfg.v (c : Cfg) : Value := .agg c.cs
def okW (c : Cfg) : Prop := 1 ≤ c.words ∧ c.words ≤ 64 ∧ 1 ≤ c.orecs ∧ c.orecs ≤ 64
def okC (c : Cfg) : Prop := 0 ≤ c.c0 ∧ c.c0 ≤ 64 ∧ 0 ≤ c.c1 ∧ c.c1 ≤ 64 ∧ 0 ≤ c.c2 ∧ c.c2 ≤ 64 ∧ 0 ≤ c.c3 ∧ c.c3 ≤ 64
def nB (c : Cfg) : Int := c.c0 + c.c1 + c.c2 + c.c3
def nW (c : Cfg) : Int := c.c0 + c.c1 * 2 + c.c2 * 4 + c.c3 * 8
def okH (c : Cfg) : Prop := okC c ∧ nB c ≤ 64 ∧ 0 ≤ c.base ∧ c.base ≤ c.words ∧ c.base + nW c ≤ c.words
def okL (c : Cfg) : Prop := 1 ≤ c.reads ∧ c.reads ≤ 32 ∧ 1 ≤ c.writes ∧ c.writes ≤ 32 ∧ 0 ≤ c.allocs ∧ c.allocs ≤ 8 ∧ 0 ≤ c.frees ∧ c.frees ≤ 8
def okK (c : Cfg) : Prop := 0 ≤ c.clock ∧ c.clock ≤ 1099511627776
instance (c : Cfg) : Decidable (okW c) := by unfold okW; exact inferInstance
instance (c : Cfg) : Decidable (okC c) := by unfold okC; exact inferInstance
instance (c : Cfg) : Decidable (okH c) := by unfold okH; exact inferInstance
instance (c : Cfg) : Decidable (okL c) := by unfold okL; exact inferInstance
instance (c : Cfg) : Decidable (okK c) := by unfold okK; exact inferInstance
def checkM (c : Cfg) : Int := if okW c then if okH c then if okL c then if okK c then 0 else 53 else 52 else 51 else 50
theorem cm50 {c : Cfg} (h1 : ¬okW c) : 50 = checkM c := by simp [checkM, h1]
theorem cm51 {c : Cfg} (h1 : okW c) (h2 : ¬okH c) : 51 = checkM c := by simp [checkM, h1, h2]
theorem cm52 {c : Cfg} (h1 : okW c) (h2 : okH c) (h3 : ¬okL c) : 52 = checkM c := by simp [checkM, h1, h2, h3]
theorem cm53 {c : Cfg} (h1 : okW c) (h2 : okH c) (h3 : okL c) (h4 : ¬okK c) : 53 = checkM c := by simp [checkM, h1, h2, h3, h4]
theorem cm0 {c : Cfg} (h1 : okW c) (h2 : okH c) (h3 : okL c) (h4 : okK c) : 0 = checkM c := by simp [checkM, h1, h2, h3, h4]
def blocksM (c : Cfg) : Int := if checkM c = 0 then nB c else 0
theorem sp_within (W0 : World) (own : Own) (a b c : Int) : Pure Tryz.prog W0 21 [.int .i64 a, .int .i64 b, .int .i64 c] own (.bool (decide (b ≤ a ∧ a ≤ c))) := by
  refine pure_of (spec_of mixed low_layout_within (by simp [ir_layout_within]) ?_)
  repeat' ((try (conv => whnf)); first | (refine when_y ?_) | (refine when_ft ?_) | (refine when_dt (fun hc => ?_) (fun hc => ?_)))
  all_goals (refine ⟨ret1 (vb ?_), by (repeat (first | exact Ent.refl | exact Ent.left | refine Ent.cons ?_ | refine Ent.app ?_))⟩; (first | rfl | (refine dd ?_; omega) | (refine df ?_; omega) | (refine dt ?_; omega) | (refine dn ?_; omega)))
theorem sp_heap (W0 : World) (own : Own) (c : Cfg) : Pure Tryz.prog W0 34 [c.v] own
    (.tuple #[.int .i64 (if okC c then nB c else 0), .int .i64 (if okC c then nW c else 0), .bool (decide (okC c ∧ nB c ≤ 64))]) := by
  refine pure_of (spec_of mixed low_layout_heap (by simp [ir_layout_heap]) ?_)
  repeat' ((try (conv => whnf)); first | (refine loop_r 5 ?_) | (refine when_y ?_) | (refine when_tf ?_) | (refine br_t ?_) | (refine br_f ?_) | (refine ari ?_ ?_; omega) | (apply sel; exact rfl) | (refine ix0 rfl ?_) | (refine ix1 rfl ?_) | (refine ix2 rfl ?_) | (refine ix3 rfl ?_) | (apply ldN_own; (first | (solve | repeat (first | with_reducible exact List.mem_cons_self | (with_reducible (apply List.mem_append_left; exact List.mem_cons_self)) | with_reducible apply List.mem_cons_of_mem | with_reducible apply List.mem_append_right)) | (repeat (first | exact List.Mem.head _ | apply List.Mem.tail | apply List.mem_append_right))); exact rfl; exact rfl) | (refine new_i (fun bk hbk => ?_)) | (refine when_df (fun hc => ?_) (fun hc => ?_)) | (refine br_d (fun hc => ?_) (fun hc => ?_)) | (refine shl0 ?_ ?_; omega) | (refine shl1 ?_ ?_; omega) | (refine shl2 ?_ ?_; omega) | (refine shl3 ?_ ?_; omega))
  all_goals
    refine ⟨ret3 (vi ?_) (vi ?_) (vb ?_), by (repeat (first | exact Ent.refl | exact Ent.left | refine Ent.cons ?_ | refine Ent.app ?_))⟩
    · (try simp only [okC, nB]); (first | rfl | omega | (split <;> omega) | (split <;> split <;> omega))
    · (try simp only [okC, nW]); (first | rfl | omega | (split <;> omega) | (split <;> split <;> omega))
    · (try simp only [okC, nB]); (first | rfl | (refine dd ?_; omega) | (refine df ?_; omega) | (refine dt ?_; omega) | (refine dn ?_; omega))
theorem sp_heap_y (W0 : World) (own : Own) (c : Cfg) (h : okC c) : Pure Tryz.prog W0 34 [c.v] own (.tuple #[.int .i64 (nB c), .int .i64 (nW c), .bool (decide (nB c ≤ 64))]) := by
  have := sp_heap W0 own c
  simpa [h] using this
theorem sp_heap_n (W0 : World) (own : Own) (c : Cfg) (h : ¬okC c) : Pure Tryz.prog W0 34 [c.v] own (.tuple #[.int .i64 0, .int .i64 0, .bool false]) := by
  have := sp_heap W0 own c
  simpa [h] using this
theorem sp_check (W0 : World) (own : Own) (c : Cfg) : Pure Tryz.prog W0 20 [c.v] own (.int .i64 (checkM c)) := by
  refine pure_of (spec_of mixed low_layout_Check (by simp [ir_layout_Check]) ?_)
  by_cases hc : okC c
  · have hc' := hc
    unfold okC at hc'
    repeat' ((try (conv => whnf)); first | (apply call_p (sp_within _ _ _ _ _)) | (apply call_p (sp_heap_y _ _ c hc)) | (refine when_y ?_) | (refine when_tf ?_) | (refine br_t ?_) | (refine ari ?_ ?_; omega) | (apply sel; exact rfl) | (apply ld_own; (first | (solve | repeat (first | with_reducible exact List.mem_cons_self | (with_reducible (apply List.mem_append_left; exact List.mem_cons_self)) | with_reducible apply List.mem_cons_of_mem | with_reducible apply List.mem_append_right)) | (repeat (first | exact List.Mem.head _ | apply List.Mem.tail | apply List.mem_append_right))); exact rfl) | (apply ldN_all; (first | (solve | repeat (first | with_reducible exact List.mem_cons_self | (with_reducible (apply List.mem_append_left; exact List.mem_cons_self)) | with_reducible apply List.mem_cons_of_mem | with_reducible apply List.mem_append_right)) | (repeat (first | exact List.Mem.head _ | apply List.Mem.tail | apply List.mem_append_right))); exact rfl) | (refine new_i (fun bk hbk => ?_)) | (refine when_ndf (fun hc => ?_) (fun hc => ?_)) | (refine br_d (fun hc => ?_) (fun hc => ?_)) | (refine br_nd (fun hc => ?_) (fun hc => ?_)))
    all_goals (refine ⟨ret1 (vi ?_), by (repeat (first | exact Ent.refl | exact Ent.left | refine Ent.cons ?_ | refine Ent.app ?_))⟩; (try unfold nB at *); (try unfold nW at *))
    all_goals first | exact cm50 (by unfold okW; omega) | exact cm51 (by unfold okW; omega) (by unfold okH okC nB nW; omega) | exact cm52 (by unfold okW; omega) (by unfold okH okC nB nW; omega) (by unfold okL; omega) | exact cm53 (by unfold okW; omega) (by unfold okH okC nB nW; omega) (by unfold okL; omega) (by unfold okK; omega) | exact cm0 (by unfold okW; omega) (by unfold okH okC nB nW; omega) (by unfold okL; omega) (by unfold okK; omega)
  · repeat' ((try (conv => whnf)); first | (apply call_p (sp_within _ _ _ _ _)) | (apply call_p (sp_heap_n _ _ c hc)) | (refine when_y ?_) | (refine when_tf ?_) | (refine br_t ?_) | (apply sel; exact rfl) | (apply ld_own; (first | (solve | repeat (first | with_reducible exact List.mem_cons_self | (with_reducible (apply List.mem_append_left; exact List.mem_cons_self)) | with_reducible apply List.mem_cons_of_mem | with_reducible apply List.mem_append_right)) | (repeat (first | exact List.Mem.head _ | apply List.Mem.tail | apply List.mem_append_right))); exact rfl) | (apply ldN_all; (first | (solve | repeat (first | with_reducible exact List.mem_cons_self | (with_reducible (apply List.mem_append_left; exact List.mem_cons_self)) | with_reducible apply List.mem_cons_of_mem | with_reducible apply List.mem_append_right)) | (repeat (first | exact List.Mem.head _ | apply List.Mem.tail | apply List.mem_append_right))); exact rfl) | (refine new_i (fun bk hbk => ?_)) | (refine when_ndf (fun hc => ?_) (fun hc => ?_)) | (refine br_nd (fun hc => ?_) (fun hc => ?_)))
    all_goals (refine ⟨ret1 (vi ?_), by (repeat (first | exact Ent.refl | exact Ent.left | refine Ent.cons ?_ | refine Ent.app ?_))⟩; (try unfold okC at *))
    all_goals first | exact cm50 (by unfold okW; omega) | exact cm51 (by unfold okW; omega) (by unfold okH okC nB nW; omega) | exact cm52 (by unfold okW; omega) (by unfold okH okC nB nW; omega) (by unfold okL; omega) | exact cm53 (by unfold okW; omega) (by unfold okH okC nB nW; omega) (by unfold okL; omega) (by unfold okK; omega) | exact cm0 (by unfold okW; omega) (by unfold okH okC nB nW; omega) (by unfold okL; omega) (by unfold okK; omega)
theorem check_ok {c : Cfg} (h : checkM c = 0) : okW c ∧ okH c ∧ okL c ∧ okK c := by
  unfold checkM at h
  split at h
  · split at h
    · split at h
      · split at h
        · exact ⟨by assumption, by assumption, by assumption, by assumption⟩
        · omega
      · omega
    · omega
  · omega
theorem check_bd {c : Cfg} (h : checkM c = 0) : 1 ≤ c.words ∧ c.words ≤ 64 ∧ 1 ≤ c.orecs ∧ c.orecs ≤ 64 ∧ 0 ≤ c.c0 ∧ 0 ≤ c.c1 ∧ 0 ≤ c.c2 ∧ 0 ≤ c.c3 ∧ c.c0 + c.c1 + c.c2 + c.c3 ≤ 64 ∧ 0 ≤ c.base ∧ c.base + (c.c0 + c.c1 * 2 + c.c2 * 4 + c.c3 * 8) ≤ c.words := by
  obtain ⟨h1, h2, _, _⟩ := check_ok h
  unfold okW at h1
  unfold okH okC nB nW at h2
  omega
theorem sp_blocks (W0 : World) (own : Own) (c : Cfg) : Pure Tryz.prog W0 36 [c.v] own (.int .i64 (blocksM c)) := by
  refine pure_of (spec_of mixed low_layout_Blocks (by simp [ir_layout_Blocks]) ?_)
  by_cases h0 : checkM c = 0
  · have hC : okC c := (check_ok h0).2.1.1
    repeat' ((try (conv => whnf)); first | (apply call_p (sp_check _ _ c)) | (apply call_p (sp_heap_y _ _ c hC)) | (apply sel; exact rfl) | (apply ldN_all; (first | (solve | repeat (first | with_reducible exact List.mem_cons_self | (with_reducible (apply List.mem_append_left; exact List.mem_cons_self)) | with_reducible apply List.mem_cons_of_mem | with_reducible apply List.mem_append_right)) | (repeat (first | exact List.Mem.head _ | apply List.Mem.tail | apply List.mem_append_right))); exact rfl) | (refine new_i (fun bk hbk => ?_)) | (refine br_d (fun hc => ?_) (fun hc => ?_)))
    all_goals first | (exfalso; omega) | (refine ⟨ret1 (vi ?_), by (repeat (first | exact Ent.refl | exact Ent.left | refine Ent.cons ?_ | refine Ent.app ?_))⟩; simp only [blocksM, h0, if_true])
  · repeat' ((try (conv => whnf)); first | (apply call_p (sp_check _ _ c)) | (apply ldN_all; (first | (solve | repeat (first | with_reducible exact List.mem_cons_self | (with_reducible (apply List.mem_append_left; exact List.mem_cons_self)) | with_reducible apply List.mem_cons_of_mem | with_reducible apply List.mem_append_right)) | (repeat (first | exact List.Mem.head _ | apply List.Mem.tail | apply List.mem_append_right))); exact rfl) | (refine new_i (fun bk hbk => ?_)) | (refine br_d (fun hc => ?_) (fun hc => ?_)))
    all_goals first | (exfalso; omega) | (refine ⟨ret1 (vi ?_), by (repeat (first | exact Ent.refl | exact Ent.left | refine Ent.cons ?_ | refine Ent.app ?_))⟩; simp only [blocksM, h0, if_false])
theorem blocks_bd (c : Cfg) : 0 ≤ blocksM c ∧ blocksM c ≤ 64 := by
  unfold blocksM
  split
  · have := check_bd (by assumption)
    unfold nB
    omega
  · omega
def orecM (c : Cfg) (a : Int) : Int := if checkM c = 0 ∧ 0 ≤ a ∧ a < c.words + blocksM c then a % c.orecs else -1
theorem sp_orec (W0 : World) (own : Own) (c : Cfg) (a : Int) : Pure Tryz.prog W0 131 [c.v, .int .i64 a] own (.int .i64 (orecM c a)) := by
  refine pure_of (spec_of mixed low_layout_Orec (by simp [ir_layout_Orec]) ?_)
  have hB := blocks_bd c
  by_cases h0 : checkM c = 0
  · have hbd := check_bd h0
    repeat' ((try (conv => whnf)); first | (apply call_q (fun _ => sp_check _ _ c)) | (apply call_q (fun _ => sp_blocks _ _ c)) | (refine when_y ?_) | (refine when_tf ?_) | (refine br_t ?_) | (refine ari ?_ ?_; omega) | (apply ld_own; (first | (solve | repeat (first | with_reducible exact List.mem_cons_self | (with_reducible (apply List.mem_append_left; exact List.mem_cons_self)) | with_reducible apply List.mem_cons_of_mem | with_reducible apply List.mem_append_right)) | (repeat (first | exact List.Mem.head _ | apply List.Mem.tail | apply List.mem_append_right))); exact rfl) | (apply ldN_all; (first | (solve | repeat (first | with_reducible exact List.mem_cons_self | (with_reducible (apply List.mem_append_left; exact List.mem_cons_self)) | with_reducible apply List.mem_cons_of_mem | with_reducible apply List.mem_append_right)) | (repeat (first | exact List.Mem.head _ | apply List.Mem.tail | apply List.mem_append_right))); exact rfl) | (refine new_i (fun bk hbk => ?_)) | (refine when_df (fun hc => ?_) (fun hc => ?_)) | (refine br_d (fun hc => ?_) (fun hc => ?_)) | (refine rem_i ?_ ?_; omega))
    all_goals first | (exfalso; omega) | (refine ⟨ret1 (vi ?_), by (repeat (first | exact Ent.refl | exact Ent.left | refine Ent.cons ?_ | refine Ent.app ?_))⟩; unfold orecM; first | (rw [if_neg (by omega)]) | (rw [if_pos (by omega)]))
  · repeat' ((try (conv => whnf)); first | (apply call_q (fun _ => sp_check _ _ c)) | (apply call_q (fun _ => sp_blocks _ _ c)) | (refine when_y ?_) | (refine when_tf ?_) | (refine br_t ?_) | (refine ari ?_ ?_; omega) | (apply ld_own; (first | (solve | repeat (first | with_reducible exact List.mem_cons_self | (with_reducible (apply List.mem_append_left; exact List.mem_cons_self)) | with_reducible apply List.mem_cons_of_mem | with_reducible apply List.mem_append_right)) | (repeat (first | exact List.Mem.head _ | apply List.Mem.tail | apply List.mem_append_right))); exact rfl) | (apply ldN_all; (first | (solve | repeat (first | with_reducible exact List.mem_cons_self | (with_reducible (apply List.mem_append_left; exact List.mem_cons_self)) | with_reducible apply List.mem_cons_of_mem | with_reducible apply List.mem_append_right)) | (repeat (first | exact List.Mem.head _ | apply List.Mem.tail | apply List.mem_append_right))); exact rfl) | (refine new_i (fun bk hbk => ?_)) | (refine when_df (fun hc => ?_) (fun hc => ?_)) | (refine br_d (fun hc => ?_) (fun hc => ?_)) | (refine rem_i ?_ ?_; omega))
    all_goals first | (exfalso; omega) | (refine ⟨ret1 (vi ?_), by (repeat (first | exact Ent.refl | exact Ent.left | refine Ent.cons ?_ | refine Ent.app ?_))⟩; unfold orecM; rw [if_neg (by omega)])
end Go.Proofs.YtllddgdmmfmpkaaGreatDoor
namespace Go.Proofs.YtllddgdmmfmpkaaGreatDoor
open Go
set_option maxRecDepth 10000
set_option maxHeartbeats 4000000
structure PH where
  a : Option Addr
  cap : Nat
  p : List Ins
abbrev PH.enc (h : PH) : List Value := [.slice h.a h.p.length h.cap]
abbrev encI (n : Int) : List Value := [.int .i64 n]
def psG : List PH → Nat → Option (Int × Int × Int)
  | [], _ => none
  | h :: l, t => if (checkP h.p).2 ≠ 0 then some (t, (checkP h.p).1, (checkP h.p).2) else psG l (t + 1)
def ksG (n : Nat) : List Int → Nat → Int × Int × Int
  | [], _ => (0, 0, 0)
  | k :: l, i => if k < 0 ∨ (n : Int) ≤ k then (0, i, 56) else ksG n l (i + 1)
def csM (c : Cfg) (il : Nat) (ps : List PH) (ks : List Int) : Int × Int × Int :=
  if checkM c ≠ 0 then (0, 0, checkM c) else if ps.length < 1 ∨ 16 < ps.length then (0, 0, 54) else if (il : Int) ≠ c.words then (0, 0, 55) else
    match psG ps 0 with
    | some r => r
    | none => if 65536 < ks.length then (0, 0, 56) else ksG ps.length ks 0
def tup3 (r : Int × Int × Int) : Value := .tuple #[.int .i64 r.1, .int .i64 r.2.1, .int .i64 r.2.2]
abbrev scrV (c : Cfg) (ia : Option Addr) (il ic : Nat) (pa : Option Addr) (pn pc : Nat) (ka : Option Addr) (kn kc : Nat) : Value :=
  .agg #[.int .i64 c.words, .int .i64 c.orecs, .int .i64 c.base, .int .i64 c.c0, .int .i64 c.c1, .int .i64 c.c2, .int .i64 c.c3, .int .i64 c.reads, .int .i64 c.writes, .int .i64 c.allocs, .int .i64 c.frees, .int .i64 c.clock, .bool c.strong, .slice ia il ic, .slice pa pn pc, .slice ka kn kc]
theorem drop_of {α : Type} {l : List α} {k : Nat} {x : α} (hx : l[k]? = some x) : l.drop k = x :: l.drop (k + 1) := by
  obtain ⟨hk, he⟩ := List.getElem?_eq_some_iff.1 hx
  rw [List.drop_eq_getElem_cons hk, he]
section
variable {W0 : World} {own : Own} {c : Cfg} {ia pa ka : Option Addr} {il ic pc kc : Nat} {ps : List PH} {ks : List Int}
theorem sp_cs (hF : FormsAt W0) (hP : RdE PH.enc 1 W0 own pa ps) (hQ : ∀ h ∈ ps, RdE Ins.enc 5 W0 own h.a h.p) (hK : RdE encI 1 W0 own ka ks) :
    Pure Tryz.prog W0 11 [scrV c ia il ic pa ps.length pc ka ks.length kc] own (tup3 (csM c il ps ks)) := by
  refine pure_of (spec_of mixed low_layout_CheckScript (by simp [ir_layout_CheckScript]) ?_)
  have hck := fun own => sp_check W0 own c
  unfold csM
  generalize checkM c = z at *
  by_cases h0 : z = 0
  · subst h0
    simp only [ne_eq, not_true_eq_false, if_false]
    by_cases h1 : ps.length < 1 ∨ 16 < ps.length
    · rw [if_pos h1]
      repeat' ((try (conv => whnf)); first | (refine br_f ?_) | (refine br_npn (by omega) ?_) | (apply call_p (hck _)) | (apply call_p (sp_within _ _ _ _ _)) | (apply ld_own; (first | (solve | repeat (first | with_reducible exact List.mem_cons_self | (with_reducible (apply List.mem_append_left; exact List.mem_cons_self)) | with_reducible apply List.mem_cons_of_mem | with_reducible apply List.mem_append_right)) | (repeat (first | exact List.Mem.head _ | apply List.Mem.tail | apply List.mem_append_right))); exact rfl) | (apply ldN_own; (first | (solve | repeat (first | with_reducible exact List.mem_cons_self | (with_reducible (apply List.mem_append_left; exact List.mem_cons_self)) | with_reducible apply List.mem_cons_of_mem | with_reducible apply List.mem_append_right)) | (repeat (first | exact List.Mem.head _ | apply List.Mem.tail | apply List.mem_append_right))); exact rfl; exact rfl) | (refine new_i (fun bk hbk => ?_)))
      all_goals exact ⟨rfl, by (repeat (first | exact Ent.refl | exact Ent.left | refine Ent.cons ?_ | refine Ent.app ?_))⟩
    · rw [if_neg h1]
      by_cases h2 : ¬ (il : Int) = c.words
      · rw [if_pos h2]
        repeat' ((try (conv => whnf)); first | (refine br_f ?_) | (refine br_py (by omega) ?_) | (refine br_npy (by omega) ?_) | (apply call_p (hck _)) | (apply call_p (sp_within _ _ _ _ _)) | (apply ld_own; (first | (solve | repeat (first | with_reducible exact List.mem_cons_self | (with_reducible (apply List.mem_append_left; exact List.mem_cons_self)) | with_reducible apply List.mem_cons_of_mem | with_reducible apply List.mem_append_right)) | (repeat (first | exact List.Mem.head _ | apply List.Mem.tail | apply List.mem_append_right))); exact rfl) | (apply ldN_own; (first | (solve | repeat (first | with_reducible exact List.mem_cons_self | (with_reducible (apply List.mem_append_left; exact List.mem_cons_self)) | with_reducible apply List.mem_cons_of_mem | with_reducible apply List.mem_append_right)) | (repeat (first | exact List.Mem.head _ | apply List.Mem.tail | apply List.mem_append_right))); exact rfl; exact rfl) | (refine new_i (fun bk hbk => ?_)))
        all_goals exact ⟨rfl, by (repeat (first | exact Ent.refl | exact Ent.left | refine Ent.cons ?_ | refine Ent.app ?_))⟩
      · rw [if_neg h2]
        repeat' ((try (conv => whnf)); first | (refine br_f ?_) | (refine br_pn (by omega) ?_) | (refine br_npy (by omega) ?_) | (apply call_p (hck _)) | (apply call_p (sp_within _ _ _ _ _)) | (apply ld_own; (first | (solve | repeat (first | with_reducible exact List.mem_cons_self | (with_reducible (apply List.mem_append_left; exact List.mem_cons_self)) | with_reducible apply List.mem_cons_of_mem | with_reducible apply List.mem_append_right)) | (repeat (first | exact List.Mem.head _ | apply List.Mem.tail | apply List.mem_append_right))); exact rfl) | (apply ldN_own; (first | (solve | repeat (first | with_reducible exact List.mem_cons_self | (with_reducible (apply List.mem_append_left; exact List.mem_cons_self)) | with_reducible apply List.mem_cons_of_mem | with_reducible apply List.mem_append_right)) | (repeat (first | exact List.Mem.head _ | apply List.Mem.tail | apply List.mem_append_right))); exact rfl; exact rfl) | (refine new_i (fun bk hbk => ?_)))
        generalize hres : psG ps 0 = res
        refine loop_c (σ := Nat) (fun t => [(33, .int .i64 t)]) (fun t => t ≤ ps.length ∧ psG (ps.drop t) t = res) (fun t => ps.length - t) 0 ⟨by omega, hres⟩ (by repeat' (first | exact True.intro | refine And.intro ?_ ?_ | exact rfl | exact vi (by omega) | (dsimp only; exact rfl) | (dsimp only; exact vi (by omega)))) rfl ?_
        rintro t junk ⟨ht, hI⟩
        by_cases hlt : t < ps.length
        · obtain ⟨x, hx⟩ : ∃ x, ps[t]? = some x := ⟨_, List.getElem?_eq_getElem hlt⟩
          have hx1 := hQ x (List.mem_of_getElem? hx)
          have hcp := fun ex => sp_pcheck (cap := x.cap) hF (hx1.ent (Ent.app (A := ex) Ent.refl))
          rw [drop_of hx, psG] at hI
          generalize checkP x.p = r at *
          by_cases hr : r.2 ≠ 0
          · rw [if_pos hr] at hI
            subst hI
            repeat' ((try (conv => whnf)); first | (refine br_py (by omega) ?_) | (refine call_p (hcp [_]) ?_) | ((with_reducible show Ld _ _ _ _); first | (refine ldE (k := 0) (RdE.ent hP ?_) hx ?_ rfl ?_; rotate_left; rfl; rotate_left; (solve | (repeat (first | exact Ent.refl | exact Ent.left | refine Ent.cons ?_ | refine Ent.app ?_))))) | ((with_reducible show IxS _ _ _ _ _); first | (refine ixE hP hx ?_ ?_; (first | rfl | omega))) | (apply sel; exact rfl))
            all_goals exact ⟨rfl, by (repeat (first | exact Ent.refl | exact Ent.left | refine Ent.cons ?_ | refine Ent.app ?_))⟩
          · rw [if_neg hr] at hI
            repeat' ((try (conv => whnf)); first | (refine br_py (by omega) ?_) | (refine br_pn (by omega) ?_) | (refine call_p (hcp [_]) ?_) | ((with_reducible show Ld _ _ _ _); first | (refine ldE (k := 0) (RdE.ent hP ?_) hx ?_ rfl ?_; rotate_left; rfl; rotate_left; (solve | (repeat (first | exact Ent.refl | exact Ent.left | refine Ent.cons ?_ | refine Ent.app ?_))))) | ((with_reducible show IxS _ _ _ _ _); first | (refine ixE hP hx ?_ ?_; (first | rfl | omega))) | (refine ari ?_ ?_; omega) | (apply sel; exact rfl))
            all_goals exact ⟨t + 1, ⟨by omega, hI⟩, by omega, (by repeat' (first | exact True.intro | refine And.intro ?_ ?_ | exact rfl | exact vi (by omega) | (dsimp only; exact rfl) | (dsimp only; exact vi (by omega)))), by (repeat (first | exact Ent.refl | exact Ent.left | refine Ent.cons ?_ | refine Ent.app ?_))⟩
        · have ht' : t = ps.length := by omega
          subst ht'
          rw [List.drop_length, psG] at hI
          subst hI
          simp only []
          by_cases h3 : 65536 < ks.length
          · rw [if_pos h3]
            repeat' ((try (conv => whnf)); first | (refine br_py (by omega) ?_) | (refine br_pn (by omega) ?_) | (apply ld_own; (first | (solve | repeat (first | with_reducible exact List.mem_cons_self | (with_reducible (apply List.mem_append_left; exact List.mem_cons_self)) | with_reducible apply List.mem_cons_of_mem | with_reducible apply List.mem_append_right)) | (repeat (first | exact List.Mem.head _ | apply List.Mem.tail | apply List.mem_append_right))); exact rfl))
            all_goals exact ⟨rfl, by (repeat (first | exact Ent.refl | exact Ent.left | refine Ent.cons ?_ | refine Ent.app ?_))⟩
          · rw [if_neg h3]
            generalize hres2 : ksG ps.length ks 0 = res2
            repeat' ((try (conv => whnf)); first | (refine br_pn (by omega) ?_) | (apply ld_own; (first | (solve | repeat (first | with_reducible exact List.mem_cons_self | (with_reducible (apply List.mem_append_left; exact List.mem_cons_self)) | with_reducible apply List.mem_cons_of_mem | with_reducible apply List.mem_append_right)) | (repeat (first | exact List.Mem.head _ | apply List.Mem.tail | apply List.mem_append_right))); exact rfl))
            refine loop_c (σ := Nat) (fun i => [(56, .int .i64 i)]) (fun i => i ≤ ks.length ∧ ksG ps.length (ks.drop i) i = res2) (fun i => ks.length - i) 0 ⟨by omega, hres2⟩ (by repeat' (first | exact True.intro | refine And.intro ?_ ?_ | exact rfl | exact vi (by omega) | (dsimp only; exact rfl) | (dsimp only; exact vi (by omega)))) rfl ?_
            rintro i junk2 ⟨hi, hI⟩
            by_cases hlt2 : i < ks.length
            · obtain ⟨k, hk⟩ : ∃ k, ks[i]? = some k := ⟨_, List.getElem?_eq_getElem hlt2⟩
              rw [drop_of hk, ksG] at hI
              by_cases hb : k < 0 ∨ (ps.length : Int) ≤ k
              · rw [if_pos hb] at hI
                subst hI
                repeat' ((try (conv => whnf)); first | (refine when_y ?_) | (refine when_tf ?_) | (refine br_t ?_) | (refine br_py (by omega) ?_) | ((with_reducible show Ld _ _ _ _); first | (refine ldE (k := 0) (RdE.ent hK ?_) hk ?_ rfl ?_; rotate_left; rfl; rotate_left; (solve | (repeat (first | exact Ent.refl | exact Ent.left | refine Ent.cons ?_ | refine Ent.app ?_))))) | ((with_reducible show IxS _ _ _ _ _); first | (refine ixE hK hk ?_ ?_; (first | rfl | omega))) | (apply ld_own; (first | (solve | repeat (first | with_reducible exact List.mem_cons_self | (with_reducible (apply List.mem_append_left; exact List.mem_cons_self)) | with_reducible apply List.mem_cons_of_mem | with_reducible apply List.mem_append_right)) | (repeat (first | exact List.Mem.head _ | apply List.Mem.tail | apply List.mem_append_right))); exact rfl) | (refine when_df (fun hc => ?_) (fun hc => ?_)))
                all_goals exact ⟨rfl, by (repeat (first | exact Ent.refl | exact Ent.left | refine Ent.cons ?_ | refine Ent.app ?_))⟩
              · rw [if_neg hb] at hI
                repeat' ((try (conv => whnf)); first | (refine when_y ?_) | (refine br_py (by omega) ?_) | (refine br_pn (by omega) ?_) | (refine when_pn (by omega) ?_) | ((with_reducible show Ld _ _ _ _); first | (refine ldE (k := 0) (RdE.ent hK ?_) hk ?_ rfl ?_; rotate_left; rfl; rotate_left; (solve | (repeat (first | exact Ent.refl | exact Ent.left | refine Ent.cons ?_ | refine Ent.app ?_))))) | ((with_reducible show IxS _ _ _ _ _); first | (refine ixE hK hk ?_ ?_; (first | rfl | omega))) | (refine ari ?_ ?_; omega) | (apply ld_own; (first | (solve | repeat (first | with_reducible exact List.mem_cons_self | (with_reducible (apply List.mem_append_left; exact List.mem_cons_self)) | with_reducible apply List.mem_cons_of_mem | with_reducible apply List.mem_append_right)) | (repeat (first | exact List.Mem.head _ | apply List.Mem.tail | apply List.mem_append_right))); exact rfl))
                all_goals exact ⟨i + 1, ⟨by omega, hI⟩, by omega, (by repeat' (first | exact True.intro | refine And.intro ?_ ?_ | exact rfl | exact vi (by omega) | (dsimp only; exact rfl) | (dsimp only; exact vi (by omega)))), by (repeat (first | exact Ent.refl | exact Ent.left | refine Ent.cons ?_ | refine Ent.app ?_))⟩
            · have hi' : i = ks.length := by omega
              subst hi'
              rw [List.drop_length, ksG] at hI
              subst hI
              repeat' ((try (conv => whnf)); first | (refine br_pn (by omega) ?_))
              all_goals exact ⟨rfl, by (repeat (first | exact Ent.refl | exact Ent.left | refine Ent.cons ?_ | refine Ent.app ?_))⟩
  · rw [if_pos h0]
    repeat' ((try (conv => whnf)); first | (refine br_py (by omega) ?_) | (apply call_p (hck _)) | (apply ldN_own; (first | (solve | repeat (first | with_reducible exact List.mem_cons_self | (with_reducible (apply List.mem_append_left; exact List.mem_cons_self)) | with_reducible apply List.mem_cons_of_mem | with_reducible apply List.mem_append_right)) | (repeat (first | exact List.Mem.head _ | apply List.Mem.tail | apply List.mem_append_right))); exact rfl; exact rfl) | (refine new_i (fun bk hbk => ?_)))
    all_goals exact ⟨rfl, by (repeat (first | exact Ent.refl | exact Ent.left | refine Ent.cons ?_ | refine Ent.app ?_))⟩
end
end Go.Proofs.YtllddgdmmfmpkaaGreatDoor
namespace Go.Proofs.YtllddgdmmfmpkaaGreatDoor
open Go
set_option maxRecDepth 10000
def commitM (p : List Ins) (k : Int) : Int := if (checkP p).2 = 0 ∧ 0 ≤ k then (match p[k.toNat]? with
  | some x => if x.op = 7 then endM p k.toNat else -1
  | none => -1) else -1
end Go.Proofs.YtllddgdmmfmpkaaGreatDoor
namespace Go.Proofs.YtllddgdmmfmpkaaGreatDoor
open Go
set_option maxRecDepth 10000
set_option maxHeartbeats 4000000
section
variable {W0 : World} {own : Own} {a : Option Addr} {cap : Nat} {p : List Ins}
theorem sp_valid (hF : FormsAt W0) (hR : RdE Ins.enc 5 W0 own a p) : Pure Tryz.prog W0 196 [.slice a p.length cap] own (.bool (decide ((checkP p).2 = 0))) := by
  refine pure_of (spec_of mixed low_program_valid (by simp [ir_program_valid]) ?_)
  have hc := sp_pcheck (cap := cap) hF hR
  generalize checkP p = r at *
  repeat' ((try (conv => whnf)); first | (refine call_p hc ?_) | (apply sel; exact rfl) | (exact Ent.refl) | (refine And.intro rfl ?_))
  all_goals exact ⟨rfl, by (repeat (first | exact Ent.refl | exact Ent.left | refine Ent.cons ?_ | refine Ent.app ?_))⟩
theorem commitM_neg {k : Int} (h : ¬ (0 ≤ k ∧ k < p.length)) : commitM p k = -1 := by
  unfold commitM
  split
  · rename_i hc
    rw [List.getElem?_eq_none (by omega)]
  · rfl
theorem commitM_at {k : Nat} {x : Ins} (hx : p[k]? = some x) : commitM p k = if (checkP p).2 = 0 ∧ x.op = 7 then (endM p k : Int) else -1 := by
  unfold commitM
  rw [Int.toNat_natCast, hx]
  simp only
  (repeat' split) <;> first | rfl | omega
theorem sp_commit (hF : FormsAt W0) (hR : RdE Ins.enc 5 W0 own a p) (hl : p.length ≤ 1099511627776) (k : Int) : Pure Tryz.prog W0 162 [.slice a p.length cap, .int .i64 k] own (.int .i64 (commitM p k)) := by
  refine pure_of (spec_of mixed low_program_Commit (by simp [ir_program_Commit]) ?_)
  have hv := sp_valid (cap := cap) hF hR
  by_cases hk : 0 ≤ k ∧ k < p.length
  · obtain ⟨j, rfl⟩ := Int.eq_ofNat_of_zero_le hk.1
    obtain ⟨x, hx⟩ : ∃ x, p[j]? = some x := ⟨_, List.getElem?_eq_getElem (by omega)⟩
    have he := sp_end (cap := cap) hR hl j (by omega)
    rw [commitM_at hx]
    generalize (checkP p).2 = r at *
    repeat' ((try (conv => whnf)); first | (refine when_y ?_) | (refine when_tf ?_) | (refine br_t ?_) | (refine when_pn (by omega) ?_) | (refine call_p hv ?_) | (refine call_p he ?_) | ((with_reducible show Ld _ _ _ _); first | (refine ldE (k := 0) (RdE.ent hR ?_) hx ?_ rfl ?_; rotate_left; rfl; rotate_left; (solve | (repeat (first | exact Ent.refl | exact Ent.left | refine Ent.cons ?_ | refine Ent.app ?_))))) | ((with_reducible show IxS _ _ _ _ _); first | (refine ixE hR hx ?_ ?_; (first | rfl | omega))) | (refine when_ndf (fun hc => ?_) (fun hc => ?_)) | (refine br_d (fun hc => ?_) (fun hc => ?_)))
    all_goals (refine ⟨ret1 (vi ?_), by (repeat (first | exact Ent.refl | exact Ent.left | refine Ent.cons ?_ | refine Ent.app ?_))⟩; (repeat' split) <;> first | rfl | (exfalso; omega) | omega)
  · rw [commitM_neg hk]
    generalize (checkP p).2 = r at *
    repeat' ((try (conv => whnf)); first | (refine when_y ?_) | (refine when_tf ?_) | (refine br_t ?_) | (refine when_py (by omega) ?_) | (refine call_p hv ?_) | (refine when_df (fun hc => ?_) (fun hc => ?_)) | (refine when_ndf (fun hc => ?_) (fun hc => ?_)))
    all_goals first | exact ⟨rfl, by (repeat (first | exact Ent.refl | exact Ent.left | refine Ent.cons ?_ | refine Ent.app ?_))⟩ | (exfalso; omega)
end
end Go.Proofs.YtllddgdmmfmpkaaGreatDoor
namespace Go.Proofs.YtllddgdmmfmpkaaGreatDoor
open Go
set_option maxRecDepth 10000
abbrev wrapu (n : Int) : Int := IntKind.u64.wrap n
abbrev okU (x : Int) : Prop := 0 ≤ x ∧ x ≤ 18446744073709551615
structure Rg where
  r0 : Int
  r1 : Int
  r2 : Int
  r3 : Int
  r4 : Int
  r5 : Int
  r6 : Int
  r7 : Int
abbrev Rg.enc (r : Rg) : List Value := [.int .u64 r.r0, .int .u64 r.r1, .int .u64 r.r2, .int .u64 r.r3, .int .u64 r.r4, .int .u64 r.r5, .int .u64 r.r6, .int .u64 r.r7]
def Rg.get (r : Rg) : Nat → Int
  | 0 => r.r0 | 1 => r.r1 | 2 => r.r2 | 3 => r.r3 | 4 => r.r4 | 5 => r.r5 | 6 => r.r6 | 7 => r.r7 | _ => 0
def Rg.set (r : Rg) : Nat → Int → Rg
  | 0, v => { r with r0 := v } | 1, v => { r with r1 := v } | 2, v => { r with r2 := v } | 3, v => { r with r3 := v }
  | 4, v => { r with r4 := v } | 5, v => { r with r5 := v } | 6, v => { r with r6 := v } | 7, v => { r with r7 := v } | _, _ => r
structure Thr where
  pc : Nat
  rg : Rg
  oc : Int
  dn : Bool
abbrev Thr.enc (t : Thr) : List Value := [.int .i64 t.pc, .int .u64 t.rg.r0, .int .u64 t.rg.r1, .int .u64 t.rg.r2, .int .u64 t.rg.r3, .int .u64 t.rg.r4, .int .u64 t.rg.r5, .int .u64 t.rg.r6, .int .u64 t.rg.r7, .int .i64 t.oc, .bool t.dn]
structure ObM where
  pc : Nat
  k : Int
  v : Int
abbrev ObM.enc (o : ObM) : List Value := [.int .i64 o.pc, .int .i64 o.k, .int .u64 o.v]
structure EvM where
  ev : Int
  t : Int
  k : Int
  w : Int
  r : List Int
  wl : List Int
def EH.m (e : EH) : EvM := ⟨e.ev, e.t, e.k, e.w, e.rl, e.wl⟩
structure GS where
  d : List Int
  tk : List Bool
  T : List Thr
  E : List EvM
  O : List (List ObM)
  n : Nat
def locR (t : Thr) (x : Ins) : Rg :=
  if x.op = 1 then t.rg.set x.a.toNat (wrapu x.imm) else if x.op = 2 then t.rg.set x.a.toNat (t.rg.get x.b.toNat)
  else if x.op = 3 then t.rg.set x.a.toNat (Alu.applyW x.imm (t.rg.get x.b.toNat) (t.rg.get x.c.toNat)) else if x.op = 17 then t.rg.set x.a.toNat (wrapu t.oc) else t.rg
def locP (t : Thr) (x : Ins) : Nat :=
  if x.op = 4 ∨ (x.op = 5 ∧ t.rg.get x.a.toNat = 0) ∨ (x.op = 6 ∧ t.rg.get x.a.toNat ≠ 0) then t.pc + 1 + x.imm.toNat else t.pc + 1
def locM (t : Thr) (x : Ins) : Thr := { t with rg := locR t x, pc := locP t x }
structure BM where
  d : List Int
  tk : List Bool
  t : Thr
  r : List Int
  w : List Int
  o : List ObM
  ad : List Int
def adr (r : Rg) (b imm : Int) : Int := wrapu (r.get b.toNat + wrapu imm)
def addI (l : List Int) (a : Int) : List Int := if a ∈ l then l else l ++ [a]
def BM.put (b : BM) (r : Int) (k v : Int) : BM := { b with t := { b.t with rg := b.t.rg.set r.toNat v, pc := b.t.pc + 1 }, o := b.o ++ [⟨b.t.pc, k, v⟩] }
def BM.go (b : BM) : BM := { b with t := { b.t with pc := b.t.pc + 1 } }
def GS.ev (s : GS) (l : List EvM) : GS := { s with E := s.E ++ l }
def GS.mem (s : GS) (d : List Int) (tk : List Bool) : GS := { s with d := d, tk := tk }
end Go.Proofs.YtllddgdmmfmpkaaGreatDoor
namespace Go.Proofs.YtllddgdmmfmpkaaGreatDoor
open Go Go.ChangeShapes Go.WideShapes Go.ChangeAt Go.RowKit
theorem list_of {α : Type} {Q : Nat → α → Prop} : ∀ n, (∀ i, i < n → ∃ y, Q i y) → ∃ l : List α, l.length = n ∧ ∀ i y, l[i]? = some y → Q i y
  | 0, _ => ⟨[], rfl, fun i y h => by simp at h⟩
  | n + 1, h => by
    obtain ⟨l, hl, hq⟩ := list_of n (fun i hi => h i (by omega))
    obtain ⟨y, hy⟩ := h n (by omega)
    refine ⟨l ++ [y], by simp [hl], fun i z hz => ?_⟩
    by_cases hi : i < l.length
    · rw [List.getElem?_append_left hi] at hz
      exact hq i z hz
    · rw [List.getElem?_append_right (by omega)] at hz
      have : i - l.length = 0 := by
        by_cases h0 : i - l.length = 0
        · exact h0
        · rw [List.getElem?_eq_none (by simp; omega)] at hz; cases hz
      rw [this] at hz
      simp only [List.getElem?_cons_zero, Option.some.injEq] at hz
      subst hz
      have : i = n := by omega
      subst this
      exact hy
section
variable {H : Type} {enc : TypeId × Value → H} {P : Program} {w : World} {spare : Nat → Bool} {held : Bool}
theorem cell_st {own : Own} {a : Addr} {v : Value} (h : w.cell? a = some v) : Kn w own (fun w' => w'.cell? a = some v) := fun w' hw => by
  have hb : a.block < w.heap.size := by
    unfold World.cell? at h
    split at h
    · rename_i hb; exact (Array.getElem?_eq_some_iff.1 hb).1
    · cases h
  exact (World.cell?_of_block (w := w) (hw.base a.block hb)).trans h
theorem trod_i64 {fuel : Nat} {t : TypeId} {cs : List Value} {x : DataW H × List MemPlace} {k : IntKind} (ht : P.underlying t = some (.int k)) (h : DataW.trod enc P w 0 spare held fuel t cs = some x) : ∃ n, cs = [.int k n] ∧ inK k n := by
  obtain ⟨n, rfl, _, hw⟩ := DataW.trod_int ht h
  refine ⟨n, rfl, inK_has ?_⟩
  simp only [Lit.wf, Bool.and_eq_true, decide_eq_true_eq] at hw
  exact hw
def fieldAt (P : Program) (t : TypeId) (i : Nat) : Option (Nat × TypeId) := match P.underlying t with
  | some (.struct fs) => (fs[i]?).map fun f => (f.offset, f.type)
  | _ => none
end
end Go.Proofs.YtllddgdmmfmpkaaGreatDoor
