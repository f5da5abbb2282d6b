/- Alu: AluCompares, AluConverts as contracts. No condition. -/
import Derived.Test.YtdbeajjomifbpaaDoorAlR
namespace Go.Proofs.YtdbeajjomifbpaaDoor
open Go
set_option maxRecDepth 10000
set_option maxHeartbeats 4000000

theorem truth_bd (b : Bool) : 0 ≤ truthM b ∧ truthM b ≤ 1 := by cases b <;> simp [truthM]
theorem wrapI {x : Int} (h : okW x) : IntKind.i64.wrap x = if x < 9223372036854775808 then x else x - 18446744073709551616 := by
  unfold okW at h
  unfold IntKind.wrap
  have h3 : ((2 : Int) ^ IntKind.i64.bits) = 18446744073709551616 := rfl
  have h4 : ((2 : Int) ^ (IntKind.i64.bits - 1)) = 9223372036854775808 := rfl
  simp only [h3, h4, IntKind.signed, Bool.true_and, decide_eq_true_eq]
  have e : x % 18446744073709551616 = x := by omega
  rw [e]
  split <;> split <;> omega
theorem three (p q r : Prop) [Decidable p] [Decidable q] [Decidable r] (h : (p ∧ ¬q ∧ ¬r) ∨ (¬p ∧ q ∧ ¬r) ∨ (¬p ∧ ¬q ∧ r)) : truthM (decide p) + truthM (decide q) + truthM (decide r) = 1 := by
  rcases h with ⟨h1, h2, h3⟩ | ⟨h1, h2, h3⟩ | ⟨h1, h2, h3⟩ <;> simp [truthM, h1, h2, h3]
theorem ap8 (x y : Int) : applyW 8 x y = truthM (decide (x = y)) := by simp [applyW, intsM]
theorem ap9 (x y : Int) : applyW 9 x y = truthM (decide (x ≠ y)) := by simp [applyW, intsM]
theorem ap10 (x y : Int) : applyW 10 x y = truthM (decide (IntKind.i64.wrap x < IntKind.i64.wrap y)) := by simp [applyW, intsM]
theorem ap11 (x y : Int) : applyW 11 x y = truthM (decide (x < y)) := by simp [applyW, intsM]
theorem ap18 (x y : Int) : applyW 18 x y = truthM (fcmp .eql (FloatKind.f64.format.order x.toNat y.toNat)) := by rw [apF (by omega)]; rfl
theorem ap19 (x y : Int) : applyW 19 x y = truthM (fcmp .lss (FloatKind.f64.format.order x.toNat y.toNat)) := by rw [apF (by omega)]; rfl
theorem order_nan {a b : Nat} (h : isN a = true ∨ isN b = true) : FloatKind.f64.format.order a b = none := by
  rw [f64_eq]
  unfold Ieee.Format.order
  rcases h with h | h <;> obtain ⟨s, f, hd⟩ := nan_of h <;> rw [hd]
  · cases Ieee.double.read b <;> rfl
  · cases Ieee.double.read a <;> rfl
theorem cmp_sum {x y : Int} : truthM (fcmp .lss (FloatKind.f64.format.order x.toNat y.toNat)) + truthM (fcmp .lss (FloatKind.f64.format.order y.toNat x.toNat)) + truthM (fcmp .eql (FloatKind.f64.format.order x.toNat y.toNat)) = if isNi x = true ∨ isNi y = true then 0 else 1 := by
  unfold isNi
  split
  · rename_i h
    rw [order_nan h, order_nan h.symm]
    rfl
  · rename_i h
    obtain ⟨N, hN⟩ : ∃ N, 2046 ≤ N := ⟨2046, Nat.le_refl _⟩
    have hx : isN x.toNat = false := by cases e : isN x.toNat <;> simp_all
    have hy : isN y.toNat = false := by cases e : isN y.toNat <;> simp_all
    rw [order_key hN hx hy, order_key hN hy hx]
    generalize key N x.toNat = k
    generalize key N y.toNat = l
    rcases Int.lt_trichotomy k l with h | h | h
    · rw [Int.compare_eq_lt.2 h, Int.compare_eq_gt.2 h]; rfl
    · rw [Int.compare_eq_eq.2 h, Int.compare_eq_eq.2 h.symm]; rfl
    · rw [Int.compare_eq_gt.2 h, Int.compare_eq_lt.2 h]; rfl
theorem feq_zero : applyW 18 0 9223372036854775808 = 1 := by decide +kernel

theorem sp_compares (W0 : World) (hN : NamesAt W0) (x y : Int) (hx : okW x) (hy : okW y) : Pure Tryd.prog W0 8 [.int .u64 x, .int .u64 y] [] (.bool true) := by
  have n1 := fun own => sp_lnan W0 own x hx
  have n2 := fun own => sp_lnan W0 own y hy
  have z1 : ∀ own, Pure Tryd.prog W0 14 [.int .i64 18, .int .u64 0, .int .u64 9223372036854775808] own (.int .u64 1) := fun own => by
    have h := sp_at W0 own 18 0 9223372036854775808 (by unfold okW; omega)
    rwa [feq_zero] at h
  have a8 := fun own => sp_at W0 own 8 x y hy
  have a9 := fun own => sp_at W0 own 9 x y hy
  have a18 := fun own => sp_at W0 own 18 x y hy
  have a19 := fun own => sp_at W0 own 19 x y hy
  have c19 := fun own => sp_at W0 own 19 y x hx
  have s89 : applyW 8 x y + applyW 9 x y = 1 := by
    rw [ap8, ap9]
    by_cases h : x = y <;> simp [truthM, h]
  have s10 : applyW 10 x y + applyW 10 y x + applyW 8 x y = 1 := by
    rw [ap8, ap10, ap10]
    have w1 := wrapI hx
    have w2 := wrapI hy
    unfold okW at hx hy
    refine three _ _ _ ?_
    rw [w1, w2]
    split <;> split <;> omega
  have s11 : applyW 11 x y + applyW 11 y x + applyW 8 x y = 1 := by
    rw [ap8, ap11, ap11]
    refine three _ _ _ ?_
    omega
  have sF : applyW 19 x y + applyW 19 y x + applyW 18 x y = if isNi x = true ∨ isNi y = true then 0 else 1 := by
    rw [ap19, ap19, ap18]; exact cmp_sum
  have b8 : 0 ≤ applyW 8 x y ∧ applyW 8 x y ≤ 1 := by rw [ap8]; exact truth_bd _
  have b9 : 0 ≤ applyW 9 x y ∧ applyW 9 x y ≤ 1 := by rw [ap9]; exact truth_bd _
  have b18 : 0 ≤ applyW 18 x y ∧ applyW 18 x y ≤ 1 := by rw [ap18]; exact truth_bd _
  have b19 : 0 ≤ applyW 19 x y ∧ applyW 19 x y ≤ 1 := by rw [ap19]; exact truth_bd _
  have d19 : 0 ≤ applyW 19 y x ∧ applyW 19 y x ≤ 1 := by rw [ap19]; exact truth_bd _
  have hab : ∀ b : Int, 0 ≤ b ∧ b < 2 → ∃ p q : Int, applyW (10 + b) x y = p ∧ applyW (10 + b) y x = q ∧ p + q + applyW 8 x y = 1 ∧ 0 ≤ p ∧ p ≤ 1 ∧ 0 ≤ q ∧ q ≤ 1 := fun b hb => by
    have hw : b = 0 ∨ b = 1 := by omega
    rcases hw with rfl | rfl
    · refine ⟨_, _, rfl, rfl, s10, ?_⟩
      have h1 := truth_bd (decide (IntKind.i64.wrap x < IntKind.i64.wrap y))
      have h2 := truth_bd (decide (IntKind.i64.wrap y < IntKind.i64.wrap x))
      rw [← ap10] at h1 h2
      exact ⟨h1.1, h1.2, h2.1, h2.2⟩
    · refine ⟨_, _, rfl, rfl, s11, ?_⟩
      have h1 := truth_bd (decide (x < y))
      have h2 := truth_bd (decide (y < x))
      rw [← ap11] at h1 h2
      exact ⟨h1.1, h1.2, h2.1, h2.2⟩
  have ab := fun own b => sp_at W0 own (10 + b) x y hy
  have ba := fun own b => sp_at W0 own (10 + b) y x hx
  clear s10 s11
  generalize applyW 8 x y = t8 at *
  generalize applyW 9 x y = t9 at *
  generalize applyW 18 x y = t18 at *
  generalize applyW 19 x y = t19 at *
  generalize applyW 19 y x = u19 at *
  refine pure_of (spec_of mixed low_law02_AluCompares (by simp [ir_law02_AluCompares]) ?_)
  repeat' ((try (conv => whnf)); first | (refine when_y ?_) | (refine when_ft ?_) | (refine when_tf ?_) | (refine br_t ?_) | (refine br_f ?_) | (refine br_py (by omega) ?_) | (refine br_pn (by omega) ?_) | (refine when_py (by omega) ?_) | (refine when_pn (by omega) ?_) | (refine br_npy (by omega) ?_) | (refine br_npn (by omega) ?_) | (refine when_npy (by omega) ?_) | (refine when_npn (by omega) ?_) | (refine when_y ?_) | (refine when_ft ?_) | (refine when_tf ?_) | (refine br_t ?_) | (refine br_f ?_) | (refine ari ?_ ?_; omega) | (refine aru ?_ ?_; omega) | (apply sel; exact rfl) | (refine ix0 rfl ?_) | (refine ix1 rfl ?_) | (refine ix2 rfl ?_) | (refine ix3 rfl ?_) | (refine ix4 rfl ?_) | (apply ixj; omega) | (refine ixn ?_ ?_; omega) | (apply ld_own; (first | exact List.Mem.head _ | exact List.Mem.tail _ (List.Mem.head _) | exact List.Mem.tail _ (List.Mem.tail _ (List.Mem.head _)) | exact List.Mem.tail _ (List.Mem.tail _ (List.Mem.tail _ (List.Mem.head _))) | exact List.Mem.tail _ (List.Mem.tail _ (List.Mem.tail _ (List.Mem.tail _ (List.Mem.head _)))) | exact List.Mem.tail _ (List.Mem.tail _ (List.Mem.tail _ (List.Mem.tail _ (List.Mem.tail _ (List.Mem.head _)))))); exact rfl) | (apply ldN_all; (first | exact List.Mem.head _ | exact List.Mem.tail _ (List.Mem.head _) | exact List.Mem.tail _ (List.Mem.tail _ (List.Mem.head _)) | exact List.Mem.tail _ (List.Mem.tail _ (List.Mem.tail _ (List.Mem.head _))) | exact List.Mem.tail _ (List.Mem.tail _ (List.Mem.tail _ (List.Mem.tail _ (List.Mem.head _)))) | exact List.Mem.tail _ (List.Mem.tail _ (List.Mem.tail _ (List.Mem.tail _ (List.Mem.tail _ (List.Mem.head _)))))); exact rfl) | (apply ldN_own; (first | exact List.Mem.head _ | exact List.Mem.tail _ (List.Mem.head _) | exact List.Mem.tail _ (List.Mem.tail _ (List.Mem.head _)) | exact List.Mem.tail _ (List.Mem.tail _ (List.Mem.tail _ (List.Mem.head _))) | exact List.Mem.tail _ (List.Mem.tail _ (List.Mem.tail _ (List.Mem.tail _ (List.Mem.head _)))) | exact List.Mem.tail _ (List.Mem.tail _ (List.Mem.tail _ (List.Mem.tail _ (List.Mem.tail _ (List.Mem.head _)))))); exact rfl; exact rfl) | (apply st_own; (first | exact Up.head | exact Up.tail Up.head | exact Up.tail (Up.tail Up.head) | exact Up.tail (Up.tail (Up.tail Up.head)) | exact Up.tail (Up.tail (Up.tail (Up.tail Up.head))) | exact Up.tail (Up.tail (Up.tail (Up.tail (Up.tail Up.head))))); (solve | ((try (conv => arg 2; whnf)); repeat' (first | exact Lis.nil | apply Lis.cons | apply SetAt.here | apply SetAt.there | apply PutAt.done | apply PutAt.put | apply PutAt.skip))); exact rfl) | (apply stN_own; (first | exact Up.head | exact Up.tail Up.head | exact Up.tail (Up.tail Up.head) | exact Up.tail (Up.tail (Up.tail Up.head)) | exact Up.tail (Up.tail (Up.tail (Up.tail Up.head))) | exact Up.tail (Up.tail (Up.tail (Up.tail (Up.tail Up.head))))); (solve | ((try (conv => arg 2; whnf)); repeat' (first | exact Lis.nil | apply Lis.cons | apply SetAt.here | apply SetAt.there | apply PutAt.done | apply PutAt.put | apply PutAt.skip))); exact rfl) | (refine new_i (fun bk hbk => ?_)) | (refine when_dt (fun hc => ?_) (fun hc => ?_)) | (refine when_df (fun hc => ?_) (fun hc => ?_)) | (refine when_ndt (fun hc => ?_) (fun hc => ?_)) | (refine when_ndf (fun hc => ?_) (fun hc => ?_)) | (refine br_d (fun hc => ?_) (fun hc => ?_)) | (refine br_nd (fun hc => ?_) (fun hc => ?_)) | (refine shl0 ?_ ?_; omega) | (refine shl1 ?_ ?_; omega) | (refine shl2 ?_ ?_; omega) | (refine shl3 ?_ ?_; omega) | (refine mm_min ?_) | (refine mm_max ?_) | (refine quo_i ?_ ?_; omega) | (refine rem_i ?_ ?_; omega) | (refine SelN.mk ?_) | (refine cut_n ?_) | (refine Both.mk ?_ ?_) | (exact True.intro) | (exact Ent.refl) | (refine Ent.cons ?_) | (fail))
  refine loop_c (σ := Int) (fun b => [(5, .int .i64 b)]) (fun b => 0 ≤ b ∧ b ≤ 2) (fun b => (2 - b).toNat) 0 ⟨by omega, by omega⟩ (by repeat' (first | exact True.intro | refine And.intro ?_ ?_ | exact rfl | exact vi (by omega))) rfl ?_
  rintro b junk ⟨hb0, hb1⟩
  by_cases hlt : b < 2
  · obtain ⟨p, q, hp, hq, hpq, hp0, hp1, hq0, hq1⟩ := hab b ⟨hb0, hlt⟩
    have ab' := fun own => ab own b
    have ba' := fun own => ba own b
    rw [hp] at ab'
    rw [hq] at ba'
    clear ab ba hp hq
    repeat' ((try (conv => whnf)); first | (refine when_y ?_) | (refine when_ft ?_) | (refine when_tf ?_) | (refine br_t ?_) | (refine br_f ?_) | (refine br_py (by omega) ?_) | (refine br_pn (by omega) ?_) | (refine when_py (by omega) ?_) | (refine when_pn (by omega) ?_) | (refine br_npy (by omega) ?_) | (refine br_npn (by omega) ?_) | (refine when_npy (by omega) ?_) | (refine when_npn (by omega) ?_) | (apply call_p (ab' _)) | (apply call_q (fun _ => ab' _)) | (apply call_p (ba' _)) | (apply call_q (fun _ => ba' _)) | (apply call_p (a8 _)) | (apply call_q (fun _ => a8 _)) | (apply call_p (a9 _)) | (apply call_q (fun _ => a9 _)) | (refine when_y ?_) | (refine when_ft ?_) | (refine when_tf ?_) | (refine br_t ?_) | (refine br_f ?_) | (refine ari ?_ ?_; omega) | (refine aru ?_ ?_; omega) | (apply sel; exact rfl) | (refine ix0 rfl ?_) | (refine ix1 rfl ?_) | (refine ix2 rfl ?_) | (refine ix3 rfl ?_) | (refine ix4 rfl ?_) | (apply ixj; omega) | (refine ixn ?_ ?_; omega) | (apply ld_own; (first | exact List.Mem.head _ | exact List.Mem.tail _ (List.Mem.head _) | exact List.Mem.tail _ (List.Mem.tail _ (List.Mem.head _)) | exact List.Mem.tail _ (List.Mem.tail _ (List.Mem.tail _ (List.Mem.head _))) | exact List.Mem.tail _ (List.Mem.tail _ (List.Mem.tail _ (List.Mem.tail _ (List.Mem.head _)))) | exact List.Mem.tail _ (List.Mem.tail _ (List.Mem.tail _ (List.Mem.tail _ (List.Mem.tail _ (List.Mem.head _)))))); exact rfl) | (apply ldN_all; (first | exact List.Mem.head _ | exact List.Mem.tail _ (List.Mem.head _) | exact List.Mem.tail _ (List.Mem.tail _ (List.Mem.head _)) | exact List.Mem.tail _ (List.Mem.tail _ (List.Mem.tail _ (List.Mem.head _))) | exact List.Mem.tail _ (List.Mem.tail _ (List.Mem.tail _ (List.Mem.tail _ (List.Mem.head _)))) | exact List.Mem.tail _ (List.Mem.tail _ (List.Mem.tail _ (List.Mem.tail _ (List.Mem.tail _ (List.Mem.head _)))))); exact rfl) | (apply ldN_own; (first | exact List.Mem.head _ | exact List.Mem.tail _ (List.Mem.head _) | exact List.Mem.tail _ (List.Mem.tail _ (List.Mem.head _)) | exact List.Mem.tail _ (List.Mem.tail _ (List.Mem.tail _ (List.Mem.head _))) | exact List.Mem.tail _ (List.Mem.tail _ (List.Mem.tail _ (List.Mem.tail _ (List.Mem.head _)))) | exact List.Mem.tail _ (List.Mem.tail _ (List.Mem.tail _ (List.Mem.tail _ (List.Mem.tail _ (List.Mem.head _)))))); exact rfl; exact rfl) | (apply st_own; (first | exact Up.head | exact Up.tail Up.head | exact Up.tail (Up.tail Up.head) | exact Up.tail (Up.tail (Up.tail Up.head)) | exact Up.tail (Up.tail (Up.tail (Up.tail Up.head))) | exact Up.tail (Up.tail (Up.tail (Up.tail (Up.tail Up.head))))); (solve | ((try (conv => arg 2; whnf)); repeat' (first | exact Lis.nil | apply Lis.cons | apply SetAt.here | apply SetAt.there | apply PutAt.done | apply PutAt.put | apply PutAt.skip))); exact rfl) | (apply stN_own; (first | exact Up.head | exact Up.tail Up.head | exact Up.tail (Up.tail Up.head) | exact Up.tail (Up.tail (Up.tail Up.head)) | exact Up.tail (Up.tail (Up.tail (Up.tail Up.head))) | exact Up.tail (Up.tail (Up.tail (Up.tail (Up.tail Up.head))))); (solve | ((try (conv => arg 2; whnf)); repeat' (first | exact Lis.nil | apply Lis.cons | apply SetAt.here | apply SetAt.there | apply PutAt.done | apply PutAt.put | apply PutAt.skip))); exact rfl) | (refine new_i (fun bk hbk => ?_)) | (refine when_dt (fun hc => ?_) (fun hc => ?_)) | (refine when_df (fun hc => ?_) (fun hc => ?_)) | (refine when_ndt (fun hc => ?_) (fun hc => ?_)) | (refine when_ndf (fun hc => ?_) (fun hc => ?_)) | (refine br_d (fun hc => ?_) (fun hc => ?_)) | (refine br_nd (fun hc => ?_) (fun hc => ?_)) | (refine shl0 ?_ ?_; omega) | (refine shl1 ?_ ?_; omega) | (refine shl2 ?_ ?_; omega) | (refine shl3 ?_ ?_; omega) | (refine mm_min ?_) | (refine mm_max ?_) | (refine quo_i ?_ ?_; omega) | (refine rem_i ?_ ?_; omega) | (refine SelN.mk ?_) | (refine cut_n ?_) | (refine Both.mk ?_ ?_) | (exact True.intro) | (exact Ent.refl) | (refine Ent.cons ?_) | (fail))
    exact ⟨b + 1, ⟨by omega, by omega⟩, by omega, (by repeat' (first | exact True.intro | refine And.intro ?_ ?_ | exact rfl | exact vi (by omega))), Ent.refl⟩
  · cases e1 : isNi x <;> cases e2 : isNi y <;> rw [e1] at n1 sF <;> rw [e2] at n2 sF <;> simp only [or_self, or_true, true_or, Bool.false_eq_true, if_true, if_false] at sF
    all_goals
      repeat' ((try (conv => whnf)); first | (refine when_y ?_) | (refine when_ft ?_) | (refine when_tf ?_) | (refine br_t ?_) | (refine br_f ?_) | (refine br_py (by omega) ?_) | (refine br_pn (by omega) ?_) | (refine when_py (by omega) ?_) | (refine when_pn (by omega) ?_) | (refine br_npy (by omega) ?_) | (refine br_npn (by omega) ?_) | (refine when_npy (by omega) ?_) | (refine when_npn (by omega) ?_) | (apply call_p (a18 _)) | (apply call_q (fun _ => a18 _)) | (apply call_p (a19 _)) | (apply call_q (fun _ => a19 _)) | (apply call_p (c19 _)) | (apply call_q (fun _ => c19 _)) | (apply call_p (z1 _)) | (apply call_q (fun _ => z1 _)) | (apply call_p (n1 _)) | (apply call_q (fun _ => n1 _)) | (apply call_p (n2 _)) | (apply call_q (fun _ => n2 _)) | (apply call_p (sp_awake _ _ hN)) | (apply call_q (fun _ => sp_awake _ _ hN)) | (refine when_y ?_) | (refine when_ft ?_) | (refine when_tf ?_) | (refine br_t ?_) | (refine br_f ?_) | (refine ari ?_ ?_; omega) | (refine aru ?_ ?_; omega) | (apply sel; exact rfl) | (refine ix0 rfl ?_) | (refine ix1 rfl ?_) | (refine ix2 rfl ?_) | (refine ix3 rfl ?_) | (refine ix4 rfl ?_) | (apply ixj; omega) | (refine ixn ?_ ?_; omega) | (apply ld_own; (first | exact List.Mem.head _ | exact List.Mem.tail _ (List.Mem.head _) | exact List.Mem.tail _ (List.Mem.tail _ (List.Mem.head _)) | exact List.Mem.tail _ (List.Mem.tail _ (List.Mem.tail _ (List.Mem.head _))) | exact List.Mem.tail _ (List.Mem.tail _ (List.Mem.tail _ (List.Mem.tail _ (List.Mem.head _)))) | exact List.Mem.tail _ (List.Mem.tail _ (List.Mem.tail _ (List.Mem.tail _ (List.Mem.tail _ (List.Mem.head _)))))); exact rfl) | (apply ldN_all; (first | exact List.Mem.head _ | exact List.Mem.tail _ (List.Mem.head _) | exact List.Mem.tail _ (List.Mem.tail _ (List.Mem.head _)) | exact List.Mem.tail _ (List.Mem.tail _ (List.Mem.tail _ (List.Mem.head _))) | exact List.Mem.tail _ (List.Mem.tail _ (List.Mem.tail _ (List.Mem.tail _ (List.Mem.head _)))) | exact List.Mem.tail _ (List.Mem.tail _ (List.Mem.tail _ (List.Mem.tail _ (List.Mem.tail _ (List.Mem.head _)))))); exact rfl) | (apply ldN_own; (first | exact List.Mem.head _ | exact List.Mem.tail _ (List.Mem.head _) | exact List.Mem.tail _ (List.Mem.tail _ (List.Mem.head _)) | exact List.Mem.tail _ (List.Mem.tail _ (List.Mem.tail _ (List.Mem.head _))) | exact List.Mem.tail _ (List.Mem.tail _ (List.Mem.tail _ (List.Mem.tail _ (List.Mem.head _)))) | exact List.Mem.tail _ (List.Mem.tail _ (List.Mem.tail _ (List.Mem.tail _ (List.Mem.tail _ (List.Mem.head _)))))); exact rfl; exact rfl) | (apply st_own; (first | exact Up.head | exact Up.tail Up.head | exact Up.tail (Up.tail Up.head) | exact Up.tail (Up.tail (Up.tail Up.head)) | exact Up.tail (Up.tail (Up.tail (Up.tail Up.head))) | exact Up.tail (Up.tail (Up.tail (Up.tail (Up.tail Up.head))))); (solve | ((try (conv => arg 2; whnf)); repeat' (first | exact Lis.nil | apply Lis.cons | apply SetAt.here | apply SetAt.there | apply PutAt.done | apply PutAt.put | apply PutAt.skip))); exact rfl) | (apply stN_own; (first | exact Up.head | exact Up.tail Up.head | exact Up.tail (Up.tail Up.head) | exact Up.tail (Up.tail (Up.tail Up.head)) | exact Up.tail (Up.tail (Up.tail (Up.tail Up.head))) | exact Up.tail (Up.tail (Up.tail (Up.tail (Up.tail Up.head))))); (solve | ((try (conv => arg 2; whnf)); repeat' (first | exact Lis.nil | apply Lis.cons | apply SetAt.here | apply SetAt.there | apply PutAt.done | apply PutAt.put | apply PutAt.skip))); exact rfl) | (refine new_i (fun bk hbk => ?_)) | (refine when_dt (fun hc => ?_) (fun hc => ?_)) | (refine when_df (fun hc => ?_) (fun hc => ?_)) | (refine when_ndt (fun hc => ?_) (fun hc => ?_)) | (refine when_ndf (fun hc => ?_) (fun hc => ?_)) | (refine br_d (fun hc => ?_) (fun hc => ?_)) | (refine br_nd (fun hc => ?_) (fun hc => ?_)) | (refine shl0 ?_ ?_; omega) | (refine shl1 ?_ ?_; omega) | (refine shl2 ?_ ?_; omega) | (refine shl3 ?_ ?_; omega) | (refine mm_min ?_) | (refine mm_max ?_) | (refine quo_i ?_ ?_; omega) | (refine rem_i ?_ ?_; omega) | (refine SelN.mk ?_) | (refine cut_n ?_) | (refine Both.mk ?_ ?_) | (exact True.intro) | (exact Ent.refl) | (refine Ent.cons ?_) | (fail))
      all_goals exact ⟨rfl, by repeat (first | exact Ent.refl | refine Ent.cons ?_)⟩
end Go.Proofs.YtdbeajjomifbpaaDoor
