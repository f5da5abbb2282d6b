/- Alu: the reference's Apply. No condition. -/
import Derived.Test.YtdbeajjomifbpaaDoorAlI
namespace Go.Proofs.YtdbeajjomifbpaaDoor
open Go
set_option maxRecDepth 10000
set_option maxHeartbeats 4000000

theorem xor_nat (a b : Nat) (ha : a < 18446744073709551616) (hb : b < 18446744073709551616) : bitF .xor .u64 (a : Int) (b : Int) = ((a ^^^ b : Nat) : Int) := by
  have h64 : (18446744073709551616 : Nat) = 2 ^ 64 := by decide
  rw [h64] at ha hb
  unfold bitF
  rw [BitVec.toNat_xor, BitVec.ofInt_natCast, BitVec.ofInt_natCast, BitVec.toNat_ofNat, BitVec.toNat_ofNat]
  show IntKind.u64.wrap ((a % 2 ^ 64 ^^^ b % 2 ^ 64 : Nat) : Int) = _
  rw [Nat.mod_eq_of_lt ha, Nat.mod_eq_of_lt hb]
  have := Nat.xor_lt_two_pow ha hb
  rw [← h64] at this
  exact wrap_u64 (by omega) (by omega)
theorem xor_l {x y : Int} (hx : okW x) (hy : okW y) : bitF .xor .u64 (bitF .xor .u64 x y) x = y := by
  unfold okW at hx hy
  obtain ⟨a, rfl⟩ := Int.eq_ofNat_of_zero_le hx.1
  obtain ⟨b, rfl⟩ := Int.eq_ofNat_of_zero_le hy.1
  have h64 : (18446744073709551616 : Nat) = 2 ^ 64 := by decide
  rw [xor_nat a b (by omega) (by omega), xor_nat _ a (by rw [h64]; exact Nat.xor_lt_two_pow (by rw [← h64]; omega) (by rw [← h64]; omega)) (by omega), Nat.xor_comm a b, Nat.xor_assoc, Nat.xor_self, Nat.xor_zero]
theorem xor_r {x y : Int} (hx : okW x) (hy : okW y) : bitF .xor .u64 (bitF .xor .u64 x y) y = x := by
  unfold okW at hx hy
  obtain ⟨a, rfl⟩ := Int.eq_ofNat_of_zero_le hx.1
  obtain ⟨b, rfl⟩ := Int.eq_ofNat_of_zero_le hy.1
  have h64 : (18446744073709551616 : Nat) = 2 ^ 64 := by decide
  rw [xor_nat a b (by omega) (by omega), xor_nat _ b (by rw [h64]; exact Nat.xor_lt_two_pow (by rw [← h64]; omega) (by rw [← h64]; omega)) (by omega), Nat.xor_assoc, Nat.xor_self, Nat.xor_zero]

theorem sgn_i {x : Int} (hx : okW x) : sgn x.toNat = decide (x / 9223372036854775808 = 1) := by
  unfold okW at hx
  unfold sgn
  by_cases h : x / 9223372036854775808 = 1
  · rw [decide_eq_true h]; simp; omega
  · rw [decide_eq_false h]; simp; omega

theorem sp_least (W0 : World) (own : Own) (x y : Int) (hx : okW x) : Pure Tryd.prog W0 28 [.int .u64 x, .int .u64 y] own (.int .u64 (if lessC x.toNat y.toNat then x else y)) := by
  have hs := sgn_i hx
  unfold okW at hx
  refine pure_of (spec_of mixed low_ref02_least (by simp [ir_ref02_least]) ?_)
  cases h1 : fcmp .lss (FloatKind.f64.format.order x.toNat y.toNat) <;> cases h2 : fcmp .eql (FloatKind.f64.format.order x.toNat y.toNat) <;> by_cases h3 : x / 9223372036854775808 = 1
  all_goals
    repeat' ((try (conv => whnf)); first | (refine when_y ?_) | (refine when_ft ?_) | (refine when_tf ?_) | (refine br_t ?_) | (refine br_f ?_) | (refine br_py (by omega) ?_) | (refine br_pn (by omega) ?_) | (refine when_py (by omega) ?_) | (refine when_pn (by omega) ?_) | (refine br_npy (by omega) ?_) | (refine br_npn (by omega) ?_) | (refine when_npy (by omega) ?_) | (refine when_npn (by omega) ?_) | (refine fcmp_e _ h1 ?_) | (refine fcmp_e _ h2 ?_) | (refine shr_l 63 9223372036854775808 rfl rfl (by omega) rfl ?_) | (refine when_y ?_) | (refine when_ft ?_) | (refine when_tf ?_) | (refine br_t ?_) | (refine br_f ?_) | (refine ari ?_ ?_; omega) | (refine aru ?_ ?_; omega) | (apply sel; exact rfl) | (refine ix0 rfl ?_) | (refine ix1 rfl ?_) | (refine ix2 rfl ?_) | (refine ix3 rfl ?_) | (refine ix4 rfl ?_) | (apply ixj; omega) | (refine ixn ?_ ?_; omega) | (apply ld_own; (first | exact List.Mem.head _ | exact List.Mem.tail _ (List.Mem.head _) | exact List.Mem.tail _ (List.Mem.tail _ (List.Mem.head _)) | exact List.Mem.tail _ (List.Mem.tail _ (List.Mem.tail _ (List.Mem.head _))) | exact List.Mem.tail _ (List.Mem.tail _ (List.Mem.tail _ (List.Mem.tail _ (List.Mem.head _)))) | exact List.Mem.tail _ (List.Mem.tail _ (List.Mem.tail _ (List.Mem.tail _ (List.Mem.tail _ (List.Mem.head _)))))); exact rfl) | (apply ldN_all; (first | exact List.Mem.head _ | exact List.Mem.tail _ (List.Mem.head _) | exact List.Mem.tail _ (List.Mem.tail _ (List.Mem.head _)) | exact List.Mem.tail _ (List.Mem.tail _ (List.Mem.tail _ (List.Mem.head _))) | exact List.Mem.tail _ (List.Mem.tail _ (List.Mem.tail _ (List.Mem.tail _ (List.Mem.head _)))) | exact List.Mem.tail _ (List.Mem.tail _ (List.Mem.tail _ (List.Mem.tail _ (List.Mem.tail _ (List.Mem.head _)))))); exact rfl) | (apply ldN_own; (first | exact List.Mem.head _ | exact List.Mem.tail _ (List.Mem.head _) | exact List.Mem.tail _ (List.Mem.tail _ (List.Mem.head _)) | exact List.Mem.tail _ (List.Mem.tail _ (List.Mem.tail _ (List.Mem.head _))) | exact List.Mem.tail _ (List.Mem.tail _ (List.Mem.tail _ (List.Mem.tail _ (List.Mem.head _)))) | exact List.Mem.tail _ (List.Mem.tail _ (List.Mem.tail _ (List.Mem.tail _ (List.Mem.tail _ (List.Mem.head _)))))); exact rfl; exact rfl) | (apply st_own; (first | exact Up.head | exact Up.tail Up.head | exact Up.tail (Up.tail Up.head) | exact Up.tail (Up.tail (Up.tail Up.head)) | exact Up.tail (Up.tail (Up.tail (Up.tail Up.head))) | exact Up.tail (Up.tail (Up.tail (Up.tail (Up.tail Up.head))))); (solve | ((try (conv => arg 2; whnf)); repeat' (first | exact Lis.nil | apply Lis.cons | apply SetAt.here | apply SetAt.there | apply PutAt.done | apply PutAt.put | apply PutAt.skip))); exact rfl) | (apply stN_own; (first | exact Up.head | exact Up.tail Up.head | exact Up.tail (Up.tail Up.head) | exact Up.tail (Up.tail (Up.tail Up.head)) | exact Up.tail (Up.tail (Up.tail (Up.tail Up.head))) | exact Up.tail (Up.tail (Up.tail (Up.tail (Up.tail Up.head))))); (solve | ((try (conv => arg 2; whnf)); repeat' (first | exact Lis.nil | apply Lis.cons | apply SetAt.here | apply SetAt.there | apply PutAt.done | apply PutAt.put | apply PutAt.skip))); exact rfl) | (refine new_i (fun bk hbk => ?_)) | (refine when_dt (fun hc => ?_) (fun hc => ?_)) | (refine when_df (fun hc => ?_) (fun hc => ?_)) | (refine when_ndt (fun hc => ?_) (fun hc => ?_)) | (refine when_ndf (fun hc => ?_) (fun hc => ?_)) | (refine br_d (fun hc => ?_) (fun hc => ?_)) | (refine br_nd (fun hc => ?_) (fun hc => ?_)) | (refine shl0 ?_ ?_; omega) | (refine shl1 ?_ ?_; omega) | (refine shl2 ?_ ?_; omega) | (refine shl3 ?_ ?_; omega) | (refine mm_min ?_) | (refine mm_max ?_) | (refine quo_i ?_ ?_; omega) | (refine rem_i ?_ ?_; omega) | (refine SelN.mk ?_) | (refine cut_n ?_) | (refine Both.mk ?_ ?_) | (exact True.intro) | (exact Ent.refl) | (refine Ent.cons ?_) | (fail))
    all_goals (refine ⟨ret1 (vi ?_), by repeat (first | exact Ent.refl | refine Ent.cons ?_)⟩; simp [lessC, h1, h2, hs, h3])
end Go.Proofs.YtdbeajjomifbpaaDoor
