/- Alu: AluConverts as a contract. No condition. -/
import Derived.Test.YtdbeajjomifbpaaDoorAlS
namespace Go.Proofs.YtdbeajjomifbpaaDoor
open Go
set_option maxRecDepth 10000
set_option maxHeartbeats 4000000

theorem near_read (s : Bool) (m : Nat) (hm : 0 < m) (hb : m < 9007199254740992) :
    ∃ L kept : Nat, L ≤ 52 ∧ kept = m * 2 ^ (52 - L) ∧ 4503599627370496 ≤ kept ∧ kept < 9007199254740992 ∧ Ieee.double.read (Ieee.double.nearest s m 0) = .number s kept ((L : Int) - 52) := by
  have h0 : m ≠ 0 := by omega
  have h1 : 2 ^ m.log2 ≤ m := Nat.log2_self_le h0
  have h2 : m < 2 ^ (m.log2 + 1) := Nat.lt_log2_self
  have p53 : (9007199254740992 : Nat) = 2 ^ 53 := by decide
  have p52 : (4503599627370496 : Nat) = 2 ^ 52 := by decide
  have hL : m.log2 ≤ 52 := by
    have : 2 ^ m.log2 < 2 ^ 53 := by omega
    have := (Nat.pow_lt_pow_iff_right (by omega : 1 < 2)).1 this
    omega
  have k1 : 4503599627370496 ≤ m * 2 ^ (52 - m.log2) := by
    have := Nat.mul_le_mul_right (2 ^ (52 - m.log2)) h1
    rw [← Nat.pow_add] at this
    have e : m.log2 + (52 - m.log2) = 52 := by omega
    rw [e] at this
    omega
  have k2 : m * 2 ^ (52 - m.log2) < 9007199254740992 := by
    have := Nat.mul_lt_mul_of_pos_right h2 (Nat.two_pow_pos (52 - m.log2))
    rw [← Nat.pow_add] at this
    have e : m.log2 + 1 + (52 - m.log2) = 53 := by omega
    rw [e] at this
    omega
  refine ⟨m.log2, m * 2 ^ (52 - m.log2), hL, rfl, k1, k2, ?_⟩
  have lp : Ieee.double.leastPlace = -1074 := by decide
  have fb : Ieee.double.fractionBits = 52 := rfl
  have hn : Ieee.double.nearest s m 0 = Ieee.double.word s ((m.log2 + 1022) * 4503599627370496 + m * 2 ^ (52 - m.log2)) := by
    unfold Ieee.Format.nearest
    rw [if_neg h0]
    simp only [lp, fb, bn, ir]
    have e1 : max ((0 : Int) + (m.log2 : Int) - ((52 : Nat) : Int)) (-1074) = (m.log2 : Int) - 52 := by omega
    rw [e1]
    have e2 : (0 - ((m.log2 : Int) - 52)).toNat = 52 - m.log2 := by omega
    have e3 : ((m.log2 : Int) - 52 - 0).toNat = 0 := by omega
    have e4 : ((m.log2 : Int) - 52 - -1074).toNat = m.log2 + 1022 := by omega
    rw [e2, e3, e4]
    have ec : Ieee.Toward.even.cut s (m <<< (52 - m.log2)) 0 = m * 2 ^ (52 - m.log2) := by
      simp [Ieee.Toward.cut, Nat.shiftLeft_eq, Nat.mod_one]
    rw [ec, Nat.min_eq_left (by omega)]
  generalize m * 2 ^ (52 - m.log2) = kept at *
  generalize m.log2 = L at *
  rw [hn]
  unfold Ieee.Format.read Ieee.Format.word
  simp only [sw, bn, ir, lp]
  have q : ((if s = true then 9223372036854775808 + ((L + 1022) * 4503599627370496 + kept) else (L + 1022) * 4503599627370496 + kept) % 9223372036854775808) = (L + 1022) * 4503599627370496 + kept := by
    cases s <;> simp <;> omega
  have r : ((if s = true then 9223372036854775808 + ((L + 1022) * 4503599627370496 + kept) else (L + 1022) * 4503599627370496 + kept) / 9223372036854775808 % 2 == 1) = s := by
    cases s <;> simp <;> omega
  rw [q, r, if_neg (by omega), if_pos (by omega)]
  congr 1
  · omega
  · omega

theorem conv_back (n : Int) (hb : -9007199254740992 < n ∧ n < 9007199254740992) : toIntM (FloatKind.f64.nearest n) = n := by
  by_cases h0 : n = 0
  · subst h0; decide +kernel
  · have hnr : FloatKind.f64.nearest n = Ieee.double.nearest (decide (n < 0)) n.natAbs 0 := rfl
    obtain ⟨L, kept, hL, hk, k1, k2, hr⟩ := near_read (decide (n < 0)) n.natAbs (by omega) (by omega)
    rw [← hnr] at hr
    generalize FloatKind.f64.nearest n = b at *
    have hnan : isN b = false := by rw [← read_nan, hr]; rfl
    have e1 : min ((L : Int) - 52) 11 = (L : Int) - 52 := by omega
    have e2 : ((L : Int) - 52 - ((L : Int) - 52)).toNat = 0 := by omega
    have e3 : (11 - ((L : Int) - 52)).toNat = 63 - L := by omega
    have hp : 1 ≤ 2 ^ (63 - L) := Nat.one_le_two_pow
    have hp2 : 2 ≤ 2 ^ (63 - L) := by
      have : 2 ^ 1 ≤ 2 ^ (63 - L) := Nat.pow_le_pow_right (by omega) (by omega)
      omega
    have hbig : kept < 4503599627370496 * 2 ^ (63 - L) := by
      have := Nat.mul_le_mul_left 4503599627370496 hp2
      omega
    have g1 : fcmp .geq (FloatKind.f64.format.order b limW) = false := by
      rw [f64_eq]
      unfold Ieee.Format.order
      rw [hr, read_lim]
      simp only [Ieee.Datum.order, e1, e2, e3, fcmp]
      have hc : compare (Ieee.signed (decide (n < 0)) kept 0) (Ieee.signed false 4503599627370496 (63 - L)) = .lt := by
        rw [Int.compare_eq_lt]
        simp only [Ieee.signed, Bool.false_eq_true, if_false, Nat.shiftLeft_eq, Nat.pow_zero, Nat.mul_one]
        split <;> omega
      rw [hc]
      rfl
    have g2 : fcmp .lss (FloatKind.f64.format.order b limN) = false := by
      rw [f64_eq]
      unfold Ieee.Format.order
      rw [hr, read_limN]
      simp only [Ieee.Datum.order, e1, e2, e3, fcmp]
      have hc : compare (Ieee.signed (decide (n < 0)) kept 0) (Ieee.signed true 4503599627370496 (63 - L)) = .gt := by
        rw [Int.compare_eq_gt]
        simp only [Ieee.signed, if_true, Nat.shiftLeft_eq, Nat.pow_zero, Nat.mul_one]
        split <;> omega
      rw [hc]
      rfl
    unfold toIntM
    rw [hnan, g1, g2]
    simp only [Bool.false_eq_true, if_false]
    have hdec : FloatKind.f64.decode b = Ieee.double.read b := rfl
    unfold floatToIntVal
    rw [hdec, hr]
    simp only [Ieee.Datum.toInt, Ieee.Datum.integral]
    have e4 : ((L : Int) - 52).toNat = 0 := by omega
    have e5 : (-((L : Int) - 52)).toNat = 52 - L := by omega
    have hlog : 52 ≤ kept.log2 := (Nat.le_log2 (by omega)).2 (by have : (2 : Nat) ^ 52 = 4503599627370496 := by decide
                                                                 omega)
    have hcut : Ieee.Toward.zero.cut (decide (n < 0)) (kept <<< 0) (52 - L) = n.natAbs := by
      rw [cut_zero, Nat.shiftLeft_zero, Nat.min_eq_left (by omega), hk]
      exact Nat.mul_div_cancel _ (Nat.two_pow_pos _)
    rw [e4, e5, hcut]
    have hs : Ieee.signed (decide (n < 0)) n.natAbs 0 = n := by
      simp only [Ieee.signed, Nat.shiftLeft_zero]
      by_cases hneg : n < 0
      · simp [hneg]; omega
      · simp [hneg]; omega
    rw [hs]
    have hmin : IntKind.i64.min = -9223372036854775808 := rfl
    have hmax : IntKind.i64.max = 9223372036854775807 := rfl
    rw [hmin, hmax, if_pos (by omega)]
    rfl

theorem ap20 (x y : Int) : applyW 20 x y = FloatKind.f64.nearest (IntKind.i64.wrap x) := by simp [applyW]
theorem ap21 (x y : Int) : applyW 21 x y = IntKind.u64.wrap (toIntM x.toNat) := by simp [applyW]
theorem back {k y : Int} (hk : okW k) (hb : k < 9007199254740992 ∨ 18437736874454810624 < k) : applyW 21 (applyW 20 k y) y = k := by
  rw [ap21, ap20, Int.toNat_natCast]
  have hw := wrapI hk
  unfold okW at hk
  rw [conv_back _ (by rw [hw]; split <;> omega), hw, wrapU]
  split <;> omega
theorem or_nan {n : Int} (h : okW n) : ∃ r : Nat, bitF .or .u64 n 9218868437227405313 = r ∧ isN r = true := by
  obtain ⟨n, rfl⟩ := Int.eq_ofNat_of_zero_le h.1
  unfold okW at h
  have h64 : (18446744073709551616 : Nat) = 2 ^ 64 := by decide
  have hn : n < 2 ^ 64 := by omega
  have hlt : n ||| 9218868437227405313 < 2 ^ 64 := Nat.or_lt_two_pow hn (by decide)
  refine ⟨n ||| 9218868437227405313, ?_, ?_⟩
  · unfold bitF
    have e : (9218868437227405313 : Int) = ((9218868437227405313 : Nat) : Int) := rfl
    rw [e, BitVec.toNat_or, BitVec.ofInt_natCast, BitVec.ofInt_natCast, BitVec.toNat_ofNat, BitVec.toNat_ofNat]
    show IntKind.u64.wrap ((n % 2 ^ 64 ||| 9218868437227405313 % 2 ^ 64 : Nat) : Int) = _
    rw [Nat.mod_eq_of_lt hn, Nat.mod_eq_of_lt (by decide : 9218868437227405313 < 2 ^ 64)]
    exact wrap_u64 (by omega) (by omega)
  · unfold isN
    rw [decide_eq_true_eq]
    have e63 : (9223372036854775808 : Nat) = 2 ^ 63 := by decide
    have hc : 9218868437227405313 % 2 ^ 63 = 9218868437227405313 := by decide
    rw [e63, Nat.or_mod_two_pow, hc]
    have : 9218868437227405313 ≤ n % 2 ^ 63 ||| 9218868437227405313 := Nat.right_le_or
    omega
theorem toint_inf : IntKind.u64.wrap (toIntM 9218868437227405312) = 9223372036854775807 := by decide +kernel
theorem toint_ninf : IntKind.u64.wrap (toIntM 18442240474082181120) = 9223372036854775808 := by decide +kernel
theorem toint_nz : IntKind.u64.wrap (toIntM 9223372036854775808) = 0 := by decide +kernel

theorem sp_converts (W0 : World) (hN : NamesAt W0) (x n : Int) (hx : okW x) (hn : okW n) : Pure Tryd.prog W0 9 [.int .u64 x, .int .u64 n] [] (.bool true) := by
  obtain ⟨r, hr, hrn⟩ := or_nan hn
  have c1 : ∀ own, Pure Tryd.prog W0 14 [.int .i64 21, .int .u64 9218868437227405312, .int .u64 x] own (.int .u64 9223372036854775807) := fun own => by
    have h := sp_at W0 own 21 9218868437227405312 x hx
    rw [ap21] at h
    exact (show IntKind.u64.wrap (toIntM (Int.toNat 9218868437227405312)) = _ from toint_inf) ▸ h
  have c2 : ∀ own, Pure Tryd.prog W0 14 [.int .i64 21, .int .u64 18442240474082181120, .int .u64 x] own (.int .u64 9223372036854775808) := fun own => by
    have h := sp_at W0 own 21 18442240474082181120 x hx
    rw [ap21] at h
    exact (show IntKind.u64.wrap (toIntM (Int.toNat 18442240474082181120)) = _ from toint_ninf) ▸ h
  have c3 : ∀ own, Pure Tryd.prog W0 14 [.int .i64 21, .int .u64 r, .int .u64 x] own (.int .u64 0) := fun own => by
    have h := sp_at W0 own 21 r x hx
    rw [ap21, Int.toNat_natCast] at h
    have e : toIntM r = 0 := by unfold toIntM; rw [hrn]; rfl
    rw [e] at h
    exact h
  have c4 : ∀ own, Pure Tryd.prog W0 14 [.int .i64 21, .int .u64 9223372036854775808, .int .u64 x] own (.int .u64 0) := fun own => by
    have h := sp_at W0 own 21 9223372036854775808 x hx
    rw [ap21] at h
    exact (show IntKind.u64.wrap (toIntM (Int.toNat 9223372036854775808)) = _ from toint_nz) ▸ h
  have hand : bitF .and .u64 x 1 = x % 2 := and_low 1 x 1 hx.1 (by have := hx.2; omega) rfl (by omega)
  refine pure_of (spec_of mixed low_law02_AluConverts (by simp [ir_law02_AluConverts]) ?_)
  by_cases hodd : x % 2 = 1
  · obtain ⟨k, hk⟩ : ∃ k, k = IntKind.u64.wrap (0 - x / 2048) := ⟨_, rfl⟩
    have hkm : k = (0 - x / 2048) % 18446744073709551616 := by rw [hk, wrapU]
    have hkW : okW k := by rw [hk]; exact wrapU_ok _
    unfold okW at hx
    have hb := back (y := n) hkW (by omega)
    have a1 := fun own => sp_at W0 own 20 k n hn
    have a2 := fun own => sp_at W0 own 21 (applyW 20 k n) n hn
    rw [hb] at a2
    repeat' ((try (conv => whnf)); first | (refine when_y ?_) | (refine when_ft ?_) | (refine when_tf ?_) | (refine br_t ?_) | (refine br_f ?_) | (refine br_py (by omega) ?_) | (refine br_pn (by omega) ?_) | (refine when_py (by omega) ?_) | (refine when_pn (by omega) ?_) | (refine br_npy (by omega) ?_) | (refine br_npn (by omega) ?_) | (refine when_npy (by omega) ?_) | (refine when_npn (by omega) ?_) | (refine shr_l 11 2048 rfl rfl (by omega) rfl ?_) | (refine bit_e _ hand ?_) | (refine bit_e _ hr ?_) | (refine ⟨?_⟩; rw [← hk]) | (apply call_p (a1 _)) | (apply call_q (fun _ => a1 _)) | (apply call_p (a2 _)) | (apply call_q (fun _ => a2 _)) | (apply call_p (c1 _)) | (apply call_q (fun _ => c1 _)) | (apply call_p (c2 _)) | (apply call_q (fun _ => c2 _)) | (apply call_p (c3 _)) | (apply call_q (fun _ => c3 _)) | (apply call_p (c4 _)) | (apply call_q (fun _ => c4 _)) | (apply call_p (sp_awake _ _ hN)) | (apply call_q (fun _ => sp_awake _ _ hN)) | (refine when_y ?_) | (refine when_ft ?_) | (refine when_tf ?_) | (refine br_t ?_) | (refine br_f ?_) | (refine ari ?_ ?_; omega) | (refine aru ?_ ?_; omega) | (apply sel; exact rfl) | (refine ix0 rfl ?_) | (refine ix1 rfl ?_) | (refine ix2 rfl ?_) | (refine ix3 rfl ?_) | (refine ix4 rfl ?_) | (apply ixj; omega) | (refine ixn ?_ ?_; omega) | (apply ld_own; (first | exact List.Mem.head _ | exact List.Mem.tail _ (List.Mem.head _) | exact List.Mem.tail _ (List.Mem.tail _ (List.Mem.head _)) | exact List.Mem.tail _ (List.Mem.tail _ (List.Mem.tail _ (List.Mem.head _))) | exact List.Mem.tail _ (List.Mem.tail _ (List.Mem.tail _ (List.Mem.tail _ (List.Mem.head _)))) | exact List.Mem.tail _ (List.Mem.tail _ (List.Mem.tail _ (List.Mem.tail _ (List.Mem.tail _ (List.Mem.head _)))))); exact rfl) | (apply ldN_all; (first | exact List.Mem.head _ | exact List.Mem.tail _ (List.Mem.head _) | exact List.Mem.tail _ (List.Mem.tail _ (List.Mem.head _)) | exact List.Mem.tail _ (List.Mem.tail _ (List.Mem.tail _ (List.Mem.head _))) | exact List.Mem.tail _ (List.Mem.tail _ (List.Mem.tail _ (List.Mem.tail _ (List.Mem.head _)))) | exact List.Mem.tail _ (List.Mem.tail _ (List.Mem.tail _ (List.Mem.tail _ (List.Mem.tail _ (List.Mem.head _)))))); exact rfl) | (apply ldN_own; (first | exact List.Mem.head _ | exact List.Mem.tail _ (List.Mem.head _) | exact List.Mem.tail _ (List.Mem.tail _ (List.Mem.head _)) | exact List.Mem.tail _ (List.Mem.tail _ (List.Mem.tail _ (List.Mem.head _))) | exact List.Mem.tail _ (List.Mem.tail _ (List.Mem.tail _ (List.Mem.tail _ (List.Mem.head _)))) | exact List.Mem.tail _ (List.Mem.tail _ (List.Mem.tail _ (List.Mem.tail _ (List.Mem.tail _ (List.Mem.head _)))))); exact rfl; exact rfl) | (apply st_own; (first | exact Up.head | exact Up.tail Up.head | exact Up.tail (Up.tail Up.head) | exact Up.tail (Up.tail (Up.tail Up.head)) | exact Up.tail (Up.tail (Up.tail (Up.tail Up.head))) | exact Up.tail (Up.tail (Up.tail (Up.tail (Up.tail Up.head))))); (solve | ((try (conv => arg 2; whnf)); repeat' (first | exact Lis.nil | apply Lis.cons | apply SetAt.here | apply SetAt.there | apply PutAt.done | apply PutAt.put | apply PutAt.skip))); exact rfl) | (apply stN_own; (first | exact Up.head | exact Up.tail Up.head | exact Up.tail (Up.tail Up.head) | exact Up.tail (Up.tail (Up.tail Up.head)) | exact Up.tail (Up.tail (Up.tail (Up.tail Up.head))) | exact Up.tail (Up.tail (Up.tail (Up.tail (Up.tail Up.head))))); (solve | ((try (conv => arg 2; whnf)); repeat' (first | exact Lis.nil | apply Lis.cons | apply SetAt.here | apply SetAt.there | apply PutAt.done | apply PutAt.put | apply PutAt.skip))); exact rfl) | (refine new_i (fun bk hbk => ?_)) | (refine when_dt (fun hc => ?_) (fun hc => ?_)) | (refine when_df (fun hc => ?_) (fun hc => ?_)) | (refine when_ndt (fun hc => ?_) (fun hc => ?_)) | (refine when_ndf (fun hc => ?_) (fun hc => ?_)) | (refine br_d (fun hc => ?_) (fun hc => ?_)) | (refine br_nd (fun hc => ?_) (fun hc => ?_)) | (refine shl0 ?_ ?_; omega) | (refine shl1 ?_ ?_; omega) | (refine shl2 ?_ ?_; omega) | (refine shl3 ?_ ?_; omega) | (refine mm_min ?_) | (refine mm_max ?_) | (refine quo_i ?_ ?_; omega) | (refine rem_i ?_ ?_; omega) | (refine SelN.mk ?_) | (refine cut_n ?_) | (refine Both.mk ?_ ?_) | (exact True.intro) | (exact Ent.refl) | (refine Ent.cons ?_) | (fail))
    all_goals exact ⟨rfl, by repeat (first | exact Ent.refl | refine Ent.cons ?_)⟩
  · obtain ⟨k, hk⟩ : ∃ k, k = x / 2048 := ⟨_, rfl⟩
    have hkW : okW k := by unfold okW at *; omega
    unfold okW at hx
    have hb := back (y := n) hkW (by omega)
    have a1 := fun own => sp_at W0 own 20 k n hn
    have a2 := fun own => sp_at W0 own 21 (applyW 20 k n) n hn
    rw [hb] at a2
    rw [hk] at a1 a2
    repeat' ((try (conv => whnf)); first | (refine when_y ?_) | (refine when_ft ?_) | (refine when_tf ?_) | (refine br_t ?_) | (refine br_f ?_) | (refine br_py (by omega) ?_) | (refine br_pn (by omega) ?_) | (refine when_py (by omega) ?_) | (refine when_pn (by omega) ?_) | (refine br_npy (by omega) ?_) | (refine br_npn (by omega) ?_) | (refine when_npy (by omega) ?_) | (refine when_npn (by omega) ?_) | (refine shr_l 11 2048 rfl rfl (by omega) rfl ?_) | (refine bit_e _ hand ?_) | (refine bit_e _ hr ?_) | (apply call_p (a1 _)) | (apply call_q (fun _ => a1 _)) | (apply call_p (a2 _)) | (apply call_q (fun _ => a2 _)) | (apply call_p (c1 _)) | (apply call_q (fun _ => c1 _)) | (apply call_p (c2 _)) | (apply call_q (fun _ => c2 _)) | (apply call_p (c3 _)) | (apply call_q (fun _ => c3 _)) | (apply call_p (c4 _)) | (apply call_q (fun _ => c4 _)) | (apply call_p (sp_awake _ _ hN)) | (apply call_q (fun _ => sp_awake _ _ hN)) | (refine when_y ?_) | (refine when_ft ?_) | (refine when_tf ?_) | (refine br_t ?_) | (refine br_f ?_) | (refine ari ?_ ?_; omega) | (refine aru ?_ ?_; omega) | (apply sel; exact rfl) | (refine ix0 rfl ?_) | (refine ix1 rfl ?_) | (refine ix2 rfl ?_) | (refine ix3 rfl ?_) | (refine ix4 rfl ?_) | (apply ixj; omega) | (refine ixn ?_ ?_; omega) | (apply ld_own; (first | exact List.Mem.head _ | exact List.Mem.tail _ (List.Mem.head _) | exact List.Mem.tail _ (List.Mem.tail _ (List.Mem.head _)) | exact List.Mem.tail _ (List.Mem.tail _ (List.Mem.tail _ (List.Mem.head _))) | exact List.Mem.tail _ (List.Mem.tail _ (List.Mem.tail _ (List.Mem.tail _ (List.Mem.head _)))) | exact List.Mem.tail _ (List.Mem.tail _ (List.Mem.tail _ (List.Mem.tail _ (List.Mem.tail _ (List.Mem.head _)))))); exact rfl) | (apply ldN_all; (first | exact List.Mem.head _ | exact List.Mem.tail _ (List.Mem.head _) | exact List.Mem.tail _ (List.Mem.tail _ (List.Mem.head _)) | exact List.Mem.tail _ (List.Mem.tail _ (List.Mem.tail _ (List.Mem.head _))) | exact List.Mem.tail _ (List.Mem.tail _ (List.Mem.tail _ (List.Mem.tail _ (List.Mem.head _)))) | exact List.Mem.tail _ (List.Mem.tail _ (List.Mem.tail _ (List.Mem.tail _ (List.Mem.tail _ (List.Mem.head _)))))); exact rfl) | (apply ldN_own; (first | exact List.Mem.head _ | exact List.Mem.tail _ (List.Mem.head _) | exact List.Mem.tail _ (List.Mem.tail _ (List.Mem.head _)) | exact List.Mem.tail _ (List.Mem.tail _ (List.Mem.tail _ (List.Mem.head _))) | exact List.Mem.tail _ (List.Mem.tail _ (List.Mem.tail _ (List.Mem.tail _ (List.Mem.head _)))) | exact List.Mem.tail _ (List.Mem.tail _ (List.Mem.tail _ (List.Mem.tail _ (List.Mem.tail _ (List.Mem.head _)))))); exact rfl; exact rfl) | (apply st_own; (first | exact Up.head | exact Up.tail Up.head | exact Up.tail (Up.tail Up.head) | exact Up.tail (Up.tail (Up.tail Up.head)) | exact Up.tail (Up.tail (Up.tail (Up.tail Up.head))) | exact Up.tail (Up.tail (Up.tail (Up.tail (Up.tail Up.head))))); (solve | ((try (conv => arg 2; whnf)); repeat' (first | exact Lis.nil | apply Lis.cons | apply SetAt.here | apply SetAt.there | apply PutAt.done | apply PutAt.put | apply PutAt.skip))); exact rfl) | (apply stN_own; (first | exact Up.head | exact Up.tail Up.head | exact Up.tail (Up.tail Up.head) | exact Up.tail (Up.tail (Up.tail Up.head)) | exact Up.tail (Up.tail (Up.tail (Up.tail Up.head))) | exact Up.tail (Up.tail (Up.tail (Up.tail (Up.tail Up.head))))); (solve | ((try (conv => arg 2; whnf)); repeat' (first | exact Lis.nil | apply Lis.cons | apply SetAt.here | apply SetAt.there | apply PutAt.done | apply PutAt.put | apply PutAt.skip))); exact rfl) | (refine new_i (fun bk hbk => ?_)) | (refine when_dt (fun hc => ?_) (fun hc => ?_)) | (refine when_df (fun hc => ?_) (fun hc => ?_)) | (refine when_ndt (fun hc => ?_) (fun hc => ?_)) | (refine when_ndf (fun hc => ?_) (fun hc => ?_)) | (refine br_d (fun hc => ?_) (fun hc => ?_)) | (refine br_nd (fun hc => ?_) (fun hc => ?_)) | (refine shl0 ?_ ?_; omega) | (refine shl1 ?_ ?_; omega) | (refine shl2 ?_ ?_; omega) | (refine shl3 ?_ ?_; omega) | (refine mm_min ?_) | (refine mm_max ?_) | (refine quo_i ?_ ?_; omega) | (refine rem_i ?_ ?_; omega) | (refine SelN.mk ?_) | (refine cut_n ?_) | (refine Both.mk ?_ ?_) | (exact True.intro) | (exact Ent.refl) | (refine Ent.cons ?_) | (fail))
    all_goals exact ⟨rfl, by repeat (first | exact Ent.refl | refine Ent.cons ?_)⟩
end Go.Proofs.YtdbeajjomifbpaaDoor
