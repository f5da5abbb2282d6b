/- Alu: AluFloats, AluMinMax as contracts. No condition. -/
import Derived.Test.YtdbeajjomifbpaaDoorAlQ
namespace Go.Proofs.YtdbeajjomifbpaaDoor
open Go
set_option maxRecDepth 10000
set_option maxHeartbeats 4000000

theorem and_high (m : Nat) : m &&& (2047 <<< 52) = (m / 2 ^ 52 % 2 ^ 11) <<< 52 := by
  refine Nat.eq_of_testBit_eq fun i => ?_
  have e : (2047 : Nat) = 2 ^ 11 - 1 := by decide
  rw [e, Nat.testBit_and, Nat.testBit_shiftLeft, Nat.testBit_shiftLeft, Nat.testBit_two_pow_sub_one, Nat.testBit_mod_two_pow, Nat.testBit_div_two_pow]
  by_cases h : 52 ≤ i
  · have e2 : i - 52 + 52 = i := by omega
    rw [e2]
    cases m.testBit i <;> simp [h]
  · simp [h]
theorem andInf {m : Int} (h : 0 ≤ m ∧ m < 18446744073709551616) : bitF .and .u64 m 9218868437227405312 = m / 4503599627370496 % 2048 * 4503599627370496 := by
  obtain ⟨m, rfl⟩ := Int.eq_ofNat_of_zero_le h.1
  unfold bitF
  have e1 : (9218868437227405312 : Int) = ((2047 <<< 52 : Nat) : Int) := by decide
  have hm : m < 2 ^ 64 := by
    have : (2 : Nat) ^ 64 = 18446744073709551616 := by decide
    omega
  rw [e1, BitVec.toNat_and, BitVec.ofInt_natCast, BitVec.ofInt_natCast, BitVec.toNat_ofNat, BitVec.toNat_ofNat]
  show IntKind.u64.wrap ((m % 2 ^ 64 &&& (2047 <<< 52) % 2 ^ 64 : Nat) : Int) = _
  rw [Nat.mod_eq_of_lt hm, Nat.mod_eq_of_lt (by decide), and_high, Nat.shiftLeft_eq]
  have e2 : (2 : Nat) ^ 52 = 4503599627370496 := by decide
  have e3 : (2 : Nat) ^ 11 = 2048 := by decide
  rw [e2, e3, wrap_u64 (by omega) (by omega)]
  omega
theorem sp_lnan (W0 : World) (own : Own) (x : Int) (hx : okW x) : Pure Tryd.prog W0 15 [.int .u64 x] own (.bool (isNi x)) := by
  unfold okW at hx
  refine pure_of (spec_of mixed low_law02_nan (by simp [ir_law02_nan]) ?_)
  repeat' ((try (conv => whnf)); first | (refine bit_e _ (andInf (by omega)) ?_) | (refine bit_e _ (andFrac (by omega)) ?_) | (refine when_y ?_) | (refine when_ft ?_) | (refine when_tf ?_) | (refine br_t ?_) | (refine br_f ?_) | (refine ari ?_ ?_; omega) | (refine aru ?_ ?_; omega) | (apply sel; exact rfl) | (refine ix0 rfl ?_) | (refine ix1 rfl ?_) | (refine ix2 rfl ?_) | (refine ix3 rfl ?_) | (refine ix4 rfl ?_) | (apply ixj; omega) | (refine ixn ?_ ?_; omega) | (apply ld_own; (first | exact List.Mem.head _ | exact List.Mem.tail _ (List.Mem.head _) | exact List.Mem.tail _ (List.Mem.tail _ (List.Mem.head _)) | exact List.Mem.tail _ (List.Mem.tail _ (List.Mem.tail _ (List.Mem.head _))) | exact List.Mem.tail _ (List.Mem.tail _ (List.Mem.tail _ (List.Mem.tail _ (List.Mem.head _)))) | exact List.Mem.tail _ (List.Mem.tail _ (List.Mem.tail _ (List.Mem.tail _ (List.Mem.tail _ (List.Mem.head _)))))); exact rfl) | (apply ldN_all; (first | exact List.Mem.head _ | exact List.Mem.tail _ (List.Mem.head _) | exact List.Mem.tail _ (List.Mem.tail _ (List.Mem.head _)) | exact List.Mem.tail _ (List.Mem.tail _ (List.Mem.tail _ (List.Mem.head _))) | exact List.Mem.tail _ (List.Mem.tail _ (List.Mem.tail _ (List.Mem.tail _ (List.Mem.head _)))) | exact List.Mem.tail _ (List.Mem.tail _ (List.Mem.tail _ (List.Mem.tail _ (List.Mem.tail _ (List.Mem.head _)))))); exact rfl) | (apply ldN_own; (first | exact List.Mem.head _ | exact List.Mem.tail _ (List.Mem.head _) | exact List.Mem.tail _ (List.Mem.tail _ (List.Mem.head _)) | exact List.Mem.tail _ (List.Mem.tail _ (List.Mem.tail _ (List.Mem.head _))) | exact List.Mem.tail _ (List.Mem.tail _ (List.Mem.tail _ (List.Mem.tail _ (List.Mem.head _)))) | exact List.Mem.tail _ (List.Mem.tail _ (List.Mem.tail _ (List.Mem.tail _ (List.Mem.tail _ (List.Mem.head _)))))); exact rfl; exact rfl) | (apply st_own; (first | exact Up.head | exact Up.tail Up.head | exact Up.tail (Up.tail Up.head) | exact Up.tail (Up.tail (Up.tail Up.head)) | exact Up.tail (Up.tail (Up.tail (Up.tail Up.head))) | exact Up.tail (Up.tail (Up.tail (Up.tail (Up.tail Up.head))))); (solve | ((try (conv => arg 2; whnf)); repeat' (first | exact Lis.nil | apply Lis.cons | apply SetAt.here | apply SetAt.there | apply PutAt.done | apply PutAt.put | apply PutAt.skip))); exact rfl) | (apply stN_own; (first | exact Up.head | exact Up.tail Up.head | exact Up.tail (Up.tail Up.head) | exact Up.tail (Up.tail (Up.tail Up.head)) | exact Up.tail (Up.tail (Up.tail (Up.tail Up.head))) | exact Up.tail (Up.tail (Up.tail (Up.tail (Up.tail Up.head))))); (solve | ((try (conv => arg 2; whnf)); repeat' (first | exact Lis.nil | apply Lis.cons | apply SetAt.here | apply SetAt.there | apply PutAt.done | apply PutAt.put | apply PutAt.skip))); exact rfl) | (refine new_i (fun bk hbk => ?_)) | (refine when_dt (fun hc => ?_) (fun hc => ?_)) | (refine when_df (fun hc => ?_) (fun hc => ?_)) | (refine when_ndt (fun hc => ?_) (fun hc => ?_)) | (refine when_ndf (fun hc => ?_) (fun hc => ?_)) | (refine br_d (fun hc => ?_) (fun hc => ?_)) | (refine br_nd (fun hc => ?_) (fun hc => ?_)) | (refine shl0 ?_ ?_; omega) | (refine shl1 ?_ ?_; omega) | (refine shl2 ?_ ?_; omega) | (refine shl3 ?_ ?_; omega) | (refine mm_min ?_) | (refine mm_max ?_) | (refine quo_i ?_ ?_; omega) | (refine rem_i ?_ ?_; omega) | (refine SelN.mk ?_) | (refine cut_n ?_) | (refine Both.mk ?_ ?_) | (exact True.intro) | (exact Ent.refl) | (refine Ent.cons ?_) | (refine And.intro rfl ?_) | (fail))
  all_goals (refine ⟨ret1 (vb ?_), by repeat (first | exact Ent.refl | refine Ent.cons ?_)⟩; unfold isNi isN)
  all_goals first | (refine dd ?_; omega) | (refine dn ?_; omega) | (refine df ?_; omega) | (refine dt ?_; omega)

/- Float words. -/
theorem sum_comm (a b : Ieee.Datum) : a.sum b = b.sum a := by
  cases a <;> cases b <;> simp only [Ieee.Datum.sum]
  · rename_i s m i t n j
    rw [Int.min_comm i j, Int.add_comm (Ieee.signed s m _), Bool.and_comm s t]
  · rename_i s t
    by_cases h : s = t
    · subst h; rfl
    · rw [if_neg h, if_neg (fun e => h e.symm)]
theorem product_comm (a b : Ieee.Datum) : a.product b = b.product a := by
  cases a <;> cases b <;> simp only [Ieee.Datum.product]
  · rename_i s m i t n j
    rw [Nat.mul_comm m n, Int.add_comm i j, Bool.xor_comm s t]
  all_goals simp [Bool.xor_comm]
theorem add_comm' (a b : Nat) : fopM .add a b = fopM .add b a := by
  have : floatBits .add .f64 a b = floatBits .add .f64 b a := by
    simp only [floatBits, FloatKind.format, Ieee.Format.add]
    rw [sum_comm]
  unfold fopM
  rw [this]
theorem mul_comm' (a b : Nat) : fopM .mul a b = fopM .mul b a := by
  have : floatBits .mul .f64 a b = floatBits .mul .f64 b a := by
    simp only [floatBits, FloatKind.format, Ieee.Format.mul]
    rw [product_comm]
  unfold fopM
  rw [this]
theorem nan_of {x : Nat} (h : isN x = true) : ∃ s f, Ieee.double.read x = .nan s f := by
  rw [← read_nan] at h
  cases hd : Ieee.double.read x <;> rw [hd] at h <;> simp [Ieee.Datum.isNaN] at h
  exact ⟨_, _, rfl⟩
theorem plainM_nan {r : Nat} (h : isNi (plainM r) = true) : plainM r = nanW := by
  unfold plainM at *
  cases hr : isN r
  · rw [hr] at h
    simp [isNi] at h
    rw [hr] at h; cases h
  · rfl
theorem fop_nan {op : BinOp} {a b : Nat} (h : isNi (fopM op a b) = true) : fopM op a b = nanW := by
  unfold fopM at *
  cases hf : floatBits op .f64 a b
  · rfl
  · rw [hf] at h; exact plainM_nan h
theorem fop_spoil {op : BinOp} {a b : Nat} (ho : op = .add ∨ op = .sub ∨ op = .mul ∨ op = .quo) (h : isN a = true ∨ isN b = true) : fopM op a b = nanW := by
  have : floatBits op .f64 a b = none := by
    rcases h with h | h <;> obtain ⟨s, f, hd⟩ := nan_of h
    · rcases ho with rfl | rfl | rfl | rfl <;> simp only [floatBits, f64_eq, Ieee.Format.add, Ieee.Format.sub, Ieee.Format.mul, Ieee.Format.div, hd]
      · cases Ieee.double.read b <;> rfl
      · cases (Ieee.double.read b).opposite <;> rfl
      · cases Ieee.double.read b <;> rfl
      · cases Ieee.double.read b <;> rfl
    · rcases ho with rfl | rfl | rfl | rfl <;> simp only [floatBits, f64_eq, Ieee.Format.add, Ieee.Format.sub, Ieee.Format.mul, Ieee.Format.div, hd]
      · cases Ieee.double.read a <;> rfl
      · cases Ieee.double.read a <;> rfl
      · cases Ieee.double.read a <;> rfl
      · cases Ieee.double.read a <;> rfl
  unfold fopM
  rw [this]
theorem floats_nan {fn : Int} {a b : Nat} (hf : 12 ≤ fn ∧ fn < 18) (h : isNi (floatsM fn a b) = true) : floatsM fn a b = nanW := by
  have hw : fn = 12 ∨ fn = 13 ∨ fn = 14 ∨ fn = 15 ∨ fn = 16 ∨ fn = 17 := by omega
  rcases hw with rfl | rfl | rfl | rfl | rfl | rfl
  · exact fop_nan h
  · exact fop_nan h
  · exact fop_nan h
  · exact fop_nan h
  · cases hn : (isN a || isN b)
    · have e : floatsM 16 a b = plainM (pickF true a b) := by simp only [floatsM]; simp [hn]
      rw [e] at h ⊢; exact plainM_nan h
    · simp only [floatsM]; simp [hn]
  · cases hn : (isN a || isN b)
    · have e : floatsM 17 a b = plainM (pickF false a b) := by simp only [floatsM]; simp [hn]
      rw [e] at h ⊢; exact plainM_nan h
    · simp only [floatsM]; simp [hn]
theorem floats_spoil {fn : Int} {a b : Nat} (hf : 12 ≤ fn ∧ fn < 18) (h : isN a = true ∨ isN b = true) : floatsM fn a b = nanW := by
  have hw : fn = 12 ∨ fn = 13 ∨ fn = 14 ∨ fn = 15 ∨ fn = 16 ∨ fn = 17 := by omega
  have hn : (isN a || isN b) = true := by rcases h with h | h <;> simp [h]
  rcases hw with rfl | rfl | rfl | rfl | rfl | rfl
  · exact fop_spoil (.inl rfl) h
  · exact fop_spoil (.inr (.inl rfl)) h
  · exact fop_spoil (.inr (.inr (.inl rfl))) h
  · exact fop_spoil (.inr (.inr (.inr rfl))) h
  · simp only [floatsM]; simp [hn]
  · simp only [floatsM]; simp [hn]
theorem apF {fn x y : Int} (hf : 12 ≤ fn ∧ fn < 20) : applyW fn x y = floatsM fn x.toNat y.toNat := by
  unfold applyW
  rw [if_pos (by omega), if_neg (by omega), if_neg (by omega), if_pos hf.1]
theorem plainM_ok {r : Nat} (h : r < 18446744073709551616) : okW (plainM r) := by
  unfold plainM okW nanW
  cases isN r <;> simp <;> omega
theorem fop_ok {op : BinOp} {a b : Nat} : okW (fopM op a b) := by
  unfold fopM
  cases hf : floatBits op .f64 a b
  · unfold okW nanW; simp
  · exact plainM_ok (fb_lt hf)
theorem pick_lt {neg : Bool} {a b : Nat} (ha : a < 18446744073709551616) (hb : b < 18446744073709551616) : pickF neg a b < 18446744073709551616 := by
  unfold pickF
  split
  · rw [enc_inf]; cases neg <;> simp
  · split
    · omega
    · split
      · split <;> assumption
      · split <;> assumption
theorem floats_ok {fn : Int} {a b : Nat} (hf : 12 ≤ fn ∧ fn < 18) (ha : a < 18446744073709551616) (hb : b < 18446744073709551616) : okW (floatsM fn a b) := by
  have hw : fn = 12 ∨ fn = 13 ∨ fn = 14 ∨ fn = 15 ∨ fn = 16 ∨ fn = 17 := by omega
  rcases hw with rfl | rfl | rfl | rfl | rfl | rfl
  · exact fop_ok
  · exact fop_ok
  · exact fop_ok
  · exact fop_ok
  · cases hn : (isN a || isN b)
    · have e : floatsM 16 a b = plainM (pickF true a b) := by simp only [floatsM]; simp [hn]
      rw [e]; exact plainM_ok (pick_lt ha hb)
    · have e : floatsM 16 a b = nanW := by simp only [floatsM]; simp [hn]
      rw [e]; unfold okW nanW; simp
  · cases hn : (isN a || isN b)
    · have e : floatsM 17 a b = plainM (pickF false a b) := by simp only [floatsM]; simp [hn]
      rw [e]; exact plainM_ok (pick_lt ha hb)
    · have e : floatsM 17 a b = nanW := by simp only [floatsM]; simp [hn]
      rw [e]; unfold okW nanW; simp

theorem sp_lfloats (W0 : World) (hN : NamesAt W0) (x y : Int) (hx : okW x) (hy : okW y) : Pure Tryd.prog W0 6 [.int .u64 x, .int .u64 y] [] (.bool true) := by
  have f1 : applyW 12 x y = applyW 12 y x := by rw [apF (by omega), apF (by omega)]; exact add_comm' _ _
  have f2 : applyW 14 x y = applyW 14 y x := by rw [apF (by omega), apF (by omega)]; exact mul_comm' _ _
  refine pure_of (spec_of mixed low_law02_AluFloats (by simp [ir_law02_AluFloats]) ?_)
  repeat' ((try (conv => whnf)); first | (refine when_y ?_) | (refine when_ft ?_) | (refine when_tf ?_) | (refine br_t ?_) | (refine br_f ?_) | (refine br_py (by omega) ?_) | (refine br_pn (by omega) ?_) | (refine when_py (by omega) ?_) | (refine when_pn (by omega) ?_) | (refine br_npy (by omega) ?_) | (refine br_npn (by omega) ?_) | (refine when_npy (by omega) ?_) | (refine when_npn (by omega) ?_) | (refine when_y ?_) | (refine when_ft ?_) | (refine when_tf ?_) | (refine br_t ?_) | (refine br_f ?_) | (refine ari ?_ ?_; omega) | (refine aru ?_ ?_; omega) | (apply sel; exact rfl) | (refine ix0 rfl ?_) | (refine ix1 rfl ?_) | (refine ix2 rfl ?_) | (refine ix3 rfl ?_) | (refine ix4 rfl ?_) | (apply ixj; omega) | (refine ixn ?_ ?_; omega) | (apply ld_own; (first | exact List.Mem.head _ | exact List.Mem.tail _ (List.Mem.head _) | exact List.Mem.tail _ (List.Mem.tail _ (List.Mem.head _)) | exact List.Mem.tail _ (List.Mem.tail _ (List.Mem.tail _ (List.Mem.head _))) | exact List.Mem.tail _ (List.Mem.tail _ (List.Mem.tail _ (List.Mem.tail _ (List.Mem.head _)))) | exact List.Mem.tail _ (List.Mem.tail _ (List.Mem.tail _ (List.Mem.tail _ (List.Mem.tail _ (List.Mem.head _)))))); exact rfl) | (apply ldN_all; (first | exact List.Mem.head _ | exact List.Mem.tail _ (List.Mem.head _) | exact List.Mem.tail _ (List.Mem.tail _ (List.Mem.head _)) | exact List.Mem.tail _ (List.Mem.tail _ (List.Mem.tail _ (List.Mem.head _))) | exact List.Mem.tail _ (List.Mem.tail _ (List.Mem.tail _ (List.Mem.tail _ (List.Mem.head _)))) | exact List.Mem.tail _ (List.Mem.tail _ (List.Mem.tail _ (List.Mem.tail _ (List.Mem.tail _ (List.Mem.head _)))))); exact rfl) | (apply ldN_own; (first | exact List.Mem.head _ | exact List.Mem.tail _ (List.Mem.head _) | exact List.Mem.tail _ (List.Mem.tail _ (List.Mem.head _)) | exact List.Mem.tail _ (List.Mem.tail _ (List.Mem.tail _ (List.Mem.head _))) | exact List.Mem.tail _ (List.Mem.tail _ (List.Mem.tail _ (List.Mem.tail _ (List.Mem.head _)))) | exact List.Mem.tail _ (List.Mem.tail _ (List.Mem.tail _ (List.Mem.tail _ (List.Mem.tail _ (List.Mem.head _)))))); exact rfl; exact rfl) | (apply st_own; (first | exact Up.head | exact Up.tail Up.head | exact Up.tail (Up.tail Up.head) | exact Up.tail (Up.tail (Up.tail Up.head)) | exact Up.tail (Up.tail (Up.tail (Up.tail Up.head))) | exact Up.tail (Up.tail (Up.tail (Up.tail (Up.tail Up.head))))); (solve | ((try (conv => arg 2; whnf)); repeat' (first | exact Lis.nil | apply Lis.cons | apply SetAt.here | apply SetAt.there | apply PutAt.done | apply PutAt.put | apply PutAt.skip))); exact rfl) | (apply stN_own; (first | exact Up.head | exact Up.tail Up.head | exact Up.tail (Up.tail Up.head) | exact Up.tail (Up.tail (Up.tail Up.head)) | exact Up.tail (Up.tail (Up.tail (Up.tail Up.head))) | exact Up.tail (Up.tail (Up.tail (Up.tail (Up.tail Up.head))))); (solve | ((try (conv => arg 2; whnf)); repeat' (first | exact Lis.nil | apply Lis.cons | apply SetAt.here | apply SetAt.there | apply PutAt.done | apply PutAt.put | apply PutAt.skip))); exact rfl) | (refine new_i (fun bk hbk => ?_)) | (refine when_dt (fun hc => ?_) (fun hc => ?_)) | (refine when_df (fun hc => ?_) (fun hc => ?_)) | (refine when_ndt (fun hc => ?_) (fun hc => ?_)) | (refine when_ndf (fun hc => ?_) (fun hc => ?_)) | (refine br_d (fun hc => ?_) (fun hc => ?_)) | (refine br_nd (fun hc => ?_) (fun hc => ?_)) | (refine shl0 ?_ ?_; omega) | (refine shl1 ?_ ?_; omega) | (refine shl2 ?_ ?_; omega) | (refine shl3 ?_ ?_; omega) | (refine mm_min ?_) | (refine mm_max ?_) | (refine quo_i ?_ ?_; omega) | (refine rem_i ?_ ?_; omega) | (refine SelN.mk ?_) | (refine cut_n ?_) | (refine Both.mk ?_ ?_) | (exact True.intro) | (exact Ent.refl) | (refine Ent.cons ?_) | (fail))
  refine loop_c (σ := Int) (fun b => [(5, .int .i64 b)]) (fun b => 12 ≤ b ∧ b ≤ 18) (fun b => (18 - b).toNat) 12 ⟨by omega, by omega⟩ (by repeat' (first | exact True.intro | refine And.intro ?_ ?_ | exact rfl | exact vi (by omega))) rfl ?_
  rintro b junk ⟨hb0, hb1⟩
  by_cases hlt : b < 18
  · have hE : applyE b = 0 := aw_e b (by omega)
    have h0 := fun own => sp_apply W0 own b x y hy
    rw [hE] at h0
    have hv : okW (applyW b x y) := by rw [apF (by omega)]; unfold okW at hx hy; exact floats_ok ⟨hb0, hlt⟩ (by omega) (by omega)
    have g1 : isNi (applyW b x y) = true → applyW b x y = nanW := by rw [apF (by omega)]; exact floats_nan ⟨hb0, hlt⟩
    have g2 : isNi x = true ∨ isNi y = true → applyW b x y = nanW := by rw [apF (by omega)]; exact floats_spoil ⟨hb0, hlt⟩
    generalize applyW b x y = v at *
    have n0 := fun own => sp_lnan W0 own v hv
    have n1 := fun own => sp_lnan W0 own x hx
    have n2 := fun own => sp_lnan W0 own y hy
    unfold nanW at g1 g2
    cases e0 : isNi v <;> cases e1 : isNi x <;> cases e2 : isNi y <;> rw [e0] at n0 g1 <;> rw [e1] at n1 g2 <;> rw [e2] at n2 g2 <;> simp only [true_or, or_true, forall_const, or_self, Bool.false_eq_true, false_implies] at g1 g2
    all_goals
      repeat' ((try (conv => whnf)); first | (refine when_y ?_) | (refine when_ft ?_) | (refine when_tf ?_) | (refine br_t ?_) | (refine br_f ?_) | (refine br_py (by omega) ?_) | (refine br_pn (by omega) ?_) | (refine when_py (by omega) ?_) | (refine when_pn (by omega) ?_) | (refine br_npy (by omega) ?_) | (refine br_npn (by omega) ?_) | (refine when_npy (by omega) ?_) | (refine when_npn (by omega) ?_) | (apply call_p (h0 _)) | (apply call_q (fun _ => h0 _)) | (apply call_p (n0 _)) | (apply call_q (fun _ => n0 _)) | (apply call_p (n1 _)) | (apply call_q (fun _ => n1 _)) | (apply call_p (n2 _)) | (apply call_q (fun _ => n2 _)) | (refine when_y ?_) | (refine when_ft ?_) | (refine when_tf ?_) | (refine br_t ?_) | (refine br_f ?_) | (refine ari ?_ ?_; omega) | (refine aru ?_ ?_; omega) | (apply sel; exact rfl) | (refine ix0 rfl ?_) | (refine ix1 rfl ?_) | (refine ix2 rfl ?_) | (refine ix3 rfl ?_) | (refine ix4 rfl ?_) | (apply ixj; omega) | (refine ixn ?_ ?_; omega) | (apply ld_own; (first | exact List.Mem.head _ | exact List.Mem.tail _ (List.Mem.head _) | exact List.Mem.tail _ (List.Mem.tail _ (List.Mem.head _)) | exact List.Mem.tail _ (List.Mem.tail _ (List.Mem.tail _ (List.Mem.head _))) | exact List.Mem.tail _ (List.Mem.tail _ (List.Mem.tail _ (List.Mem.tail _ (List.Mem.head _)))) | exact List.Mem.tail _ (List.Mem.tail _ (List.Mem.tail _ (List.Mem.tail _ (List.Mem.tail _ (List.Mem.head _)))))); exact rfl) | (apply ldN_all; (first | exact List.Mem.head _ | exact List.Mem.tail _ (List.Mem.head _) | exact List.Mem.tail _ (List.Mem.tail _ (List.Mem.head _)) | exact List.Mem.tail _ (List.Mem.tail _ (List.Mem.tail _ (List.Mem.head _))) | exact List.Mem.tail _ (List.Mem.tail _ (List.Mem.tail _ (List.Mem.tail _ (List.Mem.head _)))) | exact List.Mem.tail _ (List.Mem.tail _ (List.Mem.tail _ (List.Mem.tail _ (List.Mem.tail _ (List.Mem.head _)))))); exact rfl) | (apply ldN_own; (first | exact List.Mem.head _ | exact List.Mem.tail _ (List.Mem.head _) | exact List.Mem.tail _ (List.Mem.tail _ (List.Mem.head _)) | exact List.Mem.tail _ (List.Mem.tail _ (List.Mem.tail _ (List.Mem.head _))) | exact List.Mem.tail _ (List.Mem.tail _ (List.Mem.tail _ (List.Mem.tail _ (List.Mem.head _)))) | exact List.Mem.tail _ (List.Mem.tail _ (List.Mem.tail _ (List.Mem.tail _ (List.Mem.tail _ (List.Mem.head _)))))); exact rfl; exact rfl) | (apply st_own; (first | exact Up.head | exact Up.tail Up.head | exact Up.tail (Up.tail Up.head) | exact Up.tail (Up.tail (Up.tail Up.head)) | exact Up.tail (Up.tail (Up.tail (Up.tail Up.head))) | exact Up.tail (Up.tail (Up.tail (Up.tail (Up.tail Up.head))))); (solve | ((try (conv => arg 2; whnf)); repeat' (first | exact Lis.nil | apply Lis.cons | apply SetAt.here | apply SetAt.there | apply PutAt.done | apply PutAt.put | apply PutAt.skip))); exact rfl) | (apply stN_own; (first | exact Up.head | exact Up.tail Up.head | exact Up.tail (Up.tail Up.head) | exact Up.tail (Up.tail (Up.tail Up.head)) | exact Up.tail (Up.tail (Up.tail (Up.tail Up.head))) | exact Up.tail (Up.tail (Up.tail (Up.tail (Up.tail Up.head))))); (solve | ((try (conv => arg 2; whnf)); repeat' (first | exact Lis.nil | apply Lis.cons | apply SetAt.here | apply SetAt.there | apply PutAt.done | apply PutAt.put | apply PutAt.skip))); exact rfl) | (refine new_i (fun bk hbk => ?_)) | (refine when_dt (fun hc => ?_) (fun hc => ?_)) | (refine when_df (fun hc => ?_) (fun hc => ?_)) | (refine when_ndt (fun hc => ?_) (fun hc => ?_)) | (refine when_ndf (fun hc => ?_) (fun hc => ?_)) | (refine br_d (fun hc => ?_) (fun hc => ?_)) | (refine br_nd (fun hc => ?_) (fun hc => ?_)) | (refine shl0 ?_ ?_; omega) | (refine shl1 ?_ ?_; omega) | (refine shl2 ?_ ?_; omega) | (refine shl3 ?_ ?_; omega) | (refine mm_min ?_) | (refine mm_max ?_) | (refine quo_i ?_ ?_; omega) | (refine rem_i ?_ ?_; omega) | (refine SelN.mk ?_) | (refine cut_n ?_) | (refine Both.mk ?_ ?_) | (exact True.intro) | (exact Ent.refl) | (refine Ent.cons ?_) | (fail))
      exact ⟨b + 1, ⟨by omega, by omega⟩, by omega, (by repeat' (first | exact True.intro | refine And.intro ?_ ?_ | exact rfl | exact vi (by omega))), Ent.refl⟩
  · repeat' ((try (conv => whnf)); first | (refine when_y ?_) | (refine when_ft ?_) | (refine when_tf ?_) | (refine br_t ?_) | (refine br_f ?_) | (refine br_py (by omega) ?_) | (refine br_pn (by omega) ?_) | (refine when_py (by omega) ?_) | (refine when_pn (by omega) ?_) | (refine br_npy (by omega) ?_) | (refine br_npn (by omega) ?_) | (refine when_npy (by omega) ?_) | (refine when_npn (by omega) ?_) | (refine call_p (sp_at _ _ _ _ _ ?_) ?_; assumption) | (apply call_p (sp_awake _ _ hN)) | (apply call_q (fun _ => sp_awake _ _ hN)) | (refine when_y ?_) | (refine when_ft ?_) | (refine when_tf ?_) | (refine br_t ?_) | (refine br_f ?_) | (refine ari ?_ ?_; omega) | (refine aru ?_ ?_; omega) | (apply sel; exact rfl) | (refine ix0 rfl ?_) | (refine ix1 rfl ?_) | (refine ix2 rfl ?_) | (refine ix3 rfl ?_) | (refine ix4 rfl ?_) | (apply ixj; omega) | (refine ixn ?_ ?_; omega) | (apply ld_own; (first | exact List.Mem.head _ | exact List.Mem.tail _ (List.Mem.head _) | exact List.Mem.tail _ (List.Mem.tail _ (List.Mem.head _)) | exact List.Mem.tail _ (List.Mem.tail _ (List.Mem.tail _ (List.Mem.head _))) | exact List.Mem.tail _ (List.Mem.tail _ (List.Mem.tail _ (List.Mem.tail _ (List.Mem.head _)))) | exact List.Mem.tail _ (List.Mem.tail _ (List.Mem.tail _ (List.Mem.tail _ (List.Mem.tail _ (List.Mem.head _)))))); exact rfl) | (apply ldN_all; (first | exact List.Mem.head _ | exact List.Mem.tail _ (List.Mem.head _) | exact List.Mem.tail _ (List.Mem.tail _ (List.Mem.head _)) | exact List.Mem.tail _ (List.Mem.tail _ (List.Mem.tail _ (List.Mem.head _))) | exact List.Mem.tail _ (List.Mem.tail _ (List.Mem.tail _ (List.Mem.tail _ (List.Mem.head _)))) | exact List.Mem.tail _ (List.Mem.tail _ (List.Mem.tail _ (List.Mem.tail _ (List.Mem.tail _ (List.Mem.head _)))))); exact rfl) | (apply ldN_own; (first | exact List.Mem.head _ | exact List.Mem.tail _ (List.Mem.head _) | exact List.Mem.tail _ (List.Mem.tail _ (List.Mem.head _)) | exact List.Mem.tail _ (List.Mem.tail _ (List.Mem.tail _ (List.Mem.head _))) | exact List.Mem.tail _ (List.Mem.tail _ (List.Mem.tail _ (List.Mem.tail _ (List.Mem.head _)))) | exact List.Mem.tail _ (List.Mem.tail _ (List.Mem.tail _ (List.Mem.tail _ (List.Mem.tail _ (List.Mem.head _)))))); exact rfl; exact rfl) | (apply st_own; (first | exact Up.head | exact Up.tail Up.head | exact Up.tail (Up.tail Up.head) | exact Up.tail (Up.tail (Up.tail Up.head)) | exact Up.tail (Up.tail (Up.tail (Up.tail Up.head))) | exact Up.tail (Up.tail (Up.tail (Up.tail (Up.tail Up.head))))); (solve | ((try (conv => arg 2; whnf)); repeat' (first | exact Lis.nil | apply Lis.cons | apply SetAt.here | apply SetAt.there | apply PutAt.done | apply PutAt.put | apply PutAt.skip))); exact rfl) | (apply stN_own; (first | exact Up.head | exact Up.tail Up.head | exact Up.tail (Up.tail Up.head) | exact Up.tail (Up.tail (Up.tail Up.head)) | exact Up.tail (Up.tail (Up.tail (Up.tail Up.head))) | exact Up.tail (Up.tail (Up.tail (Up.tail (Up.tail Up.head))))); (solve | ((try (conv => arg 2; whnf)); repeat' (first | exact Lis.nil | apply Lis.cons | apply SetAt.here | apply SetAt.there | apply PutAt.done | apply PutAt.put | apply PutAt.skip))); exact rfl) | (refine new_i (fun bk hbk => ?_)) | (refine when_dt (fun hc => ?_) (fun hc => ?_)) | (refine when_df (fun hc => ?_) (fun hc => ?_)) | (refine when_ndt (fun hc => ?_) (fun hc => ?_)) | (refine when_ndf (fun hc => ?_) (fun hc => ?_)) | (refine br_d (fun hc => ?_) (fun hc => ?_)) | (refine br_nd (fun hc => ?_) (fun hc => ?_)) | (refine shl0 ?_ ?_; omega) | (refine shl1 ?_ ?_; omega) | (refine shl2 ?_ ?_; omega) | (refine shl3 ?_ ?_; omega) | (refine mm_min ?_) | (refine mm_max ?_) | (refine quo_i ?_ ?_; omega) | (refine rem_i ?_ ?_; omega) | (refine SelN.mk ?_) | (refine cut_n ?_) | (refine Both.mk ?_ ?_) | (exact True.intro) | (exact Ent.refl) | (refine Ent.cons ?_) | (fail))
    all_goals exact ⟨rfl, by repeat (first | exact Ent.refl | refine Ent.cons ?_)⟩

/- The lesser, the greater. -/
theorem less_flip {x y : Nat} (hx : isN x = false) (hy : isN y = false) (bx : x < 18446744073709551616) (by' : y < 18446744073709551616) :
    (if lessC x y then x else y) = (if lessC y x then y else x) ∧ (if lessC x y then y else x) = (if lessC y x then x else y) ∧ fcmp .lss (FloatKind.f64.format.order (if lessC x y then y else x) (if lessC x y then x else y)) = false := by
  obtain ⟨N, hN⟩ : ∃ N, 2046 ≤ N := ⟨2046, Nat.le_refl _⟩
  have o1 := order_key hN hx hy
  have o2 := order_key hN hy hx
  have hi := key_inj hN hx hy bx by'
  have wx := word_split x bx
  have wy := word_split y by'
  generalize key N x = k at *
  generalize key N y = l at *
  unfold lessC
  rcases Int.lt_trichotomy k l with h | h | h
  · rw [Int.compare_eq_lt.2 h] at o1
    rw [Int.compare_eq_gt.2 h] at o2
    simp [o1, o2, fcmp]
  · rw [Int.compare_eq_eq.2 h] at o1
    rw [Int.compare_eq_eq.2 h.symm] at o2
    have h' := hi h
    have key : x = y ∨ (sgn x = !sgn y) := by
      rcases h' with h' | ⟨h1, h2⟩
      · exact .inl h'
      · cases hs : sgn x <;> cases ht : sgn y <;> rw [hs] at wx <;> rw [ht] at wy <;> simp at wx wy ⊢ <;> omega
    rcases key with rfl | hs
    · simp [o1, fcmp]
    · cases ht : sgn y <;> rw [ht] at hs <;> simp at hs <;> simp [o1, o2, fcmp, hs]
  · rw [Int.compare_eq_gt.2 h] at o1
    rw [Int.compare_eq_lt.2 h] at o2
    simp [o1, o2, fcmp]
theorem ap_pick {x y : Int} (hx : okW x) (hy : okW y) (nx : isNi x = false) (ny : isNi y = false) :
    applyW 16 x y = (if lessC x.toNat y.toNat then x else y) ∧ applyW 17 x y = (if lessC x.toNat y.toNat then y else x) := by
  unfold okW at hx hy
  unfold isNi at nx ny
  have p1 := pick_least nx ny (by omega) (by omega)
  have p2 := pick_most nx ny (by omega) (by omega)
  rw [apF (by omega), apF (by omega)]
  refine ⟨?_, ?_⟩
  · have e : floatsM 16 x.toNat y.toNat = plainM (pickF true x.toNat y.toNat) := by simp only [floatsM]; simp [nx, ny]
    rw [e, p1]
    cases lessC x.toNat y.toNat
    · simp only [Bool.false_eq_true, if_false]; rw [plain_num ny]; omega
    · simp only [if_true]; rw [plain_num nx]; omega
  · have e : floatsM 17 x.toNat y.toNat = plainM (pickF false x.toNat y.toNat) := by simp only [floatsM]; simp [nx, ny]
    rw [e, p2]
    cases lessC x.toNat y.toNat
    · simp only [Bool.false_eq_true, if_false]; rw [plain_num nx]; omega
    · simp only [if_true]; rw [plain_num ny]; omega

theorem fmin_zero : applyW 16 0 9223372036854775808 = 9223372036854775808 := by decide +kernel
theorem sp_minmax (W0 : World) (hN : NamesAt W0) (x y : Int) (hx : okW x) (hy : okW y) : Pure Tryd.prog W0 7 [.int .u64 x, .int .u64 y] [] (.bool true) := by
  have n1 := fun own => sp_lnan W0 own x hx
  have n2 := fun own => sp_lnan W0 own y hy
  have z1 : ∀ own, Pure Tryd.prog W0 14 [.int .i64 16, .int .u64 0, .int .u64 9223372036854775808] own (.int .u64 9223372036854775808) := fun own => by
    have h := sp_at W0 own 16 0 9223372036854775808 (by unfold okW; omega)
    rwa [fmin_zero] at h
  have a1 := fun own => sp_at W0 own 16 x y hy
  have a2 := fun own => sp_at W0 own 17 x y hy
  have a3 := fun own => sp_at W0 own 16 y x hx
  have a4 := fun own => sp_at W0 own 17 y x hx
  refine pure_of (spec_of mixed low_law02_AluMinMax (by simp [ir_law02_AluMinMax]) ?_)
  by_cases hnan : isNi x = true ∨ isNi y = true
  · have s1 : applyW 16 x y = nanW := by rw [apF (by omega)]; exact floats_spoil (by omega) hnan
    have s2 : applyW 17 x y = nanW := by rw [apF (by omega)]; exact floats_spoil (by omega) hnan
    have s3 : applyW 16 y x = nanW := by rw [apF (by omega)]; exact floats_spoil (by omega) hnan.symm
    have s4 : applyW 17 y x = nanW := by rw [apF (by omega)]; exact floats_spoil (by omega) hnan.symm
    rw [s1] at a1; rw [s2] at a2; rw [s3] at a3; rw [s4] at a4
    unfold nanW at a1 a2 a3 a4
    cases e1 : isNi x <;> cases e2 : isNi y <;> rw [e1] at n1 hnan <;> rw [e2] at n2 hnan <;> simp only [or_self, Bool.false_eq_true] at hnan
    all_goals
      repeat' ((try (conv => whnf)); first | (refine when_y ?_) | (refine when_ft ?_) | (refine when_tf ?_) | (refine br_t ?_) | (refine br_f ?_) | (refine br_py (by omega) ?_) | (refine br_pn (by omega) ?_) | (refine when_py (by omega) ?_) | (refine when_pn (by omega) ?_) | (refine br_npy (by omega) ?_) | (refine br_npn (by omega) ?_) | (refine when_npy (by omega) ?_) | (refine when_npn (by omega) ?_) | (apply call_p (a1 _)) | (apply call_q (fun _ => a1 _)) | (apply call_p (a2 _)) | (apply call_q (fun _ => a2 _)) | (apply call_p (a3 _)) | (apply call_q (fun _ => a3 _)) | (apply call_p (a4 _)) | (apply call_q (fun _ => a4 _)) | (apply call_p (n1 _)) | (apply call_q (fun _ => n1 _)) | (apply call_p (n2 _)) | (apply call_q (fun _ => n2 _)) | (apply call_p (sp_awake _ _ hN)) | (apply call_q (fun _ => sp_awake _ _ hN)) | (refine when_y ?_) | (refine when_ft ?_) | (refine when_tf ?_) | (refine br_t ?_) | (refine br_f ?_) | (refine ari ?_ ?_; omega) | (refine aru ?_ ?_; omega) | (apply sel; exact rfl) | (refine ix0 rfl ?_) | (refine ix1 rfl ?_) | (refine ix2 rfl ?_) | (refine ix3 rfl ?_) | (refine ix4 rfl ?_) | (apply ixj; omega) | (refine ixn ?_ ?_; omega) | (apply ld_own; (first | exact List.Mem.head _ | exact List.Mem.tail _ (List.Mem.head _) | exact List.Mem.tail _ (List.Mem.tail _ (List.Mem.head _)) | exact List.Mem.tail _ (List.Mem.tail _ (List.Mem.tail _ (List.Mem.head _))) | exact List.Mem.tail _ (List.Mem.tail _ (List.Mem.tail _ (List.Mem.tail _ (List.Mem.head _)))) | exact List.Mem.tail _ (List.Mem.tail _ (List.Mem.tail _ (List.Mem.tail _ (List.Mem.tail _ (List.Mem.head _)))))); exact rfl) | (apply ldN_all; (first | exact List.Mem.head _ | exact List.Mem.tail _ (List.Mem.head _) | exact List.Mem.tail _ (List.Mem.tail _ (List.Mem.head _)) | exact List.Mem.tail _ (List.Mem.tail _ (List.Mem.tail _ (List.Mem.head _))) | exact List.Mem.tail _ (List.Mem.tail _ (List.Mem.tail _ (List.Mem.tail _ (List.Mem.head _)))) | exact List.Mem.tail _ (List.Mem.tail _ (List.Mem.tail _ (List.Mem.tail _ (List.Mem.tail _ (List.Mem.head _)))))); exact rfl) | (apply ldN_own; (first | exact List.Mem.head _ | exact List.Mem.tail _ (List.Mem.head _) | exact List.Mem.tail _ (List.Mem.tail _ (List.Mem.head _)) | exact List.Mem.tail _ (List.Mem.tail _ (List.Mem.tail _ (List.Mem.head _))) | exact List.Mem.tail _ (List.Mem.tail _ (List.Mem.tail _ (List.Mem.tail _ (List.Mem.head _)))) | exact List.Mem.tail _ (List.Mem.tail _ (List.Mem.tail _ (List.Mem.tail _ (List.Mem.tail _ (List.Mem.head _)))))); exact rfl; exact rfl) | (apply st_own; (first | exact Up.head | exact Up.tail Up.head | exact Up.tail (Up.tail Up.head) | exact Up.tail (Up.tail (Up.tail Up.head)) | exact Up.tail (Up.tail (Up.tail (Up.tail Up.head))) | exact Up.tail (Up.tail (Up.tail (Up.tail (Up.tail Up.head))))); (solve | ((try (conv => arg 2; whnf)); repeat' (first | exact Lis.nil | apply Lis.cons | apply SetAt.here | apply SetAt.there | apply PutAt.done | apply PutAt.put | apply PutAt.skip))); exact rfl) | (apply stN_own; (first | exact Up.head | exact Up.tail Up.head | exact Up.tail (Up.tail Up.head) | exact Up.tail (Up.tail (Up.tail Up.head)) | exact Up.tail (Up.tail (Up.tail (Up.tail Up.head))) | exact Up.tail (Up.tail (Up.tail (Up.tail (Up.tail Up.head))))); (solve | ((try (conv => arg 2; whnf)); repeat' (first | exact Lis.nil | apply Lis.cons | apply SetAt.here | apply SetAt.there | apply PutAt.done | apply PutAt.put | apply PutAt.skip))); exact rfl) | (refine new_i (fun bk hbk => ?_)) | (refine when_dt (fun hc => ?_) (fun hc => ?_)) | (refine when_df (fun hc => ?_) (fun hc => ?_)) | (refine when_ndt (fun hc => ?_) (fun hc => ?_)) | (refine when_ndf (fun hc => ?_) (fun hc => ?_)) | (refine br_d (fun hc => ?_) (fun hc => ?_)) | (refine br_nd (fun hc => ?_) (fun hc => ?_)) | (refine shl0 ?_ ?_; omega) | (refine shl1 ?_ ?_; omega) | (refine shl2 ?_ ?_; omega) | (refine shl3 ?_ ?_; omega) | (refine mm_min ?_) | (refine mm_max ?_) | (refine quo_i ?_ ?_; omega) | (refine rem_i ?_ ?_; omega) | (refine SelN.mk ?_) | (refine cut_n ?_) | (refine Both.mk ?_ ?_) | (exact True.intro) | (exact Ent.refl) | (refine Ent.cons ?_) | (fail))
      all_goals exact ⟨rfl, by repeat (first | exact Ent.refl | refine Ent.cons ?_)⟩
  · have e1 : isNi x = false := by cases h : isNi x <;> simp_all
    have e2 : isNi y = false := by cases h : isNi y <;> simp_all
    rw [e1] at n1; rw [e2] at n2
    obtain ⟨p1, p2⟩ := ap_pick hx hy e1 e2
    obtain ⟨p3, p4⟩ := ap_pick hy hx e2 e1
    have hl : okW (applyW 16 x y) := by rw [p1]; split <;> assumption
    have b1 := fun own => sp_at W0 own 19 (applyW 17 x y) (applyW 16 x y) hl
    unfold okW at hx hy
    unfold isNi at e1 e2
    obtain ⟨l1, l2, l3⟩ := less_flip e1 e2 (by omega) (by omega)
    have hle : lessC x.toNat y.toNat = true ∨ lessC x.toNat y.toNat = false := by cases lessC x.toNat y.toNat <;> simp
    have q3 : applyW 16 y x = applyW 16 x y := by
      rw [p1, p3]
      revert l1
      cases lessC x.toNat y.toNat <;> cases lessC y.toNat x.toNat <;> simp <;> omega
    have q4 : applyW 17 y x = applyW 17 x y := by
      rw [p2, p4]
      revert l2
      cases lessC x.toNat y.toNat <;> cases lessC y.toNat x.toNat <;> simp <;> omega
    have b0 : applyW 19 (applyW 17 x y) (applyW 16 x y) = 0 := by
      rw [apF (by omega), p1, p2]
      revert l3
      have e19 : ∀ a b, floatsM 19 a b = truthM (fcmp .lss (FloatKind.f64.format.order a b)) := fun a b => rfl
      rw [e19]
      cases lessC x.toNat y.toNat <;> simp only [Bool.false_eq_true, if_false, if_true] <;> intro h <;> rw [h] <;> rfl
    rw [b0] at b1
    rw [q3] at a3; rw [q4] at a4
    have pr : (applyW 16 x y = x ∧ applyW 17 x y = y) ∨ (applyW 16 x y = y ∧ applyW 17 x y = x) := by
      rw [p1, p2]
      rcases hle with h | h <;> rw [h] <;> simp
    clear p1 p2 p3 p4 l1 l2 l3 q3 q4 b0 hl
    generalize applyW 16 x y = lo at *
    generalize applyW 17 x y = hi at *
    rcases pr with ⟨h1, h2⟩ | ⟨h1, h2⟩
    all_goals
      repeat' ((try (conv => whnf)); first | (refine when_y ?_) | (refine when_ft ?_) | (refine when_tf ?_) | (refine br_t ?_) | (refine br_f ?_) | (refine br_py (by omega) ?_) | (refine br_pn (by omega) ?_) | (refine when_py (by omega) ?_) | (refine when_pn (by omega) ?_) | (refine br_npy (by omega) ?_) | (refine br_npn (by omega) ?_) | (refine when_npy (by omega) ?_) | (refine when_npn (by omega) ?_) | (apply call_p (a1 _)) | (apply call_q (fun _ => a1 _)) | (apply call_p (a2 _)) | (apply call_q (fun _ => a2 _)) | (apply call_p (a3 _)) | (apply call_q (fun _ => a3 _)) | (apply call_p (a4 _)) | (apply call_q (fun _ => a4 _)) | (apply call_p (b1 _)) | (apply call_q (fun _ => b1 _)) | (apply call_p (z1 _)) | (apply call_q (fun _ => z1 _)) | (apply call_p (n1 _)) | (apply call_q (fun _ => n1 _)) | (apply call_p (n2 _)) | (apply call_q (fun _ => n2 _)) | (apply call_p (sp_awake _ _ hN)) | (apply call_q (fun _ => sp_awake _ _ hN)) | (refine when_y ?_) | (refine when_ft ?_) | (refine when_tf ?_) | (refine br_t ?_) | (refine br_f ?_) | (refine ari ?_ ?_; omega) | (refine aru ?_ ?_; omega) | (apply sel; exact rfl) | (refine ix0 rfl ?_) | (refine ix1 rfl ?_) | (refine ix2 rfl ?_) | (refine ix3 rfl ?_) | (refine ix4 rfl ?_) | (apply ixj; omega) | (refine ixn ?_ ?_; omega) | (apply ld_own; (first | exact List.Mem.head _ | exact List.Mem.tail _ (List.Mem.head _) | exact List.Mem.tail _ (List.Mem.tail _ (List.Mem.head _)) | exact List.Mem.tail _ (List.Mem.tail _ (List.Mem.tail _ (List.Mem.head _))) | exact List.Mem.tail _ (List.Mem.tail _ (List.Mem.tail _ (List.Mem.tail _ (List.Mem.head _)))) | exact List.Mem.tail _ (List.Mem.tail _ (List.Mem.tail _ (List.Mem.tail _ (List.Mem.tail _ (List.Mem.head _)))))); exact rfl) | (apply ldN_all; (first | exact List.Mem.head _ | exact List.Mem.tail _ (List.Mem.head _) | exact List.Mem.tail _ (List.Mem.tail _ (List.Mem.head _)) | exact List.Mem.tail _ (List.Mem.tail _ (List.Mem.tail _ (List.Mem.head _))) | exact List.Mem.tail _ (List.Mem.tail _ (List.Mem.tail _ (List.Mem.tail _ (List.Mem.head _)))) | exact List.Mem.tail _ (List.Mem.tail _ (List.Mem.tail _ (List.Mem.tail _ (List.Mem.tail _ (List.Mem.head _)))))); exact rfl) | (apply ldN_own; (first | exact List.Mem.head _ | exact List.Mem.tail _ (List.Mem.head _) | exact List.Mem.tail _ (List.Mem.tail _ (List.Mem.head _)) | exact List.Mem.tail _ (List.Mem.tail _ (List.Mem.tail _ (List.Mem.head _))) | exact List.Mem.tail _ (List.Mem.tail _ (List.Mem.tail _ (List.Mem.tail _ (List.Mem.head _)))) | exact List.Mem.tail _ (List.Mem.tail _ (List.Mem.tail _ (List.Mem.tail _ (List.Mem.tail _ (List.Mem.head _)))))); exact rfl; exact rfl) | (apply st_own; (first | exact Up.head | exact Up.tail Up.head | exact Up.tail (Up.tail Up.head) | exact Up.tail (Up.tail (Up.tail Up.head)) | exact Up.tail (Up.tail (Up.tail (Up.tail Up.head))) | exact Up.tail (Up.tail (Up.tail (Up.tail (Up.tail Up.head))))); (solve | ((try (conv => arg 2; whnf)); repeat' (first | exact Lis.nil | apply Lis.cons | apply SetAt.here | apply SetAt.there | apply PutAt.done | apply PutAt.put | apply PutAt.skip))); exact rfl) | (apply stN_own; (first | exact Up.head | exact Up.tail Up.head | exact Up.tail (Up.tail Up.head) | exact Up.tail (Up.tail (Up.tail Up.head)) | exact Up.tail (Up.tail (Up.tail (Up.tail Up.head))) | exact Up.tail (Up.tail (Up.tail (Up.tail (Up.tail Up.head))))); (solve | ((try (conv => arg 2; whnf)); repeat' (first | exact Lis.nil | apply Lis.cons | apply SetAt.here | apply SetAt.there | apply PutAt.done | apply PutAt.put | apply PutAt.skip))); exact rfl) | (refine new_i (fun bk hbk => ?_)) | (refine when_dt (fun hc => ?_) (fun hc => ?_)) | (refine when_df (fun hc => ?_) (fun hc => ?_)) | (refine when_ndt (fun hc => ?_) (fun hc => ?_)) | (refine when_ndf (fun hc => ?_) (fun hc => ?_)) | (refine br_d (fun hc => ?_) (fun hc => ?_)) | (refine br_nd (fun hc => ?_) (fun hc => ?_)) | (refine shl0 ?_ ?_; omega) | (refine shl1 ?_ ?_; omega) | (refine shl2 ?_ ?_; omega) | (refine shl3 ?_ ?_; omega) | (refine mm_min ?_) | (refine mm_max ?_) | (refine quo_i ?_ ?_; omega) | (refine rem_i ?_ ?_; omega) | (refine SelN.mk ?_) | (refine cut_n ?_) | (refine Both.mk ?_ ?_) | (exact True.intro) | (exact Ent.refl) | (refine Ent.cons ?_) | (fail))
      all_goals exact ⟨rfl, by repeat (first | exact Ent.refl | refine Ent.cons ?_)⟩
end Go.Proofs.YtdbeajjomifbpaaDoor
