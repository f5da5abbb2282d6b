/- Layout: contracts of Place and of the made configuration. No condition. -/
import Derived.Test.YtcgdhdbhebcbkaaDoorLeB
namespace Go.Proofs.YtcgdhdbhebcbkaaDoor
open Go
set_option maxRecDepth 10000

def placeM (a n : Int) : Int := IntKind.u64.wrap a % n
theorem wrapu_bd (a : Int) : 0 ≤ IntKind.u64.wrap a ∧ IntKind.u64.wrap a ≤ 18446744073709551615 := by
  unfold IntKind.wrap
  have h3 : ((2 : Int) ^ IntKind.u64.bits) = 18446744073709551616 := rfl
  simp only [h3, IntKind.signed, Bool.false_and, Bool.false_eq_true, if_false]
  omega
theorem place_bd (a : Int) {n : Int} (h : 0 < n) : 0 ≤ placeM a n ∧ placeM a n < n := ⟨Int.emod_nonneg _ (by omega), Int.emod_lt_of_pos _ h⟩
theorem tdiv_bd {m n : Int} (h1 : -9223372036854775808 ≤ m ∧ 0 < n ∧ m ≤ 9223372036854775807) : -9223372036854775808 ≤ m.tdiv n ∧ m.tdiv n ≤ 9223372036854775807 := by
  have h2 : (m.tdiv n).natAbs ≤ m.natAbs := by rw [Int.natAbs_tdiv]; exact Nat.div_le_self _ _
  have h4 : m < 0 → m.tdiv n ≤ 0 := fun h => by
    have h5 : 0 ≤ (-m).tdiv n := Int.tdiv_nonneg (by omega) (by omega)
    rw [Int.neg_tdiv] at h5
    omega
  omega
theorem quo_t {m n : Int} {K : Int → Prop} (h1 : -9223372036854775808 ≤ m ∧ 0 < n ∧ m ≤ 9223372036854775807) (h : K (m.tdiv n)) : Quo .i64 m n K := by
  have h2 := tdiv_bd h1
  refine ⟨by omega, ?_⟩
  rw [wrap_i64 (by omega) (by omega)]
  exact h

theorem sp_place (W0 : World) (own : Own) (a n : Int) (hn : 0 < n ∧ n ≤ 9223372036854775807) : Pure Tryd.prog W0 13 [.int .i64 a, .int .i64 n] own (.int .i64 (placeM a n)) := by
  refine pure_of (spec_of mixed low_kit_Place (by simp [ir_kit_Place]) ?_)
  have hw := wrapu_bd a
  have hp := place_bd a hn.1
  unfold placeM at hp
  repeat' ((try (conv => whnf)); first | (refine arw (k := .u64) (e := a) ?_) | (refine when_y ?_) | (refine when_ft ?_) | (refine when_tf ?_) | (refine br_t ?_) | (refine br_f ?_) | (refine ari ?_ ?_; omega) | (refine aru ?_ ?_; omega) | (apply sel; exact rfl) | (refine ix0 rfl ?_) | (refine ix1 rfl ?_) | (refine ix2 rfl ?_) | (refine ix3 rfl ?_) | (refine ix4 rfl ?_) | (apply ixj; omega) | (refine ixn ?_ ?_; omega) | (refine ixs0 rfl ?_) | (refine ixs1 rfl ?_) | (refine ixs2 rfl ?_) | (refine ixs_j ?_ ?_; omega) | (refine ixs_n ?_ ?_; omega) | (apply ld_own; (repeat (first | exact List.Mem.head _ | apply List.Mem.tail | apply List.mem_append_right)); exact rfl) | (apply ldN_all; (repeat (first | exact List.Mem.head _ | apply List.Mem.tail | apply List.mem_append_right)); exact rfl) | (apply ldN_own; (repeat (first | exact List.Mem.head _ | apply List.Mem.tail | apply List.mem_append_right)); exact rfl; exact rfl) | (apply st_own; (repeat (first | exact Up.head | apply Up.tail | apply Up.app)); (solve | ((try (conv => arg 2; whnf)); repeat' (first | exact Lis.nil | apply Lis.cons | apply SetAt.here | apply SetAt.there | apply PutAt.done | apply PutAt.put | apply PutAt.skip))); exact rfl) | (apply stN_own; (repeat (first | exact Up.head | apply Up.tail | apply Up.app)); (solve | ((try (conv => arg 2; whnf)); repeat' (first | exact Lis.nil | apply Lis.cons | apply SetAt.here | apply SetAt.there | apply PutAt.done | apply PutAt.put | apply PutAt.skip))); exact rfl) | (refine new_i (fun bk hbk => ?_)) | (refine when_dt (fun hc => ?_) (fun hc => ?_)) | (refine when_df (fun hc => ?_) (fun hc => ?_)) | (refine when_ndt (fun hc => ?_) (fun hc => ?_)) | (refine when_ndf (fun hc => ?_) (fun hc => ?_)) | (refine br_d (fun hc => ?_) (fun hc => ?_)) | (refine br_nd (fun hc => ?_) (fun hc => ?_)) | (refine shl0 ?_ ?_; omega) | (refine shl1 ?_ ?_; omega) | (refine shl2 ?_ ?_; omega) | (refine shl3 ?_ ?_; omega) | (refine mm_min ?_) | (refine mm_max ?_) | (refine quo_i ?_ ?_; omega) | (refine rem_i ?_ ?_; omega) | (refine stN_and rfl ?_) | (refine SelN.mk ?_) | (refine cut_n ?_) | (refine Both.mk ?_ ?_) | (exact True.intro) | (exact Ent.refl) | (refine Ent.cons ?_) | (refine And.intro rfl ?_) | (fail))
  all_goals exact ⟨ret1 rfl, by (repeat (first | exact Ent.refl | exact Ent.left | refine Ent.cons ?_ | refine Ent.app ?_))⟩

/-- All within an int. -/
def inKs : List Int → Prop
  | [] => True
  | a :: r => (-9223372036854775808 ≤ a ∧ a ≤ 9223372036854775807) ∧ inKs r
/-- What a made configuration keeps. -/
def goodC (c : Cfg) : Prop := 4 ≤ c.words ∧ c.words ≤ 12 ∧ 1 ≤ c.orecs ∧ c.orecs ≤ 8 ∧ c.base = 2 ∧ 0 ≤ c.c0 ∧ c.c0 ≤ 2 ∧ 0 ≤ c.c1 ∧ c.c1 ≤ 2 ∧ c.c2 = 0 ∧ c.c3 = 0 ∧ c.c0 + c.c1 * 2 ≤ c.words - 2 ∧
  1 ≤ c.reads ∧ c.reads ≤ 8 ∧ 1 ≤ c.writes ∧ c.writes ≤ 8 ∧ 0 ≤ c.allocs ∧ c.allocs ≤ 2 ∧ 0 ≤ c.frees ∧ c.frees ≤ 2 ∧ 0 ≤ c.clock ∧ c.clock ≤ 50 ∧ c.strong = false
theorem good_check {c : Cfg} (h : goodC c) : checkM c = 0 := by
  unfold goodC at h
  exact (cm0 (by unfold okW; omega) (by unfold okH okC nB nW; omega) (by unfold okL; omega) (by unfold okK; omega)).symm

section
variable {P : Program} {W0 : World} {own : Own}
/-- A call whose result is known by a property; the class stays. -/
def PureE (P : Program) (W0 : World) (k : FuncId) (args : List Value) (own : Own) (Φ : Value → Prop) : Prop :=
  ∀ w, St W0 own w → Calls P k args.toArray w fun e w' => ∃ v, e = .returned v ∧ Φ v ∧ St W0 own w'
theorem pureE_of {k : FuncId} {args : List Value} {Φ : Value → Prop} (h : Spec P W0 k args own fun v' own' => Φ v' ∧ Ent W0 own' own) : PureE P W0 k args own Φ := fun w hw =>
  (h w hw).mono fun _ w' ⟨v, _, he, hs, hv, hE⟩ => ⟨v, he, hv, hE w' hs⟩
theorem call_e {k : FuncId} {args : List Value} {Φ : Value → Prop} {K : Value → Own → Prop} (h : PureE P W0 k args own Φ) (hk : ∀ v, Φ v → K v own) : CallT P W0 own k args K :=
  ⟨fun w hw => (h w hw).mono fun _ _ ⟨v, he, hv, hs⟩ => ⟨v, own, he, hs, hk v hv⟩⟩
end

theorem callP_place {W0 : World} {own : Own} {a n : Int} {K : Value → Own → Prop} (hn : 0 < n ∧ n ≤ 9223372036854775807) (h : ∀ p, 0 ≤ p ∧ p < n → K (.int .i64 p) own) :
    CallT Tryd.prog W0 own 13 [.int .i64 a, .int .i64 n] K := call_p (sp_place _ _ _ _ hn) (h _ (place_bd a hn.1))
theorem callQ_place {W0 : World} {own : Own} {a n : Int} {K : Value → Prop} (hn : 0 < n ∧ n ≤ 9223372036854775807) (h : ∀ p, 0 ≤ p ∧ p < n → K (.int .i64 p)) :
    CallQ Tryd.prog W0 own 13 [.int .i64 a, .int .i64 n] K := call_q (fun _ => sp_place _ _ _ _ hn) (h _ (place_bd a hn.1))
theorem shr0 {m : Int} {K : Int → Prop} (h : K (m / 1)) : Shr .i64 m 0 K := shr_l 0 1 rfl rfl (by omega) rfl h
theorem shr1 {m : Int} {K : Int → Prop} (h : K (m / 2)) : Shr .i64 m 1 K := shr_l 1 2 rfl rfl (by omega) rfl h
theorem shr2 {m : Int} {K : Int → Prop} (h : K (m / 4)) : Shr .i64 m 2 K := shr_l 2 4 rfl rfl (by omega) rfl h
theorem shr3 {m : Int} {K : Int → Prop} (h : K (m / 8)) : Shr .i64 m 3 K := shr_l 3 8 rfl rfl (by omega) rfl h

theorem sp_config (W0 : World) (own : Own) (a b c d e : Int) (hh : inKs [a, b, c, d, e]) : PureE Tryd.prog W0 19 [.int .i64 a, .int .i64 b, .int .i64 c, .int .i64 d, .int .i64 e] own (fun v => ∃ c : Cfg, v = c.v ∧ goodC c) := by
  obtain ⟨ha, hb, hc, hd, he, _⟩ := hh
  refine pureE_of (spec_of mixed low_make_Config (by simp [ir_make_Config]) ?_)
  repeat' ((try (conv => whnf)); first | (refine callP_place ?_ (fun p hp => ?_); omega) | (refine callQ_place ?_ (fun p hp => ?_); omega) | (refine quo_t ?_ ?_; omega) | (refine shr0 ?_) | (refine shr1 ?_) | (refine loop_r 3 ?_) | (refine when_y ?_) | (refine when_ft ?_) | (refine when_tf ?_) | (refine br_t ?_) | (refine br_f ?_) | (refine ari ?_ ?_; omega) | (refine aru ?_ ?_; omega) | (apply sel; exact rfl) | (refine ix0 rfl ?_) | (refine ix1 rfl ?_) | (refine ix2 rfl ?_) | (refine ix3 rfl ?_) | (refine ix4 rfl ?_) | (apply ixj; omega) | (refine ixn ?_ ?_; omega) | (refine ixs0 rfl ?_) | (refine ixs1 rfl ?_) | (refine ixs2 rfl ?_) | (refine ixs_j ?_ ?_; omega) | (refine ixs_n ?_ ?_; omega) | (apply ld_own; (repeat (first | exact List.Mem.head _ | apply List.Mem.tail | apply List.mem_append_right)); exact rfl) | (apply ldN_all; (repeat (first | exact List.Mem.head _ | apply List.Mem.tail | apply List.mem_append_right)); exact rfl) | (apply ldN_own; (repeat (first | exact List.Mem.head _ | apply List.Mem.tail | apply List.mem_append_right)); exact rfl; exact rfl) | (apply st_own; (repeat (first | exact Up.head | apply Up.tail | apply Up.app)); (solve | ((try (conv => arg 2; whnf)); repeat' (first | exact Lis.nil | apply Lis.cons | apply SetAt.here | apply SetAt.there | apply PutAt.done | apply PutAt.put | apply PutAt.skip))); exact rfl) | (apply stN_own; (repeat (first | exact Up.head | apply Up.tail | apply Up.app)); (solve | ((try (conv => arg 2; whnf)); repeat' (first | exact Lis.nil | apply Lis.cons | apply SetAt.here | apply SetAt.there | apply PutAt.done | apply PutAt.put | apply PutAt.skip))); exact rfl) | (refine new_i (fun bk hbk => ?_)) | (refine when_dt (fun hc => ?_) (fun hc => ?_)) | (refine when_df (fun hc => ?_) (fun hc => ?_)) | (refine when_ndt (fun hc => ?_) (fun hc => ?_)) | (refine when_ndf (fun hc => ?_) (fun hc => ?_)) | (refine br_d (fun hc => ?_) (fun hc => ?_)) | (refine br_nd (fun hc => ?_) (fun hc => ?_)) | (refine shl0 ?_ ?_; omega) | (refine shl1 ?_ ?_; omega) | (refine shl2 ?_ ?_; omega) | (refine shl3 ?_ ?_; omega) | (refine mm_min ?_) | (refine mm_max ?_) | (refine quo_i ?_ ?_; omega) | (refine rem_i ?_ ?_; omega) | (refine stN_and rfl ?_) | (refine SelN.mk ?_) | (refine cut_n ?_) | (refine Both.mk ?_ ?_) | (exact True.intro) | (exact Ent.refl) | (refine Ent.cons ?_) | (refine And.intro rfl ?_) | (fail))
  all_goals (refine ⟨⟨⟨_, _, _, _, _, _, _, _, _, _, _, _, _⟩, ret1 rfl, ?_⟩, by (repeat (first | exact Ent.refl | exact Ent.left | refine Ent.cons ?_ | refine Ent.app ?_))⟩; dsimp only [goodC]; (repeat' apply And.intro) <;> first | rfl | omega)
end Go.Proofs.YtcgdhdbhebcbkaaDoor
