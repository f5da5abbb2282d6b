/- What the laws share, part 18. No condition. -/
import Derived.Test.YtfompmhncnkcfaaGreatDoorY17
namespace Go.Proofs.YtfompmhncnkcfaaGreatDoor
open Go
set_option maxRecDepth 10000
def placeM (a n : Int) : Int := IntKind.u64.wrap a % n
theorem wrapu_bd (a : Int) : 0 ≤ IntKind.u64.wrap a ∧ IntKind.u64.wrap a ≤ 18446744073709551615 := by
  unfold IntKind.wrap
  have h3 : ((2 : Int) ^ IntKind.u64.bits) = 18446744073709551616 := rfl
  simp only [h3, IntKind.signed, Bool.false_and, Bool.false_eq_true, if_false]
  omega
theorem place_bd (a : Int) {n : Int} (h : 0 < n) : 0 ≤ placeM a n ∧ placeM a n < n := ⟨Int.emod_nonneg _ (by omega), Int.emod_lt_of_pos _ h⟩
theorem tdiv_bd {m n : Int} (h1 : -9223372036854775808 ≤ m ∧ 0 < n ∧ m ≤ 9223372036854775807) : -9223372036854775808 ≤ m.tdiv n ∧ m.tdiv n ≤ 9223372036854775807 := by
  have h2 : (m.tdiv n).natAbs ≤ m.natAbs := by rw [Int.natAbs_tdiv]; exact Nat.div_le_self _ _
  have h4 : m < 0 → m.tdiv n ≤ 0 := fun h => by
    have h5 : 0 ≤ (-m).tdiv n := Int.tdiv_nonneg (by omega) (by omega)
    rw [Int.neg_tdiv] at h5
    omega
  omega
theorem quo_t {m n : Int} {K : Int → Prop} (h1 : -9223372036854775808 ≤ m ∧ 0 < n ∧ m ≤ 9223372036854775807) (h : K (m.tdiv n)) : Quo .i64 m n K := by
  have h2 := tdiv_bd h1
  refine ⟨by omega, ?_⟩
  rw [wrap_i64 (by omega) (by omega)]
  exact h
theorem sp_place (W0 : World) (own : Own) (a n : Int) (hn : 0 < n ∧ n ≤ 9223372036854775807) : Pure Tryz.prog W0 23 [.int .i64 a, .int .i64 n] own (.int .i64 (placeM a n)) := by
  refine pure_of (spec_of mixed low_kit_Place (by simp [ir_kit_Place]) ?_)
  have hw := wrapu_bd a
  have hp := place_bd a hn.1
  unfold placeM at hp
  repeat' ((try (conv => whnf)); first | (refine arw (k := .u64) (e := a) ?_) | (refine ari ?_ ?_; omega) | (refine aru ?_ ?_; omega) | (refine rem_i ?_ ?_; omega) | (exact Ent.refl) | (refine And.intro rfl ?_))
  all_goals exact ⟨ret1 rfl, by (repeat (first | exact Ent.refl | exact Ent.left | refine Ent.cons ?_ | refine Ent.app ?_))⟩
def inKs : List Int → Prop
  | [] => True
  | a :: r => (-9223372036854775808 ≤ a ∧ a ≤ 9223372036854775807) ∧ inKs r
def goodC (c : Cfg) : Prop := 4 ≤ c.words ∧ c.words ≤ 12 ∧ 1 ≤ c.orecs ∧ c.orecs ≤ 8 ∧ c.base = 2 ∧ 0 ≤ c.c0 ∧ c.c0 ≤ 2 ∧ 0 ≤ c.c1 ∧ c.c1 ≤ 2 ∧ c.c2 = 0 ∧ c.c3 = 0 ∧ c.c0 + c.c1 * 2 ≤ c.words - 2 ∧
  1 ≤ c.reads ∧ c.reads ≤ 8 ∧ 1 ≤ c.writes ∧ c.writes ≤ 8 ∧ 0 ≤ c.allocs ∧ c.allocs ≤ 2 ∧ 0 ≤ c.frees ∧ c.frees ≤ 2 ∧ 0 ≤ c.clock ∧ c.clock ≤ 50 ∧ c.strong = false
section
variable {P : Program} {W0 : World} {own : Own}
def PureE (P : Program) (W0 : World) (k : FuncId) (args : List Value) (own : Own) (Φ : Value → Prop) : Prop :=
  ∀ w, St W0 own w → Calls P k args.toArray w fun e w' => ∃ v, e = .returned v ∧ Φ v ∧ St W0 own w'
theorem pureE_of {k : FuncId} {args : List Value} {Φ : Value → Prop} (h : Spec P W0 k args own fun v' own' => Φ v' ∧ Ent W0 own' own) : PureE P W0 k args own Φ := fun w hw =>
  (h w hw).mono fun _ w' ⟨v, _, he, hs, hv, hE⟩ => ⟨v, he, hv, hE w' hs⟩
theorem call_e {k : FuncId} {args : List Value} {Φ : Value → Prop} {K : Value → Own → Prop} (h : PureE P W0 k args own Φ) (hk : ∀ v, Φ v → K v own) : CallT P W0 own k args K :=
  ⟨fun w hw => (h w hw).mono fun _ _ ⟨v, he, hv, hs⟩ => ⟨v, own, he, hs, hk v hv⟩⟩
end
theorem callP_place {W0 : World} {own : Own} {a n : Int} {K : Value → Own → Prop} (hn : 0 < n ∧ n ≤ 9223372036854775807) (h : ∀ p, 0 ≤ p ∧ p < n → K (.int .i64 p) own) :
    CallT Tryz.prog W0 own 23 [.int .i64 a, .int .i64 n] K := call_p (sp_place _ _ _ _ hn) (h _ (place_bd a hn.1))
theorem callQ_place {W0 : World} {own : Own} {a n : Int} {K : Value → Prop} (hn : 0 < n ∧ n ≤ 9223372036854775807) (h : ∀ p, 0 ≤ p ∧ p < n → K (.int .i64 p)) :
    CallQ Tryz.prog W0 own 23 [.int .i64 a, .int .i64 n] K := call_q (fun _ => sp_place _ _ _ _ hn) (h _ (place_bd a hn.1))
theorem shr0 {m : Int} {K : Int → Prop} (h : K (m / 1)) : Shr .i64 m 0 K := shr_l 0 1 rfl rfl (by omega) rfl h
theorem shr1 {m : Int} {K : Int → Prop} (h : K (m / 2)) : Shr .i64 m 1 K := shr_l 1 2 rfl rfl (by omega) rfl h
theorem sp_config (W0 : World) (own : Own) (a b c d e : Int) (hh : inKs [a, b, c, d, e]) : PureE Tryz.prog W0 28 [.int .i64 a, .int .i64 b, .int .i64 c, .int .i64 d, .int .i64 e] own (fun v => ∃ c : Cfg, v = c.v ∧ goodC c) := by
  obtain ⟨ha, hb, hc, hd, he, _⟩ := hh
  refine pureE_of (spec_of mixed low_make_Config (by simp [ir_make_Config]) ?_)
  repeat' ((try (conv => whnf)); first | (refine callP_place ?_ (fun p hp => ?_); omega) | (refine callQ_place ?_ (fun p hp => ?_); omega) | (refine quo_t ?_ ?_; omega) | (refine shr0 ?_) | (refine shr1 ?_) | (refine loop_r 3 ?_) | (refine br_t ?_) | (refine br_f ?_) | (refine ari ?_ ?_; omega) | (refine ix0 rfl ?_) | (refine ix1 rfl ?_) | (apply ld_own; (first | (solve | repeat (first | with_reducible exact List.mem_cons_self | (with_reducible (apply List.mem_append_left; exact List.mem_cons_self)) | with_reducible apply List.mem_cons_of_mem | with_reducible apply List.mem_append_right)) | (repeat (first | exact List.Mem.head _ | apply List.Mem.tail | apply List.mem_append_right))); exact rfl) | (apply ldN_all; (first | (solve | repeat (first | with_reducible exact List.mem_cons_self | (with_reducible (apply List.mem_append_left; exact List.mem_cons_self)) | with_reducible apply List.mem_cons_of_mem | with_reducible apply List.mem_append_right)) | (repeat (first | exact List.Mem.head _ | apply List.Mem.tail | apply List.mem_append_right))); exact rfl) | (apply st_own; (first | (solve | repeat (first | with_reducible exact Up.head | with_reducible apply Up.tail | with_reducible apply Up.app)) | (repeat (first | exact Up.head | apply Up.tail | apply Up.app))); (solve | ((try (conv => arg 2; whnf)); repeat' (first | exact Lis.nil | apply Lis.cons | apply SetAt.here | apply SetAt.there | apply PutAt.done | apply PutAt.put | apply PutAt.skip))); exact rfl) | (apply stN_own; (first | (solve | repeat (first | with_reducible exact Up.head | with_reducible apply Up.tail | with_reducible apply Up.app)) | (repeat (first | exact Up.head | apply Up.tail | apply Up.app))); (solve | ((try (conv => arg 2; whnf)); repeat' (first | exact Lis.nil | apply Lis.cons | apply SetAt.here | apply SetAt.there | apply PutAt.done | apply PutAt.put | apply PutAt.skip))); exact rfl) | (refine new_i (fun bk hbk => ?_)) | (refine br_d (fun hc => ?_) (fun hc => ?_)) | (refine shl0 ?_ ?_; omega) | (refine shl1 ?_ ?_; omega) | (refine mm_min ?_) | (refine stN_and rfl ?_))
  all_goals (refine ⟨⟨⟨_, _, _, _, _, _, _, _, _, _, _, _, _⟩, ret1 rfl, ?_⟩, by (repeat (first | exact Ent.refl | exact Ent.left | refine Ent.cons ?_ | refine Ent.app ?_))⟩; dsimp only [goodC]; (repeat' apply And.intro) <;> first | rfl | omega)
end Go.Proofs.YtfompmhncnkcfaaGreatDoor
namespace Go.Proofs.YtfompmhncnkcfaaGreatDoor
open Go
set_option maxRecDepth 10000
theorem callP_config {W0 : World} {own : Own} {a b c d e : Int} {K : Value → Own → Prop} (hh : inKs [a, b, c, d, e]) (h : ∀ c : Cfg, goodC c → K c.v own) :
    CallT Tryz.prog W0 own 28 [.int .i64 a, .int .i64 b, .int .i64 c, .int .i64 d, .int .i64 e] K :=
  call_e (sp_config W0 own a b c d e hh) (fun v ⟨c, hv, hg⟩ => by rw [hv]; exact h c hg)
end Go.Proofs.YtfompmhncnkcfaaGreatDoor
namespace Go.Proofs.YtfompmhncnkcfaaGreatDoor
open Go
set_option maxRecDepth 10000
set_option maxHeartbeats 4000000
structure PB where
  h : PH
  D : Own
abbrev PB.ok (x : PB) : Prop := BufE Ins.enc 69 5 x.h.a x.h.cap x.h.p x.D
abbrev ownL (l : List PB) : Own := (l.map PB.D).flatten
abbrev encU (n : Int) : List Value := [.int .u64 n]
abbrev scrC (c : Cfg) (i p k : Value) : Array Value := #[.int .i64 c.words, .int .i64 c.orecs, .int .i64 c.base, .int .i64 c.c0, .int .i64 c.c1, .int .i64 c.c2, .int .i64 c.c3, .int .i64 c.reads, .int .i64 c.writes, .int .i64 c.allocs, .int .i64 c.frees, .int .i64 c.clock, .bool c.strong, i, p, k]
structure IH where
  a : Option Addr
  cap : Nat
  l : List Int
abbrev IH.enc (h : IH) : List Value := [.slice h.a h.l.length h.cap]
theorem call_pg {P : Program} {W0 : World} {own : Own} {k : FuncId} {args : List Value} {T : TypeId} {Φ : List Ins → Prop} {K : Value → Own → Prop}
    (h : Spec P W0 k args own fun v own' => ∃ a cap D p, v = .slice a (List.length p) cap ∧ BufE Ins.enc T 5 a cap p D ∧ Ent W0 own' (D ++ own) ∧ Φ p)
    (hk : ∀ a cap D p, BufE Ins.enc T 5 a cap p D → Φ p → K (.slice a (List.length p) cap) (D ++ own)) : CallT P W0 own k args K :=
  ⟨fun w hw => (h w hw).mono fun _ _ ⟨_, _, he, hs, a, cap, D, p, hv, hB, hE, hΦ⟩ => ⟨_, _, by rw [he, hv], hE _ hs, hk a cap D p hB hΦ⟩⟩
theorem ownL_snoc (l : List PB) (x : PB) : ownL (l ++ [x]) = ownL l ++ x.D := by simp [ownL]
theorem ent_push {W0 : World} {e b : Nat × (Obj → Prop)} {D1 D3 L R : Own} : Ent W0 (e :: (D1 ++ (b :: (D3 ++ (L ++ R))))) (b :: (D3 ++ ((L ++ D1) ++ R))) := by
  refine Ent.cons (Ent.of_perm ?_)
  refine List.perm_middle.trans (List.Perm.cons b ?_)
  refine (List.perm_append_comm_assoc D1 D3 (L ++ R)).trans (List.Perm.append_left D3 ?_)
  rw [List.append_assoc]
  exact List.perm_append_comm_assoc D1 L R
abbrev nilS : Value := .slice none 0 0
abbrev tailO (b14 b7 : Nat) (c : Cfg) (own : Own) : Own := (b14, fun o => o = Obj.cells (scrC ⟨0, 0, 0, 0, 0, 0, 0, 0, 0, 0, 0, 0, false⟩ nilS nilS nilS) 32) :: (b7, fun o => o = Obj.cells c.cs 27) :: own
end Go.Proofs.YtfompmhncnkcfaaGreatDoor
namespace Go.Proofs.YtfompmhncnkcfaaGreatDoor
open Go
set_option maxRecDepth 10000
def stB (p : List Ins) : Nat → Int
  | 0 => -1
  | k + 1 => match p[k]? with
    | some x => nextB x k (stB p k)
    | none => stB p k
theorem stB_succ {p : List Ins} {k : Nat} {x : Ins} (hx : p[k]? = some x) : stB p (k + 1) = nextB x k (stB p k) := by
  simp only [stB, hx]
theorem ck_len {p : List Ins} (h : checkP p = (0, 0)) : p.length ≤ 64 := by
  unfold checkP at h
  split at h
  · simp at h
  · omega
theorem ck_step {p : List Ins} (h : checkP p = (0, 0)) : ∀ k, k ≤ p.length → PInv p k (stB p k) ∧ checkG (targetM p) (p.drop k) k (stB p k) = (0, 0)
  | 0, _ => by
    refine ⟨PInv.start p, ?_⟩
    unfold checkP at h
    split at h
    · simp at h
    · exact h
  | k + 1, hk => by
    obtain ⟨h1, h2⟩ := ck_step h k (by omega)
    obtain ⟨x, hx⟩ : ∃ x, p[k]? = some x := ⟨_, List.getElem?_eq_getElem (by omega)⟩
    rw [drop_at hx, checkG] at h2
    split at h2
    · rename_i h0
      simp only [Prod.mk.injEq] at h2
      exact absurd h2.2 h0
    · rename_i h0
      have ho := oneX_ok (by simpa using h0)
      rw [stB_succ hx]
      exact ⟨h1.step hx ho.1 ho.2.1, h2⟩
theorem ck_one {p : List Ins} (h : checkP p = (0, 0)) {k : Nat} {x : Ins} (hx : p[k]? = some x) : oneX (targetM p k (stB p k) x) (stB p k) x = 0 := by
  have hk := (List.getElem?_eq_some_iff.1 hx).1
  have h2 := (ck_step h k (by omega)).2
  rw [drop_at hx, checkG] at h2
  split at h2
  · rename_i h0
    simp only [Prod.mk.injEq] at h2
    exact absurd h2.2 h0
  · rename_i h0
    simpa using h0
theorem ck_end {p : List Ins} (h : checkP p = (0, 0)) : stB p p.length < 0 := by
  have h2 := (ck_step h p.length (Nat.le_refl _)).2
  rw [List.drop_length, checkG] at h2
  split at h2
  · simp at h2
  · omega
theorem ck_inv {p : List Ins} (h : checkP p = (0, 0)) {k : Nat} (hk : k ≤ p.length) : PInv p k (stB p k) := (ck_step h k hk).1
theorem ck_ins {p : List Ins} (h : checkP p = (0, 0)) {k : Nat} {x : Ins} (hx : p[k]? = some x) :
    icheck x = 0 ∧ (x.op = 7 → stB p k < 0) ∧ (x.op = 8 → 0 ≤ stB p k) ∧ targetM p k (stB p k) x = 0 ∧
      (x.op = 9 ∨ x.op = 10 ∨ x.op = 11 ∨ x.op = 14 ∨ x.op = 15 → 0 ≤ stB p k) := by
  have h0 := ck_one h hx
  have ho := oneX_ok h0
  refine ⟨ho.2.2.1, ho.1, ho.2.1, ho.2.2.2, fun hop => ?_⟩
  unfold oneX at h0
  rw [if_neg (by simpa using ho.2.2.1)] at h0
  split at h0
  · omega
  · split at h0
    · omega
    · rename_i h2
      have hp : iplace x = 1 := by unfold iplace; rw [if_pos ho.2.2.1, if_pos (by omega)]
      omega
theorem in_end {p : List Ins} (h : checkP p = (0, 0)) : ∀ (n k : Nat), n + k = p.length → 0 ≤ stB p k →
    ∃ c, endL (p.drop k) k = c ∧ k ≤ c ∧ c < p.length ∧ (∃ x, p[c]? = some x ∧ x.op = 8) ∧ stB p (c + 1) = -1 ∧ ∀ i, k ≤ i → i ≤ c → stB p i = stB p k ∧ endL (p.drop i) i = c ∧ (i < c → ∀ x, p[i]? = some x → x.op ≠ 7 ∧ x.op ≠ 8)
  | 0, k, hn, hb => by
    have hk : k = p.length := by omega
    have := ck_end h
    rw [← hk] at this
    omega
  | n + 1, k, hn, hb => by
    obtain ⟨x, hx⟩ : ∃ x, p[k]? = some x := ⟨_, List.getElem?_eq_getElem (by omega)⟩
    have hi := ck_ins h hx
    have h7 : x.op ≠ 7 := fun e => by have := hi.2.1 e; omega
    have hd : endL (p.drop k) k = if x.op = 8 then k else endL (p.drop (k + 1)) (k + 1) := by rw [drop_at hx, endL]
    by_cases h8 : x.op = 8
    · refine ⟨k, by rw [hd, if_pos h8], Nat.le_refl k, by omega, ⟨x, hx, h8⟩, ?_, fun i h1 h2 => ?_⟩
      · rw [stB_succ hx, nextB, if_neg h7, if_pos h8]
      · obtain rfl : i = k := by omega
        exact ⟨rfl, by rw [hd, if_pos h8], fun h => absurd h (by omega)⟩
    · have hs : stB p (k + 1) = stB p k := by rw [stB_succ hx, nextB, if_neg h7, if_neg h8]
      obtain ⟨c, hc, hkc, hcl, hc8, hc1, hall⟩ := in_end h n (k + 1) (by omega) (by rw [hs]; exact hb)
      refine ⟨c, by rw [hd, if_neg h8, hc], by omega, hcl, hc8, hc1, fun i h1 h2 => ?_⟩
      by_cases hik : i = k
      · subst hik
        refine ⟨rfl, by rw [hd, if_neg h8, hc], fun _ y hy => ?_⟩
        rw [hx] at hy
        obtain rfl := Option.some.inj hy
        exact ⟨h7, h8⟩
      · have := hall i (by omega) h2
        rw [hs] at this
        exact this
theorem of_begin {p : List Ins} (h : checkP p = (0, 0)) {k : Nat} {x : Ins} (hx : p[k]? = some x) (h7 : x.op = 7) :
    ∃ c, endM p k = c ∧ k < c ∧ c < p.length ∧ (∃ y, p[c]? = some y ∧ y.op = 8) ∧ stB p (c + 1) = -1 ∧ ∀ i, k < i → i ≤ c → stB p i = k ∧ endL (p.drop i) i = c ∧ (i < c → ∀ y, p[i]? = some y → y.op ≠ 7 ∧ y.op ≠ 8) := by
  have hk := (List.getElem?_eq_some_iff.1 hx).1
  have hs : stB p (k + 1) = k := by rw [stB_succ hx, nextB, if_pos h7]
  obtain ⟨c, h1, h2, h3, h4, h5, h6⟩ := in_end h (p.length - (k + 1)) (k + 1) (by omega) (by rw [hs]; omega)
  rw [hs] at h6
  exact ⟨c, h1, h2, h3, h4, h5, fun i hi => h6 i (by omega)⟩
def afterL (p : List Ins) (k : Nat) (x : Ins) : List Int :=
  if x.op = 4 then [k + 1 + x.imm] else if x.op = 5 ∨ x.op = 6 then [k + 1, k + 1 + x.imm] else if x.op = 9 then [(endM p k : Int) + 1] else [k + 1]
theorem intoL_no (len : Nat) : ∀ (l : List Ins) (j t : Nat), intoL len l j t = false → ∀ (i : Nat) (x : Ins), l[i]? = some x → j + i < t → x.op = 7 → endL (l.drop (i + 1)) (j + i + 1) < t ∨ len ≤ t
  | [], j, t, _, i, x, hx, _, _ => by simp at hx
  | y :: l, j, t, h, i, x, hx, hi, h7 => by
    unfold intoL at h
    rw [Bool.or_eq_false_iff, decide_eq_false_iff_not] at h
    cases i with
    | zero =>
      simp only [List.getElem?_cons_zero, Option.some.injEq] at hx
      subst hx
      simp only [Nat.add_zero, Nat.zero_add, List.drop_succ_cons, List.drop_zero]
      by_cases h1 : t ≤ endL l (j + 1)
      · right
        by_cases h2 : t + 1 ≤ len
        · exact absurd ⟨by omega, h7, h1, h2⟩ h.1
        · omega
      · left; omega
    | succ i =>
      have := intoL_no len l (j + 1) t h.2 i x (by simpa using hx) (by omega) h7
      simp only [List.drop_succ_cons]
      have e : j + (i + 1) + 1 = j + 1 + i + 1 := by omega
      rw [e]
      exact this
theorem iskips_of {x : Ins} (hc : icheck x = 0) (h : x.op = 4 ∨ x.op = 5 ∨ x.op = 6) : iskips x = true := by
  unfold iskips
  rw [decide_eq_true_iff]
  exact ⟨hc, h⟩
theorem after_ok {p : List Ins} (h : checkP p = (0, 0)) {k : Nat} {x : Ins} (hx : p[k]? = some x) : ∀ t ∈ afterL p k x, ∃ j : Nat, t = j ∧ k < j ∧ j ≤ p.length ∧
    (0 ≤ stB p k → x.op ≠ 8 → (x.op ≠ 9 → j ≤ endL (p.drop k) k) ∧ (x.op = 9 → j = endL (p.drop k) k + 1)) ∧
    (stB p k < 0 → ∀ (b : Nat) (y : Ins), k < b → p[b]? = some y → y.op = 7 → j ≤ b ∨ endM p b < j) := by
  have hk := (List.getElem?_eq_some_iff.1 hx).1
  have hi := ck_ins h hx
  have hin := fun hb => in_end h (p.length - k) k (by omega) hb
  have hdk : x.op ≠ 8 → endL (p.drop k) k = endL (p.drop (k + 1)) (k + 1) := fun h8 => by rw [drop_at hx, endL, if_neg h8]
  have step : ∃ j : Nat, ((k : Int) + 1) = j ∧ k < j ∧ j ≤ p.length ∧ (0 ≤ stB p k → x.op ≠ 8 → j ≤ endL (p.drop k) k) ∧
      (stB p k < 0 → ∀ (b : Nat) (y : Ins), k < b → p[b]? = some y → y.op = 7 → j ≤ b ∨ endM p b < j) := by
    refine ⟨k + 1, by omega, by omega, by omega, fun hb h8 => ?_, fun _ b y hb _ _ => .inl (by omega)⟩
    rw [hdk h8]
    exact (endL_ge _ _).1
  have skip : (x.op = 4 ∨ x.op = 5 ∨ x.op = 6) → ∃ j : Nat, ((k : Int) + 1 + x.imm) = j ∧ k < j ∧ j ≤ p.length ∧ (0 ≤ stB p k → x.op ≠ 8 → j ≤ endL (p.drop k) k) ∧
      (stB p k < 0 → ∀ (b : Nat) (y : Ins), k < b → p[b]? = some y → y.op = 7 → j ≤ b ∨ endM p b < j) := fun hop => by
    have hs := iskips_of hi.1 hop
    have hs2 := skips_op hs
    have ht := hi.2.2.2.1
    unfold targetM at ht
    rw [if_pos hs] at ht
    split at ht
    · omega
    · rename_i hlen
      refine ⟨k + 1 + x.imm.toNat, by omega, by omega, by omega, fun hb h8 => ?_, fun hb b y hkb hy h7 => ?_⟩
      · rw [if_pos hb] at ht
        split at ht
        · omega
        · rename_i he
          rcases (ck_inv h (by omega : k ≤ p.length)).bb with hb1 | ⟨_, _, hb3⟩
          · omega
          · rw [hb3] at he; omega
      · rw [if_neg (by omega)] at ht
        split at ht
        · omega
        · rename_i hno
          by_cases hjb : k + 1 + x.imm.toNat ≤ b
          · exact .inl hjb
          · right
            have hbl := (List.getElem?_eq_some_iff.1 hy).1
            have := intoL_no p.length (p.drop (k + 1)) (k + 1) (k + 1 + x.imm.toNat) (by simpa using hno) (b - (k + 1)) y (by rw [List.getElem?_drop, show k + 1 + (b - (k + 1)) = b by omega]; exact hy) (by omega) h7
            rw [List.drop_drop, show k + 1 + (b - (k + 1) + 1) = b + 1 by omega, show k + 1 + (b - (k + 1)) + 1 = b + 1 by omega] at this
            obtain ⟨c, hc, _, hcl, _⟩ := of_begin h hy h7
            have hce : endL (p.drop (b + 1)) (b + 1) = c := hc
            rw [hc]
            rw [hce] at this
            omega
  intro t ht
  unfold afterL at ht
  split at ht
  · rename_i h4
    obtain ⟨j, hj, h1, h2, h3, h5⟩ := skip (.inl h4)
    rw [List.mem_singleton.1 ht]
    exact ⟨j, hj, h1, h2, fun hb h8 => ⟨fun _ => h3 hb h8, fun h9 => by omega⟩, h5⟩
  · split at ht
    · rename_i h56
      rcases List.mem_cons.1 ht with rfl | ht
      · obtain ⟨j, hj, h1, h2, h3, h5⟩ := step
        exact ⟨j, hj, h1, h2, fun hb h8 => ⟨fun _ => h3 hb h8, fun h9 => by omega⟩, h5⟩
      · obtain ⟨j, hj, h1, h2, h3, h5⟩ := skip (.inr h56)
        rw [List.mem_singleton.1 ht]
        exact ⟨j, hj, h1, h2, fun hb h8 => ⟨fun _ => h3 hb h8, fun h9 => by omega⟩, h5⟩
    · split at ht
      · rename_i h9
        rw [List.mem_singleton.1 ht]
        have hb := hi.2.2.2.2 (.inl h9)
        obtain ⟨c, hc, hkc, hcl, _⟩ := hin hb
        have he : endM p k = c := by unfold endM; rw [← hdk (by omega), hc]
        rw [he]
        refine ⟨c + 1, by omega, by omega, by omega, fun _ _ => ⟨fun h => absurd h9 h, fun _ => by rw [hc]⟩, fun hb2 => by omega⟩
      · rename_i h9
        obtain ⟨j, hj, h1, h2, h3, h5⟩ := step
        rw [List.mem_singleton.1 ht]
        exact ⟨j, hj, h1, h2, fun hb h8 => ⟨fun _ => h3 hb h8, fun h => absurd h h9⟩, h5⟩
def commitM (p : List Ins) (k : Int) : Int := if (checkP p).2 = 0 ∧ 0 ≤ k then (match p[k.toNat]? with
  | some x => if x.op = 7 then endM p k.toNat else -1
  | none => -1) else -1
end Go.Proofs.YtfompmhncnkcfaaGreatDoor
namespace Go.Proofs.YtfompmhncnkcfaaGreatDoor
open Go
set_option maxRecDepth 10000
set_option maxHeartbeats 4000000
theorem checkP_zero {p : List Ins} : (checkP p).2 = 0 ↔ checkP p = (0, 0) := by
  refine ⟨fun h => ?_, fun h => by rw [h]⟩
  have key : ∀ (tgt : Nat → Int → Ins → Int) (l : List Ins) (k : Nat) (b : Int), (checkG tgt l k b).2 = 0 → checkG tgt l k b = (0, 0) := fun tgt l => by
    induction l with
    | nil =>
      intro k b
      simp only [checkG]
      split
      · intro h; simp at h
      · intro _; rfl
    | cons x l ih =>
      intro k b
      simp only [checkG]
      split
      · rename_i h0; intro h; exact absurd h h0
      · exact ih _ _
  unfold checkP at *
  split at h
  · simp at h
  · rename_i h64
    rw [if_neg h64]
    exact key _ _ _ _ h
section
variable {W0 : World} {own : Own} {a : Option Addr} {cap : Nat} {p : List Ins}
theorem sp_valid (hF : FormsAt W0) (hR : RdE Ins.enc 5 W0 own a p) : Pure Tryz.prog W0 85 [.slice a p.length cap] own (.bool (decide ((checkP p).2 = 0))) := by
  refine pure_of (spec_of mixed low_program_valid (by simp [ir_program_valid]) ?_)
  have hc := sp_pcheck (cap := cap) hF hR
  generalize checkP p = r at *
  repeat' ((try (conv => whnf)); first | (refine call_p hc ?_) | (apply sel; exact rfl) | (exact Ent.refl) | (refine And.intro rfl ?_))
  all_goals exact ⟨rfl, by (repeat (first | exact Ent.refl | exact Ent.left | refine Ent.cons ?_ | refine Ent.app ?_))⟩
theorem commitM_neg {k : Int} (h : ¬ (0 ≤ k ∧ k < p.length)) : commitM p k = -1 := by
  unfold commitM
  split
  · rename_i hc
    rw [List.getElem?_eq_none (by omega)]
  · rfl
theorem commitM_at {k : Nat} {x : Ins} (hx : p[k]? = some x) : commitM p k = if (checkP p).2 = 0 ∧ x.op = 7 then (endM p k : Int) else -1 := by
  unfold commitM
  rw [Int.toNat_natCast, hx]
  simp only
  (repeat' split) <;> first | rfl | omega
theorem sp_commit (hF : FormsAt W0) (hR : RdE Ins.enc 5 W0 own a p) (hl : p.length ≤ 1099511627776) (k : Int) : Pure Tryz.prog W0 64 [.slice a p.length cap, .int .i64 k] own (.int .i64 (commitM p k)) := by
  refine pure_of (spec_of mixed low_program_Commit (by simp [ir_program_Commit]) ?_)
  have hv := sp_valid (cap := cap) hF hR
  by_cases hk : 0 ≤ k ∧ k < p.length
  · obtain ⟨j, rfl⟩ := Int.eq_ofNat_of_zero_le hk.1
    obtain ⟨x, hx⟩ : ∃ x, p[j]? = some x := ⟨_, List.getElem?_eq_getElem (by omega)⟩
    have he := sp_end (cap := cap) hR hl j (by omega)
    rw [commitM_at hx]
    generalize (checkP p).2 = r at *
    repeat' ((try (conv => whnf)); first | (refine when_y ?_) | (refine when_tf ?_) | (refine br_t ?_) | (refine when_pn (by omega) ?_) | (refine call_p hv ?_) | (refine call_p he ?_) | ((with_reducible show Ld _ _ _ _); first | (refine ldE (k := 0) (RdE.ent hR ?_) hx ?_ rfl ?_; rotate_left; rfl; rotate_left; (solve | (repeat (first | exact Ent.refl | exact Ent.left | refine Ent.cons ?_ | refine Ent.app ?_))))) | ((with_reducible show IxS _ _ _ _ _); first | (refine ixE hR hx ?_ ?_; (first | rfl | omega))) | (refine when_ndf (fun hc => ?_) (fun hc => ?_)) | (refine br_d (fun hc => ?_) (fun hc => ?_)))
    all_goals (refine ⟨ret1 (vi ?_), by (repeat (first | exact Ent.refl | exact Ent.left | refine Ent.cons ?_ | refine Ent.app ?_))⟩; (repeat' split) <;> first | rfl | (exfalso; omega) | omega)
  · rw [commitM_neg hk]
    generalize (checkP p).2 = r at *
    repeat' ((try (conv => whnf)); first | (refine when_y ?_) | (refine when_tf ?_) | (refine br_t ?_) | (refine when_py (by omega) ?_) | (refine call_p hv ?_) | (refine when_df (fun hc => ?_) (fun hc => ?_)) | (refine when_ndf (fun hc => ?_) (fun hc => ?_)))
    all_goals first | exact ⟨rfl, by (repeat (first | exact Ent.refl | exact Ent.left | refine Ent.cons ?_ | refine Ent.app ?_))⟩ | (exfalso; omega)
end
end Go.Proofs.YtfompmhncnkcfaaGreatDoor
namespace Go.Proofs.YtfompmhncnkcfaaGreatDoor
open Go
set_option maxRecDepth 10000
section
variable {W0 : World} {own : Own} {c : Cfg} {la pka : Option Addr} {lc pkc : Nat} {ls : List IH} {pks : List Int}
theorem sp_script2 (n most : Int) (heap plain : Bool) (hc : 0 ≤ c.words ∧ c.words ≤ 1000000) (hn : 1 ≤ n ∧ n ≤ 1000) (hm : 1 ≤ most ∧ most ≤ 64)
    (hL : RdE IH.enc 1 W0 own la ls) (hQ : ∀ h ∈ ls, RdE encI 1 W0 own h.a h.l ∧ h.l.length ≤ 1000000) (hP : RdE encI 1 W0 own pka pks) (hpl : pks.length ≤ 1000000) :
    Spec Tryz.prog W0 29 [c.v, .int .i64 n, .slice la ls.length lc, .int .i64 most, .bool heap, .bool plain, .slice pka pks.length pkc] own fun v own' =>
      ∃ ia il ic Di pa ps pc Dp ka ks kc Dk, v = scrV c ia (List.length il) ic pa (List.length ps) pc ka (List.length ks) kc ∧ BufE encU 63 1 ia ic il Di ∧ BufE PH.enc 67 1 pa pc (ps.map PB.h) Dp ∧ BufE encI 3 1 ka kc ks Dk ∧
        (∀ x ∈ ps, x.ok ∧ checkR x.h.p = (0, 0)) ∧ (il.length : Int) = c.words ∧ (∀ x ∈ il, 0 ≤ x ∧ x ≤ 3) ∧ (ps.length : Int) = n ∧ ks.length = pks.length ∧ (∀ k ∈ ks, 0 ≤ k ∧ k < n) ∧ Ent W0 own' (Dk ++ (Dp ++ (ownL ps ++ (Di ++ own)))) := by
  refine spec_of mixed low_make_Script (by simp [ir_make_Script]) ?_
  repeat' ((try (conv => whnf)); first | (refine stN_and' rfl ?_) | (apply ldN_all; (first | (solve | repeat (first | with_reducible exact List.mem_cons_self | (with_reducible (apply List.mem_append_left; exact List.mem_cons_self)) | with_reducible apply List.mem_cons_of_mem | with_reducible apply List.mem_append_right)) | (repeat (first | exact List.Mem.head _ | apply List.Mem.tail | apply List.mem_append_right))); exact rfl) | (apply stN_own; (first | (solve | repeat (first | with_reducible exact Up.head | with_reducible apply Up.tail | with_reducible apply Up.app)) | (repeat (first | exact Up.head | apply Up.tail | apply Up.app))); (solve | ((try (conv => arg 2; whnf)); repeat' (first | exact Lis.nil | apply Lis.cons | apply SetAt.here | apply SetAt.there | apply PutAt.done | apply PutAt.put | apply PutAt.skip))); exact rfl) | (refine new_i (fun bk hbk => ?_)))
  rename_i b7 h7 b14 h14
  refine loop_i (σ := List Int × Option Addr × Nat × Own) (fun s => [(16, .int .i64 s.1.length)]) (fun s => (bk, fun o => o = Obj.cells (scrC c (.slice s.2.1 s.1.length s.2.2.1) nilS nilS) 32) :: (s.2.2.2 ++ tailO b14 b7 c own))
    (fun s => BufE encU 63 1 s.2.1 s.2.2.1 s.1 s.2.2.2 ∧ (s.1.length : Int) ≤ c.words ∧ ∀ x ∈ s.1, 0 ≤ x ∧ x ≤ 3) (fun s => (c.words - s.1.length).toNat) ([], none, 0, []) ⟨BufE.nil, (by simp; omega), fun _ h => (by cases h)⟩ (by repeat' (first | exact True.intro | refine And.intro ?_ ?_ | exact rfl | exact vi (by omega) | (dsimp only; exact rfl) | (dsimp only; exact vi (by omega)))) Ent.refl rfl ?_
  rintro s junk ⟨hB, hw, hw3⟩
  by_cases hlt : (s.1.length : Int) < c.words
  · repeat' ((try (conv => whnf)); first | (refine br_py (by omega) ?_) | (refine app_1 (enc := encU) ((s.1.length : Int) % 4) hB (by (repeat (first | exact At.head | apply At.tail | apply At.skip))) (by (repeat (first | exact List.Mem.head _ | apply List.Mem.tail | apply List.mem_append_right))) rfl rfl (by omega) rfl rfl (by omega) (fun a1 c1 D1 hb1 => ?_)) | (refine ari ?_ ?_; omega) | (refine aru ?_ ?_; omega) | (apply ld_own; (first | (solve | repeat (first | with_reducible exact List.mem_cons_self | (with_reducible (apply List.mem_append_left; exact List.mem_cons_self)) | with_reducible apply List.mem_cons_of_mem | with_reducible apply List.mem_append_right)) | (repeat (first | exact List.Mem.head _ | apply List.Mem.tail | apply List.mem_append_right))); exact rfl) | (apply st_own; (first | (solve | repeat (first | with_reducible exact Up.head | with_reducible apply Up.tail | with_reducible apply Up.app)) | (repeat (first | exact Up.head | apply Up.tail | apply Up.app))); (solve | ((try (conv => arg 2; whnf)); repeat' (first | exact Lis.nil | apply Lis.cons | apply SetAt.here | apply SetAt.there | apply PutAt.done | apply PutAt.put | apply PutAt.skip))); exact rfl) | (refine new_i (fun bk hbk => ?_)) | (refine rem_i ?_ ?_; omega))
    refine ⟨(s.1 ++ [(s.1.length : Int) % 4], a1, c1, D1), ⟨hb1, (by simp; omega), fun x hx => ?_⟩, by simp; omega, ?_, ?_⟩
    · rcases List.mem_append.1 hx with hx | hx
      · exact hw3 x hx
      · rw [List.mem_singleton.1 hx]; omega
    · simp only [List.length_append, List.length_cons, List.length_nil, Nat.zero_add]; exact (by repeat' (first | exact True.intro | refine And.intro ?_ ?_ | exact rfl | exact vi (by omega) | (dsimp only; exact rfl) | (dsimp only; exact vi (by omega))))
    · simp only [List.length_append, List.length_cons, List.length_nil, Nat.zero_add]; exact by (repeat (first | exact Ent.refl | exact Ent.left | refine Ent.cons ?_ | refine Ent.app ?_))
  · repeat' ((try (conv => whnf)); first | (refine br_pn (by omega) ?_) | (apply ld_own; (first | (solve | repeat (first | with_reducible exact List.mem_cons_self | (with_reducible (apply List.mem_append_left; exact List.mem_cons_self)) | with_reducible apply List.mem_cons_of_mem | with_reducible apply List.mem_append_right)) | (repeat (first | exact List.Mem.head _ | apply List.Mem.tail | apply List.mem_append_right))); exact rfl))
    refine loop_i (σ := List PB × Option Addr × Nat × Own) (fun q => [(17, .int .i64 (q.1.map PB.h).length)]) (fun q => (bk, fun o => o = Obj.cells (scrC c (.slice s.2.1 s.1.length s.2.2.1) (.slice q.2.1 (q.1.map PB.h).length q.2.2.1) nilS) 32) :: (q.2.2.2 ++ (ownL q.1 ++ (s.2.2.2 ++ tailO b14 b7 c own))))
      (fun q => BufE PH.enc 67 1 q.2.1 q.2.2.1 (q.1.map PB.h) q.2.2.2 ∧ (∀ x ∈ q.1, x.ok ∧ checkR x.h.p = (0, 0)) ∧ ((q.1.map PB.h).length : Int) ≤ n) (fun q => (n - (q.1.map PB.h).length).toNat) ([], none, 0, []) ⟨BufE.nil, fun _ h => (by cases h), by simp; omega⟩ (by repeat' (first | exact True.intro | refine And.intro ?_ ?_ | exact rfl | exact vi (by omega) | (dsimp only; exact rfl) | (dsimp only; exact vi (by omega)))) Ent.refl rfl ?_
    rintro q junk2 ⟨hB2, hq2, hqn⟩
    by_cases hlt2 : ((q.1.map PB.h).length : Int) < n
    · have hfin : ∀ a1 c1 D1 p1 a3 c3 D3, BufE Ins.enc 69 5 a1 c1 p1 D1 → checkR p1 = (0, 0) → BufE PH.enc 67 1 a3 c3 (q.1.map PB.h ++ [⟨a1, c1, p1⟩]) D3 →
          BufE PH.enc 67 1 a3 c3 ((q.1 ++ [(⟨⟨a1, c1, p1⟩, D1⟩ : PB)]).map PB.h) D3 ∧ (∀ x ∈ q.1 ++ [(⟨⟨a1, c1, p1⟩, D1⟩ : PB)], x.ok ∧ checkR x.h.p = (0, 0)) ∧ (((q.1 ++ [(⟨⟨a1, c1, p1⟩, D1⟩ : PB)]).map PB.h).length : Int) ≤ n := fun a1 c1 D1 p1 a3 c3 D3 h1 h2 h3 => by
        refine ⟨by rw [List.map_append]; exact h3, fun x hx => ?_, by rw [List.map_append, List.length_append]; simp only [List.map_cons, List.map_nil, List.length_cons, List.length_nil]; omega⟩
        rcases List.mem_append.1 hx with hx | hx
        · exact hq2 x hx
        · rw [List.mem_singleton.1 hx]; exact ⟨h1, h2⟩
      by_cases ht : (q.1.map PB.h).length < ls.length
      · obtain ⟨x, hx⟩ : ∃ x, ls[(q.1.map PB.h).length]? = some x := ⟨_, List.getElem?_eq_getElem ht⟩
        obtain ⟨hx1, hx2⟩ := hQ x (List.mem_of_getElem? hx)
        have ht' : ((q.1.map PB.h).length : Int) < ls.length := by omega
        cases heap
        all_goals
          repeat' ((try (conv => whnf)); first | (refine when_y ?_) | (refine when_ft ?_) | (refine br_py (by omega) ?_) | (apply call_q (fun _ => sp_rblocks _ _ c)) | (refine call_pg (sp_program (l := x.l) (lc := x.cap) most _ plain (hx1.ent (by (repeat (first | exact Ent.refl | exact Ent.left | refine Ent.cons ?_ | refine Ent.app ?_)))) hx2 hm) (fun a1 c1 D1 p1 hb1 hp1 => ?_)) | (refine app_1 (enc := PH.enc) ⟨a1, c1, p1⟩ hB2 (by (repeat (first | exact At.head | apply At.tail | apply At.skip))) (by (repeat (first | exact List.Mem.head _ | apply List.Mem.tail | apply List.mem_append_right))) rfl rfl (by omega) rfl rfl (by omega) (fun a3 c3 D3 hb3 => ?_)) | ((with_reducible show Ld _ _ _ _); first | (refine ldE (k := 0) (RdE.ent hL ?_) hx ?_ rfl ?_; rotate_left; rfl; rotate_left; (solve | (repeat (first | exact Ent.refl | exact Ent.left | refine Ent.cons ?_ | refine Ent.app ?_))))) | ((with_reducible show IxS _ _ _ _ _); first | (refine ixE hL hx ?_ ?_; (first | rfl | omega))) | (refine ari ?_ ?_; omega) | (apply ld_own; (first | (solve | repeat (first | with_reducible exact List.mem_cons_self | (with_reducible (apply List.mem_append_left; exact List.mem_cons_self)) | with_reducible apply List.mem_cons_of_mem | with_reducible apply List.mem_append_right)) | (repeat (first | exact List.Mem.head _ | apply List.Mem.tail | apply List.mem_append_right))); exact rfl) | (apply ldN_all; (first | (solve | repeat (first | with_reducible exact List.mem_cons_self | (with_reducible (apply List.mem_append_left; exact List.mem_cons_self)) | with_reducible apply List.mem_cons_of_mem | with_reducible apply List.mem_append_right)) | (repeat (first | exact List.Mem.head _ | apply List.Mem.tail | apply List.mem_append_right))); exact rfl) | (apply st_own; (first | (solve | repeat (first | with_reducible exact Up.head | with_reducible apply Up.tail | with_reducible apply Up.app)) | (repeat (first | exact Up.head | apply Up.tail | apply Up.app))); (solve | ((try (conv => arg 2; whnf)); repeat' (first | exact Lis.nil | apply Lis.cons | apply SetAt.here | apply SetAt.there | apply PutAt.done | apply PutAt.put | apply PutAt.skip))); exact rfl) | (refine new_i (fun bk hbk => ?_)) | (refine Both.mk ?_ ?_))
        all_goals refine ⟨(q.1 ++ [(⟨⟨a1, c1, p1⟩, D1⟩ : PB)], a3, c3, D3), hfin a1 c1 D1 p1 a3 c3 D3 hb1 hp1.1 hb3, by rw [List.map_append, List.length_append]; simp only [List.map_cons, List.map_nil, List.length_cons, List.length_nil]; omega, ?_, ?_⟩
        all_goals simp only [ownL_snoc, List.map_append, List.length_append, List.map_cons, List.map_nil, List.length_cons, List.length_nil, Nat.zero_add]
        all_goals first | exact ent_push | exact (by repeat' (first | exact True.intro | refine And.intro ?_ ?_ | exact rfl | exact vi (by omega) | (dsimp only; exact rfl) | (dsimp only; exact vi (by omega))))
      · have hx1 : RdE encI 1 W0 own none [] := RdE.nil
        cases heap
        all_goals
          repeat' ((try (conv => whnf)); first | (refine when_y ?_) | (refine when_ft ?_) | (refine br_py (by omega) ?_) | (refine br_pn (by omega) ?_) | (apply call_q (fun _ => sp_rblocks _ _ c)) | (refine call_pg (sp_program (la := none) (l := []) (lc := 0) most _ plain (hx1.ent (by (repeat (first | exact Ent.refl | exact Ent.left | refine Ent.cons ?_ | refine Ent.app ?_)))) (by simp) hm) (fun a1 c1 D1 p1 hb1 hp1 => ?_)) | (refine app_1 (enc := PH.enc) ⟨a1, c1, p1⟩ hB2 (by (repeat (first | exact At.head | apply At.tail | apply At.skip))) (by (repeat (first | exact List.Mem.head _ | apply List.Mem.tail | apply List.mem_append_right))) rfl rfl (by omega) rfl rfl (by omega) (fun a3 c3 D3 hb3 => ?_)) | (refine ari ?_ ?_; omega) | (apply ld_own; (first | (solve | repeat (first | with_reducible exact List.mem_cons_self | (with_reducible (apply List.mem_append_left; exact List.mem_cons_self)) | with_reducible apply List.mem_cons_of_mem | with_reducible apply List.mem_append_right)) | (repeat (first | exact List.Mem.head _ | apply List.Mem.tail | apply List.mem_append_right))); exact rfl) | (apply ldN_all; (first | (solve | repeat (first | with_reducible exact List.mem_cons_self | (with_reducible (apply List.mem_append_left; exact List.mem_cons_self)) | with_reducible apply List.mem_cons_of_mem | with_reducible apply List.mem_append_right)) | (repeat (first | exact List.Mem.head _ | apply List.Mem.tail | apply List.mem_append_right))); exact rfl) | (apply st_own; (first | (solve | repeat (first | with_reducible exact Up.head | with_reducible apply Up.tail | with_reducible apply Up.app)) | (repeat (first | exact Up.head | apply Up.tail | apply Up.app))); (solve | ((try (conv => arg 2; whnf)); repeat' (first | exact Lis.nil | apply Lis.cons | apply SetAt.here | apply SetAt.there | apply PutAt.done | apply PutAt.put | apply PutAt.skip))); exact rfl) | (refine new_i (fun bk hbk => ?_)) | (refine Both.mk ?_ ?_))
        all_goals refine ⟨(q.1 ++ [(⟨⟨a1, c1, p1⟩, D1⟩ : PB)], a3, c3, D3), hfin a1 c1 D1 p1 a3 c3 D3 hb1 hp1.1 hb3, by rw [List.map_append, List.length_append]; simp only [List.map_cons, List.map_nil, List.length_cons, List.length_nil]; omega, ?_, ?_⟩
        all_goals simp only [ownL_snoc, List.map_append, List.length_append, List.map_cons, List.map_nil, List.length_cons, List.length_nil, Nat.zero_add]
        all_goals first | exact ent_push | exact (by repeat' (first | exact True.intro | refine And.intro ?_ ?_ | exact rfl | exact vi (by omega) | (dsimp only; exact rfl) | (dsimp only; exact vi (by omega))))
    · repeat' ((try (conv => whnf)); first | (refine br_pn (by omega) ?_))
      refine loop_i (σ := List Int × Option Addr × Nat × Own) (fun k => [(19, .int .i64 k.1.length)]) (fun k => (bk, fun o => o = Obj.cells (scrC c (.slice s.2.1 s.1.length s.2.2.1) (.slice q.2.1 (q.1.map PB.h).length q.2.2.1) (.slice k.2.1 k.1.length k.2.2.1)) 32) :: (k.2.2.2 ++ (q.2.2.2 ++ (ownL q.1 ++ (s.2.2.2 ++ tailO b14 b7 c own)))))
        (fun k => BufE encI 3 1 k.2.1 k.2.2.1 k.1 k.2.2.2 ∧ (∀ x ∈ k.1, 0 ≤ x ∧ x < n) ∧ k.1.length ≤ pks.length) (fun k => pks.length - k.1.length) ([], none, 0, []) ⟨BufE.nil, fun _ h => (by cases h), by simp⟩ (by repeat' (first | exact True.intro | refine And.intro ?_ ?_ | exact rfl | exact vi (by omega) | (dsimp only; exact rfl) | (dsimp only; exact vi (by omega)))) Ent.refl rfl ?_
      rintro k junk3 ⟨hB3, hk2, hkn⟩
      by_cases hlt3 : k.1.length < pks.length
      · obtain ⟨x, hx⟩ : ∃ x, pks[k.1.length]? = some x := ⟨_, List.getElem?_eq_getElem hlt3⟩
        have hlt3' : (k.1.length : Int) < pks.length := by omega
        repeat' ((try (conv => whnf)); first | (refine br_py (by omega) ?_) | (refine callQ_place ?_ (fun p hp => ?_); omega) | (refine app_1 (enc := encI) p hB3 (by (repeat (first | exact At.head | apply At.tail | apply At.skip))) (by (repeat (first | exact List.Mem.head _ | apply List.Mem.tail | apply List.mem_append_right))) rfl rfl (by omega) rfl rfl (by omega) (fun a1 c1 D1 hb1 => ?_)) | ((with_reducible show Ld _ _ _ _); first | (refine ldE (k := 0) (RdE.ent hP ?_) hx ?_ rfl ?_; rotate_left; rfl; rotate_left; (solve | (repeat (first | exact Ent.refl | exact Ent.left | refine Ent.cons ?_ | refine Ent.app ?_))))) | ((with_reducible show IxS _ _ _ _ _); first | (refine ixE hP hx ?_ ?_; (first | rfl | omega))) | (refine ari ?_ ?_; omega) | (apply ld_own; (first | (solve | repeat (first | with_reducible exact List.mem_cons_self | (with_reducible (apply List.mem_append_left; exact List.mem_cons_self)) | with_reducible apply List.mem_cons_of_mem | with_reducible apply List.mem_append_right)) | (repeat (first | exact List.Mem.head _ | apply List.Mem.tail | apply List.mem_append_right))); exact rfl) | (apply st_own; (first | (solve | repeat (first | with_reducible exact Up.head | with_reducible apply Up.tail | with_reducible apply Up.app)) | (repeat (first | exact Up.head | apply Up.tail | apply Up.app))); (solve | ((try (conv => arg 2; whnf)); repeat' (first | exact Lis.nil | apply Lis.cons | apply SetAt.here | apply SetAt.there | apply PutAt.done | apply PutAt.put | apply PutAt.skip))); exact rfl) | (refine new_i (fun bk hbk => ?_)))
        all_goals refine ⟨(k.1 ++ [p], a1, c1, D1), ⟨hb1, fun y hy => ?_, by simp; omega⟩, by simp; omega, ?_, ?_⟩
        all_goals first | (rcases List.mem_append.1 hy with hy | hy; exact hk2 y hy; rw [List.mem_singleton.1 hy]; exact hp) | skip
        all_goals simp only [List.length_append, List.length_cons, List.length_nil, Nat.zero_add]
        all_goals first | exact Ent.cons Ent.refl | exact (by repeat' (first | exact True.intro | refine And.intro ?_ ?_ | exact rfl | exact vi (by omega) | (dsimp only; exact rfl) | (dsimp only; exact vi (by omega))))
      · repeat' ((try (conv => whnf)); first | (refine br_pn (by omega) ?_) | (refine stN_and' rfl ?_) | (apply ldN_all; (first | (solve | repeat (first | with_reducible exact List.mem_cons_self | (with_reducible (apply List.mem_append_left; exact List.mem_cons_self)) | with_reducible apply List.mem_cons_of_mem | with_reducible apply List.mem_append_right)) | (repeat (first | exact List.Mem.head _ | apply List.Mem.tail | apply List.mem_append_right))); exact rfl) | (apply stN_own; (first | (solve | repeat (first | with_reducible exact Up.head | with_reducible apply Up.tail | with_reducible apply Up.app)) | (repeat (first | exact Up.head | apply Up.tail | apply Up.app))); (solve | ((try (conv => arg 2; whnf)); repeat' (first | exact Lis.nil | apply Lis.cons | apply SetAt.here | apply SetAt.there | apply PutAt.done | apply PutAt.put | apply PutAt.skip))); exact rfl))
        refine ⟨s.2.1, s.1, s.2.2.1, s.2.2.2, q.2.1, q.1, q.2.2.1, q.2.2.2, k.2.1, k.1, k.2.2.1, k.2.2.2, ?_, hB, hB2, hB3, hq2, by omega, hw3, ?_, by omega, hk2, ?_⟩
        · rw [List.length_map]; rfl
        · rw [List.length_map] at hlt2 hqn; omega
        · exact Ent.cons (Ent.of_sub (((((List.Sublist.refl own).cons _).cons _).append_left s.2.2.2).append_left (ownL q.1) |>.append_left q.2.2.2 |>.append_left k.2.2.2))
end
end Go.Proofs.YtfompmhncnkcfaaGreatDoor
namespace Go.Proofs.YtfompmhncnkcfaaGreatDoor
open Go Go.ChangeShapes Go.WideShapes Go.ChangeAt Go.RowKit
theorem list_of {α : Type} {Q : Nat → α → Prop} : ∀ n, (∀ i, i < n → ∃ y, Q i y) → ∃ l : List α, l.length = n ∧ ∀ i y, l[i]? = some y → Q i y
  | 0, _ => ⟨[], rfl, fun i y h => by simp at h⟩
  | n + 1, h => by
    obtain ⟨l, hl, hq⟩ := list_of n (fun i hi => h i (by omega))
    obtain ⟨y, hy⟩ := h n (by omega)
    refine ⟨l ++ [y], by simp [hl], fun i z hz => ?_⟩
    by_cases hi : i < l.length
    · rw [List.getElem?_append_left hi] at hz
      exact hq i z hz
    · rw [List.getElem?_append_right (by omega)] at hz
      have : i - l.length = 0 := by
        by_cases h0 : i - l.length = 0
        · exact h0
        · rw [List.getElem?_eq_none (by simp; omega)] at hz; cases hz
      rw [this] at hz
      simp only [List.getElem?_cons_zero, Option.some.injEq] at hz
      subst hz
      have : i = n := by omega
      subst this
      exact hy
section
variable {H : Type} {enc : TypeId × Value → H} {P : Program} {w : World} {spare : Nat → Bool} {held : Bool}
theorem cell_st {own : Own} {a : Addr} {v : Value} (h : w.cell? a = some v) : Kn w own (fun w' => w'.cell? a = some v) := fun w' hw => by
  have hb : a.block < w.heap.size := by
    unfold World.cell? at h
    split at h
    · rename_i hb; exact (Array.getElem?_eq_some_iff.1 hb).1
    · cases h
  exact (World.cell?_of_block (w := w) (hw.base a.block hb)).trans h
theorem trod_i64 {fuel : Nat} {t : TypeId} {cs : List Value} {x : DataW H × List MemPlace} {k : IntKind} (ht : P.underlying t = some (.int k)) (h : DataW.trod enc P w 0 spare held fuel t cs = some x) : ∃ n, cs = [.int k n] ∧ inK k n := by
  obtain ⟨n, rfl, _, hw⟩ := DataW.trod_int ht h
  refine ⟨n, rfl, inK_has ?_⟩
  simp only [Lit.wf, Bool.and_eq_true, decide_eq_true_eq] at hw
  exact hw
def fieldAt (P : Program) (t : TypeId) (i : Nat) : Option (Nat × TypeId) := match P.underlying t with
  | some (.struct fs) => (fs[i]?).map fun f => (f.offset, f.type)
  | _ => none
end
end Go.Proofs.YtfompmhncnkcfaaGreatDoor
namespace Go.Proofs.YtfompmhncnkcfaaGreatDoor
open Go Go.ChangeShapes Go.WideShapes Go.ChangeAt Go.RowKit
set_option maxRecDepth 100000
theorem forms_at {W : World} (h : laidMetH Tryz.prog [("strongtx/isa.forms", Rows.laid_strongtx_isa_forms)] W) : FormsAt W :=
  laid_at (d := Rows.laid_strongtx_isa_forms) (g := 0) (t := 174) (cs := formsV) (by kernel_rfl) h (List.Mem.head _) (by kernel_rfl) (by kernel_rfl) (by kernel_rfl) (by kernel_rfl) (by simp [formsV])
end Go.Proofs.YtfompmhncnkcfaaGreatDoor
namespace Go.Proofs.YtfompmhncnkcfaaGreatDoor
open Go Go.ChangeShapes Go.WideShapes Go.ChangeAt Go.RowKit
set_option maxRecDepth 100000
section
variable {H : Type} {enc : TypeId × Value → H} {P : Program} {w : World} {spare : Nat → Bool} {held : Bool} {q : Nat → Bool}
theorem weight_head {t : TypeId} {ts : List TypeId} {d : DataW H} {ds : List (DataW H)} (h : (DataW.weightsEach P (t :: ts) (d :: ds)).all q = true) : (d.weights P t).all q = true ∧ (DataW.weightsEach P ts ds).all q = true := by
  simpa only [DataW.weightsEach, List.all_append, Bool.and_eq_true] using h
theorem weights_mem {e : TypeId} : ∀ {E : List (DataW H)} {d : DataW H}, (DataW.weightsAll P e E).all q = true → d ∈ E → (d.weights P e).all q = true
  | [], _, _, hd => by cases hd
  | c :: r, d, h, hd => by
    simp only [DataW.weightsAll, List.all_append, Bool.and_eq_true] at h
    rcases List.mem_cons.1 hd with rfl | hd
    · exact h.1
    · exact weights_mem h.2 hd
theorem trod_slW {α : Type} {en : α → List Value} {sz : Nat} {Φ : α → Prop} {fuel : Nat} {t e : TypeId} {cs : List Value} {x : DataW H × List MemPlace} (ht : P.underlying t = some (.slice e)) (hsz : P.cellsOf e = sz) (hpos : 0 < sz)
    (hel : ∀ n cs x, DataW.trod enc P w 0 spare held n e cs = some x → (x.1.weights P e).all q = true → ∃ y, cs = en y ∧ Φ y) (h : DataW.trod enc P w 0 spare held fuel t cs = some x) (hw : (x.1.weights P t).all q = true) :
    ∃ a l cap, cs = [.slice a l.length cap] ∧ RdE en sz w [] a l ∧ (∀ y ∈ l, Φ y) ∧ l.length ≤ cap ∧ (l = [] ∨ ∃ k, q ((l.length + k) * P.bytesOf e) = true) := by
  rcases DataW.trod_slice ht h with ⟨rfl, _⟩ | ⟨a, len, cap, elems, rest, n, _, rfl, rfl, _, hl, _, hlen, hel', _⟩
  · exact ⟨none, [], 0, rfl, RdE.nil, fun _ h => (by cases h), by simp, .inl rfl⟩
  · simp only [DataW.weights, ht, List.all_cons, List.all_append, Bool.and_eq_true, List.length_map] at hw
    obtain ⟨hw1, hw2, _⟩ := hw
    have key : ∀ i, i < len → ∃ y, (w.cells? 0 (a.add (i * sz)) sz = some (en y)) ∧ Φ y := fun i hi => by
      have := hel' i hi
      rw [hsz] at this
      have hi' : i < elems.length := by omega
      rw [List.getElem?_eq_getElem hi', Option.bind_eq_some_iff] at this
      obtain ⟨c, hc, hx⟩ := this
      obtain ⟨y, rfl, hy⟩ := hel _ _ _ hx (weights_mem hw2 (List.mem_map_of_mem (List.getElem_mem hi')))
      exact ⟨y, hc, hy⟩
    obtain ⟨l, hll, hq⟩ := list_of len key
    have hget : ∀ {j k : Nat} {y : α} {v : Value}, l[j]? = some y → (en y)[k]? = some v → w.cell? ((a.add (j * sz)).add k) = some v ∧ (en y).length = sz := fun {j k y v} hy hv => by
      obtain ⟨hc, _⟩ := hq j y hy
      obtain ⟨_, hlen, hget⟩ := World.cells?_some hc
      have hk := (List.getElem?_eq_some_iff.1 hv).1
      exact ⟨(hget k (by omega)).trans hv, hlen⟩
    have hspot : l ≠ [] → a.spot = none := fun hne => by
      cases l with
      | nil => exact absurd rfl hne
      | cons y r =>
        obtain ⟨hc, _⟩ := hq 0 y rfl
        obtain ⟨_, hlen, hget⟩ := World.cells?_some hc
        have h0 := hget 0 hpos
        rw [List.getElem?_eq_getElem (by omega)] at h0
        rw [Nat.zero_mul] at h0
        have e0 : (a.add 0).add 0 = a := by simp [Addr.add]
        rw [e0] at h0
        unfold World.cell? at h0
        split at h0
        · split at h0
          · cases h0
          · rename_i hs; simpa using hs
        · cases h0
    refine ⟨some a, l, cap, by rw [hll], ⟨fun hne => ?_, fun y hy => ?_, fun {j k y v} hy hv => ?_⟩, fun y hy => ?_, by omega, .inr ⟨rest.length, by rw [hll, ← hlen]; exact hw1⟩⟩
    · have := hspot hne
      obtain ⟨b, o, s⟩ := a
      simp only at this
      subst this
      rfl
    · obtain ⟨i, hi⟩ := List.getElem?_of_mem hy
      obtain ⟨hc, _⟩ := hq i y hi
      exact (World.cells?_some hc).2.1
    · obtain ⟨hc, _⟩ := hget hy hv
      have hs := hspot (by intro e; subst e; simp at hy)
      have he : (a.add (j * sz)).add k = ⟨ab (some a), ao (some a) + j * sz + k, none⟩ := by
        obtain ⟨b, o, s⟩ := a
        simp only at hs
        subst hs
        rw [addr_add, addr_add]
        rfl
      rw [he] at hc
      exact cell_st hc
    · obtain ⟨i, hi⟩ := List.getElem?_of_mem hy
      exact (hq i y hi).2
end
theorem arr5_open {w : World} {b0 : Nat} {v : Value} (h : Value.okWide Tryz.prog w .any b0 22 v) :
    ∃ n0 n1 n2 n3 n4 : Int, v = .agg #[.int .i64 n0, .int .i64 n1, .int .i64 n2, .int .i64 n3, .int .i64 n4] ∧ inKs [n0, n1, n2, n3, n4] := by
  obtain ⟨cs, rfl, hl, hc⟩ := val_flat (ts := [3, 3, 3, 3, 3]) (by kernel_rfl) (by kernel_rfl) (by kernel_rfl) h
  match cs, hl with
  | [c0, c1, c2, c3, c4], _ =>
    obtain ⟨n0, rfl, h0⟩ := cell_int Tryz.underlying3 (hc 0 _ 3 rfl rfl)
    obtain ⟨n1, rfl, h1⟩ := cell_int Tryz.underlying3 (hc 1 _ 3 rfl rfl)
    obtain ⟨n2, rfl, h2⟩ := cell_int Tryz.underlying3 (hc 2 _ 3 rfl rfl)
    obtain ⟨n3, rfl, h3⟩ := cell_int Tryz.underlying3 (hc 3 _ 3 rfl rfl)
    obtain ⟨n4, rfl, h4⟩ := cell_int Tryz.underlying3 (hc 4 _ 3 rfl rfl)
    exact ⟨n0, n1, n2, n3, n4, rfl, h0, h1, h2, h3, h4, True.intro⟩
section
variable {H : Type} {enc : TypeId × Value → H} {w : World} {spare : Nat → Bool} {held : Bool} {v : Value} {d : DataW H} {p : List MemPlace}
theorem one_of {cs : Array Value} {v x : Value} (h : v.cells = cs) (hc : cs.toList = [x]) (hx : ∀ a, v ≠ .agg a) : v = x := by
  unfold Value.cells at h
  split at h
  · rename_i a; exact absurd rfl (hx a)
  · subst h; simpa using hc
theorem slice_agg {P : Program} {w : World} {b0 : Nat} {t e : TypeId} {v : Value} (ht : P.underlying t = some (.slice e)) (h : Value.okWide P w .any b0 t v) : ∀ a, v ≠ .agg a := by
  intro a e
  subst e
  simp only [Value.okWide, ht, Cell.okWide, Cell.ok] at h
theorem ints_W {fuel : Nat} {cs : List Value} {x : DataW H × List MemPlace} (h : DataW.trod enc Tryz.prog w 0 spare held fuel 30 cs = some x) (hw : (x.1.weights Tryz.prog 30).all (· ≤ reachBytes) = true) :
    ∃ a l cap, cs = [.slice a (List.length l) cap] ∧ RdE encI 1 w [] a l ∧ l.length ≤ 17592186043904 := by
  obtain ⟨a, l, cap, e, hr, _, _, hk⟩ := trod_slW (q := (· ≤ reachBytes)) (en := encI) (sz := 1) (Φ := fun _ => True) Tryz.underlying30 (by kernel_rfl) (by omega) (fun n cs x h _ => by
    obtain ⟨n, rfl, _⟩ := trod_i64 Tryz.underlying3 h
    exact ⟨n, rfl, trivial⟩) h hw
  refine ⟨a, l, cap, e, hr, ?_⟩
  rcases hk with rfl | ⟨k, hk⟩
  · simp
  · have h8 : Tryz.prog.bytesOf 3 = 8 := by kernel_rfl
    rw [h8] at hk
    have hk := of_decide_eq_true hk
    have h9 : reachBytes = 140737488351232 := rfl
    rw [h9] at hk
    omega
theorem ihs_W {b0 : Nat} (hv : Value.okWide Tryz.prog w .any b0 23 v) (ht : DataW.Trod enc Tryz.prog w 0 spare held 23 v d p) (hw : (d.weights Tryz.prog 23).all (· ≤ reachBytes) = true) :
    ∃ a l cap, v = .slice a (List.length l) cap ∧ RdE IH.enc 1 w [] a l ∧ l.length ≤ 17592186043904 ∧ ∀ h ∈ l, RdE encI 1 w [] h.a h.l ∧ h.l.length ≤ 17592186043904 := by
  obtain ⟨fuel, h⟩ := ht
  obtain ⟨a, l, cap, e, hr, hq, _, hk⟩ := trod_slW (q := (· ≤ reachBytes)) (en := IH.enc) (sz := 1) (Φ := fun y : IH => RdE encI 1 w [] y.a y.l ∧ y.l.length ≤ 17592186043904) Tryz.underlying23 (by kernel_rfl) (by omega) (fun n cs x h hw => by
    obtain ⟨a, l, cap, rfl, hr, hl⟩ := ints_W h hw
    exact ⟨⟨a, cap, l⟩, rfl, hr, hl⟩) h hw
  refine ⟨a, l, cap, one_of rfl e (slice_agg Tryz.underlying23 hv), hr, ?_, hq⟩
  rcases hk with rfl | ⟨k, hk⟩
  · simp
  · have h8 : Tryz.prog.bytesOf 30 = 24 := by kernel_rfl
    rw [h8] at hk
    have hk := of_decide_eq_true hk
    have h9 : reachBytes = 140737488351232 := rfl
    rw [h9] at hk
    omega
end
end Go.Proofs.YtfompmhncnkcfaaGreatDoor
