/- What the laws share, part 14. No condition. -/
import Derived.Test.YtfompmhncnkcfaaGreatDoorW13
namespace Go.Proofs.YtfompmhncnkcfaaGreatDoor.Alu
open Go
set_option maxRecDepth 10000
set_option maxHeartbeats 4000000
theorem fb_lt {op : BinOp} {a b r : Nat} (h : floatBits op .f64 a b = some r) : r < 18446744073709551616 := by
  have := floatBits_wf h
  simpa [Lit.wf] using this
theorem nb_lt {r : Nat} (h : nanB r) : r < 18446744073709551616 := by
  obtain ⟨s, t, hs, ht, rfl⟩ := h
  have h1 : (2 : Nat) ^ 63 = 9223372036854775808 := by decide
  have h2 : (2 : Nat) ^ 52 = 4503599627370496 := by decide
  rw [h2] at ht
  rw [h1]
  omega
theorem sp_rapply_i (W0 : World) (own : Own) (fn x y : Int) (hf : 0 ≤ fn ∧ fn < 12) (hy : okW y) :
    Pure Tryz.prog W0 92 [.int .i64 fn, .int .u64 x, .int .u64 y] own (.tuple #[.int .u64 (applyW fn x y), .int .i64 (applyE fn)]) := by
  unfold okW at hy
  have hw : fn = 0 ∨ fn = 1 ∨ fn = 2 ∨ fn = 3 ∨ fn = 4 ∨ fn = 5 ∨ fn = 6 ∨ fn = 7 ∨ fn = 8 ∨ fn = 9 ∨ fn = 10 ∨ fn = 11 := by omega
  refine pure_of (spec_of mixed low_ref02_Apply (by simp [ir_ref02_Apply]) ?_)
  rcases hw with rfl | rfl | rfl | rfl | rfl | rfl | rfl | rfl | rfl | rfl | rfl | rfl
  all_goals
    repeat' ((try (conv => whnf)); first | (refine br_t ?_) | (refine br_f ?_) | (refine arw ?_) | (refine bit_k ?_) | (refine shl_k (by omega) ?_) | (refine shr_k (by omega) ?_) | (apply call_p (sp_rtruth _ _ _)) | (refine rem_i ?_ ?_; omega))
    all_goals (refine ⟨ret2 (vi ?_) (vi ?_), by (repeat (first | exact Ent.refl | exact Ent.left | refine Ent.cons ?_ | refine Ent.app ?_))⟩ <;> simp [applyW, applyE, intsM])
theorem sp_rapply_f (W0 : World) (own : Own) (fn x y : Int) (hf : 12 ≤ fn ∧ fn < 16) :
    Pure Tryz.prog W0 92 [.int .i64 fn, .int .u64 x, .int .u64 y] own (.tuple #[.int .u64 (applyW fn x y), .int .i64 (applyE fn)]) := by
  have hw : fn = 12 ∨ fn = 13 ∨ fn = 14 ∨ fn = 15 := by omega
  refine pure_of (spec_of mixed low_ref02_Apply (by simp [ir_ref02_Apply]) ?_)
  rcases hw with rfl | rfl | rfl | rfl
  case inl =>
    cases hfb : floatBits .add .f64 x.toNat y.toNat <;> (try have hlt := fb_lt hfb)
    all_goals
      repeat' ((try (conv => whnf)); first | (refine br_t ?_) | (refine br_f ?_) | (refine flt_s _ hfb ?_) | ((refine flt_n hfb (fun r hr => ?_); have hlt := nb_lt hr)) | (refine call_p (sp_number _ _ _ hlt) ?_))
      all_goals (refine ⟨ret2 (vi ?_) (vi ?_), by (repeat (first | exact Ent.refl | exact Ent.left | refine Ent.cons ?_ | refine Ent.app ?_))⟩ <;> simp [applyW, applyE, floatsM, fopM, hfb]; try exact plain_nan (by assumption))
  case inr.inl =>
    cases hfb : floatBits .sub .f64 x.toNat y.toNat <;> (try have hlt := fb_lt hfb)
    all_goals
      repeat' ((try (conv => whnf)); first | (refine br_t ?_) | (refine br_f ?_) | (refine flt_s _ hfb ?_) | ((refine flt_n hfb (fun r hr => ?_); have hlt := nb_lt hr)) | (refine call_p (sp_number _ _ _ hlt) ?_))
      all_goals (refine ⟨ret2 (vi ?_) (vi ?_), by (repeat (first | exact Ent.refl | exact Ent.left | refine Ent.cons ?_ | refine Ent.app ?_))⟩ <;> simp [applyW, applyE, floatsM, fopM, hfb]; try exact plain_nan (by assumption))
  case inr.inr.inl =>
    cases hfb : floatBits .mul .f64 x.toNat y.toNat <;> (try have hlt := fb_lt hfb)
    all_goals
      repeat' ((try (conv => whnf)); first | (refine br_t ?_) | (refine br_f ?_) | (refine flt_s _ hfb ?_) | ((refine flt_n hfb (fun r hr => ?_); have hlt := nb_lt hr)) | (refine call_p (sp_number _ _ _ hlt) ?_))
      all_goals (refine ⟨ret2 (vi ?_) (vi ?_), by (repeat (first | exact Ent.refl | exact Ent.left | refine Ent.cons ?_ | refine Ent.app ?_))⟩ <;> simp [applyW, applyE, floatsM, fopM, hfb]; try exact plain_nan (by assumption))
  case inr.inr.inr =>
    cases hfb : floatBits .quo .f64 x.toNat y.toNat <;> (try have hlt := fb_lt hfb)
    all_goals
      repeat' ((try (conv => whnf)); first | (refine br_t ?_) | (refine br_f ?_) | (refine flt_s _ hfb ?_) | ((refine flt_n hfb (fun r hr => ?_); have hlt := nb_lt hr)) | (refine call_p (sp_number _ _ _ hlt) ?_))
      all_goals (refine ⟨ret2 (vi ?_) (vi ?_), by (repeat (first | exact Ent.refl | exact Ent.left | refine Ent.cons ?_ | refine Ent.app ?_))⟩ <;> simp [applyW, applyE, floatsM, fopM, hfb]; try exact plain_nan (by assumption))
end Go.Proofs.YtfompmhncnkcfaaGreatDoor.Alu
namespace Go.Proofs.YtfompmhncnkcfaaGreatDoor.Alu
open Go
set_option maxRecDepth 10000
set_option maxHeartbeats 4000000
theorem plain_num {r : Nat} (h : isN r = false) : plainM r = r := by unfold plainM; rw [h]; rfl
theorem sp_rapply_m (W0 : World) (own : Own) (fn x y : Int) (hf : fn = 16 ∨ fn = 17) (hx : okW x) (hy : okW y) :
    Pure Tryz.prog W0 92 [.int .i64 fn, .int .u64 x, .int .u64 y] own (.tuple #[.int .u64 (applyW fn x y), .int .i64 (applyE fn)]) := by
  have hA := fun own => sp_rnan W0 own x hx
  have hB := fun own => sp_rnan W0 own y hy
  have hL := fun own => sp_least W0 own x y hx
  unfold isNi at hA hB
  have xl := xor_l hx hy
  have xr := xor_r hx hy
  unfold okW at hx hy
  refine pure_of (spec_of mixed low_ref02_Apply (by simp [ir_ref02_Apply]) ?_)
  cases e1 : isN x.toNat <;> cases e2 : isN y.toNat <;> rw [e1] at hA <;> rw [e2] at hB
  case false.false =>
    have p1 := pick_least e1 e2 (by omega) (by omega)
    have p2 := pick_most e1 e2 (by omega) (by omega)
    cases hc : lessC x.toNat y.toNat <;> rw [hc] at hL p1 p2 <;> simp only [if_true, Bool.false_eq_true, if_false] at hL p1 p2
    all_goals
      rcases hf with rfl | rfl
      all_goals
        repeat' ((try (conv => whnf)); first | (refine when_y ?_) | (refine br_t ?_) | (refine br_f ?_) | (apply call_p (hA _)) | (apply call_p (hB _)) | (apply call_p (hL _)) | (refine bit_e _ xl ?_) | (refine bit_e _ xr ?_) | (refine bit_k ?_))
        all_goals (refine ⟨ret2 (vi ?_) (vi ?_), by (repeat (first | exact Ent.refl | exact Ent.left | refine Ent.cons ?_ | refine Ent.app ?_))⟩ <;> simp [applyW, applyE, floatsM, e1, e2, p1, p2, plain_num] <;> omega)
  all_goals
    rcases hf with rfl | rfl
    all_goals
      repeat' ((try (conv => whnf)); first | (refine when_y ?_) | (refine when_tf ?_) | (refine br_t ?_) | (refine br_f ?_) | (apply call_p (hA _)) | (apply call_p (hB _)))
      all_goals (refine ⟨ret2 (vi ?_) (vi ?_), by (repeat (first | exact Ent.refl | exact Ent.left | refine Ent.cons ?_ | refine Ent.app ?_))⟩ <;> simp [applyW, applyE, floatsM, e1, e2, nanW])
theorem sp_rapply_o (W0 : World) (own : Own) (fn x y : Int) (hf : ¬(0 ≤ fn ∧ fn < 18)) (hx : okW x) :
    Pure Tryz.prog W0 92 [.int .i64 fn, .int .u64 x, .int .u64 y] own (.tuple #[.int .u64 (applyW fn x y), .int .i64 (applyE fn)]) := by
  refine pure_of (spec_of mixed low_ref02_Apply (by simp [ir_ref02_Apply]) ?_)
  by_cases h : 0 ≤ fn ∧ fn < 22
  · have hw : fn = 18 ∨ fn = 19 ∨ fn = 20 ∨ fn = 21 := by omega
    rcases hw with rfl | rfl | rfl | rfl
    all_goals
      repeat' ((try (conv => whnf)); first | (refine br_t ?_) | (refine br_f ?_) | (refine fcmp_k ?_) | (apply call_p (sp_rtruth _ _ _)) | (apply call_p (sp_rtoint _ _ _ hx)) | (refine arw ?_))
      all_goals (refine ⟨ret2 (vi ?_) (vi ?_), by (repeat (first | exact Ent.refl | exact Ent.left | refine Ent.cons ?_ | refine Ent.app ?_))⟩ <;> simp [applyW, applyE, floatsM])
  · repeat' ((try (conv => whnf)); first | (refine br_pn (by omega) ?_))
    all_goals (refine ⟨ret2 (vi ?_) (vi ?_), by (repeat (first | exact Ent.refl | exact Ent.left | refine Ent.cons ?_ | refine Ent.app ?_))⟩ <;> simp [applyW, applyE, h])
theorem sp_rapply (W0 : World) (own : Own) (fn x y : Int) (hx : okW x) (hy : okW y) :
    Pure Tryz.prog W0 92 [.int .i64 fn, .int .u64 x, .int .u64 y] own (.tuple #[.int .u64 (applyW fn x y), .int .i64 (applyE fn)]) := by
  by_cases h1 : 0 ≤ fn ∧ fn < 12
  · exact sp_rapply_i W0 own fn x y h1 hy
  · by_cases h2 : 12 ≤ fn ∧ fn < 16
    · exact sp_rapply_f W0 own fn x y h2
    · by_cases h3 : fn = 16 ∨ fn = 17
      · exact sp_rapply_m W0 own fn x y h3 hx hy
      · exact sp_rapply_o W0 own fn x y (by omega) hx
end Go.Proofs.YtfompmhncnkcfaaGreatDoor.Alu
namespace Go.Proofs.YtfompmhncnkcfaaGreatDoor
open Go
set_option maxRecDepth 10000
set_option maxHeartbeats 4000000
structure Ins where
  op : Int
  a : Int
  b : Int
  c : Int
  imm : Int
abbrev Ins.enc (i : Ins) : List Value := [.int .i64 i.op, .int .i64 i.a, .int .i64 i.b, .int .i64 i.c, .int .i64 i.imm]
abbrev Ins.v (i : Ins) : Value := .agg #[.int .i64 i.op, .int .i64 i.a, .int .i64 i.b, .int .i64 i.c, .int .i64 i.imm]
def has (s : ByteArray) (c : Int) : Bool := decide (0 ≤ ibsF s c)
theorem sp_ibyte (W0 : World) (own : Own) (s : ByteArray) (c : Int) : Pure Tryz.prog W0 141 [.string s, .int .u8 c] own (.int .i64 (ibsF s c)) := by
  refine pure_of (spec_of mixed low_internal_stringslite_IndexByte (by simp [ir_internal_stringslite_IndexByte]) ?_)
  repeat' ((try (conv => whnf)); first | (exact Ent.refl) | (refine And.intro rfl ?_))
  all_goals exact ⟨rfl, by (repeat (first | exact Ent.refl | exact Ent.left | refine Ent.cons ?_ | refine Ent.app ?_))⟩
theorem sidx0 {c : UInt8} {K : Value → Prop} (h : K (.int .u8 c.toNat)) : SixT ⟨#[c]⟩ 0 K := ⟨0, c, rfl, rfl, h⟩
theorem ibs_same (c : UInt8) : ibsF ⟨#[c]⟩ c.toNat = 0 := by
  unfold ibsF
  have e : ((c.toNat : Int).toNat.toUInt8) = c := by simp
  have h0 : ((⟨#[c]⟩ : ByteArray)[0]!) = c := rfl
  have hf : (List.range (⟨#[c]⟩ : ByteArray).size).find? (fun i => (⟨#[c]⟩ : ByteArray)[i]! == (c.toNat : Int).toNat.toUInt8) = some 0 := by
    show (List.range 1).find? _ = some 0
    simp only [List.range_succ, List.range_zero, List.nil_append, List.find?_cons, h0, e, beq_self_eq_true]
  rw [hf]
  rfl
theorem sp_sindex (W0 : World) (own : Own) (s : ByteArray) (c : UInt8) : Pure Tryz.prog W0 136 [.string s, .string ⟨#[c]⟩] own (.int .i64 (ibsF s c.toNat)) := by
  refine pure_of (spec_of mixed low_internal_stringslite_Index (by simp [ir_internal_stringslite_Index]) ?_)
  by_cases hs : (⟨#[c]⟩ : ByteArray).toList = s.toList
  · have e : s = ⟨#[c]⟩ := by
      rw [ByteArray.toList_eq, ByteArray.toList_eq] at hs
      have := Array.toList_inj.1 hs
      cases s
      simp at this
      rw [← this]
    subst e
    repeat' ((try (conv => whnf)); first | (refine br_py ?_ ?_; (solve | simp | (simp; omega))) | (refine when_y ?_))
    all_goals (refine ⟨ret1 (vi ?_), by (repeat (first | exact Ent.refl | exact Ent.left | refine Ent.cons ?_ | refine Ent.app ?_))⟩; first | rfl | exact (ibs_same c).symm)
  · repeat' ((try (conv => whnf)); first | (refine br_pn hs ?_) | (refine sidx0 ?_) | (apply call_p (sp_ibyte _ _ s c.toNat)) | (refine when_y ?_) | (refine br_t ?_) | (exact Ent.refl) | (refine And.intro rfl ?_))
    all_goals exact ⟨rfl, by (repeat (first | exact Ent.refl | exact Ent.left | refine Ent.cons ?_ | refine Ent.app ?_))⟩
theorem sp_index (W0 : World) (own : Own) (s : ByteArray) (c : UInt8) : Pure Tryz.prog W0 127 [.string s, .string ⟨#[c]⟩] own (.int .i64 (ibsF s c.toNat)) := by
  refine pure_of (spec_of mixed low_strings_Index (by simp [ir_strings_Index]) ?_)
  repeat' ((try (conv => whnf)); first | (apply call_p (sp_sindex _ _ s c)) | (exact Ent.refl) | (refine And.intro rfl ?_))
  all_goals exact ⟨rfl, by (repeat (first | exact Ent.refl | exact Ent.left | refine Ent.cons ?_ | refine Ent.app ?_))⟩
theorem sp_contains (W0 : World) (own : Own) (s : ByteArray) (c : UInt8) : Pure Tryz.prog W0 113 [.string s, .string ⟨#[c]⟩] own (.bool (has s c.toNat)) := by
  refine pure_of (spec_of mixed low_strings_Contains (by simp [ir_strings_Contains]) ?_)
  repeat' ((try (conv => whnf)); first | (apply call_p (sp_index _ _ s c)) | (exact Ent.refl) | (refine And.intro rfl ?_))
  all_goals exact ⟨rfl, by (repeat (first | exact Ent.refl | exact Ent.left | refine Ent.cons ?_ | refine Ent.app ?_))⟩
def useA (op : Int) : Bool := op == 1 || op == 2 || op == 3 || op == 5 || op == 6 || op == 10 || op == 11 || op == 12 || op == 13 || op == 14 || op == 15 || op == 17
def useB (op : Int) : Bool := op == 2 || op == 3 || op == 10 || op == 11 || op == 12 || op == 13
def useC (op : Int) : Bool := op == 3
def regOk (u : Bool) (r : Int) : Prop := if u then 0 ≤ r ∧ r < 8 else r = 0
instance (u : Bool) (r : Int) : Decidable (regOk u r) := by unfold regOk; infer_instance
def immOk (op imm : Int) : Prop :=
  if op = 1 ∨ op = 10 ∨ op = 11 ∨ op = 12 ∨ op = 13 then True else if op = 3 then 0 ≤ imm ∧ imm < 22 else if op = 4 ∨ op = 5 ∨ op = 6 then 0 ≤ imm ∧ imm ≤ 64 else if op = 7 then 1 ≤ imm ∧ imm ≤ 8 else if op = 14 then 0 ≤ imm ∧ imm < 4 else imm = 0
instance (op imm : Int) : Decidable (immOk op imm) := by unfold immOk; infer_instance
def icheck (i : Ins) : Int :=
  if i.op < 0 ∨ 18 ≤ i.op then 10 else if regOk (useA i.op) i.a ∧ regOk (useB i.op) i.b ∧ regOk (useC i.op) i.c then (if immOk i.op i.imm then 0 else 11) else 11
def formsV : List Value := [.string ⟨#[110, 111, 112]⟩, .string ⟨#[]⟩, .string ⟨#[99, 111, 110, 115, 116]⟩, .string ⟨#[65, 73]⟩, .string ⟨#[109, 111, 118, 101]⟩, .string ⟨#[65, 66]⟩, .string ⟨#[]⟩, .string ⟨#[65, 66, 67]⟩, .string ⟨#[106, 117, 109, 112]⟩, .string ⟨#[73]⟩,
  .string ⟨#[122, 101, 114, 111]⟩, .string ⟨#[65, 73]⟩, .string ⟨#[110, 111, 110, 122, 101, 114, 111]⟩, .string ⟨#[65, 73]⟩, .string ⟨#[98, 101, 103, 105, 110]⟩, .string ⟨#[73]⟩, .string ⟨#[99, 111, 109, 109, 105, 116]⟩, .string ⟨#[]⟩, .string ⟨#[97, 98, 111, 114, 116]⟩, .string ⟨#[]⟩,
  .string ⟨#[116, 114, 101, 97, 100]⟩, .string ⟨#[65, 66, 73]⟩, .string ⟨#[116, 119, 114, 105, 116, 101]⟩, .string ⟨#[65, 66, 73]⟩, .string ⟨#[112, 114, 101, 97, 100]⟩, .string ⟨#[65, 66, 73]⟩, .string ⟨#[112, 119, 114, 105, 116, 101]⟩, .string ⟨#[65, 66, 73]⟩,
  .string ⟨#[97, 108, 108, 111, 99]⟩, .string ⟨#[65, 73]⟩, .string ⟨#[102, 114, 101, 101]⟩, .string ⟨#[65]⟩, .string ⟨#[102, 101, 110, 99, 101]⟩, .string ⟨#[]⟩, .string ⟨#[111, 117, 116, 99, 111, 109, 101]⟩, .string ⟨#[65]⟩]
def FormsAt (W0 : World) : Prop := LaidAt W0 0 formsV
theorem ssc_k {s : ByteArray} {lo hi : Option Int} {K : Value → Prop} (l r : Nat) (t : ByteArray) (h1 : lo.getD 0 = l) (h2 : hi.getD s.size = r) (hlr : Nat.ble l r = true) (hrs : Nat.ble r s.size = true) (ht : s.extract l r = t) (h : K (.string t)) : SscT s lo hi K :=
  ⟨l, r, h1, h2, by simpa using hlr, by simpa using hrs, by rw [ht]; exact h⟩
theorem ex_abc0 : (⟨#[65, 66, 67]⟩ : ByteArray).extract 0 1 = ⟨#[65]⟩ := by decide +kernel
theorem ex_abc1 : (⟨#[65, 66, 67]⟩ : ByteArray).extract 1 2 = ⟨#[66]⟩ := by decide +kernel
theorem ex_abc2 : (⟨#[65, 66, 67]⟩ : ByteArray).extract 2 3 = ⟨#[67]⟩ := by decide +kernel
theorem q_cont {W0 : World} {own : Own} {s : ByteArray} {c : UInt8} {K : Value → Prop} (b : Bool) (hb : has s c.toNat = b) (h : K (.bool b)) : CallQ Tryz.prog W0 own 113 [.string s, .string ⟨#[c]⟩] K :=
  call_q (fun _ => sp_contains _ _ s c) (by rw [hb]; exact h)
theorem sp_number (W0 : World) (own : Own) (i : Ins) : Pure Tryz.prog W0 114 [i.v] own (.bool (decide (immOk i.op i.imm))) := by
  refine pure_of (spec_of mixed low_isa_number (by simp [ir_isa_number]) ?_)
  repeat' ((try (conv => whnf)); first | (refine when_y ?_) | (refine when_ft ?_) | (refine br_py (by omega) ?_) | (apply ld_own; (first | (solve | repeat (first | with_reducible exact List.mem_cons_self | (with_reducible (apply List.mem_append_left; exact List.mem_cons_self)) | with_reducible apply List.mem_cons_of_mem | with_reducible apply List.mem_append_right)) | (repeat (first | exact List.Mem.head _ | apply List.Mem.tail | apply List.mem_append_right))); exact rfl) | (refine new_i (fun bk hbk => ?_)) | (refine when_dt (fun hc => ?_) (fun hc => ?_)) | (refine br_d (fun hc => ?_) (fun hc => ?_)))
  all_goals (refine ⟨ret1 (vb ?_), by (repeat (first | exact Ent.refl | exact Ent.left | refine Ent.cons ?_ | refine Ent.app ?_))⟩)
  all_goals first | (refine dd ?_; unfold immOk; (repeat' split) <;> omega) | (refine dt ?_; unfold immOk; (repeat' split) <;> first | exact True.intro | omega) | (refine df ?_; unfold immOk; (repeat' split) <;> omega)
theorem sp_icheck0 (W0 : World) (own : Own) (hF : FormsAt W0) (op a b c imm : Int) (I : Bool) (hn : ∀ own, Pure Tryz.prog W0 114 [.agg #[.int .i64 op, .int .i64 a, .int .i64 b, .int .i64 c, .int .i64 imm]] own (.bool I)) :
    Pure Tryz.prog W0 96 [.agg #[.int .i64 op, .int .i64 a, .int .i64 b, .int .i64 c, .int .i64 imm]] own (.int .i64 (if op < 0 ∨ 18 ≤ op then 10 else if regOk (useA op) a ∧ regOk (useB op) b ∧ regOk (useC op) c then (if I then 0 else 11) else 11)) := by
  refine pure_of (spec_of mixed low_isa_Check (by simp [ir_isa_Check]) ?_)
  by_cases hop : op < 0 ∨ 18 ≤ op
  · rw [if_pos hop]
    repeat' ((try (conv => whnf)); first | (refine when_y ?_) | (refine when_tf ?_) | (refine br_t ?_) | (refine br_py (by omega) ?_) | (apply ld_own; (first | (solve | repeat (first | with_reducible exact List.mem_cons_self | (with_reducible (apply List.mem_append_left; exact List.mem_cons_self)) | with_reducible apply List.mem_cons_of_mem | with_reducible apply List.mem_append_right)) | (repeat (first | exact List.Mem.head _ | apply List.Mem.tail | apply List.mem_append_right))); exact rfl) | (refine new_i (fun bk hbk => ?_)) | (refine when_df (fun hc => ?_) (fun hc => ?_)) | (exact Ent.refl) | (refine Ent.cons ?_) | (refine And.intro rfl ?_))
    all_goals first | exact ⟨rfl, by (repeat (first | exact Ent.refl | exact Ent.left | refine Ent.cons ?_ | refine Ent.app ?_))⟩ | (exfalso; omega)
  · rw [if_neg hop]
    have hw : op = 0 ∨ op = 1 ∨ op = 2 ∨ op = 3 ∨ op = 4 ∨ op = 5 ∨ op = 6 ∨ op = 7 ∨ op = 8 ∨ op = 9 ∨ op = 10 ∨ op = 11 ∨ op = 12 ∨ op = 13 ∨ op = 14 ∨ op = 15 ∨ op = 16 ∨ op = 17 := by omega
    cases I <;> rcases hw with rfl | rfl | rfl | rfl | rfl | rfl | rfl | rfl | rfl | rfl | rfl | rfl | rfl | rfl | rfl | rfl | rfl | rfl
    all_goals
      repeat' ((try (conv => whnf)); first | (refine when_y ?_) | (refine when_ft ?_) | (refine when_tf ?_) | (refine br_t ?_) | (refine br_f ?_) | (refine loop_r 4 ?_) | (refine ld_laid hF _ rfl ?_) | (refine ssc_k 0 1 _ rfl rfl rfl rfl ex_abc0 ?_) | (refine ssc_k 1 2 _ rfl rfl rfl rfl ex_abc1 ?_) | (refine ssc_k 2 3 _ rfl rfl rfl rfl ex_abc2 ?_) | (refine q_cont true rfl ?_) | (refine q_cont false rfl ?_) | (apply call_p (hn _)) | (refine ari ?_ ?_; omega) | (apply sel; exact rfl) | (refine ix0 rfl ?_) | (refine ix1 rfl ?_) | (refine ix2 rfl ?_) | (refine ix3 rfl ?_) | (refine ix4 rfl ?_) | (refine ixn ?_ ?_; omega) | (apply ld_own; (first | (solve | repeat (first | with_reducible exact List.mem_cons_self | (with_reducible (apply List.mem_append_left; exact List.mem_cons_self)) | with_reducible apply List.mem_cons_of_mem | with_reducible apply List.mem_append_right)) | (repeat (first | exact List.Mem.head _ | apply List.Mem.tail | apply List.mem_append_right))); exact rfl) | (apply ldN_all; (first | (solve | repeat (first | with_reducible exact List.mem_cons_self | (with_reducible (apply List.mem_append_left; exact List.mem_cons_self)) | with_reducible apply List.mem_cons_of_mem | with_reducible apply List.mem_append_right)) | (repeat (first | exact List.Mem.head _ | apply List.Mem.tail | apply List.mem_append_right))); exact rfl) | (refine new_i (fun bk hbk => ?_)) | (refine when_df (fun hc => ?_) (fun hc => ?_)) | (refine br_d (fun hc => ?_) (fun hc => ?_)))
      all_goals (refine ⟨ret1 (vi ?_), by (repeat (first | exact Ent.refl | exact Ent.left | refine Ent.cons ?_ | refine Ent.app ?_))⟩; simp [regOk, useA, useB, useC]; try omega)
end Go.Proofs.YtfompmhncnkcfaaGreatDoor
namespace Go.Proofs.YtfompmhncnkcfaaGreatDoor
open Go
set_option maxRecDepth 10000
set_option maxHeartbeats 4000000
theorem sp_icheck (W0 : World) (own : Own) (hF : FormsAt W0) (i : Ins) : Pure Tryz.prog W0 96 [i.v] own (.int .i64 (icheck i)) := by
  have h := sp_icheck0 W0 own hF i.op i.a i.b i.c i.imm _ (fun own => sp_number W0 own i)
  simp only [decide_eq_true_eq] at h
  exact h
def hasG (c : Int) : List UInt8 → Bool
  | [] => false
  | x :: l => if (x.toNat : Int) = c then true else hasG c l
theorem sp_rhas (W0 : World) (own : Own) (s : ByteArray) (c : Int) (hs : s.size ≤ 9223372036854775807) : Pure Tryz.prog W0 95 [.string s, .int .u8 c] own (.bool (hasG c s.data.toList)) := by
  refine pure_of (spec_of mixed low_ref03_has (by simp [ir_ref03_has]) ?_)
  have hsz : s.data.toList.length = s.size := by simp
  skip
  refine loop_c (σ := Nat) (fun k => [(5, .int .i64 k)]) (fun k => k ≤ s.size ∧ hasG c (s.data.toList.drop k) = hasG c s.data.toList) (fun k => s.size - k) 0 ⟨by omega, rfl⟩ (by repeat' (first | exact True.intro | refine And.intro ?_ ?_ | exact rfl | exact vi (by omega) | (dsimp only; exact rfl) | (dsimp only; exact vi (by omega)))) rfl ?_
  rintro k junk ⟨hk, hI⟩
  by_cases hlt : k < s.size
  · obtain ⟨x, hx⟩ : ∃ x, s.data.toList[k]? = some x := ⟨_, List.getElem?_eq_getElem (by omega)⟩
    have hd : s.data.toList.drop k = x :: s.data.toList.drop (k + 1) := by
      rw [List.drop_eq_getElem_cons (by omega)]
      congr 1
      exact (List.getElem?_eq_some_iff.1 hx).2
    rw [hd, hasG] at hI
    repeat' ((try (conv => whnf)); first | (refine br_py (by omega) ?_) | (refine ⟨k, x, rfl, hx, ?_⟩) | (refine ari ?_ ?_; omega) | (refine br_d (fun hc => ?_) (fun hc => ?_)))
    · rw [if_pos hc] at hI
      exact ⟨ret1 (vb hI), by (repeat (first | exact Ent.refl | exact Ent.left | refine Ent.cons ?_ | refine Ent.app ?_))⟩
    · rw [if_neg hc] at hI
      exact ⟨k + 1, ⟨by omega, hI⟩, by omega, (by repeat' (first | exact True.intro | refine And.intro ?_ ?_ | exact rfl | exact vi (by omega) | (dsimp only; exact rfl) | (dsimp only; exact vi (by omega)))), Ent.refl⟩
  · have : k = s.data.toList.length := by omega
    rw [this, List.drop_length] at hI
    repeat' ((try (conv => whnf)); first | (refine br_pn (by omega) ?_))
    exact ⟨ret1 (vb hI), by (repeat (first | exact Ent.refl | exact Ent.left | refine Ent.cons ?_ | refine Ent.app ?_))⟩
def rforms : List ByteArray := [⟨#[]⟩, ⟨#[114, 105]⟩, ⟨#[114, 115]⟩, ⟨#[114, 115, 116, 102]⟩, ⟨#[106]⟩, ⟨#[114, 106]⟩, ⟨#[114, 106]⟩, ⟨#[97]⟩, ⟨#[]⟩, ⟨#[]⟩, ⟨#[114, 115, 105]⟩, ⟨#[114, 115, 105]⟩, ⟨#[114, 115, 105]⟩, ⟨#[114, 115, 105]⟩, ⟨#[114, 99]⟩, ⟨#[114]⟩, ⟨#[]⟩, ⟨#[114]⟩]
def rform (op : Int) : ByteArray := rforms.getD op.toNat ⟨#[]⟩
theorem sp_rform (W0 : World) (own : Own) (op : Int) (h : 0 ≤ op ∧ op < 18) : Pure Tryz.prog W0 93 [.int .i64 op] own (.string (rform op)) := by
  refine pure_of (spec_of mixed low_ref03_form (by simp [ir_ref03_form]) ?_)
  have hl : rforms.length = 18 := rfl
  have hk : (rforms.map Value.string)[0 + op.toNat * 1]? = some (.string (rform op)) := by
    have e : 0 + op.toNat * 1 = op.toNat := by omega
    rw [e]
    have : op.toNat < 18 := by omega
    simp [rform, hl, this]
  repeat' ((try (conv => whnf)); first | (refine ld_own _ (List.Mem.head _) hk ?_) | (refine ixs_n ?_ ?_; omega) | (refine new_i (fun bk hbk => ?_)))
  all_goals exact ⟨rfl, by (repeat (first | exact Ent.refl | exact Ent.left | refine Ent.cons ?_ | refine Ent.app ?_))⟩
theorem sp_rregister (W0 : World) (own : Own) (r : Int) (u : Bool) : Pure Tryz.prog W0 94 [.int .i64 r, .bool u] own (.bool (decide (regOk u r))) := by
  refine pure_of (spec_of mixed low_ref03_register (by simp [ir_ref03_register]) ?_)
  cases u
  all_goals
    repeat' ((try (conv => whnf)); first | (refine when_y ?_) | (refine when_ft ?_) | (refine br_t ?_) | (refine br_f ?_) | (refine when_dt (fun hc => ?_) (fun hc => ?_)) | (exact Ent.refl) | (refine And.intro rfl ?_))
    all_goals (refine ⟨ret1 (vb ?_), by (repeat (first | exact Ent.refl | exact Ent.left | refine Ent.cons ?_ | refine Ent.app ?_))⟩)
    all_goals first | (refine dd ?_; simp [regOk]; try omega) | (refine df ?_; simp [regOk]; try omega) | (refine dt ?_; simp [regOk]; try omega)
theorem q_rhas {W0 : World} {own : Own} {s : ByteArray} {c : Int} {K : Value → Prop} (b : Bool) (hb : hasG c s.data.toList = b) (hs : Nat.ble s.size 10 = true) (h : K (.bool b)) : CallQ Tryz.prog W0 own 95 [.string s, .int .u8 c] K :=
  call_q (fun _ => sp_rhas _ _ s c (by have := Nat.le_of_ble_eq_true hs; omega)) (by rw [hb]; exact h)
theorem p_rhas {W0 : World} {own : Own} {s : ByteArray} {c : Int} {K : Value → Own → Prop} (b : Bool) (hb : hasG c s.data.toList = b) (hs : Nat.ble s.size 10 = true) (h : K (.bool b) own) : CallT Tryz.prog W0 own 95 [.string s, .int .u8 c] K :=
  call_p (sp_rhas _ _ s c (by have := Nat.le_of_ble_eq_true hs; omega)) (by rw [hb]; exact h)
theorem sp_rcheck0 (W0 : World) (own : Own) (op a b c imm : Int) :
    Pure Tryz.prog W0 74 [.agg #[.int .i64 op, .int .i64 a, .int .i64 b, .int .i64 c, .int .i64 imm]] own (.int .i64 (icheck ⟨op, a, b, c, imm⟩)) := by
  refine pure_of (spec_of mixed low_ref03_Check (by simp [ir_ref03_Check]) ?_)
  simp only [icheck]
  by_cases hop : op < 0 ∨ 18 ≤ op
  · rw [if_pos hop]
    repeat' ((try (conv => whnf)); first | (refine when_y ?_) | (refine when_tf ?_) | (refine br_t ?_) | (refine br_py (by omega) ?_) | (apply ld_own; (first | (solve | repeat (first | with_reducible exact List.mem_cons_self | (with_reducible (apply List.mem_append_left; exact List.mem_cons_self)) | with_reducible apply List.mem_cons_of_mem | with_reducible apply List.mem_append_right)) | (repeat (first | exact List.Mem.head _ | apply List.Mem.tail | apply List.mem_append_right))); exact rfl) | (refine new_i (fun bk hbk => ?_)) | (refine when_df (fun hc => ?_) (fun hc => ?_)) | (exact Ent.refl) | (refine Ent.cons ?_) | (refine And.intro rfl ?_))
    all_goals first | exact ⟨rfl, by (repeat (first | exact Ent.refl | exact Ent.left | refine Ent.cons ?_ | refine Ent.app ?_))⟩ | (exfalso; omega)
  · rw [if_neg hop]
    have hw : op = 0 ∨ op = 1 ∨ op = 2 ∨ op = 3 ∨ op = 4 ∨ op = 5 ∨ op = 6 ∨ op = 7 ∨ op = 8 ∨ op = 9 ∨ op = 10 ∨ op = 11 ∨ op = 12 ∨ op = 13 ∨ op = 14 ∨ op = 15 ∨ op = 16 ∨ op = 17 := by omega
    by_cases h1 : regOk (useA op) a <;> by_cases h2 : regOk (useB op) b <;> by_cases h3 : regOk (useC op) c
    all_goals rcases hw with rfl | rfl | rfl | rfl | rfl | rfl | rfl | rfl | rfl | rfl | rfl | rfl | rfl | rfl | rfl | rfl | rfl | rfl
    all_goals
      repeat' ((try (conv => whnf)); first | (refine when_y ?_) | (refine when_tf ?_) | (refine br_t ?_) | (refine br_f ?_) | (refine when_npy h1 ?_) | (refine when_npn h1 ?_) | (refine when_npy h2 ?_) | (refine when_npn h2 ?_) | (refine br_npy h3 ?_) | (refine br_npn h3 ?_) | (apply call_p (sp_rform _ _ _ (by decide))) | (refine q_rhas true rfl rfl ?_) | (refine q_rhas false rfl rfl ?_) | (refine p_rhas true rfl rfl ?_) | (refine p_rhas false rfl rfl ?_) | (apply call_q (fun _ => sp_rregister _ _ _ _)) | (apply ld_own; (first | (solve | repeat (first | with_reducible exact List.mem_cons_self | (with_reducible (apply List.mem_append_left; exact List.mem_cons_self)) | with_reducible apply List.mem_cons_of_mem | with_reducible apply List.mem_append_right)) | (repeat (first | exact List.Mem.head _ | apply List.Mem.tail | apply List.mem_append_right))); exact rfl) | (refine new_i (fun bk hbk => ?_)) | (refine when_df (fun hc => ?_) (fun hc => ?_)) | (refine br_d (fun hc => ?_) (fun hc => ?_)))
      all_goals (refine ⟨ret1 (vi ?_), by (repeat (first | exact Ent.refl | exact Ent.left | refine Ent.cons ?_ | refine Ent.app ?_))⟩; simp [h1, h2, h3, immOk]; try omega)
theorem sp_rcheck (W0 : World) (own : Own) (i : Ins) : Pure Tryz.prog W0 74 [i.v] own (.int .i64 (icheck i)) := sp_rcheck0 W0 own i.op i.a i.b i.c i.imm
def iplace (i : Ins) : Int :=
  if icheck i = 0 then (if i.op = 8 ∨ i.op = 9 ∨ i.op = 10 ∨ i.op = 11 ∨ i.op = 14 ∨ i.op = 15 then 1 else if i.op = 7 ∨ i.op = 12 ∨ i.op = 13 ∨ i.op = 16 ∨ i.op = 17 then 2 else 0) else 0
def iskips (i : Ins) : Bool := decide (icheck i = 0 ∧ (i.op = 4 ∨ i.op = 5 ∨ i.op = 6))
def iskip (i : Ins) : Int := if iskips i then i.imm else 0
theorem sp_iplace (W0 : World) (own : Own) (hF : FormsAt W0) (i : Ins) : Pure Tryz.prog W0 97 [i.v] own (.int .i64 (iplace i)) := by
  refine pure_of (spec_of mixed low_isa_Place (by simp [ir_isa_Place]) ?_)
  have hc := fun own => sp_icheck W0 own hF i
  unfold iplace
  generalize icheck i = z at *
  repeat' ((try (conv => whnf)); first | (refine br_py (by omega) ?_) | (apply call_p (hc _)) | (apply ld_own; (first | (solve | repeat (first | with_reducible exact List.mem_cons_self | (with_reducible (apply List.mem_append_left; exact List.mem_cons_self)) | with_reducible apply List.mem_cons_of_mem | with_reducible apply List.mem_append_right)) | (repeat (first | exact List.Mem.head _ | apply List.Mem.tail | apply List.mem_append_right))); exact rfl) | (apply ldN_all; (first | (solve | repeat (first | with_reducible exact List.mem_cons_self | (with_reducible (apply List.mem_append_left; exact List.mem_cons_self)) | with_reducible apply List.mem_cons_of_mem | with_reducible apply List.mem_append_right)) | (repeat (first | exact List.Mem.head _ | apply List.Mem.tail | apply List.mem_append_right))); exact rfl) | (refine new_i (fun bk hbk => ?_)) | (refine br_d (fun hc => ?_) (fun hc => ?_)))
  all_goals (refine ⟨ret1 (vi ?_), by (repeat (first | exact Ent.refl | exact Ent.left | refine Ent.cons ?_ | refine Ent.app ?_))⟩; (repeat' split) <;> first | rfl | omega)
theorem sp_rplace (W0 : World) (own : Own) (i : Ins) : Pure Tryz.prog W0 75 [i.v] own (.int .i64 (iplace i)) := by
  refine pure_of (spec_of mixed low_ref03_Place (by simp [ir_ref03_Place]) ?_)
  have hc := fun own => sp_rcheck W0 own i
  unfold iplace
  generalize icheck i = z at *
  repeat' ((try (conv => whnf)); first | (refine br_py (by omega) ?_) | (apply call_p (hc _)) | (apply ld_own; (first | (solve | repeat (first | with_reducible exact List.mem_cons_self | (with_reducible (apply List.mem_append_left; exact List.mem_cons_self)) | with_reducible apply List.mem_cons_of_mem | with_reducible apply List.mem_append_right)) | (repeat (first | exact List.Mem.head _ | apply List.Mem.tail | apply List.mem_append_right))); exact rfl) | (apply ldN_all; (first | (solve | repeat (first | with_reducible exact List.mem_cons_self | (with_reducible (apply List.mem_append_left; exact List.mem_cons_self)) | with_reducible apply List.mem_cons_of_mem | with_reducible apply List.mem_append_right)) | (repeat (first | exact List.Mem.head _ | apply List.Mem.tail | apply List.mem_append_right))); exact rfl) | (refine new_i (fun bk hbk => ?_)) | (refine br_d (fun hc => ?_) (fun hc => ?_)))
  all_goals (refine ⟨ret1 (vi ?_), by (repeat (first | exact Ent.refl | exact Ent.left | refine Ent.cons ?_ | refine Ent.app ?_))⟩; (repeat' split) <;> first | rfl | omega)
theorem sp_iskips (W0 : World) (own : Own) (hF : FormsAt W0) (i : Ins) : Pure Tryz.prog W0 115 [i.v] own (.tuple #[.int .i64 (iskip i), .bool (iskips i)]) := by
  refine pure_of (spec_of mixed low_isa_Skips (by simp [ir_isa_Skips]) ?_)
  have hc := fun own => sp_icheck W0 own hF i
  unfold iskip iskips
  generalize icheck i = z at *
  repeat' ((try (conv => whnf)); first | (refine br_py (by omega) ?_) | (apply call_p (hc _)) | (apply ld_own; (first | (solve | repeat (first | with_reducible exact List.mem_cons_self | (with_reducible (apply List.mem_append_left; exact List.mem_cons_self)) | with_reducible apply List.mem_cons_of_mem | with_reducible apply List.mem_append_right)) | (repeat (first | exact List.Mem.head _ | apply List.Mem.tail | apply List.mem_append_right))); exact rfl) | (apply ldN_all; (first | (solve | repeat (first | with_reducible exact List.mem_cons_self | (with_reducible (apply List.mem_append_left; exact List.mem_cons_self)) | with_reducible apply List.mem_cons_of_mem | with_reducible apply List.mem_append_right)) | (repeat (first | exact List.Mem.head _ | apply List.Mem.tail | apply List.mem_append_right))); exact rfl) | (refine new_i (fun bk hbk => ?_)) | (refine br_d (fun hc => ?_) (fun hc => ?_)))
  all_goals (refine ⟨ret2 (vi ?_) (vb ?_), by (repeat (first | exact Ent.refl | exact Ent.left | refine Ent.cons ?_ | refine Ent.app ?_))⟩)
  all_goals first | rfl | (simp; done) | (simp [*]; done) | (simp; omega) | (symm; simp; omega)
theorem sp_rskips (W0 : World) (own : Own) (i : Ins) : Pure Tryz.prog W0 76 [i.v] own (.tuple #[.int .i64 (iskip i), .bool (iskips i)]) := by
  refine pure_of (spec_of mixed low_ref03_Skips (by simp [ir_ref03_Skips]) ?_)
  have hc := fun own => sp_rcheck W0 own i
  unfold iskip iskips
  by_cases h0 : icheck i = 0
  · have hop : ¬(i.op < 0 ∨ 18 ≤ i.op) := by
      intro h
      unfold icheck at h0
      rw [if_pos h] at h0
      omega
    have hf := fun own => sp_rform W0 own i.op (by omega)
    have hh : hasG 106 (rform i.op).data.toList = decide (i.op = 4 ∨ i.op = 5 ∨ i.op = 6) := by
      obtain ⟨op, hop2⟩ : ∃ op, op = i.op := ⟨_, rfl⟩
      rw [← hop2] at hop ⊢
      have hw : op = 0 ∨ op = 1 ∨ op = 2 ∨ op = 3 ∨ op = 4 ∨ op = 5 ∨ op = 6 ∨ op = 7 ∨ op = 8 ∨ op = 9 ∨ op = 10 ∨ op = 11 ∨ op = 12 ∨ op = 13 ∨ op = 14 ∨ op = 15 ∨ op = 16 ∨ op = 17 := by omega
      rcases hw with rfl | rfl | rfl | rfl | rfl | rfl | rfl | rfl | rfl | rfl | rfl | rfl | rfl | rfl | rfl | rfl | rfl | rfl <;> decide +kernel
    have hsz : (rform i.op).size ≤ 10 := by
      obtain ⟨op, hop2⟩ : ∃ op, op = i.op := ⟨_, rfl⟩
      rw [← hop2] at hop ⊢
      have hw : op = 0 ∨ op = 1 ∨ op = 2 ∨ op = 3 ∨ op = 4 ∨ op = 5 ∨ op = 6 ∨ op = 7 ∨ op = 8 ∨ op = 9 ∨ op = 10 ∨ op = 11 ∨ op = 12 ∨ op = 13 ∨ op = 14 ∨ op = 15 ∨ op = 16 ∨ op = 17 := by omega
      rcases hw with rfl | rfl | rfl | rfl | rfl | rfl | rfl | rfl | rfl | rfl | rfl | rfl | rfl | rfl | rfl | rfl | rfl | rfl <;> decide +kernel
    have hq := fun own => sp_rhas W0 own (rform i.op) 106 (by omega)
    rw [hh] at hq
    rw [h0] at hc ⊢
    repeat' ((try (conv => whnf)); first | (refine when_y ?_) | (apply call_p (hc _)) | (apply call_p (hf _)) | (apply call_p (hq _)) | (apply ld_own; (first | (solve | repeat (first | with_reducible exact List.mem_cons_self | (with_reducible (apply List.mem_append_left; exact List.mem_cons_self)) | with_reducible apply List.mem_cons_of_mem | with_reducible apply List.mem_append_right)) | (repeat (first | exact List.Mem.head _ | apply List.Mem.tail | apply List.mem_append_right))); exact rfl) | (apply ldN_all; (first | (solve | repeat (first | with_reducible exact List.mem_cons_self | (with_reducible (apply List.mem_append_left; exact List.mem_cons_self)) | with_reducible apply List.mem_cons_of_mem | with_reducible apply List.mem_append_right)) | (repeat (first | exact List.Mem.head _ | apply List.Mem.tail | apply List.mem_append_right))); exact rfl) | (refine new_i (fun bk hbk => ?_)) | (refine br_nd (fun hc => ?_) (fun hc => ?_)))
    all_goals (refine ⟨ret2 (vi ?_) (vb ?_), by (repeat (first | exact Ent.refl | exact Ent.left | refine Ent.cons ?_ | refine Ent.app ?_))⟩)
    all_goals first | rfl | (simp [*]; done) | (simp; omega) | (symm; simp; omega)
  · generalize icheck i = z at *
    repeat' ((try (conv => whnf)); first | (refine when_tf ?_) | (refine br_t ?_) | (refine when_py (by omega) ?_) | (apply call_p (hc _)) | (apply ldN_all; (first | (solve | repeat (first | with_reducible exact List.mem_cons_self | (with_reducible (apply List.mem_append_left; exact List.mem_cons_self)) | with_reducible apply List.mem_cons_of_mem | with_reducible apply List.mem_append_right)) | (repeat (first | exact List.Mem.head _ | apply List.Mem.tail | apply List.mem_append_right))); exact rfl) | (refine new_i (fun bk hbk => ?_)))
    all_goals (refine ⟨ret2 (vi ?_) (vb ?_), by (repeat (first | exact Ent.refl | exact Ent.left | refine Ent.cons ?_ | refine Ent.app ?_))⟩)
    all_goals first | rfl | (simp [*]; done) | (simp; omega) | (symm; simp; omega)
end Go.Proofs.YtfompmhncnkcfaaGreatDoor
namespace Go.Proofs.YtfompmhncnkcfaaGreatDoor
open Go Go.RowKit
set_option maxRecDepth 10000
def endL : List Ins → Nat → Nat
  | [], k => k
  | x :: l, k => if x.op = 8 then k else endL l (k + 1)
def endM (p : List Ins) (b : Nat) : Nat := endL (p.drop (b + 1)) (b + 1)
def intoL (len : Nat) : List Ins → Nat → Nat → Bool
  | [], _, _ => false
  | x :: l, j, t => decide (j < t ∧ x.op = 7 ∧ t ≤ endL l (j + 1) ∧ t + 1 ≤ len) || intoL len l (j + 1) t
def spanL (len t : Nat) : List Ins → Nat → Int → Int × Int
  | [], _, b => if 0 ≤ b ∧ b ≤ t ∧ t < len then (b, len) else (-1, -1)
  | x :: l, k, b => if b < 0 ∧ x.op = 7 then spanL len t l (k + 1) k else if 0 ≤ b ∧ x.op = 8 then (if b ≤ t ∧ t ≤ k then (b, k) else spanL len t l (k + 1) (-1)) else spanL len t l (k + 1) b
def span (p : List Ins) (t : Nat) : Int × Int := spanL p.length t p 0 (-1)
def targetM (p : List Ins) (k : Nat) (b : Int) (x : Ins) : Int :=
  if iskips x then (if (p.length : Int) < k + 1 + x.imm then 42 else if 0 ≤ b then (if (endM p b.toNat : Int) < k + 1 + x.imm then 42 else 0) else (if intoL p.length (p.drop (k + 1)) (k + 1) (k + 1 + x.imm.toNat) then 42 else 0)) else 0
def reachesM (p : List Ins) (k t : Nat) : Bool :=
  if p.length < t then false else if 0 ≤ (span p k).1 then decide ((t : Int) ≤ (span p k).2) else decide ((span p t).1 < 0 ∨ (span p t).1 = t)
def rtargetM (p : List Ins) (k : Nat) (x : Ins) : Int := if iskips x then (if reachesM p k (k + 1 + x.imm.toNat) then 0 else 42) else 0
def oneX (tgt : Int) (b : Int) (x : Ins) : Int :=
  if icheck x ≠ 0 then icheck x else if (x.op = 7 ∧ 0 ≤ b) ∨ (x.op = 8 ∧ b < 0) then 40 else if (iplace x = 1 ∧ b < 0) ∨ (iplace x = 2 ∧ 0 ≤ b) then 41 else tgt
def nextB (x : Ins) (k : Nat) (b : Int) : Int := if x.op = 7 then k else if x.op = 8 then -1 else b
def checkG (tgt : Nat → Int → Ins → Int) : List Ins → Nat → Int → Int × Int
  | [], _, b => if 0 ≤ b then (b, 43) else (0, 0)
  | x :: l, k, b => if oneX (tgt k b x) b x ≠ 0 then (k, oneX (tgt k b x) b x) else checkG tgt l (k + 1) (nextB x k b)
def checkP (p : List Ins) : Int × Int := if 64 < p.length then (0, 3) else checkG (targetM p) p 0 (-1)
def checkR (p : List Ins) : Int × Int := if 64 < p.length then (0, 3) else checkG (fun k _ x => rtargetM p k x) p 0 (-1)
theorem endL_ge : ∀ (l : List Ins) (k : Nat), k ≤ endL l k ∧ endL l k ≤ k + l.length
  | [], k => by simp [endL]
  | x :: l, k => by
    unfold endL
    have := endL_ge l (k + 1)
    simp only [List.length_cons]
    split <;> omega
theorem intoL_le (len : Nat) : ∀ (l : List Ins) (j t : Nat), t ≤ j → intoL len l j t = false
  | [], _, _, _ => rfl
  | x :: l, j, t, h => by
    unfold intoL
    rw [intoL_le len l (j + 1) t (by omega), Bool.or_false, decide_eq_false_iff_not]
    omega
theorem spanL_low (len t : Nat) : ∀ (l : List Ins) (j : Nat) (b : Int), (b < 0 ∧ t < j) ∨ ((t : Int) < b ∧ t < j) → (spanL len t l j b).1 < 0
  | [], j, b, h => by
    unfold spanL
    rw [if_neg (by omega)]
    decide
  | x :: l, j, b, h => by
    unfold spanL
    split
    · exact spanL_low len t l (j + 1) j (.inr ⟨by omega, by omega⟩)
    · split
      · rw [if_neg (by omega)]
        exact spanL_low len t l (j + 1) (-1) (.inl ⟨by omega, by omega⟩)
      · exact spanL_low len t l (j + 1) b (by omega)
theorem spanL_at (len t : Nat) : ∀ (l : List Ins) (j : Nat), t < j → len = j + l.length → spanL len t l j t = ((t : Int), (endL l j : Int))
  | [], j, h, hl => by
    simp only [List.length_nil, Nat.add_zero] at hl
    unfold spanL endL
    rw [if_pos (by omega), hl]
  | x :: l, j, h, hl => by
    simp only [List.length_cons] at hl
    unfold spanL endL
    rw [if_neg (by omega)]
    split
    · rename_i h8
      rw [if_pos (by omega), if_pos h8.2]
    · rename_i h8
      rw [if_neg (by omega)]
      exact spanL_at len t l (j + 1) (by omega) (by omega)
theorem spanL_in (len t : Nat) : ∀ (l : List Ins) (j : Nat) (b : Int), 0 ≤ b → b ≤ t → t < j → len = j + l.length → spanL len t l j b = (b, (endL l j : Int))
  | [], j, b, h0, h1, h, hl => by
    simp only [List.length_nil, Nat.add_zero] at hl
    unfold spanL endL
    rw [if_pos (by omega), hl]
  | x :: l, j, b, h0, h1, h, hl => by
    simp only [List.length_cons] at hl
    unfold spanL endL
    rw [if_neg (by omega)]
    split
    · rename_i h8
      rw [if_pos (by omega), if_pos h8.2]
    · rename_i h8
      rw [if_neg (by omega)]
      exact spanL_in len t l (j + 1) b h0 h1 (by omega) (by omega)
mutual
theorem span_out (len t : Nat) : ∀ (l : List Ins) (j : Nat), len = j + l.length → t ≤ len → (((spanL len t l j (-1)).1 < 0 ∨ (spanL len t l j (-1)).1 = t) ↔ intoL len l j t = false)
  | [], j, _, _ => by
    unfold spanL intoL
    simp
  | x :: l, j, hl, ht => by
    simp only [List.length_cons] at hl
    unfold spanL intoL
    by_cases h7 : x.op = 7
    · rw [if_pos ⟨by omega, h7⟩]
      by_cases hjt : j < t
      · rw [span_open len t l (j + 1) j hjt (by omega) ht]
        rw [Bool.or_eq_false_iff, decide_eq_false_iff_not]
        constructor
        · intro h; exact ⟨by omega, h.2⟩
        · intro h; exact ⟨by omega, h.2⟩
      · rw [intoL_le len l (j + 1) t (by omega)]
        by_cases hjt2 : j = t
        · subst hjt2
          rw [spanL_at len j l (j + 1) (by omega) (by omega)]
          simp
        · have := spanL_low len t l (j + 1) j (.inr ⟨by omega, by omega⟩)
          simp [this]; omega
    · rw [if_neg (by omega), if_neg (by omega), span_out len t l (j + 1) (by omega) ht]
      simp [h7]
theorem span_open (len t : Nat) : ∀ (l : List Ins) (j : Nat) (b : Nat), b < t → len = j + l.length → t ≤ len → (((spanL len t l j b).1 < 0 ∨ (spanL len t l j b).1 = t) ↔ (¬(t ≤ endL l j ∧ t + 1 ≤ len) ∧ intoL len l j t = false))
  | [], j, b, hb, hl, ht => by
    simp only [List.length_nil, Nat.add_zero] at hl
    unfold spanL intoL endL
    by_cases h : t < len
    · rw [if_pos (by omega)]
      simp; omega
    · rw [if_neg (by omega)]
      simp; omega
  | x :: l, j, b, hb, hl, ht => by
    simp only [List.length_cons] at hl
    rw [spanL, intoL, show endL (x :: l) j = (if x.op = 8 then j else endL l (j + 1)) from rfl]
    rw [if_neg (by omega)]
    by_cases h8 : x.op = 8
    · rw [if_pos ⟨by omega, h8⟩, if_pos h8]
      by_cases htj : t ≤ j
      · rw [if_pos ⟨by omega, by omega⟩]
        simp; omega
      · rw [if_neg (by omega), span_out len t l (j + 1) (by omega) ht]
        have h7 : ¬ x.op = 7 := by omega
        simp [h7]; omega
    · rw [if_neg (by omega), if_neg h8, span_open len t l (j + 1) b hb (by omega) ht]
      rw [Bool.or_eq_false_iff, decide_eq_false_iff_not]
      constructor
      · intro h; exact ⟨h.1, by omega, h.2⟩
      · intro h; exact ⟨h.1, h.2.2⟩
end
structure PInv (p : List Ins) (k : Nat) (b : Int) : Prop where
  sp : ∀ t, k ≤ t → span p t = spanL p.length t (p.drop k) k b
  bb : b = -1 ∨ (0 ≤ b ∧ b < k ∧ endM p b.toNat = endL (p.drop k) k)
theorem PInv.start (p : List Ins) : PInv p 0 (-1) := ⟨fun _ _ => rfl, .inl rfl⟩
theorem drop_at {p : List Ins} {k : Nat} {x : Ins} (hx : p[k]? = some x) : p.drop k = x :: p.drop (k + 1) := by
  obtain ⟨hk, he⟩ := List.getElem?_eq_some_iff.1 hx
  rw [List.drop_eq_getElem_cons hk, he]
theorem PInv.step {p : List Ins} {k : Nat} {b : Int} {x : Ins} (h : PInv p k b) (hx : p[k]? = some x) (h7 : x.op = 7 → b < 0) (h8 : x.op = 8 → 0 ≤ b) : PInv p (k + 1) (nextB x k b) := by
  have hd := drop_at hx
  refine ⟨fun t ht => ?_, ?_⟩
  · rw [h.sp t (by omega), hd, spanL]
    unfold nextB
    by_cases e7 : x.op = 7
    · rw [if_pos ⟨h7 e7, e7⟩, if_pos e7]
    · by_cases e8 : x.op = 8
      · rw [if_neg (by omega), if_pos ⟨h8 e8, e8⟩, if_neg (by omega), if_neg e7, if_pos e8]
      · rw [if_neg (by omega), if_neg (by omega), if_neg e7, if_neg e8]
  · unfold nextB
    by_cases e7 : x.op = 7
    · rw [if_pos e7]
      refine .inr ⟨by omega, by omega, ?_⟩
      simp [endM]
    · by_cases e8 : x.op = 8
      · rw [if_neg e7, if_pos e8]; exact .inl rfl
      · rw [if_neg e7, if_neg e8]
        rcases h.bb with hb | ⟨h0, h1, h2⟩
        · exact .inl hb
        · refine .inr ⟨h0, by omega, ?_⟩
          rw [h2, hd, endL, if_neg e8]
theorem skips_op {x : Ins} (h : iskips x = true) : (x.op = 4 ∨ x.op = 5 ∨ x.op = 6) ∧ 0 ≤ x.imm ∧ x.imm ≤ 64 := by
  unfold iskips at h
  simp only [decide_eq_true_eq] at h
  refine ⟨h.2, ?_⟩
  have hc := h.1
  unfold icheck at hc
  split at hc
  · omega
  · split at hc
    · split at hc
      · rename_i hi
        unfold immOk at hi
        rw [if_neg (by omega), if_neg (by omega), if_pos (by omega)] at hi
        exact hi
      · omega
    · omega
theorem PInv.target {p : List Ins} {k : Nat} {b : Int} {x : Ins} (h : PInv p k b) (hx : p[k]? = some x) : targetM p k b x = rtargetM p k x := by
  unfold targetM rtargetM
  by_cases hs : iskips x = true
  · obtain ⟨hop, hi0, hi1⟩ := skips_op hs
    rw [if_pos hs, if_pos hs]
    obtain ⟨t, ht⟩ : ∃ t : Nat, (t : Int) = k + 1 + x.imm := ⟨k + 1 + x.imm.toNat, by omega⟩
    have ht' : k + 1 + x.imm.toNat = t := by omega
    rw [ht', ← ht]
    have hk := (List.getElem?_eq_some_iff.1 hx).1
    have hd := drop_at hx
    have hlen : p.length = k + 1 + (p.drop (k + 1)).length := by rw [List.length_drop]; omega
    by_cases hlt : p.length < t
    · have hr : reachesM p k t = false := by unfold reachesM; rw [if_pos hlt]
      rw [hr, if_pos (by omega)]; rfl
    · rw [if_neg (show ¬ (p.length : Int) < t by omega)]
      have s1 := h.sp k (Nat.le_refl _)
      rw [hd, spanL, if_neg (by omega), if_neg (by omega)] at s1
      have s2 := h.sp t (by omega)
      rw [hd, spanL, if_neg (by omega), if_neg (by omega)] at s2
      rcases h.bb with hb | ⟨h0, h1, h2⟩
      · subst hb
        have hl := spanL_low p.length k (p.drop (k + 1)) (k + 1) (-1) (.inl ⟨by omega, by omega⟩)
        rw [← s1] at hl
        have ho := span_out p.length t (p.drop (k + 1)) (k + 1) hlen (by omega)
        rw [← s2] at ho
        have hr : reachesM p k t = !intoL p.length (p.drop (k + 1)) (k + 1) t := by
          unfold reachesM
          rw [if_neg hlt, if_neg (show ¬ 0 ≤ (span p k).1 by omega)]
          cases hin : intoL p.length (p.drop (k + 1)) (k + 1) t with
          | true => rw [hin] at ho; rw [decide_eq_false (by rw [ho]; simp)]; rfl
          | false => rw [hin] at ho; rw [decide_eq_true (ho.2 rfl)]; rfl
        rw [hr, if_neg (by omega)]
        cases intoL p.length (p.drop (k + 1)) (k + 1) t <;> rfl
      · have hin := spanL_in p.length k (p.drop (k + 1)) (k + 1) b h0 (by omega) (by omega) hlen
        rw [hin] at s1
        have hr : reachesM p k t = decide ((t : Int) ≤ (endL (p.drop (k + 1)) (k + 1) : Nat)) := by
          unfold reachesM
          rw [if_neg hlt, s1, if_pos h0]
        have he : endL (p.drop k) k = endL (p.drop (k + 1)) (k + 1) := by rw [hd, endL, if_neg (by omega)]
        rw [hr, if_pos h0, h2, he]
        by_cases hle : (t : Int) ≤ (endL (p.drop (k + 1)) (k + 1) : Nat)
        · rw [if_neg (by omega), decide_eq_true hle]; rfl
        · rw [if_pos (by omega), decide_eq_false hle]; rfl
  · rw [if_neg hs, if_neg hs]
theorem oneX_ok {t b : Int} {x : Ins} (h : oneX t b x = 0) : (x.op = 7 → b < 0) ∧ (x.op = 8 → 0 ≤ b) ∧ icheck x = 0 ∧ t = 0 := by
  unfold oneX at h
  split at h
  · omega
  · split at h
    · omega
    · split at h
      · omega
      · rename_i h1 h2 _
        simp at h1
        refine ⟨by omega, by omega, h1, h⟩
theorem check_same (p : List Ins) : ∀ (n k : Nat) (b : Int), n + k = p.length → PInv p k b → checkG (targetM p) (p.drop k) k b = checkG (fun k _ x => rtargetM p k x) (p.drop k) k b
  | 0, k, b, hn, _ => by
    have : p.drop k = [] := List.drop_eq_nil_iff.2 (by omega)
    rw [this, checkG, checkG]
  | n + 1, k, b, hn, h => by
    obtain ⟨x, hx⟩ : ∃ x, p[k]? = some x := ⟨_, List.getElem?_eq_getElem (by omega)⟩
    rw [drop_at hx, checkG, checkG, h.target hx]
    split
    · rfl
    · rename_i h0
      have ho := oneX_ok (t := rtargetM p k x) (b := b) (x := x) (by simpa using h0)
      exact check_same p n (k + 1) _ (by omega) (h.step hx ho.1 ho.2.1)
theorem checkP_R (p : List Ins) : checkP p = checkR p := by
  unfold checkP checkR
  split
  · rfl
  · exact check_same p p.length 0 (-1) (by omega) (PInv.start p)
end Go.Proofs.YtfompmhncnkcfaaGreatDoor
