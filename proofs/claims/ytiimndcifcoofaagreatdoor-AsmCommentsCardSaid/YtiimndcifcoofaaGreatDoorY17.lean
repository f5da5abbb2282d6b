/- What the laws share, part 17. No condition. -/
import Derived.Shelf.Strings.Search1
import Derived.Shelf.Strings.Search2
import Derived.Shelf.Strings.Search3
import Derived.Shelf.Strings.Prefix
import Derived.Ground.Names2Prog
import Derived.Test.YtiimndcifcoofaaGreatDoorProg
import Derived.Test.YtiimndcifcoofaaGreatDoorY16
namespace Go.Proofs.YtiimndcifcoofaaGreatDoor
open Go Go.Shelf
def shelf_lays144_ren : Go.Shelf.Ren := ⟨fun | 144 => 42 | 143 => 70 | 219 => 93 | 217 => 131 | 225 => 132 | 224 => 133 | 267 => 134 | 266 => 153 | 314 => 154 | n => n, fun | 9 => 9 | 4 => 4 | 3 => 3 | 5 => 5 | 46 => 92 | 146 => 119 | 51 => 118 | n => n, fun | 1 => 2 | n => n⟩
theorem shelf_lays144 : Go.Proofs.Lays.n144 Tryz.prog shelf_lays144_ren := {
  mixed := by kernel_rfl
  f143 := Tryz.func70.trans (congrArg some (by kernel_rfl))
  f144 := Tryz.func42.trans (congrArg some (by kernel_rfl))
  f217 := Tryz.func131.trans (congrArg some (by kernel_rfl))
  f219 := Tryz.func93.trans (congrArg some (by kernel_rfl))
  f224 := Tryz.func133.trans (congrArg some (by kernel_rfl))
  f225 := Tryz.func132.trans (congrArg some (by kernel_rfl))
  f266 := Tryz.func153.trans (congrArg some (by kernel_rfl))
  f267 := Tryz.func134.trans (congrArg some (by kernel_rfl))
  f314 := Tryz.func154.trans (congrArg some (by kernel_rfl))
  t3 := Tryz.underlying3
  a3 := Tryz.isAgg3
  z3 := Tryz.sizeOf3
  v3 := Tryz.zeroValue3
  t4 := Tryz.underlying4
  a4 := Tryz.isAgg4
  z4 := Tryz.sizeOf4
  v4 := Tryz.zeroValue4
  t5 := Tryz.underlying5
  a5 := Tryz.isAgg5
  z5 := Tryz.sizeOf5
  v5 := Tryz.zeroValue5
  t9 := Tryz.underlying9
  a9 := Tryz.isAgg9
  z9 := Tryz.sizeOf9
  v9 := Tryz.zeroValue9
  t46 := Tryz.underlying92
  a46 := Tryz.isAgg92
  z46 := Tryz.sizeOf92
  v46 := Tryz.zeroValue92
  t51 := Tryz.underlying118
  a51 := Tryz.isAgg118
  z51 := Tryz.sizeOf118
  v51 := Tryz.zeroValue118
  t146 := Tryz.underlying119
  a146 := Tryz.isAgg119
  z146 := Tryz.sizeOf119
  v146 := Tryz.zeroValue119
  g1 := by kernel_rfl }
open Go.RowKit Go.Lib in
theorem shelf_strings_Contains_one (s : ByteArray) (c : UInt8) (w : World) :
    Calls Tryz.prog 42 #[.string s, .string ⟨#[c]⟩] w fun e w' => e = .returned (.bool (decide (0 ≤ Lib.indexByte s.data.toList c))) ∧ w' = w := Any.strings_Contains_one shelf_lays144 s c w
def shelf_lays99_ren : Go.Shelf.Ren := ⟨fun | 99 => 65 | 206 => 90 | n => n, fun | 9 => 9 | 4 => 4 | 3 => 3 | n => n, fun | n => n⟩
theorem shelf_lays99 : Go.Proofs.Lays.n99 Tryz.prog shelf_lays99_ren := {
  mixed := by kernel_rfl
  f99 := Tryz.func65.trans (congrArg some (by kernel_rfl))
  f206 := Tryz.func90.trans (congrArg some (by kernel_rfl))
  t3 := Tryz.underlying3
  a3 := Tryz.isAgg3
  z3 := Tryz.sizeOf3
  v3 := Tryz.zeroValue3
  t4 := Tryz.underlying4
  a4 := Tryz.isAgg4
  z4 := Tryz.sizeOf4
  v4 := Tryz.zeroValue4
  t9 := Tryz.underlying9
  a9 := Tryz.isAgg9
  z9 := Tryz.sizeOf9
  v9 := Tryz.zeroValue9 }
open Go.RowKit Go.Lib in
theorem shelf_strings_HasPrefix (s p : ByteArray) (w : World) :
    Calls Tryz.prog 65 #[.string s, .string p] w fun e w' => e = .returned (.bool (Lib.hasPrefix s.data.toList p.data.toList)) ∧ w' = w := Any.strings_HasPrefix shelf_lays99 s p w
end Go.Proofs.YtiimndcifcoofaaGreatDoor
namespace Go.Proofs.YtiimndcifcoofaaGreatDoor
open Go
set_option maxRecDepth 10000
set_option maxHeartbeats 4000000
structure Ins where
  op : Int
  a : Int
  b : Int
  c : Int
  imm : Int
abbrev Ins.enc (i : Ins) : List Value := [.int .i64 i.op, .int .i64 i.a, .int .i64 i.b, .int .i64 i.c, .int .i64 i.imm]
abbrev Ins.v (i : Ins) : Value := .agg #[.int .i64 i.op, .int .i64 i.a, .int .i64 i.b, .int .i64 i.c, .int .i64 i.imm]
def has (s : ByteArray) (c : UInt8) : Bool := decide (0 ≤ Go.Lib.indexByte s.data.toList c)
theorem sp_contains (W0 : World) (own : Own) (s : ByteArray) (c : UInt8) : Pure Tryz.prog W0 42 [.string s, .string ⟨#[c]⟩] own (.bool (has s c)) := fun w hw =>
  (shelf_strings_Contains_one s c w).mono fun _ _ ⟨he, hs⟩ => ⟨he, by rw [hs]; exact hw⟩
def useA (op : Int) : Bool := op == 1 || op == 2 || op == 3 || op == 5 || op == 6 || op == 10 || op == 11 || op == 12 || op == 13 || op == 14 || op == 15 || op == 17
def useB (op : Int) : Bool := op == 2 || op == 3 || op == 10 || op == 11 || op == 12 || op == 13
def useC (op : Int) : Bool := op == 3
def regOk (u : Bool) (r : Int) : Prop := if u then 0 ≤ r ∧ r < 8 else r = 0
instance (u : Bool) (r : Int) : Decidable (regOk u r) := by unfold regOk; infer_instance
def immOk (op imm : Int) : Prop :=
  if op = 1 ∨ op = 10 ∨ op = 11 ∨ op = 12 ∨ op = 13 then True else if op = 3 then 0 ≤ imm ∧ imm < 22 else if op = 4 ∨ op = 5 ∨ op = 6 then 0 ≤ imm ∧ imm ≤ 64 else if op = 7 then 1 ≤ imm ∧ imm ≤ 8 else if op = 14 then 0 ≤ imm ∧ imm < 4 else imm = 0
instance (op imm : Int) : Decidable (immOk op imm) := by unfold immOk; infer_instance
def icheck (i : Ins) : Int :=
  if i.op < 0 ∨ 18 ≤ i.op then 10 else if regOk (useA i.op) i.a ∧ regOk (useB i.op) i.b ∧ regOk (useC i.op) i.c then (if immOk i.op i.imm then 0 else 11) else 11
def formsV : List Value := [.string ⟨#[110, 111, 112]⟩, .string ⟨#[]⟩, .string ⟨#[99, 111, 110, 115, 116]⟩, .string ⟨#[65, 73]⟩, .string ⟨#[109, 111, 118, 101]⟩, .string ⟨#[65, 66]⟩, .string ⟨#[]⟩, .string ⟨#[65, 66, 67]⟩, .string ⟨#[106, 117, 109, 112]⟩, .string ⟨#[73]⟩,
  .string ⟨#[122, 101, 114, 111]⟩, .string ⟨#[65, 73]⟩, .string ⟨#[110, 111, 110, 122, 101, 114, 111]⟩, .string ⟨#[65, 73]⟩, .string ⟨#[98, 101, 103, 105, 110]⟩, .string ⟨#[73]⟩, .string ⟨#[99, 111, 109, 109, 105, 116]⟩, .string ⟨#[]⟩, .string ⟨#[97, 98, 111, 114, 116]⟩, .string ⟨#[]⟩,
  .string ⟨#[116, 114, 101, 97, 100]⟩, .string ⟨#[65, 66, 73]⟩, .string ⟨#[116, 119, 114, 105, 116, 101]⟩, .string ⟨#[65, 66, 73]⟩, .string ⟨#[112, 114, 101, 97, 100]⟩, .string ⟨#[65, 66, 73]⟩, .string ⟨#[112, 119, 114, 105, 116, 101]⟩, .string ⟨#[65, 66, 73]⟩,
  .string ⟨#[97, 108, 108, 111, 99]⟩, .string ⟨#[65, 73]⟩, .string ⟨#[102, 114, 101, 101]⟩, .string ⟨#[65]⟩, .string ⟨#[102, 101, 110, 99, 101]⟩, .string ⟨#[]⟩, .string ⟨#[111, 117, 116, 99, 111, 109, 101]⟩, .string ⟨#[65]⟩]
def FormsAt (W0 : World) : Prop := LaidAt W0 0 formsV
theorem ssc_k {s : ByteArray} {lo hi : Option Int} {K : Value → Prop} (l r : Nat) (t : ByteArray) (h1 : lo.getD 0 = l) (h2 : hi.getD s.size = r) (hlr : Nat.ble l r = true) (hrs : Nat.ble r s.size = true) (ht : s.extract l r = t) (h : K (.string t)) : SscT s lo hi K :=
  ⟨l, r, h1, h2, by simpa using hlr, by simpa using hrs, by rw [ht]; exact h⟩
theorem ex_abc0 : (⟨#[65, 66, 67]⟩ : ByteArray).extract 0 1 = ⟨#[65]⟩ := by decide +kernel
theorem ex_abc1 : (⟨#[65, 66, 67]⟩ : ByteArray).extract 1 2 = ⟨#[66]⟩ := by decide +kernel
theorem ex_abc2 : (⟨#[65, 66, 67]⟩ : ByteArray).extract 2 3 = ⟨#[67]⟩ := by decide +kernel
theorem q_cont {W0 : World} {own : Own} {s : ByteArray} {c : UInt8} {K : Value → Prop} (b : Bool) (hb : has s c = b) (h : K (.bool b)) : CallQ Tryz.prog W0 own 42 [.string s, .string ⟨#[c]⟩] K :=
  call_q (fun _ => sp_contains _ _ s c) (by rw [hb]; exact h)
theorem sp_number (W0 : World) (own : Own) (i : Ins) : Pure Tryz.prog W0 43 [i.v] own (.bool (decide (immOk i.op i.imm))) := by
  refine pure_of (spec_of mixed low_isa_number (by simp [ir_isa_number]) ?_)
  repeat' ((try (conv => whnf)); first | (refine when_y ?_) | (refine when_ft ?_) | (refine when_tf ?_) | (refine br_t ?_) | (refine br_f ?_) | (refine br_py (by omega) ?_) | (refine br_pn (by omega) ?_) | (refine when_py (by omega) ?_) | (refine when_pn (by omega) ?_) | (refine br_npy (by omega) ?_) | (refine br_npn (by omega) ?_) | (refine when_npy (by omega) ?_) | (refine when_npn (by omega) ?_) | (refine when_y ?_) | (refine when_ft ?_) | (refine when_tf ?_) | (refine br_t ?_) | (refine br_f ?_) | (refine ari ?_ ?_; omega) | (refine aru ?_ ?_; omega) | (apply sel; exact rfl) | (refine ix0 rfl ?_) | (refine ix1 rfl ?_) | (refine ix2 rfl ?_) | (refine ix3 rfl ?_) | (refine ix4 rfl ?_) | (apply ixj; omega) | (refine ixn ?_ ?_; omega) | (refine ixs0 rfl ?_) | (refine ixs1 rfl ?_) | (refine ixs2 rfl ?_) | (refine ixs_j ?_ ?_; omega) | (refine ixs_n ?_ ?_; omega) | (apply ld_own; (first | (solve | repeat (first | with_reducible exact List.mem_cons_self | (with_reducible (apply List.mem_append_left; exact List.mem_cons_self)) | with_reducible apply List.mem_cons_of_mem | with_reducible apply List.mem_append_right)) | (repeat (first | exact List.Mem.head _ | apply List.Mem.tail | apply List.mem_append_right))); exact rfl) | (apply ldN_all; (first | (solve | repeat (first | with_reducible exact List.mem_cons_self | (with_reducible (apply List.mem_append_left; exact List.mem_cons_self)) | with_reducible apply List.mem_cons_of_mem | with_reducible apply List.mem_append_right)) | (repeat (first | exact List.Mem.head _ | apply List.Mem.tail | apply List.mem_append_right))); exact rfl) | (apply ldN_own; (first | (solve | repeat (first | with_reducible exact List.mem_cons_self | (with_reducible (apply List.mem_append_left; exact List.mem_cons_self)) | with_reducible apply List.mem_cons_of_mem | with_reducible apply List.mem_append_right)) | (repeat (first | exact List.Mem.head _ | apply List.Mem.tail | apply List.mem_append_right))); exact rfl; exact rfl) | (apply st_own; (first | (solve | repeat (first | with_reducible exact Up.head | with_reducible apply Up.tail | with_reducible apply Up.app)) | (repeat (first | exact Up.head | apply Up.tail | apply Up.app))); (solve | ((try (conv => arg 2; whnf)); repeat' (first | exact Lis.nil | apply Lis.cons | apply SetAt.here | apply SetAt.there | apply PutAt.done | apply PutAt.put | apply PutAt.skip))); exact rfl) | (apply stN_own; (first | (solve | repeat (first | with_reducible exact Up.head | with_reducible apply Up.tail | with_reducible apply Up.app)) | (repeat (first | exact Up.head | apply Up.tail | apply Up.app))); (solve | ((try (conv => arg 2; whnf)); repeat' (first | exact Lis.nil | apply Lis.cons | apply SetAt.here | apply SetAt.there | apply PutAt.done | apply PutAt.put | apply PutAt.skip))); exact rfl) | (refine new_i (fun bk hbk => ?_)) | (refine when_dt (fun hc => ?_) (fun hc => ?_)) | (refine when_df (fun hc => ?_) (fun hc => ?_)) | (refine when_ndt (fun hc => ?_) (fun hc => ?_)) | (refine when_ndf (fun hc => ?_) (fun hc => ?_)) | (refine br_d (fun hc => ?_) (fun hc => ?_)) | (refine br_nd (fun hc => ?_) (fun hc => ?_)) | (refine shl0 ?_ ?_; omega) | (refine shl1 ?_ ?_; omega) | (refine shl2 ?_ ?_; omega) | (refine shl3 ?_ ?_; omega) | (refine mm_min ?_) | (refine mm_max ?_) | (refine quo_i ?_ ?_; omega) | (refine rem_i ?_ ?_; omega) | (refine stN_and rfl ?_) | (refine SelN.mk ?_) | (refine cut_n ?_) | (refine Both.mk ?_ ?_) | (exact True.intro) | (exact Ent.refl) | (refine Ent.cons ?_) | (refine And.intro rfl ?_) | (fail))
  all_goals (refine ⟨ret1 (vb ?_), by (repeat (first | exact Ent.refl | exact Ent.left | refine Ent.cons ?_ | refine Ent.app ?_))⟩)
  all_goals first | (refine dd ?_; unfold immOk; (repeat' split) <;> omega) | (refine dt ?_; unfold immOk; (repeat' split) <;> first | exact True.intro | omega) | (refine df ?_; unfold immOk; (repeat' split) <;> omega)
theorem sp_icheck0 (W0 : World) (own : Own) (hF : FormsAt W0) (op a b c imm : Int) (I : Bool) (hn : ∀ own, Pure Tryz.prog W0 43 [.agg #[.int .i64 op, .int .i64 a, .int .i64 b, .int .i64 c, .int .i64 imm]] own (.bool I)) :
    Pure Tryz.prog W0 13 [.agg #[.int .i64 op, .int .i64 a, .int .i64 b, .int .i64 c, .int .i64 imm]] own (.int .i64 (if op < 0 ∨ 18 ≤ op then 10 else if regOk (useA op) a ∧ regOk (useB op) b ∧ regOk (useC op) c then (if I then 0 else 11) else 11)) := by
  refine pure_of (spec_of mixed low_isa_Check (by simp [ir_isa_Check]) ?_)
  by_cases hop : op < 0 ∨ 18 ≤ op
  · rw [if_pos hop]
    repeat' ((try (conv => whnf)); first | (refine when_y ?_) | (refine when_ft ?_) | (refine when_tf ?_) | (refine br_t ?_) | (refine br_f ?_) | (refine br_py (by omega) ?_) | (refine br_pn (by omega) ?_) | (refine when_py (by omega) ?_) | (refine when_pn (by omega) ?_) | (refine br_npy (by omega) ?_) | (refine br_npn (by omega) ?_) | (refine when_npy (by omega) ?_) | (refine when_npn (by omega) ?_) | (refine when_y ?_) | (refine when_ft ?_) | (refine when_tf ?_) | (refine br_t ?_) | (refine br_f ?_) | (refine ari ?_ ?_; omega) | (refine aru ?_ ?_; omega) | (apply sel; exact rfl) | (refine ix0 rfl ?_) | (refine ix1 rfl ?_) | (refine ix2 rfl ?_) | (refine ix3 rfl ?_) | (refine ix4 rfl ?_) | (apply ixj; omega) | (refine ixn ?_ ?_; omega) | (refine ixs0 rfl ?_) | (refine ixs1 rfl ?_) | (refine ixs2 rfl ?_) | (refine ixs_j ?_ ?_; omega) | (refine ixs_n ?_ ?_; omega) | (apply ld_own; (first | (solve | repeat (first | with_reducible exact List.mem_cons_self | (with_reducible (apply List.mem_append_left; exact List.mem_cons_self)) | with_reducible apply List.mem_cons_of_mem | with_reducible apply List.mem_append_right)) | (repeat (first | exact List.Mem.head _ | apply List.Mem.tail | apply List.mem_append_right))); exact rfl) | (apply ldN_all; (first | (solve | repeat (first | with_reducible exact List.mem_cons_self | (with_reducible (apply List.mem_append_left; exact List.mem_cons_self)) | with_reducible apply List.mem_cons_of_mem | with_reducible apply List.mem_append_right)) | (repeat (first | exact List.Mem.head _ | apply List.Mem.tail | apply List.mem_append_right))); exact rfl) | (apply ldN_own; (first | (solve | repeat (first | with_reducible exact List.mem_cons_self | (with_reducible (apply List.mem_append_left; exact List.mem_cons_self)) | with_reducible apply List.mem_cons_of_mem | with_reducible apply List.mem_append_right)) | (repeat (first | exact List.Mem.head _ | apply List.Mem.tail | apply List.mem_append_right))); exact rfl; exact rfl) | (apply st_own; (first | (solve | repeat (first | with_reducible exact Up.head | with_reducible apply Up.tail | with_reducible apply Up.app)) | (repeat (first | exact Up.head | apply Up.tail | apply Up.app))); (solve | ((try (conv => arg 2; whnf)); repeat' (first | exact Lis.nil | apply Lis.cons | apply SetAt.here | apply SetAt.there | apply PutAt.done | apply PutAt.put | apply PutAt.skip))); exact rfl) | (apply stN_own; (first | (solve | repeat (first | with_reducible exact Up.head | with_reducible apply Up.tail | with_reducible apply Up.app)) | (repeat (first | exact Up.head | apply Up.tail | apply Up.app))); (solve | ((try (conv => arg 2; whnf)); repeat' (first | exact Lis.nil | apply Lis.cons | apply SetAt.here | apply SetAt.there | apply PutAt.done | apply PutAt.put | apply PutAt.skip))); exact rfl) | (refine new_i (fun bk hbk => ?_)) | (refine when_dt (fun hc => ?_) (fun hc => ?_)) | (refine when_df (fun hc => ?_) (fun hc => ?_)) | (refine when_ndt (fun hc => ?_) (fun hc => ?_)) | (refine when_ndf (fun hc => ?_) (fun hc => ?_)) | (refine br_d (fun hc => ?_) (fun hc => ?_)) | (refine br_nd (fun hc => ?_) (fun hc => ?_)) | (refine shl0 ?_ ?_; omega) | (refine shl1 ?_ ?_; omega) | (refine shl2 ?_ ?_; omega) | (refine shl3 ?_ ?_; omega) | (refine mm_min ?_) | (refine mm_max ?_) | (refine quo_i ?_ ?_; omega) | (refine rem_i ?_ ?_; omega) | (refine stN_and rfl ?_) | (refine SelN.mk ?_) | (refine cut_n ?_) | (refine Both.mk ?_ ?_) | (exact True.intro) | (exact Ent.refl) | (refine Ent.cons ?_) | (refine And.intro rfl ?_) | (fail))
    all_goals first | exact ⟨rfl, by (repeat (first | exact Ent.refl | exact Ent.left | refine Ent.cons ?_ | refine Ent.app ?_))⟩ | (exfalso; omega)
  · rw [if_neg hop]
    have hw : op = 0 ∨ op = 1 ∨ op = 2 ∨ op = 3 ∨ op = 4 ∨ op = 5 ∨ op = 6 ∨ op = 7 ∨ op = 8 ∨ op = 9 ∨ op = 10 ∨ op = 11 ∨ op = 12 ∨ op = 13 ∨ op = 14 ∨ op = 15 ∨ op = 16 ∨ op = 17 := by omega
    cases I <;> rcases hw with rfl | rfl | rfl | rfl | rfl | rfl | rfl | rfl | rfl | rfl | rfl | rfl | rfl | rfl | rfl | rfl | rfl | rfl
    all_goals
      repeat' ((try (conv => whnf)); first | (refine when_y ?_) | (refine when_ft ?_) | (refine when_tf ?_) | (refine br_t ?_) | (refine br_f ?_) | (refine br_py (by omega) ?_) | (refine br_pn (by omega) ?_) | (refine when_py (by omega) ?_) | (refine when_pn (by omega) ?_) | (refine br_npy (by omega) ?_) | (refine br_npn (by omega) ?_) | (refine when_npy (by omega) ?_) | (refine when_npn (by omega) ?_) | (refine loop_r 4 ?_) | (refine ld_laid hF _ rfl ?_) | (refine ssc_k 0 1 _ rfl rfl rfl rfl ex_abc0 ?_) | (refine ssc_k 1 2 _ rfl rfl rfl rfl ex_abc1 ?_) | (refine ssc_k 2 3 _ rfl rfl rfl rfl ex_abc2 ?_) | (refine q_cont true rfl ?_) | (refine q_cont false rfl ?_) | (apply call_p (hn _)) | (apply call_q (fun _ => hn _)) | (refine when_y ?_) | (refine when_ft ?_) | (refine when_tf ?_) | (refine br_t ?_) | (refine br_f ?_) | (refine ari ?_ ?_; omega) | (refine aru ?_ ?_; omega) | (apply sel; exact rfl) | (refine ix0 rfl ?_) | (refine ix1 rfl ?_) | (refine ix2 rfl ?_) | (refine ix3 rfl ?_) | (refine ix4 rfl ?_) | (apply ixj; omega) | (refine ixn ?_ ?_; omega) | (refine ixs0 rfl ?_) | (refine ixs1 rfl ?_) | (refine ixs2 rfl ?_) | (refine ixs_j ?_ ?_; omega) | (refine ixs_n ?_ ?_; omega) | (apply ld_own; (first | (solve | repeat (first | with_reducible exact List.mem_cons_self | (with_reducible (apply List.mem_append_left; exact List.mem_cons_self)) | with_reducible apply List.mem_cons_of_mem | with_reducible apply List.mem_append_right)) | (repeat (first | exact List.Mem.head _ | apply List.Mem.tail | apply List.mem_append_right))); exact rfl) | (apply ldN_all; (first | (solve | repeat (first | with_reducible exact List.mem_cons_self | (with_reducible (apply List.mem_append_left; exact List.mem_cons_self)) | with_reducible apply List.mem_cons_of_mem | with_reducible apply List.mem_append_right)) | (repeat (first | exact List.Mem.head _ | apply List.Mem.tail | apply List.mem_append_right))); exact rfl) | (apply ldN_own; (first | (solve | repeat (first | with_reducible exact List.mem_cons_self | (with_reducible (apply List.mem_append_left; exact List.mem_cons_self)) | with_reducible apply List.mem_cons_of_mem | with_reducible apply List.mem_append_right)) | (repeat (first | exact List.Mem.head _ | apply List.Mem.tail | apply List.mem_append_right))); exact rfl; exact rfl) | (apply st_own; (first | (solve | repeat (first | with_reducible exact Up.head | with_reducible apply Up.tail | with_reducible apply Up.app)) | (repeat (first | exact Up.head | apply Up.tail | apply Up.app))); (solve | ((try (conv => arg 2; whnf)); repeat' (first | exact Lis.nil | apply Lis.cons | apply SetAt.here | apply SetAt.there | apply PutAt.done | apply PutAt.put | apply PutAt.skip))); exact rfl) | (apply stN_own; (first | (solve | repeat (first | with_reducible exact Up.head | with_reducible apply Up.tail | with_reducible apply Up.app)) | (repeat (first | exact Up.head | apply Up.tail | apply Up.app))); (solve | ((try (conv => arg 2; whnf)); repeat' (first | exact Lis.nil | apply Lis.cons | apply SetAt.here | apply SetAt.there | apply PutAt.done | apply PutAt.put | apply PutAt.skip))); exact rfl) | (refine new_i (fun bk hbk => ?_)) | (refine when_dt (fun hc => ?_) (fun hc => ?_)) | (refine when_df (fun hc => ?_) (fun hc => ?_)) | (refine when_ndt (fun hc => ?_) (fun hc => ?_)) | (refine when_ndf (fun hc => ?_) (fun hc => ?_)) | (refine br_d (fun hc => ?_) (fun hc => ?_)) | (refine br_nd (fun hc => ?_) (fun hc => ?_)) | (refine shl0 ?_ ?_; omega) | (refine shl1 ?_ ?_; omega) | (refine shl2 ?_ ?_; omega) | (refine shl3 ?_ ?_; omega) | (refine mm_min ?_) | (refine mm_max ?_) | (refine quo_i ?_ ?_; omega) | (refine rem_i ?_ ?_; omega) | (refine stN_and rfl ?_) | (refine SelN.mk ?_) | (refine cut_n ?_) | (refine Both.mk ?_ ?_) | (exact True.intro) | (exact Ent.refl) | (refine Ent.cons ?_) | (fail))
      all_goals (refine ⟨ret1 (vi ?_), by (repeat (first | exact Ent.refl | exact Ent.left | refine Ent.cons ?_ | refine Ent.app ?_))⟩; simp [regOk, useA, useB, useC]; try omega)
end Go.Proofs.YtiimndcifcoofaaGreatDoor
