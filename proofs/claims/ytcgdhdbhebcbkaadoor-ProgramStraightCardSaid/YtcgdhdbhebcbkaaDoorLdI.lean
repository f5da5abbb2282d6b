/- The maker of instructions. No condition. -/
import Derived.Test.YtcgdhdbhebcbkaaDoorLdE
namespace Go.Proofs.YtcgdhdbhebcbkaaDoor
open Go
set_option maxRecDepth 10000
set_option maxHeartbeats 4000000

/-- A load from a table that lies in a block: all its places are gone through. -/
inductive AllV (K : Value → Prop) : List Value → Prop
  | nil : AllV K []
  | cons {x : Value} {l : List Value} (h : K x) (hl : AllV K l) : AllV K (x :: l)
theorem AllV.mem {K : Value → Prop} {l : List Value} (h : AllV K l) : ∀ v ∈ l, K v := by
  induction h with
  | nil => intro v hv; cases hv
  | cons h _ ih =>
    intro v hv
    rcases List.mem_cons.1 hv with rfl | hv
    · exact h
    · exact ih v hv
theorem ld_tab {W0 : World} {own : Own} {b off : Nat} {cs : Array Value} {T : TypeId} {fz : Nat × Nat} {K : Value → Prop} (hm : (b, fun o => o = Obj.cells cs T fz) ∈ own) (ho : off < cs.toList.length) (h : AllV K cs.toList) :
    Ld W0 own ⟨b, off, none⟩ K := ld_own cs.toList[off] hm (List.getElem?_eq_getElem ho) (h.mem _ (List.getElem_mem ho))

/-- What is known of a made instruction. -/
def insP (op : Int) (x : Ins) : Prop := x.op = op ∧ icheck x = 0 ∧ (op = 4 ∨ op = 5 ∨ op = 6 → x.imm = 0)
theorem regs_ok {op a b c imm : Int} (h : 0 ≤ op ∧ op < 18) (ha : regOk (useA op) a) (hb : regOk (useB op) b) (hc : regOk (useC op) c) (hi : immOk op imm) : icheck ⟨op, a, b, c, imm⟩ = 0 := by
  unfold icheck
  rw [if_neg (by simp only; omega), if_pos ⟨ha, hb, hc⟩, if_pos hi]
theorem rest_ok {op : Int} (h : op = 0 ∨ op = 4 ∨ op = 5 ∨ op = 6 ∨ op = 8 ∨ op = 9 ∨ op = 16) : icheck ⟨op, 0, 0, 0, 0⟩ = 0 := by
  rcases h with rfl | rfl | rfl | rfl | rfl | rfl | rfl <;> rfl
theorem sp_ins (W0 : World) (own : Own) (op n : Int) (h : 0 ≤ op ∧ op < 18) (hn : 0 ≤ n ∧ n ≤ 18446744073709551615) :
    Spec Tryd.prog W0 23 [.int .i64 op, .int .u64 n] own fun v own' => ∃ x : Ins, v = x.v ∧ insP op x ∧ Ent W0 own' own := by
  refine spec_of mixed low_make_instruction (by simp [ir_make_instruction]) ?_
  repeat' ((try (conv => whnf)); first | (refine when_y ?_) | (refine when_ft ?_) | (refine when_tf ?_) | (refine br_t ?_) | (refine br_f ?_) | (refine br_py (by omega) ?_) | (refine br_pn (by omega) ?_) | (refine when_py (by omega) ?_) | (refine when_pn (by omega) ?_) | (refine br_npy (by omega) ?_) | (refine br_npn (by omega) ?_) | (refine when_npy (by omega) ?_) | (refine when_npn (by omega) ?_) | (refine quo_u ?_ ?_; omega) | (refine stN_and' rfl ?_) | (apply ld_tab; (repeat (first | exact List.Mem.head _ | apply List.Mem.tail | apply List.mem_append_right)); (simp; omega)) | (exact AllV.nil) | (refine AllV.cons ?_ ?_) | (refine when_y ?_) | (refine when_ft ?_) | (refine when_tf ?_) | (refine br_t ?_) | (refine br_f ?_) | (refine ari ?_ ?_; omega) | (refine aru ?_ ?_; omega) | (apply sel; exact rfl) | (refine ix0 rfl ?_) | (refine ix1 rfl ?_) | (refine ix2 rfl ?_) | (refine ix3 rfl ?_) | (refine ix4 rfl ?_) | (apply ixj; omega) | (refine ixn ?_ ?_; omega) | (refine ixs0 rfl ?_) | (refine ixs1 rfl ?_) | (refine ixs2 rfl ?_) | (refine ixs_j ?_ ?_; omega) | (refine ixs_n ?_ ?_; omega) | (apply ld_own; (repeat (first | exact List.Mem.head _ | apply List.Mem.tail | apply List.mem_append_right)); exact rfl) | (apply ldN_all; (repeat (first | exact List.Mem.head _ | apply List.Mem.tail | apply List.mem_append_right)); exact rfl) | (apply ldN_own; (repeat (first | exact List.Mem.head _ | apply List.Mem.tail | apply List.mem_append_right)); exact rfl; exact rfl) | (apply st_own; (repeat (first | exact Up.head | apply Up.tail | apply Up.app)); (solve | ((try (conv => arg 2; whnf)); repeat' (first | exact Lis.nil | apply Lis.cons | apply SetAt.here | apply SetAt.there | apply PutAt.done | apply PutAt.put | apply PutAt.skip))); exact rfl) | (apply stN_own; (repeat (first | exact Up.head | apply Up.tail | apply Up.app)); (solve | ((try (conv => arg 2; whnf)); repeat' (first | exact Lis.nil | apply Lis.cons | apply SetAt.here | apply SetAt.there | apply PutAt.done | apply PutAt.put | apply PutAt.skip))); exact rfl) | (refine new_i (fun bk hbk => ?_)) | (refine when_dt (fun hc => ?_) (fun hc => ?_)) | (refine when_df (fun hc => ?_) (fun hc => ?_)) | (refine when_ndt (fun hc => ?_) (fun hc => ?_)) | (refine when_ndf (fun hc => ?_) (fun hc => ?_)) | (refine br_d (fun hc => ?_) (fun hc => ?_)) | (refine br_nd (fun hc => ?_) (fun hc => ?_)) | (refine shl0 ?_ ?_; omega) | (refine shl1 ?_ ?_; omega) | (refine shl2 ?_ ?_; omega) | (refine shl3 ?_ ?_; omega) | (refine mm_min ?_) | (refine mm_max ?_) | (refine quo_i ?_ ?_; omega) | (refine rem_i ?_ ?_; omega) | (refine stN_and rfl ?_) | (refine SelN.mk ?_) | (refine cut_n ?_) | (refine Both.mk ?_ ?_) | (exact True.intro) | (exact Ent.refl) | (refine Ent.cons ?_) | (fail))
  all_goals refine ⟨⟨_, _, _, _, _⟩, rfl, ?_, by (repeat (first | exact Ent.refl | exact Ent.left | refine Ent.cons ?_ | refine Ent.app ?_))⟩
  all_goals (try subst op)
  all_goals refine ⟨rfl, ?_, fun h => ?_⟩
  all_goals first
    | rfl
    | (exfalso; omega)
    | (refine regs_ok h ?_ ?_ ?_ ?_ <;> simp [regOk, useA, useB, useC, immOk] <;> omega)
    | exact rest_ok (by omega)
end Go.Proofs.YtcgdhdbhebcbkaaDoor
