/- isa: the names and operands of the operations. No condition. -/
import Derived.Test.YtiimndcifcoofaaGreatDoorIsB
import Derived.Test.YtiimndcifcoofaaGreatDoorIsC
import Derived.Test.YtiimndcifcoofaaGreatDoorIcC
namespace Go.Proofs.YtiimndcifcoofaaGreatDoor
open Go Go.RowKit
set_option maxRecDepth 10000
set_option maxHeartbeats 4000000
def nm18 : List ByteArray := [⟨#[110, 111, 112]⟩, ⟨#[99, 111, 110, 115, 116]⟩, ⟨#[109, 111, 118, 101]⟩, ⟨#[]⟩, ⟨#[106, 117, 109, 112]⟩, ⟨#[122, 101, 114, 111]⟩, ⟨#[110, 111, 110, 122, 101, 114, 111]⟩, ⟨#[98, 101, 103, 105, 110]⟩, ⟨#[99, 111, 109, 109, 105, 116]⟩, ⟨#[97, 98, 111, 114, 116]⟩, ⟨#[116, 114, 101, 97, 100]⟩, ⟨#[116, 119, 114, 105, 116, 101]⟩, ⟨#[112, 114, 101, 97, 100]⟩, ⟨#[112, 119, 114, 105, 116, 101]⟩, ⟨#[97, 108, 108, 111, 99]⟩, ⟨#[102, 114, 101, 101]⟩, ⟨#[102, 101, 110, 99, 101]⟩, ⟨#[111, 117, 116, 99, 111, 109, 101]⟩]
def op18 : List ByteArray := [⟨#[]⟩, ⟨#[65, 73]⟩, ⟨#[65, 66]⟩, ⟨#[65, 66, 67]⟩, ⟨#[73]⟩, ⟨#[65, 73]⟩, ⟨#[65, 73]⟩, ⟨#[73]⟩, ⟨#[]⟩, ⟨#[]⟩, ⟨#[65, 66, 73]⟩, ⟨#[65, 66, 73]⟩, ⟨#[65, 66, 73]⟩, ⟨#[65, 66, 73]⟩, ⟨#[65, 73]⟩, ⟨#[65]⟩, ⟨#[]⟩, ⟨#[65]⟩]
def nmAt (k : Nat) : ByteArray := nm18.getD k ⟨#[]⟩
def opAt (k : Nat) : ByteArray := op18.getD k ⟨#[]⟩
theorem cases18 {k : Nat} (h : k < 18) : k = 0 ∨ k = 1 ∨ k = 2 ∨ k = 3 ∨ k = 4 ∨ k = 5 ∨ k = 6 ∨ k = 7 ∨ k = 8 ∨ k = 9 ∨ k = 10 ∨ k = 11 ∨ k = 12 ∨ k = 13 ∨ k = 14 ∨ k = 15 ∨ k = 16 ∨ k = 17 := by omega
theorem forms_at {k : Nat} (h : k < 18) : (formsV.drop (k * 2)).take 2 = [.string (nmAt k), .string (opAt k)] := by
  rcases cases18 h with rfl | rfl | rfl | rfl | rfl | rfl | rfl | rfl | rfl | rfl | rfl | rfl | rfl | rfl | rfl | rfl | rfl | rfl <;> rfl
theorem forms_nm {k : Nat} (h : k < 18) : formsV[k * 2]? = some (.string (nmAt k)) := by
  rcases cases18 h with rfl | rfl | rfl | rfl | rfl | rfl | rfl | rfl | rfl | rfl | rfl | rfl | rfl | rfl | rfl | rfl | rfl | rfl <;> rfl
theorem forms_op {k : Nat} (h : k < 18) : formsV[k * 2 + 1]? = some (.string (opAt k)) := by
  rcases cases18 h with rfl | rfl | rfl | rfl | rfl | rfl | rfl | rfl | rfl | rfl | rfl | rfl | rfl | rfl | rfl | rfl | rfl | rfl <;> rfl
/-- The operation that a word names (not an arithmetic one), or -1: the first, and the last. -/
def opG (s : ByteArray) : Nat → Nat → Int
  | 0, _ => -1
  | n + 1, k => if (nmAt k).toList = s.toList ∧ k ≠ 3 then k else opG s n (k + 1)
def opM (s : ByteArray) : Int := opG s 18 0
def opL (s : ByteArray) : Nat → Int
  | 0 => -1
  | k + 1 => if (nmAt k).toList = s.toList ∧ k ≠ 3 then k else opL s k
theorem nm_inj : ∀ i, i < 18 → ∀ j, j < 18 → (nmAt i).toList = (nmAt j).toList → i = j := by decide +kernel
theorem nm_alu : ∀ i, i < 18 → ∀ j, j < 22 → i ≠ 3 → (nameAt j).toList ≠ (nmAt i).toList := by decide +kernel
theorem opG_none {s : ByteArray} : ∀ n k, (∀ j, k ≤ j → j < k + n → ¬ ((nmAt j).toList = s.toList ∧ j ≠ 3)) → opG s n k = -1
  | 0, _, _ => rfl
  | n + 1, k, h => by
    rw [opG, if_neg (h k (Nat.le_refl _) (by omega))]
    exact opG_none n (k + 1) fun j h1 h2 => h j (by omega) (by omega)
theorem opG_some {s : ByteArray} {i : Nat} (hi : i < 18) (hs : (nmAt i).toList = s.toList) (h3 : i ≠ 3) : ∀ n k, k ≤ i → i < k + n → k + n ≤ 18 → opG s n k = i
  | 0, k, h1, h2, _ => by omega
  | n + 1, k, h1, h2, h18 => by
    rw [opG]
    by_cases hk : (nmAt k).toList = s.toList ∧ k ≠ 3
    · rw [if_pos hk]
      have := nm_inj k (by omega) i hi (hk.1.trans hs.symm)
      rw [this]
    · rw [if_neg hk]
      have : k ≠ i := fun e => hk (by subst e; exact ⟨hs, h3⟩)
      exact opG_some hi hs h3 n (k + 1) (by omega) (by omega) (by omega)
theorem opL_none {s : ByteArray} : ∀ k, (∀ j, j < k → ¬ ((nmAt j).toList = s.toList ∧ j ≠ 3)) → opL s k = -1
  | 0, _ => rfl
  | k + 1, h => by
    rw [opL, if_neg (h k (by omega))]
    exact opL_none k fun j hj => h j (by omega)
theorem opL_some {s : ByteArray} {i : Nat} (hi : i < 18) (hs : (nmAt i).toList = s.toList) (h3 : i ≠ 3) : ∀ k, i < k → k ≤ 18 → opL s k = i
  | k + 1, h1, h2 => by
    rw [opL]
    by_cases hk : (nmAt k).toList = s.toList ∧ k ≠ 3
    · rw [if_pos hk]
      have := nm_inj k (by omega) i hi (hk.1.trans hs.symm)
      rw [this]
    · rw [if_neg hk]
      have : k ≠ i := fun e => hk (by subst e; exact ⟨hs, h3⟩)
      exact opL_some hi hs h3 k (by omega) (by omega)
theorem num_none {s : ByteArray} : ∀ n k, (∀ j, k ≤ j → j < k + n → (nameAt j).toList ≠ s.toList) → numG s n k = (0, false)
  | 0, _, _ => rfl
  | n + 1, k, h => by
    rw [numG, if_neg (h k (Nat.le_refl _) (by omega))]
    exact num_none n (k + 1) fun j h1 h2 => h j (by omega) (by omega)
/-- What both sides find: an operation, or none; a name of an operation is no name of a function. -/
theorem op_cases (s : ByteArray) : (opM s = -1 ∧ opL s 18 = -1) ∨ (∃ i : Nat, i < 18 ∧ i ≠ 3 ∧ opM s = i ∧ opL s 18 = i ∧ (numM s).2 = false) := by
  by_cases h : ∃ i, i < 18 ∧ (nmAt i).toList = s.toList ∧ i ≠ 3
  · obtain ⟨i, hi, hs, h3⟩ := h
    refine .inr ⟨i, hi, h3, opG_some hi hs h3 18 0 (by omega) (by omega) (by omega), opL_some hi hs h3 18 hi (by omega), ?_⟩
    have : numM s = (0, false) := num_none 22 0 fun j _ hj e => nm_alu i hi j (by omega) h3 (e.trans hs.symm)
    rw [this]
  · exact .inl ⟨opG_none 18 0 fun j _ hj hh => h ⟨j, by omega, hh⟩, opL_none 18 fun j hj hh => h ⟨j, hj, hh⟩⟩
section
variable {W0 : World} {own : Own}
theorem sp_rnm (op : Int) (h : 0 ≤ op ∧ op < 18) : Pure Tryz.prog W0 39 [.int .i64 op] own (.string (nmAt op.toNat)) := by
  refine pure_of (spec_of mixed low_ref03_name (by simp [ir_ref03_name]) ?_)
  have hl : nm18.length = 18 := rfl
  have hk : (nm18.map Value.string)[0 + op.toNat * 1]? = some (.string (nmAt op.toNat)) := by
    have e : 0 + op.toNat * 1 = op.toNat := by omega
    rw [e]
    have : op.toNat < 18 := by omega
    simp [nmAt, hl, this]
  repeat' ((try (conv => whnf)); first | (refine when_y ?_) | (refine when_ft ?_) | (refine when_tf ?_) | (refine br_t ?_) | (refine br_f ?_) | (refine br_py (by omega) ?_) | (refine br_pn (by omega) ?_) | (refine when_py (by omega) ?_) | (refine when_pn (by omega) ?_) | (refine br_npy (by omega) ?_) | (refine br_npn (by omega) ?_) | (refine when_npy (by omega) ?_) | (refine when_npn (by omega) ?_) | (refine ld_own _ (List.Mem.head _) hk ?_) | (refine when_y ?_) | (refine when_ft ?_) | (refine when_tf ?_) | (refine br_t ?_) | (refine br_f ?_) | (refine ari ?_ ?_; omega) | (refine aru ?_ ?_; omega) | (apply sel; exact rfl) | (refine ix0 rfl ?_) | (refine ix1 rfl ?_) | (refine ix2 rfl ?_) | (refine ix3 rfl ?_) | (refine ix4 rfl ?_) | (apply ixj; omega) | (refine ixn ?_ ?_; omega) | (refine ixs0 rfl ?_) | (refine ixs1 rfl ?_) | (refine ixs2 rfl ?_) | (refine ixs_j ?_ ?_; omega) | (refine ixs_n ?_ ?_; omega) | (apply ld_own; (first | (solve | repeat (first | with_reducible exact List.mem_cons_self | (with_reducible (apply List.mem_append_left; exact List.mem_cons_self)) | with_reducible apply List.mem_cons_of_mem | with_reducible apply List.mem_append_right)) | (repeat (first | exact List.Mem.head _ | apply List.Mem.tail | apply List.mem_append_right))); exact rfl) | (apply ldN_all; (first | (solve | repeat (first | with_reducible exact List.mem_cons_self | (with_reducible (apply List.mem_append_left; exact List.mem_cons_self)) | with_reducible apply List.mem_cons_of_mem | with_reducible apply List.mem_append_right)) | (repeat (first | exact List.Mem.head _ | apply List.Mem.tail | apply List.mem_append_right))); exact rfl) | (apply ldN_own; (first | (solve | repeat (first | with_reducible exact List.mem_cons_self | (with_reducible (apply List.mem_append_left; exact List.mem_cons_self)) | with_reducible apply List.mem_cons_of_mem | with_reducible apply List.mem_append_right)) | (repeat (first | exact List.Mem.head _ | apply List.Mem.tail | apply List.mem_append_right))); exact rfl; exact rfl) | (apply st_own; (first | (solve | repeat (first | with_reducible exact Up.head | with_reducible apply Up.tail | with_reducible apply Up.app)) | (repeat (first | exact Up.head | apply Up.tail | apply Up.app))); (solve | ((try (conv => arg 2; whnf)); repeat' (first | exact Lis.nil | apply Lis.cons | apply SetAt.here | apply SetAt.there | apply PutAt.done | apply PutAt.put | apply PutAt.skip))); exact rfl) | (apply stN_own; (first | (solve | repeat (first | with_reducible exact Up.head | with_reducible apply Up.tail | with_reducible apply Up.app)) | (repeat (first | exact Up.head | apply Up.tail | apply Up.app))); (solve | ((try (conv => arg 2; whnf)); repeat' (first | exact Lis.nil | apply Lis.cons | apply SetAt.here | apply SetAt.there | apply PutAt.done | apply PutAt.put | apply PutAt.skip))); exact rfl) | (refine new_i (fun bk hbk => ?_)) | (refine when_dt (fun hc => ?_) (fun hc => ?_)) | (refine when_df (fun hc => ?_) (fun hc => ?_)) | (refine when_ndt (fun hc => ?_) (fun hc => ?_)) | (refine when_ndf (fun hc => ?_) (fun hc => ?_)) | (refine br_d (fun hc => ?_) (fun hc => ?_)) | (refine br_nd (fun hc => ?_) (fun hc => ?_)) | (refine shl0 ?_ ?_; omega) | (refine shl1 ?_ ?_; omega) | (refine shl2 ?_ ?_; omega) | (refine shl3 ?_ ?_; omega) | (refine mm_min ?_) | (refine mm_max ?_) | (refine quo_i ?_ ?_; omega) | (refine rem_i ?_ ?_; omega) | (refine stN_and rfl ?_) | (refine SelN.mk ?_) | (refine cut_n ?_) | (refine Both.mk ?_ ?_) | (exact True.intro) | (exact Ent.refl) | (refine Ent.cons ?_) | (fail))
  all_goals exact ⟨rfl, by (repeat (first | exact Ent.refl | exact Ent.left | refine Ent.cons ?_ | refine Ent.app ?_))⟩
end
end Go.Proofs.YtiimndcifcoofaaGreatDoor
