/- Programs: Commit, Longest and Needs, as contracts. No condition. -/
import Derived.Test.YtcgdhdbhebcbkaaDoorLfP
namespace Go.Proofs.YtcgdhdbhebcbkaaDoor
open Go
set_option maxRecDepth 10000
set_option maxHeartbeats 4000000

abbrev encJ (n : Int) : List Value := [.int .i64 n]
/- A slice that fills its block. -/
section
variable {α : Type} {enc : α → List Value} {sz : Nat} {W0 : World} {own : Own} {l : List α}
abbrev canD (enc : α → List Value) (T : TypeId) (b : Nat) (l : List α) : Own := [(b, fun o => o = Obj.cells (l.map enc).flatten.toArray T)]
theorem can_buf {T : TypeId} {b : Nat} (hw : ∀ x ∈ l, (enc x).length = sz) : BufE enc T sz (some ⟨b, 0, none⟩) l.length l (canD enc T b l) :=
  ⟨hw, .inr ⟨b, [], rfl, by simp [canD], by simp, Nat.le_refl _⟩⟩
theorem can_eq {T : TypeId} {b : Nat} {D : Own} (hne : l ≠ []) (h : BufE enc T sz (some ⟨b, 0, none⟩) l.length l D) : D = canD enc T b l := by
  rcases h.how with ⟨rfl, _, _⟩ | ⟨b', rest, hb, rfl, hl, _⟩
  · exact absurd rfl hne
  · simp only [Option.some.injEq, Addr.mk.injEq] at hb
    obtain ⟨rfl, _⟩ := hb
    have : rest = [] := List.eq_nil_of_length_eq_zero (by omega)
    subst this
    simp [canD]
theorem mkC {T : TypeId} {bytes : Nat} {zs : List Value} {n c : Int} {K : Value → Own → Prop} (m : Nat) (x0 : α) (hn : n = m) (hc : c = m) (hz : enc x0 = zs) (h0 : m * bytes ≤ 281474976710656)
    (hk : ∀ b, K (.slice (some ⟨b, 0, none⟩) m m) (canD enc T b (List.replicate m x0) ++ own)) : MkT W0 own T bytes zs n c K := by
  subst hn; subst hc
  refine ⟨m, m, rfl, rfl, Nat.le_refl _, h0, fun b _ => ?_⟩
  have := hk b
  simp only [canD, List.map_replicate, hz] at this
  exact this
/-- One cell of an element of such a slice is written. -/
theorem stC {T : TypeId} {b j k o : Nat} {C : Own → Own} {x : α} {v : Value} {K : Own → Prop} (x' : α) (hw : ∀ x ∈ l, (enc x).length = sz) (hat : At (canD enc T b l) own C) (hx : l[j]? = some x) (ho : o = j * sz + k) (hk0 : k < sz) (hv : enc x' = (enc x).set k v) (h1 : oneC v = true)
    (hk : K (C (canD enc T b (l.set j x')))) : StT W0 own ⟨b, o, none⟩ v K :=
  stE (a := some ⟨b, 0, none⟩) x' (can_buf hw) hat hx (by simp [ao, ho]) hk0 hv h1 (fun D' hb => by
    have hne : l.set j x' ≠ [] := fun e => by
      have := congrArg List.length e
      rw [List.length_set] at this
      have := List.eq_nil_of_length_eq_zero this
      subst this
      simp at hx
    have := can_eq hne (by rw [List.length_set]; exact hb)
    subst this
    exact hk)
theorem ixC {b n j : Nat} {i : Int} {x : α} {K : Addr → Prop} (hx : l[j]? = some x) (hn : n = l.length) (hi : i = j) (hk : K ⟨b, j * sz, none⟩) : IxS (some ⟨b, 0, none⟩) sz i n K := by
  subst hn; subst hi
  exact ixs_j (List.getElem?_eq_some_iff.1 hx).1 (by rw [Nat.zero_add]; exact hk)
theorem ldC {T : TypeId} {b j k o : Nat} {x : α} {v : Value} {K : Value → Prop} (hw : ∀ x ∈ l, (enc x).length = sz) (hx : l[j]? = some x) (ho : o = j * sz + k) (hv : (enc x)[k]? = some v) (hm : (b, fun o => o = Obj.cells (l.map enc).flatten.toArray T) ∈ own) (hk : K v) :
    Ld W0 own ⟨b, o, none⟩ K := by
  subst ho
  exact ld_own v hm (by rw [List.toList_toArray]; exact flat_get l hw hx hv) hk
theorem ldC0 {T : TypeId} {b j o : Nat} {x : α} {v : Value} {K : Value → Prop} (hw : ∀ x ∈ l, (enc x).length = sz) (hx : l[j]? = some x) (ho : o = j * sz) (hv : (enc x)[0]? = some v) (hm : (b, fun o => o = Obj.cells (l.map enc).flatten.toArray T) ∈ own) (hk : K v) : Ld W0 own ⟨b, o, none⟩ K :=
  ldC (k := 0) hw hx ho hv hm hk
theorem ldC1 {T : TypeId} {b j k o : Nat} {x : α} {v : Value} {K : Value → Prop} (hw : ∀ x ∈ l, (enc x).length = sz) (hx : l[j]? = some x) (ho : o = j * sz + k * 1) (hv : (enc x)[k]? = some v) (hm : (b, fun o => o = Obj.cells (l.map enc).flatten.toArray T) ∈ own) (hk : K v) : Ld W0 own ⟨b, o, none⟩ K :=
  ldC (k := k) hw hx (by rw [ho, Nat.mul_one]) hv hm hk
theorem ldNC {T : TypeId} {b j o n : Nat} {x : α} {K : Array Value → Prop} (hw : ∀ x ∈ l, (enc x).length = sz) (hx : l[j]? = some x) (ho : o = j * sz) (hn : n = sz) (hm : (b, fun o => o = Obj.cells (l.map enc).flatten.toArray T) ∈ own) (hk : K (enc x).toArray) :
    LdN W0 own ⟨b, o, none⟩ n K := by
  have hr : RdE enc sz W0 own (some ⟨b, 0, none⟩) l := rd_blk hm hw (by rw [List.toList_toArray])
  have := ldNE (o := 0 + j * sz) (n := n) hr hx rfl hn hk
  rw [Nat.zero_add] at this
  subst ho
  exact this
theorem can_rd {T : TypeId} {b : Nat} (hw : ∀ x ∈ l, (enc x).length = sz) : RdE enc sz W0 (canD enc T b l) (some ⟨b, 0, none⟩) l := (can_buf hw).rd
end

theorem checkP_zero {p : List Ins} : (checkP p).2 = 0 ↔ checkP p = (0, 0) := by
  refine ⟨fun h => ?_, fun h => by rw [h]⟩
  have key : ∀ (tgt : Nat → Int → Ins → Int) (l : List Ins) (k : Nat) (b : Int), (checkG tgt l k b).2 = 0 → checkG tgt l k b = (0, 0) := fun tgt l => by
    induction l with
    | nil =>
      intro k b
      simp only [checkG]
      split
      · intro h; simp at h
      · intro _; rfl
    | cons x l ih =>
      intro k b
      simp only [checkG]
      split
      · rename_i h0; intro h; exact absurd h h0
      · exact ih _ _
  unfold checkP at *
  split at h
  · simp at h
  · rename_i h64
    rw [if_neg h64]
    exact key _ _ _ _ h

section
variable {W0 : World} {own : Own} {a : Option Addr} {cap : Nat} {p : List Ins}
theorem sp_valid (hF : FormsAt W0) (hR : RdE Ins.enc 5 W0 own a p) : Pure Tryd.prog W0 26 [.slice a p.length cap] own (.bool (decide ((checkP p).2 = 0))) := by
  refine pure_of (spec_of mixed low_program_valid (by simp [ir_program_valid]) ?_)
  have hc := sp_pcheck (cap := cap) hF hR
  generalize checkP p = r at *
  repeat' ((try (conv => whnf)); first | (refine call_p hc ?_) | (refine when_y ?_) | (refine when_ft ?_) | (refine when_tf ?_) | (refine br_t ?_) | (refine br_f ?_) | (refine ari ?_ ?_; omega) | (refine aru ?_ ?_; omega) | (apply sel; exact rfl) | (refine ix0 rfl ?_) | (refine ix1 rfl ?_) | (refine ix2 rfl ?_) | (refine ix3 rfl ?_) | (refine ix4 rfl ?_) | (apply ixj; omega) | (refine ixn ?_ ?_; omega) | (refine ixs0 rfl ?_) | (refine ixs1 rfl ?_) | (refine ixs2 rfl ?_) | (refine ixs_j ?_ ?_; omega) | (refine ixs_n ?_ ?_; omega) | (apply ld_own; (first | (solve | repeat (first | with_reducible exact List.mem_cons_self | (with_reducible (apply List.mem_append_left; exact List.mem_cons_self)) | with_reducible apply List.mem_cons_of_mem | with_reducible apply List.mem_append_right)) | (repeat (first | exact List.Mem.head _ | apply List.Mem.tail | apply List.mem_append_right))); exact rfl) | (apply ldN_all; (first | (solve | repeat (first | with_reducible exact List.mem_cons_self | (with_reducible (apply List.mem_append_left; exact List.mem_cons_self)) | with_reducible apply List.mem_cons_of_mem | with_reducible apply List.mem_append_right)) | (repeat (first | exact List.Mem.head _ | apply List.Mem.tail | apply List.mem_append_right))); exact rfl) | (apply ldN_own; (first | (solve | repeat (first | with_reducible exact List.mem_cons_self | (with_reducible (apply List.mem_append_left; exact List.mem_cons_self)) | with_reducible apply List.mem_cons_of_mem | with_reducible apply List.mem_append_right)) | (repeat (first | exact List.Mem.head _ | apply List.Mem.tail | apply List.mem_append_right))); exact rfl; exact rfl) | (apply st_own; (first | (solve | repeat (first | with_reducible exact Up.head | with_reducible apply Up.tail | with_reducible apply Up.app)) | (repeat (first | exact Up.head | apply Up.tail | apply Up.app))); (solve | ((try (conv => arg 2; whnf)); repeat' (first | exact Lis.nil | apply Lis.cons | apply SetAt.here | apply SetAt.there | apply PutAt.done | apply PutAt.put | apply PutAt.skip))); exact rfl) | (apply stN_own; (first | (solve | repeat (first | with_reducible exact Up.head | with_reducible apply Up.tail | with_reducible apply Up.app)) | (repeat (first | exact Up.head | apply Up.tail | apply Up.app))); (solve | ((try (conv => arg 2; whnf)); repeat' (first | exact Lis.nil | apply Lis.cons | apply SetAt.here | apply SetAt.there | apply PutAt.done | apply PutAt.put | apply PutAt.skip))); exact rfl) | (refine new_i (fun bk hbk => ?_)) | (refine when_dt (fun hc => ?_) (fun hc => ?_)) | (refine when_df (fun hc => ?_) (fun hc => ?_)) | (refine when_ndt (fun hc => ?_) (fun hc => ?_)) | (refine when_ndf (fun hc => ?_) (fun hc => ?_)) | (refine br_d (fun hc => ?_) (fun hc => ?_)) | (refine br_nd (fun hc => ?_) (fun hc => ?_)) | (refine shl0 ?_ ?_; omega) | (refine shl1 ?_ ?_; omega) | (refine shl2 ?_ ?_; omega) | (refine shl3 ?_ ?_; omega) | (refine mm_min ?_) | (refine mm_max ?_) | (refine quo_i ?_ ?_; omega) | (refine rem_i ?_ ?_; omega) | (refine stN_and rfl ?_) | (refine SelN.mk ?_) | (refine cut_n ?_) | (refine Both.mk ?_ ?_) | (exact True.intro) | (exact Ent.refl) | (refine Ent.cons ?_) | (refine And.intro rfl ?_) | (fail))
  all_goals exact ⟨rfl, by (repeat (first | exact Ent.refl | exact Ent.left | refine Ent.cons ?_ | refine Ent.app ?_))⟩
theorem commitM_neg {k : Int} (h : ¬ (0 ≤ k ∧ k < p.length)) : commitM p k = -1 := by
  unfold commitM
  split
  · rename_i hc
    rw [List.getElem?_eq_none (by omega)]
  · rfl
theorem commitM_at {k : Nat} {x : Ins} (hx : p[k]? = some x) : commitM p k = if (checkP p).2 = 0 ∧ x.op = 7 then (endM p k : Int) else -1 := by
  unfold commitM
  rw [Int.toNat_natCast, hx]
  simp only
  (repeat' split) <;> first | rfl | omega
theorem sp_commit (hF : FormsAt W0) (hR : RdE Ins.enc 5 W0 own a p) (hl : p.length ≤ 1099511627776) (k : Int) : Pure Tryd.prog W0 11 [.slice a p.length cap, .int .i64 k] own (.int .i64 (commitM p k)) := by
  refine pure_of (spec_of mixed low_program_Commit (by simp [ir_program_Commit]) ?_)
  have hv := sp_valid (cap := cap) hF hR
  by_cases hk : 0 ≤ k ∧ k < p.length
  · obtain ⟨j, rfl⟩ := Int.eq_ofNat_of_zero_le hk.1
    obtain ⟨x, hx⟩ : ∃ x, p[j]? = some x := ⟨_, List.getElem?_eq_getElem (by omega)⟩
    have he := sp_end (cap := cap) hR hl j (by omega)
    rw [commitM_at hx]
    generalize (checkP p).2 = r at *
    repeat' ((try (conv => whnf)); first | (refine when_y ?_) | (refine when_ft ?_) | (refine when_tf ?_) | (refine br_t ?_) | (refine br_f ?_) | (refine br_py (by omega) ?_) | (refine br_pn (by omega) ?_) | (refine when_py (by omega) ?_) | (refine when_pn (by omega) ?_) | (refine br_npy (by omega) ?_) | (refine br_npn (by omega) ?_) | (refine when_npy (by omega) ?_) | (refine when_npn (by omega) ?_) | (refine call_p hv ?_) | (refine call_p he ?_) | ((with_reducible show Ld _ _ _ _); first | (refine ldE (k := 0) (RdE.ent hR ?_) hx ?_ rfl ?_; rotate_left; rfl; rotate_left; (solve | (repeat (first | exact Ent.refl | exact Ent.left | refine Ent.cons ?_ | refine Ent.app ?_)))) | (refine ldE (k := 1) (RdE.ent hR ?_) hx ?_ rfl ?_; rotate_left; rfl; rotate_left; (solve | (repeat (first | exact Ent.refl | exact Ent.left | refine Ent.cons ?_ | refine Ent.app ?_)))) | (refine ldE (k := 2) (RdE.ent hR ?_) hx ?_ rfl ?_; rotate_left; rfl; rotate_left; (solve | (repeat (first | exact Ent.refl | exact Ent.left | refine Ent.cons ?_ | refine Ent.app ?_)))) | (refine ldE (k := 3) (RdE.ent hR ?_) hx ?_ rfl ?_; rotate_left; rfl; rotate_left; (solve | (repeat (first | exact Ent.refl | exact Ent.left | refine Ent.cons ?_ | refine Ent.app ?_)))) | (refine ldE (k := 4) (RdE.ent hR ?_) hx ?_ rfl ?_; rotate_left; rfl; rotate_left; (solve | (repeat (first | exact Ent.refl | exact Ent.left | refine Ent.cons ?_ | refine Ent.app ?_)))) | (refine ldE (k := 5) (RdE.ent hR ?_) hx ?_ rfl ?_; rotate_left; rfl; rotate_left; (solve | (repeat (first | exact Ent.refl | exact Ent.left | refine Ent.cons ?_ | refine Ent.app ?_))))) | ((with_reducible show IxS _ _ _ _ _); first | (refine ixE hR hx ?_ ?_; (first | rfl | omega))) | ((with_reducible show LdN _ _ _ _ _); first | (refine ldNE (RdE.ent hR ?_) hx ?_ ?_ ?_; rotate_left; rfl; rfl; rotate_left; (solve | (repeat (first | exact Ent.refl | exact Ent.left | refine Ent.cons ?_ | refine Ent.app ?_))))) | (refine when_y ?_) | (refine when_ft ?_) | (refine when_tf ?_) | (refine br_t ?_) | (refine br_f ?_) | (refine ari ?_ ?_; omega) | (refine aru ?_ ?_; omega) | (apply sel; exact rfl) | (refine ix0 rfl ?_) | (refine ix1 rfl ?_) | (refine ix2 rfl ?_) | (refine ix3 rfl ?_) | (refine ix4 rfl ?_) | (apply ixj; omega) | (refine ixn ?_ ?_; omega) | (refine ixs0 rfl ?_) | (refine ixs1 rfl ?_) | (refine ixs2 rfl ?_) | (refine ixs_j ?_ ?_; omega) | (refine ixs_n ?_ ?_; omega) | (apply ld_own; (first | (solve | repeat (first | with_reducible exact List.mem_cons_self | (with_reducible (apply List.mem_append_left; exact List.mem_cons_self)) | with_reducible apply List.mem_cons_of_mem | with_reducible apply List.mem_append_right)) | (repeat (first | exact List.Mem.head _ | apply List.Mem.tail | apply List.mem_append_right))); exact rfl) | (apply ldN_all; (first | (solve | repeat (first | with_reducible exact List.mem_cons_self | (with_reducible (apply List.mem_append_left; exact List.mem_cons_self)) | with_reducible apply List.mem_cons_of_mem | with_reducible apply List.mem_append_right)) | (repeat (first | exact List.Mem.head _ | apply List.Mem.tail | apply List.mem_append_right))); exact rfl) | (apply ldN_own; (first | (solve | repeat (first | with_reducible exact List.mem_cons_self | (with_reducible (apply List.mem_append_left; exact List.mem_cons_self)) | with_reducible apply List.mem_cons_of_mem | with_reducible apply List.mem_append_right)) | (repeat (first | exact List.Mem.head _ | apply List.Mem.tail | apply List.mem_append_right))); exact rfl; exact rfl) | (apply st_own; (first | (solve | repeat (first | with_reducible exact Up.head | with_reducible apply Up.tail | with_reducible apply Up.app)) | (repeat (first | exact Up.head | apply Up.tail | apply Up.app))); (solve | ((try (conv => arg 2; whnf)); repeat' (first | exact Lis.nil | apply Lis.cons | apply SetAt.here | apply SetAt.there | apply PutAt.done | apply PutAt.put | apply PutAt.skip))); exact rfl) | (apply stN_own; (first | (solve | repeat (first | with_reducible exact Up.head | with_reducible apply Up.tail | with_reducible apply Up.app)) | (repeat (first | exact Up.head | apply Up.tail | apply Up.app))); (solve | ((try (conv => arg 2; whnf)); repeat' (first | exact Lis.nil | apply Lis.cons | apply SetAt.here | apply SetAt.there | apply PutAt.done | apply PutAt.put | apply PutAt.skip))); exact rfl) | (refine new_i (fun bk hbk => ?_)) | (refine when_dt (fun hc => ?_) (fun hc => ?_)) | (refine when_df (fun hc => ?_) (fun hc => ?_)) | (refine when_ndt (fun hc => ?_) (fun hc => ?_)) | (refine when_ndf (fun hc => ?_) (fun hc => ?_)) | (refine br_d (fun hc => ?_) (fun hc => ?_)) | (refine br_nd (fun hc => ?_) (fun hc => ?_)) | (refine shl0 ?_ ?_; omega) | (refine shl1 ?_ ?_; omega) | (refine shl2 ?_ ?_; omega) | (refine shl3 ?_ ?_; omega) | (refine mm_min ?_) | (refine mm_max ?_) | (refine quo_i ?_ ?_; omega) | (refine rem_i ?_ ?_; omega) | (refine stN_and rfl ?_) | (refine SelN.mk ?_) | (refine cut_n ?_) | (refine Both.mk ?_ ?_) | (exact True.intro) | (exact Ent.refl) | (refine Ent.cons ?_) | (fail))
    all_goals (refine ⟨ret1 (vi ?_), by (repeat (first | exact Ent.refl | exact Ent.left | refine Ent.cons ?_ | refine Ent.app ?_))⟩; (repeat' split) <;> first | rfl | (exfalso; omega) | omega)
  · rw [commitM_neg hk]
    generalize (checkP p).2 = r at *
    repeat' ((try (conv => whnf)); first | (refine when_y ?_) | (refine when_ft ?_) | (refine when_tf ?_) | (refine br_t ?_) | (refine br_f ?_) | (refine br_py (by omega) ?_) | (refine br_pn (by omega) ?_) | (refine when_py (by omega) ?_) | (refine when_pn (by omega) ?_) | (refine br_npy (by omega) ?_) | (refine br_npn (by omega) ?_) | (refine when_npy (by omega) ?_) | (refine when_npn (by omega) ?_) | (refine call_p hv ?_) | (refine when_y ?_) | (refine when_ft ?_) | (refine when_tf ?_) | (refine br_t ?_) | (refine br_f ?_) | (refine ari ?_ ?_; omega) | (refine aru ?_ ?_; omega) | (apply sel; exact rfl) | (refine ix0 rfl ?_) | (refine ix1 rfl ?_) | (refine ix2 rfl ?_) | (refine ix3 rfl ?_) | (refine ix4 rfl ?_) | (apply ixj; omega) | (refine ixn ?_ ?_; omega) | (refine ixs0 rfl ?_) | (refine ixs1 rfl ?_) | (refine ixs2 rfl ?_) | (refine ixs_j ?_ ?_; omega) | (refine ixs_n ?_ ?_; omega) | (apply ld_own; (first | (solve | repeat (first | with_reducible exact List.mem_cons_self | (with_reducible (apply List.mem_append_left; exact List.mem_cons_self)) | with_reducible apply List.mem_cons_of_mem | with_reducible apply List.mem_append_right)) | (repeat (first | exact List.Mem.head _ | apply List.Mem.tail | apply List.mem_append_right))); exact rfl) | (apply ldN_all; (first | (solve | repeat (first | with_reducible exact List.mem_cons_self | (with_reducible (apply List.mem_append_left; exact List.mem_cons_self)) | with_reducible apply List.mem_cons_of_mem | with_reducible apply List.mem_append_right)) | (repeat (first | exact List.Mem.head _ | apply List.Mem.tail | apply List.mem_append_right))); exact rfl) | (apply ldN_own; (first | (solve | repeat (first | with_reducible exact List.mem_cons_self | (with_reducible (apply List.mem_append_left; exact List.mem_cons_self)) | with_reducible apply List.mem_cons_of_mem | with_reducible apply List.mem_append_right)) | (repeat (first | exact List.Mem.head _ | apply List.Mem.tail | apply List.mem_append_right))); exact rfl; exact rfl) | (apply st_own; (first | (solve | repeat (first | with_reducible exact Up.head | with_reducible apply Up.tail | with_reducible apply Up.app)) | (repeat (first | exact Up.head | apply Up.tail | apply Up.app))); (solve | ((try (conv => arg 2; whnf)); repeat' (first | exact Lis.nil | apply Lis.cons | apply SetAt.here | apply SetAt.there | apply PutAt.done | apply PutAt.put | apply PutAt.skip))); exact rfl) | (apply stN_own; (first | (solve | repeat (first | with_reducible exact Up.head | with_reducible apply Up.tail | with_reducible apply Up.app)) | (repeat (first | exact Up.head | apply Up.tail | apply Up.app))); (solve | ((try (conv => arg 2; whnf)); repeat' (first | exact Lis.nil | apply Lis.cons | apply SetAt.here | apply SetAt.there | apply PutAt.done | apply PutAt.put | apply PutAt.skip))); exact rfl) | (refine new_i (fun bk hbk => ?_)) | (refine when_dt (fun hc => ?_) (fun hc => ?_)) | (refine when_df (fun hc => ?_) (fun hc => ?_)) | (refine when_ndt (fun hc => ?_) (fun hc => ?_)) | (refine when_ndf (fun hc => ?_) (fun hc => ?_)) | (refine br_d (fun hc => ?_) (fun hc => ?_)) | (refine br_nd (fun hc => ?_) (fun hc => ?_)) | (refine shl0 ?_ ?_; omega) | (refine shl1 ?_ ?_; omega) | (refine shl2 ?_ ?_; omega) | (refine shl3 ?_ ?_; omega) | (refine mm_min ?_) | (refine mm_max ?_) | (refine quo_i ?_ ?_; omega) | (refine rem_i ?_ ?_; omega) | (refine stN_and rfl ?_) | (refine SelN.mk ?_) | (refine cut_n ?_) | (refine Both.mk ?_ ?_) | (exact True.intro) | (exact Ent.refl) | (refine Ent.cons ?_) | (fail))
    all_goals first | exact ⟨rfl, by (repeat (first | exact Ent.refl | exact Ent.left | refine Ent.cons ?_ | refine Ent.app ?_))⟩ | (exfalso; omega)

theorem canI {T : TypeId} {b : Nat} {l : List Int} : BufE encJ T 1 (some ⟨b, 0, none⟩) l.length l (canD encJ T b l) := can_buf (enc := encJ) (sz := 1) (fun _ _ => rfl)
theorem ret_lit {T : TypeId} {own' : Own} {v : Value} {l : List Int} (b : Nat) (hv : v = .slice (some ⟨b, 0, none⟩) l.length l.length) (ho : own' = canD encJ T b l ++ own) : ∃ a cap D, v = .slice a l.length cap ∧ BufE encJ T 1 a cap l D ∧ Ent W0 own' (D ++ own) := by
  subst ho
  exact ⟨some ⟨b, 0, none⟩, l.length, canD encJ T b l, hv, canI, Ent.refl⟩
theorem sp_after (hR : RdE Ins.enc 5 W0 own a p) (hl : p.length ≤ 1099511627776) {k : Nat} {x : Ins} (hx : p[k]? = some x) (hi : x.op = 4 ∨ x.op = 5 ∨ x.op = 6 → 0 ≤ x.imm ∧ x.imm ≤ 64) :
    Spec Tryd.prog W0 29 [.slice a p.length cap, .int .i64 k] own fun v own' => ∃ a cap D, v = .slice a (afterL p k x).length cap ∧ BufE encJ 3 1 a cap (afterL p k x) D ∧ Ent W0 own' (D ++ own) := by
  refine spec_of mixed low_program_after (by simp [ir_program_after]) ?_
  have hk := (List.getElem?_eq_some_iff.1 hx).1
  have he := fun own hR => sp_end (own := own) (W0 := W0) (a := a) (cap := cap) (p := p) hR hl k (by omega)
  have heb := endL_ge (p.drop (k + 1)) (k + 1)
  have heb2 : endM p k = endL (p.drop (k + 1)) (k + 1) := rfl
  rw [List.length_drop] at heb
  unfold afterL
  repeat' ((try (conv => whnf)); first | (refine when_y ?_) | (refine when_ft ?_) | (refine when_tf ?_) | (refine br_t ?_) | (refine br_f ?_) | (refine br_py (by omega) ?_) | (refine br_pn (by omega) ?_) | (refine when_py (by omega) ?_) | (refine when_pn (by omega) ?_) | (refine br_npy (by omega) ?_) | (refine br_npn (by omega) ?_) | (refine when_npy (by omega) ?_) | (refine when_npn (by omega) ?_) | (refine call_p (he _ hR) ?_) | ((with_reducible show Ld _ _ _ _); first | (refine ldE (k := 0) (RdE.ent hR ?_) hx ?_ rfl ?_; rotate_left; rfl; rotate_left; (solve | (repeat (first | exact Ent.refl | exact Ent.left | refine Ent.cons ?_ | refine Ent.app ?_)))) | (refine ldE (k := 1) (RdE.ent hR ?_) hx ?_ rfl ?_; rotate_left; rfl; rotate_left; (solve | (repeat (first | exact Ent.refl | exact Ent.left | refine Ent.cons ?_ | refine Ent.app ?_)))) | (refine ldE (k := 2) (RdE.ent hR ?_) hx ?_ rfl ?_; rotate_left; rfl; rotate_left; (solve | (repeat (first | exact Ent.refl | exact Ent.left | refine Ent.cons ?_ | refine Ent.app ?_)))) | (refine ldE (k := 3) (RdE.ent hR ?_) hx ?_ rfl ?_; rotate_left; rfl; rotate_left; (solve | (repeat (first | exact Ent.refl | exact Ent.left | refine Ent.cons ?_ | refine Ent.app ?_)))) | (refine ldE (k := 4) (RdE.ent hR ?_) hx ?_ rfl ?_; rotate_left; rfl; rotate_left; (solve | (repeat (first | exact Ent.refl | exact Ent.left | refine Ent.cons ?_ | refine Ent.app ?_)))) | (refine ldE (k := 5) (RdE.ent hR ?_) hx ?_ rfl ?_; rotate_left; rfl; rotate_left; (solve | (repeat (first | exact Ent.refl | exact Ent.left | refine Ent.cons ?_ | refine Ent.app ?_))))) | ((with_reducible show IxS _ _ _ _ _); first | (refine ixE hR hx ?_ ?_; (first | rfl | omega))) | ((with_reducible show LdN _ _ _ _ _); first | (refine ldNE (RdE.ent hR ?_) hx ?_ ?_ ?_; rotate_left; rfl; rfl; rotate_left; (solve | (repeat (first | exact Ent.refl | exact Ent.left | refine Ent.cons ?_ | refine Ent.app ?_))))) | (refine when_y ?_) | (refine when_ft ?_) | (refine when_tf ?_) | (refine br_t ?_) | (refine br_f ?_) | (refine ari ?_ ?_; omega) | (refine aru ?_ ?_; omega) | (apply sel; exact rfl) | (refine ix0 rfl ?_) | (refine ix1 rfl ?_) | (refine ix2 rfl ?_) | (refine ix3 rfl ?_) | (refine ix4 rfl ?_) | (apply ixj; omega) | (refine ixn ?_ ?_; omega) | (refine ixs0 rfl ?_) | (refine ixs1 rfl ?_) | (refine ixs2 rfl ?_) | (refine ixs_j ?_ ?_; omega) | (refine ixs_n ?_ ?_; omega) | (apply ld_own; (first | (solve | repeat (first | with_reducible exact List.mem_cons_self | (with_reducible (apply List.mem_append_left; exact List.mem_cons_self)) | with_reducible apply List.mem_cons_of_mem | with_reducible apply List.mem_append_right)) | (repeat (first | exact List.Mem.head _ | apply List.Mem.tail | apply List.mem_append_right))); exact rfl) | (apply ldN_all; (first | (solve | repeat (first | with_reducible exact List.mem_cons_self | (with_reducible (apply List.mem_append_left; exact List.mem_cons_self)) | with_reducible apply List.mem_cons_of_mem | with_reducible apply List.mem_append_right)) | (repeat (first | exact List.Mem.head _ | apply List.Mem.tail | apply List.mem_append_right))); exact rfl) | (apply ldN_own; (first | (solve | repeat (first | with_reducible exact List.mem_cons_self | (with_reducible (apply List.mem_append_left; exact List.mem_cons_self)) | with_reducible apply List.mem_cons_of_mem | with_reducible apply List.mem_append_right)) | (repeat (first | exact List.Mem.head _ | apply List.Mem.tail | apply List.mem_append_right))); exact rfl; exact rfl) | (apply st_own; (first | (solve | repeat (first | with_reducible exact Up.head | with_reducible apply Up.tail | with_reducible apply Up.app)) | (repeat (first | exact Up.head | apply Up.tail | apply Up.app))); (solve | ((try (conv => arg 2; whnf)); repeat' (first | exact Lis.nil | apply Lis.cons | apply SetAt.here | apply SetAt.there | apply PutAt.done | apply PutAt.put | apply PutAt.skip))); exact rfl) | (apply stN_own; (first | (solve | repeat (first | with_reducible exact Up.head | with_reducible apply Up.tail | with_reducible apply Up.app)) | (repeat (first | exact Up.head | apply Up.tail | apply Up.app))); (solve | ((try (conv => arg 2; whnf)); repeat' (first | exact Lis.nil | apply Lis.cons | apply SetAt.here | apply SetAt.there | apply PutAt.done | apply PutAt.put | apply PutAt.skip))); exact rfl) | (refine new_i (fun bk hbk => ?_)) | (refine when_dt (fun hc => ?_) (fun hc => ?_)) | (refine when_df (fun hc => ?_) (fun hc => ?_)) | (refine when_ndt (fun hc => ?_) (fun hc => ?_)) | (refine when_ndf (fun hc => ?_) (fun hc => ?_)) | (refine br_d (fun hc => ?_) (fun hc => ?_)) | (refine br_nd (fun hc => ?_) (fun hc => ?_)) | (refine shl0 ?_ ?_; omega) | (refine shl1 ?_ ?_; omega) | (refine shl2 ?_ ?_; omega) | (refine shl3 ?_ ?_; omega) | (refine mm_min ?_) | (refine mm_max ?_) | (refine quo_i ?_ ?_; omega) | (refine rem_i ?_ ?_; omega) | (refine stN_and rfl ?_) | (refine SelN.mk ?_) | (refine cut_n ?_) | (refine Both.mk ?_ ?_) | (exact True.intro) | (exact Ent.refl) | (refine Ent.cons ?_) | (fail))
  all_goals (try (exfalso; omega))
  · rw [if_pos (by omega)]
    exact ret_lit (l := [k + 1 + x.imm]) bk rfl rfl
  · rw [if_neg (by omega), if_pos (by omega)]
    exact ret_lit (l := [k + 1, k + 1 + x.imm]) bk rfl rfl
  · rw [if_neg (by omega), if_pos (by omega)]
    exact ret_lit (l := [k + 1, k + 1 + x.imm]) bk rfl rfl
  · rw [if_neg (by omega), if_neg (by omega), if_pos (by omega)]
    exact ret_lit (l := [(endM p k : Int) + 1]) bk rfl rfl
  · rw [if_neg (by omega), if_neg (by omega), if_neg (by omega)]
    exact ret_lit (l := [(k : Int) + 1]) bk rfl rfl
end
end Go.Proofs.YtcgdhdbhebcbkaaDoor
