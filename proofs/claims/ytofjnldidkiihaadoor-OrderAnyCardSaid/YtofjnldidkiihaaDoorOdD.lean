/- Traces: slices.Grow, Concat, Sort, Compact, and the words of a place, as contracts. No condition. -/
import Derived.Test.YtofjnldidkiihaaDoorOdC
import Derived.Test.YtofjnldidkiihaaDoorOpE
import Derived.Test.YtofjnldidkiihaaDoorOsS
namespace Go.Proofs.YtofjnldidkiihaaDoor
open Go
set_option maxRecDepth 10000
set_option maxHeartbeats 4000000

theorem flat1 : ∀ l : List Int, (l.map encI).flatten = l.map (Value.int .i64)
  | [] => rfl
  | x :: l => by simp [flat1 l]
/-- A row put anew, further blocks behind: still of the class. -/
theorem St.put_row {W0 : World} {own : Own} {w : World} {b : Nat} {T : TypeId} {C : Own → Own} {l l' : List Int} {rest : List Value} {n : Nat} {os : Array Obj} (s : St W0 own w) (hat : At [(b, fun o => o = Obj.cells ((l.map encI).flatten ++ rest).toArray T)] own C) (hl : l'.length = l.length) :
    St W0 (C [(b, fun o => o = Obj.cells ((l'.map encI).flatten ++ rest).toArray T)]) (Go.Sort.grow (Go.Sort.putRow (Value.int .i64) (Go.Sort.ahead w n) b 0 l'.toArray) os) := by
  have hu := hat.up (fun o => o = Obj.cells ((l'.map encI).flatten ++ rest).toArray T)
  have hb := s.mem_size hu.mem
  refine s.up hu rfl rfl rfl ?_ ?_ ?_
  · simp [Go.Sort.grow, Go.Sort.putRow, Go.Sort.mapBlock, Go.Sort.ahead]
  · intro k hk hne
    simp only [Go.Sort.grow, Go.Sort.putRow, Go.Sort.mapBlock, Go.Sort.ahead]
    rw [Array.getElem?_append_left (by simpa using hk), Array.getElem?_modify, if_neg (fun e => hne e.symm)]
  · obtain ⟨o, ho, hp⟩ := s.owns _ hu.mem
    refine ⟨_, ?_, rfl⟩
    simp only [Go.Sort.grow, Go.Sort.putRow, Go.Sort.mapBlock, Go.Sort.ahead]
    rw [Array.getElem?_append_left (by simpa using hb), Array.getElem?_modify, if_pos rfl]
    have hp' : o = Obj.cells ((l.map encI).flatten ++ rest).toArray T := hp
    have ho' : w.heap[b]? = some o := ho
    rw [ho', hp']
    simp only [Option.map_some, Go.Sort.onCells, Go.Sort.putCells, flat1]
    congr 2
    apply Array.ext'
    rw [Array.toList_mapIdx]
    refine List.ext_getElem (by simp [hl]) fun k h1 h2 => ?_
    simp only [List.getElem_mapIdx]
    by_cases hk : k < l'.length
    · rw [if_pos ⟨by omega, by simpa using hk⟩, List.getElem_append_left (by simpa using hk), getElem!_pos _ _ (by simpa using hk)]
      simp
    · rw [if_neg (by simp; omega), List.getElem_append_right (by simp; omega), List.getElem_append_right (by simp; omega)]
      simp [hl]
section
variable {W0 : World} {own : Own}
theorem hold_own {w : World} {b : Nat} {l : List Int} {rest : List Value} {T : TypeId} (s : St W0 own w) (hm : (b, fun o => o = Obj.cells ((l.map encI).flatten ++ rest).toArray T) ∈ own) : Go.Sort.Holds (Value.int .i64) w b 0 l.toArray := fun j hj => by
  have hj' : j < l.length := by simpa using hj
  refine ⟨?_, ?_⟩
  · rw [getElem!_pos _ j hj]
    refine kn_cell hm ?_ w s
    rw [Nat.zero_add, flat1, List.toList_toArray, List.getElem?_append_left (by simpa using hj')]
    simp [hj']
  · obtain ⟨o, ho, hp⟩ := s.owns _ hm
    have hp' : o = Obj.cells ((l.map encI).flatten ++ rest).toArray T := hp
    have ho' : w.heap[b]? = some o := ho
    simp [World.frozen?, ho', hp']
theorem sp_sort {a : Option Addr} {l : List Int} {cap : Nat} {D : Own} {C : Own → Own} (hB : BufE encI 3 1 a cap l D) (hat : At D own C) (hl : l.length < 4611686018427387904) :
    Spec Tryd.prog W0 63 [.slice a l.length cap] own fun v own' => ∃ D' : Own, (v = .tuple #[] ∧ BufE encI 3 1 a cap (srt l) D') ∧ Ent W0 own' (C D') := by
  intro w hs
  rcases hB.how with ⟨rfl, rfl, rfl⟩ | ⟨b, rest, rfl, rfl, hlen, hle⟩
  · refine (shelf_sort_none a 0 w).mono ?_
    rintro e w' ⟨rfl, rfl⟩
    exact ⟨_, own, rfl, hs, [], ⟨rfl, by rw [show srt [] = [] from List.mergeSort_nil]; exact BufE.nil⟩, by rw [hat.same]; exact Ent.refl⟩
  · have hm := (hat.up (fun _ => True)).mem
    refine (shelf_sort b 0 cap l w (hold_own hs hm) (hs.mem_size hm) hl).mono ?_
    rintro e w' ⟨rfl, n, os, rfl⟩
    exact ⟨_, _, rfl, hs.put_row hat (srt_len l), _, ⟨rfl, fun _ _ => rfl, .inr ⟨b, rest, rfl, rfl, by rw [srt_len]; exact hlen, by rw [srt_len]; exact hle⟩⟩, Ent.refl⟩
theorem sp_compact {a : Option Addr} {l : List Int} {cap : Nat} {D : Own} {C : Own → Own} (hB : BufE encI 3 1 a cap l D) (hat : At D own C) (hl : l.length ≤ 9223372036854775807) (hs2 : l.Pairwise (· ≤ ·)) :
    Spec Tryd.prog W0 64 [.slice a l.length cap] own fun v own' => ∃ D' : Own, (v = .slice a (cmp l).length cap ∧ BufE encI 3 1 a cap (cmp l) D') ∧ Ent W0 own' (C D') := by
  cases l with
  | nil =>
    refine spec_of mixed low_slices_Compact_int (by simp [ir_slices_Compact_int]) ?_
    repeat' ((try (conv => whnf)); first | (refine when_ye ?_ ?_; exact rfl) | (refine when_ne ?_ ?_; exact rfl) | (refine br_te ?_ ?_; exact rfl) | (refine br_fe ?_ ?_; exact rfl) | (apply br_pyE; (exact rfl); omega) | (apply br_pnE; (exact rfl); omega) | (apply when_pyE; (exact rfl); omega) | (apply when_pnE; (exact rfl); omega) | (apply br_npyE; (exact rfl); omega) | (apply br_npnE; (exact rfl); omega) | (apply when_npyE; (exact rfl); omega) | (apply when_npnE; (exact rfl); omega) | (apply br_pyE; (exact rfl); (solve | simp | (simp; omega))) | (apply br_pnE; (exact rfl); (solve | simp | (simp; omega))) | (apply when_pyE; (exact rfl); (solve | simp | (simp; omega))) | (apply when_pnE; (exact rfl); (solve | simp | (simp; omega))) | (apply br_npyE; (exact rfl); (solve | simp | (simp; omega))) | (apply br_npnE; (exact rfl); (solve | simp | (simp; omega))) | (apply when_npyE; (exact rfl); (solve | simp | (simp; omega))) | (apply when_npnE; (exact rfl); (solve | simp | (simp; omega))) | (refine ari ?_ ?_; omega) | (refine aru ?_ ?_; omega) | (apply sel; exact rfl) | (refine ix0 rfl ?_) | (refine ix1 rfl ?_) | (refine ix2 rfl ?_) | (refine ix3 rfl ?_) | (apply ixj; omega) | (refine ixn ?_ ?_; omega) | (refine ixs0 rfl ?_) | (refine ixs1 rfl ?_) | (refine ixs_j ?_ ?_; omega) | (refine ixs_n ?_ ?_; omega) | (apply ld_o; exact rfl) | (apply ldN_a; exact rfl) | (apply ldN_o; (exact rfl); exact rfl) | (apply st_o; (exact rfl); exact rfl) | (apply stN_o; (exact rfl); (exact rfl); exact rfl) | (refine new_i (fun bk hbk => ?_)) | (apply when_dE; (exact rfl); (exact rfl); all_goals intro hc) | (apply when_dF; (exact rfl); (exact rfl); all_goals intro hc) | (apply when_nE; (exact rfl); (exact rfl); all_goals intro hc) | (apply when_nF; (exact rfl); (exact rfl); all_goals intro hc) | (apply br_dE; (exact rfl); all_goals intro hc) | (apply br_nE; (exact rfl); all_goals intro hc) | (refine mm_min ?_) | (refine mm_max ?_) | (refine rem_i ?_ ?_; omega) | (refine SelN.mk ?_) | (refine cut_n ?_) | (refine Both.mk ?_ ?_) | (exact True.intro))
    exact ⟨D, ⟨rfl, hB⟩, by rw [hat.same]; exact Ent.refl⟩
  | cons x r =>
    intro w hs
    have hcl := (cmp_spec hs2).2.2
    rcases hB.how with ⟨h, _, _⟩ | ⟨b, rest, rfl, rfl, hlen, hle⟩
    · cases h
    · generalize x :: r = l at *
      have hm := (hat.up (fun _ => True)).mem
      refine (shelf_compact b 0 cap l w (hold_own hs hm) hl hle).mono ?_
      rintro e w' ⟨rfl, q, rfl⟩
      have hst := hs.put_row (n := q) (os := #[]) (l' := cmp l ++ List.replicate (l.length - (cmp l).length) 0) hat (by simp; omega)
      rw [Go.Sort.grow_empty] at hst
      refine ⟨_, _, rfl, hst, _, ⟨rfl, fun _ _ => rfl, .inr ⟨b, ((List.replicate (l.length - (cmp l).length) 0).map encI).flatten ++ rest, rfl, rfl, ?_, by omega⟩⟩, ?_⟩
      · simp only [flat1, List.length_append, List.length_map, List.length_replicate]; omega
      · rw [List.map_append, List.flatten_append, List.append_assoc]; exact Ent.refl
theorem sls_t {b o n c sz r : Nat} {K : Value → Prop} (hr : r ≤ c) (h : K (.slice (some ⟨b, o, none⟩) r c)) : SlsT (some ⟨b, o, none⟩) n c sz none (some (r : Int)) none K := by
  refine ⟨0, r, c, rfl, rfl, rfl, Nat.zero_le _, fun _ => hr, fun h => Bool.noConfusion h, fun h => Bool.noConfusion h, ?_⟩
  have e : slA (some ⟨b, o, none⟩) c 0 sz = some ⟨b, o, none⟩ := by
    unfold slA
    split
    · rfl
    · simp [addr_add]
  rw [e]
  exact h
theorem sls_nil {sz : Nat} {K : Value → Prop} (h : K (.slice none 0 0)) : SlsT none 0 0 sz none (some 0) none K :=
  ⟨0, 0, 0, rfl, rfl, rfl, Nat.le_refl _, fun _ => Nat.le_refl _, fun h => Bool.noConfusion h, fun h => Bool.noConfusion h, h⟩
theorem sp_grow0 (n : Nat) (hn : n * 8 ≤ 281474976710656) :
    Spec Tryd.prog W0 74 [.slice none 0 0, .int .i64 n] own fun v own' => ∃ s : Option Addr × Nat × Own, (v = .slice s.1 0 s.2.1 ∧ n ≤ s.2.1 ∧ BufE encI 3 1 s.1 s.2.1 [] s.2.2) ∧ Ent W0 own' (s.2.2 ++ own) := by
  refine spec_of mixed low_slices_Grow_int (by simp [ir_slices_Grow_int]) ?_
  by_cases h0 : n = 0
  · subst h0
    repeat' ((try (conv => whnf)); first | (refine when_ye ?_ ?_; exact rfl) | (refine when_ne ?_ ?_; exact rfl) | (refine br_te ?_ ?_; exact rfl) | (refine br_fe ?_ ?_; exact rfl) | (apply br_pyE; (exact rfl); omega) | (apply br_pnE; (exact rfl); omega) | (apply when_pyE; (exact rfl); omega) | (apply when_pnE; (exact rfl); omega) | (apply br_npyE; (exact rfl); omega) | (apply br_npnE; (exact rfl); omega) | (apply when_npyE; (exact rfl); omega) | (apply when_npnE; (exact rfl); omega) | (refine ari ?_ ?_; omega) | (refine aru ?_ ?_; omega) | (apply sel; exact rfl) | (refine ix0 rfl ?_) | (refine ix1 rfl ?_) | (refine ix2 rfl ?_) | (refine ix3 rfl ?_) | (apply ixj; omega) | (refine ixn ?_ ?_; omega) | (refine ixs0 rfl ?_) | (refine ixs1 rfl ?_) | (refine ixs_j ?_ ?_; omega) | (refine ixs_n ?_ ?_; omega) | (apply ld_o; exact rfl) | (apply ldN_a; exact rfl) | (apply ldN_o; (exact rfl); exact rfl) | (apply st_o; (exact rfl); exact rfl) | (apply stN_o; (exact rfl); (exact rfl); exact rfl) | (refine new_i (fun bk hbk => ?_)) | (apply when_dE; (exact rfl); (exact rfl); all_goals intro hc) | (apply when_dF; (exact rfl); (exact rfl); all_goals intro hc) | (apply when_nE; (exact rfl); (exact rfl); all_goals intro hc) | (apply when_nF; (exact rfl); (exact rfl); all_goals intro hc) | (apply br_dE; (exact rfl); all_goals intro hc) | (apply br_nE; (exact rfl); all_goals intro hc) | (refine mm_min ?_) | (refine mm_max ?_) | (refine rem_i ?_ ?_; omega) | (refine SelN.mk ?_) | (refine cut_n ?_) | (refine Both.mk ?_ ?_) | (exact True.intro))
    exact ⟨(none, 0, []), ⟨rfl, by simp, BufE.nil⟩, Ent.refl⟩
  · repeat' ((try (conv => whnf)); first | (refine when_ye ?_ ?_; exact rfl) | (refine when_ne ?_ ?_; exact rfl) | (refine br_te ?_ ?_; exact rfl) | (refine br_fe ?_ ?_; exact rfl) | (apply br_pyE; (exact rfl); omega) | (apply br_pnE; (exact rfl); omega) | (apply when_pyE; (exact rfl); omega) | (apply when_pnE; (exact rfl); omega) | (apply br_npyE; (exact rfl); omega) | (apply br_npnE; (exact rfl); omega) | (apply when_npyE; (exact rfl); omega) | (apply when_npnE; (exact rfl); omega) | (refine sls_nil ?_) | (refine sls_t (r := 0) (Nat.zero_le _) ?_) | (refine ⟨rfl, rfl, n, by omega, by omega, hn, fun b c' hb hc => ?_⟩) | (refine ari ?_ ?_; omega) | (refine aru ?_ ?_; omega) | (apply sel; exact rfl) | (refine ix0 rfl ?_) | (refine ix1 rfl ?_) | (refine ix2 rfl ?_) | (refine ix3 rfl ?_) | (apply ixj; omega) | (refine ixn ?_ ?_; omega) | (refine ixs0 rfl ?_) | (refine ixs1 rfl ?_) | (refine ixs_j ?_ ?_; omega) | (refine ixs_n ?_ ?_; omega) | (apply ld_o; exact rfl) | (apply ldN_a; exact rfl) | (apply ldN_o; (exact rfl); exact rfl) | (apply st_o; (exact rfl); exact rfl) | (apply stN_o; (exact rfl); (exact rfl); exact rfl) | (refine new_i (fun bk hbk => ?_)) | (apply when_dE; (exact rfl); (exact rfl); all_goals intro hc) | (apply when_dF; (exact rfl); (exact rfl); all_goals intro hc) | (apply when_nE; (exact rfl); (exact rfl); all_goals intro hc) | (apply when_nF; (exact rfl); (exact rfl); all_goals intro hc) | (apply br_dE; (exact rfl); all_goals intro hc) | (apply br_nE; (exact rfl); all_goals intro hc) | (refine mm_min ?_) | (refine mm_max ?_) | (refine rem_i ?_ ?_; omega) | (refine SelN.mk ?_) | (refine cut_n ?_) | (refine Both.mk ?_ ?_) | (exact True.intro))
    refine ⟨(some ⟨b, 0, none⟩, c', [(b, fun o => o = Obj.cells (List.replicate c' [.int .i64 0]).flatten.toArray 3)]), ⟨rfl, hc, fun _ h => (by cases h), .inr ⟨b, (List.replicate c' [.int .i64 0]).flatten, rfl, rfl, by simp, by simp⟩⟩, Ent.refl⟩
theorem sp_concat {bq : Nat} {ra wa : Option Addr} {rl wl : List Int} {rc wc : Nat} [MemC bq (fun o => o = Obj.cells #[.slice ra rl.length rc, .slice wa wl.length wc] 22) own] (h1 : RdE encI 1 W0 own ra rl) (h2 : RdE encI 1 W0 own wa wl) (hb : (rl.length + wl.length) * 8 ≤ 281474976710656) :
    Spec Tryd.prog W0 62 [.slice (some ⟨bq, 0, none⟩) 2 2] own fun v own' => ∃ s : Option Addr × Nat × Own, (v = .slice s.1 (rl ++ wl).length s.2.1 ∧ BufE encI 3 1 s.1 s.2.1 (rl ++ wl) s.2.2) ∧ Ent W0 own' (s.2.2 ++ own) := by
  refine spec_of mixed low_slices_Concat_int (by simp [ir_slices_Concat_int]) ?_
  have hg : Spec Tryd.prog W0 74 [.slice none 0 0, .int .i64 ((rl.length + wl.length : Nat) : Int)] own _ := sp_grow0 (rl.length + wl.length) hb
  have e : ((rl.length + wl.length : Nat) : Int) = 0 + (rl.length : Int) + wl.length := by omega
  rw [e] at hg
  repeat' ((try (conv => whnf)); first | (refine when_ye ?_ ?_; exact rfl) | (refine when_ne ?_ ?_; exact rfl) | (refine br_te ?_ ?_; exact rfl) | (refine br_fe ?_ ?_; exact rfl) | (apply br_pyE; (exact rfl); omega) | (apply br_pnE; (exact rfl); omega) | (apply when_pyE; (exact rfl); omega) | (apply when_pnE; (exact rfl); omega) | (apply br_npyE; (exact rfl); omega) | (apply br_npnE; (exact rfl); omega) | (apply when_npyE; (exact rfl); omega) | (apply when_npnE; (exact rfl); omega) | (refine loop_r 3 ?_) | ((with_reducible show CallT _ _ _ _ _ _); first | ((refine call_x hg ?_ ?_ (fun s v hv => ?_); (exact rfl); (exact rfl); (obtain ⟨a0, c0, D0⟩ := s; obtain ⟨rfl, hc, hB⟩ := hv; dsimp only at hc hB); (apply Stop.h)))) | (refine ari ?_ ?_; omega) | (refine aru ?_ ?_; omega) | (apply sel; exact rfl) | (refine ix0 rfl ?_) | (refine ix1 rfl ?_) | (refine ix2 rfl ?_) | (refine ix3 rfl ?_) | (apply ixj; omega) | (refine ixn ?_ ?_; omega) | (refine ixs0 rfl ?_) | (refine ixs1 rfl ?_) | (refine ixs_j ?_ ?_; omega) | (refine ixs_n ?_ ?_; omega) | (apply ld_o; exact rfl) | (apply ldN_a; exact rfl) | (apply ldN_o; (exact rfl); exact rfl) | (apply st_o; (exact rfl); exact rfl) | (apply stN_o; (exact rfl); (exact rfl); exact rfl) | (refine new_i (fun bk hbk => ?_)) | (apply when_dE; (exact rfl); (exact rfl); all_goals intro hc) | (apply when_dF; (exact rfl); (exact rfl); all_goals intro hc) | (apply when_nE; (exact rfl); (exact rfl); all_goals intro hc) | (apply when_nF; (exact rfl); (exact rfl); all_goals intro hc) | (apply br_dE; (exact rfl); all_goals intro hc) | (apply br_nE; (exact rfl); all_goals intro hc) | (refine mm_min ?_) | (refine mm_max ?_) | (refine rem_i ?_ ?_; omega) | (refine SelN.mk ?_) | (refine cut_n ?_) | (refine Both.mk ?_ ?_) | (exact True.intro))
  refine Stop.mk ?_
  repeat' ((try (conv => whnf)); first | (refine when_ye ?_ ?_; exact rfl) | (refine when_ne ?_ ?_; exact rfl) | (refine br_te ?_ ?_; exact rfl) | (refine br_fe ?_ ?_; exact rfl) | (apply br_pyE; (exact rfl); omega) | (apply br_pnE; (exact rfl); omega) | (apply when_pyE; (exact rfl); omega) | (apply when_pnE; (exact rfl); omega) | (apply br_npyE; (exact rfl); omega) | (apply br_npnE; (exact rfl); omega) | (apply when_npyE; (exact rfl); omega) | (apply when_npnE; (exact rfl); omega) | (refine loop_r 3 ?_) | (refine app_r (enc := encI) (l := []) (l2 := rl) hB h1 rfl (by omega) (fun _ _ => rfl) (by simp; omega) (fun D1 hB1 => ?_); (rw [List.length_nil, Nat.zero_add rl.length]); (apply Stop.h)) | (refine ari ?_ ?_; omega) | (refine aru ?_ ?_; omega) | (apply sel; exact rfl) | (refine ix0 rfl ?_) | (refine ix1 rfl ?_) | (refine ix2 rfl ?_) | (refine ix3 rfl ?_) | (apply ixj; omega) | (refine ixn ?_ ?_; omega) | (refine ixs0 rfl ?_) | (refine ixs1 rfl ?_) | (refine ixs_j ?_ ?_; omega) | (refine ixs_n ?_ ?_; omega) | (apply ld_o; exact rfl) | (apply ldN_a; exact rfl) | (apply ldN_o; (exact rfl); exact rfl) | (apply st_o; (exact rfl); exact rfl) | (apply stN_o; (exact rfl); (exact rfl); exact rfl) | (refine new_i (fun bk hbk => ?_)) | (apply when_dE; (exact rfl); (exact rfl); all_goals intro hc) | (apply when_dF; (exact rfl); (exact rfl); all_goals intro hc) | (apply when_nE; (exact rfl); (exact rfl); all_goals intro hc) | (apply when_nF; (exact rfl); (exact rfl); all_goals intro hc) | (apply br_dE; (exact rfl); all_goals intro hc) | (apply br_nE; (exact rfl); all_goals intro hc) | (refine mm_min ?_) | (refine mm_max ?_) | (refine rem_i ?_ ?_; omega) | (refine SelN.mk ?_) | (refine cut_n ?_) | (refine Both.mk ?_ ?_) | (exact True.intro))
  refine Stop.mk ?_
  rw [List.nil_append] at hB1
  repeat' ((try (conv => whnf)); first | (refine when_ye ?_ ?_; exact rfl) | (refine when_ne ?_ ?_; exact rfl) | (refine br_te ?_ ?_; exact rfl) | (refine br_fe ?_ ?_; exact rfl) | (apply br_pyE; (exact rfl); omega) | (apply br_pnE; (exact rfl); omega) | (apply when_pyE; (exact rfl); omega) | (apply when_pnE; (exact rfl); omega) | (apply br_npyE; (exact rfl); omega) | (apply br_npnE; (exact rfl); omega) | (apply when_npyE; (exact rfl); omega) | (apply when_npnE; (exact rfl); omega) | (refine app_r (enc := encI) (l := rl) (l2 := wl) hB1 h2 rfl (by omega) (fun _ _ => rfl) (by omega) (fun D2 hB2 => ?_); (apply Stop.h)) | (refine ari ?_ ?_; omega) | (refine aru ?_ ?_; omega) | (apply sel; exact rfl) | (refine ix0 rfl ?_) | (refine ix1 rfl ?_) | (refine ix2 rfl ?_) | (refine ix3 rfl ?_) | (apply ixj; omega) | (refine ixn ?_ ?_; omega) | (refine ixs0 rfl ?_) | (refine ixs1 rfl ?_) | (refine ixs_j ?_ ?_; omega) | (refine ixs_n ?_ ?_; omega) | (apply ld_o; exact rfl) | (apply ldN_a; exact rfl) | (apply ldN_o; (exact rfl); exact rfl) | (apply st_o; (exact rfl); exact rfl) | (apply stN_o; (exact rfl); (exact rfl); exact rfl) | (refine new_i (fun bk hbk => ?_)) | (apply when_dE; (exact rfl); (exact rfl); all_goals intro hc) | (apply when_dF; (exact rfl); (exact rfl); all_goals intro hc) | (apply when_nE; (exact rfl); (exact rfl); all_goals intro hc) | (apply when_nF; (exact rfl); (exact rfl); all_goals intro hc) | (apply br_dE; (exact rfl); all_goals intro hc) | (apply br_nE; (exact rfl); all_goals intro hc) | (refine mm_min ?_) | (refine mm_max ?_) | (refine rem_i ?_ ?_; omega) | (refine SelN.mk ?_) | (refine cut_n ?_) | (refine Both.mk ?_ ?_) | (exact True.intro))
  refine Stop.mk ?_
  repeat' ((try (conv => whnf)); first | (refine when_ye ?_ ?_; exact rfl) | (refine when_ne ?_ ?_; exact rfl) | (refine br_te ?_ ?_; exact rfl) | (refine br_fe ?_ ?_; exact rfl) | (apply br_pyE; (exact rfl); omega) | (apply br_pnE; (exact rfl); omega) | (apply when_pyE; (exact rfl); omega) | (apply when_pnE; (exact rfl); omega) | (apply br_npyE; (exact rfl); omega) | (apply br_npnE; (exact rfl); omega) | (apply when_npyE; (exact rfl); omega) | (apply when_npnE; (exact rfl); omega) | (refine ari ?_ ?_; omega) | (refine aru ?_ ?_; omega) | (apply sel; exact rfl) | (refine ix0 rfl ?_) | (refine ix1 rfl ?_) | (refine ix2 rfl ?_) | (refine ix3 rfl ?_) | (apply ixj; omega) | (refine ixn ?_ ?_; omega) | (refine ixs0 rfl ?_) | (refine ixs1 rfl ?_) | (refine ixs_j ?_ ?_; omega) | (refine ixs_n ?_ ?_; omega) | (apply ld_o; exact rfl) | (apply ldN_a; exact rfl) | (apply ldN_o; (exact rfl); exact rfl) | (apply st_o; (exact rfl); exact rfl) | (apply stN_o; (exact rfl); (exact rfl); exact rfl) | (refine new_i (fun bk hbk => ?_)) | (apply when_dE; (exact rfl); (exact rfl); all_goals intro hc) | (apply when_dF; (exact rfl); (exact rfl); all_goals intro hc) | (apply when_nE; (exact rfl); (exact rfl); all_goals intro hc) | (apply when_nF; (exact rfl); (exact rfl); all_goals intro hc) | (apply br_dE; (exact rfl); all_goals intro hc) | (apply br_nE; (exact rfl); all_goals intro hc) | (refine mm_min ?_) | (refine mm_max ?_) | (refine rem_i ?_ ?_; omega) | (refine SelN.mk ?_) | (refine cut_n ?_) | (refine Both.mk ?_ ?_) | (exact True.intro))
  exact ⟨(a0, c0, D2), ⟨ret1 (by simp), hB2⟩, Ent.refl⟩
theorem sp_touched {n : Nat} {l : List EH} {a : Option Addr} {cap : Nat} {s : TrB} (hw : Wf l n) (hR : RdE EH.enc 6 W0 own a l) (hE : ∀ e ∈ l, EvR W0 own e) (hT : TrM W0 own l a cap s) {y : Nat} (hy : y < l.length) (hy3 : knd l y ≠ 3) :
    Spec Tryd.prog W0 55 [.pointer (some ⟨s.bs, 0, none⟩), .int .i64 y] own fun v own' => ∃ q : Option Addr × Nat × Own, (v = .slice q.1 (touW (at' l y)).length q.2.1 ∧ RdE encI 1 W0 q.2.2 q.1 (touW (at' l y))) ∧ Ent W0 own' (q.2.2 ++ own) := by
  refine spec_of mixed low_order_trace_touched (by simp [ir_order_trace_touched]) ?_
  have h0 := hT.c0
  obtain ⟨e, he⟩ : ∃ e, l[y]? = some e := ⟨_, List.getElem?_eq_getElem hy⟩
  have hae : at' l y = e := at_get he
  have hke : knd l y = e.k := by unfold knd; rw [hae]
  have hEe := hE e (List.mem_of_getElem? he)
  have hkd := hw.kd y hy
  have hpl : ∀ own' [EntC own' own], Pure Tryd.prog W0 69 [.pointer (some ⟨s.bs, 0, none⟩), .int .i64 y] own' (.bool (!decide (e.k = 4))) := fun own' h => by
    have := sp_oplain (own := own') hR.up hT.up hy
    rw [plB_iff hw hy hy3, hke] at this
    exact this
  rw [hae]
  unfold touW
  by_cases h4 : e.k = 4
  · rw [if_neg (by omega)]
    simp only [decide_eq_true h4, Bool.not_true] at hpl
    have hrb := hEe.rb
    have hwb := hEe.wb
    have h1 := hEe.r
    have h2 := hEe.w
    clear hEe
    obtain ⟨ev, t, k, wd, ra, rl, rc, wa, wl, wc⟩ := e
    dsimp only at h1 h2 hrb hwb hpl h4 ⊢
    repeat' ((try (conv => whnf)); first | (refine when_ye ?_ ?_; exact rfl) | (refine when_ne ?_ ?_; exact rfl) | (refine br_te ?_ ?_; exact rfl) | (refine br_fe ?_ ?_; exact rfl) | (apply br_pyE; (exact rfl); omega) | (apply br_pnE; (exact rfl); omega) | (apply when_pyE; (exact rfl); omega) | (apply when_pnE; (exact rfl); omega) | (apply br_npyE; (exact rfl); omega) | (apply br_npnE; (exact rfl); omega) | (apply when_npyE; (exact rfl); omega) | (apply when_npnE; (exact rfl); omega) | ((with_reducible show Ld _ _ _ _); first | (refine ldK h0 ?_) | (refine ldE0 hR he rfl ?_) | (refine ldEk hR he rfl ?_) | (refine ldE1 hR he rfl ?_)) | ((with_reducible show IxS _ _ _ _ _); first | ((refine ixE hR he ?_ ?_; (first | rfl | omega)))) | ((with_reducible show LdN _ _ _ _ _); first | (refine ldNEi hR he rfl ?_)) | ((with_reducible show CallT _ _ _ _ _ _); first | ((refine call_pe (hpl _) ?_ ?_ ?_; (exact rfl); exact rfl)) | ((refine call_x (sp_concat (bq := bk) (h1.up) (h2.up) (by omega)) ?_ ?_ (fun s v hv => ?_); (exact rfl); (exact rfl); (obtain ⟨a0, c0, D0⟩ := s; obtain ⟨rfl, hB⟩ := hv; dsimp only at hB); (apply Stop.h)))) | (refine ari ?_ ?_; omega) | (refine aru ?_ ?_; omega) | (apply sel; exact rfl) | (refine ix0 rfl ?_) | (refine ix1 rfl ?_) | (refine ix2 rfl ?_) | (refine ix3 rfl ?_) | (apply ixj; omega) | (refine ixn ?_ ?_; omega) | (refine ixs0 rfl ?_) | (refine ixs1 rfl ?_) | (refine ixs_j ?_ ?_; omega) | (refine ixs_n ?_ ?_; omega) | (apply ld_o; exact rfl) | (apply ldN_a; exact rfl) | (apply ldN_o; (exact rfl); exact rfl) | (apply st_o; (exact rfl); exact rfl) | (apply stN_o; (exact rfl); (exact rfl); exact rfl) | (refine new_i (fun bk hbk => ?_)) | (apply when_dE; (exact rfl); (exact rfl); all_goals intro hc) | (apply when_dF; (exact rfl); (exact rfl); all_goals intro hc) | (apply when_nE; (exact rfl); (exact rfl); all_goals intro hc) | (apply when_nF; (exact rfl); (exact rfl); all_goals intro hc) | (apply br_dE; (exact rfl); all_goals intro hc) | (apply br_nE; (exact rfl); all_goals intro hc) | (refine mm_min ?_) | (refine mm_max ?_) | (refine rem_i ?_ ?_; omega) | (refine SelN.mk ?_) | (refine cut_n ?_) | (refine Both.mk ?_ ?_) | (exact True.intro))
    refine Stop.mk ?_
    have hll : (rl ++ wl).length = rl.length + wl.length := List.length_append
    have hso := fun own' (C : Own → Own) (hat : At D0 own' C) => sp_sort (W0 := W0) hB hat (by omega)
    repeat' ((try (conv => whnf)); first | (refine when_ye ?_ ?_; exact rfl) | (refine when_ne ?_ ?_; exact rfl) | (refine br_te ?_ ?_; exact rfl) | (refine br_fe ?_ ?_; exact rfl) | (apply br_pyE; (exact rfl); omega) | (apply br_pnE; (exact rfl); omega) | (apply when_pyE; (exact rfl); omega) | (apply when_pnE; (exact rfl); omega) | (apply br_npyE; (exact rfl); omega) | (apply br_npnE; (exact rfl); omega) | (apply when_npyE; (exact rfl); omega) | (apply when_npnE; (exact rfl); omega) | ((with_reducible show CallT _ _ _ _ _ _); first | ((refine call_x (hso _ _ At.head) ?_ ?_ (fun s v hv => ?_); (exact rfl); (exact rfl); (obtain ⟨rfl, hB1⟩ := hv); (apply Stop.h)))) | (refine ari ?_ ?_; omega) | (refine aru ?_ ?_; omega) | (apply sel; exact rfl) | (refine ix0 rfl ?_) | (refine ix1 rfl ?_) | (refine ix2 rfl ?_) | (refine ix3 rfl ?_) | (apply ixj; omega) | (refine ixn ?_ ?_; omega) | (refine ixs0 rfl ?_) | (refine ixs1 rfl ?_) | (refine ixs_j ?_ ?_; omega) | (refine ixs_n ?_ ?_; omega) | (apply ld_o; exact rfl) | (apply ldN_a; exact rfl) | (apply ldN_o; (exact rfl); exact rfl) | (apply st_o; (exact rfl); exact rfl) | (apply stN_o; (exact rfl); (exact rfl); exact rfl) | (refine new_i (fun bk hbk => ?_)) | (apply when_dE; (exact rfl); (exact rfl); all_goals intro hc) | (apply when_dF; (exact rfl); (exact rfl); all_goals intro hc) | (apply when_nE; (exact rfl); (exact rfl); all_goals intro hc) | (apply when_nF; (exact rfl); (exact rfl); all_goals intro hc) | (apply br_dE; (exact rfl); all_goals intro hc) | (apply br_nE; (exact rfl); all_goals intro hc) | (refine mm_min ?_) | (refine mm_max ?_) | (refine rem_i ?_ ?_; omega) | (refine SelN.mk ?_) | (refine cut_n ?_) | (refine Both.mk ?_ ?_) | (exact True.intro))
    refine Stop.mk ?_
    have hsl := srt_len (rl ++ wl)
    have hco := fun own' (C : Own → Own) (hat : At s own' C) => sp_compact (W0 := W0) hB1 hat (by omega) (srt_sorted (rl ++ wl))
    rw [hsl] at hco
    repeat' ((try (conv => whnf)); first | (refine when_ye ?_ ?_; exact rfl) | (refine when_ne ?_ ?_; exact rfl) | (refine br_te ?_ ?_; exact rfl) | (refine br_fe ?_ ?_; exact rfl) | (apply br_pyE; (exact rfl); omega) | (apply br_pnE; (exact rfl); omega) | (apply when_pyE; (exact rfl); omega) | (apply when_pnE; (exact rfl); omega) | (apply br_npyE; (exact rfl); omega) | (apply br_npnE; (exact rfl); omega) | (apply when_npyE; (exact rfl); omega) | (apply when_npnE; (exact rfl); omega) | ((with_reducible show CallT _ _ _ _ _ _); first | ((refine call_x (hco _ _ At.head) ?_ ?_ (fun s2 v hv => ?_); (exact rfl); (exact rfl); (obtain ⟨rfl, hB2⟩ := hv); (apply Stop.h)))) | (refine ari ?_ ?_; omega) | (refine aru ?_ ?_; omega) | (apply sel; exact rfl) | (refine ix0 rfl ?_) | (refine ix1 rfl ?_) | (refine ix2 rfl ?_) | (refine ix3 rfl ?_) | (apply ixj; omega) | (refine ixn ?_ ?_; omega) | (refine ixs0 rfl ?_) | (refine ixs1 rfl ?_) | (refine ixs_j ?_ ?_; omega) | (refine ixs_n ?_ ?_; omega) | (apply ld_o; exact rfl) | (apply ldN_a; exact rfl) | (apply ldN_o; (exact rfl); exact rfl) | (apply st_o; (exact rfl); exact rfl) | (apply stN_o; (exact rfl); (exact rfl); exact rfl) | (refine new_i (fun bk hbk => ?_)) | (apply when_dE; (exact rfl); (exact rfl); all_goals intro hc) | (apply when_dF; (exact rfl); (exact rfl); all_goals intro hc) | (apply when_nE; (exact rfl); (exact rfl); all_goals intro hc) | (apply when_nF; (exact rfl); (exact rfl); all_goals intro hc) | (apply br_dE; (exact rfl); all_goals intro hc) | (apply br_nE; (exact rfl); all_goals intro hc) | (refine mm_min ?_) | (refine mm_max ?_) | (refine rem_i ?_ ?_; omega) | (refine SelN.mk ?_) | (refine cut_n ?_) | (refine Both.mk ?_ ?_) | (exact True.intro))
    refine Stop.mk ?_
    repeat' ((try (conv => whnf)); first | (refine when_ye ?_ ?_; exact rfl) | (refine when_ne ?_ ?_; exact rfl) | (refine br_te ?_ ?_; exact rfl) | (refine br_fe ?_ ?_; exact rfl) | (apply br_pyE; (exact rfl); omega) | (apply br_pnE; (exact rfl); omega) | (apply when_pyE; (exact rfl); omega) | (apply when_pnE; (exact rfl); omega) | (apply br_npyE; (exact rfl); omega) | (apply br_npnE; (exact rfl); omega) | (apply when_npyE; (exact rfl); omega) | (apply when_npnE; (exact rfl); omega) | (refine ari ?_ ?_; omega) | (refine aru ?_ ?_; omega) | (apply sel; exact rfl) | (refine ix0 rfl ?_) | (refine ix1 rfl ?_) | (refine ix2 rfl ?_) | (refine ix3 rfl ?_) | (apply ixj; omega) | (refine ixn ?_ ?_; omega) | (refine ixs0 rfl ?_) | (refine ixs1 rfl ?_) | (refine ixs_j ?_ ?_; omega) | (refine ixs_n ?_ ?_; omega) | (apply ld_o; exact rfl) | (apply ldN_a; exact rfl) | (apply ldN_o; (exact rfl); exact rfl) | (apply st_o; (exact rfl); exact rfl) | (apply stN_o; (exact rfl); (exact rfl); exact rfl) | (refine new_i (fun bk hbk => ?_)) | (apply when_dE; (exact rfl); (exact rfl); all_goals intro hc) | (apply when_dF; (exact rfl); (exact rfl); all_goals intro hc) | (apply when_nE; (exact rfl); (exact rfl); all_goals intro hc) | (apply when_nF; (exact rfl); (exact rfl); all_goals intro hc) | (apply br_dE; (exact rfl); all_goals intro hc) | (apply br_nE; (exact rfl); all_goals intro hc) | (refine mm_min ?_) | (refine mm_max ?_) | (refine rem_i ?_ ?_; omega) | (refine SelN.mk ?_) | (refine cut_n ?_) | (refine Both.mk ?_ ?_) | (exact True.intro))
    exact ⟨(a0, c0, s2), ⟨rfl, hB2.rd⟩, Ent.of_sub ((((List.Sublist.refl own).cons _).cons _).append_left s2)⟩
  · rw [if_pos (by omega)]
    simp only [decide_eq_false h4, Bool.not_false] at hpl
    repeat' ((try (conv => whnf)); first | (refine when_ye ?_ ?_; exact rfl) | (refine when_ne ?_ ?_; exact rfl) | (refine br_te ?_ ?_; exact rfl) | (refine br_fe ?_ ?_; exact rfl) | (apply br_pyE; (exact rfl); omega) | (apply br_pnE; (exact rfl); omega) | (apply when_pyE; (exact rfl); omega) | (apply when_pnE; (exact rfl); omega) | (apply br_npyE; (exact rfl); omega) | (apply br_npnE; (exact rfl); omega) | (apply when_npyE; (exact rfl); omega) | (apply when_npnE; (exact rfl); omega) | ((with_reducible show Ld _ _ _ _); first | (refine ldK h0 ?_) | (refine ldE0 hR he rfl ?_) | (refine ldEk hR he rfl ?_) | (refine ldE1 hR he rfl ?_)) | ((with_reducible show IxS _ _ _ _ _); first | ((refine ixE hR he ?_ ?_; (first | rfl | omega)))) | ((with_reducible show LdN _ _ _ _ _); first | (refine ldNEi hR he rfl ?_)) | ((with_reducible show CallT _ _ _ _ _ _); first | ((refine call_pe (hpl _) ?_ ?_ ?_; (exact rfl); exact rfl))) | (refine ari ?_ ?_; omega) | (refine aru ?_ ?_; omega) | (apply sel; exact rfl) | (refine ix0 rfl ?_) | (refine ix1 rfl ?_) | (refine ix2 rfl ?_) | (refine ix3 rfl ?_) | (apply ixj; omega) | (refine ixn ?_ ?_; omega) | (refine ixs0 rfl ?_) | (refine ixs1 rfl ?_) | (refine ixs_j ?_ ?_; omega) | (refine ixs_n ?_ ?_; omega) | (apply ld_o; exact rfl) | (apply ldN_a; exact rfl) | (apply ldN_o; (exact rfl); exact rfl) | (apply st_o; (exact rfl); exact rfl) | (apply stN_o; (exact rfl); (exact rfl); exact rfl) | (refine new_i (fun bk hbk => ?_)) | (apply when_dE; (exact rfl); (exact rfl); all_goals intro hc) | (apply when_dF; (exact rfl); (exact rfl); all_goals intro hc) | (apply when_nE; (exact rfl); (exact rfl); all_goals intro hc) | (apply when_nF; (exact rfl); (exact rfl); all_goals intro hc) | (apply br_dE; (exact rfl); all_goals intro hc) | (apply br_nE; (exact rfl); all_goals intro hc) | (refine mm_min ?_) | (refine mm_max ?_) | (refine rem_i ?_ ?_; omega) | (refine SelN.mk ?_) | (refine cut_n ?_) | (refine Both.mk ?_ ?_) | (exact True.intro))
    exact ⟨(some ⟨bk, 0, none⟩, 1, [canE encI 3 bk [e.w]]), ⟨rfl, can_rd (fun _ _ => rfl)⟩, Ent.of_sub (((List.Sublist.refl own).cons _).cons_cons _)⟩
end
end Go.Proofs.YtofjnldidkiihaaDoor
