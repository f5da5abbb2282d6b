/- What the laws of this seat share, part 12: contracts of the functions, plain laws, and the rules of their proofs. No condition. -/
import Derived.Shelf.Sort.Plain
import Derived.Shelf.Slices.In.SortNone
import Derived.Shelf.Slices.CompactI
import Derived.Ground.Names2Prog
import Derived.Test.YtofjnldidkiihaaDoorProg
import Derived.Test.YtofjnldidkiihaaDoorK11
namespace Go.Proofs.YtofjnldidkiihaaDoor
open Go Go.Shelf
def lay189_ren : Go.Shelf.Ren := ⟨fun | 189 => 63 | 125 => 76 | 257 => 75 | 128 => 91 | 129 => 92 | 294 => 82 | 295 => 83 | 296 => 84 | 297 => 85 | 298 => 86 | 299 => 87 | 216 => 88 | 300 => 89 | 301 => 90 | 328 => 94 | 329 => 95 | 330 => 96 | 331 => 97 | 332 => 98 | 215 => 99 | 343 => 100 | n => n, fun | 28 => 22 | 3 => 3 | 46 => 61 | 0 => 0 | 51 => 115 | 53 => 117 | 4 => 4 | 183 => 108 | 182 => 107 | 131 => 112 | 5 => 5 | 9 => 9 | 218 => 118 | 222 => 122 | 228 => 124 | 229 => 125 | n => n, fun | n => n⟩
theorem lay189 : Go.Proofs.Lays.n189 Tryd.prog lay189_ren := {
  mixed := by kernel_rfl
  f125 := Tryd.func76.trans (congrArg some (by kernel_rfl))
  f128 := Tryd.func91.trans (congrArg some (by kernel_rfl))
  f129 := Tryd.func92.trans (congrArg some (by kernel_rfl))
  f189 := Tryd.func63.trans (congrArg some (by kernel_rfl))
  f215 := Tryd.func99.trans (congrArg some (by kernel_rfl))
  f216 := Tryd.func88.trans (congrArg some (by kernel_rfl))
  f257 := Tryd.func75.trans (congrArg some (by kernel_rfl))
  f294 := Tryd.func82.trans (congrArg some (by kernel_rfl))
  f295 := Tryd.func83.trans (congrArg some (by kernel_rfl))
  f296 := Tryd.func84.trans (congrArg some (by kernel_rfl))
  f297 := Tryd.func85.trans (congrArg some (by kernel_rfl))
  f298 := Tryd.func86.trans (congrArg some (by kernel_rfl))
  f299 := Tryd.func87.trans (congrArg some (by kernel_rfl))
  f300 := Tryd.func89.trans (congrArg some (by kernel_rfl))
  f301 := Tryd.func90.trans (congrArg some (by kernel_rfl))
  f328 := Tryd.func94.trans (congrArg some (by kernel_rfl))
  f329 := Tryd.func95.trans (congrArg some (by kernel_rfl))
  f330 := Tryd.func96.trans (congrArg some (by kernel_rfl))
  f331 := Tryd.func97.trans (congrArg some (by kernel_rfl))
  f332 := Tryd.func98.trans (congrArg some (by kernel_rfl))
  f343 := Tryd.func100.trans (congrArg some (by kernel_rfl))
  t0 := Tryd.underlying0
  a0 := Tryd.isAgg0
  z0 := Tryd.sizeOf0
  v0 := Tryd.zeroValue0
  t3 := Tryd.underlying3
  a3 := Tryd.isAgg3
  z3 := Tryd.sizeOf3
  v3 := Tryd.zeroValue3
  t4 := Tryd.underlying4
  a4 := Tryd.isAgg4
  z4 := Tryd.sizeOf4
  v4 := Tryd.zeroValue4
  t5 := Tryd.underlying5
  a5 := Tryd.isAgg5
  z5 := Tryd.sizeOf5
  v5 := Tryd.zeroValue5
  t9 := Tryd.underlying9
  a9 := Tryd.isAgg9
  z9 := Tryd.sizeOf9
  v9 := Tryd.zeroValue9
  t28 := Tryd.underlying22
  a28 := Tryd.isAgg22
  z28 := Tryd.sizeOf22
  v28 := Tryd.zeroValue22
  t46 := Tryd.underlying61
  a46 := Tryd.isAgg61
  z46 := Tryd.sizeOf61
  v46 := Tryd.zeroValue61
  t51 := Tryd.underlying115
  a51 := Tryd.isAgg115
  z51 := Tryd.sizeOf115
  v51 := Tryd.zeroValue115
  t53 := Tryd.underlying117
  a53 := Tryd.isAgg117
  z53 := Tryd.sizeOf117
  v53 := Tryd.zeroValue117
  t131 := Tryd.underlying112
  a131 := Tryd.isAgg112
  z131 := Tryd.sizeOf112
  v131 := Tryd.zeroValue112
  t182 := Tryd.underlying107
  a182 := Tryd.isAgg107
  z182 := Tryd.sizeOf107
  v182 := Tryd.zeroValue107
  t183 := Tryd.underlying108
  a183 := Tryd.isAgg108
  z183 := Tryd.sizeOf108
  v183 := Tryd.zeroValue108
  t218 := Tryd.underlying118
  a218 := Tryd.isAgg118
  z218 := Tryd.sizeOf118
  v218 := Tryd.zeroValue118
  t222 := Tryd.underlying122
  a222 := Tryd.isAgg122
  z222 := Tryd.sizeOf122
  v222 := Tryd.zeroValue122
  t228 := Tryd.underlying124
  a228 := Tryd.isAgg124
  z228 := Tryd.sizeOf124
  v228 := Tryd.zeroValue124
  t229 := Tryd.underlying125
  a229 := Tryd.isAgg125
  z229 := Tryd.sizeOf125
  v229 := Tryd.zeroValue125 }
open Go.Sort Go.RowKit in
theorem shelf_sort (blk off cap : Nat) (zs : List Int) (w : World) (hH : Go.Sort.Holds (Value.int .i64) w blk off zs.toArray) (hblk : blk < w.heap.size) (hsz : zs.length < 4611686018427387904) :
    Calls Tryd.prog 63 #[.slice (some ⟨blk, off, none⟩) zs.length cap] w fun e w' =>
      e = .returned (.tuple #[]) ∧ ∃ n os, w' = grow (putRow (Value.int .i64) (Sort.ahead w n) blk off (zs.mergeSort fun x y => decide (x ≤ y)).toArray) os := Any.slices_Sort_int lay189 blk off cap zs w hH hblk hsz
open Go.RowKit Go.Sort in
theorem shelf_sort_none (p : Option Addr) (cap : Nat) (w : World) :
    Calls Tryd.prog 63 #[.slice p 0 cap] w fun e w' => e = .returned (.tuple #[]) ∧ w' = w := Any.slices_Sort_int_none lay189 p cap w
def lay220_ren : Go.Shelf.Ren := ⟨fun | 20 => 64 | n => n, fun | 22 => 22 | 3 => 3 | 4 => 4 | 0 => 0 | n => n, fun | n => n⟩
theorem lay220 : Go.Proofs.Lays2.n20 Tryd.prog lay220_ren := {
  mixed := by kernel_rfl
  f20 := Tryd.func64.trans (congrArg some (by kernel_rfl))
  t0 := Tryd.underlying0
  a0 := Tryd.isAgg0
  z0 := Tryd.sizeOf0
  v0 := Tryd.zeroValue0
  t3 := Tryd.underlying3
  a3 := Tryd.isAgg3
  z3 := Tryd.sizeOf3
  v3 := Tryd.zeroValue3
  t4 := Tryd.underlying4
  a4 := Tryd.isAgg4
  z4 := Tryd.sizeOf4
  v4 := Tryd.zeroValue4
  t22 := Tryd.underlying22
  a22 := Tryd.isAgg22
  z22 := Tryd.sizeOf22
  v22 := Tryd.zeroValue22
  i3 := by kernel_rfl }
open Go.RowKit Go.Lib Go.Sort in
theorem shelf_compact (blk off cap : Nat) (zs : List Int) (w : World) (hH : Go.Sort.Holds (Value.int .i64) w blk off zs.toArray) (hsz : zs.length ≤ 9223372036854775807) (hcap : zs.length ≤ cap) :
    Calls Tryd.prog 64 #[.slice (some ⟨blk, off, none⟩) zs.length cap] w fun e w' => e = .returned (.slice (some ⟨blk, off, none⟩) (Lib.compact zs).length cap) ∧ ∃ q, w' = putRow (Value.int .i64) (Sort.ahead w q) blk off (Lib.compact zs ++ List.replicate (zs.length - (Lib.compact zs).length) 0).toArray := Any.slices_Compact_int lay220 blk off cap zs w hH hsz hcap
end Go.Proofs.YtofjnldidkiihaaDoor
namespace Go.Proofs.YtofjnldidkiihaaDoor
open Go
set_option maxRecDepth 10000
set_option maxHeartbeats 4000000
theorem flat1 : ∀ l : List Int, (l.map encI).flatten = l.map (Value.int .i64)
  | [] => rfl
  | x :: l => by simp [flat1 l]
/-- A row put anew, further blocks behind: still of the class. -/
theorem St.put_row {W0 : World} {own : Own} {w : World} {b : Nat} {T : TypeId} {C : Own → Own} {l l' : List Int} {rest : List Value} {n : Nat} {os : Array Obj} (s : St W0 own w) (hat : At [(b, fun o => o = Obj.cells ((l.map encI).flatten ++ rest).toArray T)] own C) (hl : l'.length = l.length) :
    St W0 (C [(b, fun o => o = Obj.cells ((l'.map encI).flatten ++ rest).toArray T)]) (Go.Sort.grow (Go.Sort.putRow (Value.int .i64) (Go.Sort.ahead w n) b 0 l'.toArray) os) := by
  have hu := hat.up (fun o => o = Obj.cells ((l'.map encI).flatten ++ rest).toArray T)
  have hb := s.mem_size hu.mem
  refine s.up hu rfl rfl rfl ?_ ?_ ?_
  · simp [Go.Sort.grow, Go.Sort.putRow, Go.Sort.mapBlock, Go.Sort.ahead]
  · intro k hk hne
    simp only [Go.Sort.grow, Go.Sort.putRow, Go.Sort.mapBlock, Go.Sort.ahead]
    rw [Array.getElem?_append_left (by simpa using hk), Array.getElem?_modify, if_neg (fun e => hne e.symm)]
  · obtain ⟨o, ho, hp⟩ := s.owns _ hu.mem
    refine ⟨_, ?_, rfl⟩
    simp only [Go.Sort.grow, Go.Sort.putRow, Go.Sort.mapBlock, Go.Sort.ahead]
    rw [Array.getElem?_append_left (by simpa using hb), Array.getElem?_modify, if_pos rfl]
    have hp' : o = Obj.cells ((l.map encI).flatten ++ rest).toArray T := hp
    have ho' : w.heap[b]? = some o := ho
    rw [ho', hp']
    simp only [Option.map_some, Go.Sort.onCells, Go.Sort.putCells, flat1]
    congr 2
    apply Array.ext'
    rw [Array.toList_mapIdx]
    refine List.ext_getElem (by simp [hl]) fun k h1 h2 => ?_
    simp only [List.getElem_mapIdx]
    by_cases hk : k < l'.length
    · rw [if_pos ⟨by omega, by simpa using hk⟩, List.getElem_append_left (by simpa using hk), getElem!_pos _ _ (by simpa using hk)]
      simp
    · rw [if_neg (by simp; omega), List.getElem_append_right (by simp; omega), List.getElem_append_right (by simp; omega)]
      simp [hl]
section
variable {W0 : World} {own : Own}
theorem hold_own {w : World} {b : Nat} {l : List Int} {rest : List Value} {T : TypeId} (s : St W0 own w) (hm : (b, fun o => o = Obj.cells ((l.map encI).flatten ++ rest).toArray T) ∈ own) : Go.Sort.Holds (Value.int .i64) w b 0 l.toArray := fun j hj => by
  have hj' : j < l.length := by simpa using hj
  refine ⟨?_, ?_⟩
  · rw [getElem!_pos _ j hj]
    refine kn_cell hm ?_ w s
    rw [Nat.zero_add, flat1, List.toList_toArray, List.getElem?_append_left (by simpa using hj')]
    simp [hj']
  · obtain ⟨o, ho, hp⟩ := s.owns _ hm
    have hp' : o = Obj.cells ((l.map encI).flatten ++ rest).toArray T := hp
    have ho' : w.heap[b]? = some o := ho
    simp [World.frozen?, ho', hp']
theorem sp_sort {a : Option Addr} {l : List Int} {cap : Nat} {D : Own} {C : Own → Own} (hB : BufE encI 3 1 a cap l D) (hat : At D own C) (hl : l.length < 4611686018427387904) :
    Spec Tryd.prog W0 63 [.slice a l.length cap] own fun v own' => ∃ D' : Own, (v = .tuple #[] ∧ BufE encI 3 1 a cap (srt l) D') ∧ Ent W0 own' (C D') := by
  intro w hs
  rcases hB.how with ⟨rfl, rfl, rfl⟩ | ⟨b, rest, rfl, rfl, hlen, hle⟩
  · refine (shelf_sort_none a 0 w).mono ?_
    rintro e w' ⟨rfl, rfl⟩
    exact ⟨_, own, rfl, hs, [], ⟨rfl, by rw [show srt [] = [] from List.mergeSort_nil]; exact BufE.nil⟩, by rw [hat.same]; exact Ent.refl⟩
  · have hm := (hat.up (fun _ => True)).mem
    refine (shelf_sort b 0 cap l w (hold_own hs hm) (hs.mem_size hm) hl).mono ?_
    rintro e w' ⟨rfl, n, os, rfl⟩
    exact ⟨_, _, rfl, hs.put_row hat (srt_len l), _, ⟨rfl, fun _ _ => rfl, .inr ⟨b, rest, rfl, rfl, by rw [srt_len]; exact hlen, by rw [srt_len]; exact hle⟩⟩, Ent.refl⟩
theorem sp_compact {a : Option Addr} {l : List Int} {cap : Nat} {D : Own} {C : Own → Own} (hB : BufE encI 3 1 a cap l D) (hat : At D own C) (hl : l.length ≤ 9223372036854775807) (hs2 : l.Pairwise (· ≤ ·)) :
    Spec Tryd.prog W0 64 [.slice a l.length cap] own fun v own' => ∃ D' : Own, (v = .slice a (cmp l).length cap ∧ BufE encI 3 1 a cap (cmp l) D') ∧ Ent W0 own' (C D') := by
  cases l with
  | nil =>
    refine spec_of mixed low_slices_Compact_int (by simp [ir_slices_Compact_int]) ?_
    repeat' ((try (conv => whnf)); first | (refine when_ye ?_ ?_; exact rfl) | (refine when_ne ?_ ?_; exact rfl) | (refine br_te ?_ ?_; exact rfl) | (refine br_fe ?_ ?_; exact rfl) | (apply br_pyE; (exact rfl); omega) | (apply br_pnE; (exact rfl); omega) | (apply when_pyE; (exact rfl); omega) | (apply when_pnE; (exact rfl); omega) | (apply br_npyE; (exact rfl); omega) | (apply br_npnE; (exact rfl); omega) | (apply when_npyE; (exact rfl); omega) | (apply when_npnE; (exact rfl); omega) | (apply br_pyE; (exact rfl); (solve | simp | (simp; omega))) | (apply br_pnE; (exact rfl); (solve | simp | (simp; omega))) | (apply when_pyE; (exact rfl); (solve | simp | (simp; omega))) | (apply when_pnE; (exact rfl); (solve | simp | (simp; omega))) | (apply br_npyE; (exact rfl); (solve | simp | (simp; omega))) | (apply br_npnE; (exact rfl); (solve | simp | (simp; omega))) | (apply when_npyE; (exact rfl); (solve | simp | (simp; omega))) | (apply when_npnE; (exact rfl); (solve | simp | (simp; omega))) | (refine ari ?_ ?_; omega) | (refine aru ?_ ?_; omega) | (apply sel; exact rfl) | (refine ix0 rfl ?_) | (refine ix1 rfl ?_) | (refine ix2 rfl ?_) | (refine ix3 rfl ?_) | (apply ixj; omega) | (refine ixn ?_ ?_; omega) | (refine ixs0 rfl ?_) | (refine ixs1 rfl ?_) | (refine ixs_j ?_ ?_; omega) | (refine ixs_n ?_ ?_; omega) | (apply ld_o; exact rfl) | (apply ldN_a; exact rfl) | (apply ldN_o; (exact rfl); exact rfl) | (apply st_o; (exact rfl); exact rfl) | (apply stN_o; (exact rfl); (exact rfl); exact rfl) | (refine new_i (fun bk hbk => ?_)) | (apply when_dE; (exact rfl); (exact rfl); all_goals intro hc) | (apply when_dF; (exact rfl); (exact rfl); all_goals intro hc) | (apply when_nE; (exact rfl); (exact rfl); all_goals intro hc) | (apply when_nF; (exact rfl); (exact rfl); all_goals intro hc) | (apply br_dE; (exact rfl); all_goals intro hc) | (apply br_nE; (exact rfl); all_goals intro hc) | (refine mm_min ?_) | (refine mm_max ?_) | (refine rem_i ?_ ?_; omega) | (refine SelN.mk ?_) | (refine cut_n ?_) | (refine Both.mk ?_ ?_) | (exact True.intro))
    exact ⟨D, ⟨rfl, hB⟩, by rw [hat.same]; exact Ent.refl⟩
  | cons x r =>
    intro w hs
    have hcl := (cmp_spec hs2).2.2
    rcases hB.how with ⟨h, _, _⟩ | ⟨b, rest, rfl, rfl, hlen, hle⟩
    · cases h
    · generalize x :: r = l at *
      have hm := (hat.up (fun _ => True)).mem
      refine (shelf_compact b 0 cap l w (hold_own hs hm) hl hle).mono ?_
      rintro e w' ⟨rfl, q, rfl⟩
      have hst := hs.put_row (n := q) (os := #[]) (l' := cmp l ++ List.replicate (l.length - (cmp l).length) 0) hat (by simp; omega)
      rw [Go.Sort.grow_empty] at hst
      refine ⟨_, _, rfl, hst, _, ⟨rfl, fun _ _ => rfl, .inr ⟨b, ((List.replicate (l.length - (cmp l).length) 0).map encI).flatten ++ rest, rfl, rfl, ?_, by omega⟩⟩, ?_⟩
      · simp only [flat1, List.length_append, List.length_map, List.length_replicate]; omega
      · rw [List.map_append, List.flatten_append, List.append_assoc]; exact Ent.refl
theorem sls_t {b o n c sz r : Nat} {K : Value → Prop} (hr : r ≤ c) (h : K (.slice (some ⟨b, o, none⟩) r c)) : SlsT (some ⟨b, o, none⟩) n c sz none (some (r : Int)) none K := by
  refine ⟨0, r, c, rfl, rfl, rfl, Nat.zero_le _, fun _ => hr, fun h => Bool.noConfusion h, fun h => Bool.noConfusion h, ?_⟩
  have e : slA (some ⟨b, o, none⟩) c 0 sz = some ⟨b, o, none⟩ := by
    unfold slA
    split
    · rfl
    · simp [addr_add]
  rw [e]
  exact h
theorem sls_nil {sz : Nat} {K : Value → Prop} (h : K (.slice none 0 0)) : SlsT none 0 0 sz none (some 0) none K :=
  ⟨0, 0, 0, rfl, rfl, rfl, Nat.le_refl _, fun _ => Nat.le_refl _, fun h => Bool.noConfusion h, fun h => Bool.noConfusion h, h⟩
theorem sp_grow0 (n : Nat) (hn : n * 8 ≤ 281474976710656) :
    Spec Tryd.prog W0 74 [.slice none 0 0, .int .i64 n] own fun v own' => ∃ s : Option Addr × Nat × Own, (v = .slice s.1 0 s.2.1 ∧ n ≤ s.2.1 ∧ BufE encI 3 1 s.1 s.2.1 [] s.2.2) ∧ Ent W0 own' (s.2.2 ++ own) := by
  refine spec_of mixed low_slices_Grow_int (by simp [ir_slices_Grow_int]) ?_
  by_cases h0 : n = 0
  · subst h0
    repeat' ((try (conv => whnf)); first | (refine when_ye ?_ ?_; exact rfl) | (refine when_ne ?_ ?_; exact rfl) | (refine br_te ?_ ?_; exact rfl) | (refine br_fe ?_ ?_; exact rfl) | (apply br_pyE; (exact rfl); omega) | (apply br_pnE; (exact rfl); omega) | (apply when_pyE; (exact rfl); omega) | (apply when_pnE; (exact rfl); omega) | (apply br_npyE; (exact rfl); omega) | (apply br_npnE; (exact rfl); omega) | (apply when_npyE; (exact rfl); omega) | (apply when_npnE; (exact rfl); omega) | (refine ari ?_ ?_; omega) | (refine aru ?_ ?_; omega) | (apply sel; exact rfl) | (refine ix0 rfl ?_) | (refine ix1 rfl ?_) | (refine ix2 rfl ?_) | (refine ix3 rfl ?_) | (apply ixj; omega) | (refine ixn ?_ ?_; omega) | (refine ixs0 rfl ?_) | (refine ixs1 rfl ?_) | (refine ixs_j ?_ ?_; omega) | (refine ixs_n ?_ ?_; omega) | (apply ld_o; exact rfl) | (apply ldN_a; exact rfl) | (apply ldN_o; (exact rfl); exact rfl) | (apply st_o; (exact rfl); exact rfl) | (apply stN_o; (exact rfl); (exact rfl); exact rfl) | (refine new_i (fun bk hbk => ?_)) | (apply when_dE; (exact rfl); (exact rfl); all_goals intro hc) | (apply when_dF; (exact rfl); (exact rfl); all_goals intro hc) | (apply when_nE; (exact rfl); (exact rfl); all_goals intro hc) | (apply when_nF; (exact rfl); (exact rfl); all_goals intro hc) | (apply br_dE; (exact rfl); all_goals intro hc) | (apply br_nE; (exact rfl); all_goals intro hc) | (refine mm_min ?_) | (refine mm_max ?_) | (refine rem_i ?_ ?_; omega) | (refine SelN.mk ?_) | (refine cut_n ?_) | (refine Both.mk ?_ ?_) | (exact True.intro))
    exact ⟨(none, 0, []), ⟨rfl, by simp, BufE.nil⟩, Ent.refl⟩
  · repeat' ((try (conv => whnf)); first | (refine when_ye ?_ ?_; exact rfl) | (refine when_ne ?_ ?_; exact rfl) | (refine br_te ?_ ?_; exact rfl) | (refine br_fe ?_ ?_; exact rfl) | (apply br_pyE; (exact rfl); omega) | (apply br_pnE; (exact rfl); omega) | (apply when_pyE; (exact rfl); omega) | (apply when_pnE; (exact rfl); omega) | (apply br_npyE; (exact rfl); omega) | (apply br_npnE; (exact rfl); omega) | (apply when_npyE; (exact rfl); omega) | (apply when_npnE; (exact rfl); omega) | (refine sls_nil ?_) | (refine sls_t (r := 0) (Nat.zero_le _) ?_) | (refine ⟨rfl, rfl, n, by omega, by omega, hn, fun b c' hb hc => ?_⟩) | (refine ari ?_ ?_; omega) | (refine aru ?_ ?_; omega) | (apply sel; exact rfl) | (refine ix0 rfl ?_) | (refine ix1 rfl ?_) | (refine ix2 rfl ?_) | (refine ix3 rfl ?_) | (apply ixj; omega) | (refine ixn ?_ ?_; omega) | (refine ixs0 rfl ?_) | (refine ixs1 rfl ?_) | (refine ixs_j ?_ ?_; omega) | (refine ixs_n ?_ ?_; omega) | (apply ld_o; exact rfl) | (apply ldN_a; exact rfl) | (apply ldN_o; (exact rfl); exact rfl) | (apply st_o; (exact rfl); exact rfl) | (apply stN_o; (exact rfl); (exact rfl); exact rfl) | (refine new_i (fun bk hbk => ?_)) | (apply when_dE; (exact rfl); (exact rfl); all_goals intro hc) | (apply when_dF; (exact rfl); (exact rfl); all_goals intro hc) | (apply when_nE; (exact rfl); (exact rfl); all_goals intro hc) | (apply when_nF; (exact rfl); (exact rfl); all_goals intro hc) | (apply br_dE; (exact rfl); all_goals intro hc) | (apply br_nE; (exact rfl); all_goals intro hc) | (refine mm_min ?_) | (refine mm_max ?_) | (refine rem_i ?_ ?_; omega) | (refine SelN.mk ?_) | (refine cut_n ?_) | (refine Both.mk ?_ ?_) | (exact True.intro))
    refine ⟨(some ⟨b, 0, none⟩, c', [(b, fun o => o = Obj.cells (List.replicate c' [.int .i64 0]).flatten.toArray 3)]), ⟨rfl, hc, fun _ h => (by cases h), .inr ⟨b, (List.replicate c' [.int .i64 0]).flatten, rfl, rfl, by simp, by simp⟩⟩, Ent.refl⟩
theorem sp_concat {bq : Nat} {ra wa : Option Addr} {rl wl : List Int} {rc wc : Nat} [MemC bq (fun o => o = Obj.cells #[.slice ra rl.length rc, .slice wa wl.length wc] 22) own] (h1 : RdE encI 1 W0 own ra rl) (h2 : RdE encI 1 W0 own wa wl) (hb : (rl.length + wl.length) * 8 ≤ 281474976710656) :
    Spec Tryd.prog W0 62 [.slice (some ⟨bq, 0, none⟩) 2 2] own fun v own' => ∃ s : Option Addr × Nat × Own, (v = .slice s.1 (rl ++ wl).length s.2.1 ∧ BufE encI 3 1 s.1 s.2.1 (rl ++ wl) s.2.2) ∧ Ent W0 own' (s.2.2 ++ own) := by
  refine spec_of mixed low_slices_Concat_int (by simp [ir_slices_Concat_int]) ?_
  have hg : Spec Tryd.prog W0 74 [.slice none 0 0, .int .i64 ((rl.length + wl.length : Nat) : Int)] own _ := sp_grow0 (rl.length + wl.length) hb
  have e : ((rl.length + wl.length : Nat) : Int) = 0 + (rl.length : Int) + wl.length := by omega
  rw [e] at hg
  repeat' ((try (conv => whnf)); first | (refine when_ye ?_ ?_; exact rfl) | (refine when_ne ?_ ?_; exact rfl) | (refine br_te ?_ ?_; exact rfl) | (refine br_fe ?_ ?_; exact rfl) | (apply br_pyE; (exact rfl); omega) | (apply br_pnE; (exact rfl); omega) | (apply when_pyE; (exact rfl); omega) | (apply when_pnE; (exact rfl); omega) | (apply br_npyE; (exact rfl); omega) | (apply br_npnE; (exact rfl); omega) | (apply when_npyE; (exact rfl); omega) | (apply when_npnE; (exact rfl); omega) | (refine loop_r 3 ?_) | ((with_reducible show CallT _ _ _ _ _ _); first | ((refine call_x hg ?_ ?_ (fun s v hv => ?_); (exact rfl); (exact rfl); (obtain ⟨a0, c0, D0⟩ := s; obtain ⟨rfl, hc, hB⟩ := hv; dsimp only at hc hB); (apply Stop.h)))) | (refine ari ?_ ?_; omega) | (refine aru ?_ ?_; omega) | (apply sel; exact rfl) | (refine ix0 rfl ?_) | (refine ix1 rfl ?_) | (refine ix2 rfl ?_) | (refine ix3 rfl ?_) | (apply ixj; omega) | (refine ixn ?_ ?_; omega) | (refine ixs0 rfl ?_) | (refine ixs1 rfl ?_) | (refine ixs_j ?_ ?_; omega) | (refine ixs_n ?_ ?_; omega) | (apply ld_o; exact rfl) | (apply ldN_a; exact rfl) | (apply ldN_o; (exact rfl); exact rfl) | (apply st_o; (exact rfl); exact rfl) | (apply stN_o; (exact rfl); (exact rfl); exact rfl) | (refine new_i (fun bk hbk => ?_)) | (apply when_dE; (exact rfl); (exact rfl); all_goals intro hc) | (apply when_dF; (exact rfl); (exact rfl); all_goals intro hc) | (apply when_nE; (exact rfl); (exact rfl); all_goals intro hc) | (apply when_nF; (exact rfl); (exact rfl); all_goals intro hc) | (apply br_dE; (exact rfl); all_goals intro hc) | (apply br_nE; (exact rfl); all_goals intro hc) | (refine mm_min ?_) | (refine mm_max ?_) | (refine rem_i ?_ ?_; omega) | (refine SelN.mk ?_) | (refine cut_n ?_) | (refine Both.mk ?_ ?_) | (exact True.intro))
  refine Stop.mk ?_
  repeat' ((try (conv => whnf)); first | (refine when_ye ?_ ?_; exact rfl) | (refine when_ne ?_ ?_; exact rfl) | (refine br_te ?_ ?_; exact rfl) | (refine br_fe ?_ ?_; exact rfl) | (apply br_pyE; (exact rfl); omega) | (apply br_pnE; (exact rfl); omega) | (apply when_pyE; (exact rfl); omega) | (apply when_pnE; (exact rfl); omega) | (apply br_npyE; (exact rfl); omega) | (apply br_npnE; (exact rfl); omega) | (apply when_npyE; (exact rfl); omega) | (apply when_npnE; (exact rfl); omega) | (refine loop_r 3 ?_) | (refine app_r (enc := encI) (l := []) (l2 := rl) hB h1 rfl (by omega) (fun _ _ => rfl) (by simp; omega) (fun D1 hB1 => ?_); (rw [List.length_nil, Nat.zero_add rl.length]); (apply Stop.h)) | (refine ari ?_ ?_; omega) | (refine aru ?_ ?_; omega) | (apply sel; exact rfl) | (refine ix0 rfl ?_) | (refine ix1 rfl ?_) | (refine ix2 rfl ?_) | (refine ix3 rfl ?_) | (apply ixj; omega) | (refine ixn ?_ ?_; omega) | (refine ixs0 rfl ?_) | (refine ixs1 rfl ?_) | (refine ixs_j ?_ ?_; omega) | (refine ixs_n ?_ ?_; omega) | (apply ld_o; exact rfl) | (apply ldN_a; exact rfl) | (apply ldN_o; (exact rfl); exact rfl) | (apply st_o; (exact rfl); exact rfl) | (apply stN_o; (exact rfl); (exact rfl); exact rfl) | (refine new_i (fun bk hbk => ?_)) | (apply when_dE; (exact rfl); (exact rfl); all_goals intro hc) | (apply when_dF; (exact rfl); (exact rfl); all_goals intro hc) | (apply when_nE; (exact rfl); (exact rfl); all_goals intro hc) | (apply when_nF; (exact rfl); (exact rfl); all_goals intro hc) | (apply br_dE; (exact rfl); all_goals intro hc) | (apply br_nE; (exact rfl); all_goals intro hc) | (refine mm_min ?_) | (refine mm_max ?_) | (refine rem_i ?_ ?_; omega) | (refine SelN.mk ?_) | (refine cut_n ?_) | (refine Both.mk ?_ ?_) | (exact True.intro))
  refine Stop.mk ?_
  rw [List.nil_append] at hB1
  repeat' ((try (conv => whnf)); first | (refine when_ye ?_ ?_; exact rfl) | (refine when_ne ?_ ?_; exact rfl) | (refine br_te ?_ ?_; exact rfl) | (refine br_fe ?_ ?_; exact rfl) | (apply br_pyE; (exact rfl); omega) | (apply br_pnE; (exact rfl); omega) | (apply when_pyE; (exact rfl); omega) | (apply when_pnE; (exact rfl); omega) | (apply br_npyE; (exact rfl); omega) | (apply br_npnE; (exact rfl); omega) | (apply when_npyE; (exact rfl); omega) | (apply when_npnE; (exact rfl); omega) | (refine app_r (enc := encI) (l := rl) (l2 := wl) hB1 h2 rfl (by omega) (fun _ _ => rfl) (by omega) (fun D2 hB2 => ?_); (apply Stop.h)) | (refine ari ?_ ?_; omega) | (refine aru ?_ ?_; omega) | (apply sel; exact rfl) | (refine ix0 rfl ?_) | (refine ix1 rfl ?_) | (refine ix2 rfl ?_) | (refine ix3 rfl ?_) | (apply ixj; omega) | (refine ixn ?_ ?_; omega) | (refine ixs0 rfl ?_) | (refine ixs1 rfl ?_) | (refine ixs_j ?_ ?_; omega) | (refine ixs_n ?_ ?_; omega) | (apply ld_o; exact rfl) | (apply ldN_a; exact rfl) | (apply ldN_o; (exact rfl); exact rfl) | (apply st_o; (exact rfl); exact rfl) | (apply stN_o; (exact rfl); (exact rfl); exact rfl) | (refine new_i (fun bk hbk => ?_)) | (apply when_dE; (exact rfl); (exact rfl); all_goals intro hc) | (apply when_dF; (exact rfl); (exact rfl); all_goals intro hc) | (apply when_nE; (exact rfl); (exact rfl); all_goals intro hc) | (apply when_nF; (exact rfl); (exact rfl); all_goals intro hc) | (apply br_dE; (exact rfl); all_goals intro hc) | (apply br_nE; (exact rfl); all_goals intro hc) | (refine mm_min ?_) | (refine mm_max ?_) | (refine rem_i ?_ ?_; omega) | (refine SelN.mk ?_) | (refine cut_n ?_) | (refine Both.mk ?_ ?_) | (exact True.intro))
  refine Stop.mk ?_
  repeat' ((try (conv => whnf)); first | (refine when_ye ?_ ?_; exact rfl) | (refine when_ne ?_ ?_; exact rfl) | (refine br_te ?_ ?_; exact rfl) | (refine br_fe ?_ ?_; exact rfl) | (apply br_pyE; (exact rfl); omega) | (apply br_pnE; (exact rfl); omega) | (apply when_pyE; (exact rfl); omega) | (apply when_pnE; (exact rfl); omega) | (apply br_npyE; (exact rfl); omega) | (apply br_npnE; (exact rfl); omega) | (apply when_npyE; (exact rfl); omega) | (apply when_npnE; (exact rfl); omega) | (refine ari ?_ ?_; omega) | (refine aru ?_ ?_; omega) | (apply sel; exact rfl) | (refine ix0 rfl ?_) | (refine ix1 rfl ?_) | (refine ix2 rfl ?_) | (refine ix3 rfl ?_) | (apply ixj; omega) | (refine ixn ?_ ?_; omega) | (refine ixs0 rfl ?_) | (refine ixs1 rfl ?_) | (refine ixs_j ?_ ?_; omega) | (refine ixs_n ?_ ?_; omega) | (apply ld_o; exact rfl) | (apply ldN_a; exact rfl) | (apply ldN_o; (exact rfl); exact rfl) | (apply st_o; (exact rfl); exact rfl) | (apply stN_o; (exact rfl); (exact rfl); exact rfl) | (refine new_i (fun bk hbk => ?_)) | (apply when_dE; (exact rfl); (exact rfl); all_goals intro hc) | (apply when_dF; (exact rfl); (exact rfl); all_goals intro hc) | (apply when_nE; (exact rfl); (exact rfl); all_goals intro hc) | (apply when_nF; (exact rfl); (exact rfl); all_goals intro hc) | (apply br_dE; (exact rfl); all_goals intro hc) | (apply br_nE; (exact rfl); all_goals intro hc) | (refine mm_min ?_) | (refine mm_max ?_) | (refine rem_i ?_ ?_; omega) | (refine SelN.mk ?_) | (refine cut_n ?_) | (refine Both.mk ?_ ?_) | (exact True.intro))
  exact ⟨(a0, c0, D2), ⟨ret1 (by simp), hB2⟩, Ent.refl⟩
end
end Go.Proofs.YtofjnldidkiihaaDoor
namespace Go.Proofs.YtofjnldidkiihaaDoor
open Go
set_option maxRecDepth 10000
set_option maxHeartbeats 4000000
/-- What order.none holds. -/
abbrev noneV : List Value := [.int .i64 (-1), .int .i64 (-1), .int .i64 (-1)]
end Go.Proofs.YtofjnldidkiihaaDoor
namespace Go.Proofs.YtofjnldidkiihaaDoor
open Go
set_option maxRecDepth 10000
set_option maxHeartbeats 4000000
def plc (a n : Int) : Int := IntKind.u64.wrap a % n
theorem plc_rng (a : Int) {n : Int} (h : 0 < n) : 0 ≤ plc a n ∧ plc a n < n := ⟨Int.emod_nonneg _ (by omega), Int.emod_lt_of_pos _ h⟩
section
variable {W0 : World} {own : Own}
theorem sp_place (W0 : World) (own : Own) (a : Int) {n : Int} (hn : 0 < n ∧ n ≤ 9223372036854775807) : Pure Tryd.prog W0 17 [.int .i64 a, .int .i64 n] own (.int .i64 (plc a n)) := by
  refine pure_of (spec_of mixed low_kit_Place (by simp [ir_kit_Place]) ?_)
  repeat' ((try (conv => whnf)); first | (refine when_ye ?_ ?_; exact rfl) | (refine when_ne ?_ ?_; exact rfl) | (refine br_te ?_ ?_; exact rfl) | (refine br_fe ?_ ?_; exact rfl) | (apply br_pyE; (exact rfl); omega) | (apply br_pnE; (exact rfl); omega) | (apply when_pyE; (exact rfl); omega) | (apply when_pnE; (exact rfl); omega) | (apply br_npyE; (exact rfl); omega) | (apply br_npnE; (exact rfl); omega) | (apply when_npyE; (exact rfl); omega) | (apply when_npnE; (exact rfl); omega) | (refine ari ?_ ?_; omega) | (refine aru ?_ ?_; omega) | (apply sel; exact rfl) | (refine ix0 rfl ?_) | (refine ix1 rfl ?_) | (refine ix2 rfl ?_) | (refine ix3 rfl ?_) | (apply ixj; omega) | (refine ixn ?_ ?_; omega) | (refine ixs0 rfl ?_) | (refine ixs1 rfl ?_) | (refine ixs_j ?_ ?_; omega) | (refine ixs_n ?_ ?_; omega) | (apply ld_o; exact rfl) | (apply ldN_a; exact rfl) | (apply ldN_o; (exact rfl); exact rfl) | (apply st_o; (exact rfl); exact rfl) | (apply stN_o; (exact rfl); (exact rfl); exact rfl) | (refine new_i (fun bk hbk => ?_)) | (apply when_dE; (exact rfl); (exact rfl); all_goals intro hc) | (apply when_dF; (exact rfl); (exact rfl); all_goals intro hc) | (apply when_nE; (exact rfl); (exact rfl); all_goals intro hc) | (apply when_nF; (exact rfl); (exact rfl); all_goals intro hc) | (apply br_dE; (exact rfl); all_goals intro hc) | (apply br_nE; (exact rfl); all_goals intro hc) | (refine mm_min ?_) | (refine mm_max ?_) | (refine rem_i ?_ ?_; omega) | (refine SelN.mk ?_) | (refine cut_n ?_) | (refine Both.mk ?_ ?_) | (exact True.intro))
  refine arw ?_
  have hu := wrapu_rng a
  have hp := plc_rng a hn.1
  unfold plc at *
  generalize IntKind.u64.wrap a = u at *
  repeat' ((try (conv => whnf)); first | (refine when_ye ?_ ?_; exact rfl) | (refine when_ne ?_ ?_; exact rfl) | (refine br_te ?_ ?_; exact rfl) | (refine br_fe ?_ ?_; exact rfl) | (apply br_pyE; (exact rfl); omega) | (apply br_pnE; (exact rfl); omega) | (apply when_pyE; (exact rfl); omega) | (apply when_pnE; (exact rfl); omega) | (apply br_npyE; (exact rfl); omega) | (apply br_npnE; (exact rfl); omega) | (apply when_npyE; (exact rfl); omega) | (apply when_npnE; (exact rfl); omega) | (refine ari ?_ ?_; omega) | (refine aru ?_ ?_; omega) | (apply sel; exact rfl) | (refine ix0 rfl ?_) | (refine ix1 rfl ?_) | (refine ix2 rfl ?_) | (refine ix3 rfl ?_) | (apply ixj; omega) | (refine ixn ?_ ?_; omega) | (refine ixs0 rfl ?_) | (refine ixs1 rfl ?_) | (refine ixs_j ?_ ?_; omega) | (refine ixs_n ?_ ?_; omega) | (apply ld_o; exact rfl) | (apply ldN_a; exact rfl) | (apply ldN_o; (exact rfl); exact rfl) | (apply st_o; (exact rfl); exact rfl) | (apply stN_o; (exact rfl); (exact rfl); exact rfl) | (refine new_i (fun bk hbk => ?_)) | (apply when_dE; (exact rfl); (exact rfl); all_goals intro hc) | (apply when_dF; (exact rfl); (exact rfl); all_goals intro hc) | (apply when_nE; (exact rfl); (exact rfl); all_goals intro hc) | (apply when_nF; (exact rfl); (exact rfl); all_goals intro hc) | (apply br_dE; (exact rfl); all_goals intro hc) | (apply br_nE; (exact rfl); all_goals intro hc) | (refine mm_min ?_) | (refine mm_max ?_) | (refine rem_i ?_ ?_; omega) | (refine SelN.mk ?_) | (refine cut_n ?_) | (refine Both.mk ?_ ?_) | (exact True.intro))
  exact ⟨rfl, (by first | exact ent_i | (repeat (first | exact Ent.refl | exact Ent.left | refine Ent.cons ?_ | refine Ent.app ?_)))⟩
theorem evr_one {W0 : World} {own : Own} {br : Nat} [MemC br (fun o => o = Obj.cells #[.int .i64 3] 3) own] {L : List EH} (hL : ∀ e ∈ L, e = exE0 ∨ e = exE1 ∨ e = exE2 br) : ∀ e ∈ L, EvR W0 own e := by
  intro e he
  rcases hL e he with rfl | rfl | rfl
  · exact evr_nil
  · exact evr_nil
  · exact evr_of rd_one RdE.nil (by simp [exE2]) (by simp [exE2])
end
end Go.Proofs.YtofjnldidkiihaaDoor
namespace Go.Proofs.YtofjnldidkiihaaDoor
open Go
set_option maxRecDepth 10000
set_option maxHeartbeats 4000000
theorem RdE.take {α : Type} {enc : α → List Value} {sz : Nat} {W0 : World} {own : Own} {a : Option Addr} {l : List α} (h : RdE enc sz W0 own a l) (k : Nat) : RdE enc sz W0 own a (l.take k) :=
  ⟨fun hn => h.isS (fun e => hn (by rw [e]; simp)), fun x hx => h.wid x (List.mem_of_mem_take hx), fun {j i x v} hx hv => by
    rw [List.getElem?_take] at hx
    split at hx
    · exact h.cell hx hv
    · cases hx⟩
end Go.Proofs.YtofjnldidkiihaaDoor
namespace Go.Proofs.YtofjnldidkiihaaDoor
open Go
def wrB (e : EH) (w : Int) : Bool := (decide (e.k = 2) && decide (e.w = w)) || (decide (e.k = 4) && e.wl.contains w)
def toB (e : EH) (w : Int) : Bool := wrB e w || ((decide (e.k = 1) && decide (e.w = w)) || (decide (e.k = 4) && e.rl.contains w))
theorem cfP_acc {a b : EH} {w : Int} (h : cfP a b w = true) (ha : 1 ≤ a.k ∧ a.k ≤ 2) (hb : 1 ≤ b.k ∧ b.k ≤ 4 ∧ b.k ≠ 3) : toB a w = true ∧ toB b w = true ∧ (wrB a w = true ∨ wrB b w = true) := by
  unfold cfP at h
  rw [Bool.and_eq_true, decide_eq_true_iff] at h
  obtain ⟨h1, h2⟩ := h
  have hta : toB a w = true := by
    unfold toB wrB
    by_cases h3 : a.k = 2
    · simp [h1, h3]
    · have h4 : a.k = 1 := by omega
      simp [h1, h4]
  refine ⟨hta, ?_⟩
  split at h2
  · rename_i h3
    rw [Bool.or_eq_true, Bool.and_eq_true, decide_eq_true_iff] at h2
    rcases h2 with h2 | ⟨h2, h4⟩
    · have : wrB b w = true := by unfold wrB; rw [h2]; simp [h3]
      exact ⟨by unfold toB; rw [this, Bool.true_or], .inr this⟩
    · exact ⟨by unfold toB; rw [h4]; simp [h3], .inl (by unfold wrB; simp [h1, h2])⟩
  · rename_i h3
    rw [Bool.and_eq_true, Bool.or_eq_true, decide_eq_true_iff, decide_eq_true_iff, decide_eq_true_iff] at h2
    obtain ⟨h4, h5⟩ := h2
    refine ⟨?_, ?_⟩
    · unfold toB wrB
      by_cases h6 : b.k = 2
      · simp [h4, h6]
      · have h7 : b.k = 1 := by omega
        simp [h4, h7]
    · rcases h5 with h5 | h5
      · exact .inl (by unfold wrB; simp [h1, h5])
      · exact .inr (by unfold wrB; simp [h4, h5])
theorem conf_acc {a b : EH} {w : Int} (h : confB a b w = true) (ha : 1 ≤ a.k ∧ a.k ≤ 4 ∧ a.k ≠ 3) (hb : 1 ≤ b.k ∧ b.k ≤ 4 ∧ b.k ≠ 3) : a.t ≠ b.t ∧ ¬(a.k = 4 ∧ b.k = 4) ∧ toB a w = true ∧ toB b w = true ∧ (wrB a w = true ∨ wrB b w = true) := by
  unfold confB at h
  rw [Bool.and_eq_true, Bool.not_eq_true', decide_eq_false_iff_not] at h
  refine ⟨h.1, ?_⟩
  have h := h.2
  split at h
  · rename_i h3
    rw [Bool.and_eq_true, Bool.not_eq_true', decide_eq_false_iff_not] at h
    obtain ⟨h1, h2, h4⟩ := cfP_acc h.2 (by omega) ha
    exact ⟨fun x => h.1 x.2, h2, h1, h4.symm⟩
  · rename_i h3
    exact ⟨fun x => h3 x.1, cfP_acc h (by omega) hb⟩
theorem rcL_mem {l : List EH} {y m : Nat} {w : Int} {r : RaceM} (h : r ∈ rcL l y w m) : ∃ x, x < m ∧ r = ((x : Int), (y : Int), w) ∧ rcB l y w x = true := by
  unfold rcL at h
  rw [List.mem_map] at h
  obtain ⟨x, hx, rfl⟩ := h
  rw [List.mem_filter, List.mem_range] at hx
  exact ⟨x, hx.1, rfl, hx.2⟩
theorem rcA_mem {l : List EH} {m : Nat} {r : RaceM} : r ∈ rcA l m ↔ ∃ y w, y < m ∧ w < 64 ∧ knd l y ≠ 3 ∧ r ∈ rcL l y ((w : Nat) : Int) y := by
  unfold rcA rcW
  rw [List.mem_flatMap]
  constructor
  · rintro ⟨y, hy, hr⟩
    rw [List.mem_range] at hy
    split at hr
    · cases hr
    · rename_i h3
      rw [List.mem_flatMap] at hr
      obtain ⟨w, hw, hr⟩ := hr
      rw [List.mem_range] at hw
      exact ⟨y, w, hy, hw, h3, hr⟩
  · rintro ⟨y, w, hy, hw, h3, hr⟩
    refine ⟨y, List.mem_range.2 hy, ?_⟩
    rw [if_neg h3, List.mem_flatMap]
    exact ⟨w, List.mem_range.2 hw, hr⟩
/-- What a race is. -/
theorem race_fact {l : List EH} {n : Nat} {r : RaceM} (hw : Wf l n) (h : r ∈ rcA l l.length) : ∃ x y : Nat, ∃ a b : EH, r.1 = x ∧ r.2.1 = y ∧ x < y ∧ y < l.length ∧ l[x]? = some a ∧ l[y]? = some b ∧ a.t ≠ b.t ∧ ¬(a.k = 4 ∧ b.k = 4) ∧ toB a r.2.2 = true ∧ toB b r.2.2 = true ∧ (wrB a r.2.2 = true ∨ wrB b r.2.2 = true) := by
  obtain ⟨y, w, hy, _, h3, hr⟩ := rcA_mem.1 h
  obtain ⟨x, hx, rfl, hb⟩ := rcL_mem hr
  have hxl : x < l.length := by omega
  obtain ⟨a, ha⟩ : ∃ e, l[x]? = some e := ⟨_, List.getElem?_eq_getElem hxl⟩
  obtain ⟨b, hb'⟩ : ∃ e, l[y]? = some e := ⟨_, List.getElem?_eq_getElem hy⟩
  unfold rcB at hb
  rw [Bool.and_eq_true, Bool.and_eq_true, Bool.not_eq_true', decide_eq_false_iff_not, at_get ha, at_get hb'] at hb
  have k1 := hw.kd x hxl
  have k2 := hw.kd y hy
  unfold knd at h3 k1 k2 hb
  rw [at_get ha] at k1 hb
  rw [at_get hb'] at k2 h3
  exact ⟨x, y, a, b, rfl, rfl, hx, hy, ha, hb', conf_acc hb.2.1 ⟨k1.1, k1.2.1, hb.1⟩ ⟨k2.1, k2.2.1, h3⟩⟩
theorem frst_ge {l : List EH} : (frst l).2.1 ≥ 0 ↔ rcA l l.length ≠ [] := by
  constructor
  · intro h hn
    rw [frst_none hn] at h
    revert h
    decide
  · intro h
    unfold frst
    cases hf : (prs l l.length).findSome? fun p => (rcL l p.1 p.2 p.1).getLast? with
    | some r =>
      obtain ⟨p, _, hr⟩ := List.exists_of_findSome?_eq_some hf
      obtain ⟨x, _, rfl, _⟩ := rcL_mem (List.mem_of_getLast? hr)
      show (p.1 : Int) ≥ 0
      omega
    | none =>
      exfalso
      rw [List.findSome?_eq_none_iff] at hf
      obtain ⟨r, hr⟩ := List.exists_mem_of_ne_nil _ h
      obtain ⟨y, w, hy, hw, h3, hr⟩ := rcA_mem.1 hr
      have := hf (y, (w : Int)) (by
        unfold prs
        rw [List.mem_flatMap]
        refine ⟨y, List.mem_range.2 hy, ?_⟩
        rw [if_neg h3, List.mem_map]
        exact ⟨w, List.mem_range.2 hw, rfl⟩)
      rw [List.getLast?_eq_none_iff] at this
      dsimp only at this
      rw [this] at hr
      cases hr
end Go.Proofs.YtofjnldidkiihaaDoor
namespace Go.Proofs.YtofjnldidkiihaaDoor
open Go
/-- One more than the last place of a kind, or 0. -/
def lst (Q : Nat → Bool) : Nat → Nat
  | 0 => 0
  | m + 1 => if Q m = true then m + 1 else lst Q m
theorem lst_le {Q : Nat → Bool} : ∀ m, lst Q m ≤ m
  | 0 => Nat.le_refl _
  | m + 1 => by unfold lst; split; exact Nat.le_refl _; exact Nat.le_succ_of_le (lst_le m)
theorem lst_at {Q : Nat → Bool} {k : Nat} : ∀ {m}, lst Q m = k + 1 → Q k = true ∧ k < m
  | 0, h => by cases h
  | m + 1, h => by
    unfold lst at h
    split at h
    · rename_i hq
      have : k = m := by omega
      subst this
      exact ⟨hq, Nat.lt_succ_self _⟩
    · obtain ⟨h1, h2⟩ := lst_at h
      exact ⟨h1, by omega⟩
theorem lst_ge {Q : Nat → Bool} {i : Nat} (hq : Q i = true) : ∀ {m}, i < m → i < lst Q m
  | 0, h => by omega
  | m + 1, h => by
    unfold lst
    split
    · exact h
    · rename_i hn
      have : i ≠ m := fun e => hn (e ▸ hq)
      exact lst_ge hq (by omega)
theorem lst_congr {Q R : Nat → Bool} : ∀ {m}, (∀ i, i < m → Q i = R i) → lst Q m = lst R m
  | 0, _ => rfl
  | m + 1, h => by
    unfold lst
    rw [h m (by omega), lst_congr fun i hi => h i (by omega)]
/-- An end of a thread. -/
def endB (l : List EH) (t : Int) (i : Nat) : Bool := decide (knd l i = 4 ∧ thr l i = t)
theorem endB_iff {l : List EH} {t : Int} {i : Nat} : endB l t i = true ↔ knd l i = 4 ∧ thr l i = t := by unfold endB; exact decide_eq_true_iff
/-- How many ends a thread has up to a place. -/
def eCnt (l : List EH) (t : Int) : Nat → Nat
  | 0 => 0
  | m + 1 => eCnt l t m + if endB l t m = true then 1 else 0
theorem eCnt_le {l : List EH} {t : Int} : ∀ m, eCnt l t m ≤ m
  | 0 => Nat.le_refl _
  | m + 1 => by
    unfold eCnt
    have := eCnt_le (l := l) (t := t) m
    split <;> omega
theorem eCnt_mono {l : List EH} {t : Int} {a b : Nat} (h : a ≤ b) : eCnt l t a ≤ eCnt l t b := by
  induction b with
  | zero => have : a = 0 := by omega
            subst this; exact Nat.le_refl _
  | succ b ih =>
    rcases Nat.lt_or_ge b a with hb | hb
    · have : a = b + 1 := by omega
      subst this; exact Nat.le_refl _
    · exact Nat.le_trans (ih hb) (by show eCnt l t b ≤ eCnt l t b + _; omega)
/-- A count that has grown names an end between. -/
theorem eCnt_lt {l : List EH} {t : Int} {a b : Nat} : eCnt l t a < eCnt l t b ↔ ∃ e, a ≤ e ∧ e < b ∧ endB l t e = true := by
  constructor
  · intro h
    induction b with
    | zero => cases h
    | succ b ih =>
      by_cases he : endB l t b = true
      · by_cases hab : a ≤ b
        · exact ⟨b, hab, Nat.lt_succ_self _, he⟩
        · have := eCnt_mono (l := l) (t := t) (a := b + 1) (b := a) (by omega)
          omega
      · have h2 : eCnt l t (b + 1) = eCnt l t b := by show eCnt l t b + _ = _; rw [if_neg he]; rfl
        rw [h2] at h
        obtain ⟨e, h3, h4, h5⟩ := ih h
        exact ⟨e, h3, by omega, h5⟩
  · rintro ⟨e, h1, h2, h3⟩
    have h4 := eCnt_mono (l := l) (t := t) h1
    have h5 := eCnt_mono (l := l) (t := t) (show e + 1 ≤ b by omega)
    have h6 : eCnt l t (e + 1) = eCnt l t e + 1 := by show eCnt l t e + _ = _; rw [if_pos h3]
    omega
/-- What a thread knows of another's ends at a plain access: those before its own last end. -/
def seenC (l : List EH) (u : Int) (m : Nat) (t : Int) : Nat := eCnt l t (lst (endB l u) m)
/-- What it knows at the end of a transaction: those before its begin. -/
def begC (l : List EH) (u : Int) (m : Nat) (t : Int) : Nat := eCnt l t (bgL l u m).toNat
theorem hb_plain {l : List EH} {x y : Nat} {t : Int} (hx : cntP l x) (hy : y < l.length) (hxy : x < y) (ht : thr l x = t) (hne : thr l x ≠ thr l y) (hp : plainP l y) : HB l x y ↔ eCnt l t x + 1 ≤ seenC l (thr l y) y t := by
  unfold seenC
  constructor
  · rintro ⟨_, _, _, h | ⟨_, e, f, h1, h2, h3, h4, h5, h6, h7⟩ | ⟨h, _⟩⟩
    · exact absurd h hne
    · have hf := lst_ge (Q := endB l (thr l y)) (i := f) (endB_iff.2 ⟨h5, h7⟩) h3
      exact (eCnt_lt (a := x)).2 ⟨e, h1, by omega, endB_iff.2 ⟨h4, h6.trans ht⟩⟩
    · exact absurd hp h
  · intro h
    obtain ⟨e, h1, h2, h3⟩ := eCnt_lt.1 h
    obtain ⟨h4, h5⟩ := endB_iff.1 h3
    obtain ⟨f, hf⟩ : ∃ f, lst (endB l (thr l y)) y = f + 1 := ⟨_, (Nat.succ_pred_eq_of_pos (by omega)).symm⟩
    obtain ⟨h6, h7⟩ := lst_at hf
    obtain ⟨h8, h9⟩ := endB_iff.1 h6
    have hef : e ≠ f := fun he => by subst he; exact hne (by rw [ht, ← h5, h9])
    refine ⟨hxy, hx, ⟨hy, .inl ?_⟩, .inr (.inl ⟨hp, e, f, h1, by omega, h7, h4, h8, h5.trans ht.symm, h9⟩)⟩
    rcases hp with hp | hp <;> omega
theorem hb_begin {l : List EH} {x p : Nat} {t : Int} (hx : cntP l x) (hp : cntP l p) (h3 : knd l p = 3) (ht : thr l x = t) (hne : thr l x ≠ thr l p) : HB l x p ↔ eCnt l t x + 1 ≤ eCnt l t p := by
  have hnp : ¬plainP l p := by rintro (h | h) <;> omega
  constructor
  · rintro ⟨_, _, _, h | ⟨h, _⟩ | ⟨_, e, h1, h2, h4, h5⟩⟩
    · exact absurd h hne
    · exact absurd h hnp
    · exact (eCnt_lt (a := x)).2 ⟨e, h1, h2, endB_iff.2 ⟨h4, h5.trans ht⟩⟩
  · intro h
    obtain ⟨e, h1, h2, h3⟩ := eCnt_lt.1 h
    obtain ⟨h4, h5⟩ := endB_iff.1 h3
    exact ⟨by omega, hx, hp, .inr (.inr ⟨hnp, e, h1, h2, h4, h5.trans ht.symm⟩)⟩
end Go.Proofs.YtofjnldidkiihaaDoor
namespace Go.Proofs.YtofjnldidkiihaaDoor
open Go
/-- The last access of a thread: its place, and how many ends are needed. -/
def accG (l : List EH) (Q : Nat → Bool) (t : Int) (m : Nat) : Int × Int :=
  if lst (fun i => Q i && decide (thr l i = t)) m = 0 then (0, 0) else (((lst (fun i => Q i && decide (thr l i = t)) m - 1 : Nat) : Int), (eCnt l t (lst (fun i => Q i && decide (thr l i = t)) m - 1) : Int) + 1)
theorem accG_succ {l : List EH} {Q : Nat → Bool} {t : Int} {m : Nat} : accG l Q t (m + 1) = if Q m = true ∧ thr l m = t then ((m : Int), (eCnt l t m : Int) + 1) else accG l Q t m := by
  have e : lst (fun i => Q i && decide (thr l i = t)) (m + 1) = if (Q m && decide (thr l m = t)) = true then m + 1 else lst (fun i => Q i && decide (thr l i = t)) m := rfl
  by_cases h : Q m = true ∧ thr l m = t
  · rw [if_pos h]
    rw [if_pos (by rw [h.1, decide_eq_true h.2]; rfl)] at e
    unfold accG
    rw [e, if_neg (by omega)]
    rfl
  · rw [if_neg h]
    rw [if_neg (by rw [Bool.and_eq_true, decide_eq_true_iff]; exact h)] at e
    unfold accG
    rw [e]
/-- The greater place of an access and a place, so many threads gone through. -/
def ltM (own : Int) (ck : Nat → Int) (f : Nat → Int × Int) (pl : Int) : Nat → Int
  | 0 => pl
  | k + 1 => if (k : Int) ≠ own ∧ (f k).2 > ck k ∧ (f k).1 > ltM own ck f pl k then (f k).1 else ltM own ck f pl k
theorem ltM_spec {own : Int} {ck : Nat → Int} {f : Nat → Int × Int} {pl : Int} : ∀ n, pl ≤ ltM own ck f pl n ∧ (ltM own ck f pl n = pl ∨ ∃ t, t < n ∧ (t : Int) ≠ own ∧ (f t).2 > ck t ∧ (f t).1 = ltM own ck f pl n) ∧ ∀ t, t < n → (t : Int) ≠ own → (f t).2 > ck t → (f t).1 ≤ ltM own ck f pl n
  | 0 => ⟨Int.le_refl _, .inl rfl, fun t h => by omega⟩
  | k + 1 => by
    obtain ⟨h1, h2, h3⟩ := ltM_spec (own := own) (ck := ck) (f := f) (pl := pl) k
    unfold ltM
    split
    · rename_i h
      refine ⟨by omega, .inr ⟨k, by omega, h.1, h.2.1, rfl⟩, fun t ht ho hc => ?_⟩
      by_cases e : t = k
      · subst e; exact Int.le_refl _
      · have := h3 t (by omega) ho hc; omega
    · rename_i h
      refine ⟨h1, h2.imp id fun ⟨t, a, b⟩ => ⟨t, by omega, b⟩, fun t ht ho hc => ?_⟩
      by_cases e : t = k
      · subst e
        by_cases hg : (f t).1 > ltM own ck f pl t
        · exact absurd ⟨ho, hc, hg⟩ h
        · omega
      · exact h3 t (by omega) ho hc
/-- A place that races, by the clocks. -/
def RC (l : List EH) (Q : Nat → Bool) (own : Int) (ck : Nat → Int) (y x : Nat) : Prop := x < y ∧ Q x = true ∧ thr l x ≠ own ∧ ck (thr l x).toNat < (eCnt l (thr l x) x : Int) + 1
theorem ltM_acc {l : List EH} {Q : Nat → Bool} {own : Int} {ck : Nat → Int} {n y : Nat} {pl : Int} (ht : ∀ x, x < y → 0 ≤ thr l x ∧ thr l x < n) (hck : ∀ t, 0 ≤ ck t) :
    pl ≤ ltM own ck (fun t => accG l Q t y) pl n ∧ (ltM own ck (fun t => accG l Q t y) pl n = pl ∨ ∃ x, RC l Q own ck y x ∧ (x : Int) = ltM own ck (fun t => accG l Q t y) pl n) ∧ ∀ x, RC l Q own ck y x → (x : Int) ≤ ltM own ck (fun t => accG l Q t y) pl n := by
  obtain ⟨h1, h2, h3⟩ := ltM_spec (own := own) (ck := ck) (f := fun t => accG l Q t y) (pl := pl) n
  refine ⟨h1, h2.imp id ?_, ?_⟩
  · rintro ⟨t, htn, ho, hc, he⟩
    rw [← he]
    revert hc
    unfold accG
    split
    · intro hc
      have := hck t
      dsimp only at hc
      omega
    · rename_i hk
      intro hc
      obtain ⟨x, hx⟩ : ∃ x, lst (fun i => Q i && decide (thr l i = (t : Int))) y = x + 1 := ⟨_, (Nat.succ_pred_eq_of_pos (by omega)).symm⟩
      rw [hx] at hc ⊢
      obtain ⟨hq, hxy⟩ := lst_at hx
      rw [Bool.and_eq_true, decide_eq_true_iff] at hq
      refine ⟨x, ⟨hxy, hq.1, by rw [hq.2]; exact ho, ?_⟩, rfl⟩
      rw [hq.2]
      exact hc
  · rintro x ⟨hxy, hq, ho, hc⟩
    obtain ⟨t1, t2⟩ := ht x hxy
    obtain ⟨t, e⟩ : ∃ t : Nat, thr l x = t := ⟨(thr l x).toNat, by omega⟩
    rw [e] at ho hc t2
    rw [Int.toNat_natCast] at hc
    have hg := lst_ge (Q := fun i => Q i && decide (thr l i = (t : Int))) (i := x) (by rw [Bool.and_eq_true, decide_eq_true_iff]; exact ⟨hq, e⟩) hxy
    have hm := eCnt_mono (l := l) (t := t) (show x ≤ lst (fun i => Q i && decide (thr l i = (t : Int))) y - 1 by omega)
    have := h3 t (by omega) ho (by
      unfold accG
      rw [if_neg (by omega)]
      dsimp only
      omega)
    refine Int.le_trans ?_ this
    unfold accG
    rw [if_neg (by omega)]
    dsimp only
    omega
/-- The last of those that are kept. -/
theorem last_range {P : Nat → Bool} {x : Nat} (hp : P x = true) : ∀ {m}, x < m → (∀ z, x < z → z < m → P z = false) → ((List.range m).filter P).getLast? = some x
  | 0, h, _ => by omega
  | m + 1, h, hz => by
    rw [List.range_succ, List.filter_append]
    by_cases e : x = m
    · subst e
      rw [List.filter_cons, if_pos hp, List.filter_nil]
      simp
    · rw [List.filter_cons, if_neg (by rw [hz m (by omega) (by omega)]; simp), List.filter_nil, List.append_nil]
      exact last_range hp (by omega) fun z h1 h2 => hz z h1 (by omega)
def qW (l : List EH) (w : Int) (x : Nat) : Bool := decide (knd l x = 2 ∧ (at' l x).w = w)
def qR (l : List EH) (w : Int) (x : Nat) : Bool := decide (knd l x = 1 ∧ (at' l x).w = w)
def qTW (l : List EH) (w : Int) (x : Nat) : Bool := decide (knd l x = 4) && (at' l x).wl.contains w
def qTR (l : List EH) (w : Int) (x : Nat) : Bool := decide (knd l x = 4) && (at' l x).rl.contains w
/-- The last racing place, or -1. -/
def tstM (l : List EH) (n y : Nat) (k own w : Int) (wr : Bool) (ck : Nat → Int) : Int :=
  let p0 := ltM own ck (fun t => accG l (qW l w) t y) (-1) n
  let p1 := if wr = true then ltM own ck (fun t => accG l (qR l w) t y) p0 n else p0
  let p2 := if k ≠ 4 then ltM own ck (fun t => accG l (qTW l w) t y) p1 n else p1
  if k ≠ 4 ∧ wr = true then ltM own ck (fun t => accG l (qTR l w) t y) p2 n else p2
theorem tstM_spec {l : List EH} {n y : Nat} {k own w : Int} {wr : Bool} {ck : Nat → Int} (ht : ∀ x, x < y → 0 ≤ thr l x ∧ thr l x < n) (hck : ∀ t, 0 ≤ ck t) (R : Nat → Prop)
    (hR : ∀ x, R x ↔ RC l (qW l w) own ck y x ∨ (wr = true ∧ RC l (qR l w) own ck y x) ∨ (k ≠ 4 ∧ RC l (qTW l w) own ck y x) ∨ ((k ≠ 4 ∧ wr = true) ∧ RC l (qTR l w) own ck y x)) :
    -1 ≤ tstM l n y k own w wr ck ∧ (tstM l n y k own w wr ck = -1 ∨ ∃ x, R x ∧ (x : Int) = tstM l n y k own w wr ck) ∧ ∀ x, R x → (x : Int) ≤ tstM l n y k own w wr ck := by
  have step : ∀ (Q : Nat → Bool) (c : Prop) [Decidable c] (pl : Int) (S : Nat → Prop), (-1 ≤ pl ∧ (pl = -1 ∨ ∃ x, S x ∧ (x : Int) = pl) ∧ ∀ x, S x → (x : Int) ≤ pl) →
      ∀ r, r = (if c then ltM own ck (fun t => accG l Q t y) pl n else pl) →
      -1 ≤ r ∧ (r = -1 ∨ ∃ x, (S x ∨ (c ∧ RC l Q own ck y x)) ∧ (x : Int) = r) ∧ ∀ x, (S x ∨ (c ∧ RC l Q own ck y x)) → (x : Int) ≤ r := by
    intro Q c _ pl S ⟨h1, h2, h3⟩ r hr
    subst hr
    obtain ⟨g1, g2, g3⟩ := ltM_acc (l := l) (Q := Q) (own := own) (ck := ck) (pl := pl) ht hck
    by_cases hc : c
    · simp only [if_pos hc]
      refine ⟨by omega, ?_, fun x hx => ?_⟩
      · rcases g2 with e | ⟨x, hx, e⟩
        · rw [e]
          exact h2.imp id fun ⟨x, hx, e⟩ => ⟨x, .inl hx, e⟩
        · exact .inr ⟨x, .inr ⟨hc, hx⟩, e⟩
      · rcases hx with hx | hx
        · have := h3 x hx; omega
        · exact g3 x hx.2
    · simp only [if_neg hc]
      exact ⟨h1, h2.imp id fun ⟨x, hx, e⟩ => ⟨x, .inl hx, e⟩, fun x hx => hx.elim (h3 x) fun h => absurd h.1 hc⟩
  obtain ⟨a1, a2, a3⟩ := ltM_acc (l := l) (Q := qW l w) (own := own) (ck := ck) (pl := -1) ht hck
  have s1 := step (qR l w) (wr = true) _ (fun x => RC l (qW l w) own ck y x) ⟨a1, a2, a3⟩ _ rfl
  have s2 := step (qTW l w) (k ≠ 4) _ _ s1 _ rfl
  have s3 := step (qTR l w) (k ≠ 4 ∧ wr = true) _ _ s2 _ rfl
  obtain ⟨b1, b2, b3⟩ := s3
  have e : ∀ x, (((RC l (qW l w) own ck y x ∨ (wr = true ∧ RC l (qR l w) own ck y x)) ∨ (k ≠ 4 ∧ RC l (qTW l w) own ck y x)) ∨ ((k ≠ 4 ∧ wr = true) ∧ RC l (qTR l w) own ck y x)) ↔ R x := fun x => by
    rw [hR x, or_assoc, or_assoc]
  exact ⟨b1, b2.imp id fun ⟨x, hx, h⟩ => ⟨x, (e x).1 hx, h⟩, fun x hx => b3 x ((e x).2 hx)⟩
end Go.Proofs.YtofjnldidkiihaaDoor
namespace Go.Proofs.YtofjnldidkiihaaDoor
open Go
theorem conf_iff {a b : EH} {w : Int} {wr : Bool} (ha : a.k = 1 ∨ a.k = 2 ∨ a.k = 4) (hb : b.k = 1 ∨ b.k = 2 ∨ b.k = 4) (ht : a.t ≠ b.t)
    (hA : (b.k ≠ 4 ∧ b.w = w ∧ wr = decide (b.k = 2)) ∨ (b.k = 4 ∧ wr = b.wl.contains w ∧ (b.wl.contains w = true ∨ b.rl.contains w = true))) :
    confB a b w = true ↔ (a.k = 2 ∧ a.w = w) ∨ (wr = true ∧ (a.k = 1 ∧ a.w = w)) ∨ (b.k ≠ 4 ∧ (a.k = 4 ∧ a.wl.contains w = true)) ∨ ((b.k ≠ 4 ∧ wr = true) ∧ (a.k = 4 ∧ a.rl.contains w = true)) := by
  unfold confB cfP
  generalize a.wl.contains w = a1
  generalize a.rl.contains w = a2
  rcases hA with ⟨h1, h2, h3⟩ | ⟨h1, h2, h3⟩
  · subst h3
    rcases ha with ha | ha | ha <;> rcases hb with hb | hb | hb
    all_goals first
      | (exact absurd hb h1)
      | (simp [ha, hb, h2, ht])
  · subst h2
    generalize b.wl.contains w = b1 at *
    generalize b.rl.contains w = b2 at *
    rcases ha with ha | ha | ha
    all_goals
      cases b1 <;> cases b2
      all_goals simp_all
theorem rc_iff {l : List EH} {n y : Nat} {w : Int} {wr : Bool} {ck : Nat → Int} (hw : Wf l n) (hy : y < l.length) (h3 : knd l y ≠ 3)
    (hA : (knd l y ≠ 4 ∧ (at' l y).w = w ∧ wr = decide (knd l y = 2)) ∨ (knd l y = 4 ∧ wr = (at' l y).wl.contains w ∧ ((at' l y).wl.contains w = true ∨ (at' l y).rl.contains w = true)))
    (hH : ∀ x, x < y → knd l x ≠ 3 → thr l x ≠ thr l y → (HB l x (toP l y) ↔ (eCnt l (thr l x) x : Int) + 1 ≤ ck (thr l x).toNat)) (x : Nat) :
    (x < y ∧ rcB l y w x = true) ↔ RC l (qW l w) (thr l y) ck y x ∨ (wr = true ∧ RC l (qR l w) (thr l y) ck y x) ∨ (knd l y ≠ 4 ∧ RC l (qTW l w) (thr l y) ck y x) ∨ ((knd l y ≠ 4 ∧ wr = true) ∧ RC l (qTR l w) (thr l y) ck y x) := by
  by_cases hxy : ¬ x < y
  · constructor
    · exact fun h => absurd h.1 hxy
    · rintro (h | ⟨_, h⟩ | ⟨_, h⟩ | ⟨_, h⟩) <;> exact absurd h.1 hxy
  have hxy := Decidable.of_not_not hxy
  by_cases hx3 : knd l x = 3
  · constructor
    · rintro ⟨_, h⟩
      unfold rcB at h
      rw [decide_eq_true hx3] at h
      cases h
    · rintro (h | ⟨_, h⟩ | ⟨_, h⟩ | ⟨_, h⟩)
      all_goals
        have := h.2.1
        simp [qW, qR, qTW, qTR, hx3] at this
  by_cases ht : thr l x = thr l y
  · constructor
    · rintro ⟨_, h⟩
      unfold rcB confB at h
      rw [decide_eq_true (show (at' l x).t = (at' l y).t from ht)] at h
      simp at h
    · rintro (h | ⟨_, h⟩ | ⟨_, h⟩ | ⟨_, h⟩) <;> exact absurd ht h.2.2.1
  have hk := hw.kd x (by omega)
  have hky := hw.kd y hy
  have hc := conf_iff (a := at' l x) (b := at' l y) (w := w) (wr := wr) (by unfold knd at hk hx3; omega) (by unfold knd at hky h3; omega) ht hA
  have hh := hH x hxy hx3 ht
  have hrc : rcB l y w x = true ↔ confB (at' l x) (at' l y) w = true ∧ ck (thr l x).toNat < (eCnt l (thr l x) x : Int) + 1 := by
    unfold rcB
    rw [decide_eq_false hx3, Bool.not_false, Bool.true_and, Bool.and_eq_true, Bool.not_eq_true', ← Bool.not_eq_true, hbB_iff, hh]
    constructor
    · exact fun ⟨a, b⟩ => ⟨a, by omega⟩
    · exact fun ⟨a, b⟩ => ⟨a, by omega⟩
  rw [hrc, hc]
  have e1 : qW l w x = true ↔ ((at' l x).k = 2 ∧ (at' l x).w = w) := by unfold qW knd; exact decide_eq_true_iff
  have e2 : qR l w x = true ↔ ((at' l x).k = 1 ∧ (at' l x).w = w) := by unfold qR knd; exact decide_eq_true_iff
  have e3 : qTW l w x = true ↔ ((at' l x).k = 4 ∧ (at' l x).wl.contains w = true) := by unfold qTW knd; rw [Bool.and_eq_true, decide_eq_true_iff]
  have e4 : qTR l w x = true ↔ ((at' l x).k = 4 ∧ (at' l x).rl.contains w = true) := by unfold qTR knd; rw [Bool.and_eq_true, decide_eq_true_iff]
  unfold RC
  rw [e1, e2, e3, e4]
  have ek : (at' l y).k = knd l y := rfl
  rw [ek]
  constructor
  · rintro ⟨_, h, hck⟩
    rcases h with h | ⟨g, h⟩ | ⟨g, h⟩ | ⟨g, h⟩
    · exact .inl ⟨hxy, h, ht, hck⟩
    · exact .inr (.inl ⟨g, hxy, h, ht, hck⟩)
    · exact .inr (.inr (.inl ⟨g, hxy, h, ht, hck⟩))
    · exact .inr (.inr (.inr ⟨g, hxy, h, ht, hck⟩))
  · rintro (⟨_, h, _, hck⟩ | ⟨g, _, h, _, hck⟩ | ⟨g, _, h, _, hck⟩ | ⟨g, _, h, _, hck⟩)
    · exact ⟨hxy, .inl h, hck⟩
    · exact ⟨hxy, .inr (.inl ⟨g, h⟩), hck⟩
    · exact ⟨hxy, .inr (.inr (.inl ⟨g, h⟩)), hck⟩
    · exact ⟨hxy, .inr (.inr (.inr ⟨g, h⟩)), hck⟩
/-- The test names the last race of a place and a word. -/
theorem tst_race {l : List EH} {n y : Nat} {w : Int} {wr : Bool} {ck : Nat → Int} (hw : Wf l n) (hy : y < l.length) (h3 : knd l y ≠ 3)
    (hA : (knd l y ≠ 4 ∧ (at' l y).w = w ∧ wr = decide (knd l y = 2)) ∨ (knd l y = 4 ∧ wr = (at' l y).wl.contains w ∧ ((at' l y).wl.contains w = true ∨ (at' l y).rl.contains w = true)))
    (hck : ∀ t, 0 ≤ ck t) (hH : ∀ x, x < y → knd l x ≠ 3 → thr l x ≠ thr l y → (HB l x (toP l y) ↔ (eCnt l (thr l x) x : Int) + 1 ≤ ck (thr l x).toNat)) :
    (tstM l n y (knd l y) (thr l y) w wr ck < 0 → rcL l y w y = []) ∧ (0 ≤ tstM l n y (knd l y) (thr l y) w wr ck → (rcL l y w y).getLast? = some (tstM l n y (knd l y) (thr l y) w wr ck, (y : Int), w)) := by
  obtain ⟨h1, h2, h4⟩ := tstM_spec (l := l) (n := n) (y := y) (k := knd l y) (own := thr l y) (w := w) (wr := wr) (ck := ck) (fun x hx => by have := hw.kd x (by omega); exact ⟨this.2.2.1, this.2.2.2.1⟩) hck (fun x => x < y ∧ rcB l y w x = true) (rc_iff hw hy h3 hA hH)
  generalize tstM l n y (knd l y) (thr l y) w wr ck = p at *
  constructor
  · intro hp
    unfold rcL
    rw [List.map_eq_nil_iff, List.filter_eq_nil_iff]
    intro x hx hb
    have := h4 x ⟨List.mem_range.1 hx, hb⟩
    omega
  · intro hp
    obtain ⟨x, ⟨hxy, hb⟩, rfl⟩ := h2.resolve_left (by omega)
    unfold rcL
    rw [List.getLast?_map, last_range hb hxy fun z hz hzy => by
      rw [← Bool.not_eq_true]
      intro hzb
      have := h4 z ⟨hzy, hzb⟩
      omega]
    rfl
end Go.Proofs.YtofjnldidkiihaaDoor
namespace Go.Proofs.YtofjnldidkiihaaDoor
open Go
theorem endB_app {l r : List EH} {t : Int} {i : Nat} (h : i < l.length) : endB (l ++ r) t i = endB l t i := by unfold endB; rw [knd_app h, thr_app h]
theorem eCnt_app {l r : List EH} {t : Int} : ∀ {m}, m ≤ l.length → eCnt (l ++ r) t m = eCnt l t m
  | 0, _ => rfl
  | m + 1, h => by unfold eCnt; rw [eCnt_app (by omega), endB_app (by omega)]
theorem lstE_app {l r : List EH} {t : Int} {m : Nat} (h : m ≤ l.length) : lst (endB (l ++ r) t) m = lst (endB l t) m := lst_congr fun i hi => endB_app (by omega)
theorem seenC_app {l r : List EH} {u t : Int} {m : Nat} (h : m ≤ l.length) : seenC (l ++ r) u m t = seenC l u m t := by
  unfold seenC
  rw [lstE_app h, eCnt_app (Nat.le_trans (lst_le _) h)]
theorem accG_app {l r : List EH} {Q R : Nat → Bool} {t : Int} : ∀ {m}, m ≤ l.length → (∀ i, i < l.length → Q i = R i) → accG (l ++ r) Q t m = accG l R t m
  | 0, _, _ => rfl
  | m + 1, h, hq => by rw [accG_succ, accG_succ, hq m (by omega), thr_app (by omega), eCnt_app (by omega), accG_app (by omega) hq]
theorem ltM_congr {own : Int} {ck ck' : Nat → Int} {f g : Nat → Int × Int} {pl : Int} : ∀ {n}, (∀ t, t < n → f t = g t ∧ ck t = ck' t) → ltM own ck f pl n = ltM own ck' g pl n
  | 0, _ => rfl
  | k + 1, h => by unfold ltM; rw [ltM_congr (f := f) (g := g) (ck' := ck') fun t ht => h t (by omega), (h k (by omega)).1, (h k (by omega)).2]
theorem tstM_app {l r : List EH} {n : Nat} {k own w : Int} {wr : Bool} {ck : Nat → Int} : tstM (l ++ r) n l.length k own w wr ck = tstM l n l.length k own w wr ck := by
  unfold tstM
  have h1 : ∀ t : Int, accG (l ++ r) (qW (l ++ r) w) t l.length = accG l (qW l w) t l.length := fun t => accG_app (Nat.le_refl _) fun i hi => by unfold qW; rw [knd_app hi, at_app hi]
  have h2 : ∀ t : Int, accG (l ++ r) (qR (l ++ r) w) t l.length = accG l (qR l w) t l.length := fun t => accG_app (Nat.le_refl _) fun i hi => by unfold qR; rw [knd_app hi, at_app hi]
  have h3 : ∀ t : Int, accG (l ++ r) (qTW (l ++ r) w) t l.length = accG l (qTW l w) t l.length := fun t => accG_app (Nat.le_refl _) fun i hi => by unfold qTW; rw [knd_app hi, at_app hi]
  have h4 : ∀ t : Int, accG (l ++ r) (qTR (l ++ r) w) t l.length = accG l (qTR l w) t l.length := fun t => accG_app (Nat.le_refl _) fun i hi => by unfold qTR; rw [knd_app hi, at_app hi]
  simp only [h1, h2, h3, h4]
theorem prs_app {l r : List EH} : ∀ {m}, m ≤ l.length → prs (l ++ r) m = prs l m
  | 0, _ => rfl
  | m + 1, h => by rw [prs_succ, prs_succ, prs_app (by omega), knd_app (by omega)]
theorem prs_mem {l : List EH} {m : Nat} {p : Nat × Int} (h : p ∈ prs l m) : p.1 < m ∧ knd l p.1 ≠ 3 := by
  unfold prs at h
  obtain ⟨y, hy, h⟩ := List.mem_flatMap.1 h
  split at h
  · cases h
  · rename_i h3
    obtain ⟨w, _, rfl⟩ := List.mem_map.1 h
    exact ⟨List.mem_range.1 hy, h3⟩
theorem findSome_congr {β γ : Type} {f g : β → Option γ} : ∀ {l : List β}, (∀ x ∈ l, f x = g x) → l.findSome? f = l.findSome? g
  | [], _ => rfl
  | a :: r, h => by
    rw [List.findSome?_cons, List.findSome?_cons, h a (List.mem_cons_self ..), findSome_congr fun x hx => h x (List.mem_cons_of_mem _ hx)]
/-- A first race stays the first. -/
theorem frst_app {l : List EH} {e : EH} {n : Nat} (hw : Wf l n) (h : (frst l).2.1 ≥ 0) : frst (l ++ [e]) = frst l := by
  have e1 : (prs l l.length).findSome? (fun p => (rcL (l ++ [e]) p.1 p.2 p.1).getLast?) = (prs l l.length).findSome? (fun p => (rcL l p.1 p.2 p.1).getLast?) := findSome_congr fun p hp => by
    obtain ⟨h1, h2⟩ := prs_mem hp
    rw [rcL_app hw h1 h2 p.1 (Nat.le_refl _)]
  have e2 : ∃ z, prs (l ++ [e]) (l ++ [e]).length = prs l l.length ++ z := by
    refine ⟨if knd (l ++ [e]) l.length = 3 then [] else (List.range 64).map fun (w : Nat) => (l.length, (w : Int)), ?_⟩
    rw [List.length_append]
    show prs (l ++ [e]) (l.length + 1) = _
    rw [prs_succ, prs_app (Nat.le_refl _)]
  obtain ⟨z, e2⟩ := e2
  unfold frst at h ⊢
  rw [e2, List.findSome?_append, e1]
  cases hf : (prs l l.length).findSome? (fun p => (rcL l p.1 p.2 p.1).getLast?) with
  | none => rw [hf] at h; exact absurd h (by decide)
  | some r => rfl
theorem knd_end {l : List EH} {e : EH} : knd (l ++ [e]) l.length = e.k := by unfold knd; rw [at_end]
theorem thr_end {l : List EH} {e : EH} : thr (l ++ [e]) l.length = e.t := by unfold thr; rw [at_end]
/-- No race so far, none of the event that is added. -/
theorem fr_none {l : List EH} {e : EH} {n : Nat} (hw : Wf (l ++ [e]) n) (hw0 : Wf l n) (h0 : rcA l l.length = []) (hn : e.k ≠ 3 → ∀ w ∈ touW e, rcL (l ++ [e]) l.length w l.length = []) : frst (l ++ [e]) = (-1, -1, -1) := by
  refine frst_none ?_
  rw [List.length_append]
  show rcA (l ++ [e]) (l.length + 1) = []
  rw [rcA_succ, rcA_app hw0 l.length (Nat.le_refl _), h0, List.nil_append]
  split
  · rfl
  · rename_i h3
    rw [rcW_tou hw (by simp) h3, at_end, List.flatMap_eq_nil_iff]
    exact hn (by rwa [knd_end] at h3)
/-- No race so far, one of the event that is added: the first of its words that has one. -/
theorem fr_hit {l : List EH} {e : EH} {n i : Nat} {w : Int} {r : RaceM} (hw : Wf (l ++ [e]) n) (hw0 : Wf l n) (h0 : rcA l l.length = []) (h3 : e.k ≠ 3) (hi : (touW e)[i]? = some w)
    (hpre : ∀ j w', j < i → (touW e)[j]? = some w' → rcL (l ++ [e]) l.length w' l.length = []) (hr : (rcL (l ++ [e]) l.length w l.length).getLast? = some r) : frst (l ++ [e]) = r := by
  have hy : l.length < (l ++ [e]).length := by simp
  have h3' : knd (l ++ [e]) l.length ≠ 3 := by rwa [knd_end]
  have hrng := touW_rng hw hy w (by rw [at_end]; exact List.mem_of_getElem? hi)
  refine frst_at (y := l.length) (w := w) hy h3' (by rw [rcA_app hw0 l.length (Nat.le_refl _)]; exact h0) hrng hr fun w' h1 h2 => ?_
  by_cases hm : w' ∈ touW e
  · obtain ⟨j, hj⟩ := List.getElem?_of_mem hm
    refine hpre j w' ?_ hj
    obtain ⟨hs, _, _⟩ := touW_spec e
    obtain ⟨hjl, ej⟩ := List.getElem?_eq_some_iff.1 hj
    obtain ⟨hil, ei⟩ := List.getElem?_eq_some_iff.1 hi
    rcases Nat.lt_trichotomy j i with h | h | h
    · exact h
    · subst h; rw [hj] at hi; have := Option.some.inj hi; omega
    · have := List.pairwise_iff_getElem.1 hs i j hil hjl h
      rw [ei, ej] at this
      omega
  · exact rcL_off hw hy h3' (by rw [at_end]; exact hm) _
end Go.Proofs.YtofjnldidkiihaaDoor
namespace Go.Proofs.YtofjnldidkiihaaDoor
open Go
theorem hH_plain {l : List EH} {n y : Nat} (hw : Wf l n) (hy : y < l.length) (hp : knd l y = 1 ∨ knd l y = 2) : ∀ x, x < y → knd l x ≠ 3 → thr l x ≠ thr l y → (HB l x (toP l y) ↔ (eCnt l (thr l x) x : Int) + 1 ≤ (seenC l (thr l y) y (((thr l x).toNat : Nat) : Int) : Int)) := fun x hx h3 ht => by
  have e : toP l y = y := by unfold toP; rw [if_neg (by omega)]
  have h0 := (hw.kd x (by omega)).2.2.1
  rw [e, Int.toNat_of_nonneg h0, hb_plain (t := thr l x) ⟨by omega, .inl h3⟩ hy hx rfl ht hp]
  omega
theorem hH_end {l : List EH} {n y : Nat} (hw : Wf l n) (hy : y < l.length) (h4 : knd l y = 4) : ∀ x, x < y → knd l x ≠ 3 → thr l x ≠ thr l y → (HB l x (toP l y) ↔ (eCnt l (thr l x) x : Int) + 1 ≤ (begC l (thr l y) y (((thr l x).toNat : Nat) : Int) : Int)) := fun x hx h3 ht => by
  obtain ⟨p, hp, hpy, hp3, hpt⟩ := bg_nat hw hy h4
  have hc := (toP_cnt hw hy (by omega)).1
  have e : toP l y = p := by unfold toP; rw [if_pos h4, hp, Int.toNat_natCast]
  have h0 := (hw.kd x (by omega)).2.2.1
  rw [e] at hc
  unfold begC
  rw [e, Int.toNat_of_nonneg h0, hp, Int.toNat_natCast, hb_begin (t := thr l x) ⟨by omega, .inl h3⟩ hc hp3 rfl (by rw [hpt]; exact ht)]
  omega
theorem seenC_succ {l : List EH} {u t : Int} {m : Nat} : seenC l u (m + 1) t = if endB l u m = true then eCnt l t (m + 1) else seenC l u m t := by
  unfold seenC
  have e : lst (endB l u) (m + 1) = if endB l u m = true then m + 1 else lst (endB l u) m := rfl
  rw [e]
  split <;> rfl
theorem begC_succ {l : List EH} {u t : Int} {m : Nat} : begC l u (m + 1) t = if thr l m = u then eCnt l t m else begC l u m t := by
  unfold begC
  have e : bgL l u (m + 1) = if thr l m = u then (m : Int) else bgL l u m := rfl
  rw [e]
  split
  · rw [Int.toNat_natCast]
  · rfl
/-- The rows of the state. -/
def endsR (l : List EH) (n : Nat) : List Int := rowG n fun t => (eCnt l t l.length : Int)
def seenR (l : List EH) (n : Nat) (u : Int) : List Int := rowG n fun t => (seenC l u l.length t : Int)
def begR (l : List EH) (n : Nat) (u : Int) : List Int := rowG n fun t => (begC l u l.length t : Int)
def accR (l : List EH) (n : Nat) (Q : List EH → Int → Nat → Bool) (w : Int) : List (Int × Int) := rowG n fun t => accG l (Q l w) t l.length
theorem eCnt_end {l : List EH} {e : EH} {t : Int} : eCnt (l ++ [e]) t (l.length + 1) = eCnt l t l.length + if e.k = 4 ∧ e.t = t then 1 else 0 := by
  show eCnt (l ++ [e]) t l.length + (if endB (l ++ [e]) t l.length = true then 1 else 0) = _
  rw [eCnt_app (Nat.le_refl _)]
  congr 1
  unfold endB
  rw [knd_end, thr_end]
  simp only [decide_eq_true_eq]
theorem len1 {l : List EH} {e : EH} : (l ++ [e]).length = l.length + 1 := by simp
theorem endsR_end {l : List EH} {e : EH} {n u : Nat} (hu : e.t = u) (h4 : e.k = 4) : (endsR l n).set u ((eCnt l u l.length : Int) + 1) = endsR (l ++ [e]) n := by
  unfold endsR
  refine rowG_set_eq fun t _ => ?_
  rw [len1, eCnt_end, hu]
  by_cases h : t = u
  · subst h; rw [if_pos rfl, if_pos ⟨h4, rfl⟩]; omega
  · rw [if_neg h, if_neg (fun x => h (by omega))]; omega
theorem endsR_same {l : List EH} {e : EH} {n : Nat} (h4 : e.k ≠ 4) : endsR (l ++ [e]) n = endsR l n := by
  unfold endsR
  refine rowG_congr fun t _ => ?_
  rw [len1, eCnt_end, if_neg (fun x => h4 x.1)]
  rfl
theorem seenR_end {l : List EH} {e : EH} {n : Nat} (h4 : e.k = 4) : seenR (l ++ [e]) n e.t = endsR (l ++ [e]) n := by
  unfold seenR endsR
  refine rowG_congr fun t _ => ?_
  rw [len1, seenC_succ, if_pos (endB_iff.2 ⟨knd_end.trans h4, thr_end⟩)]
theorem seenR_same {l : List EH} {e : EH} {n : Nat} {u : Int} (h : e.k ≠ 4 ∨ e.t ≠ u) : seenR (l ++ [e]) n u = seenR l n u := by
  unfold seenR
  refine rowG_congr fun t _ => ?_
  rw [len1, seenC_succ, if_neg (fun x => by
    obtain ⟨a, b⟩ := endB_iff.1 x
    rw [knd_end] at a
    rw [thr_end] at b
    rcases h with h | h <;> contradiction), seenC_app (Nat.le_refl _)]
theorem begR_begin {l : List EH} {e : EH} {n : Nat} : begR (l ++ [e]) n e.t = endsR l n := by
  unfold begR endsR
  refine rowG_congr fun t _ => ?_
  rw [len1, begC_succ, if_pos thr_end, eCnt_app (Nat.le_refl _)]
theorem bgL_rng {l : List EH} {u : Int} : ∀ {m}, m ≤ l.length → (bgL l u m).toNat ≤ l.length := fun {m} h => by
  have := bgL_lt l u m
  omega
theorem begR_same {l : List EH} {e : EH} {n : Nat} {u : Int} (h : e.t ≠ u) : begR (l ++ [e]) n u = begR l n u := by
  unfold begR
  refine rowG_congr fun t _ => ?_
  rw [len1, begC_succ, if_neg (by rw [thr_end]; exact h)]
  unfold begC
  rw [bgL_app l.length (Nat.le_refl _), eCnt_app (bgL_rng (Nat.le_refl _))]
theorem accR_set {l : List EH} {e : EH} {n u : Nat} {Q : List EH → Int → Nat → Bool} {w : Int} (hQ : ∀ i, i < l.length → Q (l ++ [e]) w i = Q l w i) (hu : e.t = u) (h : Q (l ++ [e]) w l.length = true) : (accR l n Q w).set u ((l.length : Int), (eCnt l u l.length : Int) + 1) = accR (l ++ [e]) n Q w := by
  unfold accR
  refine rowG_set_eq fun t _ => ?_
  rw [len1, accG_succ, thr_end, hu, eCnt_app (Nat.le_refl _)]
  by_cases ht : t = u
  · subst ht; rw [if_pos rfl, if_pos ⟨h, rfl⟩]
  · rw [if_neg ht, if_neg (fun x => ht (by omega)), accG_app (Nat.le_refl _) hQ]
theorem accR_same {l : List EH} {e : EH} {n : Nat} {Q : List EH → Int → Nat → Bool} {w : Int} (hQ : ∀ i, i < l.length → Q (l ++ [e]) w i = Q l w i) (h : Q (l ++ [e]) w l.length = false) : accR (l ++ [e]) n Q w = accR l n Q w := by
  unfold accR
  refine rowG_congr fun t _ => ?_
  rw [len1, accG_succ, if_neg (by rw [h]; simp), accG_app (Nat.le_refl _) hQ]
end Go.Proofs.YtofjnldidkiihaaDoor
namespace Go.Proofs.YtofjnldidkiihaaDoor
open Go
set_option maxRecDepth 10000
set_option maxHeartbeats 4000000
/-- An element of a clock, 0 where there is none. -/
def gtC (C : List Int) (t : Int) : Int := if 0 ≤ t ∧ t < C.length then C[t.toNat]?.getD 0 else 0
theorem gtC_at {C : List Int} {t : Nat} {x : Int} (h : C[t]? = some x) : gtC C t = x := by
  unfold gtC
  have := (List.getElem?_eq_some_iff.1 h).1
  rw [if_pos ⟨by omega, by omega⟩, Int.toNat_natCast, h]
  rfl
/-- An access that is kept. -/
abbrev encAc (x : Int × Int) : List Value := [.int .i64 x.1, .int .i64 x.2]
def fAc (A : List (Int × Int)) (t : Nat) : Int × Int := A[t]?.getD (0, 0)
theorem fAc_at {A : List (Int × Int)} {t : Nat} {x : Int × Int} (h : A[t]? = some x) : fAc A t = x := by unfold fAc; rw [h]; rfl
section
variable {W0 : World} {own : Own} {a c : Option Addr} {cap cc : Nat}
theorem sp_vget {C : List Int} (hC : RdE encI 1 W0 own c C) (t : Int) : Pure Tryd.prog W0 53 [.slice c C.length cc, .int .i64 t] own (.int .i64 (gtC C t)) := by
  refine pure_of (spec_of mixed low_vclock_Get (by simp [ir_vclock_Get]) ?_)
  by_cases h : 0 ≤ t ∧ t < C.length
  · obtain ⟨k, rfl⟩ : ∃ k : Nat, t = k := ⟨t.toNat, by omega⟩
    obtain ⟨x, hx⟩ : ∃ x, C[k]? = some x := ⟨_, List.getElem?_eq_getElem (by omega)⟩
    have h1 : ¬ (k : Int) < 0 := by omega
    have h2 : ¬ (k : Int) ≥ C.length := by omega
    rw [gtC_at hx]
    repeat' ((try (conv => whnf)); first | (refine when_ye ?_ ?_; exact rfl) | (refine when_ne ?_ ?_; exact rfl) | (refine br_te ?_ ?_; exact rfl) | (refine br_fe ?_ ?_; exact rfl) | (apply br_pyE; (exact rfl); omega) | (apply br_pnE; (exact rfl); omega) | (apply when_pyE; (exact rfl); omega) | (apply when_pnE; (exact rfl); omega) | (apply br_npyE; (exact rfl); omega) | (apply br_npnE; (exact rfl); omega) | (apply when_npyE; (exact rfl); omega) | (apply when_npnE; (exact rfl); omega) | (refine br_pyE ?_ h1 ?_; exact rfl) | (refine br_pnE ?_ h1 ?_; exact rfl) | (refine when_pyE ?_ h1 ?_; exact rfl) | (refine when_pnE ?_ h1 ?_; exact rfl) | (refine br_npyE ?_ h1 ?_; exact rfl) | (refine br_npnE ?_ h1 ?_; exact rfl) | (refine when_npyE ?_ h1 ?_; exact rfl) | (refine when_npnE ?_ h1 ?_; exact rfl) | (refine br_pyE ?_ h2 ?_; exact rfl) | (refine br_pnE ?_ h2 ?_; exact rfl) | (refine when_pyE ?_ h2 ?_; exact rfl) | (refine when_pnE ?_ h2 ?_; exact rfl) | (refine br_npyE ?_ h2 ?_; exact rfl) | (refine br_npnE ?_ h2 ?_; exact rfl) | (refine when_npyE ?_ h2 ?_; exact rfl) | (refine when_npnE ?_ h2 ?_; exact rfl) | ((with_reducible show Ld _ _ _ _); first | (refine ldE0 hC hx rfl ?_) | (refine ldEk hC hx rfl ?_) | (refine ldE1 hC hx rfl ?_)) | ((with_reducible show IxS _ _ _ _ _); first | ((refine ixE hC hx ?_ ?_; (first | rfl | omega)))) | ((with_reducible show LdN _ _ _ _ _); first | (refine ldNEi hC hx rfl ?_)) | (refine ari ?_ ?_; omega) | (refine aru ?_ ?_; omega) | (apply sel; exact rfl) | (refine ix0 rfl ?_) | (refine ix1 rfl ?_) | (refine ix2 rfl ?_) | (refine ix3 rfl ?_) | (apply ixj; omega) | (refine ixn ?_ ?_; omega) | (refine ixs0 rfl ?_) | (refine ixs1 rfl ?_) | (refine ixs_j ?_ ?_; omega) | (refine ixs_n ?_ ?_; omega) | (apply ld_o; exact rfl) | (apply ldN_a; exact rfl) | (apply ldN_o; (exact rfl); exact rfl) | (apply st_o; (exact rfl); exact rfl) | (apply stN_o; (exact rfl); (exact rfl); exact rfl) | (refine new_i (fun bk hbk => ?_)) | (apply when_dE; (exact rfl); (exact rfl); all_goals intro hc) | (apply when_dF; (exact rfl); (exact rfl); all_goals intro hc) | (apply when_nE; (exact rfl); (exact rfl); all_goals intro hc) | (apply when_nF; (exact rfl); (exact rfl); all_goals intro hc) | (apply br_dE; (exact rfl); all_goals intro hc) | (apply br_nE; (exact rfl); all_goals intro hc) | (refine mm_min ?_) | (refine mm_max ?_) | (refine rem_i ?_ ?_; omega) | (refine SelN.mk ?_) | (refine cut_n ?_) | (refine Both.mk ?_ ?_) | (exact True.intro))
    exact ⟨rfl, (by first | exact ent_i | (repeat (first | exact Ent.refl | exact Ent.left | refine Ent.cons ?_ | refine Ent.app ?_)))⟩
  · have e : gtC C t = 0 := by unfold gtC; rw [if_neg h]
    rw [e]
    by_cases h1 : t < 0
    · repeat' ((try (conv => whnf)); first | (refine when_ye ?_ ?_; exact rfl) | (refine when_ne ?_ ?_; exact rfl) | (refine br_te ?_ ?_; exact rfl) | (refine br_fe ?_ ?_; exact rfl) | (apply br_pyE; (exact rfl); omega) | (apply br_pnE; (exact rfl); omega) | (apply when_pyE; (exact rfl); omega) | (apply when_pnE; (exact rfl); omega) | (apply br_npyE; (exact rfl); omega) | (apply br_npnE; (exact rfl); omega) | (apply when_npyE; (exact rfl); omega) | (apply when_npnE; (exact rfl); omega) | (refine br_pyE ?_ h1 ?_; exact rfl) | (refine br_pnE ?_ h1 ?_; exact rfl) | (refine when_pyE ?_ h1 ?_; exact rfl) | (refine when_pnE ?_ h1 ?_; exact rfl) | (refine br_npyE ?_ h1 ?_; exact rfl) | (refine br_npnE ?_ h1 ?_; exact rfl) | (refine when_npyE ?_ h1 ?_; exact rfl) | (refine when_npnE ?_ h1 ?_; exact rfl) | (refine ari ?_ ?_; omega) | (refine aru ?_ ?_; omega) | (apply sel; exact rfl) | (refine ix0 rfl ?_) | (refine ix1 rfl ?_) | (refine ix2 rfl ?_) | (refine ix3 rfl ?_) | (apply ixj; omega) | (refine ixn ?_ ?_; omega) | (refine ixs0 rfl ?_) | (refine ixs1 rfl ?_) | (refine ixs_j ?_ ?_; omega) | (refine ixs_n ?_ ?_; omega) | (apply ld_o; exact rfl) | (apply ldN_a; exact rfl) | (apply ldN_o; (exact rfl); exact rfl) | (apply st_o; (exact rfl); exact rfl) | (apply stN_o; (exact rfl); (exact rfl); exact rfl) | (refine new_i (fun bk hbk => ?_)) | (apply when_dE; (exact rfl); (exact rfl); all_goals intro hc) | (apply when_dF; (exact rfl); (exact rfl); all_goals intro hc) | (apply when_nE; (exact rfl); (exact rfl); all_goals intro hc) | (apply when_nF; (exact rfl); (exact rfl); all_goals intro hc) | (apply br_dE; (exact rfl); all_goals intro hc) | (apply br_nE; (exact rfl); all_goals intro hc) | (refine mm_min ?_) | (refine mm_max ?_) | (refine rem_i ?_ ?_; omega) | (refine SelN.mk ?_) | (refine cut_n ?_) | (refine Both.mk ?_ ?_) | (exact True.intro))
      exact ⟨rfl, (by first | exact ent_i | (repeat (first | exact Ent.refl | exact Ent.left | refine Ent.cons ?_ | refine Ent.app ?_)))⟩
    · have h2 : t ≥ C.length := by omega
      repeat' ((try (conv => whnf)); first | (refine when_ye ?_ ?_; exact rfl) | (refine when_ne ?_ ?_; exact rfl) | (refine br_te ?_ ?_; exact rfl) | (refine br_fe ?_ ?_; exact rfl) | (apply br_pyE; (exact rfl); omega) | (apply br_pnE; (exact rfl); omega) | (apply when_pyE; (exact rfl); omega) | (apply when_pnE; (exact rfl); omega) | (apply br_npyE; (exact rfl); omega) | (apply br_npnE; (exact rfl); omega) | (apply when_npyE; (exact rfl); omega) | (apply when_npnE; (exact rfl); omega) | (refine br_pyE ?_ h1 ?_; exact rfl) | (refine br_pnE ?_ h1 ?_; exact rfl) | (refine when_pyE ?_ h1 ?_; exact rfl) | (refine when_pnE ?_ h1 ?_; exact rfl) | (refine br_npyE ?_ h1 ?_; exact rfl) | (refine br_npnE ?_ h1 ?_; exact rfl) | (refine when_npyE ?_ h1 ?_; exact rfl) | (refine when_npnE ?_ h1 ?_; exact rfl) | (refine br_pyE ?_ h2 ?_; exact rfl) | (refine br_pnE ?_ h2 ?_; exact rfl) | (refine when_pyE ?_ h2 ?_; exact rfl) | (refine when_pnE ?_ h2 ?_; exact rfl) | (refine br_npyE ?_ h2 ?_; exact rfl) | (refine br_npnE ?_ h2 ?_; exact rfl) | (refine when_npyE ?_ h2 ?_; exact rfl) | (refine when_npnE ?_ h2 ?_; exact rfl) | (refine ari ?_ ?_; omega) | (refine aru ?_ ?_; omega) | (apply sel; exact rfl) | (refine ix0 rfl ?_) | (refine ix1 rfl ?_) | (refine ix2 rfl ?_) | (refine ix3 rfl ?_) | (apply ixj; omega) | (refine ixn ?_ ?_; omega) | (refine ixs0 rfl ?_) | (refine ixs1 rfl ?_) | (refine ixs_j ?_ ?_; omega) | (refine ixs_n ?_ ?_; omega) | (apply ld_o; exact rfl) | (apply ldN_a; exact rfl) | (apply ldN_o; (exact rfl); exact rfl) | (apply st_o; (exact rfl); exact rfl) | (apply stN_o; (exact rfl); (exact rfl); exact rfl) | (refine new_i (fun bk hbk => ?_)) | (apply when_dE; (exact rfl); (exact rfl); all_goals intro hc) | (apply when_dF; (exact rfl); (exact rfl); all_goals intro hc) | (apply when_nE; (exact rfl); (exact rfl); all_goals intro hc) | (apply when_nF; (exact rfl); (exact rfl); all_goals intro hc) | (apply br_dE; (exact rfl); all_goals intro hc) | (apply br_nE; (exact rfl); all_goals intro hc) | (refine mm_min ?_) | (refine mm_max ?_) | (refine rem_i ?_ ?_; omega) | (refine SelN.mk ?_) | (refine cut_n ?_) | (refine Both.mk ?_ ?_) | (exact True.intro))
      exact ⟨rfl, (by first | exact ent_i | (repeat (first | exact Ent.refl | exact Ent.left | refine Ent.cons ?_ | refine Ent.app ?_)))⟩
theorem sp_latest {C : List Int} {A : List (Int × Int)} (hC : RdE encI 1 W0 own c C) (hA : RdE encAc 2 W0 own a A) (hl : A.length ≤ 65536) (pl o : Int) :
    Pure Tryd.prog W0 77 [.int .i64 pl, .slice a A.length cap, .int .i64 o, .slice c C.length cc] own (.int .i64 (ltM o (fun t => gtC C t) (fAc A) pl A.length)) := by
  refine pure_of (spec_of mixed low_tdrf_latest (by simp [ir_tdrf_latest]) ?_)
  have hg := fun (own' : Own) [EntC own' own] (t : Int) => sp_vget (W0 := W0) (own := own') (cc := cc) hC.up t
  repeat' ((try (conv => whnf)); first | (refine when_ye ?_ ?_; exact rfl) | (refine when_ne ?_ ?_; exact rfl) | (refine br_te ?_ ?_; exact rfl) | (refine br_fe ?_ ?_; exact rfl) | (apply br_pyE; (exact rfl); omega) | (apply br_pnE; (exact rfl); omega) | (apply when_pyE; (exact rfl); omega) | (apply when_pnE; (exact rfl); omega) | (apply br_npyE; (exact rfl); omega) | (apply br_npnE; (exact rfl); omega) | (apply when_npyE; (exact rfl); omega) | (apply when_npnE; (exact rfl); omega) | (refine ari ?_ ?_; omega) | (refine aru ?_ ?_; omega) | (apply sel; exact rfl) | (refine ix0 rfl ?_) | (refine ix1 rfl ?_) | (refine ix2 rfl ?_) | (refine ix3 rfl ?_) | (apply ixj; omega) | (refine ixn ?_ ?_; omega) | (refine ixs0 rfl ?_) | (refine ixs1 rfl ?_) | (refine ixs_j ?_ ?_; omega) | (refine ixs_n ?_ ?_; omega) | (apply ld_o; exact rfl) | (apply ldN_a; exact rfl) | (apply ldN_o; (exact rfl); exact rfl) | (apply st_o; (exact rfl); exact rfl) | (apply stN_o; (exact rfl); (exact rfl); exact rfl) | (refine new_i (fun bk hbk => ?_)) | (apply when_dE; (exact rfl); (exact rfl); all_goals intro hc) | (apply when_dF; (exact rfl); (exact rfl); all_goals intro hc) | (apply when_nE; (exact rfl); (exact rfl); all_goals intro hc) | (apply when_nF; (exact rfl); (exact rfl); all_goals intro hc) | (apply br_dE; (exact rfl); all_goals intro hc) | (apply br_nE; (exact rfl); all_goals intro hc) | (refine mm_min ?_) | (refine mm_max ?_) | (refine rem_i ?_ ?_; omega) | (refine SelN.mk ?_) | (refine cut_n ?_) | (refine Both.mk ?_ ?_) | (exact True.intro))
  refine loop_c (σ := Nat) (fun i => [(0, .int .i64 (ltM o (fun t => gtC C t) (fAc A) pl i)), (13, .int .i64 i)]) (fun i => i ≤ A.length) (fun i => A.length - i) 0 (by omega) (by repeat' (first | exact True.intro | refine And.intro ?_ ?_ | exact rfl | exact vi (by omega) | (dsimp only; exact rfl) | (dsimp only; exact vi (by omega)))) rfl ?_
  intro i junk hi
  by_cases hlt : i < A.length
  · have hlt' : (i : Int) < A.length := by omega
    obtain ⟨x, hx⟩ : ∃ x, A[i]? = some x := ⟨_, List.getElem?_eq_getElem hlt⟩
    have hs : ltM o (fun t => gtC C t) (fAc A) pl (i + 1) = if (i : Int) ≠ o ∧ x.2 > gtC C i ∧ x.1 > ltM o (fun t => gtC C t) (fAc A) pl i then x.1 else ltM o (fun t => gtC C t) (fAc A) pl i := by
      show (if (i : Int) ≠ o ∧ (fAc A i).2 > gtC C i ∧ (fAc A i).1 > _ then (fAc A i).1 else _) = _
      rw [fAc_at hx]
    obtain ⟨x1, x2⟩ := x
    dsimp only at hs
    generalize hp : ltM o (fun t => gtC C t) (fAc A) pl i = p at *
    by_cases h1 : (i : Int) = o
    · rw [if_neg (fun h => h.1 h1)] at hs
      have h1' : ¬ (i : Int) ≠ o := fun h => h h1
      repeat' ((try (conv => whnf)); first | (refine when_ye ?_ ?_; exact rfl) | (refine when_ne ?_ ?_; exact rfl) | (refine br_te ?_ ?_; exact rfl) | (refine br_fe ?_ ?_; exact rfl) | (apply br_pyE; (exact rfl); omega) | (apply br_pnE; (exact rfl); omega) | (apply when_pyE; (exact rfl); omega) | (apply when_pnE; (exact rfl); omega) | (apply br_npyE; (exact rfl); omega) | (apply br_npnE; (exact rfl); omega) | (apply when_npyE; (exact rfl); omega) | (apply when_npnE; (exact rfl); omega) | (refine br_pyE ?_ hlt' ?_; exact rfl) | (refine br_pnE ?_ hlt' ?_; exact rfl) | (refine when_pyE ?_ hlt' ?_; exact rfl) | (refine when_pnE ?_ hlt' ?_; exact rfl) | (refine br_npyE ?_ hlt' ?_; exact rfl) | (refine br_npnE ?_ hlt' ?_; exact rfl) | (refine when_npyE ?_ hlt' ?_; exact rfl) | (refine when_npnE ?_ hlt' ?_; exact rfl) | (refine br_pyE ?_ h1 ?_; exact rfl) | (refine br_pnE ?_ h1 ?_; exact rfl) | (refine when_pyE ?_ h1 ?_; exact rfl) | (refine when_pnE ?_ h1 ?_; exact rfl) | (refine br_npyE ?_ h1 ?_; exact rfl) | (refine br_npnE ?_ h1 ?_; exact rfl) | (refine when_npyE ?_ h1 ?_; exact rfl) | (refine when_npnE ?_ h1 ?_; exact rfl) | ((with_reducible show Ld _ _ _ _); first | (refine ldE0 hA hx rfl ?_) | (refine ldEk hA hx rfl ?_) | (refine ldE1 hA hx rfl ?_)) | ((with_reducible show IxS _ _ _ _ _); first | ((refine ixE hA hx ?_ ?_; (first | rfl | omega)))) | ((with_reducible show LdN _ _ _ _ _); first | (refine ldNEi hA hx rfl ?_)) | (refine ari ?_ ?_; omega) | (refine aru ?_ ?_; omega) | (apply sel; exact rfl) | (refine ix0 rfl ?_) | (refine ix1 rfl ?_) | (refine ix2 rfl ?_) | (refine ix3 rfl ?_) | (apply ixj; omega) | (refine ixn ?_ ?_; omega) | (refine ixs0 rfl ?_) | (refine ixs1 rfl ?_) | (refine ixs_j ?_ ?_; omega) | (refine ixs_n ?_ ?_; omega) | (apply ld_o; exact rfl) | (apply ldN_a; exact rfl) | (apply ldN_o; (exact rfl); exact rfl) | (apply st_o; (exact rfl); exact rfl) | (apply stN_o; (exact rfl); (exact rfl); exact rfl) | (refine new_i (fun bk hbk => ?_)) | (apply when_dE; (exact rfl); (exact rfl); all_goals intro hc) | (apply when_dF; (exact rfl); (exact rfl); all_goals intro hc) | (apply when_nE; (exact rfl); (exact rfl); all_goals intro hc) | (apply when_nF; (exact rfl); (exact rfl); all_goals intro hc) | (apply br_dE; (exact rfl); all_goals intro hc) | (apply br_nE; (exact rfl); all_goals intro hc) | (refine mm_min ?_) | (refine mm_max ?_) | (refine rem_i ?_ ?_; omega) | (refine SelN.mk ?_) | (refine cut_n ?_) | (refine Both.mk ?_ ?_) | (exact True.intro))
      exact ⟨i + 1, by omega, by omega, by rw [hs]; exact (by repeat' (first | exact True.intro | refine And.intro ?_ ?_ | exact rfl | exact vi (by omega) | (dsimp only; exact rfl) | (dsimp only; exact vi (by omega)))), (by first | exact ent_i | (repeat (first | exact Ent.refl | exact Ent.left | refine Ent.cons ?_ | refine Ent.app ?_)))⟩
    · by_cases h2 : x2 > gtC C i
      · by_cases h3 : x1 > p
        · rw [if_pos ⟨h1, h2, h3⟩] at hs
          repeat' ((try (conv => whnf)); first | (refine when_ye ?_ ?_; exact rfl) | (refine when_ne ?_ ?_; exact rfl) | (refine br_te ?_ ?_; exact rfl) | (refine br_fe ?_ ?_; exact rfl) | (apply br_pyE; (exact rfl); omega) | (apply br_pnE; (exact rfl); omega) | (apply when_pyE; (exact rfl); omega) | (apply when_pnE; (exact rfl); omega) | (apply br_npyE; (exact rfl); omega) | (apply br_npnE; (exact rfl); omega) | (apply when_npyE; (exact rfl); omega) | (apply when_npnE; (exact rfl); omega) | (refine br_pyE ?_ hlt' ?_; exact rfl) | (refine br_pnE ?_ hlt' ?_; exact rfl) | (refine when_pyE ?_ hlt' ?_; exact rfl) | (refine when_pnE ?_ hlt' ?_; exact rfl) | (refine br_npyE ?_ hlt' ?_; exact rfl) | (refine br_npnE ?_ hlt' ?_; exact rfl) | (refine when_npyE ?_ hlt' ?_; exact rfl) | (refine when_npnE ?_ hlt' ?_; exact rfl) | (refine br_pyE ?_ h1 ?_; exact rfl) | (refine br_pnE ?_ h1 ?_; exact rfl) | (refine when_pyE ?_ h1 ?_; exact rfl) | (refine when_pnE ?_ h1 ?_; exact rfl) | (refine br_npyE ?_ h1 ?_; exact rfl) | (refine br_npnE ?_ h1 ?_; exact rfl) | (refine when_npyE ?_ h1 ?_; exact rfl) | (refine when_npnE ?_ h1 ?_; exact rfl) | (refine br_pyE ?_ h2 ?_; exact rfl) | (refine br_pnE ?_ h2 ?_; exact rfl) | (refine when_pyE ?_ h2 ?_; exact rfl) | (refine when_pnE ?_ h2 ?_; exact rfl) | (refine br_npyE ?_ h2 ?_; exact rfl) | (refine br_npnE ?_ h2 ?_; exact rfl) | (refine when_npyE ?_ h2 ?_; exact rfl) | (refine when_npnE ?_ h2 ?_; exact rfl) | (refine br_pyE ?_ h3 ?_; exact rfl) | (refine br_pnE ?_ h3 ?_; exact rfl) | (refine when_pyE ?_ h3 ?_; exact rfl) | (refine when_pnE ?_ h3 ?_; exact rfl) | (refine br_npyE ?_ h3 ?_; exact rfl) | (refine br_npnE ?_ h3 ?_; exact rfl) | (refine when_npyE ?_ h3 ?_; exact rfl) | (refine when_npnE ?_ h3 ?_; exact rfl) | ((with_reducible show Ld _ _ _ _); first | (refine ldE0 hA hx rfl ?_) | (refine ldEk hA hx rfl ?_) | (refine ldE1 hA hx rfl ?_)) | ((with_reducible show IxS _ _ _ _ _); first | ((refine ixE hA hx ?_ ?_; (first | rfl | omega)))) | ((with_reducible show LdN _ _ _ _ _); first | (refine ldNEi hA hx rfl ?_)) | ((with_reducible show CallQ _ _ _ _ _ _); first | (((refine call_qi (fun ex => hg (ex ++ _) i) ?_ ?_ ?_; (exact rfl); exact rfl)))) | (refine ari ?_ ?_; omega) | (refine aru ?_ ?_; omega) | (apply sel; exact rfl) | (refine ix0 rfl ?_) | (refine ix1 rfl ?_) | (refine ix2 rfl ?_) | (refine ix3 rfl ?_) | (apply ixj; omega) | (refine ixn ?_ ?_; omega) | (refine ixs0 rfl ?_) | (refine ixs1 rfl ?_) | (refine ixs_j ?_ ?_; omega) | (refine ixs_n ?_ ?_; omega) | (apply ld_o; exact rfl) | (apply ldN_a; exact rfl) | (apply ldN_o; (exact rfl); exact rfl) | (apply st_o; (exact rfl); exact rfl) | (apply stN_o; (exact rfl); (exact rfl); exact rfl) | (refine new_i (fun bk hbk => ?_)) | (apply when_dE; (exact rfl); (exact rfl); all_goals intro hc) | (apply when_dF; (exact rfl); (exact rfl); all_goals intro hc) | (apply when_nE; (exact rfl); (exact rfl); all_goals intro hc) | (apply when_nF; (exact rfl); (exact rfl); all_goals intro hc) | (apply br_dE; (exact rfl); all_goals intro hc) | (apply br_nE; (exact rfl); all_goals intro hc) | (refine mm_min ?_) | (refine mm_max ?_) | (refine rem_i ?_ ?_; omega) | (refine SelN.mk ?_) | (refine cut_n ?_) | (refine Both.mk ?_ ?_) | (exact True.intro))
          exact ⟨i + 1, by omega, by omega, by rw [hs]; exact (by repeat' (first | exact True.intro | refine And.intro ?_ ?_ | exact rfl | exact vi (by omega) | (dsimp only; exact rfl) | (dsimp only; exact vi (by omega)))), (by first | exact ent_i | (repeat (first | exact Ent.refl | exact Ent.left | refine Ent.cons ?_ | refine Ent.app ?_)))⟩
        · rw [if_neg (fun h => h3 h.2.2)] at hs
          repeat' ((try (conv => whnf)); first | (refine when_ye ?_ ?_; exact rfl) | (refine when_ne ?_ ?_; exact rfl) | (refine br_te ?_ ?_; exact rfl) | (refine br_fe ?_ ?_; exact rfl) | (apply br_pyE; (exact rfl); omega) | (apply br_pnE; (exact rfl); omega) | (apply when_pyE; (exact rfl); omega) | (apply when_pnE; (exact rfl); omega) | (apply br_npyE; (exact rfl); omega) | (apply br_npnE; (exact rfl); omega) | (apply when_npyE; (exact rfl); omega) | (apply when_npnE; (exact rfl); omega) | (refine br_pyE ?_ hlt' ?_; exact rfl) | (refine br_pnE ?_ hlt' ?_; exact rfl) | (refine when_pyE ?_ hlt' ?_; exact rfl) | (refine when_pnE ?_ hlt' ?_; exact rfl) | (refine br_npyE ?_ hlt' ?_; exact rfl) | (refine br_npnE ?_ hlt' ?_; exact rfl) | (refine when_npyE ?_ hlt' ?_; exact rfl) | (refine when_npnE ?_ hlt' ?_; exact rfl) | (refine br_pyE ?_ h1 ?_; exact rfl) | (refine br_pnE ?_ h1 ?_; exact rfl) | (refine when_pyE ?_ h1 ?_; exact rfl) | (refine when_pnE ?_ h1 ?_; exact rfl) | (refine br_npyE ?_ h1 ?_; exact rfl) | (refine br_npnE ?_ h1 ?_; exact rfl) | (refine when_npyE ?_ h1 ?_; exact rfl) | (refine when_npnE ?_ h1 ?_; exact rfl) | (refine br_pyE ?_ h2 ?_; exact rfl) | (refine br_pnE ?_ h2 ?_; exact rfl) | (refine when_pyE ?_ h2 ?_; exact rfl) | (refine when_pnE ?_ h2 ?_; exact rfl) | (refine br_npyE ?_ h2 ?_; exact rfl) | (refine br_npnE ?_ h2 ?_; exact rfl) | (refine when_npyE ?_ h2 ?_; exact rfl) | (refine when_npnE ?_ h2 ?_; exact rfl) | (refine br_pyE ?_ h3 ?_; exact rfl) | (refine br_pnE ?_ h3 ?_; exact rfl) | (refine when_pyE ?_ h3 ?_; exact rfl) | (refine when_pnE ?_ h3 ?_; exact rfl) | (refine br_npyE ?_ h3 ?_; exact rfl) | (refine br_npnE ?_ h3 ?_; exact rfl) | (refine when_npyE ?_ h3 ?_; exact rfl) | (refine when_npnE ?_ h3 ?_; exact rfl) | ((with_reducible show Ld _ _ _ _); first | (refine ldE0 hA hx rfl ?_) | (refine ldEk hA hx rfl ?_) | (refine ldE1 hA hx rfl ?_)) | ((with_reducible show IxS _ _ _ _ _); first | ((refine ixE hA hx ?_ ?_; (first | rfl | omega)))) | ((with_reducible show LdN _ _ _ _ _); first | (refine ldNEi hA hx rfl ?_)) | ((with_reducible show CallQ _ _ _ _ _ _); first | (((refine call_qi (fun ex => hg (ex ++ _) i) ?_ ?_ ?_; (exact rfl); exact rfl)))) | (refine ari ?_ ?_; omega) | (refine aru ?_ ?_; omega) | (apply sel; exact rfl) | (refine ix0 rfl ?_) | (refine ix1 rfl ?_) | (refine ix2 rfl ?_) | (refine ix3 rfl ?_) | (apply ixj; omega) | (refine ixn ?_ ?_; omega) | (refine ixs0 rfl ?_) | (refine ixs1 rfl ?_) | (refine ixs_j ?_ ?_; omega) | (refine ixs_n ?_ ?_; omega) | (apply ld_o; exact rfl) | (apply ldN_a; exact rfl) | (apply ldN_o; (exact rfl); exact rfl) | (apply st_o; (exact rfl); exact rfl) | (apply stN_o; (exact rfl); (exact rfl); exact rfl) | (refine new_i (fun bk hbk => ?_)) | (apply when_dE; (exact rfl); (exact rfl); all_goals intro hc) | (apply when_dF; (exact rfl); (exact rfl); all_goals intro hc) | (apply when_nE; (exact rfl); (exact rfl); all_goals intro hc) | (apply when_nF; (exact rfl); (exact rfl); all_goals intro hc) | (apply br_dE; (exact rfl); all_goals intro hc) | (apply br_nE; (exact rfl); all_goals intro hc) | (refine mm_min ?_) | (refine mm_max ?_) | (refine rem_i ?_ ?_; omega) | (refine SelN.mk ?_) | (refine cut_n ?_) | (refine Both.mk ?_ ?_) | (exact True.intro))
          exact ⟨i + 1, by omega, by omega, by rw [hs]; exact (by repeat' (first | exact True.intro | refine And.intro ?_ ?_ | exact rfl | exact vi (by omega) | (dsimp only; exact rfl) | (dsimp only; exact vi (by omega)))), (by first | exact ent_i | (repeat (first | exact Ent.refl | exact Ent.left | refine Ent.cons ?_ | refine Ent.app ?_)))⟩
      · rw [if_neg (fun h => h2 h.2.1)] at hs
        repeat' ((try (conv => whnf)); first | (refine when_ye ?_ ?_; exact rfl) | (refine when_ne ?_ ?_; exact rfl) | (refine br_te ?_ ?_; exact rfl) | (refine br_fe ?_ ?_; exact rfl) | (apply br_pyE; (exact rfl); omega) | (apply br_pnE; (exact rfl); omega) | (apply when_pyE; (exact rfl); omega) | (apply when_pnE; (exact rfl); omega) | (apply br_npyE; (exact rfl); omega) | (apply br_npnE; (exact rfl); omega) | (apply when_npyE; (exact rfl); omega) | (apply when_npnE; (exact rfl); omega) | (refine br_pyE ?_ hlt' ?_; exact rfl) | (refine br_pnE ?_ hlt' ?_; exact rfl) | (refine when_pyE ?_ hlt' ?_; exact rfl) | (refine when_pnE ?_ hlt' ?_; exact rfl) | (refine br_npyE ?_ hlt' ?_; exact rfl) | (refine br_npnE ?_ hlt' ?_; exact rfl) | (refine when_npyE ?_ hlt' ?_; exact rfl) | (refine when_npnE ?_ hlt' ?_; exact rfl) | (refine br_pyE ?_ h1 ?_; exact rfl) | (refine br_pnE ?_ h1 ?_; exact rfl) | (refine when_pyE ?_ h1 ?_; exact rfl) | (refine when_pnE ?_ h1 ?_; exact rfl) | (refine br_npyE ?_ h1 ?_; exact rfl) | (refine br_npnE ?_ h1 ?_; exact rfl) | (refine when_npyE ?_ h1 ?_; exact rfl) | (refine when_npnE ?_ h1 ?_; exact rfl) | (refine br_pyE ?_ h2 ?_; exact rfl) | (refine br_pnE ?_ h2 ?_; exact rfl) | (refine when_pyE ?_ h2 ?_; exact rfl) | (refine when_pnE ?_ h2 ?_; exact rfl) | (refine br_npyE ?_ h2 ?_; exact rfl) | (refine br_npnE ?_ h2 ?_; exact rfl) | (refine when_npyE ?_ h2 ?_; exact rfl) | (refine when_npnE ?_ h2 ?_; exact rfl) | ((with_reducible show Ld _ _ _ _); first | (refine ldE0 hA hx rfl ?_) | (refine ldEk hA hx rfl ?_) | (refine ldE1 hA hx rfl ?_)) | ((with_reducible show IxS _ _ _ _ _); first | ((refine ixE hA hx ?_ ?_; (first | rfl | omega)))) | ((with_reducible show LdN _ _ _ _ _); first | (refine ldNEi hA hx rfl ?_)) | ((with_reducible show CallQ _ _ _ _ _ _); first | (((refine call_qi (fun ex => hg (ex ++ _) i) ?_ ?_ ?_; (exact rfl); exact rfl)))) | (refine ari ?_ ?_; omega) | (refine aru ?_ ?_; omega) | (apply sel; exact rfl) | (refine ix0 rfl ?_) | (refine ix1 rfl ?_) | (refine ix2 rfl ?_) | (refine ix3 rfl ?_) | (apply ixj; omega) | (refine ixn ?_ ?_; omega) | (refine ixs0 rfl ?_) | (refine ixs1 rfl ?_) | (refine ixs_j ?_ ?_; omega) | (refine ixs_n ?_ ?_; omega) | (apply ld_o; exact rfl) | (apply ldN_a; exact rfl) | (apply ldN_o; (exact rfl); exact rfl) | (apply st_o; (exact rfl); exact rfl) | (apply stN_o; (exact rfl); (exact rfl); exact rfl) | (refine new_i (fun bk hbk => ?_)) | (apply when_dE; (exact rfl); (exact rfl); all_goals intro hc) | (apply when_dF; (exact rfl); (exact rfl); all_goals intro hc) | (apply when_nE; (exact rfl); (exact rfl); all_goals intro hc) | (apply when_nF; (exact rfl); (exact rfl); all_goals intro hc) | (apply br_dE; (exact rfl); all_goals intro hc) | (apply br_nE; (exact rfl); all_goals intro hc) | (refine mm_min ?_) | (refine mm_max ?_) | (refine rem_i ?_ ?_; omega) | (refine SelN.mk ?_) | (refine cut_n ?_) | (refine Both.mk ?_ ?_) | (exact True.intro))
        exact ⟨i + 1, by omega, by omega, by rw [hs]; exact (by repeat' (first | exact True.intro | refine And.intro ?_ ?_ | exact rfl | exact vi (by omega) | (dsimp only; exact rfl) | (dsimp only; exact vi (by omega)))), (by first | exact ent_i | (repeat (first | exact Ent.refl | exact Ent.left | refine Ent.cons ?_ | refine Ent.app ?_)))⟩
  · have hlt' : ¬ (i : Int) < A.length := by omega
    have hi2 : i = A.length := by omega
    subst hi2
    repeat' ((try (conv => whnf)); first | (refine when_ye ?_ ?_; exact rfl) | (refine when_ne ?_ ?_; exact rfl) | (refine br_te ?_ ?_; exact rfl) | (refine br_fe ?_ ?_; exact rfl) | (apply br_pyE; (exact rfl); omega) | (apply br_pnE; (exact rfl); omega) | (apply when_pyE; (exact rfl); omega) | (apply when_pnE; (exact rfl); omega) | (apply br_npyE; (exact rfl); omega) | (apply br_npnE; (exact rfl); omega) | (apply when_npyE; (exact rfl); omega) | (apply when_npnE; (exact rfl); omega) | (refine br_pyE ?_ hlt' ?_; exact rfl) | (refine br_pnE ?_ hlt' ?_; exact rfl) | (refine when_pyE ?_ hlt' ?_; exact rfl) | (refine when_pnE ?_ hlt' ?_; exact rfl) | (refine br_npyE ?_ hlt' ?_; exact rfl) | (refine br_npnE ?_ hlt' ?_; exact rfl) | (refine when_npyE ?_ hlt' ?_; exact rfl) | (refine when_npnE ?_ hlt' ?_; exact rfl) | (refine ari ?_ ?_; omega) | (refine aru ?_ ?_; omega) | (apply sel; exact rfl) | (refine ix0 rfl ?_) | (refine ix1 rfl ?_) | (refine ix2 rfl ?_) | (refine ix3 rfl ?_) | (apply ixj; omega) | (refine ixn ?_ ?_; omega) | (refine ixs0 rfl ?_) | (refine ixs1 rfl ?_) | (refine ixs_j ?_ ?_; omega) | (refine ixs_n ?_ ?_; omega) | (apply ld_o; exact rfl) | (apply ldN_a; exact rfl) | (apply ldN_o; (exact rfl); exact rfl) | (apply st_o; (exact rfl); exact rfl) | (apply stN_o; (exact rfl); (exact rfl); exact rfl) | (refine new_i (fun bk hbk => ?_)) | (apply when_dE; (exact rfl); (exact rfl); all_goals intro hc) | (apply when_dF; (exact rfl); (exact rfl); all_goals intro hc) | (apply when_nE; (exact rfl); (exact rfl); all_goals intro hc) | (apply when_nF; (exact rfl); (exact rfl); all_goals intro hc) | (apply br_dE; (exact rfl); all_goals intro hc) | (apply br_nE; (exact rfl); all_goals intro hc) | (refine mm_min ?_) | (refine mm_max ?_) | (refine rem_i ?_ ?_; omega) | (refine SelN.mk ?_) | (refine cut_n ?_) | (refine Both.mk ?_ ?_) | (exact True.intro))
    exact ⟨rfl, (by first | exact ent_i | (repeat (first | exact Ent.refl | exact Ent.left | refine Ent.cons ?_ | refine Ent.app ?_)))⟩
end
end Go.Proofs.YtofjnldidkiihaaDoor
namespace Go.Proofs.YtofjnldidkiihaaDoor
open Go
set_option maxRecDepth 10000
set_option maxHeartbeats 4000000
/-- The blocks of the accesses: which blocks, and what each holds. -/
def accO (bs : Nat → Nat) (H : Nat → List (Int × Int)) : Nat → Own
  | 0 => []
  | k + 1 => accO bs H k ++ [canE encAc 91 (bs k) (H k)]
theorem accO_congr {bs bs' : Nat → Nat} {H H' : Nat → List (Int × Int)} : ∀ {k}, (∀ j, j < k → bs j = bs' j ∧ H j = H' j) → accO bs H k = accO bs' H' k
  | 0, _ => rfl
  | k + 1, h => by unfold accO; rw [accO_congr fun j hj => h j (by omega), (h k (by omega)).1, (h k (by omega)).2]
theorem accO_at {bs : Nat → Nat} {H : Nat → List (Int × Int)} {i : Nat} : ∀ {k}, i < k → ∃ C, At [canE encAc 91 (bs i) (H i)] (accO bs H k) C ∧ ∀ h, C [canE encAc 91 (bs i) h] = accO bs (fun j => if j = i then h else H j) k
  | 0, h => by omega
  | k + 1, h => by
    by_cases e : i = k
    · subst e
      refine ⟨fun X => accO bs H i ++ (X ++ []), At.skip (A := accO bs H i) (At.head (D := [canE encAc 91 (bs i) (H i)]) (r := [])), fun h => ?_⟩
      show accO bs H i ++ [canE encAc 91 (bs i) h] = accO bs (fun j => if j = i then h else H j) i ++ [canE encAc 91 (bs i) (if i = i then h else H i)]
      rw [if_pos rfl, accO_congr (H := fun j => if j = i then h else H j) (H' := H) (bs' := bs) fun j hj => ⟨rfl, if_neg (by omega)⟩]
    · obtain ⟨C, hC, hh⟩ := accO_at (bs := bs) (H := H) (i := i) (k := k) (by omega)
      refine ⟨fun X => C X ++ [canE encAc 91 (bs k) (H k)], hC.left, fun h => ?_⟩
      show C _ ++ _ = accO bs (fun j => if j = i then h else H j) k ++ [canE encAc 91 (bs k) (if k = i then h else H k)]
      rw [hh, if_neg (fun x : k = i => e x.symm)]
theorem accO_mem {bs : Nat → Nat} {H : Nat → List (Int × Int)} {i : Nat} : ∀ {k}, i < k → canE encAc 91 (bs i) (H i) ∈ accO bs H k
  | 0, h => by omega
  | k + 1, h => by
    unfold accO
    by_cases e : i = k
    · subst e; simp
    · exact List.mem_append_left _ (accO_mem (by omega))
section
variable {W0 : World} {own : Own}
theorem accO_rd {bs : Nat → Nat} {H : Nat → List (Int × Int)} {i k : Nat} (h : i < k) : RdE encAc 2 W0 (accO bs H k) (some ⟨bs i, 0, none⟩) (H i) := rd_blk (accO_mem h) (fun _ _ => rfl) rfl
theorem sp_new1 {tb n : Nat} [m : MemC tb (fun o => o = Obj.cells #[.int .i64 n] 3) own] (hn : n ≤ 65536) :
    Spec Tryd.prog W0 41 [.pointer (some ⟨tb, 0, none⟩)] own fun v own' => ∃ b : Nat, v = .slice (some ⟨b, 0, none⟩) n n ∧ Ent W0 own' (canE encAc 91 b (List.replicate n (0, 0)) :: own) := by
  refine spec_of mixed low_tdrf_New_1 (by simp [ir_tdrf_New_1]) ?_
  repeat' ((try (conv => whnf)); first | (refine when_ye ?_ ?_; exact rfl) | (refine when_ne ?_ ?_; exact rfl) | (refine br_te ?_ ?_; exact rfl) | (refine br_fe ?_ ?_; exact rfl) | (apply br_pyE; (exact rfl); omega) | (apply br_pnE; (exact rfl); omega) | (apply when_pyE; (exact rfl); omega) | (apply when_pnE; (exact rfl); omega) | (apply br_npyE; (exact rfl); omega) | (apply br_npnE; (exact rfl); omega) | (apply when_npyE; (exact rfl); omega) | (apply when_npnE; (exact rfl); omega) | (refine mkC (enc := encAc) n (0, 0) rfl rfl rfl (by omega) (fun b6 => ?_)) | (refine ari ?_ ?_; omega) | (refine aru ?_ ?_; omega) | (apply sel; exact rfl) | (refine ix0 rfl ?_) | (refine ix1 rfl ?_) | (refine ix2 rfl ?_) | (refine ix3 rfl ?_) | (apply ixj; omega) | (refine ixn ?_ ?_; omega) | (refine ixs0 rfl ?_) | (refine ixs1 rfl ?_) | (refine ixs_j ?_ ?_; omega) | (refine ixs_n ?_ ?_; omega) | (apply ld_o; exact rfl) | (apply ldN_a; exact rfl) | (apply ldN_o; (exact rfl); exact rfl) | (apply st_o; (exact rfl); exact rfl) | (apply stN_o; (exact rfl); (exact rfl); exact rfl) | (refine new_i (fun bk hbk => ?_)) | (apply when_dE; (exact rfl); (exact rfl); all_goals intro hc) | (apply when_dF; (exact rfl); (exact rfl); all_goals intro hc) | (apply when_nE; (exact rfl); (exact rfl); all_goals intro hc) | (apply when_nF; (exact rfl); (exact rfl); all_goals intro hc) | (apply br_dE; (exact rfl); all_goals intro hc) | (apply br_nE; (exact rfl); all_goals intro hc) | (refine mm_min ?_) | (refine mm_max ?_) | (refine rem_i ?_ ?_; omega) | (refine SelN.mk ?_) | (refine cut_n ?_) | (refine Both.mk ?_ ?_) | (exact True.intro))
  exact ⟨b6, rfl, Ent.refl⟩
end
end Go.Proofs.YtofjnldidkiihaaDoor
namespace Go.Proofs.YtofjnldidkiihaaDoor
open Go
set_option maxRecDepth 10000
set_option maxHeartbeats 4000000
section
variable {W0 : World} {own : Own} {a : Option Addr} {cap : Nat} {l : List Int}
theorem sp_twords1 (W0 : World) (own : Own) (x : Int) : Pure Tryd.prog W0 73 [.int .i64 x] own (.bool (!inW x)) := by
  refine pure_of (spec_of mixed low_tdrf_words_1 (by simp [ir_tdrf_words_1]) ?_)
  by_cases hw : 0 ≤ x ∧ x < 64
  · have hx1 : inW x = true := by unfold inW; exact decide_eq_true hw
    rw [hx1]
    repeat' ((try (conv => whnf)); first | (refine when_ye ?_ ?_; exact rfl) | (refine when_ne ?_ ?_; exact rfl) | (refine br_te ?_ ?_; exact rfl) | (refine br_fe ?_ ?_; exact rfl) | (apply br_pyE; (exact rfl); omega) | (apply br_pnE; (exact rfl); omega) | (apply when_pyE; (exact rfl); omega) | (apply when_pnE; (exact rfl); omega) | (apply br_npyE; (exact rfl); omega) | (apply br_npnE; (exact rfl); omega) | (apply when_npyE; (exact rfl); omega) | (apply when_npnE; (exact rfl); omega) | (refine ari ?_ ?_; omega) | (refine aru ?_ ?_; omega) | (apply sel; exact rfl) | (refine ix0 rfl ?_) | (refine ix1 rfl ?_) | (refine ix2 rfl ?_) | (refine ix3 rfl ?_) | (apply ixj; omega) | (refine ixn ?_ ?_; omega) | (refine ixs0 rfl ?_) | (refine ixs1 rfl ?_) | (refine ixs_j ?_ ?_; omega) | (refine ixs_n ?_ ?_; omega) | (apply ld_o; exact rfl) | (apply ldN_a; exact rfl) | (apply ldN_o; (exact rfl); exact rfl) | (apply st_o; (exact rfl); exact rfl) | (apply stN_o; (exact rfl); (exact rfl); exact rfl) | (refine new_i (fun bk hbk => ?_)) | (apply when_dE; (exact rfl); (exact rfl); all_goals intro hc) | (apply when_dF; (exact rfl); (exact rfl); all_goals intro hc) | (apply when_nE; (exact rfl); (exact rfl); all_goals intro hc) | (apply when_nF; (exact rfl); (exact rfl); all_goals intro hc) | (apply br_dE; (exact rfl); all_goals intro hc) | (apply br_nE; (exact rfl); all_goals intro hc) | (refine mm_min ?_) | (refine mm_max ?_) | (refine rem_i ?_ ?_; omega) | (refine SelN.mk ?_) | (refine cut_n ?_) | (refine Both.mk ?_ ?_) | (exact True.intro))
    exact ⟨ret1 (vb (decide_eq_false (by omega))), (by first | exact ent_i | (repeat (first | exact Ent.refl | exact Ent.left | refine Ent.cons ?_ | refine Ent.app ?_)))⟩
  · have hx1 : inW x = false := by unfold inW; exact decide_eq_false hw
    rw [hx1]
    repeat' ((try (conv => whnf)); first | (refine when_ye ?_ ?_; exact rfl) | (refine when_ne ?_ ?_; exact rfl) | (refine br_te ?_ ?_; exact rfl) | (refine br_fe ?_ ?_; exact rfl) | (apply br_pyE; (exact rfl); omega) | (apply br_pnE; (exact rfl); omega) | (apply when_pyE; (exact rfl); omega) | (apply when_pnE; (exact rfl); omega) | (apply br_npyE; (exact rfl); omega) | (apply br_npnE; (exact rfl); omega) | (apply when_npyE; (exact rfl); omega) | (apply when_npnE; (exact rfl); omega) | (refine ari ?_ ?_; omega) | (refine aru ?_ ?_; omega) | (apply sel; exact rfl) | (refine ix0 rfl ?_) | (refine ix1 rfl ?_) | (refine ix2 rfl ?_) | (refine ix3 rfl ?_) | (apply ixj; omega) | (refine ixn ?_ ?_; omega) | (refine ixs0 rfl ?_) | (refine ixs1 rfl ?_) | (refine ixs_j ?_ ?_; omega) | (refine ixs_n ?_ ?_; omega) | (apply ld_o; exact rfl) | (apply ldN_a; exact rfl) | (apply ldN_o; (exact rfl); exact rfl) | (apply st_o; (exact rfl); exact rfl) | (apply stN_o; (exact rfl); (exact rfl); exact rfl) | (refine new_i (fun bk hbk => ?_)) | (apply when_dE; (exact rfl); (exact rfl); all_goals intro hc) | (apply when_dF; (exact rfl); (exact rfl); all_goals intro hc) | (apply when_nE; (exact rfl); (exact rfl); all_goals intro hc) | (apply when_nF; (exact rfl); (exact rfl); all_goals intro hc) | (apply br_dE; (exact rfl); all_goals intro hc) | (apply br_nE; (exact rfl); all_goals intro hc) | (refine mm_min ?_) | (refine mm_max ?_) | (refine rem_i ?_ ?_; omega) | (refine SelN.mk ?_) | (refine cut_n ?_) | (refine Both.mk ?_ ?_) | (exact True.intro))
    all_goals first | exact ⟨ret1 rfl, (by first | exact ent_i | (repeat (first | exact Ent.refl | exact Ent.left | refine Ent.cons ?_ | refine Ent.app ?_)))⟩ | exact ⟨ret1 (vb (decide_eq_true (by omega))), (by first | exact ent_i | (repeat (first | exact Ent.refl | exact Ent.left | refine Ent.cons ?_ | refine Ent.app ?_)))⟩
theorem oktw1 : okF Tryd.prog 73 = true := by kernel_rfl
theorem sp_twords (hR : RdE encI 1 W0 own a l) (hl : l.length ≤ 9223372036854775807) : Pure Tryd.prog W0 61 [.slice a l.length cap] own (.bool (l.all inW)) := by
  refine pure_of (spec_of mixed low_tdrf_words (by simp [ir_tdrf_words]) ?_)
  have h := sp_containsf (cap := cap) oktw1 (fun own x => sp_twords1 W0 own x) hR hl
  have e : l.all inW = !l.any (fun x => !inW x) := by simp [List.all_eq_not_any_not]
  rw [e]
  generalize l.any (fun x => !inW x) = z at *
  repeat' ((try (conv => whnf)); first | (refine when_ye ?_ ?_; exact rfl) | (refine when_ne ?_ ?_; exact rfl) | (refine br_te ?_ ?_; exact rfl) | (refine br_fe ?_ ?_; exact rfl) | (apply br_pyE; (exact rfl); omega) | (apply br_pnE; (exact rfl); omega) | (apply when_pyE; (exact rfl); omega) | (apply when_pnE; (exact rfl); omega) | (apply br_npyE; (exact rfl); omega) | (apply br_npnE; (exact rfl); omega) | (apply when_npyE; (exact rfl); omega) | (apply when_npnE; (exact rfl); omega) | ((with_reducible show CallT _ _ _ _ _ _); first | ((refine call_pe (h) ?_ ?_ ?_; (exact rfl); exact rfl))) | (refine ari ?_ ?_; omega) | (refine aru ?_ ?_; omega) | (apply sel; exact rfl) | (refine ix0 rfl ?_) | (refine ix1 rfl ?_) | (refine ix2 rfl ?_) | (refine ix3 rfl ?_) | (apply ixj; omega) | (refine ixn ?_ ?_; omega) | (refine ixs0 rfl ?_) | (refine ixs1 rfl ?_) | (refine ixs_j ?_ ?_; omega) | (refine ixs_n ?_ ?_; omega) | (apply ld_o; exact rfl) | (apply ldN_a; exact rfl) | (apply ldN_o; (exact rfl); exact rfl) | (apply st_o; (exact rfl); exact rfl) | (apply stN_o; (exact rfl); (exact rfl); exact rfl) | (refine new_i (fun bk hbk => ?_)) | (apply when_dE; (exact rfl); (exact rfl); all_goals intro hc) | (apply when_dF; (exact rfl); (exact rfl); all_goals intro hc) | (apply when_nE; (exact rfl); (exact rfl); all_goals intro hc) | (apply when_nF; (exact rfl); (exact rfl); all_goals intro hc) | (apply br_dE; (exact rfl); all_goals intro hc) | (apply br_nE; (exact rfl); all_goals intro hc) | (refine mm_min ?_) | (refine mm_max ?_) | (refine rem_i ?_ ?_; omega) | (refine SelN.mk ?_) | (refine cut_n ?_) | (refine Both.mk ?_ ?_) | (exact True.intro))
  exact ⟨rfl, (by first | exact ent_i | (repeat (first | exact Ent.refl | exact Ent.left | refine Ent.cons ?_ | refine Ent.app ?_)))⟩
end
/-- A slice that lies in a slice. -/
abbrev encSl (x : Option Addr × Nat × Nat) : List Value := [.slice x.1 x.2.1 x.2.2]
section
variable {W0 : World} {own : Own}
theorem sp_tfits {e : EH} {cb n eb ec bb bc : Nat} {cnt at1 last : Int} {B : List (Option Addr × Nat × Nat)} (hE : EvR W0 own e) (h0 : Cl W0 own cb 0 (.int .i64 cnt)) (h1 : Cl W0 own cb 1 (.int .i64 at1)) (h2 : Cl W0 own cb 2 (.slice (some ⟨eb, 0, none⟩) n ec)) (h4 : Cl W0 own cb 4 (.slice (some ⟨bb, 0, none⟩) B.length bc))
    (hB : RdE encSl 1 W0 own (some ⟨bb, 0, none⟩) B) (hl : B.length = n) (hc : 0 ≤ cnt) (hlast : ∀ x, B[e.t.toNat]? = some x → (x.1 ≠ none ↔ last = 3)) :
    Pure Tryd.prog W0 43 [.pointer (some ⟨cb, 0, none⟩), e.v] own (.bool (fitsM n (cnt == 0) at1 last e)) := by
  refine pure_of (spec_of mixed low_tdrf_Checker_fits (by simp [ir_tdrf_Checker_fits]) ?_)
  have hr : ∀ own' [EntC own' own], Pure Tryd.prog W0 61 [.slice e.ra e.rl.length e.rc] own' (.bool (e.rl.all inW)) := fun own' h => sp_twords (hE.r.ent (h.h W0)) hE.rn
  have hw : ∀ own' [EntC own' own], Pure Tryd.prog W0 61 [.slice e.wa e.wl.length e.wc] own' (.bool (e.wl.all inW)) := fun own' h => sp_twords (hE.w.ent (h.h W0)) hE.wn
  have h1w : ∀ (own' : Own) (b : Nat), EntC own' [(b, fun o => o = Obj.cells #[.int .i64 e.w] 3)] → Pure Tryd.prog W0 61 [.slice (some ⟨b, 0, none⟩) 1 1] own' (.bool (inW e.w)) := fun own' b h => by
    have := sp_twords (W0 := W0) (own := own') (a := some ⟨b, 0, none⟩) (cap := 1) (l := [e.w]) ((can_rd (enc := encI) (sz := 1) (T := 3) (fun _ _ => rfl)).ent (h.h W0)) (by simp)
    simpa using this
  unfold fitsM
  have er : decide (e.rl = [] ∧ e.wl = []) = decide (e.rl.length = 0 ∧ e.wl.length = 0) := by
    refine decide_eq_decide.2 ?_
    rw [List.length_eq_zero_iff, List.length_eq_zero_iff]
  have ea : e.rl.length = 0 → e.rl.all inW = true := fun h => by rw [List.length_eq_zero_iff.1 h]; rfl
  have eb2 : e.wl.length = 0 → e.wl.all inW = true := fun h => by rw [List.length_eq_zero_iff.1 h]; rfl
  rw [er]
  clear hE er
  obtain ⟨ev, t, k, w, ra, rl, rc, wa, wl, wc⟩ := e
  dsimp only [EH.v] at *
  generalize rl.all inW = zr at *
  generalize wl.all inW = zw at *
  generalize rl.length = lr at *
  generalize wl.length = lw at *
  have hf : (cnt == 0) = true ↔ cnt = 0 := by simp
  generalize (cnt == 0) = fs at *
  by_cases hg : 0 ≤ t ∧ t < n ∧ 1 ≤ k ∧ k ≤ 4
  · by_cases hw0 : 0 ≤ w ∧ w < 64
    · have hw0' : inW w = true := decide_eq_true hw0
      rw [hw0'] at h1w
      by_cases ha : cnt > 0 ∧ ev < at1
      · rw [decide_eq_false (fun h => h.2.2.2.2.1.elim (fun h => absurd (hf.1 h) (by omega)) (fun h => by omega))]
        obtain ⟨a1, a2, a3, a4⟩ := hg
        obtain ⟨a5, a6⟩ := ha
        repeat' ((try (conv => whnf)); first | (refine when_ye ?_ ?_; exact rfl) | (refine when_ne ?_ ?_; exact rfl) | (refine br_te ?_ ?_; exact rfl) | (refine br_fe ?_ ?_; exact rfl) | (apply br_pyE; (exact rfl); omega) | (apply br_pnE; (exact rfl); omega) | (apply when_pyE; (exact rfl); omega) | (apply when_pnE; (exact rfl); omega) | (apply br_npyE; (exact rfl); omega) | (apply br_npnE; (exact rfl); omega) | (apply when_npyE; (exact rfl); omega) | (apply when_npnE; (exact rfl); omega) | ((with_reducible show Ld _ _ _ _); first | (refine ldK h0 ?_) | (refine ldK h1 ?_) | (refine ldK h2 ?_) | (refine ldK h4 ?_)) | ((with_reducible show CallQ _ _ _ _ _ _); first | (((refine call_qi (fun ex => h1w _ _ ⟨fun _ => Ent.app (Ent.left (D := [_]))⟩) ?_ ?_ ?_; (exact rfl); exact rfl)))) | (refine ari ?_ ?_; omega) | (refine aru ?_ ?_; omega) | (apply sel; exact rfl) | (refine ix0 rfl ?_) | (refine ix1 rfl ?_) | (refine ix2 rfl ?_) | (refine ix3 rfl ?_) | (apply ixj; omega) | (refine ixn ?_ ?_; omega) | (refine ixs0 rfl ?_) | (refine ixs1 rfl ?_) | (refine ixs_j ?_ ?_; omega) | (refine ixs_n ?_ ?_; omega) | (apply ld_o; exact rfl) | (apply ldN_a; exact rfl) | (apply ldN_o; (exact rfl); exact rfl) | (apply st_o; (exact rfl); exact rfl) | (apply stN_o; (exact rfl); (exact rfl); exact rfl) | (refine new_i (fun bk hbk => ?_)) | (apply when_dE; (exact rfl); (exact rfl); all_goals intro hc) | (apply when_dF; (exact rfl); (exact rfl); all_goals intro hc) | (apply when_nE; (exact rfl); (exact rfl); all_goals intro hc) | (apply when_nF; (exact rfl); (exact rfl); all_goals intro hc) | (apply br_dE; (exact rfl); all_goals intro hc) | (apply br_nE; (exact rfl); all_goals intro hc) | (refine mm_min ?_) | (refine mm_max ?_) | (refine rem_i ?_ ?_; omega) | (refine SelN.mk ?_) | (refine cut_n ?_) | (refine Both.mk ?_ ?_) | (exact True.intro))
        all_goals first | exact ⟨rfl, (by first | exact ent_i | (repeat (first | exact Ent.refl | exact Ent.left | refine Ent.cons ?_ | refine Ent.app ?_)))⟩ | (exfalso; omega)
      · have ha' : fs = true ∨ at1 ≤ ev := by
          by_cases h : cnt = 0
          · exact .inl (hf.2 h)
          · exact .inr (by omega)
        rw [decide_eq_true ⟨hg.1, hg.2.1, hg.2.2.1, hg.2.2.2, ha', hw0.1, hw0.2⟩, Bool.true_and]
        by_cases hk : k = 4
        · rw [if_pos hk]
          obtain ⟨j, rfl⟩ : ∃ j : Nat, t = j := ⟨t.toNat, by omega⟩
          obtain ⟨x, hx⟩ : ∃ x, B[j]? = some x := ⟨_, List.getElem?_eq_getElem (by omega)⟩
          have hlx := hlast x (by rw [Int.toNat_natCast]; exact hx)
          clear hlast
          obtain ⟨x1, x2, x3⟩ := x
          dsimp only at hlx
          cases x1 with
          | none =>
            rw [decide_eq_false (fun h => (hlx.2 h) rfl), Bool.and_false]
            repeat' ((try (conv => whnf)); first | (refine when_ye ?_ ?_; exact rfl) | (refine when_ne ?_ ?_; exact rfl) | (refine br_te ?_ ?_; exact rfl) | (refine br_fe ?_ ?_; exact rfl) | (apply br_pyE; (exact rfl); omega) | (apply br_pnE; (exact rfl); omega) | (apply when_pyE; (exact rfl); omega) | (apply when_pnE; (exact rfl); omega) | (apply br_npyE; (exact rfl); omega) | (apply br_npnE; (exact rfl); omega) | (apply when_npyE; (exact rfl); omega) | (apply when_npnE; (exact rfl); omega) | (refine br_pyE ?_ hk ?_; exact rfl) | (refine br_pnE ?_ hk ?_; exact rfl) | (refine when_pyE ?_ hk ?_; exact rfl) | (refine when_pnE ?_ hk ?_; exact rfl) | (refine br_npyE ?_ hk ?_; exact rfl) | (refine br_npnE ?_ hk ?_; exact rfl) | (refine when_npyE ?_ hk ?_; exact rfl) | (refine when_npnE ?_ hk ?_; exact rfl) | ((with_reducible show Ld _ _ _ _); first | (refine ldE0 hB hx rfl ?_) | (refine ldEk hB hx rfl ?_) | (refine ldE1 hB hx rfl ?_) | (refine ldK h0 ?_) | (refine ldK h1 ?_) | (refine ldK h2 ?_) | (refine ldK h4 ?_)) | ((with_reducible show IxS _ _ _ _ _); first | ((refine ixE hB hx ?_ ?_; (first | rfl | omega)))) | ((with_reducible show LdN _ _ _ _ _); first | (refine ldNEi hB hx rfl ?_)) | ((with_reducible show CallQ _ _ _ _ _ _); first | (((refine call_qi (fun ex => h1w _ _ ⟨fun _ => Ent.app (Ent.left (D := [_]))⟩) ?_ ?_ ?_; (exact rfl); exact rfl)))) | (refine ari ?_ ?_; omega) | (refine aru ?_ ?_; omega) | (apply sel; exact rfl) | (refine ix0 rfl ?_) | (refine ix1 rfl ?_) | (refine ix2 rfl ?_) | (refine ix3 rfl ?_) | (apply ixj; omega) | (refine ixn ?_ ?_; omega) | (refine ixs0 rfl ?_) | (refine ixs1 rfl ?_) | (refine ixs_j ?_ ?_; omega) | (refine ixs_n ?_ ?_; omega) | (apply ld_o; exact rfl) | (apply ldN_a; exact rfl) | (apply ldN_o; (exact rfl); exact rfl) | (apply st_o; (exact rfl); exact rfl) | (apply stN_o; (exact rfl); (exact rfl); exact rfl) | (refine new_i (fun bk hbk => ?_)) | (apply when_dE; (exact rfl); (exact rfl); all_goals intro hc) | (apply when_dF; (exact rfl); (exact rfl); all_goals intro hc) | (apply when_nE; (exact rfl); (exact rfl); all_goals intro hc) | (apply when_nF; (exact rfl); (exact rfl); all_goals intro hc) | (apply br_dE; (exact rfl); all_goals intro hc) | (apply br_nE; (exact rfl); all_goals intro hc) | (refine mm_min ?_) | (refine mm_max ?_) | (refine rem_i ?_ ?_; omega) | (refine SelN.mk ?_) | (refine cut_n ?_) | (refine Both.mk ?_ ?_) | (exact True.intro))
            all_goals first | exact ⟨rfl, (by first | exact ent_i | (repeat (first | exact Ent.refl | exact Ent.left | refine Ent.cons ?_ | refine Ent.app ?_)))⟩ | (exfalso; omega)
          | some ad =>
            rw [decide_eq_true (hlx.1 (by simp)), Bool.and_true]
            cases zr <;> cases zw
            all_goals
              repeat' ((try (conv => whnf)); first | (refine when_ye ?_ ?_; exact rfl) | (refine when_ne ?_ ?_; exact rfl) | (refine br_te ?_ ?_; exact rfl) | (refine br_fe ?_ ?_; exact rfl) | (apply br_pyE; (exact rfl); omega) | (apply br_pnE; (exact rfl); omega) | (apply when_pyE; (exact rfl); omega) | (apply when_pnE; (exact rfl); omega) | (apply br_npyE; (exact rfl); omega) | (apply br_npnE; (exact rfl); omega) | (apply when_npyE; (exact rfl); omega) | (apply when_npnE; (exact rfl); omega) | (refine br_pyE ?_ hk ?_; exact rfl) | (refine br_pnE ?_ hk ?_; exact rfl) | (refine when_pyE ?_ hk ?_; exact rfl) | (refine when_pnE ?_ hk ?_; exact rfl) | (refine br_npyE ?_ hk ?_; exact rfl) | (refine br_npnE ?_ hk ?_; exact rfl) | (refine when_npyE ?_ hk ?_; exact rfl) | (refine when_npnE ?_ hk ?_; exact rfl) | ((with_reducible show Ld _ _ _ _); first | (refine ldE0 hB hx rfl ?_) | (refine ldEk hB hx rfl ?_) | (refine ldE1 hB hx rfl ?_) | (refine ldK h0 ?_) | (refine ldK h1 ?_) | (refine ldK h2 ?_) | (refine ldK h4 ?_)) | ((with_reducible show IxS _ _ _ _ _); first | ((refine ixE hB hx ?_ ?_; (first | rfl | omega)))) | ((with_reducible show LdN _ _ _ _ _); first | (refine ldNEi hB hx rfl ?_)) | ((with_reducible show CallQ _ _ _ _ _ _); first | (((refine call_qi (fun ex => h1w _ _ ⟨fun _ => Ent.app (Ent.left (D := [_]))⟩) ?_ ?_ ?_; (exact rfl); exact rfl))) | (((refine call_qi (fun ex => hr (ex ++ _)) ?_ ?_ ?_; (exact rfl); exact rfl))) | (((refine call_qi (fun ex => hw (ex ++ _)) ?_ ?_ ?_; (exact rfl); exact rfl)))) | (refine ari ?_ ?_; omega) | (refine aru ?_ ?_; omega) | (apply sel; exact rfl) | (refine ix0 rfl ?_) | (refine ix1 rfl ?_) | (refine ix2 rfl ?_) | (refine ix3 rfl ?_) | (apply ixj; omega) | (refine ixn ?_ ?_; omega) | (refine ixs0 rfl ?_) | (refine ixs1 rfl ?_) | (refine ixs_j ?_ ?_; omega) | (refine ixs_n ?_ ?_; omega) | (apply ld_o; exact rfl) | (apply ldN_a; exact rfl) | (apply ldN_o; (exact rfl); exact rfl) | (apply st_o; (exact rfl); exact rfl) | (apply stN_o; (exact rfl); (exact rfl); exact rfl) | (refine new_i (fun bk hbk => ?_)) | (apply when_dE; (exact rfl); (exact rfl); all_goals intro hc) | (apply when_dF; (exact rfl); (exact rfl); all_goals intro hc) | (apply when_nE; (exact rfl); (exact rfl); all_goals intro hc) | (apply when_nF; (exact rfl); (exact rfl); all_goals intro hc) | (apply br_dE; (exact rfl); all_goals intro hc) | (apply br_nE; (exact rfl); all_goals intro hc) | (refine mm_min ?_) | (refine mm_max ?_) | (refine rem_i ?_ ?_; omega) | (refine SelN.mk ?_) | (refine cut_n ?_) | (refine Both.mk ?_ ?_) | (exact True.intro))
              all_goals first | exact ⟨rfl, (by first | exact ent_i | (repeat (first | exact Ent.refl | exact Ent.left | refine Ent.cons ?_ | refine Ent.app ?_)))⟩ | (exfalso; omega)
        · rw [if_neg hk]
          clear hlast
          by_cases hz : lr = 0 ∧ lw = 0
          · obtain ⟨hz1, hz2⟩ := hz
            rw [decide_eq_true ⟨hz1, hz2⟩, ea hz1, eb2 hz2]
            repeat' ((try (conv => whnf)); first | (refine when_ye ?_ ?_; exact rfl) | (refine when_ne ?_ ?_; exact rfl) | (refine br_te ?_ ?_; exact rfl) | (refine br_fe ?_ ?_; exact rfl) | (apply br_pyE; (exact rfl); omega) | (apply br_pnE; (exact rfl); omega) | (apply when_pyE; (exact rfl); omega) | (apply when_pnE; (exact rfl); omega) | (apply br_npyE; (exact rfl); omega) | (apply br_npnE; (exact rfl); omega) | (apply when_npyE; (exact rfl); omega) | (apply when_npnE; (exact rfl); omega) | (refine br_pyE ?_ hk ?_; exact rfl) | (refine br_pnE ?_ hk ?_; exact rfl) | (refine when_pyE ?_ hk ?_; exact rfl) | (refine when_pnE ?_ hk ?_; exact rfl) | (refine br_npyE ?_ hk ?_; exact rfl) | (refine br_npnE ?_ hk ?_; exact rfl) | (refine when_npyE ?_ hk ?_; exact rfl) | (refine when_npnE ?_ hk ?_; exact rfl) | ((with_reducible show Ld _ _ _ _); first | (refine ldK h0 ?_) | (refine ldK h1 ?_) | (refine ldK h2 ?_) | (refine ldK h4 ?_)) | ((with_reducible show CallQ _ _ _ _ _ _); first | (((refine call_qi (fun ex => h1w _ _ ⟨fun _ => Ent.app (Ent.left (D := [_]))⟩) ?_ ?_ ?_; (exact rfl); exact rfl)))) | (refine ari ?_ ?_; omega) | (refine aru ?_ ?_; omega) | (apply sel; exact rfl) | (refine ix0 rfl ?_) | (refine ix1 rfl ?_) | (refine ix2 rfl ?_) | (refine ix3 rfl ?_) | (apply ixj; omega) | (refine ixn ?_ ?_; omega) | (refine ixs0 rfl ?_) | (refine ixs1 rfl ?_) | (refine ixs_j ?_ ?_; omega) | (refine ixs_n ?_ ?_; omega) | (apply ld_o; exact rfl) | (apply ldN_a; exact rfl) | (apply ldN_o; (exact rfl); exact rfl) | (apply st_o; (exact rfl); exact rfl) | (apply stN_o; (exact rfl); (exact rfl); exact rfl) | (refine new_i (fun bk hbk => ?_)) | (apply when_dE; (exact rfl); (exact rfl); all_goals intro hc) | (apply when_dF; (exact rfl); (exact rfl); all_goals intro hc) | (apply when_nE; (exact rfl); (exact rfl); all_goals intro hc) | (apply when_nF; (exact rfl); (exact rfl); all_goals intro hc) | (apply br_dE; (exact rfl); all_goals intro hc) | (apply br_nE; (exact rfl); all_goals intro hc) | (refine mm_min ?_) | (refine mm_max ?_) | (refine rem_i ?_ ?_; omega) | (refine SelN.mk ?_) | (refine cut_n ?_) | (refine Both.mk ?_ ?_) | (exact True.intro))
            all_goals first | exact ⟨ret1 (vb (by simp [hz2])), (by first | exact ent_i | (repeat (first | exact Ent.refl | exact Ent.left | refine Ent.cons ?_ | refine Ent.app ?_)))⟩ | (exfalso; omega)
          · rw [decide_eq_false hz, Bool.and_false]
            repeat' ((try (conv => whnf)); first | (refine when_ye ?_ ?_; exact rfl) | (refine when_ne ?_ ?_; exact rfl) | (refine br_te ?_ ?_; exact rfl) | (refine br_fe ?_ ?_; exact rfl) | (apply br_pyE; (exact rfl); omega) | (apply br_pnE; (exact rfl); omega) | (apply when_pyE; (exact rfl); omega) | (apply when_pnE; (exact rfl); omega) | (apply br_npyE; (exact rfl); omega) | (apply br_npnE; (exact rfl); omega) | (apply when_npyE; (exact rfl); omega) | (apply when_npnE; (exact rfl); omega) | (refine br_pyE ?_ hk ?_; exact rfl) | (refine br_pnE ?_ hk ?_; exact rfl) | (refine when_pyE ?_ hk ?_; exact rfl) | (refine when_pnE ?_ hk ?_; exact rfl) | (refine br_npyE ?_ hk ?_; exact rfl) | (refine br_npnE ?_ hk ?_; exact rfl) | (refine when_npyE ?_ hk ?_; exact rfl) | (refine when_npnE ?_ hk ?_; exact rfl) | ((with_reducible show Ld _ _ _ _); first | (refine ldK h0 ?_) | (refine ldK h1 ?_) | (refine ldK h2 ?_) | (refine ldK h4 ?_)) | ((with_reducible show CallQ _ _ _ _ _ _); first | (((refine call_qi (fun ex => h1w _ _ ⟨fun _ => Ent.app (Ent.left (D := [_]))⟩) ?_ ?_ ?_; (exact rfl); exact rfl)))) | (refine ari ?_ ?_; omega) | (refine aru ?_ ?_; omega) | (apply sel; exact rfl) | (refine ix0 rfl ?_) | (refine ix1 rfl ?_) | (refine ix2 rfl ?_) | (refine ix3 rfl ?_) | (apply ixj; omega) | (refine ixn ?_ ?_; omega) | (refine ixs0 rfl ?_) | (refine ixs1 rfl ?_) | (refine ixs_j ?_ ?_; omega) | (refine ixs_n ?_ ?_; omega) | (apply ld_o; exact rfl) | (apply ldN_a; exact rfl) | (apply ldN_o; (exact rfl); exact rfl) | (apply st_o; (exact rfl); exact rfl) | (apply stN_o; (exact rfl); (exact rfl); exact rfl) | (refine new_i (fun bk hbk => ?_)) | (apply when_dE; (exact rfl); (exact rfl); all_goals intro hc) | (apply when_dF; (exact rfl); (exact rfl); all_goals intro hc) | (apply when_nE; (exact rfl); (exact rfl); all_goals intro hc) | (apply when_nF; (exact rfl); (exact rfl); all_goals intro hc) | (apply br_dE; (exact rfl); all_goals intro hc) | (apply br_nE; (exact rfl); all_goals intro hc) | (refine mm_min ?_) | (refine mm_max ?_) | (refine rem_i ?_ ?_; omega) | (refine SelN.mk ?_) | (refine cut_n ?_) | (refine Both.mk ?_ ?_) | (exact True.intro))
            all_goals first | exact ⟨rfl, (by first | exact ent_i | (repeat (first | exact Ent.refl | exact Ent.left | refine Ent.cons ?_ | refine Ent.app ?_)))⟩ | exact ⟨ret1 (vb (decide_eq_false (by omega))), (by first | exact ent_i | (repeat (first | exact Ent.refl | exact Ent.left | refine Ent.cons ?_ | refine Ent.app ?_)))⟩ | (exfalso; omega)
    · have hw0' : inW w = false := decide_eq_false hw0
      rw [hw0'] at h1w
      rw [decide_eq_false (fun h => hw0 ⟨h.2.2.2.2.2.1, h.2.2.2.2.2.2⟩)]
      obtain ⟨a1, a2, a3, a4⟩ := hg
      repeat' ((try (conv => whnf)); first | (refine when_ye ?_ ?_; exact rfl) | (refine when_ne ?_ ?_; exact rfl) | (refine br_te ?_ ?_; exact rfl) | (refine br_fe ?_ ?_; exact rfl) | (apply br_pyE; (exact rfl); omega) | (apply br_pnE; (exact rfl); omega) | (apply when_pyE; (exact rfl); omega) | (apply when_pnE; (exact rfl); omega) | (apply br_npyE; (exact rfl); omega) | (apply br_npnE; (exact rfl); omega) | (apply when_npyE; (exact rfl); omega) | (apply when_npnE; (exact rfl); omega) | ((with_reducible show Ld _ _ _ _); first | (refine ldK h0 ?_) | (refine ldK h1 ?_) | (refine ldK h2 ?_) | (refine ldK h4 ?_)) | ((with_reducible show CallQ _ _ _ _ _ _); first | (((refine call_qi (fun ex => h1w _ _ ⟨fun _ => Ent.app (Ent.left (D := [_]))⟩) ?_ ?_ ?_; (exact rfl); exact rfl)))) | (refine ari ?_ ?_; omega) | (refine aru ?_ ?_; omega) | (apply sel; exact rfl) | (refine ix0 rfl ?_) | (refine ix1 rfl ?_) | (refine ix2 rfl ?_) | (refine ix3 rfl ?_) | (apply ixj; omega) | (refine ixn ?_ ?_; omega) | (refine ixs0 rfl ?_) | (refine ixs1 rfl ?_) | (refine ixs_j ?_ ?_; omega) | (refine ixs_n ?_ ?_; omega) | (apply ld_o; exact rfl) | (apply ldN_a; exact rfl) | (apply ldN_o; (exact rfl); exact rfl) | (apply st_o; (exact rfl); exact rfl) | (apply stN_o; (exact rfl); (exact rfl); exact rfl) | (refine new_i (fun bk hbk => ?_)) | (apply when_dE; (exact rfl); (exact rfl); all_goals intro hc) | (apply when_dF; (exact rfl); (exact rfl); all_goals intro hc) | (apply when_nE; (exact rfl); (exact rfl); all_goals intro hc) | (apply when_nF; (exact rfl); (exact rfl); all_goals intro hc) | (apply br_dE; (exact rfl); all_goals intro hc) | (apply br_nE; (exact rfl); all_goals intro hc) | (refine mm_min ?_) | (refine mm_max ?_) | (refine rem_i ?_ ?_; omega) | (refine SelN.mk ?_) | (refine cut_n ?_) | (refine Both.mk ?_ ?_) | (exact True.intro))
      all_goals first | exact ⟨rfl, (by first | exact ent_i | (repeat (first | exact Ent.refl | exact Ent.left | refine Ent.cons ?_ | refine Ent.app ?_)))⟩ | (exfalso; omega)
  · rw [decide_eq_false (fun h => hg ⟨h.1, h.2.1, h.2.2.1, h.2.2.2.1⟩)]
    repeat' ((try (conv => whnf)); first | (refine when_ye ?_ ?_; exact rfl) | (refine when_ne ?_ ?_; exact rfl) | (refine br_te ?_ ?_; exact rfl) | (refine br_fe ?_ ?_; exact rfl) | (apply br_pyE; (exact rfl); omega) | (apply br_pnE; (exact rfl); omega) | (apply when_pyE; (exact rfl); omega) | (apply when_pnE; (exact rfl); omega) | (apply br_npyE; (exact rfl); omega) | (apply br_npnE; (exact rfl); omega) | (apply when_npyE; (exact rfl); omega) | (apply when_npnE; (exact rfl); omega) | ((with_reducible show Ld _ _ _ _); first | (refine ldK h0 ?_) | (refine ldK h1 ?_) | (refine ldK h2 ?_) | (refine ldK h4 ?_)) | ((with_reducible show CallQ _ _ _ _ _ _); first | (((refine call_qi (fun ex => h1w _ _ ⟨fun _ => Ent.app (Ent.left (D := [_]))⟩) ?_ ?_ ?_; (exact rfl); exact rfl)))) | (refine ari ?_ ?_; omega) | (refine aru ?_ ?_; omega) | (apply sel; exact rfl) | (refine ix0 rfl ?_) | (refine ix1 rfl ?_) | (refine ix2 rfl ?_) | (refine ix3 rfl ?_) | (apply ixj; omega) | (refine ixn ?_ ?_; omega) | (refine ixs0 rfl ?_) | (refine ixs1 rfl ?_) | (refine ixs_j ?_ ?_; omega) | (refine ixs_n ?_ ?_; omega) | (apply ld_o; exact rfl) | (apply ldN_a; exact rfl) | (apply ldN_o; (exact rfl); exact rfl) | (apply st_o; (exact rfl); exact rfl) | (apply stN_o; (exact rfl); (exact rfl); exact rfl) | (refine new_i (fun bk hbk => ?_)) | (apply when_dE; (exact rfl); (exact rfl); all_goals intro hc) | (apply when_dF; (exact rfl); (exact rfl); all_goals intro hc) | (apply when_nE; (exact rfl); (exact rfl); all_goals intro hc) | (apply when_nF; (exact rfl); (exact rfl); all_goals intro hc) | (apply br_dE; (exact rfl); all_goals intro hc) | (apply br_nE; (exact rfl); all_goals intro hc) | (refine mm_min ?_) | (refine mm_max ?_) | (refine rem_i ?_ ?_; omega) | (refine SelN.mk ?_) | (refine cut_n ?_) | (refine Both.mk ?_ ?_) | (exact True.intro))
    all_goals first | exact ⟨rfl, (by first | exact ent_i | (repeat (first | exact Ent.refl | exact Ent.left | refine Ent.cons ?_ | refine Ent.app ?_)))⟩ | (exfalso; omega)
end
end Go.Proofs.YtofjnldidkiihaaDoor
namespace Go.Proofs.YtofjnldidkiihaaDoor
open Go
/-- The cells of a checker: numbers, the three slices, the slices of the words, the race. -/
def ckL (cnt at1 : Int) (eb sb bb n sc : Nat) (V : Nat → Value) (r : RaceM) : List Value :=
  [.int .i64 cnt, .int .i64 at1, .slice (some ⟨eb, 0, none⟩) n n, .slice (some ⟨sb, 0, none⟩) n sc, .slice (some ⟨bb, 0, none⟩) n n] ++ (rowG 256 V ++ encRc r)
section
variable {cnt at1 : Int} {eb sb bb n sc : Nat} {V : Nat → Value} {r : RaceM}
theorem ckL_len : (ckL cnt at1 eb sb bb n sc V r).length = 264 := by
  unfold ckL
  rw [List.length_append, List.length_append, rowG_len]
  rfl
theorem ckL_word {i : Nat} (h : i < 256) : (ckL cnt at1 eb sb bb n sc V r)[5 + i]? = some (V i) := by
  unfold ckL
  rw [List.getElem?_append_right (by simp)]
  have e : 5 + i - [Value.int .i64 cnt, .int .i64 at1, .slice (some ⟨eb, 0, none⟩) n n, .slice (some ⟨sb, 0, none⟩) n sc, .slice (some ⟨bb, 0, none⟩) n n].length = i := by simp
  rw [e, List.getElem?_append_left (by rw [rowG_len]; exact h), rowG_get h]
theorem ckL_race (r' : RaceM) : (ckL cnt at1 eb sb bb n sc V r).take 261 ++ encRc r' ++ (ckL cnt at1 eb sb bb n sc V r).drop 264 = ckL cnt at1 eb sb bb n sc V r' := by
  have e : ∀ r : RaceM, ckL cnt at1 eb sb bb n sc V r = ([.int .i64 cnt, .int .i64 at1, .slice (some ⟨eb, 0, none⟩) n n, .slice (some ⟨sb, 0, none⟩) n sc, .slice (some ⟨bb, 0, none⟩) n n] ++ rowG 256 V) ++ encRc r := fun r => by
    unfold ckL
    rw [List.append_assoc]
  have hl : ([.int .i64 cnt, .int .i64 at1, .slice (some ⟨eb, 0, none⟩) n n, .slice (some ⟨sb, 0, none⟩) n sc, .slice (some ⟨bb, 0, none⟩) n n] ++ rowG 256 V : List Value).length = 261 := by
    rw [List.length_append, rowG_len]; rfl
  have hd : (ckL cnt at1 eb sb bb n sc V r).drop 264 = [] := List.drop_of_length_le (by rw [ckL_len]; exact Nat.le_refl _)
  rw [hd, List.append_nil, e, e, List.take_left' hl]
end
section
variable {W0 : World} {own : Own}
theorem flat_one : ∀ l : List Value, l = (l.map fun v => [v]).flatten
  | [] => rfl
  | x :: r => congrArg (x :: ·) (flat_one r)
/-- A cell of a block that is listed. -/
theorem cl_of {b i : Nat} {cs : List Value} {T : TypeId} {v : Value} (hm : (b, fun o => o = Obj.cells cs.toArray T) ∈ own) (hv : cs[i]? = some v) : Cl W0 own b i v := by
  have h := rd_blk (W0 := W0) (enc := fun v : Value => [v]) (sz := 1) (l := cs) hm (fun _ _ => rfl) (flat_one cs)
  have := h.cell (j := i) (k := 0) hv (by rfl)
  have this : Kn W0 own fun w => w.cell? ⟨b, 0 + i * 1 + 0, none⟩ = some v := this
  rw [Nat.mul_one, Nat.add_zero, Nat.zero_add] at this
  exact this
end
end Go.Proofs.YtofjnldidkiihaaDoor
namespace Go.Proofs.YtofjnldidkiihaaDoor
open Go
set_option maxRecDepth 10000
set_option maxHeartbeats 4000000
section
variable {W0 : World} {own : Own}
theorem stN_ck {cnt at1 : Int} {cb eb sb bb n sc k : Nat} {V : Nat → Value} {r : RaceM} {T : TypeId} {K : Own → Prop} {C : (Obj → Prop) → Own} (r' : RaceM) [m : UpC cb (fun o => o = Obj.cells (ckL cnt at1 eb sb bb n sc V r).toArray T (0, 0)) own C] (hk3 : 3 = k)
    (hk : K (C fun o => o = Obj.cells (ckL cnt at1 eb sb bb n sc V r').toArray T (0, 0))) : (encRc r').length = k ∧ StN W0 own ⟨cb, 261, none⟩ (encRc r') K := by
  subst hk3
  refine stN_o (cs := (ckL cnt at1 eb sb bb n sc V r).toArray) (T := T) rfl ?_ rfl ?_
  · show Nat.ble (261 + 3) (ckL cnt at1 eb sb bb n sc V r).length = true
    rw [ckL_len]
    rfl
  · show K (C fun o => o = Obj.cells ((ckL cnt at1 eb sb bb n sc V r).take 261 ++ encRc r' ++ (ckL cnt at1 eb sb bb n sc V r).drop 264).toArray T (0, 0))
    rw [ckL_race]
    exact hk
/-- The last racing place by the lists. -/
def tstL (n : Nat) (k o : Int) (wr : Bool) (ck : Nat → Int) (R W TR TW : List (Int × Int)) : Int :=
  let p0 := ltM o ck (fAc W) (-1) n
  let p1 := if wr = true then ltM o ck (fAc R) p0 n else p0
  let p2 := if k ≠ 4 then ltM o ck (fAc TW) p1 n else p1
  if k ≠ 4 ∧ wr = true then ltM o ck (fAc TR) p2 n else p2
theorem fAc_row {n : Nat} {g : Nat → Int × Int} {t : Nat} (h : t < n) : fAc (rowG n g) t = g t := fAc_at (rowG_get h)
/-- The test of the lists is the test of the trace. -/
theorem tstL_M {l : List EH} {n : Nat} {k o w : Int} {wr : Bool} {C : List Int} {ck : Nat → Int} (hC : ∀ t, t < n → gtC C t = ck t) :
    tstL n k o wr (fun t => gtC C t) (accR l n qR w) (accR l n qW w) (accR l n qTR w) (accR l n qTW w) = tstM l n l.length k o w wr ck := by
  unfold tstL tstM
  have h : ∀ (Q : List EH → Int → Nat → Bool) (pl : Int), ltM o (fun t => gtC C t) (fAc (accR l n Q w)) pl n = ltM o ck (fun t => accG l (Q l w) t l.length) pl n := fun Q pl => ltM_congr fun t ht => ⟨fAc_row ht, hC t ht⟩
  simp only [h]
end
end Go.Proofs.YtofjnldidkiihaaDoor
namespace Go.Proofs.YtofjnldidkiihaaDoor
open Go
set_option maxRecDepth 10000
set_option maxHeartbeats 4000000
section
variable {W0 : World} {own : Own}
theorem sp_test {e : EH} {cb eb sb bb n sc w bR bW bTR bTW cc : Nat} {cnt at1 : Int} {V : Nat → Value} {r : RaceM} {c : Option Addr} {Cl1 : List Int} {R W TR TW : List (Int × Int)} {wr : Bool} {Cf : (Obj → Prop) → Own}
    [u : UpC cb (fun o => o = Obj.cells (ckL cnt at1 eb sb bb n sc V r).toArray 68 (0, 0)) own Cf]
    (k0 : Cl W0 own cb 0 (.int .i64 cnt)) (hw : w < 64)
    (c0 : Cl W0 own cb (5 + w * 4 + 0) (.slice (some ⟨bR, 0, none⟩) n n)) (c1 : Cl W0 own cb (5 + w * 4 + 1) (.slice (some ⟨bW, 0, none⟩) n n))
    (c2 : Cl W0 own cb (5 + w * 4 + 2) (.slice (some ⟨bTR, 0, none⟩) n n)) (c3 : Cl W0 own cb (5 + w * 4 + 3) (.slice (some ⟨bTW, 0, none⟩) n n))
    (hR : RdE encAc 2 W0 own (some ⟨bR, 0, none⟩) R) (hW : RdE encAc 2 W0 own (some ⟨bW, 0, none⟩) W) (hTR : RdE encAc 2 W0 own (some ⟨bTR, 0, none⟩) TR) (hTW : RdE encAc 2 W0 own (some ⟨bTW, 0, none⟩) TW)
    (lR0 : R.length = n) (lW0 : W.length = n) (lTR0 : TR.length = n) (lTW0 : TW.length = n) (hn16 : n ≤ 65536) (hC : RdE encI 1 W0 own c Cl1) :
    Spec Tryd.prog W0 65 [.pointer (some ⟨cb, 0, none⟩), e.v, .int .i64 w, .bool wr, .slice c Cl1.length cc] own fun v own' => v = .bool (decide (0 ≤ tstL n e.k e.t wr (fun t => gtC Cl1 t) R W TR TW)) ∧ Ent W0 own' (if 0 ≤ tstL n e.k e.t wr (fun t => gtC Cl1 t) R W TR TW then Cf (fun o => o = Obj.cells (ckL cnt at1 eb sb bb n sc V (tstL n e.k e.t wr (fun t => gtC Cl1 t) R W TR TW, cnt, (w : Int))).toArray 68 (0, 0)) else own) := by
  refine spec_of mixed low_tdrf_Checker_test (by simp [ir_tdrf_Checker_test]) ?_
  have lat : ∀ {A : List (Int × Int)} {b : Nat}, RdE encAc 2 W0 own (some ⟨b, 0, none⟩) A → A.length = n → ∀ (own' : Own) [EntC own' own] (pl : Int), Pure Tryd.prog W0 77 [.int .i64 pl, .slice (some ⟨b, 0, none⟩) n n, .int .i64 e.t, .slice c Cl1.length cc] own' (.int .i64 (ltM e.t (fun t => gtC Cl1 t) (fAc A) pl n)) := fun {A b} hA hl own' _ pl => by
    have := sp_latest (W0 := W0) (own := own') (cap := n) (cc := cc) hC.up hA.up (by omega) pl e.t
    rwa [hl] at this
  have lR := fun own' [EntC own' own] => lat hR lR0 own'
  have lW := fun own' [EntC own' own] => lat hW lW0 own'
  have lTR := fun own' [EntC own' own] => lat hTR lTR0 own'
  have lTW := fun own' [EntC own' own] => lat hTW lTW0 own'
  have hw1 : (w : Int) < 64 := by omega
  clear lat hR hW hTR hTW
  unfold tstL
  obtain ⟨ev, t, k, wd, ra, rl, rc, wa, wl, wc⟩ := e
  dsimp only [EH.v] at *
  cases wr with
  | false =>
    by_cases hk : k = 4
    · have hk' : ¬ k ≠ 4 := fun h => h hk
      simp only [hk, ne_eq, not_true_eq_false, and_false, if_false, Bool.false_eq_true]
      have g0 := fun (own' : Own) [EntC own' own] => lW own' (-1)
      generalize ltM t (fun t => gtC Cl1 t) (fAc W) (-1) n = p at *
      by_cases hn : p < 0
      · rw [decide_eq_false (by omega), if_neg (by omega)]
        repeat' ((try (conv => whnf)); first | (refine when_ye ?_ ?_; exact rfl) | (refine when_ne ?_ ?_; exact rfl) | (refine br_te ?_ ?_; exact rfl) | (refine br_fe ?_ ?_; exact rfl) | (apply br_pyE; (exact rfl); omega) | (apply br_pnE; (exact rfl); omega) | (apply when_pyE; (exact rfl); omega) | (apply when_pnE; (exact rfl); omega) | (apply br_npyE; (exact rfl); omega) | (apply br_npnE; (exact rfl); omega) | (apply when_npyE; (exact rfl); omega) | (apply when_npnE; (exact rfl); omega) | (refine br_pyE ?_ hk ?_; exact rfl) | (refine br_pnE ?_ hk ?_; exact rfl) | (refine when_pyE ?_ hk ?_; exact rfl) | (refine when_pnE ?_ hk ?_; exact rfl) | (refine br_npyE ?_ hk ?_; exact rfl) | (refine br_npnE ?_ hk ?_; exact rfl) | (refine when_npyE ?_ hk ?_; exact rfl) | (refine when_npnE ?_ hk ?_; exact rfl) | (refine br_pyE ?_ hn ?_; exact rfl) | (refine br_pnE ?_ hn ?_; exact rfl) | (refine when_pyE ?_ hn ?_; exact rfl) | (refine when_pnE ?_ hn ?_; exact rfl) | (refine br_npyE ?_ hn ?_; exact rfl) | (refine br_npnE ?_ hn ?_; exact rfl) | (refine when_npyE ?_ hn ?_; exact rfl) | (refine when_npnE ?_ hn ?_; exact rfl) | ((with_reducible show Ld _ _ _ _); first | (refine ldK k0 ?_) | (refine ldK c0 ?_) | (refine ldK c1 ?_) | (refine ldK c2 ?_) | (refine ldK c3 ?_)) | ((with_reducible show CallQ _ _ _ _ _ _); first | (((refine call_qi (fun ex => g0 (ex ++ _)) ?_ ?_ ?_; (exact rfl); exact rfl)))) | (refine ari ?_ ?_; omega) | (refine aru ?_ ?_; omega) | (apply sel; exact rfl) | (refine ix0 rfl ?_) | (refine ix1 rfl ?_) | (refine ix2 rfl ?_) | (refine ix3 rfl ?_) | (apply ixj; omega) | (refine ixn ?_ ?_; omega) | (refine ixs0 rfl ?_) | (refine ixs1 rfl ?_) | (refine ixs_j ?_ ?_; omega) | (refine ixs_n ?_ ?_; omega) | (apply ld_o; exact rfl) | (apply ldN_a; exact rfl) | (apply ldN_o; (exact rfl); exact rfl) | (apply st_o; (exact rfl); exact rfl) | (apply stN_o; (exact rfl); (exact rfl); exact rfl) | (refine new_i (fun bk hbk => ?_)) | (apply when_dE; (exact rfl); (exact rfl); all_goals intro hc) | (apply when_dF; (exact rfl); (exact rfl); all_goals intro hc) | (apply when_nE; (exact rfl); (exact rfl); all_goals intro hc) | (apply when_nF; (exact rfl); (exact rfl); all_goals intro hc) | (apply br_dE; (exact rfl); all_goals intro hc) | (apply br_nE; (exact rfl); all_goals intro hc) | (refine mm_min ?_) | (refine mm_max ?_) | (refine rem_i ?_ ?_; omega) | (refine SelN.mk ?_) | (refine cut_n ?_) | (refine Both.mk ?_ ?_) | (exact True.intro))
        exact ⟨rfl, (by first | exact ent_i | (repeat (first | exact Ent.refl | exact Ent.left | refine Ent.cons ?_ | refine Ent.app ?_)))⟩
      · rw [decide_eq_true (by omega), if_pos (by omega)]
        repeat' ((try (conv => whnf)); first | (refine when_ye ?_ ?_; exact rfl) | (refine when_ne ?_ ?_; exact rfl) | (refine br_te ?_ ?_; exact rfl) | (refine br_fe ?_ ?_; exact rfl) | (apply br_pyE; (exact rfl); omega) | (apply br_pnE; (exact rfl); omega) | (apply when_pyE; (exact rfl); omega) | (apply when_pnE; (exact rfl); omega) | (apply br_npyE; (exact rfl); omega) | (apply br_npnE; (exact rfl); omega) | (apply when_npyE; (exact rfl); omega) | (apply when_npnE; (exact rfl); omega) | (refine br_pyE ?_ hk ?_; exact rfl) | (refine br_pnE ?_ hk ?_; exact rfl) | (refine when_pyE ?_ hk ?_; exact rfl) | (refine when_pnE ?_ hk ?_; exact rfl) | (refine br_npyE ?_ hk ?_; exact rfl) | (refine br_npnE ?_ hk ?_; exact rfl) | (refine when_npyE ?_ hk ?_; exact rfl) | (refine when_npnE ?_ hk ?_; exact rfl) | (refine br_pyE ?_ hn ?_; exact rfl) | (refine br_pnE ?_ hn ?_; exact rfl) | (refine when_pyE ?_ hn ?_; exact rfl) | (refine when_pnE ?_ hn ?_; exact rfl) | (refine br_npyE ?_ hn ?_; exact rfl) | (refine br_npnE ?_ hn ?_; exact rfl) | (refine when_npyE ?_ hn ?_; exact rfl) | (refine when_npnE ?_ hn ?_; exact rfl) | (refine stN_ck (p, cnt, (w : Int)) ?_ ?_; (exact rfl)) | ((with_reducible show Ld _ _ _ _); first | (refine ldK k0 ?_) | (refine ldK c0 ?_) | (refine ldK c1 ?_) | (refine ldK c2 ?_) | (refine ldK c3 ?_)) | ((with_reducible show CallQ _ _ _ _ _ _); first | (((refine call_qi (fun ex => g0 (ex ++ _)) ?_ ?_ ?_; (exact rfl); exact rfl)))) | (refine ari ?_ ?_; omega) | (refine aru ?_ ?_; omega) | (apply sel; exact rfl) | (refine ix0 rfl ?_) | (refine ix1 rfl ?_) | (refine ix2 rfl ?_) | (refine ix3 rfl ?_) | (apply ixj; omega) | (refine ixn ?_ ?_; omega) | (refine ixs0 rfl ?_) | (refine ixs1 rfl ?_) | (refine ixs_j ?_ ?_; omega) | (refine ixs_n ?_ ?_; omega) | (apply ld_o; exact rfl) | (apply ldN_a; exact rfl) | (apply ldN_o; (exact rfl); exact rfl) | (apply st_o; (exact rfl); exact rfl) | (apply stN_o; (exact rfl); (exact rfl); exact rfl) | (refine new_i (fun bk hbk => ?_)) | (apply when_dE; (exact rfl); (exact rfl); all_goals intro hc) | (apply when_dF; (exact rfl); (exact rfl); all_goals intro hc) | (apply when_nE; (exact rfl); (exact rfl); all_goals intro hc) | (apply when_nF; (exact rfl); (exact rfl); all_goals intro hc) | (apply br_dE; (exact rfl); all_goals intro hc) | (apply br_nE; (exact rfl); all_goals intro hc) | (refine mm_min ?_) | (refine mm_max ?_) | (refine rem_i ?_ ?_; omega) | (refine SelN.mk ?_) | (refine cut_n ?_) | (refine Both.mk ?_ ?_) | (exact True.intro))
        exact ⟨rfl, (by first | exact ent_i | (repeat (first | exact Ent.refl | exact Ent.left | refine Ent.cons ?_ | refine Ent.app ?_)))⟩
    · have hk' : k ≠ 4 := hk
      simp only [hk, ne_eq, not_false_eq_true, and_false, if_true, if_false, Bool.false_eq_true]
      have g0 := fun (own' : Own) [EntC own' own] => lW own' (-1)
      generalize ltM t (fun t => gtC Cl1 t) (fAc W) (-1) n = p0 at *
      have g1 := fun (own' : Own) [EntC own' own] => lTW own' p0
      generalize ltM t (fun t => gtC Cl1 t) (fAc TW) p0 n = p at *
      by_cases hn : p < 0
      · rw [decide_eq_false (by omega), if_neg (by omega)]
        repeat' ((try (conv => whnf)); first | (refine when_ye ?_ ?_; exact rfl) | (refine when_ne ?_ ?_; exact rfl) | (refine br_te ?_ ?_; exact rfl) | (refine br_fe ?_ ?_; exact rfl) | (apply br_pyE; (exact rfl); omega) | (apply br_pnE; (exact rfl); omega) | (apply when_pyE; (exact rfl); omega) | (apply when_pnE; (exact rfl); omega) | (apply br_npyE; (exact rfl); omega) | (apply br_npnE; (exact rfl); omega) | (apply when_npyE; (exact rfl); omega) | (apply when_npnE; (exact rfl); omega) | (refine br_pyE ?_ hk ?_; exact rfl) | (refine br_pnE ?_ hk ?_; exact rfl) | (refine when_pyE ?_ hk ?_; exact rfl) | (refine when_pnE ?_ hk ?_; exact rfl) | (refine br_npyE ?_ hk ?_; exact rfl) | (refine br_npnE ?_ hk ?_; exact rfl) | (refine when_npyE ?_ hk ?_; exact rfl) | (refine when_npnE ?_ hk ?_; exact rfl) | (refine br_pyE ?_ hn ?_; exact rfl) | (refine br_pnE ?_ hn ?_; exact rfl) | (refine when_pyE ?_ hn ?_; exact rfl) | (refine when_pnE ?_ hn ?_; exact rfl) | (refine br_npyE ?_ hn ?_; exact rfl) | (refine br_npnE ?_ hn ?_; exact rfl) | (refine when_npyE ?_ hn ?_; exact rfl) | (refine when_npnE ?_ hn ?_; exact rfl) | ((with_reducible show Ld _ _ _ _); first | (refine ldK k0 ?_) | (refine ldK c0 ?_) | (refine ldK c1 ?_) | (refine ldK c2 ?_) | (refine ldK c3 ?_)) | ((with_reducible show CallQ _ _ _ _ _ _); first | (((refine call_qi (fun ex => g0 (ex ++ _)) ?_ ?_ ?_; (exact rfl); exact rfl))) | (((refine call_qi (fun ex => g1 (ex ++ _)) ?_ ?_ ?_; (exact rfl); exact rfl)))) | (refine ari ?_ ?_; omega) | (refine aru ?_ ?_; omega) | (apply sel; exact rfl) | (refine ix0 rfl ?_) | (refine ix1 rfl ?_) | (refine ix2 rfl ?_) | (refine ix3 rfl ?_) | (apply ixj; omega) | (refine ixn ?_ ?_; omega) | (refine ixs0 rfl ?_) | (refine ixs1 rfl ?_) | (refine ixs_j ?_ ?_; omega) | (refine ixs_n ?_ ?_; omega) | (apply ld_o; exact rfl) | (apply ldN_a; exact rfl) | (apply ldN_o; (exact rfl); exact rfl) | (apply st_o; (exact rfl); exact rfl) | (apply stN_o; (exact rfl); (exact rfl); exact rfl) | (refine new_i (fun bk hbk => ?_)) | (apply when_dE; (exact rfl); (exact rfl); all_goals intro hc) | (apply when_dF; (exact rfl); (exact rfl); all_goals intro hc) | (apply when_nE; (exact rfl); (exact rfl); all_goals intro hc) | (apply when_nF; (exact rfl); (exact rfl); all_goals intro hc) | (apply br_dE; (exact rfl); all_goals intro hc) | (apply br_nE; (exact rfl); all_goals intro hc) | (refine mm_min ?_) | (refine mm_max ?_) | (refine rem_i ?_ ?_; omega) | (refine SelN.mk ?_) | (refine cut_n ?_) | (refine Both.mk ?_ ?_) | (exact True.intro))
        exact ⟨rfl, (by first | exact ent_i | (repeat (first | exact Ent.refl | exact Ent.left | refine Ent.cons ?_ | refine Ent.app ?_)))⟩
      · rw [decide_eq_true (by omega), if_pos (by omega)]
        repeat' ((try (conv => whnf)); first | (refine when_ye ?_ ?_; exact rfl) | (refine when_ne ?_ ?_; exact rfl) | (refine br_te ?_ ?_; exact rfl) | (refine br_fe ?_ ?_; exact rfl) | (apply br_pyE; (exact rfl); omega) | (apply br_pnE; (exact rfl); omega) | (apply when_pyE; (exact rfl); omega) | (apply when_pnE; (exact rfl); omega) | (apply br_npyE; (exact rfl); omega) | (apply br_npnE; (exact rfl); omega) | (apply when_npyE; (exact rfl); omega) | (apply when_npnE; (exact rfl); omega) | (refine br_pyE ?_ hk ?_; exact rfl) | (refine br_pnE ?_ hk ?_; exact rfl) | (refine when_pyE ?_ hk ?_; exact rfl) | (refine when_pnE ?_ hk ?_; exact rfl) | (refine br_npyE ?_ hk ?_; exact rfl) | (refine br_npnE ?_ hk ?_; exact rfl) | (refine when_npyE ?_ hk ?_; exact rfl) | (refine when_npnE ?_ hk ?_; exact rfl) | (refine br_pyE ?_ hn ?_; exact rfl) | (refine br_pnE ?_ hn ?_; exact rfl) | (refine when_pyE ?_ hn ?_; exact rfl) | (refine when_pnE ?_ hn ?_; exact rfl) | (refine br_npyE ?_ hn ?_; exact rfl) | (refine br_npnE ?_ hn ?_; exact rfl) | (refine when_npyE ?_ hn ?_; exact rfl) | (refine when_npnE ?_ hn ?_; exact rfl) | (refine stN_ck (p, cnt, (w : Int)) ?_ ?_; (exact rfl)) | ((with_reducible show Ld _ _ _ _); first | (refine ldK k0 ?_) | (refine ldK c0 ?_) | (refine ldK c1 ?_) | (refine ldK c2 ?_) | (refine ldK c3 ?_)) | ((with_reducible show CallQ _ _ _ _ _ _); first | (((refine call_qi (fun ex => g0 (ex ++ _)) ?_ ?_ ?_; (exact rfl); exact rfl))) | (((refine call_qi (fun ex => g1 (ex ++ _)) ?_ ?_ ?_; (exact rfl); exact rfl)))) | (refine ari ?_ ?_; omega) | (refine aru ?_ ?_; omega) | (apply sel; exact rfl) | (refine ix0 rfl ?_) | (refine ix1 rfl ?_) | (refine ix2 rfl ?_) | (refine ix3 rfl ?_) | (apply ixj; omega) | (refine ixn ?_ ?_; omega) | (refine ixs0 rfl ?_) | (refine ixs1 rfl ?_) | (refine ixs_j ?_ ?_; omega) | (refine ixs_n ?_ ?_; omega) | (apply ld_o; exact rfl) | (apply ldN_a; exact rfl) | (apply ldN_o; (exact rfl); exact rfl) | (apply st_o; (exact rfl); exact rfl) | (apply stN_o; (exact rfl); (exact rfl); exact rfl) | (refine new_i (fun bk hbk => ?_)) | (apply when_dE; (exact rfl); (exact rfl); all_goals intro hc) | (apply when_dF; (exact rfl); (exact rfl); all_goals intro hc) | (apply when_nE; (exact rfl); (exact rfl); all_goals intro hc) | (apply when_nF; (exact rfl); (exact rfl); all_goals intro hc) | (apply br_dE; (exact rfl); all_goals intro hc) | (apply br_nE; (exact rfl); all_goals intro hc) | (refine mm_min ?_) | (refine mm_max ?_) | (refine rem_i ?_ ?_; omega) | (refine SelN.mk ?_) | (refine cut_n ?_) | (refine Both.mk ?_ ?_) | (exact True.intro))
        exact ⟨rfl, (by first | exact ent_i | (repeat (first | exact Ent.refl | exact Ent.left | refine Ent.cons ?_ | refine Ent.app ?_)))⟩
  | true =>
    by_cases hk : k = 4
    · have hk' : ¬ k ≠ 4 := fun h => h hk
      simp only [hk, ne_eq, not_true_eq_false, and_true, if_true, if_false]
      have g0 := fun (own' : Own) [EntC own' own] => lW own' (-1)
      generalize ltM t (fun t => gtC Cl1 t) (fAc W) (-1) n = p0 at *
      have g1 := fun (own' : Own) [EntC own' own] => lR own' p0
      generalize ltM t (fun t => gtC Cl1 t) (fAc R) p0 n = p at *
      by_cases hn : p < 0
      · rw [decide_eq_false (by omega), if_neg (by omega)]
        repeat' ((try (conv => whnf)); first | (refine when_ye ?_ ?_; exact rfl) | (refine when_ne ?_ ?_; exact rfl) | (refine br_te ?_ ?_; exact rfl) | (refine br_fe ?_ ?_; exact rfl) | (apply br_pyE; (exact rfl); omega) | (apply br_pnE; (exact rfl); omega) | (apply when_pyE; (exact rfl); omega) | (apply when_pnE; (exact rfl); omega) | (apply br_npyE; (exact rfl); omega) | (apply br_npnE; (exact rfl); omega) | (apply when_npyE; (exact rfl); omega) | (apply when_npnE; (exact rfl); omega) | (refine br_pyE ?_ hk ?_; exact rfl) | (refine br_pnE ?_ hk ?_; exact rfl) | (refine when_pyE ?_ hk ?_; exact rfl) | (refine when_pnE ?_ hk ?_; exact rfl) | (refine br_npyE ?_ hk ?_; exact rfl) | (refine br_npnE ?_ hk ?_; exact rfl) | (refine when_npyE ?_ hk ?_; exact rfl) | (refine when_npnE ?_ hk ?_; exact rfl) | (refine br_pyE ?_ hn ?_; exact rfl) | (refine br_pnE ?_ hn ?_; exact rfl) | (refine when_pyE ?_ hn ?_; exact rfl) | (refine when_pnE ?_ hn ?_; exact rfl) | (refine br_npyE ?_ hn ?_; exact rfl) | (refine br_npnE ?_ hn ?_; exact rfl) | (refine when_npyE ?_ hn ?_; exact rfl) | (refine when_npnE ?_ hn ?_; exact rfl) | ((with_reducible show Ld _ _ _ _); first | (refine ldK k0 ?_) | (refine ldK c0 ?_) | (refine ldK c1 ?_) | (refine ldK c2 ?_) | (refine ldK c3 ?_)) | ((with_reducible show CallQ _ _ _ _ _ _); first | (((refine call_qi (fun ex => g0 (ex ++ _)) ?_ ?_ ?_; (exact rfl); exact rfl))) | (((refine call_qi (fun ex => g1 (ex ++ _)) ?_ ?_ ?_; (exact rfl); exact rfl)))) | (refine ari ?_ ?_; omega) | (refine aru ?_ ?_; omega) | (apply sel; exact rfl) | (refine ix0 rfl ?_) | (refine ix1 rfl ?_) | (refine ix2 rfl ?_) | (refine ix3 rfl ?_) | (apply ixj; omega) | (refine ixn ?_ ?_; omega) | (refine ixs0 rfl ?_) | (refine ixs1 rfl ?_) | (refine ixs_j ?_ ?_; omega) | (refine ixs_n ?_ ?_; omega) | (apply ld_o; exact rfl) | (apply ldN_a; exact rfl) | (apply ldN_o; (exact rfl); exact rfl) | (apply st_o; (exact rfl); exact rfl) | (apply stN_o; (exact rfl); (exact rfl); exact rfl) | (refine new_i (fun bk hbk => ?_)) | (apply when_dE; (exact rfl); (exact rfl); all_goals intro hc) | (apply when_dF; (exact rfl); (exact rfl); all_goals intro hc) | (apply when_nE; (exact rfl); (exact rfl); all_goals intro hc) | (apply when_nF; (exact rfl); (exact rfl); all_goals intro hc) | (apply br_dE; (exact rfl); all_goals intro hc) | (apply br_nE; (exact rfl); all_goals intro hc) | (refine mm_min ?_) | (refine mm_max ?_) | (refine rem_i ?_ ?_; omega) | (refine SelN.mk ?_) | (refine cut_n ?_) | (refine Both.mk ?_ ?_) | (exact True.intro))
        exact ⟨rfl, (by first | exact ent_i | (repeat (first | exact Ent.refl | exact Ent.left | refine Ent.cons ?_ | refine Ent.app ?_)))⟩
      · rw [decide_eq_true (by omega), if_pos (by omega)]
        repeat' ((try (conv => whnf)); first | (refine when_ye ?_ ?_; exact rfl) | (refine when_ne ?_ ?_; exact rfl) | (refine br_te ?_ ?_; exact rfl) | (refine br_fe ?_ ?_; exact rfl) | (apply br_pyE; (exact rfl); omega) | (apply br_pnE; (exact rfl); omega) | (apply when_pyE; (exact rfl); omega) | (apply when_pnE; (exact rfl); omega) | (apply br_npyE; (exact rfl); omega) | (apply br_npnE; (exact rfl); omega) | (apply when_npyE; (exact rfl); omega) | (apply when_npnE; (exact rfl); omega) | (refine br_pyE ?_ hk ?_; exact rfl) | (refine br_pnE ?_ hk ?_; exact rfl) | (refine when_pyE ?_ hk ?_; exact rfl) | (refine when_pnE ?_ hk ?_; exact rfl) | (refine br_npyE ?_ hk ?_; exact rfl) | (refine br_npnE ?_ hk ?_; exact rfl) | (refine when_npyE ?_ hk ?_; exact rfl) | (refine when_npnE ?_ hk ?_; exact rfl) | (refine br_pyE ?_ hn ?_; exact rfl) | (refine br_pnE ?_ hn ?_; exact rfl) | (refine when_pyE ?_ hn ?_; exact rfl) | (refine when_pnE ?_ hn ?_; exact rfl) | (refine br_npyE ?_ hn ?_; exact rfl) | (refine br_npnE ?_ hn ?_; exact rfl) | (refine when_npyE ?_ hn ?_; exact rfl) | (refine when_npnE ?_ hn ?_; exact rfl) | (refine stN_ck (p, cnt, (w : Int)) ?_ ?_; (exact rfl)) | ((with_reducible show Ld _ _ _ _); first | (refine ldK k0 ?_) | (refine ldK c0 ?_) | (refine ldK c1 ?_) | (refine ldK c2 ?_) | (refine ldK c3 ?_)) | ((with_reducible show CallQ _ _ _ _ _ _); first | (((refine call_qi (fun ex => g0 (ex ++ _)) ?_ ?_ ?_; (exact rfl); exact rfl))) | (((refine call_qi (fun ex => g1 (ex ++ _)) ?_ ?_ ?_; (exact rfl); exact rfl)))) | (refine ari ?_ ?_; omega) | (refine aru ?_ ?_; omega) | (apply sel; exact rfl) | (refine ix0 rfl ?_) | (refine ix1 rfl ?_) | (refine ix2 rfl ?_) | (refine ix3 rfl ?_) | (apply ixj; omega) | (refine ixn ?_ ?_; omega) | (refine ixs0 rfl ?_) | (refine ixs1 rfl ?_) | (refine ixs_j ?_ ?_; omega) | (refine ixs_n ?_ ?_; omega) | (apply ld_o; exact rfl) | (apply ldN_a; exact rfl) | (apply ldN_o; (exact rfl); exact rfl) | (apply st_o; (exact rfl); exact rfl) | (apply stN_o; (exact rfl); (exact rfl); exact rfl) | (refine new_i (fun bk hbk => ?_)) | (apply when_dE; (exact rfl); (exact rfl); all_goals intro hc) | (apply when_dF; (exact rfl); (exact rfl); all_goals intro hc) | (apply when_nE; (exact rfl); (exact rfl); all_goals intro hc) | (apply when_nF; (exact rfl); (exact rfl); all_goals intro hc) | (apply br_dE; (exact rfl); all_goals intro hc) | (apply br_nE; (exact rfl); all_goals intro hc) | (refine mm_min ?_) | (refine mm_max ?_) | (refine rem_i ?_ ?_; omega) | (refine SelN.mk ?_) | (refine cut_n ?_) | (refine Both.mk ?_ ?_) | (exact True.intro))
        exact ⟨rfl, (by first | exact ent_i | (repeat (first | exact Ent.refl | exact Ent.left | refine Ent.cons ?_ | refine Ent.app ?_)))⟩
    · have hk' : k ≠ 4 := hk
      simp only [hk, ne_eq, not_false_eq_true, and_true, if_true]
      have g0 := fun (own' : Own) [EntC own' own] => lW own' (-1)
      generalize ltM t (fun t => gtC Cl1 t) (fAc W) (-1) n = p0 at *
      have g1 := fun (own' : Own) [EntC own' own] => lR own' p0
      generalize ltM t (fun t => gtC Cl1 t) (fAc R) p0 n = p1 at *
      have g2 := fun (own' : Own) [EntC own' own] => lTW own' p1
      generalize ltM t (fun t => gtC Cl1 t) (fAc TW) p1 n = p2 at *
      have g3 := fun (own' : Own) [EntC own' own] => lTR own' p2
      generalize ltM t (fun t => gtC Cl1 t) (fAc TR) p2 n = p at *
      by_cases hn : p < 0
      · rw [decide_eq_false (by omega), if_neg (by omega)]
        repeat' ((try (conv => whnf)); first | (refine when_ye ?_ ?_; exact rfl) | (refine when_ne ?_ ?_; exact rfl) | (refine br_te ?_ ?_; exact rfl) | (refine br_fe ?_ ?_; exact rfl) | (apply br_pyE; (exact rfl); omega) | (apply br_pnE; (exact rfl); omega) | (apply when_pyE; (exact rfl); omega) | (apply when_pnE; (exact rfl); omega) | (apply br_npyE; (exact rfl); omega) | (apply br_npnE; (exact rfl); omega) | (apply when_npyE; (exact rfl); omega) | (apply when_npnE; (exact rfl); omega) | (refine br_pyE ?_ hk ?_; exact rfl) | (refine br_pnE ?_ hk ?_; exact rfl) | (refine when_pyE ?_ hk ?_; exact rfl) | (refine when_pnE ?_ hk ?_; exact rfl) | (refine br_npyE ?_ hk ?_; exact rfl) | (refine br_npnE ?_ hk ?_; exact rfl) | (refine when_npyE ?_ hk ?_; exact rfl) | (refine when_npnE ?_ hk ?_; exact rfl) | (refine br_pyE ?_ hn ?_; exact rfl) | (refine br_pnE ?_ hn ?_; exact rfl) | (refine when_pyE ?_ hn ?_; exact rfl) | (refine when_pnE ?_ hn ?_; exact rfl) | (refine br_npyE ?_ hn ?_; exact rfl) | (refine br_npnE ?_ hn ?_; exact rfl) | (refine when_npyE ?_ hn ?_; exact rfl) | (refine when_npnE ?_ hn ?_; exact rfl) | ((with_reducible show Ld _ _ _ _); first | (refine ldK k0 ?_) | (refine ldK c0 ?_) | (refine ldK c1 ?_) | (refine ldK c2 ?_) | (refine ldK c3 ?_)) | ((with_reducible show CallQ _ _ _ _ _ _); first | (((refine call_qi (fun ex => g0 (ex ++ _)) ?_ ?_ ?_; (exact rfl); exact rfl))) | (((refine call_qi (fun ex => g1 (ex ++ _)) ?_ ?_ ?_; (exact rfl); exact rfl))) | (((refine call_qi (fun ex => g2 (ex ++ _)) ?_ ?_ ?_; (exact rfl); exact rfl))) | (((refine call_qi (fun ex => g3 (ex ++ _)) ?_ ?_ ?_; (exact rfl); exact rfl)))) | (refine ari ?_ ?_; omega) | (refine aru ?_ ?_; omega) | (apply sel; exact rfl) | (refine ix0 rfl ?_) | (refine ix1 rfl ?_) | (refine ix2 rfl ?_) | (refine ix3 rfl ?_) | (apply ixj; omega) | (refine ixn ?_ ?_; omega) | (refine ixs0 rfl ?_) | (refine ixs1 rfl ?_) | (refine ixs_j ?_ ?_; omega) | (refine ixs_n ?_ ?_; omega) | (apply ld_o; exact rfl) | (apply ldN_a; exact rfl) | (apply ldN_o; (exact rfl); exact rfl) | (apply st_o; (exact rfl); exact rfl) | (apply stN_o; (exact rfl); (exact rfl); exact rfl) | (refine new_i (fun bk hbk => ?_)) | (apply when_dE; (exact rfl); (exact rfl); all_goals intro hc) | (apply when_dF; (exact rfl); (exact rfl); all_goals intro hc) | (apply when_nE; (exact rfl); (exact rfl); all_goals intro hc) | (apply when_nF; (exact rfl); (exact rfl); all_goals intro hc) | (apply br_dE; (exact rfl); all_goals intro hc) | (apply br_nE; (exact rfl); all_goals intro hc) | (refine mm_min ?_) | (refine mm_max ?_) | (refine rem_i ?_ ?_; omega) | (refine SelN.mk ?_) | (refine cut_n ?_) | (refine Both.mk ?_ ?_) | (exact True.intro))
        exact ⟨rfl, (by first | exact ent_i | (repeat (first | exact Ent.refl | exact Ent.left | refine Ent.cons ?_ | refine Ent.app ?_)))⟩
      · rw [decide_eq_true (by omega), if_pos (by omega)]
        repeat' ((try (conv => whnf)); first | (refine when_ye ?_ ?_; exact rfl) | (refine when_ne ?_ ?_; exact rfl) | (refine br_te ?_ ?_; exact rfl) | (refine br_fe ?_ ?_; exact rfl) | (apply br_pyE; (exact rfl); omega) | (apply br_pnE; (exact rfl); omega) | (apply when_pyE; (exact rfl); omega) | (apply when_pnE; (exact rfl); omega) | (apply br_npyE; (exact rfl); omega) | (apply br_npnE; (exact rfl); omega) | (apply when_npyE; (exact rfl); omega) | (apply when_npnE; (exact rfl); omega) | (refine br_pyE ?_ hk ?_; exact rfl) | (refine br_pnE ?_ hk ?_; exact rfl) | (refine when_pyE ?_ hk ?_; exact rfl) | (refine when_pnE ?_ hk ?_; exact rfl) | (refine br_npyE ?_ hk ?_; exact rfl) | (refine br_npnE ?_ hk ?_; exact rfl) | (refine when_npyE ?_ hk ?_; exact rfl) | (refine when_npnE ?_ hk ?_; exact rfl) | (refine br_pyE ?_ hn ?_; exact rfl) | (refine br_pnE ?_ hn ?_; exact rfl) | (refine when_pyE ?_ hn ?_; exact rfl) | (refine when_pnE ?_ hn ?_; exact rfl) | (refine br_npyE ?_ hn ?_; exact rfl) | (refine br_npnE ?_ hn ?_; exact rfl) | (refine when_npyE ?_ hn ?_; exact rfl) | (refine when_npnE ?_ hn ?_; exact rfl) | (refine stN_ck (p, cnt, (w : Int)) ?_ ?_; (exact rfl)) | ((with_reducible show Ld _ _ _ _); first | (refine ldK k0 ?_) | (refine ldK c0 ?_) | (refine ldK c1 ?_) | (refine ldK c2 ?_) | (refine ldK c3 ?_)) | ((with_reducible show CallQ _ _ _ _ _ _); first | (((refine call_qi (fun ex => g0 (ex ++ _)) ?_ ?_ ?_; (exact rfl); exact rfl))) | (((refine call_qi (fun ex => g1 (ex ++ _)) ?_ ?_ ?_; (exact rfl); exact rfl))) | (((refine call_qi (fun ex => g2 (ex ++ _)) ?_ ?_ ?_; (exact rfl); exact rfl))) | (((refine call_qi (fun ex => g3 (ex ++ _)) ?_ ?_ ?_; (exact rfl); exact rfl)))) | (refine ari ?_ ?_; omega) | (refine aru ?_ ?_; omega) | (apply sel; exact rfl) | (refine ix0 rfl ?_) | (refine ix1 rfl ?_) | (refine ix2 rfl ?_) | (refine ix3 rfl ?_) | (apply ixj; omega) | (refine ixn ?_ ?_; omega) | (refine ixs0 rfl ?_) | (refine ixs1 rfl ?_) | (refine ixs_j ?_ ?_; omega) | (refine ixs_n ?_ ?_; omega) | (apply ld_o; exact rfl) | (apply ldN_a; exact rfl) | (apply ldN_o; (exact rfl); exact rfl) | (apply st_o; (exact rfl); exact rfl) | (apply stN_o; (exact rfl); (exact rfl); exact rfl) | (refine new_i (fun bk hbk => ?_)) | (apply when_dE; (exact rfl); (exact rfl); all_goals intro hc) | (apply when_dF; (exact rfl); (exact rfl); all_goals intro hc) | (apply when_nE; (exact rfl); (exact rfl); all_goals intro hc) | (apply when_nF; (exact rfl); (exact rfl); all_goals intro hc) | (apply br_dE; (exact rfl); all_goals intro hc) | (apply br_nE; (exact rfl); all_goals intro hc) | (refine mm_min ?_) | (refine mm_max ?_) | (refine rem_i ?_ ?_; omega) | (refine SelN.mk ?_) | (refine cut_n ?_) | (refine Both.mk ?_ ?_) | (exact True.intro))
        exact ⟨rfl, (by first | exact ent_i | (repeat (first | exact Ent.refl | exact Ent.left | refine Ent.cons ?_ | refine Ent.app ?_)))⟩
end
end Go.Proofs.YtofjnldidkiihaaDoor
namespace Go.Proofs.YtofjnldidkiihaaDoor
open Go
abbrev nnR : RaceM := (-1, -1, -1)
theorem frst_alt {l : List EH} : (frst l = nnR ∧ rcA l l.length = []) ∨ (frst l ≠ nnR ∧ (frst l).2.1 ≥ 0) := by
  by_cases h : rcA l l.length = []
  · exact .inl ⟨frst_none h, h⟩
  · have := frst_ge.2 h
    exact .inr ⟨fun e => by rw [e] at this; revert this; decide, this⟩
/-- The last racing place of an event's word, by the state. -/
def hitP (L : List EH) (n : Nat) (e : EH) (w : Int) (wr : Bool) (C : List Int) : Int := tstL n e.k e.t wr (fun t => gtC C t) (accR L n qR w) (accR L n qW w) (accR L n qTR w) (accR L n qTW w)
theorem hit_race {L : List EH} {n : Nat} {e : EH} {w : Int} {wr : Bool} {C : List Int} {ck : Nat → Int} (hw : Wf (L ++ [e]) n) (h3 : e.k ≠ 3)
    (hA : (e.k ≠ 4 ∧ e.w = w ∧ wr = decide (e.k = 2)) ∨ (e.k = 4 ∧ wr = e.wl.contains w ∧ (e.wl.contains w = true ∨ e.rl.contains w = true))) (hC : ∀ t, t < n → gtC C t = ck t) (hck : ∀ t, 0 ≤ ck t)
    (hH : ∀ x, x < L.length → knd (L ++ [e]) x ≠ 3 → thr (L ++ [e]) x ≠ thr (L ++ [e]) L.length → (HB (L ++ [e]) x (toP (L ++ [e]) L.length) ↔ (eCnt (L ++ [e]) (thr (L ++ [e]) x) x : Int) + 1 ≤ ck (thr (L ++ [e]) x).toNat)) :
    (hitP L n e w wr C < 0 → rcL (L ++ [e]) L.length w L.length = []) ∧ (0 ≤ hitP L n e w wr C → (rcL (L ++ [e]) L.length w L.length).getLast? = some (hitP L n e w wr C, (L.length : Int), w)) := by
  have h := tst_race (l := L ++ [e]) (n := n) (y := L.length) (w := w) (wr := wr) (ck := ck) hw (by simp) (by rw [knd_end]; exact h3) (by rw [knd_end, at_end]; exact hA) hck hH
  have e1 : hitP L n e w wr C = tstM (L ++ [e]) n L.length (knd (L ++ [e]) L.length) (thr (L ++ [e]) L.length) w wr ck := by
    unfold hitP
    rw [tstM_app, knd_end, thr_end, tstL_M hC]
  rw [e1]
  exact h
theorem plain_frst {L : List EH} {n : Nat} {e : EH} (hw : Wf (L ++ [e]) n) (hw0 : Wf L n) (hk : e.k = 1 ∨ e.k = 2) :
    frst (L ++ [e]) = if frst L = nnR then (if 0 ≤ hitP L n e e.w (decide (e.k = 2)) (seenR L n e.t) then (hitP L n e e.w (decide (e.k = 2)) (seenR L n e.t), (L.length : Int), e.w) else nnR) else frst L := by
  have hr := hit_race (w := e.w) (wr := decide (e.k = 2)) (C := seenR L n e.t) (ck := fun t => (seenC (L ++ [e]) e.t L.length (t : Int) : Int)) hw (by omega) (.inl ⟨by omega, rfl, rfl⟩) (fun t ht => by
    unfold seenR
    rw [gtC_at (rowG_get ht), seenC_app (Nat.le_refl _)]) (fun t => by omega) (by
    have := hH_plain (y := L.length) hw (by simp) (by rw [knd_end]; exact hk)
    rwa [thr_end] at this ⊢)
  have ht : touW e = [e.w] := by unfold touW; rw [if_pos hk]
  rcases frst_alt (l := L) with ⟨h1, h2⟩ | ⟨h1, h2⟩
  · rw [if_pos h1]
    split
    · rename_i hp
      exact fr_hit (i := 0) hw hw0 h2 (by omega) (by rw [ht]; rfl) (fun j w' hj => by omega) (hr.2 hp)
    · rename_i hp
      exact fr_none hw hw0 h2 fun _ w hwm => by
        rw [ht, List.mem_singleton] at hwm
        subst hwm
        exact hr.1 (by omega)
  · rw [if_neg h1]
    exact frst_app hw0 h2
theorem begin_frst {L : List EH} {n : Nat} {e : EH} (hw : Wf (L ++ [e]) n) (hw0 : Wf L n) (hk : e.k = 3) : frst (L ++ [e]) = frst L := by
  rcases frst_alt (l := L) with ⟨h1, h2⟩ | ⟨h1, h2⟩
  · rw [h1]
    exact fr_none hw hw0 h2 fun h => absurd hk h
  · exact frst_app hw0 h2
/-- The test of one word of an end. -/
theorem end_test {L : List EH} {n : Nat} {e : EH} {w : Int} (hw : Wf (L ++ [e]) n) (hk : e.k = 4) (hm : w ∈ touW e) :
    (hitP L n e w (e.wl.contains w) (begR L n e.t) < 0 → rcL (L ++ [e]) L.length w L.length = []) ∧ (0 ≤ hitP L n e w (e.wl.contains w) (begR L n e.t) → (rcL (L ++ [e]) L.length w L.length).getLast? = some (hitP L n e w (e.wl.contains w) (begR L n e.t), (L.length : Int), w)) := by
  have h2 := ((touW_spec e).2.1 w).1 hm
  rw [if_neg (by omega)] at h2
  refine hit_race (ck := fun t => (begC (L ++ [e]) e.t L.length (t : Int) : Int)) hw (by omega) (.inr ⟨hk, rfl, ?_⟩) (fun t ht => ?_) (fun t => by omega) ?_
  · simp only [List.contains_iff_mem]
    exact h2.symm
  · unfold begR
    rw [gtC_at (rowG_get ht)]
    unfold begC
    rw [bgL_app L.length (Nat.le_refl _), eCnt_app (bgL_rng (Nat.le_refl _))]
  · have := hH_end (y := L.length) hw (by simp) (by rw [knd_end]; exact hk)
    rwa [thr_end] at this ⊢
/-- Which accesses of a word. -/
def hisQ (q : Nat) : List EH → Int → Nat → Bool := if q = 0 then qR else if q = 1 then qW else if q = 2 then qTR else qTW
def hisR (L : List EH) (n : Nat) (j : Nat) : List (Int × Int) := accR L n (hisQ (j % 4)) ((j / 4 : Nat) : Int)
theorem hisR_len {L : List EH} {n j : Nat} : (hisR L n j).length = n := rowG_len
def hitQ (e : EH) (q : Nat) (w : Int) : Bool := if q = 0 then decide (e.k = 1 ∧ e.w = w) else if q = 1 then decide (e.k = 2 ∧ e.w = w) else if q = 2 then decide (e.k = 4) && e.rl.contains w else decide (e.k = 4) && e.wl.contains w
theorem hisQ_app {L : List EH} {e : EH} {q : Nat} {w : Int} : ∀ i, i < L.length → hisQ q (L ++ [e]) w i = hisQ q L w i := fun i hi => by
  unfold hisQ
  split
  · unfold qR; rw [knd_app hi, at_app hi]
  split
  · unfold qW; rw [knd_app hi, at_app hi]
  split
  · unfold qTR; rw [knd_app hi, at_app hi]
  · unfold qTW; rw [knd_app hi, at_app hi]
theorem hisQ_end {L : List EH} {e : EH} {q : Nat} {w : Int} : hisQ q (L ++ [e]) w L.length = hitQ e q w := by
  unfold hisQ hitQ
  split
  · unfold qR; rw [knd_end, at_end]
  split
  · unfold qW; rw [knd_end, at_end]
  split
  · unfold qTR; rw [knd_end, at_end]
  · unfold qTW; rw [knd_end, at_end]
/-- What an event makes of the accesses. -/
theorem hisR_end {L : List EH} {e : EH} {n u j : Nat} (hu : e.t = u) : hisR (L ++ [e]) n j = if hitQ e (j % 4) ((j / 4 : Nat) : Int) = true then (hisR L n j).set u ((L.length : Int), (eCnt L u L.length : Int) + 1) else hisR L n j := by
  unfold hisR
  split
  · rename_i h
    exact (accR_set hisQ_app hu (by rw [hisQ_end]; exact h)).symm
  · rename_i h
    exact accR_same hisQ_app (by rw [hisQ_end]; simpa using h)
theorem hisR_begin {L : List EH} {e : EH} {n j : Nat} (hk : e.k = 3) : hisR (L ++ [e]) n j = hisR L n j := by
  unfold hisR
  refine accR_same hisQ_app ?_
  rw [hisQ_end]
  unfold hitQ
  simp [hk]
/-- A plain access sets one row. -/
theorem hisR_plain {L : List EH} {e : EH} {n u w j : Nat} (hu : e.t = u) (hk : e.k = 1 ∨ e.k = 2) (hwd : e.w = w) :
    hisR (L ++ [e]) n j = if j = 4 * w + (if e.k = 2 then 1 else 0) then (hisR L n (4 * w + (if e.k = 2 then 1 else 0))).set u ((L.length : Int), (eCnt L u L.length : Int) + 1) else hisR L n j := by
  rw [hisR_end hu]
  have h : hitQ e (j % 4) ((j / 4 : Nat) : Int) = true ↔ j = 4 * w + (if e.k = 2 then 1 else 0) := by
    obtain ⟨i, q, hj, hq⟩ : ∃ i q, j = 4 * i + q ∧ q < 4 := ⟨j / 4, j % 4, by omega, by omega⟩
    have e1 : j % 4 = q := by omega
    have e2 : j / 4 = i := by omega
    rw [e1, e2]
    subst hj
    unfold hitQ
    have hq4 : q = 0 ∨ q = 1 ∨ q = 2 ∨ q = 3 := by omega
    rcases hk with hk | hk <;> rcases hq4 with rfl | rfl | rfl | rfl <;> simp [hk, hwd] <;> omega
  by_cases hj : j = 4 * w + (if e.k = 2 then 1 else 0)
  · rw [if_pos (h.2 hj), if_pos hj, ← hj]
  · rw [if_neg (fun x => hj (h.1 x)), if_neg hj]
end Go.Proofs.YtofjnldidkiihaaDoor
namespace Go.Proofs.YtofjnldidkiihaaDoor
open Go
set_option maxRecDepth 10000
instance EntC.mem {b : Nat} {p : Obj → Prop} {own : Own} [m : MemC b p own] : EntC own [(b, p)] := ⟨fun _ => Ent.of_sub (List.singleton_sublist.2 m.h)⟩
abbrev Sl := Option Addr × Nat × Nat
abbrev wrdV (bs : Nat → Nat) (n : Nat) (i : Nat) : Value := .slice (some ⟨bs i, 0, none⟩) n n
abbrev ckN (cnt at1 : Int) (cb eb sb bb n sc : Nat) (bs : Nat → Nat) (r : RaceM) : Nat × (Obj → Prop) := (cb, fun o => o = Obj.cells (ckL cnt at1 eb sb bb n sc (wrdV bs n) r).toArray 68 (0, 0))
/-- The blocks of a checker. -/
abbrev ckO (cnt at1 : Int) (r : RaceM) (E : List Int) (H : Nat → List (Int × Int)) (cb eb sb bb n sc : Nat) (bs : Nat → Nat) (B : List Sl) (D X : Own) : Own :=
  ckN cnt at1 cb eb sb bb n sc bs r :: canE encI 3 eb E :: canE encSl 22 bb B :: (D ++ (accO bs H 256 ++ X))
section
variable {W0 : World} {own : Own} {cnt at1 : Int} {cb eb sb bb n sc : Nat} {V : Nat → Value} {bs : Nat → Nat} {r : RaceM} {T : TypeId}
theorem ldN_ck {k : Nat} {K : Array Value → Prop} [m : MemC cb (fun o => o = Obj.cells (ckL cnt at1 eb sb bb n sc V r).toArray T (0, 0)) own] (hk3 : 3 = k) (hk : K (encRc r).toArray) : LdN W0 own ⟨cb, 261, none⟩ k K := by
  subst hk3
  refine ldN_own (encRc r) m.h ?_ rfl hk
  rw [List.toList_toArray]
  have e : ckL cnt at1 eb sb bb n sc V r = ([.int .i64 cnt, .int .i64 at1, .slice (some ⟨eb, 0, none⟩) n n, .slice (some ⟨sb, 0, none⟩) n sc, .slice (some ⟨bb, 0, none⟩) n n] ++ rowG 256 V) ++ encRc r := by
    unfold ckL
    rw [List.append_assoc]
  have hl : ([.int .i64 cnt, .int .i64 at1, .slice (some ⟨eb, 0, none⟩) n n, .slice (some ⟨sb, 0, none⟩) n sc, .slice (some ⟨bb, 0, none⟩) n n] ++ rowG 256 V : List Value).length = 261 := by
    rw [List.length_append, rowG_len]; rfl
  rw [e, List.drop_left' hl]
  rfl
theorem st_ck0 {c : Int} {K : Own → Prop} {C : (Obj → Prop) → Own} [m : UpC cb (fun o => o = Obj.cells (ckL cnt at1 eb sb bb n sc V r).toArray T (0, 0)) own C] (h : K (C fun o => o = Obj.cells (ckL c at1 eb sb bb n sc V r).toArray T (0, 0))) : StT W0 own ⟨cb, 0, none⟩ (.int .i64 c) K :=
  st_o (by show Nat.ble 1 (ckL cnt at1 eb sb bb n sc V r).length = true; rw [ckL_len]; rfl) rfl h
theorem st_ck1 {c : Int} {K : Own → Prop} {C : (Obj → Prop) → Own} [m : UpC cb (fun o => o = Obj.cells (ckL cnt at1 eb sb bb n sc V r).toArray T (0, 0)) own C] (h : K (C fun o => o = Obj.cells (ckL cnt c eb sb bb n sc V r).toArray T (0, 0))) : StT W0 own ⟨cb, 1, none⟩ (.int .i64 c) K :=
  st_o (by show Nat.ble 2 (ckL cnt at1 eb sb bb n sc V r).length = true; rw [ckL_len]; rfl) rfl h
/-- The slice of a word and a kind of access. -/
theorem cl_word {w q : Nat} (hw : w < 64) (hq : q < 4) : Cl W0 [(cb, fun o => o = Obj.cells (ckL cnt at1 eb sb bb n sc (wrdV bs n) r).toArray T (0, 0))] cb (5 + w * 4 + q) (wrdV bs n (4 * w + q)) := by
  have e : 5 + w * 4 + q = 5 + (4 * w + q) := by omega
  rw [e]
  exact cl_of (List.mem_singleton.2 rfl) (ckL_word (by omega))
theorem ldW {w q : Nat} {K : Value → Prop} [m : MemC cb (fun o => o = Obj.cells (ckL cnt at1 eb sb bb n sc (wrdV bs n) r).toArray T (0, 0)) own] (hw : w < 64) (hq : Nat.blt q 4 = true) (hk : K (wrdV bs n (4 * w + q))) : Ld W0 own ⟨cb, 5 + w * 4 + q, none⟩ K := by
  have hq' : q < 4 := by simpa using hq
  have e : 5 + w * 4 + q = 5 + (4 * w + q) := by omega
  rw [e]
  exact ldK (own' := own) (cl_of m.h (ckL_word (by omega))) (m := ⟨fun _ => Ent.refl⟩) hk
theorem hisR_at {L : List EH} {w q : Nat} (hq : q < 4) : hisR L n (4 * w + q) = accR L n (hisQ q) (w : Int) := by
  unfold hisR
  have e1 : (4 * w + q) % 4 = q := by omega
  have e2 : (4 * w + q) / 4 = w := by omega
  rw [e1, e2]
/-- A call with one answer. -/
theorem call_e {P : Program} {k k0 : FuncId} {args args0 : List Value} {v0 : Value} {O : Own} {K : Value → Own → Prop} (h : Spec P W0 k0 args0 own fun v own' => v = v0 ∧ Ent W0 own' O) (ek : k = k0) (ea : args = args0) (hk : K v0 O) : CallT P W0 own k args K :=
  call_x (σ := Unit) (R := fun _ v => v = v0) (O := fun _ => O) (fun w hw => (h w hw).mono fun _ _ ⟨v, o, a, b, c, d⟩ => ⟨v, o, a, b, (), c, d⟩) ek ea (fun _ _ e => by subst e; exact hk)
theorem stNC {α : Type} {enc : α → List Value} {sz : Nat} {l : List α} {T : TypeId} {b j o k : Nat} {C : Own → Own} {x : α} {vs : List Value} {K : Own → Prop} (x' : α) (hw : ∀ x ∈ l, (enc x).length = sz) (hx : l[j]? = some x) [m : AtC [canE enc T b l] own C] (hn : vs.length = k) (ho : o = j * sz) (hv : enc x' = vs) (hwv : vs.length = sz) (h1 : vs.all oneC = true)
    (hk : K (C [canE enc T b (l.set j x')])) : vs.length = k ∧ StN W0 own ⟨b, o, none⟩ vs K :=
  stNE_i (T := T) (D := [canE enc T b l]) (a := some ⟨b, 0, none⟩) x' (can_buf hw) hx hn (by simp [ao, ho]) hv hwv h1 (fun D' hb => by
    have hne : l.set j x' ≠ [] := fun e => by
      have := congrArg List.length e
      rw [List.length_set] at this
      have := List.eq_nil_of_length_eq_zero this
      subst this
      simp at hx
    have := can_eq hne (by rw [List.length_set]; exact hb)
    subst this
    exact hk)
theorem eq_rc {a b : RaceM} : eqC [0, 0, 0] (encRc a) (encRc b) = some (decide (a = b)) := by
  obtain ⟨a1, a2, a3⟩ := a
  obtain ⟨b1, b2, b3⟩ := b
  simp [eqC, eqOne, Prod.mk.injEq]
end
end Go.Proofs.YtofjnldidkiihaaDoor
namespace Go.Proofs.YtofjnldidkiihaaDoor
open Go
set_option maxRecDepth 10000
set_option maxHeartbeats 4000000
section
variable {W0 : World} {r0 : Own} {at1 : Int} {cb eb sb bb n sc : Nat} {bs : Nat → Nat} {B S : List Sl} {D X : Own}
theorem ne_wid {l : List Int} : ∀ x ∈ l, (encI x).length = 1 := fun _ _ => rfl
theorem ac_wid {l : List (Int × Int)} : ∀ x ∈ l, (encAc x).length = 2 := fun _ _ => rfl
/-- The test of an event at a state of the trace. -/
theorem st_test {L : List EH} {e : EH} {w : Nat} {wr : Bool} {own : Own} {r : RaceM} {c : Option Addr} {cc : Nat} {C1 : List Int} {Cf : (Obj → Prop) → Own} (hw : w < 64) (hn : n ≤ 16) (hcl : C1.length = n)
    [u : UpC cb (fun o => o = Obj.cells (ckL L.length at1 eb sb bb n sc (wrdV bs n) r).toArray 68 (0, 0)) own Cf]
    [i1 : EntC own [ckN L.length at1 cb eb sb bb n sc bs r]] [i2 : EntC own (accO bs (hisR L n) 256)] [i3 : EntC own X] (hC : RdE encI 1 W0 X c C1) :
    Spec Tryd.prog W0 65 [.pointer (some ⟨cb, 0, none⟩), e.v, .int .i64 w, .bool wr, .slice c n cc] own fun v own' => v = .bool (decide (0 ≤ hitP L n e w wr C1)) ∧ Ent W0 own' (if 0 ≤ hitP L n e w wr C1 then Cf (fun o => o = Obj.cells (ckL L.length at1 eb sb bb n sc (wrdV bs n) (hitP L n e w wr C1, (L.length : Int), (w : Int))).toArray 68 (0, 0)) else own) := by
  have h0 : ∀ q, q < 4 → RdE encAc 2 W0 own (some ⟨bs (4 * w + q), 0, none⟩) (accR L n (hisQ q) w) := fun q hq => by
    have := (accO_rd (W0 := W0) (bs := bs) (H := hisR L n) (i := 4 * w + q) (k := 256) (by omega)).ent (i2.h W0)
    rwa [hisR_at hq] at this
  have hc : ∀ q, q < 4 → Cl W0 own cb (5 + w * 4 + q) (wrdV bs n (4 * w + q)) := fun q hq => (cl_word hw hq).ent (i1.h W0)
  have hl : ∀ Q, (accR L n Q w).length = n := fun Q => rowG_len
  have hk0 : Cl W0 own cb 0 (.int .i64 L.length) := Kn.ent (cl_of (List.mem_singleton.2 rfl) rfl) (i1.h W0)
  have := sp_test (e := e) (wr := wr) (cc := cc) hk0 hw (hc 0 (by omega)) (hc 1 (by omega)) (hc 2 (by omega)) (hc 3 (by omega)) (h0 0 (by omega)) (h0 1 (by omega)) (h0 2 (by omega)) (h0 3 (by omega)) (hl _) (hl _) (hl _) (hl _) (by omega) (hC.ent (i3.h W0))
  rw [hcl] at this
  exact this
theorem sp_tplain {L : List EH} {e : EH} {t w xc : Nat} {xa : Option Addr} (hw : Wf (L ++ [e]) n) (hw0 : Wf L n) (hk : e.k = 1 ∨ e.k = 2) (ht : e.t = t) (htn : t < n) (hwd : e.w = w) (hw64 : w < 64) (hn : n ≤ 16) (hL : L.length ≤ 65536)
    (hN : LaidAt W0 0 noneV) (hS : RdE encSl 1 W0 D (some ⟨sb, 0, none⟩) S) (hx : S[t]? = some (xa, n, xc)) (hxr : RdE encI 1 W0 X xa (seenR L n t)) :
    Spec Tryd.prog W0 46 [.pointer (some ⟨cb, 0, none⟩), e.v] (ckO L.length at1 (frst L) (endsR L n) (hisR L n) cb eb sb bb n sc bs B D X ++ r0) fun v own' => v = .tuple #[] ∧ Ent W0 own' (ckO L.length at1 (frst (L ++ [e])) (endsR L n) (hisR (L ++ [e]) n) cb eb sb bb n sc bs B D X ++ r0) := by
  refine spec_of mixed low_tdrf_Checker_plain (by simp [ir_tdrf_Checker_plain]) ?_
  have hfr := plain_frst hw hw0 hk
  have hE : (endsR L n)[t]? = some (eCnt L t L.length : Int) := rowG_get htn
  have hEl : n = (endsR L n).length := rowG_len.symm
  have hcl : (seenR L n t).length = n := rowG_len
  have hcn := eCnt_le (l := L) (t := t) L.length
  obtain ⟨q, hq⟩ : ∃ q : Nat, q = if e.k = 2 then 1 else 0 := ⟨_, rfl⟩
  have hq2 : q < 2 := by rw [hq]; split <;> omega
  have hhis : accO bs (hisR (L ++ [e]) n) 256 = accO bs (fun j => if j = 4 * w + q then (hisR L n (4 * w + q)).set t ((L.length : Int), (eCnt L t L.length : Int) + 1) else hisR L n j) 256 := accO_congr fun j _ => ⟨rfl, by rw [hq]; exact hisR_plain ht hk hwd⟩
  obtain ⟨C0, hC0, hC1⟩ := accO_at (bs := bs) (H := hisR L n) (i := 4 * w + q) (k := 256) (by omega)
  have hH : (hisR L n (4 * w + q))[t]? = some (fAc (hisR L n (4 * w + q)) t) := by
    obtain ⟨y, hy⟩ : ∃ y, (hisR L n (4 * w + q))[t]? = some y := ⟨_, List.getElem?_eq_getElem (by rw [hisR_len]; exact htn)⟩
    rw [hy, fAc_at hy]
  have hHl : ∀ j, n = (hisR L n j).length := fun j => hisR_len.symm
  have hC2 := hC1 ((hisR L n (4 * w + q)).set t ((L.length : Int), (eCnt L t L.length : Int) + 1))
  rw [← hhis] at hC2
  have htst := fun (own' : Own) (Cf : (Obj → Prop) → Own) (r : RaceM) (i0 : UpC cb (fun o => o = Obj.cells (ckL L.length at1 eb sb bb n sc (wrdV bs n) r).toArray 68 (0, 0)) own' Cf) (i1 : EntC own' [ckN L.length at1 cb eb sb bb n sc bs r]) (i2 : EntC own' (accO bs (hisR L n) 256)) (i3 : EntC own' X) => st_test (e := e) (wr := decide (e.k = 2)) (cc := xc) hw64 hn hcl hxr (u := i0) (i1 := i1) (i2 := i2) (i3 := i3)
  obtain ⟨ev, tt, k, wd, ra, rl, rc, wa, wl, wc⟩ := e
  dsimp only [EH.v] at *
  subst ht hwd
  generalize frst (L ++ [_]) = rN at *
  generalize hitP L n _ _ _ _ = p at *
  generalize frst L = r at *
  subst hfr
  have hLn : ((L.length : Nat) : Int) < 65537 := by omega
  by_cases hrn : r = nnR
  · subst hrn
    rw [if_pos rfl]
    by_cases hp : 0 ≤ p
    · simp only [if_pos hp, decide_eq_true hp] at htst ⊢
      rcases hk with rfl | rfl
      · obtain rfl : q = 0 := hq
        haveI : AtC _ _ C0 := ⟨hC0⟩
        repeat' ((try (conv => whnf)); first | (refine when_ye ?_ ?_; exact rfl) | (refine when_ne ?_ ?_; exact rfl) | (refine br_te ?_ ?_; exact rfl) | (refine br_fe ?_ ?_; exact rfl) | (apply br_pyE; (exact rfl); omega) | (apply br_pnE; (exact rfl); omega) | (apply when_pyE; (exact rfl); omega) | (apply when_pnE; (exact rfl); omega) | (apply br_npyE; (exact rfl); omega) | (apply br_npnE; (exact rfl); omega) | (apply when_npyE; (exact rfl); omega) | (apply when_npnE; (exact rfl); omega) | (refine ldN_ck ?_ ?_; (exact rfl)) | (refine ldN_laid hN _ rfl rfl ?_) | (refine eq_yes (by simp [eqC, eqOne]) ?_) | (refine ldW hw64 ?_ ?_; (exact rfl)) | (refine ixC hH (hHl _) ?_ ?_; (exact rfl)) | (refine stNC (T := 91) (x := fAc _ t) ((L.length : Int), (eCnt L t L.length : Int) + 1) ac_wid hH ?_ ?_ ?_ ?_ ?_ ?_; (exact rfl); (exact rfl); (exact rfl); (exact rfl); (exact rfl)) | ((with_reducible show Ld _ _ _ _); first | (refine ldS0 hS hx rfl ?_) | (refine ldC0 ne_wid hE rfl ?_) | (refine ldC1 ne_wid hE rfl ?_) | (refine ldC ne_wid hE rfl ?_)) | ((with_reducible show IxS _ _ _ _ _); first | ((refine ixC hx rfl ?_ ?_; (first | rfl | omega))) | ((refine ixC hE hEl ?_ ?_; (first | rfl | omega)))) | ((with_reducible show LdN _ _ _ _ _); first | (refine ldNC ne_wid hE rfl ?_)) | ((with_reducible show CallT _ _ _ _ _ _); first | ((refine call_e (htst _ _ _ inferInstance inferInstance inferInstance inferInstance) ?_ ?_ ?_; (exact rfl); (exact rfl)))) | (refine ari ?_ ?_; omega) | (refine aru ?_ ?_; omega) | (apply sel; exact rfl) | (refine ix0 rfl ?_) | (refine ix1 rfl ?_) | (refine ix2 rfl ?_) | (refine ix3 rfl ?_) | (apply ixj; omega) | (refine ixn ?_ ?_; omega) | (refine ixs0 rfl ?_) | (refine ixs1 rfl ?_) | (refine ixs_j ?_ ?_; omega) | (refine ixs_n ?_ ?_; omega) | (apply ld_o; exact rfl) | (apply ldN_a; exact rfl) | (apply ldN_o; (exact rfl); exact rfl) | (apply st_o; (exact rfl); exact rfl) | (apply stN_o; (exact rfl); (exact rfl); exact rfl) | (refine new_i (fun bk hbk => ?_)) | (apply when_dE; (exact rfl); (exact rfl); all_goals intro hc) | (apply when_dF; (exact rfl); (exact rfl); all_goals intro hc) | (apply when_nE; (exact rfl); (exact rfl); all_goals intro hc) | (apply when_nF; (exact rfl); (exact rfl); all_goals intro hc) | (apply br_dE; (exact rfl); all_goals intro hc) | (apply br_nE; (exact rfl); all_goals intro hc) | (refine mm_min ?_) | (refine mm_max ?_) | (refine rem_i ?_ ?_; omega) | (refine SelN.mk ?_) | (refine cut_n ?_) | (refine Both.mk ?_ ?_) | (exact True.intro))
        exact ⟨rfl, by rw [hC2]; exact Ent.drop.trans Ent.drop⟩
      · obtain rfl : q = 1 := hq
        haveI : AtC _ _ C0 := ⟨hC0⟩
        repeat' ((try (conv => whnf)); first | (refine when_ye ?_ ?_; exact rfl) | (refine when_ne ?_ ?_; exact rfl) | (refine br_te ?_ ?_; exact rfl) | (refine br_fe ?_ ?_; exact rfl) | (apply br_pyE; (exact rfl); omega) | (apply br_pnE; (exact rfl); omega) | (apply when_pyE; (exact rfl); omega) | (apply when_pnE; (exact rfl); omega) | (apply br_npyE; (exact rfl); omega) | (apply br_npnE; (exact rfl); omega) | (apply when_npyE; (exact rfl); omega) | (apply when_npnE; (exact rfl); omega) | (refine ldN_ck ?_ ?_; (exact rfl)) | (refine ldN_laid hN _ rfl rfl ?_) | (refine eq_yes (by simp [eqC, eqOne]) ?_) | (refine ldW hw64 ?_ ?_; (exact rfl)) | (refine ixC hH (hHl _) ?_ ?_; (exact rfl)) | (refine stNC (T := 91) (x := fAc _ t) ((L.length : Int), (eCnt L t L.length : Int) + 1) ac_wid hH ?_ ?_ ?_ ?_ ?_ ?_; (exact rfl); (exact rfl); (exact rfl); (exact rfl); (exact rfl)) | ((with_reducible show Ld _ _ _ _); first | (refine ldS0 hS hx rfl ?_) | (refine ldC0 ne_wid hE rfl ?_) | (refine ldC1 ne_wid hE rfl ?_) | (refine ldC ne_wid hE rfl ?_)) | ((with_reducible show IxS _ _ _ _ _); first | ((refine ixC hx rfl ?_ ?_; (first | rfl | omega))) | ((refine ixC hE hEl ?_ ?_; (first | rfl | omega)))) | ((with_reducible show LdN _ _ _ _ _); first | (refine ldNC ne_wid hE rfl ?_)) | ((with_reducible show CallT _ _ _ _ _ _); first | ((refine call_e (htst _ _ _ inferInstance inferInstance inferInstance inferInstance) ?_ ?_ ?_; (exact rfl); (exact rfl)))) | (refine ari ?_ ?_; omega) | (refine aru ?_ ?_; omega) | (apply sel; exact rfl) | (refine ix0 rfl ?_) | (refine ix1 rfl ?_) | (refine ix2 rfl ?_) | (refine ix3 rfl ?_) | (apply ixj; omega) | (refine ixn ?_ ?_; omega) | (refine ixs0 rfl ?_) | (refine ixs1 rfl ?_) | (refine ixs_j ?_ ?_; omega) | (refine ixs_n ?_ ?_; omega) | (apply ld_o; exact rfl) | (apply ldN_a; exact rfl) | (apply ldN_o; (exact rfl); exact rfl) | (apply st_o; (exact rfl); exact rfl) | (apply stN_o; (exact rfl); (exact rfl); exact rfl) | (refine new_i (fun bk hbk => ?_)) | (apply when_dE; (exact rfl); (exact rfl); all_goals intro hc) | (apply when_dF; (exact rfl); (exact rfl); all_goals intro hc) | (apply when_nE; (exact rfl); (exact rfl); all_goals intro hc) | (apply when_nF; (exact rfl); (exact rfl); all_goals intro hc) | (apply br_dE; (exact rfl); all_goals intro hc) | (apply br_nE; (exact rfl); all_goals intro hc) | (refine mm_min ?_) | (refine mm_max ?_) | (refine rem_i ?_ ?_; omega) | (refine SelN.mk ?_) | (refine cut_n ?_) | (refine Both.mk ?_ ?_) | (exact True.intro))
        exact ⟨rfl, by rw [hC2]; exact Ent.drop.trans Ent.drop⟩
    · simp only [if_neg hp, decide_eq_false hp] at htst ⊢
      rcases hk with rfl | rfl
      · obtain rfl : q = 0 := hq
        haveI : AtC _ _ C0 := ⟨hC0⟩
        repeat' ((try (conv => whnf)); first | (refine when_ye ?_ ?_; exact rfl) | (refine when_ne ?_ ?_; exact rfl) | (refine br_te ?_ ?_; exact rfl) | (refine br_fe ?_ ?_; exact rfl) | (apply br_pyE; (exact rfl); omega) | (apply br_pnE; (exact rfl); omega) | (apply when_pyE; (exact rfl); omega) | (apply when_pnE; (exact rfl); omega) | (apply br_npyE; (exact rfl); omega) | (apply br_npnE; (exact rfl); omega) | (apply when_npyE; (exact rfl); omega) | (apply when_npnE; (exact rfl); omega) | (refine ldN_ck ?_ ?_; (exact rfl)) | (refine ldN_laid hN _ rfl rfl ?_) | (refine eq_yes (by simp [eqC, eqOne]) ?_) | (refine ldW hw64 ?_ ?_; (exact rfl)) | (refine ixC hH (hHl _) ?_ ?_; (exact rfl)) | (refine stNC (T := 91) (x := fAc _ t) ((L.length : Int), (eCnt L t L.length : Int) + 1) ac_wid hH ?_ ?_ ?_ ?_ ?_ ?_; (exact rfl); (exact rfl); (exact rfl); (exact rfl); (exact rfl)) | ((with_reducible show Ld _ _ _ _); first | (refine ldS0 hS hx rfl ?_) | (refine ldC0 ne_wid hE rfl ?_) | (refine ldC1 ne_wid hE rfl ?_) | (refine ldC ne_wid hE rfl ?_)) | ((with_reducible show IxS _ _ _ _ _); first | ((refine ixC hx rfl ?_ ?_; (first | rfl | omega))) | ((refine ixC hE hEl ?_ ?_; (first | rfl | omega)))) | ((with_reducible show LdN _ _ _ _ _); first | (refine ldNC ne_wid hE rfl ?_)) | ((with_reducible show CallT _ _ _ _ _ _); first | ((refine call_e (htst _ _ _ inferInstance inferInstance inferInstance inferInstance) ?_ ?_ ?_; (exact rfl); (exact rfl)))) | (refine ari ?_ ?_; omega) | (refine aru ?_ ?_; omega) | (apply sel; exact rfl) | (refine ix0 rfl ?_) | (refine ix1 rfl ?_) | (refine ix2 rfl ?_) | (refine ix3 rfl ?_) | (apply ixj; omega) | (refine ixn ?_ ?_; omega) | (refine ixs0 rfl ?_) | (refine ixs1 rfl ?_) | (refine ixs_j ?_ ?_; omega) | (refine ixs_n ?_ ?_; omega) | (apply ld_o; exact rfl) | (apply ldN_a; exact rfl) | (apply ldN_o; (exact rfl); exact rfl) | (apply st_o; (exact rfl); exact rfl) | (apply stN_o; (exact rfl); (exact rfl); exact rfl) | (refine new_i (fun bk hbk => ?_)) | (apply when_dE; (exact rfl); (exact rfl); all_goals intro hc) | (apply when_dF; (exact rfl); (exact rfl); all_goals intro hc) | (apply when_nE; (exact rfl); (exact rfl); all_goals intro hc) | (apply when_nF; (exact rfl); (exact rfl); all_goals intro hc) | (apply br_dE; (exact rfl); all_goals intro hc) | (apply br_nE; (exact rfl); all_goals intro hc) | (refine mm_min ?_) | (refine mm_max ?_) | (refine rem_i ?_ ?_; omega) | (refine SelN.mk ?_) | (refine cut_n ?_) | (refine Both.mk ?_ ?_) | (exact True.intro))
        exact ⟨rfl, by rw [hC2]; exact Ent.drop.trans Ent.drop⟩
      · obtain rfl : q = 1 := hq
        haveI : AtC _ _ C0 := ⟨hC0⟩
        repeat' ((try (conv => whnf)); first | (refine when_ye ?_ ?_; exact rfl) | (refine when_ne ?_ ?_; exact rfl) | (refine br_te ?_ ?_; exact rfl) | (refine br_fe ?_ ?_; exact rfl) | (apply br_pyE; (exact rfl); omega) | (apply br_pnE; (exact rfl); omega) | (apply when_pyE; (exact rfl); omega) | (apply when_pnE; (exact rfl); omega) | (apply br_npyE; (exact rfl); omega) | (apply br_npnE; (exact rfl); omega) | (apply when_npyE; (exact rfl); omega) | (apply when_npnE; (exact rfl); omega) | (refine ldN_ck ?_ ?_; (exact rfl)) | (refine ldN_laid hN _ rfl rfl ?_) | (refine eq_yes (by simp [eqC, eqOne]) ?_) | (refine ldW hw64 ?_ ?_; (exact rfl)) | (refine ixC hH (hHl _) ?_ ?_; (exact rfl)) | (refine stNC (T := 91) (x := fAc _ t) ((L.length : Int), (eCnt L t L.length : Int) + 1) ac_wid hH ?_ ?_ ?_ ?_ ?_ ?_; (exact rfl); (exact rfl); (exact rfl); (exact rfl); (exact rfl)) | ((with_reducible show Ld _ _ _ _); first | (refine ldS0 hS hx rfl ?_) | (refine ldC0 ne_wid hE rfl ?_) | (refine ldC1 ne_wid hE rfl ?_) | (refine ldC ne_wid hE rfl ?_)) | ((with_reducible show IxS _ _ _ _ _); first | ((refine ixC hx rfl ?_ ?_; (first | rfl | omega))) | ((refine ixC hE hEl ?_ ?_; (first | rfl | omega)))) | ((with_reducible show LdN _ _ _ _ _); first | (refine ldNC ne_wid hE rfl ?_)) | ((with_reducible show CallT _ _ _ _ _ _); first | ((refine call_e (htst _ _ _ inferInstance inferInstance inferInstance inferInstance) ?_ ?_ ?_; (exact rfl); (exact rfl)))) | (refine ari ?_ ?_; omega) | (refine aru ?_ ?_; omega) | (apply sel; exact rfl) | (refine ix0 rfl ?_) | (refine ix1 rfl ?_) | (refine ix2 rfl ?_) | (refine ix3 rfl ?_) | (apply ixj; omega) | (refine ixn ?_ ?_; omega) | (refine ixs0 rfl ?_) | (refine ixs1 rfl ?_) | (refine ixs_j ?_ ?_; omega) | (refine ixs_n ?_ ?_; omega) | (apply ld_o; exact rfl) | (apply ldN_a; exact rfl) | (apply ldN_o; (exact rfl); exact rfl) | (apply st_o; (exact rfl); exact rfl) | (apply stN_o; (exact rfl); (exact rfl); exact rfl) | (refine new_i (fun bk hbk => ?_)) | (apply when_dE; (exact rfl); (exact rfl); all_goals intro hc) | (apply when_dF; (exact rfl); (exact rfl); all_goals intro hc) | (apply when_nE; (exact rfl); (exact rfl); all_goals intro hc) | (apply when_nF; (exact rfl); (exact rfl); all_goals intro hc) | (apply br_dE; (exact rfl); all_goals intro hc) | (apply br_nE; (exact rfl); all_goals intro hc) | (refine mm_min ?_) | (refine mm_max ?_) | (refine rem_i ?_ ?_; omega) | (refine SelN.mk ?_) | (refine cut_n ?_) | (refine Both.mk ?_ ?_) | (exact True.intro))
        exact ⟨rfl, by rw [hC2]; exact Ent.drop.trans Ent.drop⟩
  · rw [if_neg hrn]
    have hno : eqC [0, 0, 0] (encRc r) (encRc nnR) = some false := by rw [eq_rc, decide_eq_false hrn]
    rcases hk with rfl | rfl
    · obtain rfl : q = 0 := hq
      haveI : AtC _ _ C0 := ⟨hC0⟩
      repeat' ((try (conv => whnf)); first | (refine when_ye ?_ ?_; exact rfl) | (refine when_ne ?_ ?_; exact rfl) | (refine br_te ?_ ?_; exact rfl) | (refine br_fe ?_ ?_; exact rfl) | (apply br_pyE; (exact rfl); omega) | (apply br_pnE; (exact rfl); omega) | (apply when_pyE; (exact rfl); omega) | (apply when_pnE; (exact rfl); omega) | (apply br_npyE; (exact rfl); omega) | (apply br_npnE; (exact rfl); omega) | (apply when_npyE; (exact rfl); omega) | (apply when_npnE; (exact rfl); omega) | (refine ldN_ck ?_ ?_; (exact rfl)) | (refine ldN_laid hN _ rfl rfl ?_) | (refine eq_no hno ?_) | (refine ldW hw64 ?_ ?_; (exact rfl)) | (refine ixC hH (hHl _) ?_ ?_; (exact rfl)) | (refine stNC (T := 91) (x := fAc _ t) ((L.length : Int), (eCnt L t L.length : Int) + 1) ac_wid hH ?_ ?_ ?_ ?_ ?_ ?_; (exact rfl); (exact rfl); (exact rfl); (exact rfl); (exact rfl)) | ((with_reducible show Ld _ _ _ _); first | (refine ldS0 hS hx rfl ?_) | (refine ldC0 ne_wid hE rfl ?_) | (refine ldC1 ne_wid hE rfl ?_) | (refine ldC ne_wid hE rfl ?_)) | ((with_reducible show IxS _ _ _ _ _); first | ((refine ixC hx rfl ?_ ?_; (first | rfl | omega))) | ((refine ixC hE hEl ?_ ?_; (first | rfl | omega)))) | ((with_reducible show LdN _ _ _ _ _); first | (refine ldNC ne_wid hE rfl ?_)) | ((with_reducible show CallT _ _ _ _ _ _); first | ((refine call_e (htst _ _ _ inferInstance inferInstance inferInstance inferInstance) ?_ ?_ ?_; (exact rfl); (exact rfl)))) | (refine ari ?_ ?_; omega) | (refine aru ?_ ?_; omega) | (apply sel; exact rfl) | (refine ix0 rfl ?_) | (refine ix1 rfl ?_) | (refine ix2 rfl ?_) | (refine ix3 rfl ?_) | (apply ixj; omega) | (refine ixn ?_ ?_; omega) | (refine ixs0 rfl ?_) | (refine ixs1 rfl ?_) | (refine ixs_j ?_ ?_; omega) | (refine ixs_n ?_ ?_; omega) | (apply ld_o; exact rfl) | (apply ldN_a; exact rfl) | (apply ldN_o; (exact rfl); exact rfl) | (apply st_o; (exact rfl); exact rfl) | (apply stN_o; (exact rfl); (exact rfl); exact rfl) | (refine new_i (fun bk hbk => ?_)) | (apply when_dE; (exact rfl); (exact rfl); all_goals intro hc) | (apply when_dF; (exact rfl); (exact rfl); all_goals intro hc) | (apply when_nE; (exact rfl); (exact rfl); all_goals intro hc) | (apply when_nF; (exact rfl); (exact rfl); all_goals intro hc) | (apply br_dE; (exact rfl); all_goals intro hc) | (apply br_nE; (exact rfl); all_goals intro hc) | (refine mm_min ?_) | (refine mm_max ?_) | (refine rem_i ?_ ?_; omega) | (refine SelN.mk ?_) | (refine cut_n ?_) | (refine Both.mk ?_ ?_) | (exact True.intro))
      exact ⟨rfl, by rw [hC2]; exact Ent.drop.trans Ent.drop⟩
    · obtain rfl : q = 1 := hq
      haveI : AtC _ _ C0 := ⟨hC0⟩
      repeat' ((try (conv => whnf)); first | (refine when_ye ?_ ?_; exact rfl) | (refine when_ne ?_ ?_; exact rfl) | (refine br_te ?_ ?_; exact rfl) | (refine br_fe ?_ ?_; exact rfl) | (apply br_pyE; (exact rfl); omega) | (apply br_pnE; (exact rfl); omega) | (apply when_pyE; (exact rfl); omega) | (apply when_pnE; (exact rfl); omega) | (apply br_npyE; (exact rfl); omega) | (apply br_npnE; (exact rfl); omega) | (apply when_npyE; (exact rfl); omega) | (apply when_npnE; (exact rfl); omega) | (refine ldN_ck ?_ ?_; (exact rfl)) | (refine ldN_laid hN _ rfl rfl ?_) | (refine eq_no hno ?_) | (refine ldW hw64 ?_ ?_; (exact rfl)) | (refine ixC hH (hHl _) ?_ ?_; (exact rfl)) | (refine stNC (T := 91) (x := fAc _ t) ((L.length : Int), (eCnt L t L.length : Int) + 1) ac_wid hH ?_ ?_ ?_ ?_ ?_ ?_; (exact rfl); (exact rfl); (exact rfl); (exact rfl); (exact rfl)) | ((with_reducible show Ld _ _ _ _); first | (refine ldS0 hS hx rfl ?_) | (refine ldC0 ne_wid hE rfl ?_) | (refine ldC1 ne_wid hE rfl ?_) | (refine ldC ne_wid hE rfl ?_)) | ((with_reducible show IxS _ _ _ _ _); first | ((refine ixC hx rfl ?_ ?_; (first | rfl | omega))) | ((refine ixC hE hEl ?_ ?_; (first | rfl | omega)))) | ((with_reducible show LdN _ _ _ _ _); first | (refine ldNC ne_wid hE rfl ?_)) | ((with_reducible show CallT _ _ _ _ _ _); first | ((refine call_e (htst _ _ _ inferInstance inferInstance inferInstance inferInstance) ?_ ?_ ?_; (exact rfl); (exact rfl)))) | (refine ari ?_ ?_; omega) | (refine aru ?_ ?_; omega) | (apply sel; exact rfl) | (refine ix0 rfl ?_) | (refine ix1 rfl ?_) | (refine ix2 rfl ?_) | (refine ix3 rfl ?_) | (apply ixj; omega) | (refine ixn ?_ ?_; omega) | (refine ixs0 rfl ?_) | (refine ixs1 rfl ?_) | (refine ixs_j ?_ ?_; omega) | (refine ixs_n ?_ ?_; omega) | (apply ld_o; exact rfl) | (apply ldN_a; exact rfl) | (apply ldN_o; (exact rfl); exact rfl) | (apply st_o; (exact rfl); exact rfl) | (apply stN_o; (exact rfl); (exact rfl); exact rfl) | (refine new_i (fun bk hbk => ?_)) | (apply when_dE; (exact rfl); (exact rfl); all_goals intro hc) | (apply when_dF; (exact rfl); (exact rfl); all_goals intro hc) | (apply when_nE; (exact rfl); (exact rfl); all_goals intro hc) | (apply when_nF; (exact rfl); (exact rfl); all_goals intro hc) | (apply br_dE; (exact rfl); all_goals intro hc) | (apply br_nE; (exact rfl); all_goals intro hc) | (refine mm_min ?_) | (refine mm_max ?_) | (refine rem_i ?_ ?_; omega) | (refine SelN.mk ?_) | (refine cut_n ?_) | (refine Both.mk ?_ ?_) | (exact True.intro))
      exact ⟨rfl, by rw [hC2]; exact Ent.drop.trans Ent.drop⟩
end
end Go.Proofs.YtofjnldidkiihaaDoor
namespace Go.Proofs.YtofjnldidkiihaaDoor
open Go
set_option maxRecDepth 10000
set_option maxHeartbeats 4000000
/-- The blocks of a checker. -/
structure CkB where
  cb : Nat
  eb : Nat
  sb : Nat
  sc : Nat
  bb : Nat
  bs : Nat → Nat
  S : List Sl
  B : List Sl
  D : Own
  X : Own
/-- What its blocks hold for a trace. -/
noncomputable abbrev CkB.O (s : CkB) (L : List EH) (n : Nat) : Own := ckO L.length (paAt L L.length) (frst L) (endsR L n) (hisR L n) s.cb s.eb s.sb s.bb n s.sc s.bs s.B s.D s.X
structure CkM (W0 : World) (n : Nat) (L : List EH) (s : CkB) : Prop where
  wf : WF0 L n
  sB : BufE encSl 22 1 (some ⟨s.sb, 0, none⟩) s.sc s.S s.D
  sl : s.S.length = n
  bl : s.B.length = n
  sr : ∀ u, u < n → ∃ a c, s.S[u]? = some (a, n, c) ∧ RdE encI 1 W0 s.X a (seenR L n u)
  b3 : ∀ u : Nat, u < n → lkL L u L.length = 3 → ∃ a c, s.B[u]? = some (some a, n, c) ∧ RdE encI 1 W0 s.X (some a) (begR L n u)
  b0 : ∀ u : Nat, u < n → lkL L u L.length ≠ 3 → s.B[u]? = some (none, 0, 0)
section
variable {W0 : World} {own : Own}
theorem sp_clone {a : Option Addr} {l : List Int} {cap : Nat} (hR : RdE encI 1 W0 own a l) (hne : l ≠ []) (hl : l.length ≤ 65536) :
    Spec Tryd.prog W0 44 [.slice a l.length cap] own fun v own' => ∃ s : Option Addr × Nat × Own, (v = .slice s.1 l.length s.2.1 ∧ BufE encI 3 1 s.1 s.2.1 l s.2.2) ∧ Ent W0 own' (s.2.2 ++ own) := by
  refine spec_of mixed low_slices_Clone_int (by simp [ir_slices_Clone_int]) ?_
  have hs := hR.isS hne
  generalize ab a = b0 at hs
  generalize ao a = o0 at hs
  subst hs
  repeat' ((try (conv => whnf)); first | (refine when_ye ?_ ?_; exact rfl) | (refine when_ne ?_ ?_; exact rfl) | (refine br_te ?_ ?_; exact rfl) | (refine br_fe ?_ ?_; exact rfl) | (apply br_pyE; (exact rfl); omega) | (apply br_pnE; (exact rfl); omega) | (apply when_pyE; (exact rfl); omega) | (apply when_pnE; (exact rfl); omega) | (apply br_npyE; (exact rfl); omega) | (apply br_npnE; (exact rfl); omega) | (apply when_npyE; (exact rfl); omega) | (apply when_npnE; (exact rfl); omega) | (refine app_c (enc := encI) (l := []) (l2 := l) BufE.nil (At.head (D := []) (r := _)) hR.up rfl rfl (by omega) (fun _ _ => rfl) (fun _ => by simp; omega) (fun a1 c1 D1 hB1 => ?_); (rw [List.length_nil, Nat.zero_add l.length]); (apply Stop.h)) | (refine ari ?_ ?_; omega) | (refine aru ?_ ?_; omega) | (apply sel; exact rfl) | (refine ix0 rfl ?_) | (refine ix1 rfl ?_) | (refine ix2 rfl ?_) | (refine ix3 rfl ?_) | (apply ixj; omega) | (refine ixn ?_ ?_; omega) | (refine ixs0 rfl ?_) | (refine ixs1 rfl ?_) | (refine ixs_j ?_ ?_; omega) | (refine ixs_n ?_ ?_; omega) | (apply ld_o; exact rfl) | (apply ldN_a; exact rfl) | (apply ldN_o; (exact rfl); exact rfl) | (apply st_o; (exact rfl); exact rfl) | (apply stN_o; (exact rfl); (exact rfl); exact rfl) | (refine new_i (fun bk hbk => ?_)) | (apply when_dE; (exact rfl); (exact rfl); all_goals intro hc) | (apply when_dF; (exact rfl); (exact rfl); all_goals intro hc) | (apply when_nE; (exact rfl); (exact rfl); all_goals intro hc) | (apply when_nF; (exact rfl); (exact rfl); all_goals intro hc) | (apply br_dE; (exact rfl); all_goals intro hc) | (apply br_nE; (exact rfl); all_goals intro hc) | (refine mm_min ?_) | (refine mm_max ?_) | (refine rem_i ?_ ?_; omega) | (refine SelN.mk ?_) | (refine cut_n ?_) | (refine Both.mk ?_ ?_) | (exact True.intro))
  refine Stop.mk ?_
  rw [List.nil_append] at hB1
  repeat' ((try (conv => whnf)); first | (refine when_ye ?_ ?_; exact rfl) | (refine when_ne ?_ ?_; exact rfl) | (refine br_te ?_ ?_; exact rfl) | (refine br_fe ?_ ?_; exact rfl) | (apply br_pyE; (exact rfl); omega) | (apply br_pnE; (exact rfl); omega) | (apply when_pyE; (exact rfl); omega) | (apply when_pnE; (exact rfl); omega) | (apply br_npyE; (exact rfl); omega) | (apply br_npnE; (exact rfl); omega) | (apply when_npyE; (exact rfl); omega) | (apply when_npnE; (exact rfl); omega) | (refine ari ?_ ?_; omega) | (refine aru ?_ ?_; omega) | (apply sel; exact rfl) | (refine ix0 rfl ?_) | (refine ix1 rfl ?_) | (refine ix2 rfl ?_) | (refine ix3 rfl ?_) | (apply ixj; omega) | (refine ixn ?_ ?_; omega) | (refine ixs0 rfl ?_) | (refine ixs1 rfl ?_) | (refine ixs_j ?_ ?_; omega) | (refine ixs_n ?_ ?_; omega) | (apply ld_o; exact rfl) | (apply ldN_a; exact rfl) | (apply ldN_o; (exact rfl); exact rfl) | (apply st_o; (exact rfl); exact rfl) | (apply stN_o; (exact rfl); (exact rfl); exact rfl) | (refine new_i (fun bk hbk => ?_)) | (apply when_dE; (exact rfl); (exact rfl); all_goals intro hc) | (apply when_dF; (exact rfl); (exact rfl); all_goals intro hc) | (apply when_nE; (exact rfl); (exact rfl); all_goals intro hc) | (apply when_nF; (exact rfl); (exact rfl); all_goals intro hc) | (apply br_dE; (exact rfl); all_goals intro hc) | (apply br_nE; (exact rfl); all_goals intro hc) | (refine mm_min ?_) | (refine mm_max ?_) | (refine rem_i ?_ ?_; omega) | (refine SelN.mk ?_) | (refine cut_n ?_) | (refine Both.mk ?_ ?_) | (exact True.intro))
  exact ⟨(a1, c1, D1), ⟨rfl, hB1⟩, Ent.of_sub (((List.Sublist.refl own).cons _).append_left D1)⟩
end
end Go.Proofs.YtofjnldidkiihaaDoor
