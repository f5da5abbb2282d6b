/- What the laws share, part 20. No condition. -/
import Derived.Shelf.Sort.Plain
import Derived.Shelf.Slices.In.SortNone
import Derived.Shelf.Slices.CompactI
import Derived.Ground.Names2Prog
import Derived.Test.YtllddgdmmfmpkaaGreatDoorProg
import Derived.Lib.SlicesCompact
import Derived.Test.YtllddgdmmfmpkaaGreatDoorY19
namespace Go.Proofs.YtllddgdmmfmpkaaGreatDoor
open Go Go.Shelf
def lay189_ren : Go.Shelf.Ren := ⟨fun | 189 => 197 | 125 => 210 | 257 => 209 | 128 => 228 | 129 => 229 | 294 => 219 | 295 => 220 | 296 => 221 | 297 => 222 | 298 => 223 | 299 => 224 | 216 => 225 | 300 => 226 | 301 => 227 | 328 => 236 | 329 => 237 | 330 => 238 | 331 => 239 | 332 => 240 | 215 => 241 | 343 => 243 | n => n, fun | 28 => 22 | 3 => 3 | 46 => 59 | 0 => 0 | 51 => 265 | 53 => 33 | 4 => 4 | 183 => 258 | 182 => 257 | 131 => 190 | 5 => 5 | 9 => 9 | 218 => 271 | 222 => 274 | 228 => 277 | 229 => 199 | n => n, fun | n => n⟩
theorem lay189 : Go.Proofs.Lays.n189 Tryz.prog lay189_ren := {
  mixed := by kernel_rfl
  f125 := Tryz.func210.trans (congrArg some (by kernel_rfl))
  f128 := Tryz.func228.trans (congrArg some (by kernel_rfl))
  f129 := Tryz.func229.trans (congrArg some (by kernel_rfl))
  f189 := Tryz.func197.trans (congrArg some (by kernel_rfl))
  f215 := Tryz.func241.trans (congrArg some (by kernel_rfl))
  f216 := Tryz.func225.trans (congrArg some (by kernel_rfl))
  f257 := Tryz.func209.trans (congrArg some (by kernel_rfl))
  f294 := Tryz.func219.trans (congrArg some (by kernel_rfl))
  f295 := Tryz.func220.trans (congrArg some (by kernel_rfl))
  f296 := Tryz.func221.trans (congrArg some (by kernel_rfl))
  f297 := Tryz.func222.trans (congrArg some (by kernel_rfl))
  f298 := Tryz.func223.trans (congrArg some (by kernel_rfl))
  f299 := Tryz.func224.trans (congrArg some (by kernel_rfl))
  f300 := Tryz.func226.trans (congrArg some (by kernel_rfl))
  f301 := Tryz.func227.trans (congrArg some (by kernel_rfl))
  f328 := Tryz.func236.trans (congrArg some (by kernel_rfl))
  f329 := Tryz.func237.trans (congrArg some (by kernel_rfl))
  f330 := Tryz.func238.trans (congrArg some (by kernel_rfl))
  f331 := Tryz.func239.trans (congrArg some (by kernel_rfl))
  f332 := Tryz.func240.trans (congrArg some (by kernel_rfl))
  f343 := Tryz.func243.trans (congrArg some (by kernel_rfl))
  t0 := Tryz.underlying0
  a0 := Tryz.isAgg0
  z0 := Tryz.sizeOf0
  v0 := Tryz.zeroValue0
  t3 := Tryz.underlying3
  a3 := Tryz.isAgg3
  z3 := Tryz.sizeOf3
  v3 := Tryz.zeroValue3
  t4 := Tryz.underlying4
  a4 := Tryz.isAgg4
  z4 := Tryz.sizeOf4
  v4 := Tryz.zeroValue4
  t5 := Tryz.underlying5
  a5 := Tryz.isAgg5
  z5 := Tryz.sizeOf5
  v5 := Tryz.zeroValue5
  t9 := Tryz.underlying9
  a9 := Tryz.isAgg9
  z9 := Tryz.sizeOf9
  v9 := Tryz.zeroValue9
  t28 := Tryz.underlying22
  a28 := Tryz.isAgg22
  z28 := Tryz.sizeOf22
  v28 := Tryz.zeroValue22
  t46 := Tryz.underlying59
  a46 := Tryz.isAgg59
  z46 := Tryz.sizeOf59
  v46 := Tryz.zeroValue59
  t51 := Tryz.underlying265
  a51 := Tryz.isAgg265
  z51 := Tryz.sizeOf265
  v51 := Tryz.zeroValue265
  t53 := Tryz.underlying33
  a53 := Tryz.isAgg33
  z53 := Tryz.sizeOf33
  v53 := Tryz.zeroValue33
  t131 := Tryz.underlying190
  a131 := Tryz.isAgg190
  z131 := Tryz.sizeOf190
  v131 := Tryz.zeroValue190
  t182 := Tryz.underlying257
  a182 := Tryz.isAgg257
  z182 := Tryz.sizeOf257
  v182 := Tryz.zeroValue257
  t183 := Tryz.underlying258
  a183 := Tryz.isAgg258
  z183 := Tryz.sizeOf258
  v183 := Tryz.zeroValue258
  t218 := Tryz.underlying271
  a218 := Tryz.isAgg271
  z218 := Tryz.sizeOf271
  v218 := Tryz.zeroValue271
  t222 := Tryz.underlying274
  a222 := Tryz.isAgg274
  z222 := Tryz.sizeOf274
  v222 := Tryz.zeroValue274
  t228 := Tryz.underlying277
  a228 := Tryz.isAgg277
  z228 := Tryz.sizeOf277
  v228 := Tryz.zeroValue277
  t229 := Tryz.underlying199
  a229 := Tryz.isAgg199
  z229 := Tryz.sizeOf199
  v229 := Tryz.zeroValue199 }
open Go.Sort Go.RowKit in
theorem shelf_sort (blk off cap : Nat) (zs : List Int) (w : World) (hH : Go.Sort.Holds (Value.int .i64) w blk off zs.toArray) (hblk : blk < w.heap.size) (hsz : zs.length < 4611686018427387904) :
    Calls Tryz.prog 197 #[.slice (some ⟨blk, off, none⟩) zs.length cap] w fun e w' =>
      e = .returned (.tuple #[]) ∧ ∃ n os, w' = grow (putRow (Value.int .i64) (Sort.ahead w n) blk off (zs.mergeSort fun x y => decide (x ≤ y)).toArray) os := Any.slices_Sort_int lay189 blk off cap zs w hH hblk hsz
open Go.RowKit Go.Sort in
theorem shelf_sort_none (p : Option Addr) (cap : Nat) (w : World) :
    Calls Tryz.prog 197 #[.slice p 0 cap] w fun e w' => e = .returned (.tuple #[]) ∧ w' = w := Any.slices_Sort_int_none lay189 p cap w
def lay220_ren : Go.Shelf.Ren := ⟨fun | 20 => 198 | n => n, fun | 22 => 22 | 3 => 3 | 4 => 4 | 0 => 0 | n => n, fun | n => n⟩
theorem lay220 : Go.Proofs.Lays2.n20 Tryz.prog lay220_ren := {
  mixed := by kernel_rfl
  f20 := Tryz.func198.trans (congrArg some (by kernel_rfl))
  t0 := Tryz.underlying0
  a0 := Tryz.isAgg0
  z0 := Tryz.sizeOf0
  v0 := Tryz.zeroValue0
  t3 := Tryz.underlying3
  a3 := Tryz.isAgg3
  z3 := Tryz.sizeOf3
  v3 := Tryz.zeroValue3
  t4 := Tryz.underlying4
  a4 := Tryz.isAgg4
  z4 := Tryz.sizeOf4
  v4 := Tryz.zeroValue4
  t22 := Tryz.underlying22
  a22 := Tryz.isAgg22
  z22 := Tryz.sizeOf22
  v22 := Tryz.zeroValue22
  i3 := by kernel_rfl }
open Go.RowKit Go.Lib Go.Sort in
theorem shelf_compact (blk off cap : Nat) (zs : List Int) (w : World) (hH : Go.Sort.Holds (Value.int .i64) w blk off zs.toArray) (hsz : zs.length ≤ 9223372036854775807) (hcap : zs.length ≤ cap) :
    Calls Tryz.prog 198 #[.slice (some ⟨blk, off, none⟩) zs.length cap] w fun e w' => e = .returned (.slice (some ⟨blk, off, none⟩) (Lib.compact zs).length cap) ∧ ∃ q, w' = putRow (Value.int .i64) (Sort.ahead w q) blk off (Lib.compact zs ++ List.replicate (zs.length - (Lib.compact zs).length) 0).toArray := Any.slices_Compact_int lay220 blk off cap zs w hH hsz hcap
end Go.Proofs.YtllddgdmmfmpkaaGreatDoor
namespace Go.Proofs.YtllddgdmmfmpkaaGreatDoor
open Go
set_option maxRecDepth 10000
set_option maxHeartbeats 4000000
def srt (l : List Int) : List Int := l.mergeSort fun x y => decide (x ≤ y)
theorem srt_len (l : List Int) : (srt l).length = l.length := List.length_mergeSort l
theorem srt_mem {l : List Int} {x : Int} : x ∈ srt l ↔ x ∈ l := List.mem_mergeSort
theorem srt_sorted (l : List Int) : (srt l).Pairwise (· ≤ ·) := by
  have := List.pairwise_mergeSort (le := fun (x y : Int) => decide (x ≤ y)) (fun a b c h1 h2 => by simp only [decide_eq_true_eq] at *; omega) (fun a b => by simp only [Bool.or_eq_true, decide_eq_true_eq]; omega) l
  exact this.imp (fun h => by simpa using h)
def cmp (l : List Int) : List Int := Go.Lib.compact l
theorem cmp_upto {d : Array Int} (hs : d.toList.Pairwise (· ≤ ·)) : ∀ m, m ≤ d.size → (Go.Lib.compactUpTo d m).Pairwise (· < ·) ∧ (∀ x, x ∈ Go.Lib.compactUpTo d m ↔ ∃ j, j < m ∧ d[j]! = x) ∧ (Go.Lib.compactUpTo d m).length ≤ m
  | 0, _ => by simp [Go.Lib.compactUpTo]
  | m + 1, hm => by
    obtain ⟨h1, h2, h3⟩ := cmp_upto hs m (by omega)
    have hle : ∀ i j, i ≤ j → j < d.size → d[i]! ≤ d[j]! := fun i j hij hj => by
      by_cases he : i = j
      · subst he; exact Int.le_refl _
      · rw [getElem!_pos d i (by omega), getElem!_pos d j hj]
        have := List.pairwise_iff_getElem.1 hs i j (by simpa using (by omega : i < d.size)) (by simpa using hj) (by omega)
        simpa using this
    rw [Go.Lib.compactUpTo_succ]
    by_cases hk : Go.Lib.keeps d m = true
    · rw [if_pos hk]
      have hne : m = 0 ∨ d[m]! ≠ d[m - 1]! := by
        by_cases h0 : m = 0
        · exact .inl h0
        · right
          intro he
          rw [Go.Lib.keeps_neg (by omega) he] at hk
          cases hk
      refine ⟨?_, ?_, by simp; omega⟩
      · rw [List.pairwise_append]
        refine ⟨h1, List.pairwise_singleton _ _, fun a ha b hb => ?_⟩
        rw [List.mem_singleton] at hb
        subst hb
        obtain ⟨j, hj, rfl⟩ := (h2 a).1 ha
        rcases hne with h0 | hne
        · omega
        · have e1 := hle j (m - 1) (by omega) (by omega)
          have e2 := hle (m - 1) m (by omega) (by omega)
          omega
      · intro x
        rw [List.mem_append, h2, List.mem_singleton]
        constructor
        · rintro (⟨j, hj, rfl⟩ | rfl)
          · exact ⟨j, by omega, rfl⟩
          · exact ⟨m, by omega, rfl⟩
        · rintro ⟨j, hj, rfl⟩
          by_cases hjm : j = m
          · subst hjm; exact .inr rfl
          · exact .inl ⟨j, by omega, rfl⟩
    · rw [if_neg hk, List.append_nil]
      refine ⟨h1, fun x => ?_, by omega⟩
      rw [h2]
      have he : 0 < m ∧ d[m]! = d[m - 1]! := by
        by_cases h0 : m = 0
        · subst h0; exact absurd (Go.Lib.keeps_lt_one d 0 (by omega)) hk
        · refine ⟨by omega, ?_⟩
          by_cases h : d[m]! = d[m - 1]!
          · exact h
          · exact absurd (Go.Lib.keeps_pos h) hk
      constructor
      · rintro ⟨j, hj, rfl⟩; exact ⟨j, by omega, rfl⟩
      · rintro ⟨j, hj, rfl⟩
        by_cases hjm : j = m
        · subst hjm; exact ⟨j - 1, by omega, he.2.symm⟩
        · exact ⟨j, by omega, rfl⟩
theorem cmp_spec {l : List Int} (hs : l.Pairwise (· ≤ ·)) : (cmp l).Pairwise (· < ·) ∧ (∀ x, x ∈ cmp l ↔ x ∈ l) ∧ (cmp l).length ≤ l.length := by
  obtain ⟨h1, h2, h3⟩ := cmp_upto (d := l.toArray) (by simpa using hs) l.length (by simp)
  refine ⟨h1, fun x => (h2 x).trans ?_, h3⟩
  rw [List.mem_iff_getElem]
  constructor
  · rintro ⟨j, hj, rfl⟩; exact ⟨j, hj, by rw [getElem!_pos _ j (by simpa using hj)]; simp⟩
  · rintro ⟨j, hj, rfl⟩; exact ⟨j, hj, by rw [getElem!_pos _ j (by simpa using hj)]; simp⟩
theorem flat1 : ∀ l : List Int, (l.map encI).flatten = l.map (Value.int .i64)
  | [] => rfl
  | x :: l => by simp [flat1 l]
theorem St.put_row {W0 : World} {own : Own} {w : World} {b : Nat} {T : TypeId} {C : Own → Own} {l l' : List Int} {rest : List Value} {n : Nat} {os : Array Obj} (s : St W0 own w) (hat : At [(b, fun o => o = Obj.cells ((l.map encI).flatten ++ rest).toArray T)] own C) (hl : l'.length = l.length) :
    St W0 (C [(b, fun o => o = Obj.cells ((l'.map encI).flatten ++ rest).toArray T)]) (Go.Sort.grow (Go.Sort.putRow (Value.int .i64) (Go.Sort.ahead w n) b 0 l'.toArray) os) := by
  have hu := hat.up (fun o => o = Obj.cells ((l'.map encI).flatten ++ rest).toArray T)
  have hb := s.mem_size hu.mem
  refine s.up hu rfl rfl rfl ?_ ?_ ?_
  · simp [Go.Sort.grow, Go.Sort.putRow, Go.Sort.mapBlock, Go.Sort.ahead]
  · intro k hk hne
    simp only [Go.Sort.grow, Go.Sort.putRow, Go.Sort.mapBlock, Go.Sort.ahead]
    rw [Array.getElem?_append_left (by simpa using hk), Array.getElem?_modify, if_neg (fun e => hne e.symm)]
  · obtain ⟨o, ho, hp⟩ := s.owns _ hu.mem
    refine ⟨_, ?_, rfl⟩
    simp only [Go.Sort.grow, Go.Sort.putRow, Go.Sort.mapBlock, Go.Sort.ahead]
    rw [Array.getElem?_append_left (by simpa using hb), Array.getElem?_modify, if_pos rfl]
    have hp' : o = Obj.cells ((l.map encI).flatten ++ rest).toArray T := hp
    have ho' : w.heap[b]? = some o := ho
    rw [ho', hp']
    simp only [Option.map_some, Go.Sort.onCells, Go.Sort.putCells, flat1]
    congr 2
    apply Array.ext'
    rw [Array.toList_mapIdx]
    refine List.ext_getElem (by simp [hl]) fun k h1 h2 => ?_
    simp only [List.getElem_mapIdx]
    by_cases hk : k < l'.length
    · rw [if_pos ⟨by omega, by simpa using hk⟩, List.getElem_append_left (by simpa using hk), getElem!_pos _ _ (by simpa using hk)]
      simp
    · rw [if_neg (by simp; omega), List.getElem_append_right (by simp; omega), List.getElem_append_right (by simp; omega)]
      simp [hl]
section
variable {W0 : World} {own : Own}
theorem hold_own {w : World} {b : Nat} {l : List Int} {rest : List Value} {T : TypeId} (s : St W0 own w) (hm : (b, fun o => o = Obj.cells ((l.map encI).flatten ++ rest).toArray T) ∈ own) : Go.Sort.Holds (Value.int .i64) w b 0 l.toArray := fun j hj => by
  have hj' : j < l.length := by simpa using hj
  refine ⟨?_, ?_⟩
  · rw [getElem!_pos _ j hj]
    refine kn_cell hm ?_ w s
    rw [Nat.zero_add, flat1, List.toList_toArray, List.getElem?_append_left (by simpa using hj')]
    simp [hj']
  · obtain ⟨o, ho, hp⟩ := s.owns _ hm
    have hp' : o = Obj.cells ((l.map encI).flatten ++ rest).toArray T := hp
    have ho' : w.heap[b]? = some o := ho
    simp [World.frozen?, ho', hp']
theorem sp_sort {a : Option Addr} {l : List Int} {cap : Nat} {D : Own} {C : Own → Own} (hB : BufE encI 3 1 a cap l D) (hat : At D own C) (hl : l.length < 4611686018427387904) :
    Spec Tryz.prog W0 197 [.slice a l.length cap] own fun v own' => ∃ D' : Own, (v = .tuple #[] ∧ BufE encI 3 1 a cap (srt l) D') ∧ Ent W0 own' (C D') := by
  intro w hs
  rcases hB.how with ⟨rfl, rfl, rfl⟩ | ⟨b, rest, rfl, rfl, hlen, hle⟩
  · refine (shelf_sort_none a 0 w).mono ?_
    rintro e w' ⟨rfl, rfl⟩
    exact ⟨_, own, rfl, hs, [], ⟨rfl, by rw [show srt [] = [] from List.mergeSort_nil]; exact BufE.nil⟩, by rw [hat.same]; exact Ent.refl⟩
  · have hm := (hat.up (fun _ => True)).mem
    refine (shelf_sort b 0 cap l w (hold_own hs hm) (hs.mem_size hm) hl).mono ?_
    rintro e w' ⟨rfl, n, os, rfl⟩
    exact ⟨_, _, rfl, hs.put_row hat (srt_len l), _, ⟨rfl, fun _ _ => rfl, .inr ⟨b, rest, rfl, rfl, by rw [srt_len]; exact hlen, by rw [srt_len]; exact hle⟩⟩, Ent.refl⟩
theorem sp_compact {a : Option Addr} {l : List Int} {cap : Nat} {D : Own} {C : Own → Own} (hB : BufE encI 3 1 a cap l D) (hat : At D own C) (hl : l.length ≤ 9223372036854775807) (hs2 : l.Pairwise (· ≤ ·)) :
    Spec Tryz.prog W0 198 [.slice a l.length cap] own fun v own' => ∃ D' : Own, (v = .slice a (cmp l).length cap ∧ BufE encI 3 1 a cap (cmp l) D') ∧ Ent W0 own' (C D') := by
  cases l with
  | nil =>
    refine spec_of mixed low_slices_Compact_int (by simp [ir_slices_Compact_int]) ?_
    repeat' ((try (conv => whnf)); first | (refine br_te ?_ ?_; exact rfl))
    exact ⟨D, ⟨rfl, hB⟩, by rw [hat.same]; exact Ent.refl⟩
  | cons x r =>
    intro w hs
    have hcl := (cmp_spec hs2).2.2
    rcases hB.how with ⟨h, _, _⟩ | ⟨b, rest, rfl, rfl, hlen, hle⟩
    · cases h
    · generalize x :: r = l at *
      have hm := (hat.up (fun _ => True)).mem
      refine (shelf_compact b 0 cap l w (hold_own hs hm) hl hle).mono ?_
      rintro e w' ⟨rfl, q, rfl⟩
      have hst := hs.put_row (n := q) (os := #[]) (l' := cmp l ++ List.replicate (l.length - (cmp l).length) 0) hat (by simp; omega)
      rw [Go.Sort.grow_empty] at hst
      refine ⟨_, _, rfl, hst, _, ⟨rfl, fun _ _ => rfl, .inr ⟨b, ((List.replicate (l.length - (cmp l).length) 0).map encI).flatten ++ rest, rfl, rfl, ?_, by omega⟩⟩, ?_⟩
      · simp only [flat1, List.length_append, List.length_map, List.length_replicate]; omega
      · rw [List.map_append, List.flatten_append, List.append_assoc]; exact Ent.refl
end
end Go.Proofs.YtllddgdmmfmpkaaGreatDoor
namespace Go.Proofs.YtllddgdmmfmpkaaGreatDoor
open Go
set_option maxRecDepth 10000
set_option maxHeartbeats 8000000
section
variable {α : Type} {enc : α → List Value} {sz : Nat} {W0 : World} {own : Own} {a : Option Addr} {n c m : Nat} {l : List α} {x : α}
theorem sls_f {K : Value → Prop} (hn : n = m + 1) (h : K (.slice (slA a c 1 sz) m (c - 1))) : SlsT a n c sz (some 1) none none K := by
  refine ⟨1, n, c, rfl, rfl, rfl, by omega, (fun h => by cases h), (fun h => by cases h), (fun h => by cases h), ?_⟩
  rw [show n - 1 = m by omega]; exact h
theorem sls_h {K : Value → Prop} {i : Int} (hi : i = n) (hc : n ≤ c) (h : K (.slice (slA a c 0 sz) n c)) : SlsT a n c sz none (some i) none K :=
  ⟨0, n, c, rfl, hi, rfl, by omega, fun _ => hc, (fun h => by cases h), (fun h => by cases h), h⟩
theorem RdE.tl (h : RdE enc sz W0 own a (x :: l)) (hc : (x :: l).length ≤ c) : RdE enc sz W0 own (slA a c 1 sz) l := by
  have := h.sl (c := 1) (r := (x :: l).length) (m := c) (Nat.le_refl _) hc
  simpa using this
theorem RdE.hd (h : RdE enc sz W0 own a l) (hc : l.length ≤ c) : RdE enc sz W0 own (slA a c 0 sz) l := by
  have := h.sl (c := 0) (r := l.length) (m := c) (Nat.le_refl _) hc
  simpa using this
end
section
variable {W0 : World} {own F : Own} {h : MH} {m : MS} {b c : Nat} {a : Option Addr} {rv w : Int} {l : List Int} {f : Bool}
abbrev ckP (a : Option Addr) (n c : Nat) (rv : Int) (f : Bool) : Obj → Prop := fun z => z = Obj.cells #[.slice a n c, .int .i64 rv, .bool f] 243 (0, 0)
theorem sp_newCheck (hL : RdE encI 1 W0 own a l) (hl : l.length ≤ 1000000) (rv : Int) : Spec Tryz.prog W0 141 [.slice a l.length c, .int .i64 rv] own fun v own' =>
    ∃ s : Nat × Option Addr × Nat × Own, (v = .pointer (some ⟨s.1, 0, none⟩) ∧ BufE encI 3 1 s.2.1 s.2.2.1 l s.2.2.2) ∧ Ent W0 own' ((s.1, ckP s.2.1 l.length s.2.2.1 rv false) :: (s.2.2.2 ++ own)) := by
  refine spec_of mixed low_validator_New (by simp [ir_validator_New]) ?_
  have hcl := sp_clone_int (cap := c) hL (by omega)
  repeat' ((try (conv => whnf)); first | ((with_reducible show CallT _ _ _ _ _ _); first | ((refine call_x hcl ?_ ?_ (fun y v hv => ?_); (exact rfl); (exact rfl); (obtain ⟨a1, c1, D1⟩ := y; obtain ⟨rfl, hB1⟩ := hv; dsimp only at hB1)))) | (refine new_i (fun bk hbk => ?_)))
  all_goals exact ⟨(_, a1, c1, D1), ⟨rfl, hB1⟩, Ent.refl⟩
theorem sp_ckDone {n : Nat} (h0 : Cl W0 own b 0 (.slice a n c)) (h2 : Cl W0 own b 2 (.bool f)) : Pure Tryz.prog W0 144 [.pointer (some ⟨b, 0, none⟩)] own (.bool (f || decide (n = 0))) := by
  refine pure_of (spec_of mixed low_validator_Check_Done (by simp [ir_validator_Check_Done]) ?_)
  cases f
  all_goals
    repeat' ((try (conv => whnf)); first | (refine when_ye ?_ ?_; exact rfl) | (refine when_ne ?_ ?_; exact rfl) | (refine ldK1 h2 ?_) | (refine ldK1 h0 ?_))
    all_goals first | exact ⟨rfl, (by first | exact ent_i | (repeat (first | exact Ent.refl | exact Ent.left | refine Ent.cons ?_ | refine Ent.app ?_)))⟩ | exact ⟨ret1 (vb (by simp)), (by first | exact ent_i | (repeat (first | exact Ent.refl | exact Ent.left | refine Ent.cons ?_ | refine Ent.app ?_)))⟩
theorem sp_ckFail (h2 : Cl W0 own b 2 (.bool f)) : Pure Tryz.prog W0 146 [.pointer (some ⟨b, 0, none⟩)] own (.bool f) := by
  refine pure_of (spec_of mixed low_validator_Check_Failed (by simp [ir_validator_Check_Failed]) ?_)
  repeat' ((try (conv => whnf)); first | (refine ldK1 h2 ?_))
  all_goals exact ⟨rfl, (by first | exact ent_i | (repeat (first | exact Ent.refl | exact Ent.left | refine Ent.cons ?_ | refine Ent.app ?_)))⟩
theorem sp_ckStep {j : Nat} (hM : h.ok m.L) (hL : RdE encI 1 W0 F a ((j : Int) :: l)) (hj : m.o[j]? = some w) (hw : okU w) (Q : Own) [eq : EntC Q F] :
    Spec Tryz.prog W0 145 [.pointer (some ⟨b, 0, none⟩), .pointer (some ⟨h.mb, 0, none⟩)] ((b, ckP a (l.length + 1) c rv false) :: (h.O m ++ Q)) fun v own' =>
      ∃ _ : Unit, v = (acL 2 j w).v ∧ Ent W0 own' ((b, ckP (slA a c 1 1) l.length (c - 1) rv (decide (verO w > rv))) :: (h.O m ++ Q)) := by
  refine spec_un (spec_of mixed low_validator_Check_Step (by simp [ir_validator_Check_Step]) ?_)
  have hve := fun own' => sp_version (W0 := W0) (own := own') w hw
  have hx : ((j : Int) :: l)[0]? = some (j : Int) := rfl
  have hdn := fun (own' : Own) (mm : MemC b (ckP a (l.length + 1) c rv false) own') => sp_ckDone (W0 := W0) (own := own') (cl_of mm rfl) (cl_of mm rfl)
  have hd0 : (false || decide (l.length + 1 = 0)) = false := by simp
  rw [hd0] at hdn
  repeat' ((try (conv => whnf)); first | (refine br_fe ?_ ?_; exact rfl) | (refine sls_f rfl ?_) | ((with_reducible show Ld _ _ _ _); first | (refine ldE0 hL hx rfl ?_)) | ((with_reducible show IxS _ _ _ _ _); first | ((refine ixE hL hx ?_ ?_; (first | rfl | omega)))) | ((with_reducible show CallT _ _ _ _ _ _); first | ((refine call_pe (hdn _ inferInstance) ?_ ?_ ?_; (exact rfl); exact rfl)) | ((refine call_ld 1 j hM (by decide) hj ?_ ?_ ?_; (exact rfl); (exact rfl)))) | ((with_reducible show CallQ _ _ _ _ _ _); first | ((refine call_qq hve ?_ ?_ ?_; (exact rfl); (exact rfl)))) | (apply sel; exact rfl) | (apply ld_o; exact rfl) | (apply ldN_a; exact rfl) | (apply st_o; (exact rfl); exact rfl) | (apply stN_o; (exact rfl); (exact rfl); exact rfl) | (refine new_i (fun bk hbk => ?_)))
  all_goals exact ⟨rfl, (by refine sb_ent ?_; (repeat (first | exact sb_refl | exact sb_nil | refine sb_fr ?_ | refine sb_pu rfl ?_ | refine sb_cons ?_ | refine sb_app ?_)))⟩
abbrev wrP (a : Option Addr) (n c : Nat) (a2 : Option Addr) (n2 c2 : Nat) : Obj → Prop := fun z => z = Obj.cells #[.slice a n c, .slice a2 n2 c2] 245 (0, 0)
abbrev rlP (a : Option Addr) (n c : Nat) (a2 : Option Addr) (n2 c2 : Nat) : Obj → Prop := fun z => z = Obj.cells #[.slice a n c, .slice a2 n2 c2] 247 (0, 0)
variable {a2 : Option Addr} {c2 : Nat} {l2 : List Int} {v : Int}
theorem sp_newWrite (hL : RdE encI 1 W0 own a l) (hL2 : RdE encU 1 W0 own a2 l2) (hl : l.length ≤ 1000000) (he : l2.length = l.length) (hc : l.length ≤ c) (hc2 : l2.length ≤ c2) : Spec Tryz.prog W0 149 [.slice a l.length c, .slice a2 l2.length c2] own fun v own' =>
    ∃ s : Nat × (Option Addr × Nat × Own) × (Option Addr × Nat × Own), (v = .pointer (some ⟨s.1, 0, none⟩) ∧ BufE encI 3 1 s.2.1.1 s.2.1.2.1 l s.2.1.2.2 ∧ BufE encU 33 1 s.2.2.1 s.2.2.2.1 l2 s.2.2.2.2) ∧
      Ent W0 own' ((s.1, wrP s.2.1.1 l.length s.2.1.2.1 s.2.2.1 l2.length s.2.2.2.1) :: (s.2.2.2.2 ++ (s.2.1.2.2 ++ own))) := by
  refine spec_of mixed low_writer_New (by simp [ir_writer_New]) ?_
  have hcl := fun (own' : Own) [EntC own' own] => sp_clone_int (cap := c) ((RdE.hd hL hc).up (own := own')) (by omega)
  have hcl2 := fun (own' : Own) [EntC own' own] => sp_clone_uint64 (cap := c2) ((RdE.hd hL2 hc2).up (own := own')) (by omega)
  have hmn : min (l.length : Int) l2.length = l.length := by omega
  have hmn2 : min (l.length : Int) l2.length = l2.length := by omega
  repeat' ((try (conv => whnf)); first | (refine sls_h hmn hc ?_) | (refine sls_h hmn2 hc2 ?_) | ((with_reducible show CallT _ _ _ _ _ _); first | ((refine call_x (hcl _) ?_ ?_ (fun y v hv => ?_); (exact rfl); (exact rfl); (obtain ⟨a3, c3, D3⟩ := y; obtain ⟨rfl, hB3⟩ := hv; dsimp only at hB3))) | ((refine call_x (hcl2 _) ?_ ?_ (fun y v hv => ?_); (exact rfl); (exact rfl); (obtain ⟨a4, c4, D4⟩ := y; obtain ⟨rfl, hB4⟩ := hv; dsimp only at hB4)))) | (refine new_i (fun bk hbk => ?_)) | (refine mm_min ?_))
  all_goals exact ⟨(_, (a3, c3, D3), (a4, c4, D4)), ⟨rfl, hB3, hB4⟩, Ent.refl⟩
theorem sp_newRel (hL : RdE encI 1 W0 own a l) (hL2 : RdE encU 1 W0 own a2 l2) (hl : l.length ≤ 1000000) (he : l2.length = l.length) (hc : l.length ≤ c) (hc2 : l2.length ≤ c2) : Spec Tryz.prog W0 155 [.slice a l.length c, .slice a2 l2.length c2] own fun v own' =>
    ∃ s : Nat × (Option Addr × Nat × Own) × (Option Addr × Nat × Own), (v = .pointer (some ⟨s.1, 0, none⟩) ∧ BufE encI 3 1 s.2.1.1 s.2.1.2.1 l s.2.1.2.2 ∧ BufE encU 33 1 s.2.2.1 s.2.2.2.1 l2 s.2.2.2.2) ∧
      Ent W0 own' ((s.1, rlP s.2.1.1 l.length s.2.1.2.1 s.2.2.1 l2.length s.2.2.2.1) :: (s.2.2.2.2 ++ (s.2.1.2.2 ++ own))) := by
  refine spec_of mixed low_locker_NewRelease (by simp [ir_locker_NewRelease]) ?_
  have hcl := fun (own' : Own) [EntC own' own] => sp_clone_int (cap := c) ((RdE.hd hL hc).up (own := own')) (by omega)
  have hcl2 := fun (own' : Own) [EntC own' own] => sp_clone_uint64 (cap := c2) ((RdE.hd hL2 hc2).up (own := own')) (by omega)
  have hmn : min (l.length : Int) l2.length = l.length := by omega
  have hmn2 : min (l.length : Int) l2.length = l2.length := by omega
  repeat' ((try (conv => whnf)); first | (refine sls_h hmn hc ?_) | (refine sls_h hmn2 hc2 ?_) | ((with_reducible show CallT _ _ _ _ _ _); first | ((refine call_x (hcl _) ?_ ?_ (fun y v hv => ?_); (exact rfl); (exact rfl); (obtain ⟨a3, c3, D3⟩ := y; obtain ⟨rfl, hB3⟩ := hv; dsimp only at hB3))) | ((refine call_x (hcl2 _) ?_ ?_ (fun y v hv => ?_); (exact rfl); (exact rfl); (obtain ⟨a4, c4, D4⟩ := y; obtain ⟨rfl, hB4⟩ := hv; dsimp only at hB4)))) | (refine new_i (fun bk hbk => ?_)) | (refine mm_min ?_))
  all_goals exact ⟨(_, (a3, c3, D3), (a4, c4, D4)), ⟨rfl, hB3, hB4⟩, Ent.refl⟩
theorem sp_wrDone {n : Nat} (h0 : Cl W0 own b 0 (.slice a n c)) : Pure Tryz.prog W0 152 [.pointer (some ⟨b, 0, none⟩)] own (.bool (decide (n = 0))) := by
  refine pure_of (spec_of mixed low_writer_Write_Done (by simp [ir_writer_Write_Done]) ?_)
  repeat' ((try (conv => whnf)); first | (refine ldK1 h0 ?_))
  all_goals exact ⟨ret1 (vb (by simp)), (by first | exact ent_i | (repeat (first | exact Ent.refl | exact Ent.left | refine Ent.cons ?_ | refine Ent.app ?_)))⟩
theorem sp_rlDone {n : Nat} (h0 : Cl W0 own b 0 (.slice a n c)) : Pure Tryz.prog W0 157 [.pointer (some ⟨b, 0, none⟩)] own (.bool (decide (n = 0))) := by
  refine pure_of (spec_of mixed low_locker_Release_Done (by simp [ir_locker_Release_Done]) ?_)
  repeat' ((try (conv => whnf)); first | (refine ldK1 h0 ?_))
  all_goals exact ⟨ret1 (vb (by simp)), (by first | exact ent_i | (repeat (first | exact Ent.refl | exact Ent.left | refine Ent.cons ?_ | refine Ent.app ?_)))⟩
theorem sp_wrStep {j : Nat} (hM : h.ok m.L) (hL : RdE encI 1 W0 F a ((j : Int) :: l)) (hL2 : RdE encU 1 W0 F a2 (v :: l2)) (hj : m.d[j]? = some w) (Q : Own) [eq : EntC Q F] :
    Spec Tryz.prog W0 151 [.pointer (some ⟨b, 0, none⟩), .pointer (some ⟨h.mb, 0, none⟩)] ((b, wrP a (l.length + 1) c a2 (l2.length + 1) c2) :: (h.O m ++ Q)) fun r own' =>
      ∃ _ : Unit, r = (acS 1 j w v).v ∧ Ent W0 own' ((b, wrP (slA a c 1 1) l.length (c - 1) (slA a2 c2 1 1) l2.length (c2 - 1)) :: (h.O { m with d := m.d.set j v } ++ Q)) := by
  refine spec_un (spec_of mixed low_writer_Write_Step (by simp [ir_writer_Write_Step]) ?_)
  have hx : ((j : Int) :: l)[0]? = some (j : Int) := rfl
  have hx2 : (v :: l2)[0]? = some v := rfl
  have hdn := fun (own' : Own) (mm : MemC b (wrP a (l.length + 1) c a2 (l2.length + 1) c2) own') => sp_wrDone (W0 := W0) (own := own') (cl_of mm rfl)
  rw [show decide (l.length + 1 = 0) = false by simp] at hdn
  repeat' ((try (conv => whnf)); first | (refine br_fe ?_ ?_; exact rfl) | (refine sls_f rfl ?_) | ((with_reducible show Ld _ _ _ _); first | (refine ldE0 hL hx rfl ?_) | (refine ldE0 hL2 hx2 rfl ?_)) | ((with_reducible show IxS _ _ _ _ _); first | ((refine ixE hL hx ?_ ?_; (first | rfl | omega))) | ((refine ixE hL2 hx2 ?_ ?_; (first | rfl | omega)))) | ((with_reducible show CallT _ _ _ _ _ _); first | ((refine call_pe (hdn _ inferInstance) ?_ ?_ ?_; (exact rfl); exact rfl)) | ((refine call_st 0 j v { m with d := m.d.set j v } hM (by decide) hj rfl ?_ ?_ ?_; (exact rfl); (exact rfl)))) | (apply sel; exact rfl) | (apply ld_o; exact rfl) | (apply ldN_a; exact rfl) | (apply st_o; (exact rfl); exact rfl) | (apply stN_o; (exact rfl); (exact rfl); exact rfl) | (refine new_i (fun bk hbk => ?_)) | (refine Both.mk ?_ ?_))
  all_goals exact ⟨rfl, (by refine sb_ent ?_; (repeat (first | exact sb_refl | exact sb_nil | refine sb_fr ?_ | refine sb_pu rfl ?_ | refine sb_cons ?_ | refine sb_app ?_)))⟩
theorem sp_rlStep {j : Nat} (hM : h.ok m.L) (hL : RdE encI 1 W0 F a ((j : Int) :: l)) (hL2 : RdE encU 1 W0 F a2 (v :: l2)) (hj : m.o[j]? = some w) (Q : Own) [eq : EntC Q F] :
    Spec Tryz.prog W0 156 [.pointer (some ⟨b, 0, none⟩), .pointer (some ⟨h.mb, 0, none⟩)] ((b, rlP a (l.length + 1) c a2 (l2.length + 1) c2) :: (h.O m ++ Q)) fun r own' =>
      ∃ _ : Unit, r = (acS 2 j w v).v ∧ Ent W0 own' ((b, rlP (slA a c 1 1) l.length (c - 1) (slA a2 c2 1 1) l2.length (c2 - 1)) :: (h.O { m with o := m.o.set j v } ++ Q)) := by
  refine spec_un (spec_of mixed low_locker_Release_Step (by simp [ir_locker_Release_Step]) ?_)
  have hx : ((j : Int) :: l)[0]? = some (j : Int) := rfl
  have hx2 : (v :: l2)[0]? = some v := rfl
  have hdn := fun (own' : Own) (mm : MemC b (rlP a (l.length + 1) c a2 (l2.length + 1) c2) own') => sp_rlDone (W0 := W0) (own := own') (cl_of mm rfl)
  rw [show decide (l.length + 1 = 0) = false by simp] at hdn
  repeat' ((try (conv => whnf)); first | (refine br_fe ?_ ?_; exact rfl) | (refine sls_f rfl ?_) | ((with_reducible show Ld _ _ _ _); first | (refine ldE0 hL hx rfl ?_) | (refine ldE0 hL2 hx2 rfl ?_)) | ((with_reducible show IxS _ _ _ _ _); first | ((refine ixE hL hx ?_ ?_; (first | rfl | omega))) | ((refine ixE hL2 hx2 ?_ ?_; (first | rfl | omega)))) | ((with_reducible show CallT _ _ _ _ _ _); first | ((refine call_pe (hdn _ inferInstance) ?_ ?_ ?_; (exact rfl); exact rfl)) | ((refine call_st 1 j v { m with o := m.o.set j v } hM (by decide) hj rfl ?_ ?_ ?_; (exact rfl); (exact rfl)))) | (apply sel; exact rfl) | (apply ld_o; exact rfl) | (apply ldN_a; exact rfl) | (apply st_o; (exact rfl); exact rfl) | (apply stN_o; (exact rfl); (exact rfl); exact rfl) | (refine new_i (fun bk hbk => ?_)) | (refine Both.mk ?_ ?_))
  all_goals exact ⟨rfl, (by refine sb_ent ?_; (repeat (first | exact sb_refl | exact sb_nil | refine sb_fr ?_ | refine sb_pu rfl ?_ | refine sb_cons ?_ | refine sb_app ?_)))⟩
theorem sp_cmpE {cap n : Nat} {D : Own} {C : Own → Own} (hB : BufE encI 3 1 a cap l D) (hat : At D own C) (hl : l.length ≤ 9223372036854775807) (hs2 : l.Pairwise (· ≤ ·)) (hn : n = l.length) :
    Spec Tryz.prog W0 198 [.slice a n cap] own fun v own' => ∃ D' : Own, (v = .slice a (cmp l).length cap ∧ BufE encI 3 1 a cap (cmp l) D') ∧ Ent W0 own' (C D') := by
  subst hn; exact sp_compact hB hat hl hs2
theorem sp_sorted (hL : RdE encI 1 W0 own a l) (hl : l.length ≤ 1000000) : Spec Tryz.prog W0 163 [.slice a l.length c] own fun v own' =>
    ∃ s : Option Addr × Nat × Own, (v = .slice s.1 (srtU l).length s.2.1 ∧ BufE encI 3 1 s.1 s.2.1 (srtU l) s.2.2) ∧ Ent W0 own' (s.2.2 ++ own) := by
  refine spec_of mixed low_locker_Sorted (by simp [ir_locker_Sorted]) ?_
  have hcl := sp_clone_int (cap := c) hL (by omega)
  have hsl : (srt l).length ≤ 9223372036854775807 := by rw [srt_len]; omega
  repeat' ((try (conv => whnf)); first | ((with_reducible show CallT _ _ _ _ _ _); first | ((refine call_x hcl ?_ ?_ (fun y v hv => ?_); (exact rfl); (exact rfl); (obtain ⟨a1, c1, D1⟩ := y; obtain ⟨rfl, hB1⟩ := hv; dsimp only at hB1))) | ((refine call_x (sp_sort hB1 At.head (by omega)) ?_ ?_ (fun D2 v hv => ?_); (exact rfl); (exact rfl); (obtain ⟨rfl, hB2⟩ := hv))) | ((refine call_x (sp_cmpE hB2 At.head hsl (srt_sorted l) (srt_len l).symm) ?_ ?_ (fun D3 v hv => ?_); (exact rfl); (exact rfl); (obtain ⟨rfl, hB3⟩ := hv)))))
  all_goals exact ⟨(a1, c1, D3), ⟨rfl, hB3⟩, Ent.refl⟩
abbrev lkP (t : Nat) (a : Option Addr) (n c : Nat) (a2 : Option Addr) (n2 c2 : Nat) (s : Int) (ld : Bool) : Obj → Prop := fun z => z = Obj.cells #[.int .i64 t, .slice a n c, .slice a2 n2 c2, uv s, .bool ld] 241 (0, 0)
theorem sp_newLock (hL : RdE encI 1 W0 own a l) (hl : l.length ≤ 1000000) (t : Nat) : Spec Tryz.prog W0 164 [.int .i64 t, .slice a l.length c] own fun v own' =>
    ∃ s : Nat × Option Addr × Nat × Own, (v = .pointer (some ⟨s.1, 0, none⟩) ∧ BufE encI 3 1 s.2.1 s.2.2.1 (srtU l) s.2.2.2) ∧ Ent W0 own' ((s.1, lkP t s.2.1 (srtU l).length s.2.2.1 none 0 0 0 false) :: (s.2.2.2 ++ own)) := by
  refine spec_of mixed low_locker_NewLock (by simp [ir_locker_NewLock]) ?_
  have hcl := sp_sorted (c := c) hL (by omega)
  repeat' ((try (conv => whnf)); first | ((with_reducible show CallT _ _ _ _ _ _); first | ((refine call_x hcl ?_ ?_ (fun y v hv => ?_); (exact rfl); (exact rfl); (obtain ⟨a1, c1, D1⟩ := y; obtain ⟨rfl, hB1⟩ := hv; dsimp only at hB1)))) | (refine new_i (fun bk hbk => ?_)))
  all_goals exact ⟨(_, a1, c1, D1), ⟨rfl, hB1⟩, Ent.refl⟩
theorem sp_lkDone {n n2 : Nat} (h1 : Cl W0 own b 1 (.slice a n c)) (h2 : Cl W0 own b 2 (.slice a2 n2 c2)) : Pure Tryz.prog W0 137 [.pointer (some ⟨b, 0, none⟩)] own (.bool (decide (n2 = n))) := by
  refine pure_of (spec_of mixed low_locker_Lock_Done (by simp [ir_locker_Lock_Done]) ?_)
  repeat' ((try (conv => whnf)); first | (refine ldK1 h1 ?_) | (refine ldK1 h2 ?_))
  all_goals exact ⟨ret1 (vb (by simp; omega)), (by first | exact ent_i | (repeat (first | exact Ent.refl | exact Ent.left | refine Ent.cons ?_ | refine Ent.app ?_)))⟩
theorem sp_lkOld (h2 : Cl W0 own b 2 (.slice a2 l2.length c2)) (hL2 : RdE encU 1 W0 own a2 l2) (hl : l2.length ≤ 1000000) : Spec Tryz.prog W0 193 [.pointer (some ⟨b, 0, none⟩)] own fun v own' =>
    ∃ s : Option Addr × Nat × Own, (v = .slice s.1 l2.length s.2.1 ∧ BufE encU 33 1 s.1 s.2.1 l2 s.2.2) ∧ Ent W0 own' (s.2.2 ++ own) := by
  refine spec_of mixed low_locker_Lock_Old (by simp [ir_locker_Lock_Old]) ?_
  have hcl := sp_clone_uint64 (cap := c2) hL2 (by omega)
  repeat' ((try (conv => whnf)); first | (refine ldK1 h2 ?_) | ((with_reducible show CallT _ _ _ _ _ _); first | ((refine call_x hcl ?_ ?_ (fun y v hv => ?_); (exact rfl); (exact rfl)))))
  all_goals (obtain ⟨rfl, hB1⟩ := hv; exact ⟨y, ⟨rfl, hB1⟩, Ent.refl⟩)
variable {t j : Nat} {s : Int}
theorem sp_lock0 (hM : h.ok m.L) (hL : RdE encI 1 W0 F a l) (hx : l[l2.length]? = some (j : Int)) (hj : m.o[j]? = some w) (hw : okU w) (Q : Own) [eq : EntC Q F] :
    Spec Tryz.prog W0 136 [.pointer (some ⟨b, 0, none⟩), .pointer (some ⟨h.mb, 0, none⟩)] ((b, lkP t a l.length c a2 l2.length c2 s false) :: (h.O m ++ Q)) fun r own' =>
      ∃ _ : Unit, r = (acL 2 j w).v ∧ Ent W0 own' ((b, lkP t a l.length c a2 l2.length c2 w (decide (hldO w < 0))) :: (h.O m ++ Q)) := by
  refine spec_un (spec_of mixed low_locker_Lock_Step (by simp [ir_locker_Lock_Step]) ?_)
  have hlt := (List.getElem?_eq_some_iff.1 hx).1
  have hho := fun own' => sp_holder (W0 := W0) (own := own') w hw
  have hdn := fun (own' : Own) (mm : MemC b (lkP t a l.length c a2 l2.length c2 s false) own') => sp_lkDone (W0 := W0) (own := own') (cl_of mm rfl) (cl_of mm rfl)
  rw [show decide (l2.length = l.length) = false from decide_eq_false (by omega)] at hdn
  repeat' ((try (conv => whnf)); first | (refine br_te ?_ ?_; exact rfl) | (refine br_fe ?_ ?_; exact rfl) | ((with_reducible show Ld _ _ _ _); first | (refine ldE0 hL hx rfl ?_)) | ((with_reducible show IxS _ _ _ _ _); first | ((refine ixE hL hx ?_ ?_; (first | rfl | omega)))) | ((with_reducible show CallT _ _ _ _ _ _); first | ((refine call_pe (hdn _ inferInstance) ?_ ?_ ?_; (exact rfl); exact rfl)) | ((refine call_ld 1 j hM (by decide) hj ?_ ?_ ?_; (exact rfl); (exact rfl)))) | ((with_reducible show CallQ _ _ _ _ _ _); first | ((refine call_qq hho ?_ ?_ ?_; (exact rfl); (exact rfl)))) | (apply sel; exact rfl) | (apply ld_o; exact rfl) | (apply ldN_a; exact rfl) | (apply st_o; (exact rfl); exact rfl) | (apply stN_o; (exact rfl); (exact rfl); exact rfl) | (refine new_i (fun bk hbk => ?_)))
  all_goals exact ⟨rfl, (by refine sb_ent ?_; (repeat (first | exact sb_refl | exact sb_nil | refine sb_fr ?_ | refine sb_pu rfl ?_ | refine sb_cons ?_ | refine sb_app ?_)))⟩
theorem sp_lock1 {D2 : Own} (hM : h.ok m.L) (hL : RdE encI 1 W0 F a l) (hB2 : BufE encU 33 1 a2 c2 l2 D2) (hx : l[l2.length]? = some (j : Int)) (hj : m.o[j]? = some w) (hs : 0 ≤ s ∧ s + 17 ≤ 18446744073709551615) (ht : t < 16) (hl2 : l2.length ≤ 1000000) (Q : Own) [eq : EntC Q F] :
    Spec Tryz.prog W0 136 [.pointer (some ⟨b, 0, none⟩), .pointer (some ⟨h.mb, 0, none⟩)] ((b, lkP t a l.length c a2 l2.length c2 s true) :: (h.O m ++ (D2 ++ Q))) fun r own' =>
      ∃ y : Option Addr × Nat × Own, (r = (acW 2 j w (s + t + 1) (decide (w = s))).v ∧ BufE encU 33 1 y.1 y.2.1 (if w = s then l2 ++ [s] else l2) y.2.2) ∧
        Ent W0 own' ((b, lkP t a l.length c y.1 (if w = s then l2 ++ [s] else l2).length y.2.1 s false) :: (h.O { m with o := if w = s then m.o.set j (s + t + 1) else m.o } ++ (y.2.2 ++ Q))) := by
  refine spec_of mixed low_locker_Lock_Step (by simp [ir_locker_Lock_Step]) ?_
  have hlt := (List.getElem?_eq_some_iff.1 hx).1
  have hdn := fun (own' : Own) (mm : MemC b (lkP t a l.length c a2 l2.length c2 s true) own') => sp_lkDone (W0 := W0) (own := own') (cl_of mm rfl) (cl_of mm rfl)
  rw [show decide (l2.length = l.length) = false from decide_eq_false (by omega)] at hdn
  by_cases he : w = s
  · subst he
    rw [if_pos rfl, if_pos rfl, show decide (w = w) = true from decide_eq_true rfl]
    repeat' ((try (conv => whnf)); first | (refine br_te ?_ ?_; exact rfl) | (refine br_fe ?_ ?_; exact rfl) | (refine new_i (fun bk hbk => ?_)) | (apply app_i (enc := encU) (T := 33) w hB2; (exact rfl); (exact rfl); (omega); (exact rfl); (exact rfl); (omega); intro a3 c3 D3 hb3) | ((with_reducible show Ld _ _ _ _); first | (refine ldE0 hL hx rfl ?_)) | ((with_reducible show IxS _ _ _ _ _); first | ((refine ixE hL hx ?_ ?_; (first | rfl | omega)))) | ((with_reducible show CallT _ _ _ _ _ _); first | ((refine call_pe (hdn _ inferInstance) ?_ ?_ ?_; (exact rfl); exact rfl)) | ((refine call_sw 1 j w (w + t + 1) { m with o := m.o.set j (w + t + 1) } hM (by decide) hj (if_pos rfl).symm ?_ ?_ ?_; (exact rfl); (exact rfl); (rw [show decide (w = w) = true from decide_eq_true rfl])))) | (refine aru ?_ ?_; omega) | (apply sel; exact rfl) | (apply ld_o; exact rfl) | (apply ldN_a; exact rfl) | (apply st_o; (exact rfl); exact rfl) | (apply stN_o; (exact rfl); (exact rfl); exact rfl) | (refine Both.mk ?_ ?_))
    all_goals exact ⟨(a3, c3, D3), ⟨rfl, hb3⟩, by rw [List.length_append]; exact (by refine sb_ent ?_; (repeat (first | exact sb_refl | exact sb_nil | refine sb_fr ?_ | refine sb_pu rfl ?_ | refine sb_cons ?_ | refine sb_app ?_)))⟩
  · rw [if_neg he, if_neg he, show decide (w = s) = false from decide_eq_false he]
    repeat' ((try (conv => whnf)); first | (refine br_fe ?_ ?_; exact rfl) | ((with_reducible show Ld _ _ _ _); first | (refine ldE0 hL hx rfl ?_)) | ((with_reducible show IxS _ _ _ _ _); first | ((refine ixE hL hx ?_ ?_; (first | rfl | omega)))) | ((with_reducible show CallT _ _ _ _ _ _); first | ((refine call_pe (hdn _ inferInstance) ?_ ?_ ?_; (exact rfl); exact rfl)) | ((refine call_sw 1 j s (s + t + 1) m hM (by decide) hj (if_neg he).symm ?_ ?_ ?_; (exact rfl); (exact rfl); (rw [show decide (w = s) = false from decide_eq_false he])))) | (refine aru ?_ ?_; omega) | (apply sel; exact rfl) | (apply ld_o; exact rfl) | (apply ldN_a; exact rfl) | (apply st_o; (exact rfl); exact rfl) | (apply stN_o; (exact rfl); (exact rfl); exact rfl) | (refine new_i (fun bk hbk => ?_)) | (refine Both.mk ?_ ?_))
    all_goals exact ⟨(a2, c2, D2), ⟨rfl, hB2⟩, (by refine sb_ent ?_; (repeat (first | exact sb_refl | exact sb_nil | refine sb_fr ?_ | refine sb_pu rfl ?_ | refine sb_cons ?_ | refine sb_app ?_)))⟩
abbrev stP (cap : Int) (a : Option Addr) (n c : Nat) : Obj → Prop := fun z => z = Obj.cells #[.int .i64 cap, .slice a n c] 237 (0, 0)
variable {cap : Int} {D : Own}
theorem sp_newSet (cap : Int) (hc : 0 ≤ cap ∧ cap ≤ 32) (Q : Own) : Spec Tryz.prog W0 168 [.int .i64 cap] Q fun v own' => ∃ b : Nat, v = .pointer (some ⟨b, 0, none⟩) ∧ Ent W0 own' ((b, stP cap none 0 0) :: Q) := by
  refine spec_of mixed low_readset_New (by simp [ir_readset_New]) ?_
  repeat' ((try (conv => whnf)); first | (refine new_i (fun bk hbk => ?_)) | (refine mm_min ?_) | (refine mm_max ?_))
  all_goals (rw [show max 0 (min cap 32) = cap by omega]; exact ⟨_, rfl, Ent.refl⟩)
theorem sp_setHas (h1 : Cl W0 own b 1 (.slice a l.length c)) (hL : RdE encI 1 W0 own a l) (hl : l.length ≤ 1000000) (o : Int) : Pure Tryz.prog W0 191 [.pointer (some ⟨b, 0, none⟩), .int .i64 o] own (.bool (decide (o ∈ l))) := by
  refine pure_of (spec_of mixed low_readset_Set_Has (by simp [ir_readset_Set_Has]) ?_)
  have hc := sp_contains_int (cap := c) hL (by omega) o
  repeat' ((try (conv => whnf)); first | (refine ldK1 h1 ?_) | ((with_reducible show CallT _ _ _ _ _ _); first | ((refine call_pe (hc) ?_ ?_ ?_; (exact rfl); exact rfl))) | (refine when_ye ?_ ?_; exact rfl))
  all_goals exact ⟨rfl, (by first | exact ent_i | (repeat (first | exact Ent.refl | exact Ent.left | refine Ent.cons ?_ | refine Ent.app ?_)))⟩
theorem sp_setList (h1 : Cl W0 own b 1 (.slice a l.length c)) (hL : RdE encI 1 W0 own a l) (hl : l.length ≤ 1000000) : Spec Tryz.prog W0 142 [.pointer (some ⟨b, 0, none⟩)] own fun v own' =>
    ∃ s : Option Addr × Nat × Own, (v = .slice s.1 l.length s.2.1 ∧ BufE encI 3 1 s.1 s.2.1 l s.2.2) ∧ Ent W0 own' (s.2.2 ++ own) := by
  refine spec_of mixed low_readset_Set_List (by simp [ir_readset_Set_List]) ?_
  have hcl := sp_clone_int (cap := c) hL (by omega)
  repeat' ((try (conv => whnf)); first | (refine ldK1 h1 ?_) | ((with_reducible show CallT _ _ _ _ _ _); first | ((refine call_x hcl ?_ ?_ (fun y v hv => ?_); (exact rfl); (exact rfl)))) | (refine br_fe ?_ ?_; exact rfl))
  all_goals (obtain ⟨rfl, hB1⟩ := hv; exact ⟨y, ⟨rfl, hB1⟩, Ent.refl⟩)
theorem sp_setAdd (hB : BufE encI 3 1 a c l D) (hl : l.length ≤ 1000000) (o : Int) (Q : Own) :
    Spec Tryz.prog W0 130 [.pointer (some ⟨b, 0, none⟩), .int .i64 o] ((b, stP cap a l.length c) :: (D ++ Q)) fun v own' =>
      ∃ y : Option Addr × Nat × Own, (v = .bool (addS cap l o).isSome ∧ BufE encI 3 1 y.1 y.2.1 ((addS cap l o).getD l) y.2.2) ∧ Ent W0 own' ((b, stP cap y.1 ((addS cap l o).getD l).length y.2.1) :: (y.2.2 ++ Q)) := by
  refine spec_of mixed low_readset_Set_Add (by simp [ir_readset_Set_Add]) ?_
  have hha := sp_setHas (W0 := W0) (own := (b, stP cap a l.length c) :: (D ++ Q)) (kn_cell (cs := #[.int .i64 cap, .slice a l.length c]) (T := 237) (fz := (0, 0)) List.mem_cons_self rfl) ((hB.rd (W0 := W0)).up) hl o
  unfold addS
  by_cases h1 : o ∈ l
  · rw [if_pos h1]
    rw [decide_eq_true h1] at hha
    repeat' ((try (conv => whnf)); first | (refine br_te ?_ ?_; exact rfl) | (refine br_fe ?_ ?_; exact rfl) | ((with_reducible show CallT _ _ _ _ _ _); first | ((refine call_pe (hha) ?_ ?_ ?_; (exact rfl); exact rfl))))
    all_goals exact ⟨(a, c, D), ⟨rfl, hB⟩, Ent.refl⟩
  · rw [if_neg h1]
    rw [decide_eq_false h1] at hha
    by_cases h2 : (l.length : Int) ≥ cap
    · rw [if_pos h2]
      repeat' ((try (conv => whnf)); first | (refine br_fe ?_ ?_; exact rfl) | (apply br_pyE; (exact rfl); omega) | ((with_reducible show CallT _ _ _ _ _ _); first | ((refine call_pe (hha) ?_ ?_ ?_; (exact rfl); exact rfl))) | (apply ld_o; exact rfl))
      all_goals exact ⟨(a, c, D), ⟨rfl, hB⟩, Ent.refl⟩
    · rw [if_neg h2]
      repeat' ((try (conv => whnf)); first | (refine br_fe ?_ ?_; exact rfl) | (apply br_pnE; (exact rfl); omega) | (refine new_i (fun bk hbk => ?_)) | (apply app_i (enc := encI) (T := 3) o hB; (exact rfl); (exact rfl); (omega); (exact rfl); (exact rfl); (omega); intro a3 c3 D3 hb3) | ((with_reducible show CallT _ _ _ _ _ _); first | ((refine call_pe (hha) ?_ ?_ ?_; (exact rfl); exact rfl))) | (apply ld_o; exact rfl) | (apply st_o; (exact rfl); exact rfl))
      all_goals exact ⟨(a3, c3, D3), ⟨rfl, hb3⟩, by show Ent W0 _ ((b, stP cap a3 (l ++ [o]).length c3) :: (D3 ++ Q)); rw [List.length_append]; exact (by refine sb_ent ?_; (repeat (first | exact sb_refl | exact sb_nil | refine sb_fr ?_ | refine sb_pu rfl ?_ | refine sb_cons ?_ | refine sb_app ?_)))⟩
end
end Go.Proofs.YtllddgdmmfmpkaaGreatDoor
