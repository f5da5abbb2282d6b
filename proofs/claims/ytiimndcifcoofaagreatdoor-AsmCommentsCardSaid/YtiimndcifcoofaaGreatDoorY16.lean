/- What the laws share, part 16. No condition. -/
import Derived.Lib.SlicesCompact
import Derived.Test.YtiimndcifcoofaaGreatDoorY15
namespace Go.Proofs.YtiimndcifcoofaaGreatDoor
open Go
set_option maxRecDepth 10000
set_option maxHeartbeats 4000000
abbrev encI (n : Int) : List Value := [.int .i64 n]
def srt (l : List Int) : List Int := l.mergeSort fun x y => decide (x ≤ y)
theorem srt_len (l : List Int) : (srt l).length = l.length := List.length_mergeSort l
theorem srt_mem {l : List Int} {x : Int} : x ∈ srt l ↔ x ∈ l := List.mem_mergeSort
theorem srt_sorted (l : List Int) : (srt l).Pairwise (· ≤ ·) := by
  have := List.pairwise_mergeSort (le := fun (x y : Int) => decide (x ≤ y)) (fun a b c h1 h2 => by simp only [decide_eq_true_eq] at *; omega) (fun a b => by simp only [Bool.or_eq_true, decide_eq_true_eq]; omega) l
  exact this.imp (fun h => by simpa using h)
def cmp (l : List Int) : List Int := Go.Lib.compact l
theorem cmp_upto {d : Array Int} (hs : d.toList.Pairwise (· ≤ ·)) : ∀ m, m ≤ d.size → (Go.Lib.compactUpTo d m).Pairwise (· < ·) ∧ (∀ x, x ∈ Go.Lib.compactUpTo d m ↔ ∃ j, j < m ∧ d[j]! = x) ∧ (Go.Lib.compactUpTo d m).length ≤ m
  | 0, _ => by simp [Go.Lib.compactUpTo]
  | m + 1, hm => by
    obtain ⟨h1, h2, h3⟩ := cmp_upto hs m (by omega)
    have hle : ∀ i j, i ≤ j → j < d.size → d[i]! ≤ d[j]! := fun i j hij hj => by
      by_cases he : i = j
      · subst he; exact Int.le_refl _
      · rw [getElem!_pos d i (by omega), getElem!_pos d j hj]
        have := List.pairwise_iff_getElem.1 hs i j (by simpa using (by omega : i < d.size)) (by simpa using hj) (by omega)
        simpa using this
    rw [Go.Lib.compactUpTo_succ]
    by_cases hk : Go.Lib.keeps d m = true
    · rw [if_pos hk]
      have hne : m = 0 ∨ d[m]! ≠ d[m - 1]! := by
        by_cases h0 : m = 0
        · exact .inl h0
        · right
          intro he
          rw [Go.Lib.keeps_neg (by omega) he] at hk
          cases hk
      refine ⟨?_, ?_, by simp; omega⟩
      · rw [List.pairwise_append]
        refine ⟨h1, List.pairwise_singleton _ _, fun a ha b hb => ?_⟩
        rw [List.mem_singleton] at hb
        subst hb
        obtain ⟨j, hj, rfl⟩ := (h2 a).1 ha
        rcases hne with h0 | hne
        · omega
        · have e1 := hle j (m - 1) (by omega) (by omega)
          have e2 := hle (m - 1) m (by omega) (by omega)
          omega
      · intro x
        rw [List.mem_append, h2, List.mem_singleton]
        constructor
        · rintro (⟨j, hj, rfl⟩ | rfl)
          · exact ⟨j, by omega, rfl⟩
          · exact ⟨m, by omega, rfl⟩
        · rintro ⟨j, hj, rfl⟩
          by_cases hjm : j = m
          · subst hjm; exact .inr rfl
          · exact .inl ⟨j, by omega, rfl⟩
    · rw [if_neg hk, List.append_nil]
      refine ⟨h1, fun x => ?_, by omega⟩
      rw [h2]
      have he : 0 < m ∧ d[m]! = d[m - 1]! := by
        by_cases h0 : m = 0
        · subst h0; exact absurd (Go.Lib.keeps_lt_one d 0 (by omega)) hk
        · refine ⟨by omega, ?_⟩
          by_cases h : d[m]! = d[m - 1]!
          · exact h
          · exact absurd (Go.Lib.keeps_pos h) hk
      constructor
      · rintro ⟨j, hj, rfl⟩; exact ⟨j, by omega, rfl⟩
      · rintro ⟨j, hj, rfl⟩
        by_cases hjm : j = m
        · subst hjm; exact ⟨j - 1, by omega, he.2.symm⟩
        · exact ⟨j, by omega, rfl⟩
theorem cmp_spec {l : List Int} (hs : l.Pairwise (· ≤ ·)) : (cmp l).Pairwise (· < ·) ∧ (∀ x, x ∈ cmp l ↔ x ∈ l) ∧ (cmp l).length ≤ l.length := by
  obtain ⟨h1, h2, h3⟩ := cmp_upto (d := l.toArray) (by simpa using hs) l.length (by simp)
  refine ⟨h1, fun x => (h2 x).trans ?_, h3⟩
  rw [List.mem_iff_getElem]
  constructor
  · rintro ⟨j, hj, rfl⟩; exact ⟨j, hj, by rw [getElem!_pos _ j (by simpa using hj)]; simp⟩
  · rintro ⟨j, hj, rfl⟩; exact ⟨j, hj, by rw [getElem!_pos _ j (by simpa using hj)]; simp⟩
theorem ssort_ext : ∀ l m : List Int, l.Pairwise (· < ·) → m.Pairwise (· < ·) → (∀ x, x ∈ l ↔ x ∈ m) → l = m
  | [], [], _, _, _ => rfl
  | [], y :: m, _, _, h => absurd ((h y).2 List.mem_cons_self) (by simp)
  | x :: l, [], _, _, h => absurd ((h x).1 List.mem_cons_self) (by simp)
  | x :: l, y :: m, hl, hm, h => by
    rw [List.pairwise_cons] at hl hm
    have hxy : x = y := by
      rcases List.mem_cons.1 ((h x).1 List.mem_cons_self) with e | e
      · exact e
      · rcases List.mem_cons.1 ((h y).2 List.mem_cons_self) with f | f
        · exact f.symm
        · have := hm.1 x e; have := hl.1 y f; omega
    subst hxy
    rw [ssort_ext l m hl.2 hm.2 fun z => ⟨fun hz => by
      rcases List.mem_cons.1 ((h z).1 (List.mem_cons_of_mem _ hz)) with e | e
      · have := hl.1 z hz; omega
      · exact e, fun hz => by
      rcases List.mem_cons.1 ((h z).2 (List.mem_cons_of_mem _ hz)) with e | e
      · have := hm.1 z hz; omega
      · exact e⟩]
def two (a b : Int) : List Int := if a = b then [a] else [min a b, max a b]
theorem cs_one (a : Int) : cmp (srt [a]) = [a] := by
  have h := cmp_spec (srt_sorted [a])
  exact ssort_ext _ _ h.1 (by simp) fun x => (h.2.1 x).trans srt_mem
theorem flat1 : ∀ l : List Int, (l.map encI).flatten = l.map (Value.int .i64)
  | [] => rfl
  | x :: l => by simp [flat1 l]
theorem St.put_row {W0 : World} {own : Own} {w : World} {b : Nat} {T : TypeId} {C : Own → Own} {l l' : List Int} {rest : List Value} {n : Nat} {os : Array Obj} (s : St W0 own w) (hat : At [(b, fun o => o = Obj.cells ((l.map encI).flatten ++ rest).toArray T)] own C) (hl : l'.length = l.length) :
    St W0 (C [(b, fun o => o = Obj.cells ((l'.map encI).flatten ++ rest).toArray T)]) (Go.Sort.grow (Go.Sort.putRow (Value.int .i64) (Go.Sort.ahead w n) b 0 l'.toArray) os) := by
  have hu := hat.up (fun o => o = Obj.cells ((l'.map encI).flatten ++ rest).toArray T)
  have hb := s.mem_size hu.mem
  refine s.up hu rfl rfl rfl ?_ ?_ ?_
  · simp [Go.Sort.grow, Go.Sort.putRow, Go.Sort.mapBlock, Go.Sort.ahead]
  · intro k hk hne
    simp only [Go.Sort.grow, Go.Sort.putRow, Go.Sort.mapBlock, Go.Sort.ahead]
    rw [Array.getElem?_append_left (by simpa using hk), Array.getElem?_modify, if_neg (fun e => hne e.symm)]
  · obtain ⟨o, ho, hp⟩ := s.owns _ hu.mem
    refine ⟨_, ?_, rfl⟩
    simp only [Go.Sort.grow, Go.Sort.putRow, Go.Sort.mapBlock, Go.Sort.ahead]
    rw [Array.getElem?_append_left (by simpa using hb), Array.getElem?_modify, if_pos rfl]
    have hp' : o = Obj.cells ((l.map encI).flatten ++ rest).toArray T := hp
    have ho' : w.heap[b]? = some o := ho
    rw [ho', hp']
    simp only [Option.map_some, Go.Sort.onCells, Go.Sort.putCells, flat1]
    congr 2
    apply Array.ext'
    rw [Array.toList_mapIdx]
    refine List.ext_getElem (by simp [hl]) fun k h1 h2 => ?_
    simp only [List.getElem_mapIdx]
    by_cases hk : k < l'.length
    · rw [if_pos ⟨by omega, by simpa using hk⟩, List.getElem_append_left (by simpa using hk), getElem!_pos _ _ (by simpa using hk)]
      simp
    · rw [if_neg (by simp; omega), List.getElem_append_right (by simp; omega), List.getElem_append_right (by simp; omega)]
      simp [hl]
section
variable {W0 : World} {own : Own}
theorem hold_own {w : World} {b : Nat} {l : List Int} {rest : List Value} {T : TypeId} (s : St W0 own w) (hm : (b, fun o => o = Obj.cells ((l.map encI).flatten ++ rest).toArray T) ∈ own) : Go.Sort.Holds (Value.int .i64) w b 0 l.toArray := fun j hj => by
  have hj' : j < l.length := by simpa using hj
  refine ⟨?_, ?_⟩
  · rw [getElem!_pos _ j hj]
    refine kn_cell hm ?_ w s
    rw [Nat.zero_add, flat1, List.toList_toArray, List.getElem?_append_left (by simpa using hj')]
    simp [hj']
  · obtain ⟨o, ho, hp⟩ := s.owns _ hm
    have hp' : o = Obj.cells ((l.map encI).flatten ++ rest).toArray T := hp
    have ho' : w.heap[b]? = some o := ho
    simp [World.frozen?, ho', hp']
theorem sp_sort {a : Option Addr} {l : List Int} {cap : Nat} {D : Own} {C : Own → Own} (hB : BufE encI 3 1 a cap l D) (hat : At D own C) (hl : l.length < 4611686018427387904) :
    Spec Tryz.prog W0 45 [.slice a l.length cap] own fun v own' => ∃ D' : Own, (v = .tuple #[] ∧ BufE encI 3 1 a cap (srt l) D') ∧ Ent W0 own' (C D') := by
  intro w hs
  rcases hB.how with ⟨rfl, rfl, rfl⟩ | ⟨b, rest, rfl, rfl, hlen, hle⟩
  · refine (shelf_sort_none a 0 w).mono ?_
    rintro e w' ⟨rfl, rfl⟩
    exact ⟨_, own, rfl, hs, [], ⟨rfl, by rw [show srt [] = [] from List.mergeSort_nil]; exact BufE.nil⟩, by rw [hat.same]; exact Ent.refl⟩
  · have hm := (hat.up (fun _ => True)).mem
    refine (shelf_sort b 0 cap l w (hold_own hs hm) (hs.mem_size hm) hl).mono ?_
    rintro e w' ⟨rfl, n, os, rfl⟩
    exact ⟨_, _, rfl, hs.put_row hat (srt_len l), _, ⟨rfl, fun _ _ => rfl, .inr ⟨b, rest, rfl, rfl, by rw [srt_len]; exact hlen, by rw [srt_len]; exact hle⟩⟩, Ent.refl⟩
theorem sp_compact {a : Option Addr} {l : List Int} {cap : Nat} {D : Own} {C : Own → Own} (hB : BufE encI 3 1 a cap l D) (hat : At D own C) (hl : l.length ≤ 9223372036854775807) (hs2 : l.Pairwise (· ≤ ·)) :
    Spec Tryz.prog W0 46 [.slice a l.length cap] own fun v own' => ∃ D' : Own, (v = .slice a (cmp l).length cap ∧ BufE encI 3 1 a cap (cmp l) D') ∧ Ent W0 own' (C D') := by
  cases l with
  | nil =>
    refine spec_of mixed low_slices_Compact_int (by simp [ir_slices_Compact_int]) ?_
    repeat' ((try (conv => whnf)); first | (refine when_ye ?_ ?_; exact rfl) | (refine when_ne ?_ ?_; exact rfl) | (refine br_te ?_ ?_; exact rfl) | (refine br_fe ?_ ?_; exact rfl) | (apply br_pyE; (exact rfl); omega) | (apply br_pnE; (exact rfl); omega) | (apply when_pyE; (exact rfl); omega) | (apply when_pnE; (exact rfl); omega) | (apply br_npyE; (exact rfl); omega) | (apply br_npnE; (exact rfl); omega) | (apply when_npyE; (exact rfl); omega) | (apply when_npnE; (exact rfl); omega) | (apply br_pyE; (exact rfl); (solve | simp | (simp; omega))) | (apply br_pnE; (exact rfl); (solve | simp | (simp; omega))) | (apply when_pyE; (exact rfl); (solve | simp | (simp; omega))) | (apply when_pnE; (exact rfl); (solve | simp | (simp; omega))) | (apply br_npyE; (exact rfl); (solve | simp | (simp; omega))) | (apply br_npnE; (exact rfl); (solve | simp | (simp; omega))) | (apply when_npyE; (exact rfl); (solve | simp | (simp; omega))) | (apply when_npnE; (exact rfl); (solve | simp | (simp; omega))) | (refine ari ?_ ?_; omega) | (refine aru ?_ ?_; omega) | (apply sel; exact rfl) | (refine ix0 rfl ?_) | (refine ix1 rfl ?_) | (refine ix2 rfl ?_) | (refine ix3 rfl ?_) | (apply ixj; omega) | (refine ixn ?_ ?_; omega) | (refine ixs0 rfl ?_) | (refine ixs1 rfl ?_) | (refine ixs_j ?_ ?_; omega) | (refine ixs_n ?_ ?_; omega) | (apply ld_o; exact rfl) | (apply ldN_a; exact rfl) | (apply ldN_o; (exact rfl); exact rfl) | (apply st_o; (exact rfl); exact rfl) | (apply stN_o; (exact rfl); (exact rfl); exact rfl) | (refine new_i (fun bk hbk => ?_)) | (apply when_dE; (exact rfl); (exact rfl); all_goals intro hc) | (apply when_dF; (exact rfl); (exact rfl); all_goals intro hc) | (apply when_nE; (exact rfl); (exact rfl); all_goals intro hc) | (apply when_nF; (exact rfl); (exact rfl); all_goals intro hc) | (apply br_dE; (exact rfl); all_goals intro hc) | (apply br_nE; (exact rfl); all_goals intro hc) | (refine mm_min ?_) | (refine mm_max ?_) | (refine rem_i ?_ ?_; omega) | (refine SelN.mk ?_) | (refine cut_n ?_) | (refine Both.mk ?_ ?_) | (exact True.intro))
    exact ⟨D, ⟨rfl, hB⟩, by rw [hat.same]; exact Ent.refl⟩
  | cons x r =>
    intro w hs
    have hcl := (cmp_spec hs2).2.2
    rcases hB.how with ⟨h, _, _⟩ | ⟨b, rest, rfl, rfl, hlen, hle⟩
    · cases h
    · generalize x :: r = l at *
      have hm := (hat.up (fun _ => True)).mem
      refine (shelf_compact b 0 cap l w (hold_own hs hm) hl hle).mono ?_
      rintro e w' ⟨rfl, q, rfl⟩
      have hst := hs.put_row (n := q) (os := #[]) (l' := cmp l ++ List.replicate (l.length - (cmp l).length) 0) hat (by simp; omega)
      rw [Go.Sort.grow_empty] at hst
      refine ⟨_, _, rfl, hst, _, ⟨rfl, fun _ _ => rfl, .inr ⟨b, ((List.replicate (l.length - (cmp l).length) 0).map encI).flatten ++ rest, rfl, rfl, ?_, by omega⟩⟩, ?_⟩
      · simp only [flat1, List.length_append, List.length_map, List.length_replicate]; omega
      · rw [List.map_append, List.flatten_append, List.append_assoc]; exact Ent.refl
end
end Go.Proofs.YtiimndcifcoofaaGreatDoor
