/- What the laws share, part 3. No condition. -/
import Derived.Lib.Join
import Derived.Test.YtiimndcifcoofaaGreatDoorY2
namespace Go.Proofs.YtiimndcifcoofaaGreatDoor
open Go Go.Lib
def wl : List UInt8 → List UInt8 → List (List UInt8)
  | cur, [] => if cur = [] then [] else [cur]
  | cur, c :: r => if c = 32 then (if cur = [] then wl [] r else cur :: wl [] r) else wl (cur ++ [c]) r
theorem wl_nil {cur : List UInt8} : wl cur [] = if cur = [] then [] else [cur] := rfl
theorem wl_cons {cur r : List UInt8} {c : UInt8} : wl cur (c :: r) = if c = 32 then (if cur = [] then wl [] r else cur :: wl [] r) else wl (cur ++ [c]) r := rfl
theorem ba_get (s : ByteArray) {i : Nat} {c : UInt8} (h : s.data.toList[i]? = some c) : s.get! i = c := by
  obtain ⟨hi, rfl⟩ := List.getElem?_eq_some_iff.1 h
  have hi' : i < s.data.size := by simpa using hi
  show s.data[i]! = _
  rw [getElem!_pos s.data i hi']
  simp
theorem ba_extract (s : ByteArray) (i j : Nat) : (s.extract i j).data.toList = (s.data.toList.drop i).take (j - i) := by
  rw [ByteArray.data_extract, Array.toList_extract]
theorem ba_ext {a b : ByteArray} (h : a.data.toList = b.data.toList) : a = b := by
  cases a; cases b
  simp only [ByteArray.mk.injEq]
  exact Array.toList_inj.1 h
theorem wsp_wl (s : ByteArray) : ∀ i, i ≤ s.size → ((wsp s i).2.map fun x => (s.extract x.1 x.2).data.toList) ++ wl ((s.data.toList.drop (wsp s i).1).take (i - (wsp s i).1)) (s.data.toList.drop i) = wl [] s.data.toList
  | 0, _ => by
    show [] ++ wl ((s.data.toList.drop 0).take (0 - 0)) _ = _
    simp
  | i + 1, h => by
    have ih := wsp_wl s i (by omega)
    have hlt : i < s.data.toList.length := by simpa using (by omega : i < s.size)
    obtain ⟨c, hc⟩ : ∃ c, s.data.toList[i]? = some c := ⟨_, List.getElem?_eq_getElem hlt⟩
    have hd : s.data.toList.drop i = c :: s.data.toList.drop (i + 1) := by
      rw [List.drop_eq_getElem_cons hlt]
      congr 1
      exact (List.getElem?_eq_some_iff.1 hc).2
    have hle := wsp_le s i
    have hg := ba_get s hc
    rw [hd] at ih
    by_cases h32 : c = 32
    · have hsp : spB s i = true := by unfold spB; rw [hg, h32]; rfl
      have e1 : wsp s (i + 1) = (i + 1, if i > (wsp s i).1 then (wsp s i).2 ++ [((wsp s i).1, i)] else (wsp s i).2) := by
        show (if i < s.size ∧ spB s i = false then wsp s i else _) = _
        rw [if_neg (by rw [hsp]; simp)]
      rw [e1]
      simp only [Nat.sub_self, List.take_zero]
      rw [wl_cons] at ih
      rw [if_pos h32] at ih
      by_cases hf : i > (wsp s i).1
      · rw [if_pos hf]
        have hne : (s.data.toList.drop (wsp s i).1).take (i - (wsp s i).1) ≠ [] := by
          intro e
          have := congrArg List.length e
          simp at this
          have hs : s.data.toList.length = s.size := by simp
          omega
        rw [if_neg hne] at ih
        rw [List.map_append, List.append_assoc, List.map_singleton, ba_extract]
        exact ih
      · rw [if_neg hf]
        have he : i - (wsp s i).1 = 0 := by omega
        rw [he, List.take_zero, if_pos rfl] at ih
        exact ih
    · have hsp : spB s i = false := by unfold spB; rw [hg, decide_eq_false_iff_not]; exact h32
      have e1 : wsp s (i + 1) = wsp s i := by
        show (if i < s.size ∧ spB s i = false then wsp s i else _) = _
        rw [if_pos ⟨by omega, hsp⟩]
      rw [e1]
      rw [wl_cons] at ih
      rw [if_neg h32] at ih
      have e2 : (s.data.toList.drop (wsp s i).1).take (i + 1 - (wsp s i).1) = (s.data.toList.drop (wsp s i).1).take (i - (wsp s i).1) ++ [c] := by
        have e3 : i + 1 - (wsp s i).1 = (i - (wsp s i).1) + 1 := by omega
        rw [e3, List.take_add_one]
        congr 1
        rw [List.getElem?_drop]
        have e4 : (wsp s i).1 + (i - (wsp s i).1) = i := by omega
        rw [e4, hc]
        rfl
      rw [e2]
      exact ih
theorem words_wl (s : ByteArray) : (wordsM s).map (fun x => x.data.toList) = wl [] s.data.toList := by
  have h := wsp_wl s s.size (Nat.le_refl _)
  have hle := wsp_le s s.size
  have hs : s.data.toList.length = s.size := by simp
  have hd : s.data.toList.drop s.size = [] := List.drop_eq_nil_of_le (by omega)
  rw [hd, wl_nil] at h
  have e : wsp s (s.size + 1) = (s.size + 1, if s.size > (wsp s s.size).1 then (wsp s s.size).2 ++ [((wsp s s.size).1, s.size)] else (wsp s s.size).2) := by
    show (if s.size < s.size ∧ _ then _ else _) = _
    rw [if_neg (fun h => absurd h.1 (Nat.lt_irrefl _))]
  have h2 : wordsM s = (if s.size > (wsp s s.size).1 then (wsp s s.size).2 ++ [((wsp s s.size).1, s.size)] else (wsp s s.size).2).map fun x => s.extract x.1 x.2 := by
    unfold wordsM
    rw [e]
  rw [← h, h2]
  clear h h2 e
  generalize (wsp s s.size).2 = acc
  generalize (wsp s s.size).1 = a at *
  have hlen : ((s.data.toList.drop a).take (s.size - a)).length = s.size - a := by
    rw [List.length_take, List.length_drop]
    omega
  by_cases hf : s.size > a
  · rw [if_pos hf, if_neg (fun e => by rw [e] at hlen; simp at hlen; omega), List.map_append, List.map_append, List.map_map]
    rw [List.map_singleton, List.map_singleton, ba_extract]
    rfl
  · rw [if_neg hf, if_pos (List.eq_nil_of_length_eq_zero (by omega)), List.append_nil, List.map_map]
    rfl
theorem wl_run : ∀ (w cur r : List UInt8), (∀ c ∈ w, c ≠ 32) → wl cur (w ++ r) = wl (cur ++ w) r
  | [], cur, r, _ => by simp
  | c :: w, cur, r, h => by
    rw [List.cons_append]
    show (if c = 32 then _ else wl (cur ++ [c]) (w ++ r)) = _
    rw [if_neg (h c List.mem_cons_self), wl_run w (cur ++ [c]) r fun x hx => h x (List.mem_cons_of_mem _ hx)]
    simp
theorem wl_word {w r : List UInt8} (hw : ∀ c ∈ w, c ≠ 32) (hne : w ≠ []) : wl [] (w ++ 32 :: r) = w :: wl [] r := by
  rw [wl_run w [] _ hw, List.nil_append]
  show (if (32 : UInt8) = 32 then (if w = [] then wl [] r else w :: wl [] r) else _) = _
  rw [if_pos rfl, if_neg hne]
theorem wl_last {w : List UInt8} (hw : ∀ c ∈ w, c ≠ 32) (hne : w ≠ []) : wl [] w = [w] := by
  have := wl_run w [] [] hw
  rw [List.append_nil, List.nil_append] at this
  rw [this, wl_nil, if_neg hne]
theorem wl_sp (r : List UInt8) : wl [] (32 :: r) = wl [] r := by
  show (if (32 : UInt8) = 32 then (if ([] : List UInt8) = [] then wl [] r else _) else _) = _
  rw [if_pos rfl, if_pos rfl]
theorem wl_end : ∀ (l cur : List UInt8), wl cur (l ++ [32]) = wl cur l
  | [], cur => by
    show (if (32 : UInt8) = 32 then (if cur = [] then wl [] [] else cur :: wl [] []) else _) = (if cur = [] then [] else [cur])
    rw [if_pos rfl]
    split <;> rfl
  | c :: r, cur => by
    rw [List.cons_append]
    show (if c = 32 then (if cur = [] then wl [] (r ++ [32]) else cur :: wl [] (r ++ [32])) else wl (cur ++ [c]) (r ++ [32])) = (if c = 32 then (if cur = [] then wl [] r else cur :: wl [] r) else wl (cur ++ [c]) r)
    rw [wl_end r [], wl_end r (cur ++ [c])]
theorem wl_join : ∀ ws : List (List UInt8), (∀ w ∈ ws, w ≠ [] ∧ ∀ c ∈ w, c ≠ 32) → wl [] (Go.Lib.join ws [32]) = ws
  | [], _ => rfl
  | [w], h => by
    have hw := h w List.mem_cons_self
    have : Go.Lib.join [w] [32] = w := by simp [Go.Lib.join, List.intercalate]
    rw [this]
    exact wl_last hw.2 hw.1
  | w :: w2 :: r, h => by
    have hw := h w List.mem_cons_self
    have ih := wl_join (w2 :: r) fun x hx => h x (List.mem_cons_of_mem _ hx)
    have : Go.Lib.join (w :: w2 :: r) [32] = w ++ 32 :: Go.Lib.join (w2 :: r) [32] := by simp [Go.Lib.join, List.intercalate, List.intersperse]
    rw [this, wl_word hw.2 hw.1, ih]
theorem dig_toNat {d : Nat} (h : d < 10) : (UInt8.ofNat (48 + d)).toNat = 48 + d := by
  rw [UInt8.toNat_ofNat']
  omega
theorem dec_head (u : Nat) : ∃ c r, decDigits u = c :: r ∧ 48 ≤ c.toNat ∧ c.toNat ≤ 57 := by
  induction u using Nat.strongRecOn with
  | _ u ih =>
    by_cases h : u < 10
    · rw [decDigits, dif_pos h]
      have hd := dig_toNat h
      exact ⟨_, [], rfl, by omega, by omega⟩
    · obtain ⟨c, r, h1, h2⟩ := ih (u / 10) (by omega)
      rw [decDigits, dif_neg h, h1]
      exact ⟨c, r ++ [UInt8.ofNat (48 + u % 10)], rfl, h2⟩
theorem dec_all (u : Nat) : ∀ c ∈ decDigits u, 48 ≤ c.toNat ∧ c.toNat ≤ 57 := by
  induction u using Nat.strongRecOn with
  | _ u ih =>
    by_cases h : u < 10
    · rw [decDigits, dif_pos h]
      intro c hc
      rw [List.mem_singleton.1 hc, dig_toNat h]
      omega
    · rw [decDigits, dif_neg h]
      intro c hc
      rcases List.mem_append.1 hc with hc | hc
      · exact ih (u / 10) (by omega) c hc
      · rw [List.mem_singleton.1 hc, dig_toNat (by omega)]
        omega
theorem itoa_sp {n : Int} : ∀ c ∈ itoa n, c ≠ 32 := by
  have key : ∀ c : UInt8, 48 ≤ c.toNat ∧ c.toNat ≤ 57 → c ≠ 32 := fun c h e => by
    rw [e] at h
    revert h
    decide
  intro c hc
  unfold itoa at hc
  split at hc
  · rcases List.mem_cons.1 hc with rfl | hc
    · decide
    · exact key c (dec_all _ c hc)
  · exact key c (dec_all _ c hc)
theorem itoa_ne {n : Int} : itoa n ≠ [] := by
  unfold itoa
  split
  · simp
  · obtain ⟨c, r, hc, _⟩ := dec_head n.toNat
    rw [hc]
    simp
end Go.Proofs.YtiimndcifcoofaaGreatDoor
