/- What the laws share, part 29. No condition. -/
import Derived.Lib.SplitLaws
import Derived.Lib.Split
import Derived.Lib.TrimByte
import Derived.Lib.IndexLaws
import Derived.Lib.IndexBytes
import Derived.Lib.Strings
import Derived.Test.YtiimndcifcoofaaGreatDoorY28
namespace Go.Proofs.YtiimndcifcoofaaGreatDoor
open Go Go.RowKit
set_option maxRecDepth 10000
set_option maxHeartbeats 4000000
def letB (c : UInt8) : Bool := decide (97 ≤ (c.toNat : Int) ∧ (c.toNat : Int) ≤ 122)
def digB (c : UInt8) : Bool := decide (48 ≤ (c.toNat : Int) ∧ (c.toNat : Int) ≤ 57)
def okB (c : UInt8) : Bool := letB c || digB c || decide ((c.toNat : Int) = 95)
def nameB (s : ByteArray) : Bool := match s.data.toList with
  | [] => false
  | c :: r => decide ((s.size : Int) ≤ 20) && letB c && (c :: r).all okB
theorem okB_ne {c : UInt8} (h : okB c = true) : c ≠ 32 ∧ c ≠ 10 ∧ c ≠ 35 ∧ c ≠ 58 := by
  refine ⟨?_, ?_, ?_, ?_⟩ <;> (rintro rfl; revert h; decide)
theorem name_ok {s : ByteArray} (h : nameB s = true) : s.data.toList ≠ [] ∧ s.size ≤ 20 ∧ ∀ c ∈ s.data.toList, okB c = true := by
  unfold nameB at h
  split at h
  · cases h
  · rename_i c r e
    simp only [Bool.and_eq_true, decide_eq_true_eq] at h
    rw [e]
    exact ⟨by simp, by omega, List.all_eq_true.1 h.2⟩
theorem reg_form {s : ByteArray} (h : (regM s).2 = true) : ∃ k : Nat, k < 8 ∧ s = bW [114, UInt8.ofNat (48 + k)] ∧ (regM s).1 = k := by
  unfold regM at h ⊢
  split at h
  · rename_i c d e
    split at h
    · rename_i hc
      obtain ⟨h1, h2, h3⟩ := hc
      refine ⟨d.toNat - 48, by omega, ba_ext ?_, ?_⟩
      · rw [e]
        have e1 : c = 114 := UInt8.toNat.inj (by show c.toNat = 114; omega)
        have e2 : d = UInt8.ofNat (48 + (d.toNat - 48)) := by
          apply UInt8.toNat.inj
          rw [UInt8.toNat_ofNat']
          have := d.toNat_lt
          omega
        rw [← e2, e1]
        simp [bW]
      · rw [if_pos ⟨h1, h2, h3⟩]
        show (d.toNat : Int) - 48 = _
        omega
    · cases h
  · cases h
abbrev jumpW : ByteArray := ⟨#[106, 117, 109, 112]⟩
abbrev zeroW : ByteArray := ⟨#[122, 101, 114, 111]⟩
abbrev nonzW : ByteArray := ⟨#[110, 111, 110, 122, 101, 114, 111]⟩
def jmpM : List ByteArray → Option (Ins × ByteArray)
  | [w0, n] => if w0.toList = jumpW.toList ∧ nameB n = true then some (⟨4, 0, 0, 0, 0⟩, n) else none
  | [w0, r, n] => if (w0.toList = zeroW.toList ∨ w0.toList = nonzW.toList) ∧ (regM r).2 = true ∧ nameB n = true then some (⟨if w0.toList = nonzW.toList then 6 else 5, (regM r).1, 0, 0, 0⟩, n) else none
  | _ => none
theorem ba_toList {a b : ByteArray} (h : a.toList = b.toList) : a = b := by
  rw [ByteArray.toList_eq, ByteArray.toList_eq] at h
  exact ba_ext h
def insT (x : Ins × Int) : List Int := [x.1.op, x.1.a, x.1.b, x.1.c, x.1.imm, x.2]
theorem insT_inj {x y : Ins × Int} (h : insT x = insT y) : x = y := by
  obtain ⟨⟨a, b, c, d, e⟩, f⟩ := x
  obtain ⟨⟨a', b', c', d', e'⟩, f'⟩ := y
  simp only [insT, List.cons.injEq, and_true] at h
  obtain ⟨rfl, rfl, rfl, rfl, rfl, rfl⟩ := h
  rfl
def joinW (ws : List ByteArray) : ByteArray := bW (Go.Lib.join (ws.map (fun x => x.data.toList)) [32])
theorem jmp_p2 : insT (parseM (joinW [jumpW, ⟨#[48]⟩])) = [4, 0, 0, 0, 0, 0] := by decide +kernel
theorem jmp_p3 : ∀ k : Nat, k < 8 → insT (parseM (joinW [zeroW, bW [114, UInt8.ofNat (48 + k)], ⟨#[48]⟩])) = [5, (k : Int), 0, 0, 0, 0] ∧ insT (parseM (joinW [nonzW, bW [114, UInt8.ofNat (48 + k)], ⟨#[48]⟩])) = [6, (k : Int), 0, 0, 0, 0] := by decide +kernel
theorem jmp_parse {ws : List ByteArray} {i : Ins} {n : ByteArray} (h : jmpM ws = some (i, n)) : ws.getLast? = some n ∧ nameB n = true ∧ parseM (joinW (ws.dropLast ++ [⟨#[48]⟩])) = (i, 0) := by
  match ws, h with
  | [w0, m], h =>
    simp only [jmpM] at h
    split at h
    · rename_i hc
      simp only [Option.some.injEq, Prod.mk.injEq] at h
      obtain ⟨rfl, rfl⟩ := h
      have := ba_toList hc.1
      subst this
      exact ⟨rfl, hc.2, insT_inj jmp_p2⟩
    · cases h
  | [w0, r, m], h =>
    simp only [jmpM] at h
    split at h
    · rename_i hc
      simp only [Option.some.injEq, Prod.mk.injEq] at h
      obtain ⟨rfl, rfl⟩ := h
      obtain ⟨hw, hr, hn⟩ := hc
      obtain ⟨k, hk, rfl, hk1⟩ := reg_form hr
      refine ⟨rfl, hn, ?_⟩
      rw [hk1]
      rcases hw with hw | hw
      · have := ba_toList hw
        subst this
        rw [if_neg (by decide +kernel)]
        exact insT_inj (jmp_p3 k hk).1
      · have := ba_toList hw
        subst this
        rw [if_pos rfl]
        exact insT_inj (jmp_p3 k hk).2
    · cases h
theorem wl_sps (r : List UInt8) : ∀ n : Nat, wl [] (List.replicate n 32 ++ r) = wl [] r
  | 0 => rfl
  | n + 1 => by rw [List.replicate_succ, List.cons_append, wl_sp]; exact wl_sps r n
theorem wl_ends : ∀ (n : Nat) (l : List UInt8), wl [] (l ++ List.replicate n 32) = wl [] l
  | 0, l => by simp
  | n + 1, l => by
    rw [List.replicate_succ', ← List.append_assoc, wl_end, wl_ends n l]
theorem drop_rep (l : List UInt8) : ∃ n, l = List.replicate n 32 ++ l.dropWhile (· == 32) := by
  induction l with
  | nil => exact ⟨0, rfl⟩
  | cons c r ih =>
    by_cases h : c = 32
    · obtain ⟨n, hn⟩ := ih
      refine ⟨n + 1, ?_⟩
      rw [List.dropWhile_cons_of_pos (by simp [h]), List.replicate_succ, List.cons_append, ← hn, h]
    · exact ⟨0, by rw [List.dropWhile_cons_of_neg (by simp [h])]; rfl⟩
theorem trimR_rep (l : List UInt8) : ∃ n, l = Go.Lib.trimRightB l 32 ++ List.replicate n 32 := by
  obtain ⟨n, hn⟩ := drop_rep l.reverse
  refine ⟨n, ?_⟩
  have := congrArg List.reverse hn
  rw [List.reverse_reverse, List.reverse_append, List.reverse_replicate] at this
  exact this
theorem wl_trim (l : List UInt8) : wl [] (Go.Lib.trimB l 32) = wl [] l := by
  obtain ⟨n, hn⟩ := trimR_rep l
  obtain ⟨m, hm⟩ := drop_rep (Go.Lib.trimRightB l 32)
  have e1 : wl [] (Go.Lib.trimRightB l 32) = wl [] l := by
    conv => rhs; rw [hn]
    rw [wl_ends]
  rw [← e1]
  conv => rhs; rw [hm]
  rw [wl_sps]
  rfl
theorem wl_none : ∀ (l cur : List UInt8), cur ≠ [] → wl cur l ≠ []
  | [], cur, hc => by rw [wl_nil, if_neg hc]; simp
  | e :: l, cur, hc => by
    rw [wl_cons, if_neg hc]
    split
    · simp
    · exact wl_none l _ (by simp)
theorem wl_one : ∀ (l cur w : List UInt8), wl cur l = [w] → (∃ n : Nat, cur ≠ [] ∧ cur ++ l = w ++ List.replicate n 32 ∧ ∃ u, w = cur ++ u ∧ ∀ c ∈ u, c ≠ 32) ∨ (cur = [] ∧ ∃ a b : Nat, l = List.replicate a 32 ++ w ++ List.replicate b 32 ∧ w ≠ [] ∧ ∀ c ∈ w, c ≠ 32)
  | [], cur, w, h => by
    rw [wl_nil] at h
    split at h
    · cases h
    · rename_i hne
      simp only [List.cons.injEq, and_true] at h
      exact .inl ⟨0, hne, by simp [h], [], by simp [h], by simp⟩
  | c :: r, cur, w, h => by
    rw [wl_cons] at h
    by_cases hc : c = 32
    · rw [if_pos hc] at h
      by_cases hcur : cur = []
      · rw [if_pos hcur] at h
        rcases wl_one r [] w h with ⟨_, h1, _⟩ | ⟨_, a, b, h2, h3⟩
        · exact absurd rfl h1
        · exact .inr ⟨hcur, a + 1, b, by rw [h2, hc]; simp [List.replicate_succ], h3⟩
      · rw [if_neg hcur] at h
        simp only [List.cons.injEq] at h
        obtain ⟨rfl, h⟩ := h
        refine .inl ?_
        have : ∃ n : Nat, r = List.replicate n 32 := by
          clear hcur
          induction r with
          | nil => exact ⟨0, rfl⟩
          | cons d r ih =>
            rw [wl_cons] at h
            by_cases hd : d = 32
            · rw [if_pos hd, if_pos rfl] at h
              obtain ⟨n, hn⟩ := ih h
              exact ⟨n + 1, by rw [hd, List.replicate_succ, ← hn]⟩
            · rw [if_neg hd] at h
              exact absurd h (wl_none r ([] ++ [d]) (by simp))
        obtain ⟨n, hn⟩ := this
        exact ⟨n + 1, hcur, by rw [hn, hc, List.replicate_succ], [], by simp, by simp⟩
    · rw [if_neg hc] at h
      rcases wl_one r (cur ++ [c]) w h with ⟨n, _, h2, u, h3, h4⟩ | ⟨h1, _⟩
      · by_cases hcur : cur = []
        · subst hcur
          refine .inr ⟨rfl, 0, n, by simpa using h2, by rw [h3]; simp, ?_⟩
          rw [h3]
          intro x hx
          rcases List.mem_append.1 hx with hx | hx
          · simp at hx; rw [hx]; exact hc
          · exact h4 x hx
        · refine .inl ⟨n, hcur, by simpa using h2, c :: u, by rw [h3]; simp, ?_⟩
          intro x hx
          rcases List.mem_cons.1 hx with rfl | hx
          · exact hc
          · exact h4 x hx
      · simp at h1
theorem trim_word {a b : Nat} {w : List UInt8} (hne : w ≠ []) (hw : ∀ c ∈ w, c ≠ 32) : Go.Lib.trimB (List.replicate a 32 ++ w ++ List.replicate b 32) 32 = w := by
  have dw : ∀ (n : Nat) (x : List UInt8), x ≠ [] → (∀ c ∈ x, c ≠ 32) → (List.replicate n 32 ++ x).dropWhile (· == (32 : UInt8)) = x := by
    intro n x hx hc
    induction n with
    | zero =>
      cases x with
      | nil => exact absurd rfl hx
      | cons y x => simp [hc y List.mem_cons_self]
    | succ n ih => simp only [List.replicate_succ, List.cons_append]; rw [List.dropWhile_cons_of_pos (by simp)]; exact ih
  have e1 : Go.Lib.trimRightB (List.replicate a 32 ++ w ++ List.replicate b 32) 32 = List.replicate a 32 ++ w := by
    unfold Go.Lib.trimRightB
    rw [List.reverse_append, List.reverse_replicate, List.reverse_append]
    have hr : ∀ c ∈ w.reverse, c ≠ 32 := fun c hc => hw c (List.mem_reverse.1 hc)
    cases hwr : w.reverse with
    | nil => exact absurd (List.reverse_eq_nil_iff.1 hwr) hne
    | cons y x =>
      rw [hwr] at hr
      have : (List.replicate b 32 ++ (y :: x ++ (List.replicate a 32).reverse)).dropWhile (· == (32 : UInt8)) = y :: x ++ (List.replicate a 32).reverse := by
        clear hwr
        induction b with
        | zero => simp [hr y List.mem_cons_self]
        | succ n ih => simp only [List.replicate_succ, List.cons_append]; rw [List.dropWhile_cons_of_pos (by simp)]; exact ih
      rw [this, List.reverse_append, List.reverse_reverse, ← hwr, List.reverse_reverse]
  unfold Go.Lib.trimB
  rw [e1]
  exact dw a w hne hw
def lblM : List ByteArray → Option ByteArray
  | [w] => if w.data.toList.getLast? = some 58 ∧ nameB (bW w.data.toList.dropLast) = true then some (bW w.data.toList.dropLast) else none
  | _ => none
def lblP (b : List UInt8) : Option ByteArray := if b.getLast? = some 58 ∧ nameB (bW b.dropLast) = true then some (bW b.dropLast) else none
theorem bW_data (l : List UInt8) : (bW l).data.toList = l := by simp [bW]
theorem bW_self (s : ByteArray) : bW s.data.toList = s := ba_ext (bW_data _)
theorem lbl_eq (l : List UInt8) : lblP (Go.Lib.trimB l 32) = lblM (wordsM (bW l)) := by
  have hw : (wordsM (bW l)).map (fun x => x.data.toList) = wl [] l := by rw [words_wl, bW_data]
  by_cases h : (Go.Lib.trimB l 32).getLast? = some 58 ∧ nameB (bW (Go.Lib.trimB l 32).dropLast) = true
  · have h1 : lblP (Go.Lib.trimB l 32) = some (bW (Go.Lib.trimB l 32).dropLast) := by unfold lblP; rw [if_pos h]
    obtain ⟨n1, _, n3⟩ := name_ok h.2
    rw [bW_data] at n1 n3
    have hb : Go.Lib.trimB l 32 = (Go.Lib.trimB l 32).dropLast ++ [58] := by
      obtain ⟨ys, e⟩ := List.getLast?_eq_some_iff.1 h.1
      rw [e]; simp
    have hns : ∀ c ∈ Go.Lib.trimB l 32, c ≠ 32 := by
      intro c hc
      rw [hb] at hc
      rcases List.mem_append.1 hc with hc | hc
      · exact (okB_ne (n3 c hc)).1
      · simp at hc; rw [hc]; decide
    have hne : Go.Lib.trimB l 32 ≠ [] := by rw [hb]; simp
    have hwl : wl [] l = [Go.Lib.trimB l 32] := by rw [← wl_trim]; exact wl_last hns hne
    rw [hwl] at hw
    have : wordsM (bW l) = [bW (Go.Lib.trimB l 32)] := by
      rcases hq : wordsM (bW l) with _ | ⟨x, _ | ⟨y, t⟩⟩ <;> rw [hq] at hw
      · simp at hw
      · simp only [List.map_cons, List.map_nil, List.cons.injEq, and_true] at hw
        rw [← hw, bW_self]
      · simp at hw
    rw [this, h1]
    unfold lblM
    simp only [bW_data]
    rw [if_pos h]
  · have h1 : lblP (Go.Lib.trimB l 32) = none := by unfold lblP; rw [if_neg h]
    rw [h1]
    rcases hq : wordsM (bW l) with _ | ⟨x, _ | ⟨y, t⟩⟩ <;> rw [hq] at hw
    · rfl
    · have hn : ¬ (x.data.toList.getLast? = some 58 ∧ nameB (bW x.data.toList.dropLast) = true) := by
        rintro ⟨h2, h3⟩
        apply h
        have hwl : wl [] l = [x.data.toList] := by rw [← hw]; rfl
        rcases wl_one l [] _ hwl with ⟨_, h4, _⟩ | ⟨_, a, b, h5, h6, h7⟩
        · exact absurd rfl h4
        · have : Go.Lib.trimB l 32 = x.data.toList := by
            conv => lhs; rw [h5]
            exact trim_word h6 h7
          rw [this]
          exact ⟨h2, h3⟩
      unfold lblM
      simp only
      rw [if_neg hn]
    · rfl
theorem trim_nil (l : List UInt8) : Go.Lib.trimB l 32 = [] ↔ wordsM (bW l) = [] := by
  have hw : (wordsM (bW l)).map (fun x => x.data.toList) = wl [] l := by rw [words_wl, bW_data]
  constructor
  · intro h
    have : wl [] l = [] := by rw [← wl_trim, h]; rfl
    rw [this] at hw
    exact List.map_eq_nil_iff.1 hw
  · intro h
    rw [h] at hw
    have h2 : wl [] l = [] := hw.symm
    rw [← wl_trim] at h2
    cases hq : Go.Lib.trimB l 32 with
    | nil => rfl
    | cons c r =>
      exfalso
      rw [hq, wl_cons] at h2
      split at h2
      · rename_i hc
        have hd : (Go.Lib.trimRightB l 32).dropWhile (· == 32) = c :: r := hq
        have := List.head?_dropWhile_not (· == (32 : UInt8)) (Go.Lib.trimRightB l 32)
        rw [hd] at this
        simp [hc] at this
      · exact wl_none r ([] ++ [c]) (by simp) h2
theorem words_trim (l : List UInt8) : wordsM (bW (Go.Lib.trimB l 32)) = wordsM (bW l) := by
  have h1 : (wordsM (bW (Go.Lib.trimB l 32))).map (fun x => x.data.toList) = (wordsM (bW l)).map (fun x => x.data.toList) := by rw [words_wl, words_wl, bW_data, bW_data, wl_trim]
  have h2 := congrArg (List.map bW) h1
  have e : (bW ∘ fun x : ByteArray => x.data.toList) = id := by funext x; exact bW_self x
  rw [List.map_map, List.map_map, e, List.map_id, List.map_id] at h2
  exact h2
def cutL (l : List UInt8) : List UInt8 := l.takeWhile (· != 35)
theorem cut_eq : ∀ l : List UInt8, (Go.Lib.cut l [35]).1 = cutL l
  | [] => rfl
  | c :: r => by
    have ih := cut_eq r
    unfold cutL
    by_cases hc : c = 35
    · subst hc
      have : Go.Lib.index (35 :: r) [35] = 0 := by rw [Go.Lib.index_one]; unfold Go.Lib.indexByte; simp
      unfold Go.Lib.cut
      rw [this]
      simp
    · rw [List.takeWhile_cons_of_pos (by simp [hc])]
      have hi : Go.Lib.index (c :: r) [35] = if Go.Lib.index r [35] == -1 then -1 else Go.Lib.index r [35] + 1 := by
        rw [Go.Lib.index_one, Go.Lib.index_one]
        conv => lhs; unfold Go.Lib.indexByte
        rw [if_neg (by simp [hc])]
      have hg := Go.Lib.index_ge r [35]
      unfold Go.Lib.cut at ih ⊢
      by_cases hm : Go.Lib.index r [35] = -1
      · have hi' : Go.Lib.index (c :: r) [35] = -1 := by rw [hi, hm]; rfl
        rw [hm] at ih
        rw [hi']
        rw [if_neg (by omega)] at ih ⊢
        simp only at ih ⊢
        rw [← cutL, ← ih]
      · have hi' : Go.Lib.index (c :: r) [35] = Go.Lib.index r [35] + 1 := by rw [hi, if_neg (by simpa using hm)]
        rw [hi']
        rw [if_pos (by omega)] at ih ⊢
        simp only at ih ⊢
        have : (Go.Lib.index r [35] + 1).toNat = (Go.Lib.index r [35]).toNat + 1 := by omega
        rw [this, List.take_succ_cons, ih, ← cutL]
def plL : List UInt8 → List UInt8 → List (List UInt8)
  | cur, [] => [cur]
  | cur, c :: r => if c = 10 then cur :: plL [] r else plL (cur ++ [c]) r
def lnL : List UInt8 → List UInt8 → List (List UInt8)
  | cur, [] => if cur = [] then [] else [cur]
  | cur, c :: r => if c = 10 then cur :: lnL [] r else lnL (cur ++ [c]) r
theorem pl_nil {cur : List UInt8} : plL cur [] = [cur] := rfl
theorem pl_cons {cur r : List UInt8} {c : UInt8} : plL cur (c :: r) = if c = 10 then cur :: plL [] r else plL (cur ++ [c]) r := rfl
theorem ln_nil {cur : List UInt8} : lnL cur [] = if cur = [] then [] else [cur] := rfl
theorem ln_cons {cur r : List UInt8} {c : UInt8} : lnL cur (c :: r) = if c = 10 then cur :: lnL [] r else lnL (cur ++ [c]) r := rfl
theorem pl_head (l : List UInt8) : ∃ h t, plL [] l = h :: t ∧ ∀ cur, plL cur l = (cur ++ h) :: t := by
  induction l with
  | nil => exact ⟨[], [], rfl, fun cur => by simp [pl_nil]⟩
  | cons c r ih =>
    by_cases hc : c = 10
    · exact ⟨[], plL [] r, by rw [pl_cons, if_pos hc], fun cur => by rw [pl_cons, if_pos hc, List.append_nil]⟩
    · obtain ⟨h, t, h1, h2⟩ := ih
      refine ⟨c :: h, t, ?_, fun cur => ?_⟩
      · rw [pl_cons, if_neg hc, h2]; rfl
      · rw [pl_cons, if_neg hc, h2]; simp
theorem split_pl : ∀ l : List UInt8, Go.Lib.splitK [10] 0 (Go.Lib.count l [10]) l = plL [] l
  | [] => by
    have : Go.Lib.index [] [10] = -1 := rfl
    rw [Go.Lib.count_miss this]
    rfl
  | c :: r => by
    have ih := split_pl r
    by_cases hc : c = 10
    · subst hc
      have hi : Go.Lib.index (10 :: r) [10] = 0 := by rw [Go.Lib.index_one]; unfold Go.Lib.indexByte; simp
      rw [Go.Lib.count_cons_eq, show 1 + Go.Lib.count r [10] = Go.Lib.count r [10] + 1 by omega]
      unfold Go.Lib.splitK
      rw [hi]
      rw [pl_cons, if_pos rfl, if_neg (by decide)]
      simp only [Int.toNat_zero, Nat.zero_add, List.take_zero, List.length_singleton, List.drop_succ_cons, List.drop_zero]
      rw [ih]
    · have hi : Go.Lib.index (c :: r) [10] = if Go.Lib.index r [10] == -1 then -1 else Go.Lib.index r [10] + 1 := by
        rw [Go.Lib.index_one, Go.Lib.index_one]
        conv => lhs; unfold Go.Lib.indexByte
        rw [if_neg (by simp [hc])]
      have hg := Go.Lib.index_ge r [10]
      rw [Go.Lib.count_cons_ne c 10 r hc]
      obtain ⟨h, t, h1, h2⟩ := pl_head r
      have hpl : plL [] (c :: r) = (c :: h) :: t := by
        rw [pl_cons, if_neg hc, h2]; rfl
      rw [hpl]
      rw [h1] at ih
      by_cases hm : Go.Lib.index r [10] = -1
      · rw [Go.Lib.count_miss hm] at ih ⊢
        unfold Go.Lib.splitK at ih ⊢
        simp only [List.cons.injEq] at ih ⊢
        exact ⟨⟨trivial, ih.1⟩, ih.2⟩
      · obtain ⟨i, hi2⟩ : ∃ i : Nat, Go.Lib.index r [10] = i := ⟨(Go.Lib.index r [10]).toNat, by omega⟩
        rw [Go.Lib.count_hit (by simp) hi2] at ih ⊢
        rw [Nat.add_comm 1] at ih ⊢
        unfold Go.Lib.splitK at ih ⊢
        rw [hi2] at ih
        rw [hi, hi2]
        have e1 : ((i : Int) == -1) = false := by simp
        rw [e1] at ih ⊢
        simp only [Bool.false_eq_true, if_false, Int.toNat_natCast, Nat.add_zero] at ih ⊢
        have e2 : ((i : Int) + 1 == -1) = false := by simp; omega
        rw [e2]
        simp only [Bool.false_eq_true, if_false]
        have e3 : ((i : Int) + 1).toNat = i + 1 := by omega
        rw [e3, List.take_succ_cons]
        have e4 : (c :: r).drop (i + 1 + ([10] : List UInt8).length) = r.drop (i + ([10] : List UInt8).length) := by
          rw [show i + 1 + ([10] : List UInt8).length = (i + ([10] : List UInt8).length) + 1 by simp]; rfl
        rw [e4]
        simp only [List.cons.injEq] at ih ⊢
        exact ⟨⟨trivial, ih.1⟩, ih.2⟩
theorem ln_pl : ∀ (l cur : List UInt8), ∃ X z, plL cur l = X ++ [z] ∧ lnL cur l = if z = [] then X else X ++ [z]
  | [], cur => ⟨[], cur, rfl, rfl⟩
  | c :: r, cur => by
    rw [pl_cons, ln_cons]
    by_cases hc : c = 10
    · rw [if_pos hc, if_pos hc]
      obtain ⟨X, z, h1, h2⟩ := ln_pl r []
      refine ⟨cur :: X, z, by rw [h1]; rfl, ?_⟩
      rw [h2]
      split <;> rfl
    · rw [if_neg hc, if_neg hc]
      exact ln_pl r (cur ++ [c])
end Go.Proofs.YtiimndcifcoofaaGreatDoor
namespace Go.Proofs.YtiimndcifcoofaaGreatDoor
open Go Go.RowKit
set_option maxRecDepth 10000
set_option maxHeartbeats 4000000
structure AS where
  p : List Ins
  lb : List (ByteArray × Int)
  tg : List (ByteArray × Int)
def AS0 : AS := ⟨[], [], []⟩
def noB : ByteArray := ⟨#[]⟩
def alook (n : ByteArray) : List (ByteArray × Int) → Option Int
  | [] => none
  | x :: r => if n.toList = x.1.toList then some x.2 else alook n r
def pushS (σ : AS) (i : Ins) (n : ByteArray) (ln : Int) : Int × AS := if σ.p.length = 64 then (3, σ) else (0, ⟨σ.p ++ [i], σ.lb, σ.tg ++ [(n, ln)]⟩)
def lblS (σ : AS) (n : ByteArray) : Int × AS := if (alook n σ.lb).isSome = true then (20, σ) else (0, ⟨σ.p, σ.lb ++ [(n, (σ.p.length : Int))], σ.tg⟩)
def insS (σ : AS) (c : ByteArray) (ln : Int) : Int × AS := if (parseM c).2 = 0 then pushS σ (parseM c).1 noB ln else ((parseM c).2, σ)
def jmpS (σ : AS) (c : ByteArray) (ln : Int) : Int × AS := match jmpM (wordsM c) with
  | some x => pushS σ x.1 x.2 ln
  | none => insS σ c ln
def bareS (s : ByteArray) : ByteArray := bW (cutL s.data.toList)
def stepS (σ : AS) (s : ByteArray) (ln : Int) : Int × AS :=
  if wordsM (bareS s) = [] then (0, σ) else match lblM (wordsM (bareS s)) with
  | some n => lblS σ n
  | none => jmpS σ (bareS s) ln
def runS : List ByteArray → Int → AS → Int × Int × AS
  | [], _, σ => (0, 0, σ)
  | s :: r, k, σ => if (stepS σ s k).1 = 0 then runS r (k + 1) (stepS σ s k).2 else (k, (stepS σ s k).1, σ)
def resS (lb : List (ByteArray × Int)) : List Ins → List (ByteArray × Int) → Nat → List Ins → Int × Int × List Ins
  | i :: p, t :: tg, k, acc => if t.1.toList = noB.toList then resS lb p tg (k + 1) (acc ++ [i]) else match alook t.1 lb with
    | none => (t.2, 20, [])
    | some at_ => if at_ ≤ k then (t.2, 20, []) else resS lb p tg (k + 1) (acc ++ [⟨i.op, i.a, i.b, i.c, at_ - k - 1⟩])
  | _, _, _, acc => (0, 0, acc)
def linesB (s : ByteArray) : List ByteArray := (lnL [] s.data.toList).map bW
def finS (r : Int × Int × AS) : List Ins × Int × Int := if r.2.1 = 0 then ((resS r.2.2.lb r.2.2.p r.2.2.tg 0 []).2.2, (resS r.2.2.lb r.2.2.p r.2.2.tg 0 []).1, (resS r.2.2.lb r.2.2.p r.2.2.tg 0 []).2.1) else ([], r.1, r.2.1)
def asmM (s : ByteArray) : List Ins × Int × Int := if 65536 < s.size then ([], 0, 3) else finS (runS (linesB s) 1 AS0)
structure Jmp where
  at_ : Int
  ln : Int
  nm : ByteArray
abbrev Jmp.enc (j : Jmp) : List Value := [.int .i64 j.at_, .int .i64 j.ln, .string j.nm]
def jmps : List (ByteArray × Int) → Nat → List Jmp
  | [], _ => []
  | t :: tg, k => if t.1.toList = noB.toList then jmps tg (k + 1) else ⟨k, t.2, t.1⟩ :: jmps tg (k + 1)
theorem jmps_app : ∀ (l : List (ByteArray × Int)) (t : ByteArray × Int) (k : Nat), jmps (l ++ [t]) k = if t.1.toList = noB.toList then jmps l k else jmps l k ++ [⟨((k + l.length : Nat) : Int), t.2, t.1⟩]
  | [], t, k => by
    simp only [List.nil_append, jmps, List.length_nil, Nat.add_zero]
  | x :: l, t, k => by
    simp only [List.cons_append, jmps, List.length_cons]
    rw [jmps_app l t (k + 1), show k + 1 + l.length = k + (l.length + 1) by omega]
    split <;> split <;> simp
def resP (lb : List (ByteArray × Int)) : List Jmp → List Ins → Int × Int × List Ins
  | [], p => (0, 0, p)
  | j :: js, p => match alook j.nm lb with
    | none => (j.ln, 20, [])
    | some at_ => if at_ ≤ j.at_ then (j.ln, 20, []) else resP lb js (match p[j.at_.toNat]? with
      | some i => p.set j.at_.toNat ⟨i.op, i.a, i.b, i.c, at_ - j.at_ - 1⟩
      | none => p)
theorem resP_resS (lb : List (ByteArray × Int)) : ∀ (p : List Ins) (tg : List (ByteArray × Int)) (acc : List Ins), p.length = tg.length → resP lb (jmps tg acc.length) (acc ++ p) = resS lb p tg acc.length acc
  | [], [], acc, _ => by simp [jmps, resP, resS]
  | [], _ :: _, _, h => by simp at h
  | _ :: _, [], _, h => by simp at h
  | i :: p, t :: tg, acc, h => by
    have hl : p.length = tg.length := by simpa using h
    simp only [jmps, resS]
    split
    · rename_i hn
      have := resP_resS lb p tg (acc ++ [i]) hl
      rw [List.length_append] at this
      rw [← show acc ++ [i] ++ p = acc ++ i :: p by simp]
      exact this
    · simp only [resP]
      cases hk : alook t.1 lb with
      | none => rfl
      | some at_ =>
        simp only
        split
        · rfl
        · have e1 : ((acc.length : Nat) : Int).toNat = acc.length := by omega
          rw [e1]
          have e2 : (acc ++ i :: p)[acc.length]? = some i := by simp
          rw [e2]
          simp only
          have e3 : (acc ++ i :: p).set acc.length ⟨i.op, i.a, i.b, i.c, at_ - acc.length - 1⟩ = (acc ++ [⟨i.op, i.a, i.b, i.c, at_ - acc.length - 1⟩]) ++ p := by simp
          rw [e3]
          have := resP_resS lb p tg (acc ++ [⟨i.op, i.a, i.b, i.c, at_ - acc.length - 1⟩]) hl
          rw [List.length_append] at this
          exact this
structure Inv (σ : AS) : Prop where
  len : σ.p.length = σ.tg.length
  max : σ.p.length ≤ 64
  lbs : ∀ x ∈ σ.lb, 0 ≤ x.2 ∧ x.2 ≤ 64
theorem inv0 : Inv AS0 := ⟨rfl, by decide, by simp [AS0]⟩
theorem push_inv {σ : AS} {i : Ins} {n : ByteArray} {ln : Int} (h : Inv σ) : Inv (pushS σ i n ln).2 := by
  unfold pushS
  split
  · exact h
  · have := h.len
    have := h.max
    exact ⟨by simp; omega, by simp; omega, h.lbs⟩
theorem step_inv {σ : AS} {s : ByteArray} {ln : Int} (h : Inv σ) : Inv (stepS σ s ln).2 := by
  unfold stepS
  split
  · exact h
  · split
    · unfold lblS
      split
      · exact h
      · refine ⟨h.len, h.max, fun x hx => ?_⟩
        rcases List.mem_append.1 hx with hx | hx
        · exact h.lbs x hx
        · have := h.max
          rw [List.mem_singleton.1 hx]
          dsimp only
          omega
    · unfold jmpS
      split
      · exact push_inv h
      · unfold insS
        split
        · exact push_inv h
        · exact h
theorem alook_mem {n : ByteArray} {v : Int} : ∀ {lb : List (ByteArray × Int)}, alook n lb = some v → ∃ x ∈ lb, x.2 = v
  | [], h => by cases h
  | x :: r, h => by
    unfold alook at h
    split at h
    · exact ⟨x, List.mem_cons_self, Option.some.inj h⟩
    · obtain ⟨y, hy, e⟩ := alook_mem h
      exact ⟨y, List.mem_cons_of_mem _ hy, e⟩
theorem jmps_at : ∀ (l : List (ByteArray × Int)) (k : Nat) (j : Jmp), j ∈ jmps l k → ∃ m : Nat, j.at_ = m ∧ k ≤ m ∧ m < k + l.length
  | [], _, _, h => by cases h
  | t :: l, k, j, h => by
    simp only [jmps] at h
    split at h
    · obtain ⟨m, h1, h2, h3⟩ := jmps_at l (k + 1) j h
      exact ⟨m, h1, by omega, by simp; omega⟩
    · rcases List.mem_cons.1 h with rfl | h
      · exact ⟨k, rfl, by omega, by simp⟩
      · obtain ⟨m, h1, h2, h3⟩ := jmps_at l (k + 1) j h
        exact ⟨m, h1, by omega, by simp; omega⟩
end Go.Proofs.YtiimndcifcoofaaGreatDoor
