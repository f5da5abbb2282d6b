/- What the laws share, part 22. No condition. -/
import Derived.Lib.SplitLaws
import Derived.Lib.Split
import Derived.Lib.TrimByte
import Derived.Lib.IndexLaws
import Derived.Lib.IndexBytes
import Derived.Lib.Strings
import Derived.Test.YtiimndcifcoofaaGreatDoorZ21
namespace Go.Proofs.YtiimndcifcoofaaGreatDoor
open Go Go.RowKit
set_option maxRecDepth 10000
set_option maxHeartbeats 4000000
def letB (c : UInt8) : Bool := decide (97 ≤ (c.toNat : Int) ∧ (c.toNat : Int) ≤ 122)
def digB (c : UInt8) : Bool := decide (48 ≤ (c.toNat : Int) ∧ (c.toNat : Int) ≤ 57)
def okB (c : UInt8) : Bool := letB c || digB c || decide ((c.toNat : Int) = 95)
def nameB (s : ByteArray) : Bool := match s.data.toList with
  | [] => false
  | c :: r => decide ((s.size : Int) ≤ 20) && letB c && (c :: r).all okB
theorem okB_ne {c : UInt8} (h : okB c = true) : c ≠ 32 ∧ c ≠ 10 ∧ c ≠ 35 ∧ c ≠ 58 := by
  refine ⟨?_, ?_, ?_, ?_⟩ <;> (rintro rfl; revert h; decide)
theorem name_ok {s : ByteArray} (h : nameB s = true) : s.data.toList ≠ [] ∧ s.size ≤ 20 ∧ ∀ c ∈ s.data.toList, okB c = true := by
  unfold nameB at h
  split at h
  · cases h
  · rename_i c r e
    simp only [Bool.and_eq_true, decide_eq_true_eq] at h
    rw [e]
    exact ⟨by simp, by omega, List.all_eq_true.1 h.2⟩
theorem reg_form {s : ByteArray} (h : (regM s).2 = true) : ∃ k : Nat, k < 8 ∧ s = bW [114, UInt8.ofNat (48 + k)] ∧ (regM s).1 = k := by
  unfold regM at h ⊢
  split at h
  · rename_i c d e
    split at h
    · rename_i hc
      obtain ⟨h1, h2, h3⟩ := hc
      refine ⟨d.toNat - 48, by omega, ba_ext ?_, ?_⟩
      · rw [e]
        have e1 : c = 114 := UInt8.toNat.inj (by show c.toNat = 114; omega)
        have e2 : d = UInt8.ofNat (48 + (d.toNat - 48)) := by
          apply UInt8.toNat.inj
          rw [UInt8.toNat_ofNat']
          have := d.toNat_lt
          omega
        rw [← e2, e1]
        simp [bW]
      · rw [if_pos ⟨h1, h2, h3⟩]
        show (d.toNat : Int) - 48 = _
        omega
    · cases h
  · cases h
abbrev jumpW : ByteArray := ⟨#[106, 117, 109, 112]⟩
abbrev zeroW : ByteArray := ⟨#[122, 101, 114, 111]⟩
abbrev nonzW : ByteArray := ⟨#[110, 111, 110, 122, 101, 114, 111]⟩
def jmpM : List ByteArray → Option (Ins × ByteArray)
  | [w0, n] => if w0.toList = jumpW.toList ∧ nameB n = true then some (⟨4, 0, 0, 0, 0⟩, n) else none
  | [w0, r, n] => if (w0.toList = zeroW.toList ∨ w0.toList = nonzW.toList) ∧ (regM r).2 = true ∧ nameB n = true then some (⟨if w0.toList = nonzW.toList then 6 else 5, (regM r).1, 0, 0, 0⟩, n) else none
  | _ => none
theorem ba_toList {a b : ByteArray} (h : a.toList = b.toList) : a = b := by
  rw [ByteArray.toList_eq, ByteArray.toList_eq] at h
  exact ba_ext h
def insT (x : Ins × Int) : List Int := [x.1.op, x.1.a, x.1.b, x.1.c, x.1.imm, x.2]
theorem insT_inj {x y : Ins × Int} (h : insT x = insT y) : x = y := by
  obtain ⟨⟨a, b, c, d, e⟩, f⟩ := x
  obtain ⟨⟨a', b', c', d', e'⟩, f'⟩ := y
  simp only [insT, List.cons.injEq, and_true] at h
  obtain ⟨rfl, rfl, rfl, rfl, rfl, rfl⟩ := h
  rfl
def joinW (ws : List ByteArray) : ByteArray := bW (Go.Lib.join (ws.map (fun x => x.data.toList)) [32])
theorem jmp_p2 : insT (parseM (joinW [jumpW, ⟨#[48]⟩])) = [4, 0, 0, 0, 0, 0] := by decide +kernel
theorem jmp_p3 : ∀ k : Nat, k < 8 → insT (parseM (joinW [zeroW, bW [114, UInt8.ofNat (48 + k)], ⟨#[48]⟩])) = [5, (k : Int), 0, 0, 0, 0] ∧ insT (parseM (joinW [nonzW, bW [114, UInt8.ofNat (48 + k)], ⟨#[48]⟩])) = [6, (k : Int), 0, 0, 0, 0] := by decide +kernel
theorem jmp_parse {ws : List ByteArray} {i : Ins} {n : ByteArray} (h : jmpM ws = some (i, n)) : ws.getLast? = some n ∧ nameB n = true ∧ parseM (joinW (ws.dropLast ++ [⟨#[48]⟩])) = (i, 0) := by
  match ws, h with
  | [w0, m], h =>
    simp only [jmpM] at h
    split at h
    · rename_i hc
      simp only [Option.some.injEq, Prod.mk.injEq] at h
      obtain ⟨rfl, rfl⟩ := h
      have := ba_toList hc.1
      subst this
      exact ⟨rfl, hc.2, insT_inj jmp_p2⟩
    · cases h
  | [w0, r, m], h =>
    simp only [jmpM] at h
    split at h
    · rename_i hc
      simp only [Option.some.injEq, Prod.mk.injEq] at h
      obtain ⟨rfl, rfl⟩ := h
      obtain ⟨hw, hr, hn⟩ := hc
      obtain ⟨k, hk, rfl, hk1⟩ := reg_form hr
      refine ⟨rfl, hn, ?_⟩
      rw [hk1]
      rcases hw with hw | hw
      · have := ba_toList hw
        subst this
        rw [if_neg (by decide +kernel)]
        exact insT_inj (jmp_p3 k hk).1
      · have := ba_toList hw
        subst this
        rw [if_pos rfl]
        exact insT_inj (jmp_p3 k hk).2
    · cases h
theorem wl_sps (r : List UInt8) : ∀ n : Nat, wl [] (List.replicate n 32 ++ r) = wl [] r
  | 0 => rfl
  | n + 1 => by rw [List.replicate_succ, List.cons_append, wl_sp]; exact wl_sps r n
theorem wl_ends : ∀ (n : Nat) (l : List UInt8), wl [] (l ++ List.replicate n 32) = wl [] l
  | 0, l => by simp
  | n + 1, l => by
    rw [List.replicate_succ', ← List.append_assoc, wl_end, wl_ends n l]
theorem drop_rep (l : List UInt8) : ∃ n, l = List.replicate n 32 ++ l.dropWhile (· == 32) := by
  induction l with
  | nil => exact ⟨0, rfl⟩
  | cons c r ih =>
    by_cases h : c = 32
    · obtain ⟨n, hn⟩ := ih
      refine ⟨n + 1, ?_⟩
      rw [List.dropWhile_cons_of_pos (by simp [h]), List.replicate_succ, List.cons_append, ← hn, h]
    · exact ⟨0, by rw [List.dropWhile_cons_of_neg (by simp [h])]; rfl⟩
theorem trimR_rep (l : List UInt8) : ∃ n, l = Go.Lib.trimRightB l 32 ++ List.replicate n 32 := by
  obtain ⟨n, hn⟩ := drop_rep l.reverse
  refine ⟨n, ?_⟩
  have := congrArg List.reverse hn
  rw [List.reverse_reverse, List.reverse_append, List.reverse_replicate] at this
  exact this
theorem wl_trim (l : List UInt8) : wl [] (Go.Lib.trimB l 32) = wl [] l := by
  obtain ⟨n, hn⟩ := trimR_rep l
  obtain ⟨m, hm⟩ := drop_rep (Go.Lib.trimRightB l 32)
  have e1 : wl [] (Go.Lib.trimRightB l 32) = wl [] l := by
    conv => rhs; rw [hn]
    rw [wl_ends]
  rw [← e1]
  conv => rhs; rw [hm]
  rw [wl_sps]
  rfl
theorem wl_none : ∀ (l cur : List UInt8), cur ≠ [] → wl cur l ≠ []
  | [], cur, hc => by rw [wl_nil, if_neg hc]; simp
  | e :: l, cur, hc => by
    rw [wl_cons, if_neg hc]
    split
    · simp
    · exact wl_none l _ (by simp)
theorem wl_one : ∀ (l cur w : List UInt8), wl cur l = [w] → (∃ n : Nat, cur ≠ [] ∧ cur ++ l = w ++ List.replicate n 32 ∧ ∃ u, w = cur ++ u ∧ ∀ c ∈ u, c ≠ 32) ∨ (cur = [] ∧ ∃ a b : Nat, l = List.replicate a 32 ++ w ++ List.replicate b 32 ∧ w ≠ [] ∧ ∀ c ∈ w, c ≠ 32)
  | [], cur, w, h => by
    rw [wl_nil] at h
    split at h
    · cases h
    · rename_i hne
      simp only [List.cons.injEq, and_true] at h
      exact .inl ⟨0, hne, by simp [h], [], by simp [h], by simp⟩
  | c :: r, cur, w, h => by
    rw [wl_cons] at h
    by_cases hc : c = 32
    · rw [if_pos hc] at h
      by_cases hcur : cur = []
      · rw [if_pos hcur] at h
        rcases wl_one r [] w h with ⟨_, h1, _⟩ | ⟨_, a, b, h2, h3⟩
        · exact absurd rfl h1
        · exact .inr ⟨hcur, a + 1, b, by rw [h2, hc]; simp [List.replicate_succ], h3⟩
      · rw [if_neg hcur] at h
        simp only [List.cons.injEq] at h
        obtain ⟨rfl, h⟩ := h
        refine .inl ?_
        have : ∃ n : Nat, r = List.replicate n 32 := by
          clear hcur
          induction r with
          | nil => exact ⟨0, rfl⟩
          | cons d r ih =>
            rw [wl_cons] at h
            by_cases hd : d = 32
            · rw [if_pos hd, if_pos rfl] at h
              obtain ⟨n, hn⟩ := ih h
              exact ⟨n + 1, by rw [hd, List.replicate_succ, ← hn]⟩
            · rw [if_neg hd] at h
              exact absurd h (wl_none r ([] ++ [d]) (by simp))
        obtain ⟨n, hn⟩ := this
        exact ⟨n + 1, hcur, by rw [hn, hc, List.replicate_succ], [], by simp, by simp⟩
    · rw [if_neg hc] at h
      rcases wl_one r (cur ++ [c]) w h with ⟨n, _, h2, u, h3, h4⟩ | ⟨h1, _⟩
      · by_cases hcur : cur = []
        · subst hcur
          refine .inr ⟨rfl, 0, n, by simpa using h2, by rw [h3]; simp, ?_⟩
          rw [h3]
          intro x hx
          rcases List.mem_append.1 hx with hx | hx
          · simp at hx; rw [hx]; exact hc
          · exact h4 x hx
        · refine .inl ⟨n, hcur, by simpa using h2, c :: u, by rw [h3]; simp, ?_⟩
          intro x hx
          rcases List.mem_cons.1 hx with rfl | hx
          · exact hc
          · exact h4 x hx
      · simp at h1
theorem trim_word {a b : Nat} {w : List UInt8} (hne : w ≠ []) (hw : ∀ c ∈ w, c ≠ 32) : Go.Lib.trimB (List.replicate a 32 ++ w ++ List.replicate b 32) 32 = w := by
  have dw : ∀ (n : Nat) (x : List UInt8), x ≠ [] → (∀ c ∈ x, c ≠ 32) → (List.replicate n 32 ++ x).dropWhile (· == (32 : UInt8)) = x := by
    intro n x hx hc
    induction n with
    | zero =>
      cases x with
      | nil => exact absurd rfl hx
      | cons y x => simp [hc y List.mem_cons_self]
    | succ n ih => simp only [List.replicate_succ, List.cons_append]; rw [List.dropWhile_cons_of_pos (by simp)]; exact ih
  have e1 : Go.Lib.trimRightB (List.replicate a 32 ++ w ++ List.replicate b 32) 32 = List.replicate a 32 ++ w := by
    unfold Go.Lib.trimRightB
    rw [List.reverse_append, List.reverse_replicate, List.reverse_append]
    have hr : ∀ c ∈ w.reverse, c ≠ 32 := fun c hc => hw c (List.mem_reverse.1 hc)
    cases hwr : w.reverse with
    | nil => exact absurd (List.reverse_eq_nil_iff.1 hwr) hne
    | cons y x =>
      rw [hwr] at hr
      have : (List.replicate b 32 ++ (y :: x ++ (List.replicate a 32).reverse)).dropWhile (· == (32 : UInt8)) = y :: x ++ (List.replicate a 32).reverse := by
        clear hwr
        induction b with
        | zero => simp [hr y List.mem_cons_self]
        | succ n ih => simp only [List.replicate_succ, List.cons_append]; rw [List.dropWhile_cons_of_pos (by simp)]; exact ih
      rw [this, List.reverse_append, List.reverse_reverse, ← hwr, List.reverse_reverse]
  unfold Go.Lib.trimB
  rw [e1]
  exact dw a w hne hw
def lblM : List ByteArray → Option ByteArray
  | [w] => if w.data.toList.getLast? = some 58 ∧ nameB (bW w.data.toList.dropLast) = true then some (bW w.data.toList.dropLast) else none
  | _ => none
def lblP (b : List UInt8) : Option ByteArray := if b.getLast? = some 58 ∧ nameB (bW b.dropLast) = true then some (bW b.dropLast) else none
theorem bW_data (l : List UInt8) : (bW l).data.toList = l := by simp [bW]
theorem bW_self (s : ByteArray) : bW s.data.toList = s := ba_ext (bW_data _)
theorem lbl_eq (l : List UInt8) : lblP (Go.Lib.trimB l 32) = lblM (wordsM (bW l)) := by
  have hw : (wordsM (bW l)).map (fun x => x.data.toList) = wl [] l := by rw [words_wl, bW_data]
  by_cases h : (Go.Lib.trimB l 32).getLast? = some 58 ∧ nameB (bW (Go.Lib.trimB l 32).dropLast) = true
  · have h1 : lblP (Go.Lib.trimB l 32) = some (bW (Go.Lib.trimB l 32).dropLast) := by unfold lblP; rw [if_pos h]
    obtain ⟨n1, _, n3⟩ := name_ok h.2
    rw [bW_data] at n1 n3
    have hb : Go.Lib.trimB l 32 = (Go.Lib.trimB l 32).dropLast ++ [58] := by
      obtain ⟨ys, e⟩ := List.getLast?_eq_some_iff.1 h.1
      rw [e]; simp
    have hns : ∀ c ∈ Go.Lib.trimB l 32, c ≠ 32 := by
      intro c hc
      rw [hb] at hc
      rcases List.mem_append.1 hc with hc | hc
      · exact (okB_ne (n3 c hc)).1
      · simp at hc; rw [hc]; decide
    have hne : Go.Lib.trimB l 32 ≠ [] := by rw [hb]; simp
    have hwl : wl [] l = [Go.Lib.trimB l 32] := by rw [← wl_trim]; exact wl_last hns hne
    rw [hwl] at hw
    have : wordsM (bW l) = [bW (Go.Lib.trimB l 32)] := by
      rcases hq : wordsM (bW l) with _ | ⟨x, _ | ⟨y, t⟩⟩ <;> rw [hq] at hw
      · simp at hw
      · simp only [List.map_cons, List.map_nil, List.cons.injEq, and_true] at hw
        rw [← hw, bW_self]
      · simp at hw
    rw [this, h1]
    unfold lblM
    simp only [bW_data]
    rw [if_pos h]
  · have h1 : lblP (Go.Lib.trimB l 32) = none := by unfold lblP; rw [if_neg h]
    rw [h1]
    rcases hq : wordsM (bW l) with _ | ⟨x, _ | ⟨y, t⟩⟩ <;> rw [hq] at hw
    · rfl
    · have hn : ¬ (x.data.toList.getLast? = some 58 ∧ nameB (bW x.data.toList.dropLast) = true) := by
        rintro ⟨h2, h3⟩
        apply h
        have hwl : wl [] l = [x.data.toList] := by rw [← hw]; rfl
        rcases wl_one l [] _ hwl with ⟨_, h4, _⟩ | ⟨_, a, b, h5, h6, h7⟩
        · exact absurd rfl h4
        · have : Go.Lib.trimB l 32 = x.data.toList := by
            conv => lhs; rw [h5]
            exact trim_word h6 h7
          rw [this]
          exact ⟨h2, h3⟩
      unfold lblM
      simp only
      rw [if_neg hn]
    · rfl
theorem trim_nil (l : List UInt8) : Go.Lib.trimB l 32 = [] ↔ wordsM (bW l) = [] := by
  have hw : (wordsM (bW l)).map (fun x => x.data.toList) = wl [] l := by rw [words_wl, bW_data]
  constructor
  · intro h
    have : wl [] l = [] := by rw [← wl_trim, h]; rfl
    rw [this] at hw
    exact List.map_eq_nil_iff.1 hw
  · intro h
    rw [h] at hw
    have h2 : wl [] l = [] := hw.symm
    rw [← wl_trim] at h2
    cases hq : Go.Lib.trimB l 32 with
    | nil => rfl
    | cons c r =>
      exfalso
      rw [hq, wl_cons] at h2
      split at h2
      · rename_i hc
        have hd : (Go.Lib.trimRightB l 32).dropWhile (· == 32) = c :: r := hq
        have := List.head?_dropWhile_not (· == (32 : UInt8)) (Go.Lib.trimRightB l 32)
        rw [hd] at this
        simp [hc] at this
      · exact wl_none r ([] ++ [c]) (by simp) h2
theorem words_trim (l : List UInt8) : wordsM (bW (Go.Lib.trimB l 32)) = wordsM (bW l) := by
  have h1 : (wordsM (bW (Go.Lib.trimB l 32))).map (fun x => x.data.toList) = (wordsM (bW l)).map (fun x => x.data.toList) := by rw [words_wl, words_wl, bW_data, bW_data, wl_trim]
  have h2 := congrArg (List.map bW) h1
  have e : (bW ∘ fun x : ByteArray => x.data.toList) = id := by funext x; exact bW_self x
  rw [List.map_map, List.map_map, e, List.map_id, List.map_id] at h2
  exact h2
def cutL (l : List UInt8) : List UInt8 := l.takeWhile (· != 35)
theorem cut_eq : ∀ l : List UInt8, (Go.Lib.cut l [35]).1 = cutL l
  | [] => rfl
  | c :: r => by
    have ih := cut_eq r
    unfold cutL
    by_cases hc : c = 35
    · subst hc
      have : Go.Lib.index (35 :: r) [35] = 0 := by rw [Go.Lib.index_one]; unfold Go.Lib.indexByte; simp
      unfold Go.Lib.cut
      rw [this]
      simp
    · rw [List.takeWhile_cons_of_pos (by simp [hc])]
      have hi : Go.Lib.index (c :: r) [35] = if Go.Lib.index r [35] == -1 then -1 else Go.Lib.index r [35] + 1 := by
        rw [Go.Lib.index_one, Go.Lib.index_one]
        conv => lhs; unfold Go.Lib.indexByte
        rw [if_neg (by simp [hc])]
      have hg := Go.Lib.index_ge r [35]
      unfold Go.Lib.cut at ih ⊢
      by_cases hm : Go.Lib.index r [35] = -1
      · have hi' : Go.Lib.index (c :: r) [35] = -1 := by rw [hi, hm]; rfl
        rw [hm] at ih
        rw [hi']
        rw [if_neg (by omega)] at ih ⊢
        simp only at ih ⊢
        rw [← cutL, ← ih]
      · have hi' : Go.Lib.index (c :: r) [35] = Go.Lib.index r [35] + 1 := by rw [hi, if_neg (by simpa using hm)]
        rw [hi']
        rw [if_pos (by omega)] at ih ⊢
        simp only at ih ⊢
        have : (Go.Lib.index r [35] + 1).toNat = (Go.Lib.index r [35]).toNat + 1 := by omega
        rw [this, List.take_succ_cons, ih, ← cutL]
def plL : List UInt8 → List UInt8 → List (List UInt8)
  | cur, [] => [cur]
  | cur, c :: r => if c = 10 then cur :: plL [] r else plL (cur ++ [c]) r
def lnL : List UInt8 → List UInt8 → List (List UInt8)
  | cur, [] => if cur = [] then [] else [cur]
  | cur, c :: r => if c = 10 then cur :: lnL [] r else lnL (cur ++ [c]) r
theorem pl_nil {cur : List UInt8} : plL cur [] = [cur] := rfl
theorem pl_cons {cur r : List UInt8} {c : UInt8} : plL cur (c :: r) = if c = 10 then cur :: plL [] r else plL (cur ++ [c]) r := rfl
theorem ln_nil {cur : List UInt8} : lnL cur [] = if cur = [] then [] else [cur] := rfl
theorem ln_cons {cur r : List UInt8} {c : UInt8} : lnL cur (c :: r) = if c = 10 then cur :: lnL [] r else lnL (cur ++ [c]) r := rfl
theorem pl_head (l : List UInt8) : ∃ h t, plL [] l = h :: t ∧ ∀ cur, plL cur l = (cur ++ h) :: t := by
  induction l with
  | nil => exact ⟨[], [], rfl, fun cur => by simp [pl_nil]⟩
  | cons c r ih =>
    by_cases hc : c = 10
    · exact ⟨[], plL [] r, by rw [pl_cons, if_pos hc], fun cur => by rw [pl_cons, if_pos hc, List.append_nil]⟩
    · obtain ⟨h, t, h1, h2⟩ := ih
      refine ⟨c :: h, t, ?_, fun cur => ?_⟩
      · rw [pl_cons, if_neg hc, h2]; rfl
      · rw [pl_cons, if_neg hc, h2]; simp
theorem split_pl : ∀ l : List UInt8, Go.Lib.splitK [10] 0 (Go.Lib.count l [10]) l = plL [] l
  | [] => by
    have : Go.Lib.index [] [10] = -1 := rfl
    rw [Go.Lib.count_miss this]
    rfl
  | c :: r => by
    have ih := split_pl r
    by_cases hc : c = 10
    · subst hc
      have hi : Go.Lib.index (10 :: r) [10] = 0 := by rw [Go.Lib.index_one]; unfold Go.Lib.indexByte; simp
      rw [Go.Lib.count_cons_eq, show 1 + Go.Lib.count r [10] = Go.Lib.count r [10] + 1 by omega]
      unfold Go.Lib.splitK
      rw [hi]
      rw [pl_cons, if_pos rfl, if_neg (by decide)]
      simp only [Int.toNat_zero, Nat.zero_add, List.take_zero, List.length_singleton, List.drop_succ_cons, List.drop_zero]
      rw [ih]
    · have hi : Go.Lib.index (c :: r) [10] = if Go.Lib.index r [10] == -1 then -1 else Go.Lib.index r [10] + 1 := by
        rw [Go.Lib.index_one, Go.Lib.index_one]
        conv => lhs; unfold Go.Lib.indexByte
        rw [if_neg (by simp [hc])]
      have hg := Go.Lib.index_ge r [10]
      rw [Go.Lib.count_cons_ne c 10 r hc]
      obtain ⟨h, t, h1, h2⟩ := pl_head r
      have hpl : plL [] (c :: r) = (c :: h) :: t := by
        rw [pl_cons, if_neg hc, h2]; rfl
      rw [hpl]
      rw [h1] at ih
      by_cases hm : Go.Lib.index r [10] = -1
      · rw [Go.Lib.count_miss hm] at ih ⊢
        unfold Go.Lib.splitK at ih ⊢
        simp only [List.cons.injEq] at ih ⊢
        exact ⟨⟨trivial, ih.1⟩, ih.2⟩
      · obtain ⟨i, hi2⟩ : ∃ i : Nat, Go.Lib.index r [10] = i := ⟨(Go.Lib.index r [10]).toNat, by omega⟩
        rw [Go.Lib.count_hit (by simp) hi2] at ih ⊢
        rw [Nat.add_comm 1] at ih ⊢
        unfold Go.Lib.splitK at ih ⊢
        rw [hi2] at ih
        rw [hi, hi2]
        have e1 : ((i : Int) == -1) = false := by simp
        rw [e1] at ih ⊢
        simp only [Bool.false_eq_true, if_false, Int.toNat_natCast, Nat.add_zero] at ih ⊢
        have e2 : ((i : Int) + 1 == -1) = false := by simp; omega
        rw [e2]
        simp only [Bool.false_eq_true, if_false]
        have e3 : ((i : Int) + 1).toNat = i + 1 := by omega
        rw [e3, List.take_succ_cons]
        have e4 : (c :: r).drop (i + 1 + ([10] : List UInt8).length) = r.drop (i + ([10] : List UInt8).length) := by
          rw [show i + 1 + ([10] : List UInt8).length = (i + ([10] : List UInt8).length) + 1 by simp]; rfl
        rw [e4]
        simp only [List.cons.injEq] at ih ⊢
        exact ⟨⟨trivial, ih.1⟩, ih.2⟩
theorem ln_pl : ∀ (l cur : List UInt8), ∃ X z, plL cur l = X ++ [z] ∧ lnL cur l = if z = [] then X else X ++ [z]
  | [], cur => ⟨[], cur, rfl, rfl⟩
  | c :: r, cur => by
    rw [pl_cons, ln_cons]
    by_cases hc : c = 10
    · rw [if_pos hc, if_pos hc]
      obtain ⟨X, z, h1, h2⟩ := ln_pl r []
      refine ⟨cur :: X, z, by rw [h1]; rfl, ?_⟩
      rw [h2]
      split <;> rfl
    · rw [if_neg hc, if_neg hc]
      exact ln_pl r (cur ++ [c])
end Go.Proofs.YtiimndcifcoofaaGreatDoor
namespace Go.Proofs.YtiimndcifcoofaaGreatDoor
open Go Go.RowKit
set_option maxRecDepth 10000
set_option maxHeartbeats 4000000
structure AS where
  p : List Ins
  lb : List (ByteArray × Int)
  tg : List (ByteArray × Int)
def AS0 : AS := ⟨[], [], []⟩
def noB : ByteArray := ⟨#[]⟩
def alook (n : ByteArray) : List (ByteArray × Int) → Option Int
  | [] => none
  | x :: r => if n.toList = x.1.toList then some x.2 else alook n r
def pushS (σ : AS) (i : Ins) (n : ByteArray) (ln : Int) : Int × AS := if σ.p.length = 64 then (3, σ) else (0, ⟨σ.p ++ [i], σ.lb, σ.tg ++ [(n, ln)]⟩)
def lblS (σ : AS) (n : ByteArray) : Int × AS := if (alook n σ.lb).isSome = true then (20, σ) else (0, ⟨σ.p, σ.lb ++ [(n, (σ.p.length : Int))], σ.tg⟩)
def insS (σ : AS) (c : ByteArray) (ln : Int) : Int × AS := if (parseM c).2 = 0 then pushS σ (parseM c).1 noB ln else ((parseM c).2, σ)
def jmpS (σ : AS) (c : ByteArray) (ln : Int) : Int × AS := match jmpM (wordsM c) with
  | some x => pushS σ x.1 x.2 ln
  | none => insS σ c ln
def bareS (s : ByteArray) : ByteArray := bW (cutL s.data.toList)
def stepS (σ : AS) (s : ByteArray) (ln : Int) : Int × AS :=
  if wordsM (bareS s) = [] then (0, σ) else match lblM (wordsM (bareS s)) with
  | some n => lblS σ n
  | none => jmpS σ (bareS s) ln
def runS : List ByteArray → Int → AS → Int × Int × AS
  | [], _, σ => (0, 0, σ)
  | s :: r, k, σ => if (stepS σ s k).1 = 0 then runS r (k + 1) (stepS σ s k).2 else (k, (stepS σ s k).1, σ)
def resS (lb : List (ByteArray × Int)) : List Ins → List (ByteArray × Int) → Nat → List Ins → Int × Int × List Ins
  | i :: p, t :: tg, k, acc => if t.1.toList = noB.toList then resS lb p tg (k + 1) (acc ++ [i]) else match alook t.1 lb with
    | none => (t.2, 20, [])
    | some at_ => if at_ ≤ k then (t.2, 20, []) else resS lb p tg (k + 1) (acc ++ [⟨i.op, i.a, i.b, i.c, at_ - k - 1⟩])
  | _, _, _, acc => (0, 0, acc)
def linesB (s : ByteArray) : List ByteArray := (lnL [] s.data.toList).map bW
def finS (r : Int × Int × AS) : List Ins × Int × Int := if r.2.1 = 0 then ((resS r.2.2.lb r.2.2.p r.2.2.tg 0 []).2.2, (resS r.2.2.lb r.2.2.p r.2.2.tg 0 []).1, (resS r.2.2.lb r.2.2.p r.2.2.tg 0 []).2.1) else ([], r.1, r.2.1)
def asmM (s : ByteArray) : List Ins × Int × Int := if 65536 < s.size then ([], 0, 3) else finS (runS (linesB s) 1 AS0)
structure Jmp where
  at_ : Int
  ln : Int
  nm : ByteArray
abbrev Jmp.enc (j : Jmp) : List Value := [.int .i64 j.at_, .int .i64 j.ln, .string j.nm]
def jmps : List (ByteArray × Int) → Nat → List Jmp
  | [], _ => []
  | t :: tg, k => if t.1.toList = noB.toList then jmps tg (k + 1) else ⟨k, t.2, t.1⟩ :: jmps tg (k + 1)
theorem jmps_app : ∀ (l : List (ByteArray × Int)) (t : ByteArray × Int) (k : Nat), jmps (l ++ [t]) k = if t.1.toList = noB.toList then jmps l k else jmps l k ++ [⟨((k + l.length : Nat) : Int), t.2, t.1⟩]
  | [], t, k => by
    simp only [List.nil_append, jmps, List.length_nil, Nat.add_zero]
  | x :: l, t, k => by
    simp only [List.cons_append, jmps, List.length_cons]
    rw [jmps_app l t (k + 1), show k + 1 + l.length = k + (l.length + 1) by omega]
    split <;> split <;> simp
def resP (lb : List (ByteArray × Int)) : List Jmp → List Ins → Int × Int × List Ins
  | [], p => (0, 0, p)
  | j :: js, p => match alook j.nm lb with
    | none => (j.ln, 20, [])
    | some at_ => if at_ ≤ j.at_ then (j.ln, 20, []) else resP lb js (match p[j.at_.toNat]? with
      | some i => p.set j.at_.toNat ⟨i.op, i.a, i.b, i.c, at_ - j.at_ - 1⟩
      | none => p)
theorem resP_resS (lb : List (ByteArray × Int)) : ∀ (p : List Ins) (tg : List (ByteArray × Int)) (acc : List Ins), p.length = tg.length → resP lb (jmps tg acc.length) (acc ++ p) = resS lb p tg acc.length acc
  | [], [], acc, _ => by simp [jmps, resP, resS]
  | [], _ :: _, _, h => by simp at h
  | _ :: _, [], _, h => by simp at h
  | i :: p, t :: tg, acc, h => by
    have hl : p.length = tg.length := by simpa using h
    simp only [jmps, resS]
    split
    · rename_i hn
      have := resP_resS lb p tg (acc ++ [i]) hl
      rw [List.length_append] at this
      rw [← show acc ++ [i] ++ p = acc ++ i :: p by simp]
      exact this
    · simp only [resP]
      cases hk : alook t.1 lb with
      | none => rfl
      | some at_ =>
        simp only
        split
        · rfl
        · have e1 : ((acc.length : Nat) : Int).toNat = acc.length := by omega
          rw [e1]
          have e2 : (acc ++ i :: p)[acc.length]? = some i := by simp
          rw [e2]
          simp only
          have e3 : (acc ++ i :: p).set acc.length ⟨i.op, i.a, i.b, i.c, at_ - acc.length - 1⟩ = (acc ++ [⟨i.op, i.a, i.b, i.c, at_ - acc.length - 1⟩]) ++ p := by simp
          rw [e3]
          have := resP_resS lb p tg (acc ++ [⟨i.op, i.a, i.b, i.c, at_ - acc.length - 1⟩]) hl
          rw [List.length_append] at this
          exact this
structure Inv (σ : AS) : Prop where
  len : σ.p.length = σ.tg.length
  max : σ.p.length ≤ 64
  lbs : ∀ x ∈ σ.lb, 0 ≤ x.2 ∧ x.2 ≤ 64
theorem inv0 : Inv AS0 := ⟨rfl, by decide, by simp [AS0]⟩
theorem push_inv {σ : AS} {i : Ins} {n : ByteArray} {ln : Int} (h : Inv σ) : Inv (pushS σ i n ln).2 := by
  unfold pushS
  split
  · exact h
  · have := h.len
    have := h.max
    exact ⟨by simp; omega, by simp; omega, h.lbs⟩
theorem step_inv {σ : AS} {s : ByteArray} {ln : Int} (h : Inv σ) : Inv (stepS σ s ln).2 := by
  unfold stepS
  split
  · exact h
  · split
    · unfold lblS
      split
      · exact h
      · refine ⟨h.len, h.max, fun x hx => ?_⟩
        rcases List.mem_append.1 hx with hx | hx
        · exact h.lbs x hx
        · have := h.max
          rw [List.mem_singleton.1 hx]
          dsimp only
          omega
    · unfold jmpS
      split
      · exact push_inv h
      · unfold insS
        split
        · exact push_inv h
        · exact h
theorem alook_mem {n : ByteArray} {v : Int} : ∀ {lb : List (ByteArray × Int)}, alook n lb = some v → ∃ x ∈ lb, x.2 = v
  | [], h => by cases h
  | x :: r, h => by
    unfold alook at h
    split at h
    · exact ⟨x, List.mem_cons_self, Option.some.inj h⟩
    · obtain ⟨y, hy, e⟩ := alook_mem h
      exact ⟨y, List.mem_cons_of_mem _ hy, e⟩
theorem jmps_at : ∀ (l : List (ByteArray × Int)) (k : Nat) (j : Jmp), j ∈ jmps l k → ∃ m : Nat, j.at_ = m ∧ k ≤ m ∧ m < k + l.length
  | [], _, _, h => by cases h
  | t :: l, k, j, h => by
    simp only [jmps] at h
    split at h
    · obtain ⟨m, h1, h2, h3⟩ := jmps_at l (k + 1) j h
      exact ⟨m, h1, by omega, by simp; omega⟩
    · rcases List.mem_cons.1 h with rfl | h
      · exact ⟨k, rfl, by omega, by simp⟩
      · obtain ⟨m, h1, h2, h3⟩ := jmps_at l (k + 1) j h
        exact ⟨m, h1, by omega, by simp; omega⟩
end Go.Proofs.YtiimndcifcoofaaGreatDoor
namespace Go.Proofs.YtiimndcifcoofaaGreatDoor
open Go Go.RowKit
set_option maxRecDepth 10000
set_option maxHeartbeats 4000000
def MaxAt (W0 : World) : Prop := ∃ m, W0.cell? ⟨2, 0, none⟩ = some (.int .i64 m)
theorem MaxAt.st {W0 w : World} {own : Own} (h : MaxAt W0) (hw : St W0 own w) : ∃ m, w.cell? ⟨2, 0, none⟩ = some (.int .i64 m) := by
  obtain ⟨m, hm⟩ := h
  exact ⟨m, (World.cell?_of_block (w := W0) (hw.base _ (cell_lt hm))).trans hm⟩
structure AsmAt (W0 : World) : Prop where
  isa : IsaAt W0
  mx : MaxAt W0
theorem St.drewN {W0 : World} {own : Own} {w : World} (s : St W0 own w) (n : Nat) : St W0 own (w.drewN n) := ⟨s.os, s.tape, s.output, s.size, s.base, s.fresh, s.owns, s.nodup⟩
theorem St.drew {W0 : World} {own : Own} {w : World} (s : St W0 own w) : St W0 own w.drew := ⟨s.os, s.tape, s.output, s.size, s.base, s.fresh, s.owns, s.nodup⟩
section
variable {W0 : World} {own : Own}
theorem sp_cut (hM : MaxAt W0) (s : ByteArray) (hs : s.size < 4294967281) : Pure Tryz.prog W0 77 [.string s, .string ⟨#[35]⟩] own (.tuple #[.string (bareS s), .string ⟨(Go.Lib.cut s.data.toList [35]).2.1.toArray⟩, .bool (Go.Lib.cut s.data.toList [35]).2.2]) := fun w hw => by
  obtain ⟨m, hm⟩ := hM.st hw
  refine (shelf_strings_Cut s ⟨#[35]⟩ m w hs hm).mono ?_
  rintro e w' ⟨rfl, n, rfl⟩
  refine ⟨?_, hw.drewN n⟩
  have : (⟨(Go.Lib.cut s.data.toList (⟨#[35]⟩ : ByteArray).data.toList).1.toArray⟩ : ByteArray) = bareS s := by
    show bW (Go.Lib.cut s.data.toList [35]).1 = _
    rw [cut_eq]
    rfl
  rw [this]
theorem sp_trim (s : ByteArray) (hs : s.size ≤ 9223372036854775807) : Pure Tryz.prog W0 78 [.string s, .string ⟨#[32]⟩] own (.string (bW (Go.Lib.trimB s.data.toList 32))) := fun w hw => by
  refine (shelf_strings_Trim_one s 32 (by decide) w hs).mono ?_
  rintro e w' ⟨rfl, rfl | rfl⟩
  · exact ⟨rfl, hw⟩
  · exact ⟨rfl, hw.drew⟩
theorem sp_hassuf (s p : ByteArray) (hs : s.size ≤ 9223372036854775807) : Pure Tryz.prog W0 148 [.string s, .string p] own (.bool (Go.Lib.hasSuffix s.data.toList p.data.toList)) := fun w hw => by
  refine (shelf_stringslite_HasSuffix s p w hs).mono ?_
  rintro e w' ⟨rfl, rfl⟩
  exact ⟨rfl, hw⟩
def cutC (s : ByteArray) : ByteArray × Bool := if s.data.toList.getLast? = some 58 then (bW s.data.toList.dropLast, true) else (s, false)
theorem suf_colon (l : List UInt8) : Go.Lib.hasSuffix l [58] = decide (l.getLast? = some 58) := by
  unfold Go.Lib.hasSuffix
  rw [Bool.eq_iff_iff, List.isSuffixOf_iff_suffix, decide_eq_true_iff, List.getLast?_eq_some_iff]
  constructor
  · rintro ⟨t, rfl⟩; exact ⟨t, rfl⟩
  · rintro ⟨t, rfl⟩; exact ⟨t, rfl⟩
theorem sp_cutsuf1 (s : ByteArray) (hs : s.size ≤ 9223372036854775807) : Pure Tryz.prog W0 119 [.string s, .string ⟨#[58]⟩] own (.tuple #[.string (cutC s).1, .bool (cutC s).2]) := by
  refine pure_of (spec_of mixed low_internal_stringslite_CutSuffix (by simp [ir_internal_stringslite_CutSuffix]) ?_)
  have hl : s.data.toList.length = s.size := by simp
  have hh := fun own => sp_hassuf (W0 := W0) (own := own) s ⟨#[58]⟩ hs
  have e : Go.Lib.hasSuffix s.data.toList (⟨#[58]⟩ : ByteArray).data.toList = decide (s.data.toList.getLast? = some 58) := suf_colon _
  rw [e] at hh
  have h1 : (⟨#[58]⟩ : ByteArray).size = 1 := rfl
  by_cases hc : s.data.toList.getLast? = some 58
  · have e2 : cutC s = (bW s.data.toList.dropLast, true) := by unfold cutC; rw [if_pos hc]
    rw [decide_eq_true hc] at hh
    rw [e2]
    have hne : 1 ≤ s.size := by
      rw [← hl]
      cases hq : s.data.toList with
      | nil => rw [hq] at hc; cases hc
      | cons a b => simp
    have e3 : s.extract 0 (s.size - 1) = bW s.data.toList.dropLast := ba_ext (by rw [ba_extract, bW_data, List.drop_zero, Nat.sub_zero, List.dropLast_eq_take, hl])
    repeat' ((try (conv => whnf)); first | (refine when_ye ?_ ?_; exact rfl) | (refine when_ne ?_ ?_; exact rfl) | (refine br_te ?_ ?_; exact rfl) | (refine br_fe ?_ ?_; exact rfl) | (apply br_pyE; (exact rfl); omega) | (apply br_pnE; (exact rfl); omega) | (apply when_pyE; (exact rfl); omega) | (apply when_pnE; (exact rfl); omega) | (apply br_npyE; (exact rfl); omega) | (apply br_npnE; (exact rfl); omega) | (apply when_npyE; (exact rfl); omega) | (apply when_npnE; (exact rfl); omega) | (refine SscT.mk ⟨0, s.size - 1, rfl, ?_, ?_, ?_, ?_⟩; (show (s.size : Int) - 1 = _; omega); (omega); (omega)) | ((with_reducible show CallT _ _ _ _ _ _); first | ((refine call_pe (hh _) ?_ ?_ ?_; (exact rfl); exact rfl))) | (refine ari ?_ ?_; omega) | (refine aru ?_ ?_; omega) | (apply sel; exact rfl) | (refine ix0 rfl ?_) | (refine ix1 rfl ?_) | (refine ix2 rfl ?_) | (refine ix3 rfl ?_) | (apply ixj; omega) | (refine ixn ?_ ?_; omega) | (refine ixs0 rfl ?_) | (refine ixs1 rfl ?_) | (refine ixs_j ?_ ?_; omega) | (refine ixs_n ?_ ?_; omega) | (apply ld_o; exact rfl) | (apply ldN_a; exact rfl) | (apply ldN_o; (exact rfl); exact rfl) | (apply st_o; (exact rfl); exact rfl) | (apply stN_o; (exact rfl); (exact rfl); exact rfl) | (refine new_i (fun bk hbk => ?_)) | (apply when_dE; (exact rfl); (exact rfl); all_goals intro hc) | (apply when_dF; (exact rfl); (exact rfl); all_goals intro hc) | (apply when_nE; (exact rfl); (exact rfl); all_goals intro hc) | (apply when_nF; (exact rfl); (exact rfl); all_goals intro hc) | (apply br_dE; (exact rfl); all_goals intro hc) | (apply br_nE; (exact rfl); all_goals intro hc) | (refine mm_min ?_) | (refine mm_max ?_) | (refine rem_i ?_ ?_; omega) | (refine SelN.mk ?_) | (refine cut_n ?_) | (refine Both.mk ?_ ?_) | (exact True.intro))
    exact ⟨ret2 (vstr e3) rfl, (by first | exact ent_i | (repeat (first | exact Ent.refl | exact Ent.left | refine Ent.cons ?_ | refine Ent.app ?_)))⟩
  · have e2 : cutC s = (s, false) := by unfold cutC; rw [if_neg hc]
    rw [decide_eq_false hc] at hh
    rw [e2]
    repeat' ((try (conv => whnf)); first | (refine when_ye ?_ ?_; exact rfl) | (refine when_ne ?_ ?_; exact rfl) | (refine br_te ?_ ?_; exact rfl) | (refine br_fe ?_ ?_; exact rfl) | (apply br_pyE; (exact rfl); omega) | (apply br_pnE; (exact rfl); omega) | (apply when_pyE; (exact rfl); omega) | (apply when_pnE; (exact rfl); omega) | (apply br_npyE; (exact rfl); omega) | (apply br_npnE; (exact rfl); omega) | (apply when_npyE; (exact rfl); omega) | (apply when_npnE; (exact rfl); omega) | ((with_reducible show CallT _ _ _ _ _ _); first | ((refine call_pe (hh _) ?_ ?_ ?_; (exact rfl); exact rfl))) | (refine ari ?_ ?_; omega) | (refine aru ?_ ?_; omega) | (apply sel; exact rfl) | (refine ix0 rfl ?_) | (refine ix1 rfl ?_) | (refine ix2 rfl ?_) | (refine ix3 rfl ?_) | (apply ixj; omega) | (refine ixn ?_ ?_; omega) | (refine ixs0 rfl ?_) | (refine ixs1 rfl ?_) | (refine ixs_j ?_ ?_; omega) | (refine ixs_n ?_ ?_; omega) | (apply ld_o; exact rfl) | (apply ldN_a; exact rfl) | (apply ldN_o; (exact rfl); exact rfl) | (apply st_o; (exact rfl); exact rfl) | (apply stN_o; (exact rfl); (exact rfl); exact rfl) | (refine new_i (fun bk hbk => ?_)) | (apply when_dE; (exact rfl); (exact rfl); all_goals intro hc) | (apply when_dF; (exact rfl); (exact rfl); all_goals intro hc) | (apply when_nE; (exact rfl); (exact rfl); all_goals intro hc) | (apply when_nF; (exact rfl); (exact rfl); all_goals intro hc) | (apply br_dE; (exact rfl); all_goals intro hc) | (apply br_nE; (exact rfl); all_goals intro hc) | (refine mm_min ?_) | (refine mm_max ?_) | (refine rem_i ?_ ?_; omega) | (refine SelN.mk ?_) | (refine cut_n ?_) | (refine Both.mk ?_ ?_) | (exact True.intro))
    exact ⟨rfl, (by first | exact ent_i | (repeat (first | exact Ent.refl | exact Ent.left | refine Ent.cons ?_ | refine Ent.app ?_)))⟩
theorem sp_cutsuf (s : ByteArray) (hs : s.size ≤ 9223372036854775807) : Pure Tryz.prog W0 79 [.string s, .string ⟨#[58]⟩] own (.tuple #[.string (cutC s).1, .bool (cutC s).2]) := by
  refine pure_of (spec_of mixed low_strings_CutSuffix (by simp [ir_strings_CutSuffix]) ?_)
  have hh := fun own => sp_cutsuf1 (W0 := W0) (own := own) s hs
  repeat' ((try (conv => whnf)); first | (refine when_ye ?_ ?_; exact rfl) | (refine when_ne ?_ ?_; exact rfl) | (refine br_te ?_ ?_; exact rfl) | (refine br_fe ?_ ?_; exact rfl) | (apply br_pyE; (exact rfl); omega) | (apply br_pnE; (exact rfl); omega) | (apply when_pyE; (exact rfl); omega) | (apply when_pnE; (exact rfl); omega) | (apply br_npyE; (exact rfl); omega) | (apply br_npnE; (exact rfl); omega) | (apply when_npyE; (exact rfl); omega) | (apply when_npnE; (exact rfl); omega) | ((with_reducible show CallT _ _ _ _ _ _); first | ((refine call_pe (hh _) ?_ ?_ ?_; (exact rfl); exact rfl))) | (refine ari ?_ ?_; omega) | (refine aru ?_ ?_; omega) | (apply sel; exact rfl) | (refine ix0 rfl ?_) | (refine ix1 rfl ?_) | (refine ix2 rfl ?_) | (refine ix3 rfl ?_) | (apply ixj; omega) | (refine ixn ?_ ?_; omega) | (refine ixs0 rfl ?_) | (refine ixs1 rfl ?_) | (refine ixs_j ?_ ?_; omega) | (refine ixs_n ?_ ?_; omega) | (apply ld_o; exact rfl) | (apply ldN_a; exact rfl) | (apply ldN_o; (exact rfl); exact rfl) | (apply st_o; (exact rfl); exact rfl) | (apply stN_o; (exact rfl); (exact rfl); exact rfl) | (refine new_i (fun bk hbk => ?_)) | (apply when_dE; (exact rfl); (exact rfl); all_goals intro hc) | (apply when_dF; (exact rfl); (exact rfl); all_goals intro hc) | (apply when_nE; (exact rfl); (exact rfl); all_goals intro hc) | (apply when_nF; (exact rfl); (exact rfl); all_goals intro hc) | (apply br_dE; (exact rfl); all_goals intro hc) | (apply br_nE; (exact rfl); all_goals intro hc) | (refine mm_min ?_) | (refine mm_max ?_) | (refine rem_i ?_ ?_; omega) | (refine SelN.mk ?_) | (refine cut_n ?_) | (refine Both.mk ?_ ?_) | (exact True.intro))
  exact ⟨rfl, (by first | exact ent_i | (repeat (first | exact Ent.refl | exact Ent.left | refine Ent.cons ?_ | refine Ent.app ?_)))⟩
theorem sp_letter (c : UInt8) : Pure Tryz.prog W0 120 [.int .u8 c.toNat] own (.bool (letB c)) := by
  refine pure_of (spec_of mixed low_asm_letter (by simp [ir_asm_letter]) ?_)
  unfold letB
  by_cases h1 : 97 ≤ (c.toNat : Int) <;> by_cases h2 : (c.toNat : Int) ≤ 122
  all_goals
    repeat' ((try (conv => whnf)); first | (refine when_ye ?_ ?_; exact rfl) | (refine when_ne ?_ ?_; exact rfl) | (refine br_te ?_ ?_; exact rfl) | (refine br_fe ?_ ?_; exact rfl) | (apply br_pyE; (exact rfl); omega) | (apply br_pnE; (exact rfl); omega) | (apply when_pyE; (exact rfl); omega) | (apply when_pnE; (exact rfl); omega) | (apply br_npyE; (exact rfl); omega) | (apply br_npnE; (exact rfl); omega) | (apply when_npyE; (exact rfl); omega) | (apply when_npnE; (exact rfl); omega) | (refine br_pyE ?_ h1 ?_; exact rfl) | (refine br_pnE ?_ h1 ?_; exact rfl) | (refine when_pyE ?_ h1 ?_; exact rfl) | (refine when_pnE ?_ h1 ?_; exact rfl) | (refine br_npyE ?_ h1 ?_; exact rfl) | (refine br_npnE ?_ h1 ?_; exact rfl) | (refine when_npyE ?_ h1 ?_; exact rfl) | (refine when_npnE ?_ h1 ?_; exact rfl) | (refine br_pyE ?_ h2 ?_; exact rfl) | (refine br_pnE ?_ h2 ?_; exact rfl) | (refine when_pyE ?_ h2 ?_; exact rfl) | (refine when_pnE ?_ h2 ?_; exact rfl) | (refine br_npyE ?_ h2 ?_; exact rfl) | (refine br_npnE ?_ h2 ?_; exact rfl) | (refine when_npyE ?_ h2 ?_; exact rfl) | (refine when_npnE ?_ h2 ?_; exact rfl) | (refine ari ?_ ?_; omega) | (refine aru ?_ ?_; omega) | (apply sel; exact rfl) | (refine ix0 rfl ?_) | (refine ix1 rfl ?_) | (refine ix2 rfl ?_) | (refine ix3 rfl ?_) | (apply ixj; omega) | (refine ixn ?_ ?_; omega) | (refine ixs0 rfl ?_) | (refine ixs1 rfl ?_) | (refine ixs_j ?_ ?_; omega) | (refine ixs_n ?_ ?_; omega) | (apply ld_o; exact rfl) | (apply ldN_a; exact rfl) | (apply ldN_o; (exact rfl); exact rfl) | (apply st_o; (exact rfl); exact rfl) | (apply stN_o; (exact rfl); (exact rfl); exact rfl) | (refine new_i (fun bk hbk => ?_)) | (apply when_dE; (exact rfl); (exact rfl); all_goals intro hc) | (apply when_dF; (exact rfl); (exact rfl); all_goals intro hc) | (apply when_nE; (exact rfl); (exact rfl); all_goals intro hc) | (apply when_nF; (exact rfl); (exact rfl); all_goals intro hc) | (apply br_dE; (exact rfl); all_goals intro hc) | (apply br_nE; (exact rfl); all_goals intro hc) | (refine mm_min ?_) | (refine mm_max ?_) | (refine rem_i ?_ ?_; omega) | (refine SelN.mk ?_) | (refine cut_n ?_) | (refine Both.mk ?_ ?_) | (exact True.intro))
    exact ⟨ret1 (vb (by simp [h1, h2])), (by first | exact ent_i | (repeat (first | exact Ent.refl | exact Ent.left | refine Ent.cons ?_ | refine Ent.app ?_)))⟩
theorem sp_digit (c : UInt8) : Pure Tryz.prog W0 121 [.int .u8 c.toNat] own (.bool (digB c)) := by
  refine pure_of (spec_of mixed low_asm_digit (by simp [ir_asm_digit]) ?_)
  unfold digB
  by_cases h1 : 48 ≤ (c.toNat : Int) <;> by_cases h2 : (c.toNat : Int) ≤ 57
  all_goals
    repeat' ((try (conv => whnf)); first | (refine when_ye ?_ ?_; exact rfl) | (refine when_ne ?_ ?_; exact rfl) | (refine br_te ?_ ?_; exact rfl) | (refine br_fe ?_ ?_; exact rfl) | (apply br_pyE; (exact rfl); omega) | (apply br_pnE; (exact rfl); omega) | (apply when_pyE; (exact rfl); omega) | (apply when_pnE; (exact rfl); omega) | (apply br_npyE; (exact rfl); omega) | (apply br_npnE; (exact rfl); omega) | (apply when_npyE; (exact rfl); omega) | (apply when_npnE; (exact rfl); omega) | (refine br_pyE ?_ h1 ?_; exact rfl) | (refine br_pnE ?_ h1 ?_; exact rfl) | (refine when_pyE ?_ h1 ?_; exact rfl) | (refine when_pnE ?_ h1 ?_; exact rfl) | (refine br_npyE ?_ h1 ?_; exact rfl) | (refine br_npnE ?_ h1 ?_; exact rfl) | (refine when_npyE ?_ h1 ?_; exact rfl) | (refine when_npnE ?_ h1 ?_; exact rfl) | (refine br_pyE ?_ h2 ?_; exact rfl) | (refine br_pnE ?_ h2 ?_; exact rfl) | (refine when_pyE ?_ h2 ?_; exact rfl) | (refine when_pnE ?_ h2 ?_; exact rfl) | (refine br_npyE ?_ h2 ?_; exact rfl) | (refine br_npnE ?_ h2 ?_; exact rfl) | (refine when_npyE ?_ h2 ?_; exact rfl) | (refine when_npnE ?_ h2 ?_; exact rfl) | (refine ari ?_ ?_; omega) | (refine aru ?_ ?_; omega) | (apply sel; exact rfl) | (refine ix0 rfl ?_) | (refine ix1 rfl ?_) | (refine ix2 rfl ?_) | (refine ix3 rfl ?_) | (apply ixj; omega) | (refine ixn ?_ ?_; omega) | (refine ixs0 rfl ?_) | (refine ixs1 rfl ?_) | (refine ixs_j ?_ ?_; omega) | (refine ixs_n ?_ ?_; omega) | (apply ld_o; exact rfl) | (apply ldN_a; exact rfl) | (apply ldN_o; (exact rfl); exact rfl) | (apply st_o; (exact rfl); exact rfl) | (apply stN_o; (exact rfl); (exact rfl); exact rfl) | (refine new_i (fun bk hbk => ?_)) | (apply when_dE; (exact rfl); (exact rfl); all_goals intro hc) | (apply when_dF; (exact rfl); (exact rfl); all_goals intro hc) | (apply when_nE; (exact rfl); (exact rfl); all_goals intro hc) | (apply when_nF; (exact rfl); (exact rfl); all_goals intro hc) | (apply br_dE; (exact rfl); all_goals intro hc) | (apply br_nE; (exact rfl); all_goals intro hc) | (refine mm_min ?_) | (refine mm_max ?_) | (refine rem_i ?_ ?_; omega) | (refine SelN.mk ?_) | (refine cut_n ?_) | (refine Both.mk ?_ ?_) | (exact True.intro))
    exact ⟨ret1 (vb (by simp [h1, h2])), (by first | exact ent_i | (repeat (first | exact Ent.refl | exact Ent.left | refine Ent.cons ?_ | refine Ent.app ?_)))⟩
theorem drop_all {l : List UInt8} {k : Nat} {x : UInt8} (hx : l[k]? = some x) : (l.drop k).all okB = (okB x && (l.drop (k + 1)).all okB) := by
  obtain ⟨h, rfl⟩ := List.getElem?_eq_some_iff.1 hx
  rw [List.drop_eq_getElem_cons h]
  rfl
theorem sp_isName (s : ByteArray) (hs : s.size ≤ 9223372036854775807) : Pure Tryz.prog W0 80 [.string s] own (.bool (nameB s)) := by
  refine pure_of (spec_of mixed low_asm_isName (by simp [ir_asm_isName]) ?_)
  have hl : s.data.toList.length = s.size := by simp
  cases hq : s.data.toList with
  | nil =>
    have hnm : nameB s = false := by unfold nameB; rw [hq]
    rw [hq] at hl
    simp only [List.length_nil] at hl
    have h0 : (s.size : Int) < 1 := by omega
    repeat' ((try (conv => whnf)); first | (refine when_ye ?_ ?_; exact rfl) | (refine when_ne ?_ ?_; exact rfl) | (refine br_te ?_ ?_; exact rfl) | (refine br_fe ?_ ?_; exact rfl) | (apply br_pyE; (exact rfl); omega) | (apply br_pnE; (exact rfl); omega) | (apply when_pyE; (exact rfl); omega) | (apply when_pnE; (exact rfl); omega) | (apply br_npyE; (exact rfl); omega) | (apply br_npnE; (exact rfl); omega) | (apply when_npyE; (exact rfl); omega) | (apply when_npnE; (exact rfl); omega) | (refine br_pyE ?_ h0 ?_; exact rfl) | (refine br_pnE ?_ h0 ?_; exact rfl) | (refine when_pyE ?_ h0 ?_; exact rfl) | (refine when_pnE ?_ h0 ?_; exact rfl) | (refine br_npyE ?_ h0 ?_; exact rfl) | (refine br_npnE ?_ h0 ?_; exact rfl) | (refine when_npyE ?_ h0 ?_; exact rfl) | (refine when_npnE ?_ h0 ?_; exact rfl) | (refine ari ?_ ?_; omega) | (refine aru ?_ ?_; omega) | (apply sel; exact rfl) | (refine ix0 rfl ?_) | (refine ix1 rfl ?_) | (refine ix2 rfl ?_) | (refine ix3 rfl ?_) | (apply ixj; omega) | (refine ixn ?_ ?_; omega) | (refine ixs0 rfl ?_) | (refine ixs1 rfl ?_) | (refine ixs_j ?_ ?_; omega) | (refine ixs_n ?_ ?_; omega) | (apply ld_o; exact rfl) | (apply ldN_a; exact rfl) | (apply ldN_o; (exact rfl); exact rfl) | (apply st_o; (exact rfl); exact rfl) | (apply stN_o; (exact rfl); (exact rfl); exact rfl) | (refine new_i (fun bk hbk => ?_)) | (apply when_dE; (exact rfl); (exact rfl); all_goals intro hc) | (apply when_dF; (exact rfl); (exact rfl); all_goals intro hc) | (apply when_nE; (exact rfl); (exact rfl); all_goals intro hc) | (apply when_nF; (exact rfl); (exact rfl); all_goals intro hc) | (apply br_dE; (exact rfl); all_goals intro hc) | (apply br_nE; (exact rfl); all_goals intro hc) | (refine mm_min ?_) | (refine mm_max ?_) | (refine rem_i ?_ ?_; omega) | (refine SelN.mk ?_) | (refine cut_n ?_) | (refine Both.mk ?_ ?_) | (exact True.intro))
    exact ⟨ret1 (vb hnm.symm), (by first | exact ent_i | (repeat (first | exact Ent.refl | exact Ent.left | refine Ent.cons ?_ | refine Ent.app ?_)))⟩
  | cons c r =>
    have hc0 : s.data.toList[0]? = some c := by rw [hq]; rfl
    have hnm : nameB s = (decide ((s.size : Int) ≤ 20) && letB c && s.data.toList.all okB) := by unfold nameB; rw [hq]
    have h0 : ¬ (s.size : Int) < 1 := by rw [hq, List.length_cons] at hl; omega
    have hlt := fun own => sp_letter (W0 := W0) (own := own) c
    by_cases h20 : (s.size : Int) ≤ 20
    · rw [decide_eq_true h20, Bool.true_and] at hnm
      cases hL : letB c with
      | false =>
        rw [hL] at hlt
        rw [hL, Bool.false_and] at hnm
        repeat' ((try (conv => whnf)); first | (refine when_ye ?_ ?_; exact rfl) | (refine when_ne ?_ ?_; exact rfl) | (refine br_te ?_ ?_; exact rfl) | (refine br_fe ?_ ?_; exact rfl) | (apply br_pyE; (exact rfl); omega) | (apply br_pnE; (exact rfl); omega) | (apply when_pyE; (exact rfl); omega) | (apply when_pnE; (exact rfl); omega) | (apply br_npyE; (exact rfl); omega) | (apply br_npnE; (exact rfl); omega) | (apply when_npyE; (exact rfl); omega) | (apply when_npnE; (exact rfl); omega) | (refine ⟨0, c, rfl, hc0, ?_⟩) | ((with_reducible show CallT _ _ _ _ _ _); first | ((refine call_pe (hlt _) ?_ ?_ ?_; (exact rfl); exact rfl))) | (refine ari ?_ ?_; omega) | (refine aru ?_ ?_; omega) | (apply sel; exact rfl) | (refine ix0 rfl ?_) | (refine ix1 rfl ?_) | (refine ix2 rfl ?_) | (refine ix3 rfl ?_) | (apply ixj; omega) | (refine ixn ?_ ?_; omega) | (refine ixs0 rfl ?_) | (refine ixs1 rfl ?_) | (refine ixs_j ?_ ?_; omega) | (refine ixs_n ?_ ?_; omega) | (apply ld_o; exact rfl) | (apply ldN_a; exact rfl) | (apply ldN_o; (exact rfl); exact rfl) | (apply st_o; (exact rfl); exact rfl) | (apply stN_o; (exact rfl); (exact rfl); exact rfl) | (refine new_i (fun bk hbk => ?_)) | (apply when_dE; (exact rfl); (exact rfl); all_goals intro hc) | (apply when_dF; (exact rfl); (exact rfl); all_goals intro hc) | (apply when_nE; (exact rfl); (exact rfl); all_goals intro hc) | (apply when_nF; (exact rfl); (exact rfl); all_goals intro hc) | (apply br_dE; (exact rfl); all_goals intro hc) | (apply br_nE; (exact rfl); all_goals intro hc) | (refine mm_min ?_) | (refine mm_max ?_) | (refine rem_i ?_ ?_; omega) | (refine SelN.mk ?_) | (refine cut_n ?_) | (refine Both.mk ?_ ?_) | (exact True.intro))
        exact ⟨ret1 (vb hnm.symm), (by first | exact ent_i | (repeat (first | exact Ent.refl | exact Ent.left | refine Ent.cons ?_ | refine Ent.app ?_)))⟩
      | true =>
        rw [hL] at hlt
        rw [hL, Bool.true_and] at hnm
        repeat' ((try (conv => whnf)); first | (refine when_ye ?_ ?_; exact rfl) | (refine when_ne ?_ ?_; exact rfl) | (refine br_te ?_ ?_; exact rfl) | (refine br_fe ?_ ?_; exact rfl) | (apply br_pyE; (exact rfl); omega) | (apply br_pnE; (exact rfl); omega) | (apply when_pyE; (exact rfl); omega) | (apply when_pnE; (exact rfl); omega) | (apply br_npyE; (exact rfl); omega) | (apply br_npnE; (exact rfl); omega) | (apply when_npyE; (exact rfl); omega) | (apply when_npnE; (exact rfl); omega) | (refine ⟨0, c, rfl, hc0, ?_⟩) | ((with_reducible show CallT _ _ _ _ _ _); first | ((refine call_pe (hlt _) ?_ ?_ ?_; (exact rfl); exact rfl))) | (refine ari ?_ ?_; omega) | (refine aru ?_ ?_; omega) | (apply sel; exact rfl) | (refine ix0 rfl ?_) | (refine ix1 rfl ?_) | (refine ix2 rfl ?_) | (refine ix3 rfl ?_) | (apply ixj; omega) | (refine ixn ?_ ?_; omega) | (refine ixs0 rfl ?_) | (refine ixs1 rfl ?_) | (refine ixs_j ?_ ?_; omega) | (refine ixs_n ?_ ?_; omega) | (apply ld_o; exact rfl) | (apply ldN_a; exact rfl) | (apply ldN_o; (exact rfl); exact rfl) | (apply st_o; (exact rfl); exact rfl) | (apply stN_o; (exact rfl); (exact rfl); exact rfl) | (refine new_i (fun bk hbk => ?_)) | (apply when_dE; (exact rfl); (exact rfl); all_goals intro hc) | (apply when_dF; (exact rfl); (exact rfl); all_goals intro hc) | (apply when_nE; (exact rfl); (exact rfl); all_goals intro hc) | (apply when_nF; (exact rfl); (exact rfl); all_goals intro hc) | (apply br_dE; (exact rfl); all_goals intro hc) | (apply br_nE; (exact rfl); all_goals intro hc) | (refine mm_min ?_) | (refine mm_max ?_) | (refine rem_i ?_ ?_; omega) | (refine SelN.mk ?_) | (refine cut_n ?_) | (refine Both.mk ?_ ?_) | (exact True.intro))
        refine loop_c (σ := Nat) (fun k => [(21, .int .i64 k)]) (fun k => k ≤ s.size ∧ (s.data.toList.drop k).all okB = s.data.toList.all okB) (fun k => s.size - k) 0 ⟨by omega, rfl⟩ (by repeat' (first | exact True.intro | refine And.intro ?_ ?_ | exact rfl | exact vi (by omega) | (dsimp only; exact rfl) | (dsimp only; exact vi (by omega)))) rfl ?_
        rintro k junk ⟨hk, hI⟩
        by_cases hlt2 : k < s.size
        · have hlt3 : (k : Int) < s.size := by omega
          obtain ⟨x, hx⟩ : ∃ x, s.data.toList[k]? = some x := ⟨_, List.getElem?_eq_getElem (by omega)⟩
          rw [drop_all hx] at hI
          have hlx := fun own => sp_letter (W0 := W0) (own := own) x
          have hdx := fun own => sp_digit (W0 := W0) (own := own) x
          cases h1 : letB x <;> cases h2 : digB x <;> rw [h1] at hlx <;> rw [h2] at hdx <;> by_cases h3 : (x.toNat : Int) = 95
          all_goals
            repeat' ((try (conv => whnf)); first | (refine when_ye ?_ ?_; exact rfl) | (refine when_ne ?_ ?_; exact rfl) | (refine br_te ?_ ?_; exact rfl) | (refine br_fe ?_ ?_; exact rfl) | (apply br_pyE; (exact rfl); omega) | (apply br_pnE; (exact rfl); omega) | (apply when_pyE; (exact rfl); omega) | (apply when_pnE; (exact rfl); omega) | (apply br_npyE; (exact rfl); omega) | (apply br_npnE; (exact rfl); omega) | (apply when_npyE; (exact rfl); omega) | (apply when_npnE; (exact rfl); omega) | (refine br_pyE ?_ h3 ?_; exact rfl) | (refine br_pnE ?_ h3 ?_; exact rfl) | (refine when_pyE ?_ h3 ?_; exact rfl) | (refine when_pnE ?_ h3 ?_; exact rfl) | (refine br_npyE ?_ h3 ?_; exact rfl) | (refine br_npnE ?_ h3 ?_; exact rfl) | (refine when_npyE ?_ h3 ?_; exact rfl) | (refine when_npnE ?_ h3 ?_; exact rfl) | (refine ⟨k, x, rfl, hx, ?_⟩) | ((with_reducible show CallT _ _ _ _ _ _); first | ((refine call_pe (hlx _) ?_ ?_ ?_; (exact rfl); exact rfl)) | ((refine call_pe (hdx _) ?_ ?_ ?_; (exact rfl); exact rfl))) | (refine ari ?_ ?_; omega) | (refine aru ?_ ?_; omega) | (apply sel; exact rfl) | (refine ix0 rfl ?_) | (refine ix1 rfl ?_) | (refine ix2 rfl ?_) | (refine ix3 rfl ?_) | (apply ixj; omega) | (refine ixn ?_ ?_; omega) | (refine ixs0 rfl ?_) | (refine ixs1 rfl ?_) | (refine ixs_j ?_ ?_; omega) | (refine ixs_n ?_ ?_; omega) | (apply ld_o; exact rfl) | (apply ldN_a; exact rfl) | (apply ldN_o; (exact rfl); exact rfl) | (apply st_o; (exact rfl); exact rfl) | (apply stN_o; (exact rfl); (exact rfl); exact rfl) | (refine new_i (fun bk hbk => ?_)) | (apply when_dE; (exact rfl); (exact rfl); all_goals intro hc) | (apply when_dF; (exact rfl); (exact rfl); all_goals intro hc) | (apply when_nE; (exact rfl); (exact rfl); all_goals intro hc) | (apply when_nF; (exact rfl); (exact rfl); all_goals intro hc) | (apply br_dE; (exact rfl); all_goals intro hc) | (apply br_nE; (exact rfl); all_goals intro hc) | (refine mm_min ?_) | (refine mm_max ?_) | (refine rem_i ?_ ?_; omega) | (refine SelN.mk ?_) | (refine cut_n ?_) | (refine Both.mk ?_ ?_) | (exact True.intro))
            first
              | (have ho : okB x = true := by simp [okB, h1, h2, h3]
                 rw [ho, Bool.true_and] at hI
                 exact ⟨k + 1, ⟨by omega, hI⟩, by omega, (by repeat' (first | exact True.intro | refine And.intro ?_ ?_ | exact rfl | exact vi (by omega) | (dsimp only; exact rfl) | (dsimp only; exact vi (by omega)))), (by first | exact ent_i | (repeat (first | exact Ent.refl | exact Ent.left | refine Ent.cons ?_ | refine Ent.app ?_)))⟩)
              | (have ho : okB x = false := by simp [okB, h1, h2, h3]
                 rw [ho, Bool.false_and] at hI
                 exact ⟨ret1 (vb (by rw [hnm, ← hI])), (by first | exact ent_i | (repeat (first | exact Ent.refl | exact Ent.left | refine Ent.cons ?_ | refine Ent.app ?_)))⟩)
        · have hlt3 : ¬ (k : Int) < s.size := by omega
          have : s.data.toList.drop k = [] := List.drop_eq_nil_of_le (by omega)
          rw [this] at hI
          repeat' ((try (conv => whnf)); first | (refine when_ye ?_ ?_; exact rfl) | (refine when_ne ?_ ?_; exact rfl) | (refine br_te ?_ ?_; exact rfl) | (refine br_fe ?_ ?_; exact rfl) | (apply br_pyE; (exact rfl); omega) | (apply br_pnE; (exact rfl); omega) | (apply when_pyE; (exact rfl); omega) | (apply when_pnE; (exact rfl); omega) | (apply br_npyE; (exact rfl); omega) | (apply br_npnE; (exact rfl); omega) | (apply when_npyE; (exact rfl); omega) | (apply when_npnE; (exact rfl); omega) | (refine ari ?_ ?_; omega) | (refine aru ?_ ?_; omega) | (apply sel; exact rfl) | (refine ix0 rfl ?_) | (refine ix1 rfl ?_) | (refine ix2 rfl ?_) | (refine ix3 rfl ?_) | (apply ixj; omega) | (refine ixn ?_ ?_; omega) | (refine ixs0 rfl ?_) | (refine ixs1 rfl ?_) | (refine ixs_j ?_ ?_; omega) | (refine ixs_n ?_ ?_; omega) | (apply ld_o; exact rfl) | (apply ldN_a; exact rfl) | (apply ldN_o; (exact rfl); exact rfl) | (apply st_o; (exact rfl); exact rfl) | (apply stN_o; (exact rfl); (exact rfl); exact rfl) | (refine new_i (fun bk hbk => ?_)) | (apply when_dE; (exact rfl); (exact rfl); all_goals intro hc) | (apply when_dF; (exact rfl); (exact rfl); all_goals intro hc) | (apply when_nE; (exact rfl); (exact rfl); all_goals intro hc) | (apply when_nF; (exact rfl); (exact rfl); all_goals intro hc) | (apply br_dE; (exact rfl); all_goals intro hc) | (apply br_nE; (exact rfl); all_goals intro hc) | (refine mm_min ?_) | (refine mm_max ?_) | (refine rem_i ?_ ?_; omega) | (refine SelN.mk ?_) | (refine cut_n ?_) | (refine Both.mk ?_ ?_) | (exact True.intro))
          exact ⟨ret1 (vb (by rw [hnm, ← hI]; rfl)), (by first | exact ent_i | (repeat (first | exact Ent.refl | exact Ent.left | refine Ent.cons ?_ | refine Ent.app ?_)))⟩
    · rw [decide_eq_false h20, Bool.false_and, Bool.false_and] at hnm
      repeat' ((try (conv => whnf)); first | (refine when_ye ?_ ?_; exact rfl) | (refine when_ne ?_ ?_; exact rfl) | (refine br_te ?_ ?_; exact rfl) | (refine br_fe ?_ ?_; exact rfl) | (apply br_pyE; (exact rfl); omega) | (apply br_pnE; (exact rfl); omega) | (apply when_pyE; (exact rfl); omega) | (apply when_pnE; (exact rfl); omega) | (apply br_npyE; (exact rfl); omega) | (apply br_npnE; (exact rfl); omega) | (apply when_npyE; (exact rfl); omega) | (apply when_npnE; (exact rfl); omega) | (refine ari ?_ ?_; omega) | (refine aru ?_ ?_; omega) | (apply sel; exact rfl) | (refine ix0 rfl ?_) | (refine ix1 rfl ?_) | (refine ix2 rfl ?_) | (refine ix3 rfl ?_) | (apply ixj; omega) | (refine ixn ?_ ?_; omega) | (refine ixs0 rfl ?_) | (refine ixs1 rfl ?_) | (refine ixs_j ?_ ?_; omega) | (refine ixs_n ?_ ?_; omega) | (apply ld_o; exact rfl) | (apply ldN_a; exact rfl) | (apply ldN_o; (exact rfl); exact rfl) | (apply st_o; (exact rfl); exact rfl) | (apply stN_o; (exact rfl); (exact rfl); exact rfl) | (refine new_i (fun bk hbk => ?_)) | (apply when_dE; (exact rfl); (exact rfl); all_goals intro hc) | (apply when_dF; (exact rfl); (exact rfl); all_goals intro hc) | (apply when_nE; (exact rfl); (exact rfl); all_goals intro hc) | (apply when_nF; (exact rfl); (exact rfl); all_goals intro hc) | (apply br_dE; (exact rfl); all_goals intro hc) | (apply br_nE; (exact rfl); all_goals intro hc) | (refine mm_min ?_) | (refine mm_max ?_) | (refine rem_i ?_ ?_; omega) | (refine SelN.mk ?_) | (refine cut_n ?_) | (refine Both.mk ?_ ?_) | (exact True.intro))
      exact ⟨ret1 (vb hnm.symm), (by first | exact ent_i | (repeat (first | exact Ent.refl | exact Ent.left | refine Ent.cons ?_ | refine Ent.app ?_)))⟩
theorem sp_rName (s : ByteArray) (hs : s.size ≤ 9223372036854775807) : Pure Tryz.prog W0 53 [.string s] own (.bool (nameB s)) := by
  refine pure_of (spec_of mixed low_ref04_Name (by simp [ir_ref04_Name]) ?_)
  have hl : s.data.toList.length = s.size := by simp
  cases hq : s.data.toList with
  | nil =>
    have hnm : nameB s = false := by unfold nameB; rw [hq]
    rw [hq] at hl
    simp only [List.length_nil] at hl
    have h0 : (s.size : Int) = 0 := by omega
    repeat' ((try (conv => whnf)); first | (refine when_ye ?_ ?_; exact rfl) | (refine when_ne ?_ ?_; exact rfl) | (refine br_te ?_ ?_; exact rfl) | (refine br_fe ?_ ?_; exact rfl) | (apply br_pyE; (exact rfl); omega) | (apply br_pnE; (exact rfl); omega) | (apply when_pyE; (exact rfl); omega) | (apply when_pnE; (exact rfl); omega) | (apply br_npyE; (exact rfl); omega) | (apply br_npnE; (exact rfl); omega) | (apply when_npyE; (exact rfl); omega) | (apply when_npnE; (exact rfl); omega) | (refine br_pyE ?_ h0 ?_; exact rfl) | (refine br_pnE ?_ h0 ?_; exact rfl) | (refine when_pyE ?_ h0 ?_; exact rfl) | (refine when_pnE ?_ h0 ?_; exact rfl) | (refine br_npyE ?_ h0 ?_; exact rfl) | (refine br_npnE ?_ h0 ?_; exact rfl) | (refine when_npyE ?_ h0 ?_; exact rfl) | (refine when_npnE ?_ h0 ?_; exact rfl) | (refine ari ?_ ?_; omega) | (refine aru ?_ ?_; omega) | (apply sel; exact rfl) | (refine ix0 rfl ?_) | (refine ix1 rfl ?_) | (refine ix2 rfl ?_) | (refine ix3 rfl ?_) | (apply ixj; omega) | (refine ixn ?_ ?_; omega) | (refine ixs0 rfl ?_) | (refine ixs1 rfl ?_) | (refine ixs_j ?_ ?_; omega) | (refine ixs_n ?_ ?_; omega) | (apply ld_o; exact rfl) | (apply ldN_a; exact rfl) | (apply ldN_o; (exact rfl); exact rfl) | (apply st_o; (exact rfl); exact rfl) | (apply stN_o; (exact rfl); (exact rfl); exact rfl) | (refine new_i (fun bk hbk => ?_)) | (apply when_dE; (exact rfl); (exact rfl); all_goals intro hc) | (apply when_dF; (exact rfl); (exact rfl); all_goals intro hc) | (apply when_nE; (exact rfl); (exact rfl); all_goals intro hc) | (apply when_nF; (exact rfl); (exact rfl); all_goals intro hc) | (apply br_dE; (exact rfl); all_goals intro hc) | (apply br_nE; (exact rfl); all_goals intro hc) | (refine mm_min ?_) | (refine mm_max ?_) | (refine rem_i ?_ ?_; omega) | (refine SelN.mk ?_) | (refine cut_n ?_) | (refine Both.mk ?_ ?_) | (exact True.intro))
    exact ⟨ret1 (vb hnm.symm), (by first | exact ent_i | (repeat (first | exact Ent.refl | exact Ent.left | refine Ent.cons ?_ | refine Ent.app ?_)))⟩
  | cons c r =>
    have hc0 : s.data.toList[0]? = some c := by rw [hq]; rfl
    have hnm : nameB s = (decide ((s.size : Int) ≤ 20) && letB c && s.data.toList.all okB) := by unfold nameB; rw [hq]
    have h0 : ¬ (s.size : Int) = 0 := by rw [hq, List.length_cons] at hl; omega
    by_cases h20 : (s.size : Int) ≤ 20
    · rw [decide_eq_true h20, Bool.true_and] at hnm
      repeat' ((try (conv => whnf)); first | (refine when_ye ?_ ?_; exact rfl) | (refine when_ne ?_ ?_; exact rfl) | (refine br_te ?_ ?_; exact rfl) | (refine br_fe ?_ ?_; exact rfl) | (apply br_pyE; (exact rfl); omega) | (apply br_pnE; (exact rfl); omega) | (apply when_pyE; (exact rfl); omega) | (apply when_pnE; (exact rfl); omega) | (apply br_npyE; (exact rfl); omega) | (apply br_npnE; (exact rfl); omega) | (apply when_npyE; (exact rfl); omega) | (apply when_npnE; (exact rfl); omega) | (refine ari ?_ ?_; omega) | (refine aru ?_ ?_; omega) | (apply sel; exact rfl) | (refine ix0 rfl ?_) | (refine ix1 rfl ?_) | (refine ix2 rfl ?_) | (refine ix3 rfl ?_) | (apply ixj; omega) | (refine ixn ?_ ?_; omega) | (refine ixs0 rfl ?_) | (refine ixs1 rfl ?_) | (refine ixs_j ?_ ?_; omega) | (refine ixs_n ?_ ?_; omega) | (apply ld_o; exact rfl) | (apply ldN_a; exact rfl) | (apply ldN_o; (exact rfl); exact rfl) | (apply st_o; (exact rfl); exact rfl) | (apply stN_o; (exact rfl); (exact rfl); exact rfl) | (refine new_i (fun bk hbk => ?_)) | (apply when_dE; (exact rfl); (exact rfl); all_goals intro hc) | (apply when_dF; (exact rfl); (exact rfl); all_goals intro hc) | (apply when_nE; (exact rfl); (exact rfl); all_goals intro hc) | (apply when_nF; (exact rfl); (exact rfl); all_goals intro hc) | (apply br_dE; (exact rfl); all_goals intro hc) | (apply br_nE; (exact rfl); all_goals intro hc) | (refine mm_min ?_) | (refine mm_max ?_) | (refine rem_i ?_ ?_; omega) | (refine SelN.mk ?_) | (refine cut_n ?_) | (refine Both.mk ?_ ?_) | (exact True.intro))
      refine loop_c (σ := Nat) (fun k => [(3, .int .i64 k)]) (fun k => k ≤ s.size ∧ (k = 0 ∨ letB c = true) ∧ (s.data.toList.drop k).all okB = s.data.toList.all okB) (fun k => s.size - k) 0 ⟨by omega, .inl rfl, rfl⟩ (by repeat' (first | exact True.intro | refine And.intro ?_ ?_ | exact rfl | exact vi (by omega) | (dsimp only; exact rfl) | (dsimp only; exact vi (by omega)))) rfl ?_
      rintro k junk ⟨hk, hz, hI⟩
      by_cases hlt2 : k < s.size
      · have hlt3 : (k : Int) < s.size := by omega
        obtain ⟨x, hx⟩ : ∃ x, s.data.toList[k]? = some x := ⟨_, List.getElem?_eq_getElem (by omega)⟩
        have hx0 : k = 0 → x = c := fun e => by subst e; rw [hc0] at hx; exact (Option.some.inj hx).symm
        rw [drop_all hx] at hI
        have hb := x.toNat_lt
        by_cases h1 : 97 ≤ (x.toNat : Int) ∧ (x.toNat : Int) ≤ 122
        · obtain ⟨ha, hb⟩ := h1
          have hL : letB x = true := decide_eq_true ⟨ha, hb⟩
          have ho : okB x = true := by simp [okB, hL]
          rw [ho, Bool.true_and] at hI
          have hz' : letB c = true := by
            rcases hz with h | h
            · rw [← hx0 h]; exact hL
            · exact h
          repeat' ((try (conv => whnf)); first | (refine when_ye ?_ ?_; exact rfl) | (refine when_ne ?_ ?_; exact rfl) | (refine br_te ?_ ?_; exact rfl) | (refine br_fe ?_ ?_; exact rfl) | (apply br_pyE; (exact rfl); omega) | (apply br_pnE; (exact rfl); omega) | (apply when_pyE; (exact rfl); omega) | (apply when_pnE; (exact rfl); omega) | (apply br_npyE; (exact rfl); omega) | (apply br_npnE; (exact rfl); omega) | (apply when_npyE; (exact rfl); omega) | (apply when_npnE; (exact rfl); omega) | (refine ⟨k, x, rfl, hx, ?_⟩) | (refine ari ?_ ?_; omega) | (refine aru ?_ ?_; omega) | (apply sel; exact rfl) | (refine ix0 rfl ?_) | (refine ix1 rfl ?_) | (refine ix2 rfl ?_) | (refine ix3 rfl ?_) | (apply ixj; omega) | (refine ixn ?_ ?_; omega) | (refine ixs0 rfl ?_) | (refine ixs1 rfl ?_) | (refine ixs_j ?_ ?_; omega) | (refine ixs_n ?_ ?_; omega) | (apply ld_o; exact rfl) | (apply ldN_a; exact rfl) | (apply ldN_o; (exact rfl); exact rfl) | (apply st_o; (exact rfl); exact rfl) | (apply stN_o; (exact rfl); (exact rfl); exact rfl) | (refine new_i (fun bk hbk => ?_)) | (apply when_dE; (exact rfl); (exact rfl); all_goals intro hc) | (apply when_dF; (exact rfl); (exact rfl); all_goals intro hc) | (apply when_nE; (exact rfl); (exact rfl); all_goals intro hc) | (apply when_nF; (exact rfl); (exact rfl); all_goals intro hc) | (apply br_dE; (exact rfl); all_goals intro hc) | (apply br_nE; (exact rfl); all_goals intro hc) | (refine mm_min ?_) | (refine mm_max ?_) | (refine rem_i ?_ ?_; omega) | (refine SelN.mk ?_) | (refine cut_n ?_) | (refine Both.mk ?_ ?_) | (exact True.intro))
          exact ⟨k + 1, ⟨by omega, .inr hz', hI⟩, by omega, (by repeat' (first | exact True.intro | refine And.intro ?_ ?_ | exact rfl | exact vi (by omega) | (dsimp only; exact rfl) | (dsimp only; exact vi (by omega)))), (by first | exact ent_i | (repeat (first | exact Ent.refl | exact Ent.left | refine Ent.cons ?_ | refine Ent.app ?_)))⟩
        · have hL : letB x = false := decide_eq_false h1
          by_cases hk0 : k = 0
          · have : letB c = false := by rw [← hx0 hk0]; exact hL
            rw [this, Bool.false_and] at hnm
            have hk0' : (k : Int) = 0 := by omega
            by_cases ha : 97 ≤ (x.toNat : Int)
            · have hb2 : ¬ (x.toNat : Int) ≤ 122 := fun h => h1 ⟨ha, h⟩
              repeat' ((try (conv => whnf)); first | (refine when_ye ?_ ?_; exact rfl) | (refine when_ne ?_ ?_; exact rfl) | (refine br_te ?_ ?_; exact rfl) | (refine br_fe ?_ ?_; exact rfl) | (apply br_pyE; (exact rfl); omega) | (apply br_pnE; (exact rfl); omega) | (apply when_pyE; (exact rfl); omega) | (apply when_pnE; (exact rfl); omega) | (apply br_npyE; (exact rfl); omega) | (apply br_npnE; (exact rfl); omega) | (apply when_npyE; (exact rfl); omega) | (apply when_npnE; (exact rfl); omega) | (refine ⟨k, x, rfl, hx, ?_⟩) | (refine ari ?_ ?_; omega) | (refine aru ?_ ?_; omega) | (apply sel; exact rfl) | (refine ix0 rfl ?_) | (refine ix1 rfl ?_) | (refine ix2 rfl ?_) | (refine ix3 rfl ?_) | (apply ixj; omega) | (refine ixn ?_ ?_; omega) | (refine ixs0 rfl ?_) | (refine ixs1 rfl ?_) | (refine ixs_j ?_ ?_; omega) | (refine ixs_n ?_ ?_; omega) | (apply ld_o; exact rfl) | (apply ldN_a; exact rfl) | (apply ldN_o; (exact rfl); exact rfl) | (apply st_o; (exact rfl); exact rfl) | (apply stN_o; (exact rfl); (exact rfl); exact rfl) | (refine new_i (fun bk hbk => ?_)) | (apply when_dE; (exact rfl); (exact rfl); all_goals intro hc) | (apply when_dF; (exact rfl); (exact rfl); all_goals intro hc) | (apply when_nE; (exact rfl); (exact rfl); all_goals intro hc) | (apply when_nF; (exact rfl); (exact rfl); all_goals intro hc) | (apply br_dE; (exact rfl); all_goals intro hc) | (apply br_nE; (exact rfl); all_goals intro hc) | (refine mm_min ?_) | (refine mm_max ?_) | (refine rem_i ?_ ?_; omega) | (refine SelN.mk ?_) | (refine cut_n ?_) | (refine Both.mk ?_ ?_) | (exact True.intro))
              exact ⟨ret1 (vb hnm.symm), (by first | exact ent_i | (repeat (first | exact Ent.refl | exact Ent.left | refine Ent.cons ?_ | refine Ent.app ?_)))⟩
            · repeat' ((try (conv => whnf)); first | (refine when_ye ?_ ?_; exact rfl) | (refine when_ne ?_ ?_; exact rfl) | (refine br_te ?_ ?_; exact rfl) | (refine br_fe ?_ ?_; exact rfl) | (apply br_pyE; (exact rfl); omega) | (apply br_pnE; (exact rfl); omega) | (apply when_pyE; (exact rfl); omega) | (apply when_pnE; (exact rfl); omega) | (apply br_npyE; (exact rfl); omega) | (apply br_npnE; (exact rfl); omega) | (apply when_npyE; (exact rfl); omega) | (apply when_npnE; (exact rfl); omega) | (refine ⟨k, x, rfl, hx, ?_⟩) | (refine ari ?_ ?_; omega) | (refine aru ?_ ?_; omega) | (apply sel; exact rfl) | (refine ix0 rfl ?_) | (refine ix1 rfl ?_) | (refine ix2 rfl ?_) | (refine ix3 rfl ?_) | (apply ixj; omega) | (refine ixn ?_ ?_; omega) | (refine ixs0 rfl ?_) | (refine ixs1 rfl ?_) | (refine ixs_j ?_ ?_; omega) | (refine ixs_n ?_ ?_; omega) | (apply ld_o; exact rfl) | (apply ldN_a; exact rfl) | (apply ldN_o; (exact rfl); exact rfl) | (apply st_o; (exact rfl); exact rfl) | (apply stN_o; (exact rfl); (exact rfl); exact rfl) | (refine new_i (fun bk hbk => ?_)) | (apply when_dE; (exact rfl); (exact rfl); all_goals intro hc) | (apply when_dF; (exact rfl); (exact rfl); all_goals intro hc) | (apply when_nE; (exact rfl); (exact rfl); all_goals intro hc) | (apply when_nF; (exact rfl); (exact rfl); all_goals intro hc) | (apply br_dE; (exact rfl); all_goals intro hc) | (apply br_nE; (exact rfl); all_goals intro hc) | (refine mm_min ?_) | (refine mm_max ?_) | (refine rem_i ?_ ?_; omega) | (refine SelN.mk ?_) | (refine cut_n ?_) | (refine Both.mk ?_ ?_) | (exact True.intro))
              exact ⟨ret1 (vb hnm.symm), (by first | exact ent_i | (repeat (first | exact Ent.refl | exact Ent.left | refine Ent.cons ?_ | refine Ent.app ?_)))⟩
          · have hz' : letB c = true := by
              rcases hz with h | h
              · exact absurd h hk0
              · exact h
            have hk0' : ¬ (k : Int) = 0 := by omega
            by_cases h3 : (x.toNat : Int) = 95
            · have ho : okB x = true := by simp [okB, h3]
              rw [ho, Bool.true_and] at hI
              repeat' ((try (conv => whnf)); first | (refine when_ye ?_ ?_; exact rfl) | (refine when_ne ?_ ?_; exact rfl) | (refine br_te ?_ ?_; exact rfl) | (refine br_fe ?_ ?_; exact rfl) | (apply br_pyE; (exact rfl); omega) | (apply br_pnE; (exact rfl); omega) | (apply when_pyE; (exact rfl); omega) | (apply when_pnE; (exact rfl); omega) | (apply br_npyE; (exact rfl); omega) | (apply br_npnE; (exact rfl); omega) | (apply when_npyE; (exact rfl); omega) | (apply when_npnE; (exact rfl); omega) | (refine ⟨k, x, rfl, hx, ?_⟩) | (refine ari ?_ ?_; omega) | (refine aru ?_ ?_; omega) | (apply sel; exact rfl) | (refine ix0 rfl ?_) | (refine ix1 rfl ?_) | (refine ix2 rfl ?_) | (refine ix3 rfl ?_) | (apply ixj; omega) | (refine ixn ?_ ?_; omega) | (refine ixs0 rfl ?_) | (refine ixs1 rfl ?_) | (refine ixs_j ?_ ?_; omega) | (refine ixs_n ?_ ?_; omega) | (apply ld_o; exact rfl) | (apply ldN_a; exact rfl) | (apply ldN_o; (exact rfl); exact rfl) | (apply st_o; (exact rfl); exact rfl) | (apply stN_o; (exact rfl); (exact rfl); exact rfl) | (refine new_i (fun bk hbk => ?_)) | (apply when_dE; (exact rfl); (exact rfl); all_goals intro hc) | (apply when_dF; (exact rfl); (exact rfl); all_goals intro hc) | (apply when_nE; (exact rfl); (exact rfl); all_goals intro hc) | (apply when_nF; (exact rfl); (exact rfl); all_goals intro hc) | (apply br_dE; (exact rfl); all_goals intro hc) | (apply br_nE; (exact rfl); all_goals intro hc) | (refine mm_min ?_) | (refine mm_max ?_) | (refine rem_i ?_ ?_; omega) | (refine SelN.mk ?_) | (refine cut_n ?_) | (refine Both.mk ?_ ?_) | (exact True.intro))
              exact ⟨k + 1, ⟨by omega, .inr hz', hI⟩, by omega, (by repeat' (first | exact True.intro | refine And.intro ?_ ?_ | exact rfl | exact vi (by omega) | (dsimp only; exact rfl) | (dsimp only; exact vi (by omega)))), (by first | exact ent_i | (repeat (first | exact Ent.refl | exact Ent.left | refine Ent.cons ?_ | refine Ent.app ?_)))⟩
            · by_cases h4 : 48 ≤ (x.toNat : Int)
              · by_cases h5 : (x.toNat : Int) ≤ 57
                · have ho : okB x = true := by simp [okB, digB, h4, h5]
                  rw [ho, Bool.true_and] at hI
                  repeat' ((try (conv => whnf)); first | (refine when_ye ?_ ?_; exact rfl) | (refine when_ne ?_ ?_; exact rfl) | (refine br_te ?_ ?_; exact rfl) | (refine br_fe ?_ ?_; exact rfl) | (apply br_pyE; (exact rfl); omega) | (apply br_pnE; (exact rfl); omega) | (apply when_pyE; (exact rfl); omega) | (apply when_pnE; (exact rfl); omega) | (apply br_npyE; (exact rfl); omega) | (apply br_npnE; (exact rfl); omega) | (apply when_npyE; (exact rfl); omega) | (apply when_npnE; (exact rfl); omega) | (refine ⟨k, x, rfl, hx, ?_⟩) | (refine ari ?_ ?_; omega) | (refine aru ?_ ?_; omega) | (apply sel; exact rfl) | (refine ix0 rfl ?_) | (refine ix1 rfl ?_) | (refine ix2 rfl ?_) | (refine ix3 rfl ?_) | (apply ixj; omega) | (refine ixn ?_ ?_; omega) | (refine ixs0 rfl ?_) | (refine ixs1 rfl ?_) | (refine ixs_j ?_ ?_; omega) | (refine ixs_n ?_ ?_; omega) | (apply ld_o; exact rfl) | (apply ldN_a; exact rfl) | (apply ldN_o; (exact rfl); exact rfl) | (apply st_o; (exact rfl); exact rfl) | (apply stN_o; (exact rfl); (exact rfl); exact rfl) | (refine new_i (fun bk hbk => ?_)) | (apply when_dE; (exact rfl); (exact rfl); all_goals intro hc) | (apply when_dF; (exact rfl); (exact rfl); all_goals intro hc) | (apply when_nE; (exact rfl); (exact rfl); all_goals intro hc) | (apply when_nF; (exact rfl); (exact rfl); all_goals intro hc) | (apply br_dE; (exact rfl); all_goals intro hc) | (apply br_nE; (exact rfl); all_goals intro hc) | (refine mm_min ?_) | (refine mm_max ?_) | (refine rem_i ?_ ?_; omega) | (refine SelN.mk ?_) | (refine cut_n ?_) | (refine Both.mk ?_ ?_) | (exact True.intro))
                  exact ⟨k + 1, ⟨by omega, .inr hz', hI⟩, by omega, (by repeat' (first | exact True.intro | refine And.intro ?_ ?_ | exact rfl | exact vi (by omega) | (dsimp only; exact rfl) | (dsimp only; exact vi (by omega)))), (by first | exact ent_i | (repeat (first | exact Ent.refl | exact Ent.left | refine Ent.cons ?_ | refine Ent.app ?_)))⟩
                · have ho : okB x = false := by simp [okB, digB, hL, h3, h5]
                  rw [ho, Bool.false_and] at hI
                  by_cases ha : 97 ≤ (x.toNat : Int)
                  · have hb2 : ¬ (x.toNat : Int) ≤ 122 := fun h => h1 ⟨ha, h⟩
                    repeat' ((try (conv => whnf)); first | (refine when_ye ?_ ?_; exact rfl) | (refine when_ne ?_ ?_; exact rfl) | (refine br_te ?_ ?_; exact rfl) | (refine br_fe ?_ ?_; exact rfl) | (apply br_pyE; (exact rfl); omega) | (apply br_pnE; (exact rfl); omega) | (apply when_pyE; (exact rfl); omega) | (apply when_pnE; (exact rfl); omega) | (apply br_npyE; (exact rfl); omega) | (apply br_npnE; (exact rfl); omega) | (apply when_npyE; (exact rfl); omega) | (apply when_npnE; (exact rfl); omega) | (refine ⟨k, x, rfl, hx, ?_⟩) | (refine ari ?_ ?_; omega) | (refine aru ?_ ?_; omega) | (apply sel; exact rfl) | (refine ix0 rfl ?_) | (refine ix1 rfl ?_) | (refine ix2 rfl ?_) | (refine ix3 rfl ?_) | (apply ixj; omega) | (refine ixn ?_ ?_; omega) | (refine ixs0 rfl ?_) | (refine ixs1 rfl ?_) | (refine ixs_j ?_ ?_; omega) | (refine ixs_n ?_ ?_; omega) | (apply ld_o; exact rfl) | (apply ldN_a; exact rfl) | (apply ldN_o; (exact rfl); exact rfl) | (apply st_o; (exact rfl); exact rfl) | (apply stN_o; (exact rfl); (exact rfl); exact rfl) | (refine new_i (fun bk hbk => ?_)) | (apply when_dE; (exact rfl); (exact rfl); all_goals intro hc) | (apply when_dF; (exact rfl); (exact rfl); all_goals intro hc) | (apply when_nE; (exact rfl); (exact rfl); all_goals intro hc) | (apply when_nF; (exact rfl); (exact rfl); all_goals intro hc) | (apply br_dE; (exact rfl); all_goals intro hc) | (apply br_nE; (exact rfl); all_goals intro hc) | (refine mm_min ?_) | (refine mm_max ?_) | (refine rem_i ?_ ?_; omega) | (refine SelN.mk ?_) | (refine cut_n ?_) | (refine Both.mk ?_ ?_) | (exact True.intro))
                    exact ⟨ret1 (vb (by rw [hnm, ← hI, Bool.and_false])), (by first | exact ent_i | (repeat (first | exact Ent.refl | exact Ent.left | refine Ent.cons ?_ | refine Ent.app ?_)))⟩
                  · repeat' ((try (conv => whnf)); first | (refine when_ye ?_ ?_; exact rfl) | (refine when_ne ?_ ?_; exact rfl) | (refine br_te ?_ ?_; exact rfl) | (refine br_fe ?_ ?_; exact rfl) | (apply br_pyE; (exact rfl); omega) | (apply br_pnE; (exact rfl); omega) | (apply when_pyE; (exact rfl); omega) | (apply when_pnE; (exact rfl); omega) | (apply br_npyE; (exact rfl); omega) | (apply br_npnE; (exact rfl); omega) | (apply when_npyE; (exact rfl); omega) | (apply when_npnE; (exact rfl); omega) | (refine ⟨k, x, rfl, hx, ?_⟩) | (refine ari ?_ ?_; omega) | (refine aru ?_ ?_; omega) | (apply sel; exact rfl) | (refine ix0 rfl ?_) | (refine ix1 rfl ?_) | (refine ix2 rfl ?_) | (refine ix3 rfl ?_) | (apply ixj; omega) | (refine ixn ?_ ?_; omega) | (refine ixs0 rfl ?_) | (refine ixs1 rfl ?_) | (refine ixs_j ?_ ?_; omega) | (refine ixs_n ?_ ?_; omega) | (apply ld_o; exact rfl) | (apply ldN_a; exact rfl) | (apply ldN_o; (exact rfl); exact rfl) | (apply st_o; (exact rfl); exact rfl) | (apply stN_o; (exact rfl); (exact rfl); exact rfl) | (refine new_i (fun bk hbk => ?_)) | (apply when_dE; (exact rfl); (exact rfl); all_goals intro hc) | (apply when_dF; (exact rfl); (exact rfl); all_goals intro hc) | (apply when_nE; (exact rfl); (exact rfl); all_goals intro hc) | (apply when_nF; (exact rfl); (exact rfl); all_goals intro hc) | (apply br_dE; (exact rfl); all_goals intro hc) | (apply br_nE; (exact rfl); all_goals intro hc) | (refine mm_min ?_) | (refine mm_max ?_) | (refine rem_i ?_ ?_; omega) | (refine SelN.mk ?_) | (refine cut_n ?_) | (refine Both.mk ?_ ?_) | (exact True.intro))
                    exact ⟨ret1 (vb (by rw [hnm, ← hI, Bool.and_false])), (by first | exact ent_i | (repeat (first | exact Ent.refl | exact Ent.left | refine Ent.cons ?_ | refine Ent.app ?_)))⟩
              · have ho : okB x = false := by simp [okB, digB, hL, h3, h4]
                rw [ho, Bool.false_and] at hI
                repeat' ((try (conv => whnf)); first | (refine when_ye ?_ ?_; exact rfl) | (refine when_ne ?_ ?_; exact rfl) | (refine br_te ?_ ?_; exact rfl) | (refine br_fe ?_ ?_; exact rfl) | (apply br_pyE; (exact rfl); omega) | (apply br_pnE; (exact rfl); omega) | (apply when_pyE; (exact rfl); omega) | (apply when_pnE; (exact rfl); omega) | (apply br_npyE; (exact rfl); omega) | (apply br_npnE; (exact rfl); omega) | (apply when_npyE; (exact rfl); omega) | (apply when_npnE; (exact rfl); omega) | (refine ⟨k, x, rfl, hx, ?_⟩) | (refine ari ?_ ?_; omega) | (refine aru ?_ ?_; omega) | (apply sel; exact rfl) | (refine ix0 rfl ?_) | (refine ix1 rfl ?_) | (refine ix2 rfl ?_) | (refine ix3 rfl ?_) | (apply ixj; omega) | (refine ixn ?_ ?_; omega) | (refine ixs0 rfl ?_) | (refine ixs1 rfl ?_) | (refine ixs_j ?_ ?_; omega) | (refine ixs_n ?_ ?_; omega) | (apply ld_o; exact rfl) | (apply ldN_a; exact rfl) | (apply ldN_o; (exact rfl); exact rfl) | (apply st_o; (exact rfl); exact rfl) | (apply stN_o; (exact rfl); (exact rfl); exact rfl) | (refine new_i (fun bk hbk => ?_)) | (apply when_dE; (exact rfl); (exact rfl); all_goals intro hc) | (apply when_dF; (exact rfl); (exact rfl); all_goals intro hc) | (apply when_nE; (exact rfl); (exact rfl); all_goals intro hc) | (apply when_nF; (exact rfl); (exact rfl); all_goals intro hc) | (apply br_dE; (exact rfl); all_goals intro hc) | (apply br_nE; (exact rfl); all_goals intro hc) | (refine mm_min ?_) | (refine mm_max ?_) | (refine rem_i ?_ ?_; omega) | (refine SelN.mk ?_) | (refine cut_n ?_) | (refine Both.mk ?_ ?_) | (exact True.intro))
                exact ⟨ret1 (vb (by rw [hnm, ← hI, Bool.and_false])), (by first | exact ent_i | (repeat (first | exact Ent.refl | exact Ent.left | refine Ent.cons ?_ | refine Ent.app ?_)))⟩
      · have hlt3 : ¬ (k : Int) < s.size := by omega
        have : s.data.toList.drop k = [] := List.drop_eq_nil_of_le (by omega)
        rw [this] at hI
        have hz' : letB c = true := by
          rcases hz with h | h
          · omega
          · exact h
        repeat' ((try (conv => whnf)); first | (refine when_ye ?_ ?_; exact rfl) | (refine when_ne ?_ ?_; exact rfl) | (refine br_te ?_ ?_; exact rfl) | (refine br_fe ?_ ?_; exact rfl) | (apply br_pyE; (exact rfl); omega) | (apply br_pnE; (exact rfl); omega) | (apply when_pyE; (exact rfl); omega) | (apply when_pnE; (exact rfl); omega) | (apply br_npyE; (exact rfl); omega) | (apply br_npnE; (exact rfl); omega) | (apply when_npyE; (exact rfl); omega) | (apply when_npnE; (exact rfl); omega) | (refine ari ?_ ?_; omega) | (refine aru ?_ ?_; omega) | (apply sel; exact rfl) | (refine ix0 rfl ?_) | (refine ix1 rfl ?_) | (refine ix2 rfl ?_) | (refine ix3 rfl ?_) | (apply ixj; omega) | (refine ixn ?_ ?_; omega) | (refine ixs0 rfl ?_) | (refine ixs1 rfl ?_) | (refine ixs_j ?_ ?_; omega) | (refine ixs_n ?_ ?_; omega) | (apply ld_o; exact rfl) | (apply ldN_a; exact rfl) | (apply ldN_o; (exact rfl); exact rfl) | (apply st_o; (exact rfl); exact rfl) | (apply stN_o; (exact rfl); (exact rfl); exact rfl) | (refine new_i (fun bk hbk => ?_)) | (apply when_dE; (exact rfl); (exact rfl); all_goals intro hc) | (apply when_dF; (exact rfl); (exact rfl); all_goals intro hc) | (apply when_nE; (exact rfl); (exact rfl); all_goals intro hc) | (apply when_nF; (exact rfl); (exact rfl); all_goals intro hc) | (apply br_dE; (exact rfl); all_goals intro hc) | (apply br_nE; (exact rfl); all_goals intro hc) | (refine mm_min ?_) | (refine mm_max ?_) | (refine rem_i ?_ ?_; omega) | (refine SelN.mk ?_) | (refine cut_n ?_) | (refine Both.mk ?_ ?_) | (exact True.intro))
        exact ⟨ret1 (vb (by rw [hnm, ← hI, hz']; rfl)), (by first | exact ent_i | (repeat (first | exact Ent.refl | exact Ent.left | refine Ent.cons ?_ | refine Ent.app ?_)))⟩
    · rw [decide_eq_false h20, Bool.false_and, Bool.false_and] at hnm
      repeat' ((try (conv => whnf)); first | (refine when_ye ?_ ?_; exact rfl) | (refine when_ne ?_ ?_; exact rfl) | (refine br_te ?_ ?_; exact rfl) | (refine br_fe ?_ ?_; exact rfl) | (apply br_pyE; (exact rfl); omega) | (apply br_pnE; (exact rfl); omega) | (apply when_pyE; (exact rfl); omega) | (apply when_pnE; (exact rfl); omega) | (apply br_npyE; (exact rfl); omega) | (apply br_npnE; (exact rfl); omega) | (apply when_npyE; (exact rfl); omega) | (apply when_npnE; (exact rfl); omega) | (refine ari ?_ ?_; omega) | (refine aru ?_ ?_; omega) | (apply sel; exact rfl) | (refine ix0 rfl ?_) | (refine ix1 rfl ?_) | (refine ix2 rfl ?_) | (refine ix3 rfl ?_) | (apply ixj; omega) | (refine ixn ?_ ?_; omega) | (refine ixs0 rfl ?_) | (refine ixs1 rfl ?_) | (refine ixs_j ?_ ?_; omega) | (refine ixs_n ?_ ?_; omega) | (apply ld_o; exact rfl) | (apply ldN_a; exact rfl) | (apply ldN_o; (exact rfl); exact rfl) | (apply st_o; (exact rfl); exact rfl) | (apply stN_o; (exact rfl); (exact rfl); exact rfl) | (refine new_i (fun bk hbk => ?_)) | (apply when_dE; (exact rfl); (exact rfl); all_goals intro hc) | (apply when_dF; (exact rfl); (exact rfl); all_goals intro hc) | (apply when_nE; (exact rfl); (exact rfl); all_goals intro hc) | (apply when_nF; (exact rfl); (exact rfl); all_goals intro hc) | (apply br_dE; (exact rfl); all_goals intro hc) | (apply br_nE; (exact rfl); all_goals intro hc) | (refine mm_min ?_) | (refine mm_max ?_) | (refine rem_i ?_ ?_; omega) | (refine SelN.mk ?_) | (refine cut_n ?_) | (refine Both.mk ?_ ?_) | (exact True.intro))
      exact ⟨ret1 (vb hnm.symm), (by first | exact ent_i | (repeat (first | exact Ent.refl | exact Ent.left | refine Ent.cons ?_ | refine Ent.app ?_)))⟩
theorem sp_isRegister (s : ByteArray) : Pure Tryz.prog W0 123 [.string s] own (.bool (regM s).2) := by
  refine pure_of (spec_of mixed low_asm_isRegister (by simp [ir_asm_isRegister]) ?_)
  have hl : s.data.toList.length = s.size := by simp
  by_cases h2 : (s.size : Int) = 2
  · obtain ⟨c, d, e⟩ : ∃ c d, s.data.toList = [c, d] := by
      match s.data.toList, hl with
      | [c, d], _ => exact ⟨c, d, rfl⟩
      | [], h => simp at h; omega
      | [c], h => simp at h; omega
      | _ :: _ :: _ :: _, h => simp at h; omega
    have h0 : s.data.toList[0]? = some c := by rw [e]; rfl
    have h1 : s.data.toList[1]? = some d := by rw [e]; rfl
    have hr : regM s = if (c.toNat : Int) = 114 ∧ 48 ≤ (d.toNat : Int) ∧ (d.toNat : Int) ≤ 55 then ((d.toNat : Int) - 48, true) else (0, false) := by unfold regM; rw [e]
    have hd := d.toNat_lt
    by_cases hc1 : (c.toNat : Int) = 114
    · by_cases hd1 : (d.toNat : Int) < 48
      · rw [hr, if_neg (by omega)]
        repeat' ((try (conv => whnf)); first | (refine when_ye ?_ ?_; exact rfl) | (refine when_ne ?_ ?_; exact rfl) | (refine br_te ?_ ?_; exact rfl) | (refine br_fe ?_ ?_; exact rfl) | (apply br_pyE; (exact rfl); omega) | (apply br_pnE; (exact rfl); omega) | (apply when_pyE; (exact rfl); omega) | (apply when_pnE; (exact rfl); omega) | (apply br_npyE; (exact rfl); omega) | (apply br_npnE; (exact rfl); omega) | (apply when_npyE; (exact rfl); omega) | (apply when_npnE; (exact rfl); omega) | (refine ⟨0, c, rfl, h0, ?_⟩) | (refine ⟨1, d, rfl, h1, ?_⟩) | (refine ari ?_ ?_; omega) | (refine aru ?_ ?_; omega) | (apply sel; exact rfl) | (refine ix0 rfl ?_) | (refine ix1 rfl ?_) | (refine ix2 rfl ?_) | (refine ix3 rfl ?_) | (apply ixj; omega) | (refine ixn ?_ ?_; omega) | (refine ixs0 rfl ?_) | (refine ixs1 rfl ?_) | (refine ixs_j ?_ ?_; omega) | (refine ixs_n ?_ ?_; omega) | (apply ld_o; exact rfl) | (apply ldN_a; exact rfl) | (apply ldN_o; (exact rfl); exact rfl) | (apply st_o; (exact rfl); exact rfl) | (apply stN_o; (exact rfl); (exact rfl); exact rfl) | (refine new_i (fun bk hbk => ?_)) | (apply when_dE; (exact rfl); (exact rfl); all_goals intro hc) | (apply when_dF; (exact rfl); (exact rfl); all_goals intro hc) | (apply when_nE; (exact rfl); (exact rfl); all_goals intro hc) | (apply when_nF; (exact rfl); (exact rfl); all_goals intro hc) | (apply br_dE; (exact rfl); all_goals intro hc) | (apply br_nE; (exact rfl); all_goals intro hc) | (refine mm_min ?_) | (refine mm_max ?_) | (refine rem_i ?_ ?_; omega) | (refine SelN.mk ?_) | (refine cut_n ?_) | (refine Both.mk ?_ ?_) | (exact True.intro))
        exact ⟨rfl, (by first | exact ent_i | (repeat (first | exact Ent.refl | exact Ent.left | refine Ent.cons ?_ | refine Ent.app ?_)))⟩
      · by_cases hd2 : (d.toNat : Int) ≤ 55
        · rw [hr, if_pos (by omega)]
          repeat' ((try (conv => whnf)); first | (refine when_ye ?_ ?_; exact rfl) | (refine when_ne ?_ ?_; exact rfl) | (refine br_te ?_ ?_; exact rfl) | (refine br_fe ?_ ?_; exact rfl) | (apply br_pyE; (exact rfl); omega) | (apply br_pnE; (exact rfl); omega) | (apply when_pyE; (exact rfl); omega) | (apply when_pnE; (exact rfl); omega) | (apply br_npyE; (exact rfl); omega) | (apply br_npnE; (exact rfl); omega) | (apply when_npyE; (exact rfl); omega) | (apply when_npnE; (exact rfl); omega) | (refine ⟨0, c, rfl, h0, ?_⟩) | (refine ⟨1, d, rfl, h1, ?_⟩) | (refine ari ?_ ?_; omega) | (refine aru ?_ ?_; omega) | (apply sel; exact rfl) | (refine ix0 rfl ?_) | (refine ix1 rfl ?_) | (refine ix2 rfl ?_) | (refine ix3 rfl ?_) | (apply ixj; omega) | (refine ixn ?_ ?_; omega) | (refine ixs0 rfl ?_) | (refine ixs1 rfl ?_) | (refine ixs_j ?_ ?_; omega) | (refine ixs_n ?_ ?_; omega) | (apply ld_o; exact rfl) | (apply ldN_a; exact rfl) | (apply ldN_o; (exact rfl); exact rfl) | (apply st_o; (exact rfl); exact rfl) | (apply stN_o; (exact rfl); (exact rfl); exact rfl) | (refine new_i (fun bk hbk => ?_)) | (apply when_dE; (exact rfl); (exact rfl); all_goals intro hc) | (apply when_dF; (exact rfl); (exact rfl); all_goals intro hc) | (apply when_nE; (exact rfl); (exact rfl); all_goals intro hc) | (apply when_nF; (exact rfl); (exact rfl); all_goals intro hc) | (apply br_dE; (exact rfl); all_goals intro hc) | (apply br_nE; (exact rfl); all_goals intro hc) | (refine mm_min ?_) | (refine mm_max ?_) | (refine rem_i ?_ ?_; omega) | (refine SelN.mk ?_) | (refine cut_n ?_) | (refine Both.mk ?_ ?_) | (exact True.intro))
          exact ⟨ret1 (vb (decide_eq_true (by omega))), (by first | exact ent_i | (repeat (first | exact Ent.refl | exact Ent.left | refine Ent.cons ?_ | refine Ent.app ?_)))⟩
        · rw [hr, if_neg (by omega)]
          repeat' ((try (conv => whnf)); first | (refine when_ye ?_ ?_; exact rfl) | (refine when_ne ?_ ?_; exact rfl) | (refine br_te ?_ ?_; exact rfl) | (refine br_fe ?_ ?_; exact rfl) | (apply br_pyE; (exact rfl); omega) | (apply br_pnE; (exact rfl); omega) | (apply when_pyE; (exact rfl); omega) | (apply when_pnE; (exact rfl); omega) | (apply br_npyE; (exact rfl); omega) | (apply br_npnE; (exact rfl); omega) | (apply when_npyE; (exact rfl); omega) | (apply when_npnE; (exact rfl); omega) | (refine ⟨0, c, rfl, h0, ?_⟩) | (refine ⟨1, d, rfl, h1, ?_⟩) | (refine ari ?_ ?_; omega) | (refine aru ?_ ?_; omega) | (apply sel; exact rfl) | (refine ix0 rfl ?_) | (refine ix1 rfl ?_) | (refine ix2 rfl ?_) | (refine ix3 rfl ?_) | (apply ixj; omega) | (refine ixn ?_ ?_; omega) | (refine ixs0 rfl ?_) | (refine ixs1 rfl ?_) | (refine ixs_j ?_ ?_; omega) | (refine ixs_n ?_ ?_; omega) | (apply ld_o; exact rfl) | (apply ldN_a; exact rfl) | (apply ldN_o; (exact rfl); exact rfl) | (apply st_o; (exact rfl); exact rfl) | (apply stN_o; (exact rfl); (exact rfl); exact rfl) | (refine new_i (fun bk hbk => ?_)) | (apply when_dE; (exact rfl); (exact rfl); all_goals intro hc) | (apply when_dF; (exact rfl); (exact rfl); all_goals intro hc) | (apply when_nE; (exact rfl); (exact rfl); all_goals intro hc) | (apply when_nF; (exact rfl); (exact rfl); all_goals intro hc) | (apply br_dE; (exact rfl); all_goals intro hc) | (apply br_nE; (exact rfl); all_goals intro hc) | (refine mm_min ?_) | (refine mm_max ?_) | (refine rem_i ?_ ?_; omega) | (refine SelN.mk ?_) | (refine cut_n ?_) | (refine Both.mk ?_ ?_) | (exact True.intro))
          exact ⟨ret1 (vb (decide_eq_false (by omega))), (by first | exact ent_i | (repeat (first | exact Ent.refl | exact Ent.left | refine Ent.cons ?_ | refine Ent.app ?_)))⟩
    · rw [hr, if_neg (by omega)]
      repeat' ((try (conv => whnf)); first | (refine when_ye ?_ ?_; exact rfl) | (refine when_ne ?_ ?_; exact rfl) | (refine br_te ?_ ?_; exact rfl) | (refine br_fe ?_ ?_; exact rfl) | (apply br_pyE; (exact rfl); omega) | (apply br_pnE; (exact rfl); omega) | (apply when_pyE; (exact rfl); omega) | (apply when_pnE; (exact rfl); omega) | (apply br_npyE; (exact rfl); omega) | (apply br_npnE; (exact rfl); omega) | (apply when_npyE; (exact rfl); omega) | (apply when_npnE; (exact rfl); omega) | (refine ⟨0, c, rfl, h0, ?_⟩) | (refine ⟨1, d, rfl, h1, ?_⟩) | (refine ari ?_ ?_; omega) | (refine aru ?_ ?_; omega) | (apply sel; exact rfl) | (refine ix0 rfl ?_) | (refine ix1 rfl ?_) | (refine ix2 rfl ?_) | (refine ix3 rfl ?_) | (apply ixj; omega) | (refine ixn ?_ ?_; omega) | (refine ixs0 rfl ?_) | (refine ixs1 rfl ?_) | (refine ixs_j ?_ ?_; omega) | (refine ixs_n ?_ ?_; omega) | (apply ld_o; exact rfl) | (apply ldN_a; exact rfl) | (apply ldN_o; (exact rfl); exact rfl) | (apply st_o; (exact rfl); exact rfl) | (apply stN_o; (exact rfl); (exact rfl); exact rfl) | (refine new_i (fun bk hbk => ?_)) | (apply when_dE; (exact rfl); (exact rfl); all_goals intro hc) | (apply when_dF; (exact rfl); (exact rfl); all_goals intro hc) | (apply when_nE; (exact rfl); (exact rfl); all_goals intro hc) | (apply when_nF; (exact rfl); (exact rfl); all_goals intro hc) | (apply br_dE; (exact rfl); all_goals intro hc) | (apply br_nE; (exact rfl); all_goals intro hc) | (refine mm_min ?_) | (refine mm_max ?_) | (refine rem_i ?_ ?_; omega) | (refine SelN.mk ?_) | (refine cut_n ?_) | (refine Both.mk ?_ ?_) | (exact True.intro))
      exact ⟨rfl, (by first | exact ent_i | (repeat (first | exact Ent.refl | exact Ent.left | refine Ent.cons ?_ | refine Ent.app ?_)))⟩
  · rw [reg_no (by omega)]
    repeat' ((try (conv => whnf)); first | (refine when_ye ?_ ?_; exact rfl) | (refine when_ne ?_ ?_; exact rfl) | (refine br_te ?_ ?_; exact rfl) | (refine br_fe ?_ ?_; exact rfl) | (apply br_pyE; (exact rfl); omega) | (apply br_pnE; (exact rfl); omega) | (apply when_pyE; (exact rfl); omega) | (apply when_pnE; (exact rfl); omega) | (apply br_npyE; (exact rfl); omega) | (apply br_npnE; (exact rfl); omega) | (apply when_npyE; (exact rfl); omega) | (apply when_npnE; (exact rfl); omega) | (refine ari ?_ ?_; omega) | (refine aru ?_ ?_; omega) | (apply sel; exact rfl) | (refine ix0 rfl ?_) | (refine ix1 rfl ?_) | (refine ix2 rfl ?_) | (refine ix3 rfl ?_) | (apply ixj; omega) | (refine ixn ?_ ?_; omega) | (refine ixs0 rfl ?_) | (refine ixs1 rfl ?_) | (refine ixs_j ?_ ?_; omega) | (refine ixs_n ?_ ?_; omega) | (apply ld_o; exact rfl) | (apply ldN_a; exact rfl) | (apply ldN_o; (exact rfl); exact rfl) | (apply st_o; (exact rfl); exact rfl) | (apply stN_o; (exact rfl); (exact rfl); exact rfl) | (refine new_i (fun bk hbk => ?_)) | (apply when_dE; (exact rfl); (exact rfl); all_goals intro hc) | (apply when_dF; (exact rfl); (exact rfl); all_goals intro hc) | (apply when_nE; (exact rfl); (exact rfl); all_goals intro hc) | (apply when_nF; (exact rfl); (exact rfl); all_goals intro hc) | (apply br_dE; (exact rfl); all_goals intro hc) | (apply br_nE; (exact rfl); all_goals intro hc) | (refine mm_min ?_) | (refine mm_max ?_) | (refine rem_i ?_ ?_; omega) | (refine SelN.mk ?_) | (refine cut_n ?_) | (refine Both.mk ?_ ?_) | (exact True.intro))
    exact ⟨rfl, (by first | exact ent_i | (repeat (first | exact Ent.refl | exact Ent.left | refine Ent.cons ?_ | refine Ent.app ?_)))⟩
end
end Go.Proofs.YtiimndcifcoofaaGreatDoor
namespace Go.Proofs.YtiimndcifcoofaaGreatDoor
open Go Go.RowKit
set_option maxRecDepth 10000
set_option maxHeartbeats 4000000
def tlM (ws : List ByteArray) : Ins × ByteArray × Bool := match jmpM ws with
  | some x => (x.1, x.2, true)
  | none => (insZ, noB, false)
def rjM : List ByteArray → Ins × ByteArray × Bool
  | [w0, n] => if w0.toList = jumpW.toList ∧ nameB n = true then (⟨4, 0, 0, 0, 0⟩, n, true) else (insZ, noB, false)
  | [w0, r, n] => if (w0.toList = zeroW.toList ∨ w0.toList = nonzW.toList) ∧ nameB n = true then (⟨if w0.toList = nonzW.toList then 6 else 5, (regM r).1, 0, 0, 0⟩, n, (regM r).2) else (insZ, noB, false)
  | _ => (insZ, noB, false)
theorem jmp_cases {ws : List ByteArray} {i : Ins} {n : ByteArray} (h : jmpM ws = some (i, n)) : (∃ w0, ws = [w0, n] ∧ w0.toList = jumpW.toList ∧ nameB n = true) ∨
    (∃ w0 r, ws = [w0, r, n] ∧ (w0.toList = zeroW.toList ∨ w0.toList = nonzW.toList) ∧ (regM r).2 = true ∧ nameB n = true) := by
  rcases ws with _ | ⟨w0, _ | ⟨w1, _ | ⟨w2, _ | ⟨w3, r⟩⟩⟩⟩
  · cases h
  · cases h
  · simp only [jmpM] at h
    split at h
    · rename_i hc
      simp only [Option.some.injEq, Prod.mk.injEq] at h
      obtain ⟨_, rfl⟩ := h
      exact .inl ⟨_, rfl, hc⟩
    · cases h
  · simp only [jmpM] at h
    split at h
    · rename_i hc
      simp only [Option.some.injEq, Prod.mk.injEq] at h
      obtain ⟨_, rfl⟩ := h
      exact .inr ⟨_, _, rfl, hc⟩
    · cases h
  · cases h
theorem rj_some {ws : List ByteArray} {x : Ins × ByteArray} (h : jmpM ws = some x) : rjM ws = (x.1, x.2, true) := by
  match ws, h with
  | [w0, n], h =>
    simp only [jmpM] at h
    split at h
    · rename_i hc
      simp only [Option.some.injEq] at h
      subst h
      simp only [rjM]
      rw [if_pos hc]
    · cases h
  | [w0, r, n], h =>
    simp only [jmpM] at h
    split at h
    · rename_i hc
      simp only [Option.some.injEq] at h
      subst h
      simp only [rjM]
      rw [if_pos ⟨hc.1, hc.2.2⟩, hc.2.1]
    · cases h
theorem rj_none {ws : List ByteArray} (h : jmpM ws = none) : (rjM ws).2.2 = false := by
  unfold rjM
  split
  · rename_i w0 n
    simp only [jmpM] at h
    split at h
    · cases h
    · rename_i hc
      rw [if_neg hc]
  · rename_i w0 r n
    simp only [jmpM] at h
    split at h
    · cases h
    · rename_i hc
      split
      · rename_i h2
        cases hr : (regM r).2 with
        | false => rfl
        | true => exact absurd ⟨h2.1, hr, h2.2⟩ hc
      · rfl
  · rfl
section
variable {W0 : World} {own : Own}
theorem splitL (w : World) : Go.Proofs.PredAtRunes Tryz.prog 122 #[] spR w := fun W r _ _ => by
  unfold Go.Proofs.FnGives spR
  by_cases h1 : r = 32
  all_goals
    have z1 : (r : Int) = 32 ↔ r = 32 := by omega
    go_enter Tryz.func122, Tryz.ntmps122
    go_wp2
    all_goals first | (exfalso; omega) | (go_ret; exact ⟨by simp [h1, z1], 0, rfl⟩) | (go_ret; refine ⟨?_, 0, rfl⟩; simp [h1]; omega)
theorem sp_fieldsL (s : ByteArray) (hs : s.size ≤ 4294967296) : Spec Tryz.prog W0 105 [.string s, .func (.func 122) #[] #[]] own fun v own' => ∃ b, v = .slice (some ⟨b, 0, none⟩) (wordsM s).length (wordsM s).length ∧ own' = canE encS 9 b (wordsM s) :: own := by
  intro w hw
  refine (shelf_strings_FieldsFunc_runes 122 #[] (Go.Proofs.enters_of Tryz.func122 (by kernel_rfl) rfl) spR s w hs (splitL w)).mono ?_
  rintro e w' ⟨A, rfl, hA, hrow, hb⟩
  rw [fields_words] at *
  obtain ⟨_, h | ⟨g, cap, cur, hv, hg, hcell, _, _, hcs, htake⟩⟩ := hrow
  · cases h.1
  · simp only [Value.slice.injEq, Option.some.injEq, Addr.mk.injEq] at hv
    obtain ⟨⟨rfl, _, _⟩, _, rfl⟩ := hv
    refine ⟨_, _, rfl, hw.newB hb hg hcell ?_, A, rfl, rfl⟩
    rw [Nat.mul_one] at *
    rw [flatS]
    have : cur.toList = (wordsM s).map Value.string := by
      rw [← htake, List.take_of_length_le (by simp; omega)]
    rw [← this]
theorem call_joinW {b : Nat} {l : List ByteArray} {r : Own} {k : FuncId} {args : List Value} {K : Value → Own → Prop} (ho : own = [canE encS 9 b l] ++ r) (hne : l ≠ []) (hl : l.length ≤ 140737488355328)
    (hj : (Go.Lib.join (l.map (fun x => x.data.toList)) [32]).length ≤ 140737488355328) (ek : k = 37) (ea : args = [.slice (some ⟨b, 0, none⟩) l.length l.length, .string ⟨#[32]⟩]) (hk : K (.string (joinW l)) own) : CallT Tryz.prog W0 own k args K := by
  subst ho
  exact call_pe (sp_join (W0 := W0) (own := [canE encS 9 b l] ++ r) (D := [canE encS 9 b l]) (sep := ⟨#[32]⟩) (can_buf (fun _ _ => rfl)) hne hl hj) ek ea hk
theorem sp_toLabel (hA : AsmAt W0) (s : ByteArray) (hs : s.size ≤ 65536) : Pure Tryz.prog W0 81 [.string s] own (.tuple #[(tlM (wordsM s)).1.v, .string (tlM (wordsM s)).2.1, .bool (tlM (wordsM s)).2.2]) := by
  refine pure_of (spec_of mixed low_asm_toLabel (by simp [ir_asm_toLabel]) ?_)
  have hf := fun own => sp_fieldsL (W0 := W0) (own := own) s (by omega)
  have hsz : ∀ w ∈ wordsM s, w.size ≤ 9223372036854775807 := fun w hw => by have := word_size hw; omega
  have hP := fun x own => sp_parse (own := own) hA.isa.lib hA.isa.forms hA.isa.names x
  generalize wordsM s = ws at *
  have hwd : ∀ x ∈ ws, (encS x).length = 1 := fun _ _ => rfl
  cases hj : jmpM ws with
  | some x =>
    obtain ⟨i, n⟩ := x
    obtain ⟨hl, hn, hp⟩ := jmp_parse hj
    have e : tlM ws = (i, n, true) := by unfold tlM; rw [hj]
    rw [e]
    have hP' := fun own => hP (joinW (ws.dropLast ++ [⟨#[48]⟩])) own
    rw [hp] at hP'
    rcases jmp_cases hj with ⟨w0, rfl, hc1, hc2⟩ | ⟨w0, r, rfl, hc1, hc3, hc2⟩
    · clear hj
      have hP2 : ∀ own, Pure Tryz.prog W0 48 [.string (joinW ([w0, n].set 1 ⟨#[48]⟩))] own (.tuple #[i.v, .int .i64 0]) := hP'
      have hna := fun own => sp_isName (W0 := W0) (own := own) n (hsz n (by simp))
      rw [hc2] at hna
      have hnl : 2 = [w0, n].length := rfl
      have hx0 : [w0, n][0]? = some w0 := rfl
      have hx1 : [w0, n][1]? = some n := rfl
      have hjl : (Go.Lib.join (([w0, n].set 1 ⟨#[48]⟩).map (fun x => x.data.toList)) [32]).length ≤ 140737488355328 := by
        have := ba_toList hc1
        subst this
        show (6 : Nat) ≤ _
        omega
      repeat' ((try (conv => whnf)); first | (refine when_ye ?_ ?_; exact rfl) | (refine when_ne ?_ ?_; exact rfl) | (refine br_te ?_ ?_; exact rfl) | (refine br_fe ?_ ?_; exact rfl) | (apply br_pyE; (exact rfl); omega) | (apply br_pnE; (exact rfl); omega) | (apply when_pyE; (exact rfl); omega) | (apply when_pnE; (exact rfl); omega) | (apply br_npyE; (exact rfl); omega) | (apply br_npnE; (exact rfl); omega) | (apply when_npyE; (exact rfl); omega) | (apply when_npnE; (exact rfl); omega) | (refine br_pyE ?_ hc1 ?_; exact rfl) | (refine br_pnE ?_ hc1 ?_; exact rfl) | (refine when_pyE ?_ hc1 ?_; exact rfl) | (refine when_pnE ?_ hc1 ?_; exact rfl) | (refine br_npyE ?_ hc1 ?_; exact rfl) | (refine br_npnE ?_ hc1 ?_; exact rfl) | (refine when_npyE ?_ hc1 ?_; exact rfl) | (refine when_npnE ?_ hc1 ?_; exact rfl) | ((with_reducible show Ld _ _ _ _); first | (refine ldC0 hwd hx0 rfl ?_) | (refine ldC1 hwd hx0 rfl ?_) | (refine ldC hwd hx0 rfl ?_) | (refine ldC0 hwd hx1 rfl ?_) | (refine ldC1 hwd hx1 rfl ?_) | (refine ldC hwd hx1 rfl ?_)) | ((with_reducible show IxS _ _ _ _ _); first | ((refine ixC hx0 hnl ?_ ?_; (first | rfl | omega))) | ((refine ixC hx1 hnl ?_ ?_; (first | rfl | omega)))) | ((with_reducible show LdN _ _ _ _ _); first | (refine ldNC hwd hx0 rfl ?_) | (refine ldNC hwd hx1 rfl ?_)) | ((with_reducible show CallT _ _ _ _ _ _); first | ((refine call_se (hf _) ?_ ?_ (fun v own' hv => ?_); (exact rfl); (exact rfl); (obtain ⟨b, rfl, rfl⟩ := hv))) | ((refine call_pe (hna _) ?_ ?_ ?_; (exact rfl); exact rfl)) | ((refine call_joinW (l := [w0, n].set 1 ⟨#[48]⟩) (by exact rfl) (by simp) (by simp) hjl ?_ ?_ ?_; (exact rfl); (exact rfl))) | ((refine call_pe (hP2 _) ?_ ?_ ?_; (exact rfl); exact rfl))) | ((with_reducible show StT _ _ _ _ _); first | ((refine stC (T := 9) (k := 0) ((⟨#[48]⟩ : ByteArray)) hwd hx1 ?_ ?_ ?_ ?_ ?_; (exact rfl); (omega); (exact rfl); (exact rfl)))) | (refine ari ?_ ?_; omega) | (refine aru ?_ ?_; omega) | (apply sel; exact rfl) | (refine ix0 rfl ?_) | (refine ix1 rfl ?_) | (refine ix2 rfl ?_) | (refine ix3 rfl ?_) | (apply ixj; omega) | (refine ixn ?_ ?_; omega) | (refine ixs0 rfl ?_) | (refine ixs1 rfl ?_) | (refine ixs_j ?_ ?_; omega) | (refine ixs_n ?_ ?_; omega) | (apply ld_o; exact rfl) | (apply ldN_a; exact rfl) | (apply ldN_o; (exact rfl); exact rfl) | (apply st_o; (exact rfl); exact rfl) | (apply stN_o; (exact rfl); (exact rfl); exact rfl) | (refine new_i (fun bk hbk => ?_)) | (apply when_dE; (exact rfl); (exact rfl); all_goals intro hc) | (apply when_dF; (exact rfl); (exact rfl); all_goals intro hc) | (apply when_nE; (exact rfl); (exact rfl); all_goals intro hc) | (apply when_nF; (exact rfl); (exact rfl); all_goals intro hc) | (apply br_dE; (exact rfl); all_goals intro hc) | (apply br_nE; (exact rfl); all_goals intro hc) | (refine mm_min ?_) | (refine mm_max ?_) | (refine rem_i ?_ ?_; omega) | (refine SelN.mk ?_) | (refine cut_n ?_) | (refine Both.mk ?_ ?_) | (exact True.intro))
      exact ⟨rfl, (by first | exact ent_i | (repeat (first | exact Ent.refl | exact Ent.left | refine Ent.cons ?_ | refine Ent.app ?_)))⟩
    · clear hj
      have hP2 : ∀ own, Pure Tryz.prog W0 48 [.string (joinW ([w0, r, n].set 2 ⟨#[48]⟩))] own (.tuple #[i.v, .int .i64 0]) := hP'
      have hna := fun own => sp_isName (W0 := W0) (own := own) n (hsz n (by simp))
      rw [hc2] at hna
      have hre := fun own => sp_isRegister (W0 := W0) (own := own) r
      rw [hc3] at hre
      have hnl : 3 = [w0, r, n].length := rfl
      have hx0 : [w0, r, n][0]? = some w0 := rfl
      have hx1 : [w0, r, n][1]? = some r := rfl
      have hx2 : [w0, r, n][2]? = some n := rfl
      have hjl : (Go.Lib.join (([w0, r, n].set 2 ⟨#[48]⟩).map (fun x => x.data.toList)) [32]).length ≤ 140737488355328 := by
        obtain ⟨k, hk, rfl, _⟩ := reg_form hc3
        rcases hc1 with hc1 | hc1
        · have := ba_toList hc1
          subst this
          show 9 ≤ _
          omega
        · have := ba_toList hc1
          subst this
          show 12 ≤ _
          omega
      rcases hc1 with hc1 | hc1
      · repeat' ((try (conv => whnf)); first | (refine when_ye ?_ ?_; exact rfl) | (refine when_ne ?_ ?_; exact rfl) | (refine br_te ?_ ?_; exact rfl) | (refine br_fe ?_ ?_; exact rfl) | (apply br_pyE; (exact rfl); omega) | (apply br_pnE; (exact rfl); omega) | (apply when_pyE; (exact rfl); omega) | (apply when_pnE; (exact rfl); omega) | (apply br_npyE; (exact rfl); omega) | (apply br_npnE; (exact rfl); omega) | (apply when_npyE; (exact rfl); omega) | (apply when_npnE; (exact rfl); omega) | (refine br_pyE ?_ hc1 ?_; exact rfl) | (refine br_pnE ?_ hc1 ?_; exact rfl) | (refine when_pyE ?_ hc1 ?_; exact rfl) | (refine when_pnE ?_ hc1 ?_; exact rfl) | (refine br_npyE ?_ hc1 ?_; exact rfl) | (refine br_npnE ?_ hc1 ?_; exact rfl) | (refine when_npyE ?_ hc1 ?_; exact rfl) | (refine when_npnE ?_ hc1 ?_; exact rfl) | ((with_reducible show Ld _ _ _ _); first | (refine ldC0 hwd hx0 rfl ?_) | (refine ldC1 hwd hx0 rfl ?_) | (refine ldC hwd hx0 rfl ?_) | (refine ldC0 hwd hx1 rfl ?_) | (refine ldC1 hwd hx1 rfl ?_) | (refine ldC hwd hx1 rfl ?_) | (refine ldC0 hwd hx2 rfl ?_) | (refine ldC1 hwd hx2 rfl ?_) | (refine ldC hwd hx2 rfl ?_)) | ((with_reducible show IxS _ _ _ _ _); first | ((refine ixC hx0 hnl ?_ ?_; (first | rfl | omega))) | ((refine ixC hx1 hnl ?_ ?_; (first | rfl | omega))) | ((refine ixC hx2 hnl ?_ ?_; (first | rfl | omega)))) | ((with_reducible show LdN _ _ _ _ _); first | (refine ldNC hwd hx0 rfl ?_) | (refine ldNC hwd hx1 rfl ?_) | (refine ldNC hwd hx2 rfl ?_)) | ((with_reducible show CallT _ _ _ _ _ _); first | ((refine call_se (hf _) ?_ ?_ (fun v own' hv => ?_); (exact rfl); (exact rfl); (obtain ⟨b, rfl, rfl⟩ := hv))) | ((refine call_pe (hna _) ?_ ?_ ?_; (exact rfl); exact rfl)) | ((refine call_pe (hre _) ?_ ?_ ?_; (exact rfl); exact rfl)) | ((refine call_joinW (l := [w0, r, n].set 2 ⟨#[48]⟩) (by exact rfl) (by simp) (by simp) hjl ?_ ?_ ?_; (exact rfl); (exact rfl))) | ((refine call_pe (hP2 _) ?_ ?_ ?_; (exact rfl); exact rfl))) | ((with_reducible show StT _ _ _ _ _); first | ((refine stC (T := 9) (k := 0) ((⟨#[48]⟩ : ByteArray)) hwd hx2 ?_ ?_ ?_ ?_ ?_; (exact rfl); (omega); (exact rfl); (exact rfl)))) | (refine ari ?_ ?_; omega) | (refine aru ?_ ?_; omega) | (apply sel; exact rfl) | (refine ix0 rfl ?_) | (refine ix1 rfl ?_) | (refine ix2 rfl ?_) | (refine ix3 rfl ?_) | (apply ixj; omega) | (refine ixn ?_ ?_; omega) | (refine ixs0 rfl ?_) | (refine ixs1 rfl ?_) | (refine ixs_j ?_ ?_; omega) | (refine ixs_n ?_ ?_; omega) | (apply ld_o; exact rfl) | (apply ldN_a; exact rfl) | (apply ldN_o; (exact rfl); exact rfl) | (apply st_o; (exact rfl); exact rfl) | (apply stN_o; (exact rfl); (exact rfl); exact rfl) | (refine new_i (fun bk hbk => ?_)) | (apply when_dE; (exact rfl); (exact rfl); all_goals intro hc) | (apply when_dF; (exact rfl); (exact rfl); all_goals intro hc) | (apply when_nE; (exact rfl); (exact rfl); all_goals intro hc) | (apply when_nF; (exact rfl); (exact rfl); all_goals intro hc) | (apply br_dE; (exact rfl); all_goals intro hc) | (apply br_nE; (exact rfl); all_goals intro hc) | (refine mm_min ?_) | (refine mm_max ?_) | (refine rem_i ?_ ?_; omega) | (refine SelN.mk ?_) | (refine cut_n ?_) | (refine Both.mk ?_ ?_) | (exact True.intro))
        exact ⟨rfl, (by first | exact ent_i | (repeat (first | exact Ent.refl | exact Ent.left | refine Ent.cons ?_ | refine Ent.app ?_)))⟩
      · have hc0 : ¬ w0.toList = zeroW.toList := by rw [hc1]; decide +kernel
        repeat' ((try (conv => whnf)); first | (refine when_ye ?_ ?_; exact rfl) | (refine when_ne ?_ ?_; exact rfl) | (refine br_te ?_ ?_; exact rfl) | (refine br_fe ?_ ?_; exact rfl) | (apply br_pyE; (exact rfl); omega) | (apply br_pnE; (exact rfl); omega) | (apply when_pyE; (exact rfl); omega) | (apply when_pnE; (exact rfl); omega) | (apply br_npyE; (exact rfl); omega) | (apply br_npnE; (exact rfl); omega) | (apply when_npyE; (exact rfl); omega) | (apply when_npnE; (exact rfl); omega) | (refine br_pyE ?_ hc0 ?_; exact rfl) | (refine br_pnE ?_ hc0 ?_; exact rfl) | (refine when_pyE ?_ hc0 ?_; exact rfl) | (refine when_pnE ?_ hc0 ?_; exact rfl) | (refine br_npyE ?_ hc0 ?_; exact rfl) | (refine br_npnE ?_ hc0 ?_; exact rfl) | (refine when_npyE ?_ hc0 ?_; exact rfl) | (refine when_npnE ?_ hc0 ?_; exact rfl) | (refine br_pyE ?_ hc1 ?_; exact rfl) | (refine br_pnE ?_ hc1 ?_; exact rfl) | (refine when_pyE ?_ hc1 ?_; exact rfl) | (refine when_pnE ?_ hc1 ?_; exact rfl) | (refine br_npyE ?_ hc1 ?_; exact rfl) | (refine br_npnE ?_ hc1 ?_; exact rfl) | (refine when_npyE ?_ hc1 ?_; exact rfl) | (refine when_npnE ?_ hc1 ?_; exact rfl) | ((with_reducible show Ld _ _ _ _); first | (refine ldC0 hwd hx0 rfl ?_) | (refine ldC1 hwd hx0 rfl ?_) | (refine ldC hwd hx0 rfl ?_) | (refine ldC0 hwd hx1 rfl ?_) | (refine ldC1 hwd hx1 rfl ?_) | (refine ldC hwd hx1 rfl ?_) | (refine ldC0 hwd hx2 rfl ?_) | (refine ldC1 hwd hx2 rfl ?_) | (refine ldC hwd hx2 rfl ?_)) | ((with_reducible show IxS _ _ _ _ _); first | ((refine ixC hx0 hnl ?_ ?_; (first | rfl | omega))) | ((refine ixC hx1 hnl ?_ ?_; (first | rfl | omega))) | ((refine ixC hx2 hnl ?_ ?_; (first | rfl | omega)))) | ((with_reducible show LdN _ _ _ _ _); first | (refine ldNC hwd hx0 rfl ?_) | (refine ldNC hwd hx1 rfl ?_) | (refine ldNC hwd hx2 rfl ?_)) | ((with_reducible show CallT _ _ _ _ _ _); first | ((refine call_se (hf _) ?_ ?_ (fun v own' hv => ?_); (exact rfl); (exact rfl); (obtain ⟨b, rfl, rfl⟩ := hv))) | ((refine call_pe (hna _) ?_ ?_ ?_; (exact rfl); exact rfl)) | ((refine call_pe (hre _) ?_ ?_ ?_; (exact rfl); exact rfl)) | ((refine call_joinW (l := [w0, r, n].set 2 ⟨#[48]⟩) (by exact rfl) (by simp) (by simp) hjl ?_ ?_ ?_; (exact rfl); (exact rfl))) | ((refine call_pe (hP2 _) ?_ ?_ ?_; (exact rfl); exact rfl))) | ((with_reducible show StT _ _ _ _ _); first | ((refine stC (T := 9) (k := 0) ((⟨#[48]⟩ : ByteArray)) hwd hx2 ?_ ?_ ?_ ?_ ?_; (exact rfl); (omega); (exact rfl); (exact rfl)))) | (refine ari ?_ ?_; omega) | (refine aru ?_ ?_; omega) | (apply sel; exact rfl) | (refine ix0 rfl ?_) | (refine ix1 rfl ?_) | (refine ix2 rfl ?_) | (refine ix3 rfl ?_) | (apply ixj; omega) | (refine ixn ?_ ?_; omega) | (refine ixs0 rfl ?_) | (refine ixs1 rfl ?_) | (refine ixs_j ?_ ?_; omega) | (refine ixs_n ?_ ?_; omega) | (apply ld_o; exact rfl) | (apply ldN_a; exact rfl) | (apply ldN_o; (exact rfl); exact rfl) | (apply st_o; (exact rfl); exact rfl) | (apply stN_o; (exact rfl); (exact rfl); exact rfl) | (refine new_i (fun bk hbk => ?_)) | (apply when_dE; (exact rfl); (exact rfl); all_goals intro hc) | (apply when_dF; (exact rfl); (exact rfl); all_goals intro hc) | (apply when_nE; (exact rfl); (exact rfl); all_goals intro hc) | (apply when_nF; (exact rfl); (exact rfl); all_goals intro hc) | (apply br_dE; (exact rfl); all_goals intro hc) | (apply br_nE; (exact rfl); all_goals intro hc) | (refine mm_min ?_) | (refine mm_max ?_) | (refine rem_i ?_ ?_; omega) | (refine SelN.mk ?_) | (refine cut_n ?_) | (refine Both.mk ?_ ?_) | (exact True.intro))
        exact ⟨rfl, (by first | exact ent_i | (repeat (first | exact Ent.refl | exact Ent.left | refine Ent.cons ?_ | refine Ent.app ?_)))⟩
  | none =>
    have e : tlM ws = (insZ, noB, false) := by unfold tlM; rw [hj]
    rw [e]
    rcases ws with _ | ⟨w0, _ | ⟨m, _ | ⟨r2, _ | ⟨w3, rr⟩⟩⟩⟩
    · repeat' ((try (conv => whnf)); first | (refine when_ye ?_ ?_; exact rfl) | (refine when_ne ?_ ?_; exact rfl) | (refine br_te ?_ ?_; exact rfl) | (refine br_fe ?_ ?_; exact rfl) | (apply br_pyE; (exact rfl); omega) | (apply br_pnE; (exact rfl); omega) | (apply when_pyE; (exact rfl); omega) | (apply when_pnE; (exact rfl); omega) | (apply br_npyE; (exact rfl); omega) | (apply br_npnE; (exact rfl); omega) | (apply when_npyE; (exact rfl); omega) | (apply when_npnE; (exact rfl); omega) | ((with_reducible show CallT _ _ _ _ _ _); first | ((refine call_se (hf _) ?_ ?_ (fun v own' hv => ?_); (exact rfl); (exact rfl); (obtain ⟨b, rfl, rfl⟩ := hv)))) | (refine ari ?_ ?_; omega) | (refine aru ?_ ?_; omega) | (apply sel; exact rfl) | (refine ix0 rfl ?_) | (refine ix1 rfl ?_) | (refine ix2 rfl ?_) | (refine ix3 rfl ?_) | (apply ixj; omega) | (refine ixn ?_ ?_; omega) | (refine ixs0 rfl ?_) | (refine ixs1 rfl ?_) | (refine ixs_j ?_ ?_; omega) | (refine ixs_n ?_ ?_; omega) | (apply ld_o; exact rfl) | (apply ldN_a; exact rfl) | (apply ldN_o; (exact rfl); exact rfl) | (apply st_o; (exact rfl); exact rfl) | (apply stN_o; (exact rfl); (exact rfl); exact rfl) | (refine new_i (fun bk hbk => ?_)) | (apply when_dE; (exact rfl); (exact rfl); all_goals intro hc) | (apply when_dF; (exact rfl); (exact rfl); all_goals intro hc) | (apply when_nE; (exact rfl); (exact rfl); all_goals intro hc) | (apply when_nF; (exact rfl); (exact rfl); all_goals intro hc) | (apply br_dE; (exact rfl); all_goals intro hc) | (apply br_nE; (exact rfl); all_goals intro hc) | (refine mm_min ?_) | (refine mm_max ?_) | (refine rem_i ?_ ?_; omega) | (refine SelN.mk ?_) | (refine cut_n ?_) | (refine Both.mk ?_ ?_) | (exact True.intro))
      exact ⟨rfl, (by first | exact ent_i | (repeat (first | exact Ent.refl | exact Ent.left | refine Ent.cons ?_ | refine Ent.app ?_)))⟩
    · repeat' ((try (conv => whnf)); first | (refine when_ye ?_ ?_; exact rfl) | (refine when_ne ?_ ?_; exact rfl) | (refine br_te ?_ ?_; exact rfl) | (refine br_fe ?_ ?_; exact rfl) | (apply br_pyE; (exact rfl); omega) | (apply br_pnE; (exact rfl); omega) | (apply when_pyE; (exact rfl); omega) | (apply when_pnE; (exact rfl); omega) | (apply br_npyE; (exact rfl); omega) | (apply br_npnE; (exact rfl); omega) | (apply when_npyE; (exact rfl); omega) | (apply when_npnE; (exact rfl); omega) | ((with_reducible show CallT _ _ _ _ _ _); first | ((refine call_se (hf _) ?_ ?_ (fun v own' hv => ?_); (exact rfl); (exact rfl); (obtain ⟨b, rfl, rfl⟩ := hv)))) | (refine ari ?_ ?_; omega) | (refine aru ?_ ?_; omega) | (apply sel; exact rfl) | (refine ix0 rfl ?_) | (refine ix1 rfl ?_) | (refine ix2 rfl ?_) | (refine ix3 rfl ?_) | (apply ixj; omega) | (refine ixn ?_ ?_; omega) | (refine ixs0 rfl ?_) | (refine ixs1 rfl ?_) | (refine ixs_j ?_ ?_; omega) | (refine ixs_n ?_ ?_; omega) | (apply ld_o; exact rfl) | (apply ldN_a; exact rfl) | (apply ldN_o; (exact rfl); exact rfl) | (apply st_o; (exact rfl); exact rfl) | (apply stN_o; (exact rfl); (exact rfl); exact rfl) | (refine new_i (fun bk hbk => ?_)) | (apply when_dE; (exact rfl); (exact rfl); all_goals intro hc) | (apply when_dF; (exact rfl); (exact rfl); all_goals intro hc) | (apply when_nE; (exact rfl); (exact rfl); all_goals intro hc) | (apply when_nF; (exact rfl); (exact rfl); all_goals intro hc) | (apply br_dE; (exact rfl); all_goals intro hc) | (apply br_nE; (exact rfl); all_goals intro hc) | (refine mm_min ?_) | (refine mm_max ?_) | (refine rem_i ?_ ?_; omega) | (refine SelN.mk ?_) | (refine cut_n ?_) | (refine Both.mk ?_ ?_) | (exact True.intro))
      exact ⟨rfl, (by first | exact ent_i | (repeat (first | exact Ent.refl | exact Ent.left | refine Ent.cons ?_ | refine Ent.app ?_)))⟩
    · have hna := fun own => sp_isName (W0 := W0) (own := own) m (hsz m (by simp))
      have hnl : 2 = [w0, m].length := rfl
      have hx0 : [w0, m][0]? = some w0 := rfl
      have hx1 : [w0, m][1]? = some m := rfl
      by_cases hc1 : w0.toList = jumpW.toList
      · have hc2 : nameB m = false := by
          cases hq : nameB m with
          | false => rfl
          | true => simp only [jmpM] at hj; rw [if_pos ⟨hc1, hq⟩] at hj; cases hj
        rw [hc2] at hna
        repeat' ((try (conv => whnf)); first | (refine when_ye ?_ ?_; exact rfl) | (refine when_ne ?_ ?_; exact rfl) | (refine br_te ?_ ?_; exact rfl) | (refine br_fe ?_ ?_; exact rfl) | (apply br_pyE; (exact rfl); omega) | (apply br_pnE; (exact rfl); omega) | (apply when_pyE; (exact rfl); omega) | (apply when_pnE; (exact rfl); omega) | (apply br_npyE; (exact rfl); omega) | (apply br_npnE; (exact rfl); omega) | (apply when_npyE; (exact rfl); omega) | (apply when_npnE; (exact rfl); omega) | (refine br_pyE ?_ hc1 ?_; exact rfl) | (refine br_pnE ?_ hc1 ?_; exact rfl) | (refine when_pyE ?_ hc1 ?_; exact rfl) | (refine when_pnE ?_ hc1 ?_; exact rfl) | (refine br_npyE ?_ hc1 ?_; exact rfl) | (refine br_npnE ?_ hc1 ?_; exact rfl) | (refine when_npyE ?_ hc1 ?_; exact rfl) | (refine when_npnE ?_ hc1 ?_; exact rfl) | ((with_reducible show Ld _ _ _ _); first | (refine ldC0 hwd hx0 rfl ?_) | (refine ldC1 hwd hx0 rfl ?_) | (refine ldC hwd hx0 rfl ?_) | (refine ldC0 hwd hx1 rfl ?_) | (refine ldC1 hwd hx1 rfl ?_) | (refine ldC hwd hx1 rfl ?_)) | ((with_reducible show IxS _ _ _ _ _); first | ((refine ixC hx0 hnl ?_ ?_; (first | rfl | omega))) | ((refine ixC hx1 hnl ?_ ?_; (first | rfl | omega)))) | ((with_reducible show LdN _ _ _ _ _); first | (refine ldNC hwd hx0 rfl ?_) | (refine ldNC hwd hx1 rfl ?_)) | ((with_reducible show CallT _ _ _ _ _ _); first | ((refine call_se (hf _) ?_ ?_ (fun v own' hv => ?_); (exact rfl); (exact rfl); (obtain ⟨b, rfl, rfl⟩ := hv))) | ((refine call_pe (hna _) ?_ ?_ ?_; (exact rfl); exact rfl))) | (refine ari ?_ ?_; omega) | (refine aru ?_ ?_; omega) | (apply sel; exact rfl) | (refine ix0 rfl ?_) | (refine ix1 rfl ?_) | (refine ix2 rfl ?_) | (refine ix3 rfl ?_) | (apply ixj; omega) | (refine ixn ?_ ?_; omega) | (refine ixs0 rfl ?_) | (refine ixs1 rfl ?_) | (refine ixs_j ?_ ?_; omega) | (refine ixs_n ?_ ?_; omega) | (apply ld_o; exact rfl) | (apply ldN_a; exact rfl) | (apply ldN_o; (exact rfl); exact rfl) | (apply st_o; (exact rfl); exact rfl) | (apply stN_o; (exact rfl); (exact rfl); exact rfl) | (refine new_i (fun bk hbk => ?_)) | (apply when_dE; (exact rfl); (exact rfl); all_goals intro hc) | (apply when_dF; (exact rfl); (exact rfl); all_goals intro hc) | (apply when_nE; (exact rfl); (exact rfl); all_goals intro hc) | (apply when_nF; (exact rfl); (exact rfl); all_goals intro hc) | (apply br_dE; (exact rfl); all_goals intro hc) | (apply br_nE; (exact rfl); all_goals intro hc) | (refine mm_min ?_) | (refine mm_max ?_) | (refine rem_i ?_ ?_; omega) | (refine SelN.mk ?_) | (refine cut_n ?_) | (refine Both.mk ?_ ?_) | (exact True.intro))
        exact ⟨rfl, (by first | exact ent_i | (repeat (first | exact Ent.refl | exact Ent.left | refine Ent.cons ?_ | refine Ent.app ?_)))⟩
      · repeat' ((try (conv => whnf)); first | (refine when_ye ?_ ?_; exact rfl) | (refine when_ne ?_ ?_; exact rfl) | (refine br_te ?_ ?_; exact rfl) | (refine br_fe ?_ ?_; exact rfl) | (apply br_pyE; (exact rfl); omega) | (apply br_pnE; (exact rfl); omega) | (apply when_pyE; (exact rfl); omega) | (apply when_pnE; (exact rfl); omega) | (apply br_npyE; (exact rfl); omega) | (apply br_npnE; (exact rfl); omega) | (apply when_npyE; (exact rfl); omega) | (apply when_npnE; (exact rfl); omega) | (refine br_pyE ?_ hc1 ?_; exact rfl) | (refine br_pnE ?_ hc1 ?_; exact rfl) | (refine when_pyE ?_ hc1 ?_; exact rfl) | (refine when_pnE ?_ hc1 ?_; exact rfl) | (refine br_npyE ?_ hc1 ?_; exact rfl) | (refine br_npnE ?_ hc1 ?_; exact rfl) | (refine when_npyE ?_ hc1 ?_; exact rfl) | (refine when_npnE ?_ hc1 ?_; exact rfl) | ((with_reducible show Ld _ _ _ _); first | (refine ldC0 hwd hx0 rfl ?_) | (refine ldC1 hwd hx0 rfl ?_) | (refine ldC hwd hx0 rfl ?_) | (refine ldC0 hwd hx1 rfl ?_) | (refine ldC1 hwd hx1 rfl ?_) | (refine ldC hwd hx1 rfl ?_)) | ((with_reducible show IxS _ _ _ _ _); first | ((refine ixC hx0 hnl ?_ ?_; (first | rfl | omega))) | ((refine ixC hx1 hnl ?_ ?_; (first | rfl | omega)))) | ((with_reducible show LdN _ _ _ _ _); first | (refine ldNC hwd hx0 rfl ?_) | (refine ldNC hwd hx1 rfl ?_)) | ((with_reducible show CallT _ _ _ _ _ _); first | ((refine call_se (hf _) ?_ ?_ (fun v own' hv => ?_); (exact rfl); (exact rfl); (obtain ⟨b, rfl, rfl⟩ := hv))) | ((refine call_pe (hna _) ?_ ?_ ?_; (exact rfl); exact rfl))) | (refine ari ?_ ?_; omega) | (refine aru ?_ ?_; omega) | (apply sel; exact rfl) | (refine ix0 rfl ?_) | (refine ix1 rfl ?_) | (refine ix2 rfl ?_) | (refine ix3 rfl ?_) | (apply ixj; omega) | (refine ixn ?_ ?_; omega) | (refine ixs0 rfl ?_) | (refine ixs1 rfl ?_) | (refine ixs_j ?_ ?_; omega) | (refine ixs_n ?_ ?_; omega) | (apply ld_o; exact rfl) | (apply ldN_a; exact rfl) | (apply ldN_o; (exact rfl); exact rfl) | (apply st_o; (exact rfl); exact rfl) | (apply stN_o; (exact rfl); (exact rfl); exact rfl) | (refine new_i (fun bk hbk => ?_)) | (apply when_dE; (exact rfl); (exact rfl); all_goals intro hc) | (apply when_dF; (exact rfl); (exact rfl); all_goals intro hc) | (apply when_nE; (exact rfl); (exact rfl); all_goals intro hc) | (apply when_nF; (exact rfl); (exact rfl); all_goals intro hc) | (apply br_dE; (exact rfl); all_goals intro hc) | (apply br_nE; (exact rfl); all_goals intro hc) | (refine mm_min ?_) | (refine mm_max ?_) | (refine rem_i ?_ ?_; omega) | (refine SelN.mk ?_) | (refine cut_n ?_) | (refine Both.mk ?_ ?_) | (exact True.intro))
        exact ⟨rfl, (by first | exact ent_i | (repeat (first | exact Ent.refl | exact Ent.left | refine Ent.cons ?_ | refine Ent.app ?_)))⟩
    · have hna := fun own => sp_isName (W0 := W0) (own := own) r2 (hsz r2 (by simp))
      have hre := fun own => sp_isRegister (W0 := W0) (own := own) m
      have hnl : 3 = [w0, m, r2].length := rfl
      have hx0 : [w0, m, r2][0]? = some w0 := rfl
      have hx1 : [w0, m, r2][1]? = some m := rfl
      have hx2 : [w0, m, r2][2]? = some r2 := rfl
      simp only [jmpM] at hj
      have hj' : ¬ ((w0.toList = zeroW.toList ∨ w0.toList = nonzW.toList) ∧ (regM m).2 = true ∧ nameB r2 = true) := fun h => by rw [if_pos h] at hj; cases hj
      by_cases hc1 : w0.toList = zeroW.toList
      · cases hc3 : (regM m).2 with
        | false =>
          rw [hc3] at hre
          repeat' ((try (conv => whnf)); first | (refine when_ye ?_ ?_; exact rfl) | (refine when_ne ?_ ?_; exact rfl) | (refine br_te ?_ ?_; exact rfl) | (refine br_fe ?_ ?_; exact rfl) | (apply br_pyE; (exact rfl); omega) | (apply br_pnE; (exact rfl); omega) | (apply when_pyE; (exact rfl); omega) | (apply when_pnE; (exact rfl); omega) | (apply br_npyE; (exact rfl); omega) | (apply br_npnE; (exact rfl); omega) | (apply when_npyE; (exact rfl); omega) | (apply when_npnE; (exact rfl); omega) | (refine br_pyE ?_ hc1 ?_; exact rfl) | (refine br_pnE ?_ hc1 ?_; exact rfl) | (refine when_pyE ?_ hc1 ?_; exact rfl) | (refine when_pnE ?_ hc1 ?_; exact rfl) | (refine br_npyE ?_ hc1 ?_; exact rfl) | (refine br_npnE ?_ hc1 ?_; exact rfl) | (refine when_npyE ?_ hc1 ?_; exact rfl) | (refine when_npnE ?_ hc1 ?_; exact rfl) | ((with_reducible show Ld _ _ _ _); first | (refine ldC0 hwd hx0 rfl ?_) | (refine ldC1 hwd hx0 rfl ?_) | (refine ldC hwd hx0 rfl ?_) | (refine ldC0 hwd hx1 rfl ?_) | (refine ldC1 hwd hx1 rfl ?_) | (refine ldC hwd hx1 rfl ?_) | (refine ldC0 hwd hx2 rfl ?_) | (refine ldC1 hwd hx2 rfl ?_) | (refine ldC hwd hx2 rfl ?_)) | ((with_reducible show IxS _ _ _ _ _); first | ((refine ixC hx0 hnl ?_ ?_; (first | rfl | omega))) | ((refine ixC hx1 hnl ?_ ?_; (first | rfl | omega))) | ((refine ixC hx2 hnl ?_ ?_; (first | rfl | omega)))) | ((with_reducible show LdN _ _ _ _ _); first | (refine ldNC hwd hx0 rfl ?_) | (refine ldNC hwd hx1 rfl ?_) | (refine ldNC hwd hx2 rfl ?_)) | ((with_reducible show CallT _ _ _ _ _ _); first | ((refine call_se (hf _) ?_ ?_ (fun v own' hv => ?_); (exact rfl); (exact rfl); (obtain ⟨b, rfl, rfl⟩ := hv))) | ((refine call_pe (hna _) ?_ ?_ ?_; (exact rfl); exact rfl)) | ((refine call_pe (hre _) ?_ ?_ ?_; (exact rfl); exact rfl))) | (refine ari ?_ ?_; omega) | (refine aru ?_ ?_; omega) | (apply sel; exact rfl) | (refine ix0 rfl ?_) | (refine ix1 rfl ?_) | (refine ix2 rfl ?_) | (refine ix3 rfl ?_) | (apply ixj; omega) | (refine ixn ?_ ?_; omega) | (refine ixs0 rfl ?_) | (refine ixs1 rfl ?_) | (refine ixs_j ?_ ?_; omega) | (refine ixs_n ?_ ?_; omega) | (apply ld_o; exact rfl) | (apply ldN_a; exact rfl) | (apply ldN_o; (exact rfl); exact rfl) | (apply st_o; (exact rfl); exact rfl) | (apply stN_o; (exact rfl); (exact rfl); exact rfl) | (refine new_i (fun bk hbk => ?_)) | (apply when_dE; (exact rfl); (exact rfl); all_goals intro hc) | (apply when_dF; (exact rfl); (exact rfl); all_goals intro hc) | (apply when_nE; (exact rfl); (exact rfl); all_goals intro hc) | (apply when_nF; (exact rfl); (exact rfl); all_goals intro hc) | (apply br_dE; (exact rfl); all_goals intro hc) | (apply br_nE; (exact rfl); all_goals intro hc) | (refine mm_min ?_) | (refine mm_max ?_) | (refine rem_i ?_ ?_; omega) | (refine SelN.mk ?_) | (refine cut_n ?_) | (refine Both.mk ?_ ?_) | (exact True.intro))
          exact ⟨rfl, (by first | exact ent_i | (repeat (first | exact Ent.refl | exact Ent.left | refine Ent.cons ?_ | refine Ent.app ?_)))⟩
        | true =>
          have hc2 : nameB r2 = false := by
            cases hq : nameB r2 with
            | false => rfl
            | true => exact absurd ⟨.inl hc1, hc3, hq⟩ hj'
          rw [hc3] at hre
          rw [hc2] at hna
          repeat' ((try (conv => whnf)); first | (refine when_ye ?_ ?_; exact rfl) | (refine when_ne ?_ ?_; exact rfl) | (refine br_te ?_ ?_; exact rfl) | (refine br_fe ?_ ?_; exact rfl) | (apply br_pyE; (exact rfl); omega) | (apply br_pnE; (exact rfl); omega) | (apply when_pyE; (exact rfl); omega) | (apply when_pnE; (exact rfl); omega) | (apply br_npyE; (exact rfl); omega) | (apply br_npnE; (exact rfl); omega) | (apply when_npyE; (exact rfl); omega) | (apply when_npnE; (exact rfl); omega) | (refine br_pyE ?_ hc1 ?_; exact rfl) | (refine br_pnE ?_ hc1 ?_; exact rfl) | (refine when_pyE ?_ hc1 ?_; exact rfl) | (refine when_pnE ?_ hc1 ?_; exact rfl) | (refine br_npyE ?_ hc1 ?_; exact rfl) | (refine br_npnE ?_ hc1 ?_; exact rfl) | (refine when_npyE ?_ hc1 ?_; exact rfl) | (refine when_npnE ?_ hc1 ?_; exact rfl) | ((with_reducible show Ld _ _ _ _); first | (refine ldC0 hwd hx0 rfl ?_) | (refine ldC1 hwd hx0 rfl ?_) | (refine ldC hwd hx0 rfl ?_) | (refine ldC0 hwd hx1 rfl ?_) | (refine ldC1 hwd hx1 rfl ?_) | (refine ldC hwd hx1 rfl ?_) | (refine ldC0 hwd hx2 rfl ?_) | (refine ldC1 hwd hx2 rfl ?_) | (refine ldC hwd hx2 rfl ?_)) | ((with_reducible show IxS _ _ _ _ _); first | ((refine ixC hx0 hnl ?_ ?_; (first | rfl | omega))) | ((refine ixC hx1 hnl ?_ ?_; (first | rfl | omega))) | ((refine ixC hx2 hnl ?_ ?_; (first | rfl | omega)))) | ((with_reducible show LdN _ _ _ _ _); first | (refine ldNC hwd hx0 rfl ?_) | (refine ldNC hwd hx1 rfl ?_) | (refine ldNC hwd hx2 rfl ?_)) | ((with_reducible show CallT _ _ _ _ _ _); first | ((refine call_se (hf _) ?_ ?_ (fun v own' hv => ?_); (exact rfl); (exact rfl); (obtain ⟨b, rfl, rfl⟩ := hv))) | ((refine call_pe (hna _) ?_ ?_ ?_; (exact rfl); exact rfl)) | ((refine call_pe (hre _) ?_ ?_ ?_; (exact rfl); exact rfl))) | (refine ari ?_ ?_; omega) | (refine aru ?_ ?_; omega) | (apply sel; exact rfl) | (refine ix0 rfl ?_) | (refine ix1 rfl ?_) | (refine ix2 rfl ?_) | (refine ix3 rfl ?_) | (apply ixj; omega) | (refine ixn ?_ ?_; omega) | (refine ixs0 rfl ?_) | (refine ixs1 rfl ?_) | (refine ixs_j ?_ ?_; omega) | (refine ixs_n ?_ ?_; omega) | (apply ld_o; exact rfl) | (apply ldN_a; exact rfl) | (apply ldN_o; (exact rfl); exact rfl) | (apply st_o; (exact rfl); exact rfl) | (apply stN_o; (exact rfl); (exact rfl); exact rfl) | (refine new_i (fun bk hbk => ?_)) | (apply when_dE; (exact rfl); (exact rfl); all_goals intro hc) | (apply when_dF; (exact rfl); (exact rfl); all_goals intro hc) | (apply when_nE; (exact rfl); (exact rfl); all_goals intro hc) | (apply when_nF; (exact rfl); (exact rfl); all_goals intro hc) | (apply br_dE; (exact rfl); all_goals intro hc) | (apply br_nE; (exact rfl); all_goals intro hc) | (refine mm_min ?_) | (refine mm_max ?_) | (refine rem_i ?_ ?_; omega) | (refine SelN.mk ?_) | (refine cut_n ?_) | (refine Both.mk ?_ ?_) | (exact True.intro))
          exact ⟨rfl, (by first | exact ent_i | (repeat (first | exact Ent.refl | exact Ent.left | refine Ent.cons ?_ | refine Ent.app ?_)))⟩
      · by_cases hc0 : w0.toList = nonzW.toList
        · cases hc3 : (regM m).2 with
          | false =>
            rw [hc3] at hre
            repeat' ((try (conv => whnf)); first | (refine when_ye ?_ ?_; exact rfl) | (refine when_ne ?_ ?_; exact rfl) | (refine br_te ?_ ?_; exact rfl) | (refine br_fe ?_ ?_; exact rfl) | (apply br_pyE; (exact rfl); omega) | (apply br_pnE; (exact rfl); omega) | (apply when_pyE; (exact rfl); omega) | (apply when_pnE; (exact rfl); omega) | (apply br_npyE; (exact rfl); omega) | (apply br_npnE; (exact rfl); omega) | (apply when_npyE; (exact rfl); omega) | (apply when_npnE; (exact rfl); omega) | (refine br_pyE ?_ hc1 ?_; exact rfl) | (refine br_pnE ?_ hc1 ?_; exact rfl) | (refine when_pyE ?_ hc1 ?_; exact rfl) | (refine when_pnE ?_ hc1 ?_; exact rfl) | (refine br_npyE ?_ hc1 ?_; exact rfl) | (refine br_npnE ?_ hc1 ?_; exact rfl) | (refine when_npyE ?_ hc1 ?_; exact rfl) | (refine when_npnE ?_ hc1 ?_; exact rfl) | (refine br_pyE ?_ hc0 ?_; exact rfl) | (refine br_pnE ?_ hc0 ?_; exact rfl) | (refine when_pyE ?_ hc0 ?_; exact rfl) | (refine when_pnE ?_ hc0 ?_; exact rfl) | (refine br_npyE ?_ hc0 ?_; exact rfl) | (refine br_npnE ?_ hc0 ?_; exact rfl) | (refine when_npyE ?_ hc0 ?_; exact rfl) | (refine when_npnE ?_ hc0 ?_; exact rfl) | ((with_reducible show Ld _ _ _ _); first | (refine ldC0 hwd hx0 rfl ?_) | (refine ldC1 hwd hx0 rfl ?_) | (refine ldC hwd hx0 rfl ?_) | (refine ldC0 hwd hx1 rfl ?_) | (refine ldC1 hwd hx1 rfl ?_) | (refine ldC hwd hx1 rfl ?_) | (refine ldC0 hwd hx2 rfl ?_) | (refine ldC1 hwd hx2 rfl ?_) | (refine ldC hwd hx2 rfl ?_)) | ((with_reducible show IxS _ _ _ _ _); first | ((refine ixC hx0 hnl ?_ ?_; (first | rfl | omega))) | ((refine ixC hx1 hnl ?_ ?_; (first | rfl | omega))) | ((refine ixC hx2 hnl ?_ ?_; (first | rfl | omega)))) | ((with_reducible show LdN _ _ _ _ _); first | (refine ldNC hwd hx0 rfl ?_) | (refine ldNC hwd hx1 rfl ?_) | (refine ldNC hwd hx2 rfl ?_)) | ((with_reducible show CallT _ _ _ _ _ _); first | ((refine call_se (hf _) ?_ ?_ (fun v own' hv => ?_); (exact rfl); (exact rfl); (obtain ⟨b, rfl, rfl⟩ := hv))) | ((refine call_pe (hna _) ?_ ?_ ?_; (exact rfl); exact rfl)) | ((refine call_pe (hre _) ?_ ?_ ?_; (exact rfl); exact rfl))) | (refine ari ?_ ?_; omega) | (refine aru ?_ ?_; omega) | (apply sel; exact rfl) | (refine ix0 rfl ?_) | (refine ix1 rfl ?_) | (refine ix2 rfl ?_) | (refine ix3 rfl ?_) | (apply ixj; omega) | (refine ixn ?_ ?_; omega) | (refine ixs0 rfl ?_) | (refine ixs1 rfl ?_) | (refine ixs_j ?_ ?_; omega) | (refine ixs_n ?_ ?_; omega) | (apply ld_o; exact rfl) | (apply ldN_a; exact rfl) | (apply ldN_o; (exact rfl); exact rfl) | (apply st_o; (exact rfl); exact rfl) | (apply stN_o; (exact rfl); (exact rfl); exact rfl) | (refine new_i (fun bk hbk => ?_)) | (apply when_dE; (exact rfl); (exact rfl); all_goals intro hc) | (apply when_dF; (exact rfl); (exact rfl); all_goals intro hc) | (apply when_nE; (exact rfl); (exact rfl); all_goals intro hc) | (apply when_nF; (exact rfl); (exact rfl); all_goals intro hc) | (apply br_dE; (exact rfl); all_goals intro hc) | (apply br_nE; (exact rfl); all_goals intro hc) | (refine mm_min ?_) | (refine mm_max ?_) | (refine rem_i ?_ ?_; omega) | (refine SelN.mk ?_) | (refine cut_n ?_) | (refine Both.mk ?_ ?_) | (exact True.intro))
            exact ⟨rfl, (by first | exact ent_i | (repeat (first | exact Ent.refl | exact Ent.left | refine Ent.cons ?_ | refine Ent.app ?_)))⟩
          | true =>
            have hc2 : nameB r2 = false := by
              cases hq : nameB r2 with
              | false => rfl
              | true => exact absurd ⟨.inr hc0, hc3, hq⟩ hj'
            rw [hc3] at hre
            rw [hc2] at hna
            repeat' ((try (conv => whnf)); first | (refine when_ye ?_ ?_; exact rfl) | (refine when_ne ?_ ?_; exact rfl) | (refine br_te ?_ ?_; exact rfl) | (refine br_fe ?_ ?_; exact rfl) | (apply br_pyE; (exact rfl); omega) | (apply br_pnE; (exact rfl); omega) | (apply when_pyE; (exact rfl); omega) | (apply when_pnE; (exact rfl); omega) | (apply br_npyE; (exact rfl); omega) | (apply br_npnE; (exact rfl); omega) | (apply when_npyE; (exact rfl); omega) | (apply when_npnE; (exact rfl); omega) | (refine br_pyE ?_ hc1 ?_; exact rfl) | (refine br_pnE ?_ hc1 ?_; exact rfl) | (refine when_pyE ?_ hc1 ?_; exact rfl) | (refine when_pnE ?_ hc1 ?_; exact rfl) | (refine br_npyE ?_ hc1 ?_; exact rfl) | (refine br_npnE ?_ hc1 ?_; exact rfl) | (refine when_npyE ?_ hc1 ?_; exact rfl) | (refine when_npnE ?_ hc1 ?_; exact rfl) | (refine br_pyE ?_ hc0 ?_; exact rfl) | (refine br_pnE ?_ hc0 ?_; exact rfl) | (refine when_pyE ?_ hc0 ?_; exact rfl) | (refine when_pnE ?_ hc0 ?_; exact rfl) | (refine br_npyE ?_ hc0 ?_; exact rfl) | (refine br_npnE ?_ hc0 ?_; exact rfl) | (refine when_npyE ?_ hc0 ?_; exact rfl) | (refine when_npnE ?_ hc0 ?_; exact rfl) | ((with_reducible show Ld _ _ _ _); first | (refine ldC0 hwd hx0 rfl ?_) | (refine ldC1 hwd hx0 rfl ?_) | (refine ldC hwd hx0 rfl ?_) | (refine ldC0 hwd hx1 rfl ?_) | (refine ldC1 hwd hx1 rfl ?_) | (refine ldC hwd hx1 rfl ?_) | (refine ldC0 hwd hx2 rfl ?_) | (refine ldC1 hwd hx2 rfl ?_) | (refine ldC hwd hx2 rfl ?_)) | ((with_reducible show IxS _ _ _ _ _); first | ((refine ixC hx0 hnl ?_ ?_; (first | rfl | omega))) | ((refine ixC hx1 hnl ?_ ?_; (first | rfl | omega))) | ((refine ixC hx2 hnl ?_ ?_; (first | rfl | omega)))) | ((with_reducible show LdN _ _ _ _ _); first | (refine ldNC hwd hx0 rfl ?_) | (refine ldNC hwd hx1 rfl ?_) | (refine ldNC hwd hx2 rfl ?_)) | ((with_reducible show CallT _ _ _ _ _ _); first | ((refine call_se (hf _) ?_ ?_ (fun v own' hv => ?_); (exact rfl); (exact rfl); (obtain ⟨b, rfl, rfl⟩ := hv))) | ((refine call_pe (hna _) ?_ ?_ ?_; (exact rfl); exact rfl)) | ((refine call_pe (hre _) ?_ ?_ ?_; (exact rfl); exact rfl))) | (refine ari ?_ ?_; omega) | (refine aru ?_ ?_; omega) | (apply sel; exact rfl) | (refine ix0 rfl ?_) | (refine ix1 rfl ?_) | (refine ix2 rfl ?_) | (refine ix3 rfl ?_) | (apply ixj; omega) | (refine ixn ?_ ?_; omega) | (refine ixs0 rfl ?_) | (refine ixs1 rfl ?_) | (refine ixs_j ?_ ?_; omega) | (refine ixs_n ?_ ?_; omega) | (apply ld_o; exact rfl) | (apply ldN_a; exact rfl) | (apply ldN_o; (exact rfl); exact rfl) | (apply st_o; (exact rfl); exact rfl) | (apply stN_o; (exact rfl); (exact rfl); exact rfl) | (refine new_i (fun bk hbk => ?_)) | (apply when_dE; (exact rfl); (exact rfl); all_goals intro hc) | (apply when_dF; (exact rfl); (exact rfl); all_goals intro hc) | (apply when_nE; (exact rfl); (exact rfl); all_goals intro hc) | (apply when_nF; (exact rfl); (exact rfl); all_goals intro hc) | (apply br_dE; (exact rfl); all_goals intro hc) | (apply br_nE; (exact rfl); all_goals intro hc) | (refine mm_min ?_) | (refine mm_max ?_) | (refine rem_i ?_ ?_; omega) | (refine SelN.mk ?_) | (refine cut_n ?_) | (refine Both.mk ?_ ?_) | (exact True.intro))
            exact ⟨rfl, (by first | exact ent_i | (repeat (first | exact Ent.refl | exact Ent.left | refine Ent.cons ?_ | refine Ent.app ?_)))⟩
        · repeat' ((try (conv => whnf)); first | (refine when_ye ?_ ?_; exact rfl) | (refine when_ne ?_ ?_; exact rfl) | (refine br_te ?_ ?_; exact rfl) | (refine br_fe ?_ ?_; exact rfl) | (apply br_pyE; (exact rfl); omega) | (apply br_pnE; (exact rfl); omega) | (apply when_pyE; (exact rfl); omega) | (apply when_pnE; (exact rfl); omega) | (apply br_npyE; (exact rfl); omega) | (apply br_npnE; (exact rfl); omega) | (apply when_npyE; (exact rfl); omega) | (apply when_npnE; (exact rfl); omega) | (refine br_pyE ?_ hc1 ?_; exact rfl) | (refine br_pnE ?_ hc1 ?_; exact rfl) | (refine when_pyE ?_ hc1 ?_; exact rfl) | (refine when_pnE ?_ hc1 ?_; exact rfl) | (refine br_npyE ?_ hc1 ?_; exact rfl) | (refine br_npnE ?_ hc1 ?_; exact rfl) | (refine when_npyE ?_ hc1 ?_; exact rfl) | (refine when_npnE ?_ hc1 ?_; exact rfl) | (refine br_pyE ?_ hc0 ?_; exact rfl) | (refine br_pnE ?_ hc0 ?_; exact rfl) | (refine when_pyE ?_ hc0 ?_; exact rfl) | (refine when_pnE ?_ hc0 ?_; exact rfl) | (refine br_npyE ?_ hc0 ?_; exact rfl) | (refine br_npnE ?_ hc0 ?_; exact rfl) | (refine when_npyE ?_ hc0 ?_; exact rfl) | (refine when_npnE ?_ hc0 ?_; exact rfl) | ((with_reducible show Ld _ _ _ _); first | (refine ldC0 hwd hx0 rfl ?_) | (refine ldC1 hwd hx0 rfl ?_) | (refine ldC hwd hx0 rfl ?_) | (refine ldC0 hwd hx1 rfl ?_) | (refine ldC1 hwd hx1 rfl ?_) | (refine ldC hwd hx1 rfl ?_) | (refine ldC0 hwd hx2 rfl ?_) | (refine ldC1 hwd hx2 rfl ?_) | (refine ldC hwd hx2 rfl ?_)) | ((with_reducible show IxS _ _ _ _ _); first | ((refine ixC hx0 hnl ?_ ?_; (first | rfl | omega))) | ((refine ixC hx1 hnl ?_ ?_; (first | rfl | omega))) | ((refine ixC hx2 hnl ?_ ?_; (first | rfl | omega)))) | ((with_reducible show LdN _ _ _ _ _); first | (refine ldNC hwd hx0 rfl ?_) | (refine ldNC hwd hx1 rfl ?_) | (refine ldNC hwd hx2 rfl ?_)) | ((with_reducible show CallT _ _ _ _ _ _); first | ((refine call_se (hf _) ?_ ?_ (fun v own' hv => ?_); (exact rfl); (exact rfl); (obtain ⟨b, rfl, rfl⟩ := hv))) | ((refine call_pe (hna _) ?_ ?_ ?_; (exact rfl); exact rfl)) | ((refine call_pe (hre _) ?_ ?_ ?_; (exact rfl); exact rfl))) | (refine ari ?_ ?_; omega) | (refine aru ?_ ?_; omega) | (apply sel; exact rfl) | (refine ix0 rfl ?_) | (refine ix1 rfl ?_) | (refine ix2 rfl ?_) | (refine ix3 rfl ?_) | (apply ixj; omega) | (refine ixn ?_ ?_; omega) | (refine ixs0 rfl ?_) | (refine ixs1 rfl ?_) | (refine ixs_j ?_ ?_; omega) | (refine ixs_n ?_ ?_; omega) | (apply ld_o; exact rfl) | (apply ldN_a; exact rfl) | (apply ldN_o; (exact rfl); exact rfl) | (apply st_o; (exact rfl); exact rfl) | (apply stN_o; (exact rfl); (exact rfl); exact rfl) | (refine new_i (fun bk hbk => ?_)) | (apply when_dE; (exact rfl); (exact rfl); all_goals intro hc) | (apply when_dF; (exact rfl); (exact rfl); all_goals intro hc) | (apply when_nE; (exact rfl); (exact rfl); all_goals intro hc) | (apply when_nF; (exact rfl); (exact rfl); all_goals intro hc) | (apply br_dE; (exact rfl); all_goals intro hc) | (apply br_nE; (exact rfl); all_goals intro hc) | (refine mm_min ?_) | (refine mm_max ?_) | (refine rem_i ?_ ?_; omega) | (refine SelN.mk ?_) | (refine cut_n ?_) | (refine Both.mk ?_ ?_) | (exact True.intro))
          exact ⟨rfl, (by first | exact ent_i | (repeat (first | exact Ent.refl | exact Ent.left | refine Ent.cons ?_ | refine Ent.app ?_)))⟩
    · repeat' ((try (conv => whnf)); first | (refine when_ye ?_ ?_; exact rfl) | (refine when_ne ?_ ?_; exact rfl) | (refine br_te ?_ ?_; exact rfl) | (refine br_fe ?_ ?_; exact rfl) | (apply br_pyE; (exact rfl); omega) | (apply br_pnE; (exact rfl); omega) | (apply when_pyE; (exact rfl); omega) | (apply when_pnE; (exact rfl); omega) | (apply br_npyE; (exact rfl); omega) | (apply br_npnE; (exact rfl); omega) | (apply when_npyE; (exact rfl); omega) | (apply when_npnE; (exact rfl); omega) | ((with_reducible show CallT _ _ _ _ _ _); first | ((refine call_se (hf _) ?_ ?_ (fun v own' hv => ?_); (exact rfl); (exact rfl); (obtain ⟨b, rfl, rfl⟩ := hv)))) | (refine ari ?_ ?_; omega) | (refine aru ?_ ?_; omega) | (apply sel; exact rfl) | (refine ix0 rfl ?_) | (refine ix1 rfl ?_) | (refine ix2 rfl ?_) | (refine ix3 rfl ?_) | (apply ixj; omega) | (refine ixn ?_ ?_; omega) | (refine ixs0 rfl ?_) | (refine ixs1 rfl ?_) | (refine ixs_j ?_ ?_; omega) | (refine ixs_n ?_ ?_; omega) | (apply ld_o; exact rfl) | (apply ldN_a; exact rfl) | (apply ldN_o; (exact rfl); exact rfl) | (apply st_o; (exact rfl); exact rfl) | (apply stN_o; (exact rfl); (exact rfl); exact rfl) | (refine new_i (fun bk hbk => ?_)) | (apply when_dE; (exact rfl); (exact rfl); all_goals intro hc) | (apply when_dF; (exact rfl); (exact rfl); all_goals intro hc) | (apply when_nE; (exact rfl); (exact rfl); all_goals intro hc) | (apply when_nF; (exact rfl); (exact rfl); all_goals intro hc) | (apply br_dE; (exact rfl); all_goals intro hc) | (apply br_nE; (exact rfl); all_goals intro hc) | (refine mm_min ?_) | (refine mm_max ?_) | (refine rem_i ?_ ?_; omega) | (refine SelN.mk ?_) | (refine cut_n ?_) | (refine Both.mk ?_ ?_) | (exact True.intro))
      exact ⟨rfl, (by first | exact ent_i | (repeat (first | exact Ent.refl | exact Ent.left | refine Ent.cons ?_ | refine Ent.app ?_)))⟩
end
end Go.Proofs.YtiimndcifcoofaaGreatDoor
namespace Go.Proofs.YtiimndcifcoofaaGreatDoor
open Go Go.RowKit
set_option maxRecDepth 10000
set_option maxHeartbeats 4000000
theorem cut_step {l : List UInt8} {k : Nat} {x : UInt8} (hx : l[k]? = some x) (h : cutL l = l.take k ++ cutL (l.drop k)) : if x = 35 then cutL l = l.take k else cutL l = l.take (k + 1) ++ cutL (l.drop (k + 1)) := by
  obtain ⟨hk, rfl⟩ := List.getElem?_eq_some_iff.1 hx
  rw [List.drop_eq_getElem_cons hk] at h
  unfold cutL at h ⊢
  split
  · rename_i e
    rw [List.takeWhile_cons_of_neg (by simp [e])] at h
    simpa using h
  · rename_i e
    rw [List.takeWhile_cons_of_pos (by simp [e])] at h
    rw [h, List.take_succ_eq_append_getElem hk, List.append_assoc]
    rfl
theorem take_ext {l : List UInt8} {i f : Nat} {c : UInt8} (hf : f ≤ i) (hc : l[i]? = some c) : (l.drop f).take (i + 1 - f) = (l.drop f).take (i - f) ++ [c] := by
  have e3 : i + 1 - f = (i - f) + 1 := by omega
  rw [e3, List.take_add_one]
  congr 1
  rw [List.getElem?_drop]
  have e4 : f + (i - f) = i := by omega
  rw [e4, hc]
  rfl
section
variable {W0 : World} {own : Own}
theorem sp_bare (s : ByteArray) (hs : s.size ≤ 9223372036854775807) : Pure Tryz.prog W0 51 [.string s] own (.string (bareS s)) := by
  refine pure_of (spec_of mixed low_ref04_bare (by simp [ir_ref04_bare]) ?_)
  have hl : s.data.toList.length = s.size := by simp
  repeat' ((try (conv => whnf)); first | (refine when_ye ?_ ?_; exact rfl) | (refine when_ne ?_ ?_; exact rfl) | (refine br_te ?_ ?_; exact rfl) | (refine br_fe ?_ ?_; exact rfl) | (apply br_pyE; (exact rfl); omega) | (apply br_pnE; (exact rfl); omega) | (apply when_pyE; (exact rfl); omega) | (apply when_pnE; (exact rfl); omega) | (apply br_npyE; (exact rfl); omega) | (apply br_npnE; (exact rfl); omega) | (apply when_npyE; (exact rfl); omega) | (apply when_npnE; (exact rfl); omega) | (refine ari ?_ ?_; omega) | (refine aru ?_ ?_; omega) | (apply sel; exact rfl) | (refine ix0 rfl ?_) | (refine ix1 rfl ?_) | (refine ix2 rfl ?_) | (refine ix3 rfl ?_) | (apply ixj; omega) | (refine ixn ?_ ?_; omega) | (refine ixs0 rfl ?_) | (refine ixs1 rfl ?_) | (refine ixs_j ?_ ?_; omega) | (refine ixs_n ?_ ?_; omega) | (apply ld_o; exact rfl) | (apply ldN_a; exact rfl) | (apply ldN_o; (exact rfl); exact rfl) | (apply st_o; (exact rfl); exact rfl) | (apply stN_o; (exact rfl); (exact rfl); exact rfl) | (refine new_i (fun bk hbk => ?_)) | (apply when_dE; (exact rfl); (exact rfl); all_goals intro hc) | (apply when_dF; (exact rfl); (exact rfl); all_goals intro hc) | (apply when_nE; (exact rfl); (exact rfl); all_goals intro hc) | (apply when_nF; (exact rfl); (exact rfl); all_goals intro hc) | (apply br_dE; (exact rfl); all_goals intro hc) | (apply br_nE; (exact rfl); all_goals intro hc) | (refine mm_min ?_) | (refine mm_max ?_) | (refine rem_i ?_ ?_; omega) | (refine SelN.mk ?_) | (refine cut_n ?_) | (refine Both.mk ?_ ?_) | (exact True.intro))
  refine loop_c (σ := Nat) (fun k => [(3, .int .i64 k)]) (fun k => k ≤ s.size ∧ cutL s.data.toList = s.data.toList.take k ++ cutL (s.data.toList.drop k)) (fun k => s.size - k) 0 ⟨by omega, rfl⟩ (by repeat' (first | exact True.intro | refine And.intro ?_ ?_ | exact rfl | exact vi (by omega) | (dsimp only; exact rfl) | (dsimp only; exact vi (by omega)))) rfl ?_
  rintro k junk ⟨hk, hI⟩
  by_cases hlt : k < s.size
  · have hlt' : (k : Int) < s.size := by omega
    obtain ⟨x, hx⟩ : ∃ x, s.data.toList[k]? = some x := ⟨_, List.getElem?_eq_getElem (by omega)⟩
    have hst := cut_step hx hI
    by_cases h35 : (x.toNat : Int) = 35
    · have hx35 : x = 35 := UInt8.toNat.inj (by show x.toNat = 35; omega)
      rw [if_pos hx35] at hst
      have e : s.extract 0 k = bareS s := ba_ext (by rw [ba_extract, bareS, bW_data, List.drop_zero, Nat.sub_zero, hst])
      repeat' ((try (conv => whnf)); first | (refine when_ye ?_ ?_; exact rfl) | (refine when_ne ?_ ?_; exact rfl) | (refine br_te ?_ ?_; exact rfl) | (refine br_fe ?_ ?_; exact rfl) | (apply br_pyE; (exact rfl); omega) | (apply br_pnE; (exact rfl); omega) | (apply when_pyE; (exact rfl); omega) | (apply when_pnE; (exact rfl); omega) | (apply br_npyE; (exact rfl); omega) | (apply br_npnE; (exact rfl); omega) | (apply when_npyE; (exact rfl); omega) | (apply when_npnE; (exact rfl); omega) | (refine ⟨k, x, rfl, hx, ?_⟩) | (refine SscT.mk ⟨0, k, rfl, rfl, ?_, ?_, ?_⟩; (omega); (omega)) | (refine ari ?_ ?_; omega) | (refine aru ?_ ?_; omega) | (apply sel; exact rfl) | (refine ix0 rfl ?_) | (refine ix1 rfl ?_) | (refine ix2 rfl ?_) | (refine ix3 rfl ?_) | (apply ixj; omega) | (refine ixn ?_ ?_; omega) | (refine ixs0 rfl ?_) | (refine ixs1 rfl ?_) | (refine ixs_j ?_ ?_; omega) | (refine ixs_n ?_ ?_; omega) | (apply ld_o; exact rfl) | (apply ldN_a; exact rfl) | (apply ldN_o; (exact rfl); exact rfl) | (apply st_o; (exact rfl); exact rfl) | (apply stN_o; (exact rfl); (exact rfl); exact rfl) | (refine new_i (fun bk hbk => ?_)) | (apply when_dE; (exact rfl); (exact rfl); all_goals intro hc) | (apply when_dF; (exact rfl); (exact rfl); all_goals intro hc) | (apply when_nE; (exact rfl); (exact rfl); all_goals intro hc) | (apply when_nF; (exact rfl); (exact rfl); all_goals intro hc) | (apply br_dE; (exact rfl); all_goals intro hc) | (apply br_nE; (exact rfl); all_goals intro hc) | (refine mm_min ?_) | (refine mm_max ?_) | (refine rem_i ?_ ?_; omega) | (refine SelN.mk ?_) | (refine cut_n ?_) | (refine Both.mk ?_ ?_) | (exact True.intro))
      exact ⟨ret1 (vstr e), (by first | exact ent_i | (repeat (first | exact Ent.refl | exact Ent.left | refine Ent.cons ?_ | refine Ent.app ?_)))⟩
    · have hx35 : x ≠ 35 := fun e => h35 (by rw [e]; rfl)
      rw [if_neg hx35] at hst
      repeat' ((try (conv => whnf)); first | (refine when_ye ?_ ?_; exact rfl) | (refine when_ne ?_ ?_; exact rfl) | (refine br_te ?_ ?_; exact rfl) | (refine br_fe ?_ ?_; exact rfl) | (apply br_pyE; (exact rfl); omega) | (apply br_pnE; (exact rfl); omega) | (apply when_pyE; (exact rfl); omega) | (apply when_pnE; (exact rfl); omega) | (apply br_npyE; (exact rfl); omega) | (apply br_npnE; (exact rfl); omega) | (apply when_npyE; (exact rfl); omega) | (apply when_npnE; (exact rfl); omega) | (refine ⟨k, x, rfl, hx, ?_⟩) | (refine ari ?_ ?_; omega) | (refine aru ?_ ?_; omega) | (apply sel; exact rfl) | (refine ix0 rfl ?_) | (refine ix1 rfl ?_) | (refine ix2 rfl ?_) | (refine ix3 rfl ?_) | (apply ixj; omega) | (refine ixn ?_ ?_; omega) | (refine ixs0 rfl ?_) | (refine ixs1 rfl ?_) | (refine ixs_j ?_ ?_; omega) | (refine ixs_n ?_ ?_; omega) | (apply ld_o; exact rfl) | (apply ldN_a; exact rfl) | (apply ldN_o; (exact rfl); exact rfl) | (apply st_o; (exact rfl); exact rfl) | (apply stN_o; (exact rfl); (exact rfl); exact rfl) | (refine new_i (fun bk hbk => ?_)) | (apply when_dE; (exact rfl); (exact rfl); all_goals intro hc) | (apply when_dF; (exact rfl); (exact rfl); all_goals intro hc) | (apply when_nE; (exact rfl); (exact rfl); all_goals intro hc) | (apply when_nF; (exact rfl); (exact rfl); all_goals intro hc) | (apply br_dE; (exact rfl); all_goals intro hc) | (apply br_nE; (exact rfl); all_goals intro hc) | (refine mm_min ?_) | (refine mm_max ?_) | (refine rem_i ?_ ?_; omega) | (refine SelN.mk ?_) | (refine cut_n ?_) | (refine Both.mk ?_ ?_) | (exact True.intro))
      exact ⟨k + 1, ⟨by omega, hst⟩, by omega, (by repeat' (first | exact True.intro | refine And.intro ?_ ?_ | exact rfl | exact vi (by omega) | (dsimp only; exact rfl) | (dsimp only; exact vi (by omega)))), (by first | exact ent_i | (repeat (first | exact Ent.refl | exact Ent.left | refine Ent.cons ?_ | refine Ent.app ?_)))⟩
  · have hlt' : ¬ (k : Int) < s.size := by omega
    have e1 : s.data.toList.drop k = [] := List.drop_eq_nil_of_le (by omega)
    have e2 : s.data.toList.take k = s.data.toList := List.take_of_length_le (by omega)
    rw [e1, e2] at hI
    have e : s = bareS s := ba_ext (by rw [bareS, bW_data, hI]; simp [cutL])
    repeat' ((try (conv => whnf)); first | (refine when_ye ?_ ?_; exact rfl) | (refine when_ne ?_ ?_; exact rfl) | (refine br_te ?_ ?_; exact rfl) | (refine br_fe ?_ ?_; exact rfl) | (apply br_pyE; (exact rfl); omega) | (apply br_pnE; (exact rfl); omega) | (apply when_pyE; (exact rfl); omega) | (apply when_pnE; (exact rfl); omega) | (apply br_npyE; (exact rfl); omega) | (apply br_npnE; (exact rfl); omega) | (apply when_npyE; (exact rfl); omega) | (apply when_npnE; (exact rfl); omega) | (refine ari ?_ ?_; omega) | (refine aru ?_ ?_; omega) | (apply sel; exact rfl) | (refine ix0 rfl ?_) | (refine ix1 rfl ?_) | (refine ix2 rfl ?_) | (refine ix3 rfl ?_) | (apply ixj; omega) | (refine ixn ?_ ?_; omega) | (refine ixs0 rfl ?_) | (refine ixs1 rfl ?_) | (refine ixs_j ?_ ?_; omega) | (refine ixs_n ?_ ?_; omega) | (apply ld_o; exact rfl) | (apply ldN_a; exact rfl) | (apply ldN_o; (exact rfl); exact rfl) | (apply st_o; (exact rfl); exact rfl) | (apply stN_o; (exact rfl); (exact rfl); exact rfl) | (refine new_i (fun bk hbk => ?_)) | (apply when_dE; (exact rfl); (exact rfl); all_goals intro hc) | (apply when_dF; (exact rfl); (exact rfl); all_goals intro hc) | (apply when_nE; (exact rfl); (exact rfl); all_goals intro hc) | (apply when_nF; (exact rfl); (exact rfl); all_goals intro hc) | (apply br_dE; (exact rfl); all_goals intro hc) | (apply br_nE; (exact rfl); all_goals intro hc) | (refine mm_min ?_) | (refine mm_max ?_) | (refine rem_i ?_ ?_; omega) | (refine SelN.mk ?_) | (refine cut_n ?_) | (refine Both.mk ?_ ?_) | (exact True.intro))
    exact ⟨ret1 (vstr e), (by first | exact ent_i | (repeat (first | exact Ent.refl | exact Ent.left | refine Ent.cons ?_ | refine Ent.app ?_)))⟩
def LinesR (W0 : World) (own : Own) (l : List ByteArray) : Value → Own → Prop := fun v own' => ∃ a cap L, v = .slice a l.length cap ∧ RdE encS 1 W0 L a l ∧ Ent W0 own' (L ++ own)
theorem slA0 {b m sz : Nat} : slA (some ⟨b, 0, none⟩) m 0 sz = some ⟨b, 0, none⟩ := by
  unfold slA
  split
  · rfl
  · simp [addr_add]
theorem rd_take {a : Option Addr} {l l2 : List ByteArray} (h : RdE encS 1 W0 own a (l ++ l2)) : RdE encS 1 W0 own a l :=
  ⟨fun hn => h.isS (by simp [hn]), fun _ _ => rfl, fun {j k x v} hx hv => h.cell (j := j) (k := k) (x := x) (v := v) (by rw [List.getElem?_append_left (List.getElem?_eq_some_iff.1 hx).1]; exact hx) hv⟩
theorem sp_split10 (hM : MaxAt W0) (s : ByteArray) (hs : s.size < 4294967281) : Spec Tryz.prog W0 76 [.string s, .string ⟨#[10]⟩] own fun v own' => ∃ b, v = .slice (some ⟨b, 0, none⟩) ((plL [] s.data.toList).map bW).length ((plL [] s.data.toList).map bW).length ∧ own' = canE encS 9 b ((plL [] s.data.toList).map bW) :: own := by
  intro w hw
  obtain ⟨m, hm⟩ := hM.st hw
  refine (shelf_strings_Split s ⟨#[10]⟩ m w hs hm (by decide)).mono ?_
  rintro e w' ⟨rfl, rfl⟩
  have h1 : (Go.Lib.splitB ⟨#[10]⟩ 0 (Go.Lib.countB s ⟨#[10]⟩) s).map (·.data.toList) = plL [] s.data.toList := by
    rw [Go.Lib.splitB_data]
    exact split_pl _
  have h2 : Go.Lib.splitB ⟨#[10]⟩ 0 (Go.Lib.countB s ⟨#[10]⟩) s = (plL [] s.data.toList).map bW := by
    rw [← h1, List.map_map]
    have : (bW ∘ fun x : ByteArray => x.data.toList) = id := by funext x; exact bW_self x
    rw [this, List.map_id]
  have h3 : Go.Lib.countB s ⟨#[10]⟩ + 1 = ((plL [] s.data.toList).map bW).length := by
    rw [← h2, Go.Lib.splitB_all ⟨#[10]⟩ (by decide) 0 _ s rfl]
  rw [h3, h2]
  refine ⟨_, _, rfl, hw.push _ (p := fun o => o = Obj.cells ((((plL [] s.data.toList).map bW).map encS).flatten).toArray 9) (by rw [flatS]), _, rfl, rfl⟩
theorem sp_lines (hA : AsmAt W0) (s : ByteArray) (hs : s.size ≤ 65536) : Spec Tryz.prog W0 49 [.string s] own (LinesR W0 own (linesB s)) := by
  refine spec_of mixed low_asm_lines (by simp [ir_asm_lines]) ?_
  have hf := fun own => sp_split10 (own := own) hA.mx s (by omega)
  obtain ⟨X, z, h1, h2⟩ := ln_pl s.data.toList []
  have hln : (plL [] s.data.toList).length ≤ s.size + 1 := by
    have := Go.Lib.splitB_all ⟨#[10]⟩ (by decide) 0 _ s rfl
    have h3 := Go.Lib.countB_le ⟨#[10]⟩ (by decide) s.size s (Nat.le_refl _)
    have h4 : (Go.Lib.splitB ⟨#[10]⟩ 0 (Go.Lib.countB s ⟨#[10]⟩) s).map (·.data.toList) = plL [] s.data.toList := by
      rw [Go.Lib.splitB_data]
      exact split_pl _
    rw [← h4, List.length_map]
    omega
  rw [h1] at hln
  simp only [List.length_append, List.length_singleton] at hln
  rw [h1] at hf
  have e1 : (X ++ [z]).map bW = X.map bW ++ [bW z] := by simp
  rw [e1] at hf
  unfold linesB
  rw [h2]
  generalize hXB : X.map bW = XB at hf
  have hXl : XB.length = X.length := by rw [← hXB, List.length_map]
  have hwd : ∀ x ∈ XB ++ [bW z], (encS x).length = 1 := fun _ _ => rfl
  have hnl : (XB ++ [bW z]).length = (XB ++ [bW z]).length := rfl
  have hx : (XB ++ [bW z])[XB.length]? = some (bW z) := by simp
  have hlen : ((XB ++ [bW z]).length : Int) = XB.length + 1 := by simp
  have hRd : ∀ b, RdE encS 1 W0 [canE encS 9 b (XB ++ [bW z])] (some ⟨b, 0, none⟩) (XB ++ [bW z]) := fun b => can_rd hwd
  by_cases hz : z = []
  · rw [if_pos hz, hXB]
    have hzz : (bW z).toList = (⟨#[]⟩ : ByteArray).toList := by rw [hz]; rfl
    repeat' ((try (conv => whnf)); first | (refine when_ye ?_ ?_; exact rfl) | (refine when_ne ?_ ?_; exact rfl) | (refine br_te ?_ ?_; exact rfl) | (refine br_fe ?_ ?_; exact rfl) | (apply br_pyE; (exact rfl); omega) | (apply br_pnE; (exact rfl); omega) | (apply when_pyE; (exact rfl); omega) | (apply when_pnE; (exact rfl); omega) | (apply br_npyE; (exact rfl); omega) | (apply br_npnE; (exact rfl); omega) | (apply when_npyE; (exact rfl); omega) | (apply when_npnE; (exact rfl); omega) | (refine br_pyE ?_ hzz ?_; exact rfl) | (refine br_pnE ?_ hzz ?_; exact rfl) | (refine when_pyE ?_ hzz ?_; exact rfl) | (refine when_pnE ?_ hzz ?_; exact rfl) | (refine br_npyE ?_ hzz ?_; exact rfl) | (refine br_npnE ?_ hzz ?_; exact rfl) | (refine when_npyE ?_ hzz ?_; exact rfl) | (refine when_npnE ?_ hzz ?_; exact rfl) | (refine ⟨0, XB.length, (XB ++ [bW z]).length, rfl, ?_, ?_, ?_, ?_, ?_, ?_, ?_⟩; (show ((XB ++ [bW z]).length : Int) - 1 = _; omega); (exact rfl); (omega); (omega); (omega); (simp)) | ((with_reducible show Ld _ _ _ _); first | (refine ldC0 hwd hx rfl ?_) | (refine ldC1 hwd hx rfl ?_) | (refine ldC hwd hx rfl ?_)) | ((with_reducible show IxS _ _ _ _ _); first | ((refine ixC hx hnl ?_ ?_; (first | rfl | omega)))) | ((with_reducible show LdN _ _ _ _ _); first | (refine ldNC hwd hx rfl ?_)) | ((with_reducible show CallT _ _ _ _ _ _); first | ((refine call_se (hf _) ?_ ?_ (fun v own' hv => ?_); (exact rfl); (exact rfl); (obtain ⟨b, rfl, rfl⟩ := hv)))) | (refine ari ?_ ?_; omega) | (refine aru ?_ ?_; omega) | (apply sel; exact rfl) | (refine ix0 rfl ?_) | (refine ix1 rfl ?_) | (refine ix2 rfl ?_) | (refine ix3 rfl ?_) | (apply ixj; omega) | (refine ixn ?_ ?_; omega) | (refine ixs0 rfl ?_) | (refine ixs1 rfl ?_) | (refine ixs_j ?_ ?_; omega) | (refine ixs_n ?_ ?_; omega) | (apply ld_o; exact rfl) | (apply ldN_a; exact rfl) | (apply ldN_o; (exact rfl); exact rfl) | (apply st_o; (exact rfl); exact rfl) | (apply stN_o; (exact rfl); (exact rfl); exact rfl) | (refine new_i (fun bk hbk => ?_)) | (apply when_dE; (exact rfl); (exact rfl); all_goals intro hc) | (apply when_dF; (exact rfl); (exact rfl); all_goals intro hc) | (apply when_nE; (exact rfl); (exact rfl); all_goals intro hc) | (apply when_nF; (exact rfl); (exact rfl); all_goals intro hc) | (apply br_dE; (exact rfl); all_goals intro hc) | (apply br_nE; (exact rfl); all_goals intro hc) | (refine mm_min ?_) | (refine mm_max ?_) | (refine rem_i ?_ ?_; omega) | (refine SelN.mk ?_) | (refine cut_n ?_) | (refine Both.mk ?_ ?_) | (exact True.intro))
    refine ⟨_, _, [canE encS 9 b (XB ++ [bW z])], rfl, ?_, (by first | exact ent_i | (repeat (first | exact Ent.refl | exact Ent.left | refine Ent.cons ?_ | refine Ent.app ?_)))⟩
    rw [slA0]
    exact rd_take (hRd _)
  · rw [if_neg hz, e1, hXB]
    have hzz : ¬ (bW z).toList = (⟨#[]⟩ : ByteArray).toList := fun e => hz (by
      have := congrArg (fun x : ByteArray => x.data.toList) (ba_toList e)
      simpa [bW] using this)
    repeat' ((try (conv => whnf)); first | (refine when_ye ?_ ?_; exact rfl) | (refine when_ne ?_ ?_; exact rfl) | (refine br_te ?_ ?_; exact rfl) | (refine br_fe ?_ ?_; exact rfl) | (apply br_pyE; (exact rfl); omega) | (apply br_pnE; (exact rfl); omega) | (apply when_pyE; (exact rfl); omega) | (apply when_pnE; (exact rfl); omega) | (apply br_npyE; (exact rfl); omega) | (apply br_npnE; (exact rfl); omega) | (apply when_npyE; (exact rfl); omega) | (apply when_npnE; (exact rfl); omega) | (refine br_pyE ?_ hzz ?_; exact rfl) | (refine br_pnE ?_ hzz ?_; exact rfl) | (refine when_pyE ?_ hzz ?_; exact rfl) | (refine when_pnE ?_ hzz ?_; exact rfl) | (refine br_npyE ?_ hzz ?_; exact rfl) | (refine br_npnE ?_ hzz ?_; exact rfl) | (refine when_npyE ?_ hzz ?_; exact rfl) | (refine when_npnE ?_ hzz ?_; exact rfl) | ((with_reducible show Ld _ _ _ _); first | (refine ldC0 hwd hx rfl ?_) | (refine ldC1 hwd hx rfl ?_) | (refine ldC hwd hx rfl ?_)) | ((with_reducible show IxS _ _ _ _ _); first | ((refine ixC hx hnl ?_ ?_; (first | rfl | omega)))) | ((with_reducible show LdN _ _ _ _ _); first | (refine ldNC hwd hx rfl ?_)) | ((with_reducible show CallT _ _ _ _ _ _); first | ((refine call_se (hf _) ?_ ?_ (fun v own' hv => ?_); (exact rfl); (exact rfl); (obtain ⟨b, rfl, rfl⟩ := hv)))) | (refine ari ?_ ?_; omega) | (refine aru ?_ ?_; omega) | (apply sel; exact rfl) | (refine ix0 rfl ?_) | (refine ix1 rfl ?_) | (refine ix2 rfl ?_) | (refine ix3 rfl ?_) | (apply ixj; omega) | (refine ixn ?_ ?_; omega) | (refine ixs0 rfl ?_) | (refine ixs1 rfl ?_) | (refine ixs_j ?_ ?_; omega) | (refine ixs_n ?_ ?_; omega) | (apply ld_o; exact rfl) | (apply ldN_a; exact rfl) | (apply ldN_o; (exact rfl); exact rfl) | (apply st_o; (exact rfl); exact rfl) | (apply stN_o; (exact rfl); (exact rfl); exact rfl) | (refine new_i (fun bk hbk => ?_)) | (apply when_dE; (exact rfl); (exact rfl); all_goals intro hc) | (apply when_dF; (exact rfl); (exact rfl); all_goals intro hc) | (apply when_nE; (exact rfl); (exact rfl); all_goals intro hc) | (apply when_nF; (exact rfl); (exact rfl); all_goals intro hc) | (apply br_dE; (exact rfl); all_goals intro hc) | (apply br_nE; (exact rfl); all_goals intro hc) | (refine mm_min ?_) | (refine mm_max ?_) | (refine rem_i ?_ ?_; omega) | (refine SelN.mk ?_) | (refine cut_n ?_) | (refine Both.mk ?_ ?_) | (exact True.intro))
    exact ⟨_, _, [canE encS 9 b (XB ++ [bW z])], rfl, hRd _, (by first | exact ent_i | (repeat (first | exact Ent.refl | exact Ent.left | refine Ent.cons ?_ | refine Ent.app ?_)))⟩
theorem sp_rLines (s : ByteArray) (hs : s.size ≤ 4294967296) : Spec Tryz.prog W0 32 [.string s] own (LinesR W0 own (linesB s)) := by
  refine spec_of mixed low_ref04_Lines (by simp [ir_ref04_Lines]) ?_
  have hl : s.data.toList.length = s.size := by simp
  repeat' ((try (conv => whnf)); first | (refine when_ye ?_ ?_; exact rfl) | (refine when_ne ?_ ?_; exact rfl) | (refine br_te ?_ ?_; exact rfl) | (refine br_fe ?_ ?_; exact rfl) | (apply br_pyE; (exact rfl); omega) | (apply br_pnE; (exact rfl); omega) | (apply when_pyE; (exact rfl); omega) | (apply when_pnE; (exact rfl); omega) | (apply br_npyE; (exact rfl); omega) | (apply br_npnE; (exact rfl); omega) | (apply when_npyE; (exact rfl); omega) | (apply when_npnE; (exact rfl); omega) | (refine ari ?_ ?_; omega) | (refine aru ?_ ?_; omega) | (apply sel; exact rfl) | (refine ix0 rfl ?_) | (refine ix1 rfl ?_) | (refine ix2 rfl ?_) | (refine ix3 rfl ?_) | (apply ixj; omega) | (refine ixn ?_ ?_; omega) | (refine ixs0 rfl ?_) | (refine ixs1 rfl ?_) | (refine ixs_j ?_ ?_; omega) | (refine ixs_n ?_ ?_; omega) | (apply ld_o; exact rfl) | (apply ldN_a; exact rfl) | (apply ldN_o; (exact rfl); exact rfl) | (apply st_o; (exact rfl); exact rfl) | (apply stN_o; (exact rfl); (exact rfl); exact rfl) | (refine new_i (fun bk hbk => ?_)) | (apply when_dE; (exact rfl); (exact rfl); all_goals intro hc) | (apply when_dF; (exact rfl); (exact rfl); all_goals intro hc) | (apply when_nE; (exact rfl); (exact rfl); all_goals intro hc) | (apply when_nF; (exact rfl); (exact rfl); all_goals intro hc) | (apply br_dE; (exact rfl); all_goals intro hc) | (apply br_nE; (exact rfl); all_goals intro hc) | (refine mm_min ?_) | (refine mm_max ?_) | (refine rem_i ?_ ?_; omega) | (refine SelN.mk ?_) | (refine cut_n ?_) | (refine Both.mk ?_ ?_) | (exact True.intro))
  refine loop_i (σ := Nat × Nat × List ByteArray × Option Addr × Nat × Own) (fun x => [(3, .slice x.2.2.2.1 x.2.2.1.length x.2.2.2.2.1), (4, .int .i64 x.2.1), (5, .int .i64 x.1)]) (fun x => x.2.2.2.2.2 ++ own) (fun x => x.1 ≤ s.size ∧ x.2.1 ≤ x.1 ∧ x.2.2.1.length ≤ x.1 ∧ BufE encS 9 1 x.2.2.2.1 x.2.2.2.2.1 x.2.2.1 x.2.2.2.2.2 ∧
    x.2.2.1.map (fun y => y.data.toList) ++ lnL ((s.data.toList.drop x.2.1).take (x.1 - x.2.1)) (s.data.toList.drop x.1) = lnL [] s.data.toList) (fun x => s.size - x.1) (0, 0, [], none, 0, []) ⟨Nat.zero_le _, Nat.le_refl _, Nat.le_refl _, BufE.nil, by simp⟩ (by repeat' (first | exact True.intro | refine And.intro ?_ ?_ | exact rfl | exact vi (by omega) | (dsimp only; exact rfl) | (dsimp only; exact vi (by omega)))) Ent.refl rfl ?_
  rintro ⟨i, f, acc, a, cap, D⟩ junk ⟨hi, hfi, hal, hB, hI⟩
  dsimp only at hi hfi hal hB hI ⊢
  by_cases hlt : i < s.size
  · have hlt' : (i : Int) < s.size := by omega
    obtain ⟨x, hx⟩ : ∃ x, s.data.toList[i]? = some x := ⟨_, List.getElem?_eq_getElem (by omega)⟩
    have hd : s.data.toList.drop i = x :: s.data.toList.drop (i + 1) := by
      rw [List.drop_eq_getElem_cons (by omega)]
      congr 1
      exact (List.getElem?_eq_some_iff.1 hx).2
    rw [hd, ln_cons] at hI
    by_cases h10 : (x.toNat : Int) = 10
    · have hx10 : x = 10 := UInt8.toNat.inj (by show x.toNat = 10; omega)
      rw [if_pos hx10] at hI
      repeat' ((try (conv => whnf)); first | (refine when_ye ?_ ?_; exact rfl) | (refine when_ne ?_ ?_; exact rfl) | (refine br_te ?_ ?_; exact rfl) | (refine br_fe ?_ ?_; exact rfl) | (apply br_pyE; (exact rfl); omega) | (apply br_pnE; (exact rfl); omega) | (apply when_pyE; (exact rfl); omega) | (apply when_pnE; (exact rfl); omega) | (apply br_npyE; (exact rfl); omega) | (apply br_npnE; (exact rfl); omega) | (apply when_npyE; (exact rfl); omega) | (apply when_npnE; (exact rfl); omega) | (refine ⟨i, x, rfl, hx, ?_⟩) | (refine SscT.mk ⟨f, i, rfl, rfl, ?_, ?_, ?_⟩; (omega); (omega)) | (apply app_i (enc := encS) (s.extract f i) hB; (exact rfl); (exact rfl); (omega); (exact rfl); (exact rfl); (omega); intro a2 c2 D2 hb2) | (refine ari ?_ ?_; omega) | (refine aru ?_ ?_; omega) | (apply sel; exact rfl) | (refine ix0 rfl ?_) | (refine ix1 rfl ?_) | (refine ix2 rfl ?_) | (refine ix3 rfl ?_) | (apply ixj; omega) | (refine ixn ?_ ?_; omega) | (refine ixs0 rfl ?_) | (refine ixs1 rfl ?_) | (refine ixs_j ?_ ?_; omega) | (refine ixs_n ?_ ?_; omega) | (apply ld_o; exact rfl) | (apply ldN_a; exact rfl) | (apply ldN_o; (exact rfl); exact rfl) | (apply st_o; (exact rfl); exact rfl) | (apply stN_o; (exact rfl); (exact rfl); exact rfl) | (refine new_i (fun bk hbk => ?_)) | (apply when_dE; (exact rfl); (exact rfl); all_goals intro hc) | (apply when_dF; (exact rfl); (exact rfl); all_goals intro hc) | (apply when_nE; (exact rfl); (exact rfl); all_goals intro hc) | (apply when_nF; (exact rfl); (exact rfl); all_goals intro hc) | (apply br_dE; (exact rfl); all_goals intro hc) | (apply br_nE; (exact rfl); all_goals intro hc) | (refine mm_min ?_) | (refine mm_max ?_) | (refine rem_i ?_ ?_; omega) | (refine SelN.mk ?_) | (refine cut_n ?_) | (refine Both.mk ?_ ?_) | (exact True.intro))
      refine ⟨(i + 1, i + 1, acc ++ [s.extract f i], a2, c2, D2), ⟨by dsimp only; omega, by dsimp only; omega, by dsimp only; simp; omega, hb2, ?_⟩, by dsimp only; omega, ?_, (by first | exact ent_i | (repeat (first | exact Ent.refl | exact Ent.left | refine Ent.cons ?_ | refine Ent.app ?_)))⟩
      · dsimp only
        rw [Nat.sub_self, List.take_zero, List.map_append, List.append_assoc, List.map_singleton, ba_extract]
        exact hI
      · dsimp only
        rw [List.length_append]
        exact (by repeat' (first | exact True.intro | refine And.intro ?_ ?_ | exact rfl | exact vi (by omega) | (dsimp only; exact rfl) | (dsimp only; exact vi (by omega))))
    · have hx10 : x ≠ 10 := fun e => h10 (by rw [e]; rfl)
      rw [if_neg hx10, ← take_ext hfi hx] at hI
      repeat' ((try (conv => whnf)); first | (refine when_ye ?_ ?_; exact rfl) | (refine when_ne ?_ ?_; exact rfl) | (refine br_te ?_ ?_; exact rfl) | (refine br_fe ?_ ?_; exact rfl) | (apply br_pyE; (exact rfl); omega) | (apply br_pnE; (exact rfl); omega) | (apply when_pyE; (exact rfl); omega) | (apply when_pnE; (exact rfl); omega) | (apply br_npyE; (exact rfl); omega) | (apply br_npnE; (exact rfl); omega) | (apply when_npyE; (exact rfl); omega) | (apply when_npnE; (exact rfl); omega) | (refine ⟨i, x, rfl, hx, ?_⟩) | (refine ari ?_ ?_; omega) | (refine aru ?_ ?_; omega) | (apply sel; exact rfl) | (refine ix0 rfl ?_) | (refine ix1 rfl ?_) | (refine ix2 rfl ?_) | (refine ix3 rfl ?_) | (apply ixj; omega) | (refine ixn ?_ ?_; omega) | (refine ixs0 rfl ?_) | (refine ixs1 rfl ?_) | (refine ixs_j ?_ ?_; omega) | (refine ixs_n ?_ ?_; omega) | (apply ld_o; exact rfl) | (apply ldN_a; exact rfl) | (apply ldN_o; (exact rfl); exact rfl) | (apply st_o; (exact rfl); exact rfl) | (apply stN_o; (exact rfl); (exact rfl); exact rfl) | (refine new_i (fun bk hbk => ?_)) | (apply when_dE; (exact rfl); (exact rfl); all_goals intro hc) | (apply when_dF; (exact rfl); (exact rfl); all_goals intro hc) | (apply when_nE; (exact rfl); (exact rfl); all_goals intro hc) | (apply when_nF; (exact rfl); (exact rfl); all_goals intro hc) | (apply br_dE; (exact rfl); all_goals intro hc) | (apply br_nE; (exact rfl); all_goals intro hc) | (refine mm_min ?_) | (refine mm_max ?_) | (refine rem_i ?_ ?_; omega) | (refine SelN.mk ?_) | (refine cut_n ?_) | (refine Both.mk ?_ ?_) | (exact True.intro))
      exact ⟨(i + 1, f, acc, a, cap, D), ⟨by dsimp only; omega, by dsimp only; omega, by dsimp only; omega, hB, hI⟩, by dsimp only; omega, (by repeat' (first | exact True.intro | refine And.intro ?_ ?_ | exact rfl | exact vi (by omega) | (dsimp only; exact rfl) | (dsimp only; exact vi (by omega)))), (by first | exact ent_i | (repeat (first | exact Ent.refl | exact Ent.left | refine Ent.cons ?_ | refine Ent.app ?_)))⟩
  · have hlt' : ¬ (i : Int) < s.size := by omega
    have hie : i = s.size := by omega
    subst hie
    have e1 : s.data.toList.drop s.size = [] := List.drop_eq_nil_of_le (by omega)
    rw [e1, ln_nil] at hI
    have e2 : (s.data.toList.drop f).take (s.size - f) = s.data.toList.drop f := List.take_of_length_le (by rw [List.length_drop]; omega)
    rw [e2] at hI
    have hmap : ∀ l : List ByteArray, (l.map (fun y => y.data.toList)).map bW = l := fun l => by
      rw [List.map_map]
      have : (bW ∘ fun x : ByteArray => x.data.toList) = id := by funext x; exact bW_self x
      rw [this, List.map_id]
    unfold linesB
    rw [← hI]
    by_cases hfl : f < s.size
    · have hfl' : (f : Int) < s.size := by omega
      have hne : s.data.toList.drop f ≠ [] := fun e => by have := congrArg List.length e; rw [List.length_drop] at this; simp at this; omega
      rw [if_neg hne]
      have e3 : (acc.map (fun y => y.data.toList) ++ [s.data.toList.drop f]).map bW = acc ++ [s.extract f s.size] := by
        rw [List.map_append, hmap, List.map_singleton]
        congr 2
        exact ba_ext (by rw [bW_data, ba_extract, e2])
      rw [e3]
      repeat' ((try (conv => whnf)); first | (refine when_ye ?_ ?_; exact rfl) | (refine when_ne ?_ ?_; exact rfl) | (refine br_te ?_ ?_; exact rfl) | (refine br_fe ?_ ?_; exact rfl) | (apply br_pyE; (exact rfl); omega) | (apply br_pnE; (exact rfl); omega) | (apply when_pyE; (exact rfl); omega) | (apply when_pnE; (exact rfl); omega) | (apply br_npyE; (exact rfl); omega) | (apply br_npnE; (exact rfl); omega) | (apply when_npyE; (exact rfl); omega) | (apply when_npnE; (exact rfl); omega) | (refine SscT.mk ⟨f, s.size, rfl, rfl, ?_, ?_, ?_⟩; (omega); (omega)) | (apply app_i (enc := encS) (s.extract f s.size) hB; (exact rfl); (exact rfl); (omega); (exact rfl); (exact rfl); (omega); intro a2 c2 D2 hb2) | (refine ari ?_ ?_; omega) | (refine aru ?_ ?_; omega) | (apply sel; exact rfl) | (refine ix0 rfl ?_) | (refine ix1 rfl ?_) | (refine ix2 rfl ?_) | (refine ix3 rfl ?_) | (apply ixj; omega) | (refine ixn ?_ ?_; omega) | (refine ixs0 rfl ?_) | (refine ixs1 rfl ?_) | (refine ixs_j ?_ ?_; omega) | (refine ixs_n ?_ ?_; omega) | (apply ld_o; exact rfl) | (apply ldN_a; exact rfl) | (apply ldN_o; (exact rfl); exact rfl) | (apply st_o; (exact rfl); exact rfl) | (apply stN_o; (exact rfl); (exact rfl); exact rfl) | (refine new_i (fun bk hbk => ?_)) | (apply when_dE; (exact rfl); (exact rfl); all_goals intro hc) | (apply when_dF; (exact rfl); (exact rfl); all_goals intro hc) | (apply when_nE; (exact rfl); (exact rfl); all_goals intro hc) | (apply when_nF; (exact rfl); (exact rfl); all_goals intro hc) | (apply br_dE; (exact rfl); all_goals intro hc) | (apply br_nE; (exact rfl); all_goals intro hc) | (refine mm_min ?_) | (refine mm_max ?_) | (refine rem_i ?_ ?_; omega) | (refine SelN.mk ?_) | (refine cut_n ?_) | (refine Both.mk ?_ ?_) | (exact True.intro))
      exact ⟨a2, c2, D2, by rw [List.length_append]; rfl, hb2.rd, (by first | exact ent_i | (repeat (first | exact Ent.refl | exact Ent.left | refine Ent.cons ?_ | refine Ent.app ?_)))⟩
    · have hfl' : ¬ (f : Int) < s.size := by omega
      have hne : s.data.toList.drop f = [] := List.drop_eq_nil_of_le (by omega)
      rw [if_pos hne, List.append_nil, hmap]
      repeat' ((try (conv => whnf)); first | (refine when_ye ?_ ?_; exact rfl) | (refine when_ne ?_ ?_; exact rfl) | (refine br_te ?_ ?_; exact rfl) | (refine br_fe ?_ ?_; exact rfl) | (apply br_pyE; (exact rfl); omega) | (apply br_pnE; (exact rfl); omega) | (apply when_pyE; (exact rfl); omega) | (apply when_pnE; (exact rfl); omega) | (apply br_npyE; (exact rfl); omega) | (apply br_npnE; (exact rfl); omega) | (apply when_npyE; (exact rfl); omega) | (apply when_npnE; (exact rfl); omega) | (refine ari ?_ ?_; omega) | (refine aru ?_ ?_; omega) | (apply sel; exact rfl) | (refine ix0 rfl ?_) | (refine ix1 rfl ?_) | (refine ix2 rfl ?_) | (refine ix3 rfl ?_) | (apply ixj; omega) | (refine ixn ?_ ?_; omega) | (refine ixs0 rfl ?_) | (refine ixs1 rfl ?_) | (refine ixs_j ?_ ?_; omega) | (refine ixs_n ?_ ?_; omega) | (apply ld_o; exact rfl) | (apply ldN_a; exact rfl) | (apply ldN_o; (exact rfl); exact rfl) | (apply st_o; (exact rfl); exact rfl) | (apply stN_o; (exact rfl); (exact rfl); exact rfl) | (refine new_i (fun bk hbk => ?_)) | (apply when_dE; (exact rfl); (exact rfl); all_goals intro hc) | (apply when_dF; (exact rfl); (exact rfl); all_goals intro hc) | (apply when_nE; (exact rfl); (exact rfl); all_goals intro hc) | (apply when_nF; (exact rfl); (exact rfl); all_goals intro hc) | (apply br_dE; (exact rfl); all_goals intro hc) | (apply br_nE; (exact rfl); all_goals intro hc) | (refine mm_min ?_) | (refine mm_max ?_) | (refine rem_i ?_ ?_; omega) | (refine SelN.mk ?_) | (refine cut_n ?_) | (refine Both.mk ?_ ?_) | (exact True.intro))
      exact ⟨a, cap, D, rfl, hB.rd, (by first | exact ent_i | (repeat (first | exact Ent.refl | exact Ent.left | refine Ent.cons ?_ | refine Ent.app ?_)))⟩
end
end Go.Proofs.YtiimndcifcoofaaGreatDoor
