/- What the laws share, part 36. No condition. -/
import Derived.Test.YtiimndcifcoofaaGreatDoorY35
namespace Go.Proofs.YtiimndcifcoofaaGreatDoor
open Go Go.RowKit
set_option maxRecDepth 10000
set_option maxHeartbeats 4000000
theorem lit_rdI {W0 : World} {b : Nat} {l : List Ins} {cs : Array Value} {own r : Own} (hc : cs = (l.map Ins.enc).flatten.toArray) (e : own = (b, fun o => o = Obj.cells cs 23 (0, 0)) :: r) : RdE Ins.enc 5 W0 own (some ⟨b, 0, none⟩) l := by
  subst hc; subst e
  exact RdE.ent (can_rd (T := 23) (b := b) (fun _ _ => rfl)) (Ent.of_sub (List.Sublist.cons_cons _ (List.nil_sublist _)))
def insL (x : Ins) : List Int := [x.op, x.a, x.b, x.c, x.imm]
theorem insL_inj : ∀ {l m : List Ins}, l.map insL = m.map insL → l = m
  | [], [], _ => rfl
  | [], _ :: _, h => by simp at h
  | _ :: _, [], h => by simp at h
  | ⟨a, b, c, d, e⟩ :: l, ⟨a', b', c', d', e'⟩ :: m, h => by
    simp only [List.map_cons, List.cons.injEq, insL, and_true] at h
    obtain ⟨⟨rfl, rfl, rfl, rfl, rfl⟩, h⟩ := h
    rw [insL_inj h]
abbrev awkS : ByteArray := ⟨#[122, 101, 114, 111, 32, 114, 49, 32, 101, 110, 100, 10, 99, 111, 110, 115, 116, 32, 114, 50, 32, 53, 32, 35, 32, 102, 105, 118, 101, 10, 101, 110, 100, 58, 10]⟩
theorem awk_asm : asmM awkS = ([⟨5, 1, 0, 0, 1⟩, ⟨1, 2, 0, 0, 5⟩], 0, 0) := by
  have h : (asmM awkS).1.map insL = [[5, 1, 0, 0, 1], [1, 2, 0, 0, 5]] ∧ (asmM awkS).2 = (0, 0) := by decide +kernel
  exact Prod.ext (insL_inj (h.1.trans rfl)) h.2
theorem awk_dis : disM [⟨4, 0, 0, 0, 0⟩] = (⟨#[106, 117, 109, 112, 32, 108, 49, 10, 108, 49, 58, 10]⟩, 0) := by
  have h : tgtT [⟨4, 0, 0, 0, 0⟩] = [1] := by
    unfold tgtT
    rw [show rawT [(⟨4, 0, 0, 0, 0⟩ : Ins)].length [⟨4, 0, 0, 0, 0⟩] 0 = [1] by decide +kernel, cs_one]
  have h2 : errP [⟨4, 0, 0, 0, 0⟩] = 0 := by decide +kernel
  unfold disM
  rw [if_neg (by decide), if_pos h2, h]
  have h3 : disR [1] [⟨4, 0, 0, 0, 0⟩] 0 = [106, 117, 109, 112, 32, 108, 49, 10, 108, 49, 58, 10] := by decide +kernel
  rw [h3]
  rfl
section
variable {W0 : World} {own : Own}
theorem sp_awake4 (hA : AsmAt W0) : Pure Tryz.prog W0 23 [] own (.bool true) := by
  refine pure_of (spec_of mixed low_law04_awake (by simp [ir_law04_awake]) ?_)
  have h1 := fun own => sp_Assemble (own := own) hA awkS (by decide)
  rw [awk_asm] at h1
  have h2 := fun (own : Own) (a : Option Addr) (h : RdE Ins.enc 5 W0 own a [⟨4, 0, 0, 0, 0⟩]) => sp_Disassemble (cap := 1) hA h (by decide) (fun i hi => by rw [List.mem_singleton.1 hi]; exact ⟨by decide, by decide⟩)
  rw [awk_dis] at h2
  dsimp only at h2
  have hx0 : [(⟨5, 1, 0, 0, 1⟩ : Ins), ⟨1, 2, 0, 0, 5⟩][0]? = some ⟨5, 1, 0, 0, 1⟩ := rfl
  have hs1 : (⟨#[106, 117, 109, 112, 32, 108, 49, 10, 108, 49, 58, 10]⟩ : ByteArray).toList = (⟨#[106, 117, 109, 112, 32, 108, 49, 10, 108, 49, 58, 10]⟩ : ByteArray).toList := rfl
  repeat' ((try (conv => whnf)); first | (refine when_ye ?_ ?_; exact rfl) | (refine when_ne ?_ ?_; exact rfl) | (refine br_te ?_ ?_; exact rfl) | (refine br_fe ?_ ?_; exact rfl) | (apply br_pyE; (exact rfl); omega) | (apply br_pnE; (exact rfl); omega) | (apply when_pyE; (exact rfl); omega) | (apply when_pnE; (exact rfl); omega) | (apply br_npyE; (exact rfl); omega) | (apply br_npnE; (exact rfl); omega) | (apply when_npyE; (exact rfl); omega) | (apply when_npnE; (exact rfl); omega) | (refine br_pyE ?_ hs1 ?_; exact rfl) | (refine br_pnE ?_ hs1 ?_; exact rfl) | (refine when_pyE ?_ hs1 ?_; exact rfl) | (refine when_pnE ?_ hs1 ?_; exact rfl) | (refine br_npyE ?_ hs1 ?_; exact rfl) | (refine br_npnE ?_ hs1 ?_; exact rfl) | (refine when_npyE ?_ hs1 ?_; exact rfl) | (refine when_npnE ?_ hs1 ?_; exact rfl) | (refine eq_yes ?_ ?_; (simp [eqC, eqOne])) | ((with_reducible show Ld _ _ _ _); first | (refine ldE0 hR hx0 rfl ?_) | (refine ldEk hR hx0 rfl ?_) | (refine ldE1 hR hx0 rfl ?_)) | ((with_reducible show IxS _ _ _ _ _); first | ((refine ixE hR hx0 ?_ ?_; (first | rfl | omega)))) | ((with_reducible show LdN _ _ _ _ _); first | (refine ldNEi hR hx0 rfl ?_)) | ((with_reducible show CallT _ _ _ _ _ _); first | ((refine call_se (h1 _) ?_ ?_ (fun v own' hv => ?_); (exact rfl); (exact rfl); (obtain ⟨a, cap, rfl, hR, hE⟩ := hv))) | ((refine call_pe (h2 _ (some ⟨bk, 0, none⟩) ?_) ?_ ?_ ?_; (exact lit_rdI (l := [⟨4, 0, 0, 0, 0⟩]) rfl rfl); (exact rfl); (exact rfl)))) | (refine ari ?_ ?_; omega) | (refine aru ?_ ?_; omega) | (apply sel; exact rfl) | (refine ix0 rfl ?_) | (refine ix1 rfl ?_) | (refine ix2 rfl ?_) | (refine ix3 rfl ?_) | (apply ixj; omega) | (refine ixn ?_ ?_; omega) | (refine ixs0 rfl ?_) | (refine ixs1 rfl ?_) | (refine ixs_j ?_ ?_; omega) | (refine ixs_n ?_ ?_; omega) | (apply ld_o; exact rfl) | (apply ldN_a; exact rfl) | (apply ldN_o; (exact rfl); exact rfl) | (apply st_o; (exact rfl); exact rfl) | (apply stN_o; (exact rfl); (exact rfl); exact rfl) | (refine new_i (fun bk hbk => ?_)) | (apply when_dE; (exact rfl); (exact rfl); all_goals intro hc) | (apply when_dF; (exact rfl); (exact rfl); all_goals intro hc) | (apply when_nE; (exact rfl); (exact rfl); all_goals intro hc) | (apply when_nF; (exact rfl); (exact rfl); all_goals intro hc) | (apply br_dE; (exact rfl); all_goals intro hc) | (apply br_nE; (exact rfl); all_goals intro hc) | (refine mm_min ?_) | (refine mm_max ?_) | (refine rem_i ?_ ?_; omega) | (refine SelN.mk ?_) | (refine cut_n ?_) | (refine Both.mk ?_ ?_) | (exact True.intro))
  exact ⟨ret1 (vb (decide_eq_true hs1)), Ent.trans (Ent.cons Ent.refl) hE⟩
end
end Go.Proofs.YtiimndcifcoofaaGreatDoor
namespace Go.Proofs.YtiimndcifcoofaaGreatDoor
open Go Go.RowKit
set_option maxRecDepth 10000
set_option maxHeartbeats 4000000
def numL (f : Nat → Int) (m : Nat) : List Int := (List.range m).map f
theorem num_len (f : Nat → Int) (m : Nat) : (numL f m).length = m := by simp [numL]
theorem num_at {f : Nat → Int} {m j : Nat} (h : j < m) : (numL f m)[j]? = some (f j) := by simp [numL, h]
theorem num_set (f : Nat → Int) (m j : Nat) (v : Int) : (numL f m).set j v = numL (fun i => if i = j then v else f i) m := by
  refine List.ext_getElem? fun i => ?_
  rw [List.getElem?_set]
  simp only [num_len]
  by_cases hi : i < m
  · rw [num_at hi, num_at hi]
    by_cases hj : j = i
    · subst hj; simp [hi]
    · rw [if_neg hj, if_neg (fun e => hj e.symm)]
  · rw [List.getElem?_eq_none (by rw [num_len]; omega), List.getElem?_eq_none (by rw [num_len]; omega)]
    split
    · rw [if_neg (by omega)]
    · rfl
theorem num_congr {f g : Nat → Int} {m : Nat} (h : ∀ j, j < m → f j = g j) : numL f m = numL g m := List.map_congr_left fun j hj => h j (List.mem_range.1 hj)
theorem num_zero (m : Nat) : List.replicate m (0 : Int) = numL (fun _ => 0) m := by
  simp [numL, List.map_const']
theorem tgtT_mem (p : List Ins) (x : Int) : x ∈ tgtT p ↔ x ∈ rawT p.length p 0 := by
  unfold tgtT
  rw [(cmp_spec (srt_sorted (rawT p.length p 0))).2.1 x]
  exact srt_mem
def cntT (T : List Int) (k : Nat) : Nat := (T.filter fun x : Int => decide (x < (k : Int))).length
def nmT (T : List Int) (k : Nat) : Int := match idxI k T 0 with
  | some q => (q : Int) + 1
  | none => 0
theorem filt_none {T : List Int} {k : Int} (h : ∀ x ∈ T, k ≤ x) : T.filter (fun x : Int => decide (x < k)) = [] := by
  rw [List.filter_eq_nil_iff]
  intro x hx
  have := h x hx
  simp; omega
theorem idx_cnt {k : Nat} : ∀ (T : List Int) (j : Nat), T.Pairwise (· < ·) → (k : Int) ∈ T → idxI k T j = some (j + cntT T k)
  | [], _, _, h => by cases h
  | y :: r, j, hp, h => by
    obtain ⟨h1, h2⟩ := List.pairwise_cons.1 hp
    unfold idxI cntT
    by_cases he : (k : Int) = y
    · rw [if_pos he, List.filter_cons_of_neg (by simp; omega), filt_none (fun x hx => by have := h1 x hx; omega)]
      rfl
    · have hr : (k : Int) ∈ r := by
        rcases List.mem_cons.1 h with h | h
        · exact absurd h he
        · exact h
      have hlt := h1 _ hr
      rw [if_neg he, List.filter_cons_of_pos (by simpa using hlt), idx_cnt r (j + 1) h2 hr]
      simp only [List.length_cons, cntT, Option.some.injEq]
      omega
theorem cnt_succ {k : Nat} : ∀ (T : List Int), T.Pairwise (· < ·) → cntT T (k + 1) = cntT T k + if (k : Int) ∈ T then 1 else 0
  | [], _ => rfl
  | y :: r, hp => by
    obtain ⟨h1, h2⟩ := List.pairwise_cons.1 hp
    have ih := cnt_succ (k := k) r h2
    unfold cntT at *
    by_cases he : (k : Int) = y
    · have hnot : ¬ (k : Int) ∈ r := fun h => by have := h1 _ h; omega
      rw [if_neg hnot] at ih
      rw [if_pos (by rw [he]; exact List.mem_cons_self), List.filter_cons_of_pos (by simp; omega), List.filter_cons_of_neg (by simp; omega), List.length_cons, ih]
    · have hm : ((k : Int) ∈ y :: r) ↔ (k : Int) ∈ r := by simp [he]
      by_cases hy : y < (k : Int)
      · rw [List.filter_cons_of_pos (by simp; omega), List.filter_cons_of_pos (by simp; omega), List.length_cons, List.length_cons, ih]
        by_cases hk : (k : Int) ∈ r
        · rw [if_pos hk, if_pos (hm.2 hk)]
        · rw [if_neg hk, if_neg (fun h => hk (hm.1 h))]
      · rw [List.filter_cons_of_neg (by simp; omega), List.filter_cons_of_neg (by simp; omega), ih]
        by_cases hk : (k : Int) ∈ r
        · rw [if_pos hk, if_pos (hm.2 hk)]
        · rw [if_neg hk, if_neg (fun h => hk (hm.1 h))]
theorem cnt_zero {T : List Int} (h : ∀ x ∈ T, 0 ≤ x) : cntT T 0 = 0 := by
  unfold cntT
  rw [show ((0 : Nat) : Int) = 0 from rfl, filt_none h]
  rfl
theorem cnt_le (T : List Int) (k : Nat) : cntT T k ≤ T.length := List.length_filter_le _ _
theorem nm_yes {T : List Int} {k : Nat} (hp : T.Pairwise (· < ·)) (h : (k : Int) ∈ T) : nmT T k = (cntT T k : Int) + 1 := by
  unfold nmT
  rw [idx_cnt T 0 hp h]
  simp
theorem nm_no {T : List Int} {k : Nat} (h : ¬ (k : Int) ∈ T) : nmT T k = 0 := by
  unfold nmT
  rw [idx_none _ T 0 h]
theorem idx_mem {T : List Int} {k : Nat} (hp : T.Pairwise (· < ·)) (h : (k : Int) ∈ T) : ∃ q, idxI k T 0 = some q := ⟨_, idx_cnt T 0 hp h⟩
theorem raw_in (n : Nat) {i : Ins} : ∀ (p : List Ins) (k m : Nat), p[m]? = some i → iskips i = true → ((k + m : Nat) : Int) + 1 + iskip i ≤ n → ((k + m : Nat) : Int) + 1 + iskip i ∈ rawT n p k
  | [], _, _, h, _, _ => by simp at h
  | x :: r, k, 0, h, hs, hn => by
    simp only [List.getElem?_cons_zero, Option.some.injEq] at h
    subst h
    simp only [Nat.add_zero] at hn ⊢
    simp only [rawT]
    rw [if_pos ⟨hs, hn⟩]
    exact List.mem_cons_self
  | x :: r, k, m + 1, h, hs, hn => by
    have e : k + (m + 1) = k + 1 + m := by omega
    rw [e] at hn ⊢
    have := raw_in n r (k + 1) m (by simpa using h) hs hn
    simp only [rawT]
    split
    · exact List.mem_cons_of_mem _ this
    · exact this
theorem join_snoc : ∀ (ws : List (List UInt8)) (x : List UInt8), ws ≠ [] → Go.Lib.join (ws ++ [x]) [32] = Go.Lib.join ws [32] ++ 32 :: x
  | [], _, h => absurd rfl h
  | [w], x, _ => by simp [Go.Lib.join, List.intercalate]
  | w :: w2 :: r, x, _ => by
    have ih := join_snoc (w2 :: r) x (by simp)
    have e : ∀ (w : List UInt8) (w2 : List UInt8) (r : List (List UInt8)), Go.Lib.join (w :: w2 :: r) [32] = w ++ 32 :: Go.Lib.join (w2 :: r) [32] := fun w w2 r => by simp [Go.Lib.join, List.intercalate, List.intersperse]
    rw [List.cons_append, List.cons_append, e, ← List.cons_append, ih, e]
    simp
theorem lib_at {s : ByteArray} {a x : List UInt8} (h : s.data.toList = a ++ 32 :: x) (hx : ∀ c ∈ x, c ≠ 32) : Go.Lib.lastIndexByte s 32 = a.length := by
  have hsz : s.size = a.length + 1 + x.length := by
    have : s.data.toList.length = s.size := by simp
    rw [← this, h]; simp; omega
  have hat : ∀ {j : Nat} {c : UInt8}, (a ++ 32 :: x)[j]? = some c → s.data[j]! = c := fun {j c} hj => by
    rw [← h] at hj
    exact ba_get s hj
  have h32 : s.data[a.length]! = 32 := hat (by simp)
  rcases Go.Lib.lastIndexByte_spec s 32 with ⟨_, hn⟩ | ⟨i, hi, he, hc, hn⟩
  · exact absurd (by rw [h32]; rfl) (hn a.length (by omega))
  · rw [he]
    by_cases h1 : i < a.length
    · exact absurd (by rw [h32]; rfl) (hn a.length h1 (by omega))
    · by_cases h2 : i = a.length
      · rw [h2]
      · exfalso
        have hj : i - a.length - 1 < x.length := by omega
        have hg : (a ++ 32 :: x)[i]? = some x[i - a.length - 1] := by
          rw [List.getElem?_append_right (by omega), ← List.getElem?_eq_getElem hj]
          obtain ⟨q, hq⟩ : ∃ q, i - a.length = q + 1 := ⟨i - a.length - 1, by omega⟩
          rw [hq, List.getElem?_cons_succ, Nat.add_sub_cancel]
        rw [hat hg] at hc
        exact hx _ (List.getElem_mem hj) (UInt8.toNat.inj (show (x[i - a.length - 1]).toNat = 32 by omega))
theorem fmt_split {i : Ins} (h : iskips i = true) (h1 : -9223372036854775808 ≤ i.imm) (h2 : i.imm ≤ 9223372036854775807) :
    ∃ ws x, fmtL i = ws ++ [x] ∧ ws ≠ [] ∧ (fmtB i).data.toList = Go.Lib.join ws [32] ++ 32 :: x ∧ uptoL (fmtB i) = Go.Lib.join ws [32] ++ [32] ∧ x = Go.Lib.itoa i.imm := by
  have h' := h
  unfold iskips at h'
  obtain ⟨h0, ho⟩ := of_decide_eq_true h'
  have hw := fmt_words h0 h1 h2
  have hex : ∃ ws, fmtL i = ws ++ [Go.Lib.itoa i.imm] ∧ ws ≠ [] := by
    rcases ho with ho | ho | ho
    · refine ⟨[headW i], ?_, by simp⟩
      unfold fmtL
      rw [ho]
      rfl
    · refine ⟨[headW i, regW i.a], ?_, by simp⟩
      unfold fmtL
      rw [ho]
      rfl
    · refine ⟨[headW i, regW i.a], ?_, by simp⟩
      unfold fmtL
      rw [ho]
      rfl
  obtain ⟨ws, he, hne⟩ := hex
  have hd : (fmtB i).data.toList = Go.Lib.join ws [32] ++ 32 :: Go.Lib.itoa i.imm := by
    show (Go.Lib.join (fmtL i) [32]).toArray.toList = _
    rw [he, ← join_snoc ws _ hne]
  refine ⟨ws, _, he, hne, hd, ?_, rfl⟩
  unfold uptoL
  rw [lib_at hd (hw _ (by rw [he]; simp)).2.1, hd]
  have : ((Go.Lib.join ws [32]).length : Int) + 1 = ((Go.Lib.join ws [32]).length + 1 : Nat) := by omega
  rw [this, Int.toNat_natCast, List.take_append, List.take_of_length_le (by omega), Nat.add_sub_cancel_left]
  rfl
theorem fmt_wordsM {i : Ins} (h : icheck i = 0) (h1 : -9223372036854775808 ≤ i.imm) (h2 : i.imm ≤ 9223372036854775807) : wordsM (fmtB i) = (fmtL i).map bW := by
  have hj : wl [] (fmtB i).data.toList = fmtL i := by
    show wl [] (Go.Lib.join (fmtL i) [32]).toArray.toList = _
    simp only
    exact wl_join _ fun w hw => ⟨(fmt_words h h1 h2 w hw).1, (fmt_words h h1 h2 w hw).2.1⟩
  rw [← hj, ← words_wl, List.map_map]
  have : (bW ∘ fun x : ByteArray => x.data.toList) = id := by funext x; exact ba_mk x
  rw [this, List.map_id]
end Go.Proofs.YtiimndcifcoofaaGreatDoor
