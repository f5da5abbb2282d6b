/- What the laws share, part 24. No condition. -/
import Derived.Test.YtiimndcifcoofaaGreatDoorZ23
namespace Go.Proofs.YtiimndcifcoofaaGreatDoor
open Go Go.RowKit
set_option maxRecDepth 10000
set_option maxHeartbeats 4000000
theorem wl_mem_ne : ∀ (l cur x : List UInt8), x ∈ wl cur l → x ≠ []
  | [], cur, x, h => by
    rw [wl_nil] at h
    split at h
    · cases h
    · rename_i hc; rw [List.mem_singleton.1 h]; exact hc
  | c :: r, cur, x, h => by
    rw [wl_cons] at h
    split at h
    · split at h
      · exact wl_mem_ne r [] x h
      · rename_i hc
        rcases List.mem_cons.1 h with rfl | h
        · exact hc
        · exact wl_mem_ne r [] x h
    · exact wl_mem_ne r _ x h
theorem word_pos {s w : ByteArray} (h : w ∈ wordsM s) : 1 ≤ w.size := by
  have h1 : w.data.toList ∈ wl [] s.data.toList := by rw [← words_wl]; exact List.mem_map.2 ⟨w, h, rfl⟩
  have h2 := wl_mem_ne _ _ _ h1
  have h3 : w.data.toList.length = w.size := by simp
  have : w.data.toList.length ≠ 0 := fun e => h2 (List.eq_nil_of_length_eq_zero e)
  omega
theorem ssc_n {s : ByteArray} {lo hi : Option Int} {K : Value → Prop} (l r : Nat) (t : ByteArray) (h1 : lo.getD 0 = l) (h2 : hi.getD s.size = r) (hlr : l ≤ r) (hrs : r ≤ s.size) (ht : s.extract l r = t) (h : K (.string t)) : SscT s lo hi K :=
  ⟨l, r, h1, h2, hlr, hrs, by rw [ht]; exact h⟩
theorem find_none {n : ByteArray} : ∀ (lb : List (ByteArray × Int)) (k : Nat), alook n lb = none → findI n (lb.map (·.1)) k = -1
  | [], _, _ => rfl
  | x :: r, k, h => by
    unfold alook at h
    split at h
    · cases h
    · rename_i hne
      simp only [List.map_cons, findI]
      rw [if_neg (fun e => hne e.symm)]
      exact find_none r (k + 1) h
theorem find_some {n : ByteArray} {v : Int} : ∀ (lb : List (ByteArray × Int)) (k : Nat), alook n lb = some v → ∃ i : Nat, findI n (lb.map (·.1)) k = ((k + i : Nat) : Int) ∧ (lb.map (·.2))[i]? = some v
  | [], _, h => by cases h
  | x :: r, k, h => by
    unfold alook at h
    simp only [List.map_cons, findI]
    split at h
    · rename_i he
      rw [if_pos he.symm]
      exact ⟨0, by simp, by simpa using h⟩
    · rename_i hne
      rw [if_neg (fun e => hne e.symm)]
      obtain ⟨i, h1, h2⟩ := find_some r (k + 1) h
      exact ⟨i + 1, by rw [h1]; omega, by simpa using h2⟩
structure RB where
  a1 : Option Addr
  c1 : Nat
  D1 : Own
  a2 : Option Addr
  c2 : Nat
  D2 : Own
  a3 : Option Addr
  c3 : Nat
  D3 : Own
  a4 : Option Addr
  c4 : Nat
  D4 : Own
  a5 : Option Addr
  c5 : Nat
  D5 : Own
structure RBs (σ : AS) (x : RB) : Prop where
  h1 : BufE Ins.enc 23 5 x.a1 x.c1 σ.p x.D1
  h2 : BufE encS 9 1 x.a2 x.c2 (σ.lb.map (·.1)) x.D2
  h3 : BufE encS 9 1 x.a3 x.c3 (σ.tg.map (·.1)) x.D3
  h4 : BufE encI 3 1 x.a4 x.c4 (σ.lb.map (·.2)) x.D4
  h5 : BufE encI 3 1 x.a5 x.c5 (σ.tg.map (·.2)) x.D5
def RB.O (x : RB) (r : Own) : Own := x.D1 ++ (x.D2 ++ (x.D3 ++ (x.D4 ++ (x.D5 ++ r))))
section
variable {W0 : World} {own : Own}
theorem sp_rAssemble (s : ByteArray) (hs : s.size ≤ 4294967296) : Spec Tryz.prog W0 25 [.string s] own (AsmR W0 own (asmM s)) := by
  refine spec_of mixed low_ref04_Assemble (by simp [ir_ref04_Assemble]) ?_
  unfold asmM
  by_cases h6 : 65536 < s.size
  · rw [if_pos h6]
    have h6' : 65536 < (s.size : Int) := by omega
    repeat' ((try (conv => whnf)); first | (refine when_ye ?_ ?_; exact rfl) | (refine when_ne ?_ ?_; exact rfl) | (refine br_te ?_ ?_; exact rfl) | (refine br_fe ?_ ?_; exact rfl) | (apply br_pyE; (exact rfl); omega) | (apply br_pnE; (exact rfl); omega) | (apply when_pyE; (exact rfl); omega) | (apply when_pnE; (exact rfl); omega) | (apply br_npyE; (exact rfl); omega) | (apply br_npnE; (exact rfl); omega) | (apply when_npyE; (exact rfl); omega) | (apply when_npnE; (exact rfl); omega) | (refine ari ?_ ?_; omega) | (refine aru ?_ ?_; omega) | (apply sel; exact rfl) | (refine ix0 rfl ?_) | (refine ix1 rfl ?_) | (refine ix2 rfl ?_) | (refine ix3 rfl ?_) | (apply ixj; omega) | (refine ixn ?_ ?_; omega) | (refine ixs0 rfl ?_) | (refine ixs1 rfl ?_) | (refine ixs_j ?_ ?_; omega) | (refine ixs_n ?_ ?_; omega) | (apply ld_o; exact rfl) | (apply ldN_a; exact rfl) | (apply ldN_o; (exact rfl); exact rfl) | (apply st_o; (exact rfl); exact rfl) | (apply stN_o; (exact rfl); (exact rfl); exact rfl) | (refine new_i (fun bk hbk => ?_)) | (apply when_dE; (exact rfl); (exact rfl); all_goals intro hc) | (apply when_dF; (exact rfl); (exact rfl); all_goals intro hc) | (apply when_nE; (exact rfl); (exact rfl); all_goals intro hc) | (apply when_nF; (exact rfl); (exact rfl); all_goals intro hc) | (apply br_dE; (exact rfl); all_goals intro hc) | (apply br_nE; (exact rfl); all_goals intro hc) | (refine mm_min ?_) | (refine mm_max ?_) | (refine rem_i ?_ ?_; omega) | (refine SelN.mk ?_) | (refine cut_n ?_) | (refine Both.mk ?_ ?_) | (exact True.intro))
    exact ⟨none, 0, rfl, rdI_nil, (by first | exact ent_i | (repeat (first | exact Ent.refl | exact Ent.left | refine Ent.cons ?_ | refine Ent.app ?_)))⟩
  · rw [if_neg h6]
    have h6' : ¬ 65536 < (s.size : Int) := by omega
    have hf := fun own => sp_rLines (W0 := W0) (own := own) s (by omega)
    have hsz : ∀ x ∈ linesB s, x.size ≤ 65536 := fun x hx => by
      have := lines_size hx
      omega
    have hll : (linesB s).length ≤ 65537 := by
      have := lines_len s
      omega
    generalize linesB s = ls at *
    repeat' ((try (conv => whnf)); first | (refine when_ye ?_ ?_; exact rfl) | (refine when_ne ?_ ?_; exact rfl) | (refine br_te ?_ ?_; exact rfl) | (refine br_fe ?_ ?_; exact rfl) | (apply br_pyE; (exact rfl); omega) | (apply br_pnE; (exact rfl); omega) | (apply when_pyE; (exact rfl); omega) | (apply when_pnE; (exact rfl); omega) | (apply br_npyE; (exact rfl); omega) | (apply br_npnE; (exact rfl); omega) | (apply when_npyE; (exact rfl); omega) | (apply when_npnE; (exact rfl); omega) | ((with_reducible show CallT _ _ _ _ _ _); first | ((refine call_se (hf _) ?_ ?_ (fun v own' hv => ?_); (exact rfl); (exact rfl); (obtain ⟨a, cap, L, rfl, hR, hE⟩ := hv)))) | (refine ari ?_ ?_; omega) | (refine aru ?_ ?_; omega) | (apply sel; exact rfl) | (refine ix0 rfl ?_) | (refine ix1 rfl ?_) | (refine ix2 rfl ?_) | (refine ix3 rfl ?_) | (apply ixj; omega) | (refine ixn ?_ ?_; omega) | (refine ixs0 rfl ?_) | (refine ixs1 rfl ?_) | (refine ixs_j ?_ ?_; omega) | (refine ixs_n ?_ ?_; omega) | (apply ld_o; exact rfl) | (apply ldN_a; exact rfl) | (apply ldN_o; (exact rfl); exact rfl) | (apply st_o; (exact rfl); exact rfl) | (apply stN_o; (exact rfl); (exact rfl); exact rfl) | (refine new_i (fun bk hbk => ?_)) | (apply when_dE; (exact rfl); (exact rfl); all_goals intro hc) | (apply when_dF; (exact rfl); (exact rfl); all_goals intro hc) | (apply when_nE; (exact rfl); (exact rfl); all_goals intro hc) | (apply when_nF; (exact rfl); (exact rfl); all_goals intro hc) | (apply br_dE; (exact rfl); all_goals intro hc) | (apply br_nE; (exact rfl); all_goals intro hc) | (refine mm_min ?_) | (refine mm_max ?_) | (refine rem_i ?_ ?_; omega) | (refine SelN.mk ?_) | (refine cut_n ?_) | (refine Both.mk ?_ ?_) | (exact True.intro))
    refine loop_i (σ := Nat × AS × RB) (fun x => [(11, .int .i64 x.1), (5, .slice x.2.2.a1 x.2.1.p.length x.2.2.c1), (6, .slice x.2.2.a2 (x.2.1.lb.map (·.1)).length x.2.2.c2), (7, .slice x.2.2.a3 (x.2.1.tg.map (·.1)).length x.2.2.c3), (8, .slice x.2.2.a4 (x.2.1.lb.map (·.2)).length x.2.2.c4), (9, .slice x.2.2.a5 (x.2.1.tg.map (·.2)).length x.2.2.c5)]) (fun x => x.2.2.O (L ++ own)) (fun x => x.1 ≤ ls.length ∧ Inv x.2.1 ∧ x.2.1.lb.length ≤ x.1 ∧ RBs x.2.1 x.2.2 ∧ runS (ls.drop x.1) (x.1 + 1) x.2.1 = runS ls 1 AS0) (fun x => ls.length - x.1) (0, AS0, ⟨none, 0, [], none, 0, [], none, 0, [], none, 0, [], none, 0, []⟩) ⟨Nat.zero_le _, inv0, Nat.le_refl _, ⟨BufE.nil, BufE.nil, BufE.nil, BufE.nil, BufE.nil⟩, rfl⟩ (by repeat' (first | exact True.intro | refine And.intro ?_ ?_ | exact rfl | exact vi (by omega) | (dsimp only; exact rfl) | (dsimp only; exact vi (by omega)))) hE rfl ?_
    rintro ⟨k, σ, ⟨a1, c1, D1, a2, c2, D2, a3, c3, D3, a4, c4, D4, a5, c5, D5⟩⟩ junk ⟨hk, hV, hlk, ⟨hb1, hb2, hb3, hb4, hb5⟩, hI⟩
    dsimp only [RB.O] at hk hV hlk hb1 hb2 hb3 hb4 hb5 hI ⊢
    have hmax := hV.max
    have hlen := hV.len
    have hn1 : (σ.tg.map (·.1)).length ≤ 64 := by rw [List.length_map]; omega
    have hn2 : (σ.tg.map (·.2)).length ≤ 64 := by rw [List.length_map]; omega
    have hn3 : (σ.lb.map (·.1)).length ≤ k := by rw [List.length_map]; exact hlk
    have hn4 : (σ.lb.map (·.2)).length ≤ k := by rw [List.length_map]; exact hlk
    by_cases hlt : k < ls.length
    · have hlt' : (k : Int) < ls.length := by omega
      obtain ⟨x, hx⟩ : ∃ x, ls[k]? = some x := ⟨_, List.getElem?_eq_getElem hlt⟩
      have hd : ls.drop k = x :: ls.drop (k + 1) := by
        rw [List.drop_eq_getElem_cons hlt]
        congr 1
        exact (List.getElem?_eq_some_iff.1 hx).2
      rw [hd, runS] at hI
      have hxs := hsz x (List.mem_of_getElem? hx)
      have hst := step_inv (s := x) (ln := (k : Int) + 1) hV
      have hbs := bare_size x
      have hba := fun own => sp_bare (W0 := W0) (own := own) x (by omega)
      have hwo := fun own => sp_Words (W0 := W0) (own := own) (bareS x) (by omega)
      have hpa := fun own => sp_rparse (W0 := W0) (own := own) (bareS x)
      have hwp := fun w => word_pos (s := bareS x) (w := w)
      have hwz := fun w => word_size (s := bareS x) (w := w)
      unfold stepS at hI hst
      generalize bareS x = c at *
      have hwl : (wordsM c).length = (wordsM c).length := rfl
      by_cases h0 : wordsM c = []
      · rw [if_pos h0, if_pos rfl] at hI
        rw [if_pos h0] at hst
        have hw0 : ((wordsM c).length : Int) = 0 := by rw [h0]; rfl
        generalize wordsM c = ws at *
        repeat' ((try (conv => whnf)); first | (refine when_ye ?_ ?_; exact rfl) | (refine when_ne ?_ ?_; exact rfl) | (refine br_te ?_ ?_; exact rfl) | (refine br_fe ?_ ?_; exact rfl) | (apply br_pyE; (exact rfl); omega) | (apply br_pnE; (exact rfl); omega) | (apply when_pyE; (exact rfl); omega) | (apply when_pnE; (exact rfl); omega) | (apply br_npyE; (exact rfl); omega) | (apply br_npnE; (exact rfl); omega) | (apply when_npyE; (exact rfl); omega) | (apply when_npnE; (exact rfl); omega) | ((with_reducible show Ld _ _ _ _); first | (refine ldE0 hR hx rfl ?_) | (refine ldEk hR hx rfl ?_) | (refine ldE1 hR hx rfl ?_)) | ((with_reducible show IxS _ _ _ _ _); first | ((refine ixE hR hx ?_ ?_; (first | rfl | omega)))) | ((with_reducible show LdN _ _ _ _ _); first | (refine ldNEi hR hx rfl ?_)) | ((with_reducible show CallT _ _ _ _ _ _); first | ((refine call_pe (hba _) ?_ ?_ ?_; (exact rfl); exact rfl)) | ((refine call_x (σ := { y : Option Addr × Nat × Own // BufE encS 9 1 y.1 y.2.1 ws y.2.2 }) (R := fun y v => v = .slice y.1.1 ws.length y.1.2.1) (O := fun y => y.1.2.2 ++ (D1 ++ (D2 ++ (D3 ++ (D4 ++ (D5 ++ (L ++ own))))))) (fun w hw => (hwo _ w hw).mono fun _ _ ⟨v, o, he, hs, a, cap, D, hv, hB, hE⟩ => ⟨v, o, he, hs, ⟨(a, cap, D), hB⟩, hv, hE⟩) ?_ ?_ (fun y v hv => ?_); (exact rfl); (exact rfl); (obtain ⟨⟨aw, cw, Dw⟩, hBw⟩ := y; dsimp only at hv hBw ⊢; subst hv; have hWw := hBw.rd (W0 := W0))))) | (refine ari ?_ ?_; omega) | (refine aru ?_ ?_; omega) | (apply sel; exact rfl) | (refine ix0 rfl ?_) | (refine ix1 rfl ?_) | (refine ix2 rfl ?_) | (refine ix3 rfl ?_) | (apply ixj; omega) | (refine ixn ?_ ?_; omega) | (refine ixs0 rfl ?_) | (refine ixs1 rfl ?_) | (refine ixs_j ?_ ?_; omega) | (refine ixs_n ?_ ?_; omega) | (apply ld_o; exact rfl) | (apply ldN_a; exact rfl) | (apply ldN_o; (exact rfl); exact rfl) | (apply st_o; (exact rfl); exact rfl) | (apply stN_o; (exact rfl); (exact rfl); exact rfl) | (refine new_i (fun bk hbk => ?_)) | (apply when_dE; (exact rfl); (exact rfl); all_goals intro hc) | (apply when_dF; (exact rfl); (exact rfl); all_goals intro hc) | (apply when_nE; (exact rfl); (exact rfl); all_goals intro hc) | (apply when_nF; (exact rfl); (exact rfl); all_goals intro hc) | (apply br_dE; (exact rfl); all_goals intro hc) | (apply br_nE; (exact rfl); all_goals intro hc) | (refine mm_min ?_) | (refine mm_max ?_) | (refine rem_i ?_ ?_; omega) | (refine SelN.mk ?_) | (refine cut_n ?_) | (refine Both.mk ?_ ?_) | (exact True.intro))
        exact ⟨(k + 1, σ, ⟨a1, c1, D1, a2, c2, D2, a3, c3, D3, a4, c4, D4, a5, c5, D5⟩), ⟨by dsimp only; omega, hst, by dsimp only; omega, ⟨hb1, hb2, hb3, hb4, hb5⟩, hI⟩, by dsimp only; omega, (by repeat' (first | exact True.intro | refine And.intro ?_ ?_ | exact rfl | exact vi (by omega) | (dsimp only; exact rfl) | (dsimp only; exact vi (by omega)))), (by first | exact ent_i | (repeat (first | exact Ent.refl | exact Ent.left | refine Ent.cons ?_ | refine Ent.app ?_)))⟩
      · rw [if_neg h0] at hI hst
        obtain ⟨w0, wr, hws⟩ : ∃ w0 wr, wordsM c = w0 :: wr := by
          cases hq : wordsM c with
          | nil => exact absurd hq h0
          | cons a b => exact ⟨a, b, rfl⟩
        have hw0m : w0 ∈ wordsM c := by rw [hws]; exact List.mem_cons_self
        have hw1 := hwp w0 hw0m
        have hw2 := hwz w0 hw0m
        have hwsz : ∀ w ∈ wordsM c, w.size ≤ 9223372036854775807 := fun w hw => by have := hwz w hw; omega
        have hx0 : (wordsM c)[0]? = some w0 := by rw [hws]; rfl
        have hne : ¬ ((wordsM c).length : Int) = 0 := by rw [hws, List.length_cons]; omega
        have hlen1 : (wordsM c).length = wr.length + 1 := by rw [hws]; rfl
        have hwd : w0.data.toList.length = w0.size := by simp
        obtain ⟨xl, hxl⟩ : ∃ xl, w0.data.toList[w0.size - 1]? = some xl := ⟨_, List.getElem?_eq_getElem (by omega)⟩
        have hgl : w0.data.toList.getLast? = some xl := by rw [List.getLast?_eq_getElem?, hwd]; exact hxl
        have hxl58 : xl = 58 ↔ (xl.toNat : Int) = 58 := ⟨fun e => by rw [e]; rfl, fun e => UInt8.toNat.inj (by show xl.toNat = 58; omega)⟩
        have hex : w0.extract 0 (w0.size - 1) = bW w0.data.toList.dropLast := ba_ext (by rw [ba_extract, bW_data, List.drop_zero, Nat.sub_zero, List.dropLast_eq_take, hwd])
        have hnas : (bW w0.data.toList.dropLast).size ≤ 9223372036854775807 := by
          rw [bW_size, List.length_dropLast]
          omega
        have hna := fun own => sp_rName (W0 := W0) (own := own) (bW w0.data.toList.dropLast) hnas
        have hfi := fun (own : Own) (h : RdE encS 1 W0 own a2 (σ.lb.map (·.1))) => sp_find (cap := c2) h (by omega) (bW w0.data.toList.dropLast)
        have hR2 := hb2.rd (W0 := W0)
        cases hl : lblM (wordsM c) with
        | some n =>
          rw [hl] at hI hst
          simp only at hI hst
          have hlc : wr = [] ∧ xl = 58 ∧ nameB (bW w0.data.toList.dropLast) = true ∧ bW w0.data.toList.dropLast = n := by
            rw [hws] at hl
            cases wr with
            | cons _ _ => cases hl
            | nil =>
              unfold lblM at hl
              simp only at hl
              split at hl
              · rename_i hc
                rw [hgl] at hc
                exact ⟨rfl, Option.some.inj hc.1, hc.2, Option.some.inj hl⟩
              · cases hl
          obtain ⟨hwr, hx58, hnb, hnn⟩ := hlc
          rw [hwr, List.length_nil] at hlen1
          have h1w : ((wordsM c).length : Int) = 1 := by omega
          have hx58' := hxl58.1 hx58
          rw [hnb] at hna
          rw [hnn] at hna hex hfi
          unfold lblS at hI hst
          cases ha : alook n σ.lb with
          | some v =>
            rw [ha] at hI hst
            rw [if_pos (show (some v).isSome = true from rfl), if_neg (by simp)] at hI
            obtain ⟨fi, hfi1, hfi2⟩ := find_some σ.lb 0 ha
            rw [hfi1] at hfi
            rw [← hI]
            unfold finS
            simp only
            rw [if_neg (by simp)]
            have hW : ∀ (Dw : Own) aw cw, BufE encS 9 1 aw cw (wordsM c) Dw → RdE encS 1 W0 Dw aw (wordsM c) := fun Dw aw cw h => h.rd
            generalize wordsM c = ws at *
            repeat' ((try (conv => whnf)); first | (refine when_ye ?_ ?_; exact rfl) | (refine when_ne ?_ ?_; exact rfl) | (refine br_te ?_ ?_; exact rfl) | (refine br_fe ?_ ?_; exact rfl) | (apply br_pyE; (exact rfl); omega) | (apply br_pnE; (exact rfl); omega) | (apply when_pyE; (exact rfl); omega) | (apply when_pnE; (exact rfl); omega) | (apply br_npyE; (exact rfl); omega) | (apply br_npnE; (exact rfl); omega) | (apply when_npyE; (exact rfl); omega) | (apply when_npnE; (exact rfl); omega) | (refine ⟨w0.size - 1, xl, ?_, hxl, ?_⟩; (show (w0.size : Int) - 1 = _; omega)) | (refine ssc_n 0 (w0.size - 1) _ rfl ?_ ?_ ?_ hex ?_; (show (w0.size : Int) - 1 = _; omega); (omega); (omega)) | ((with_reducible show Ld _ _ _ _); first | (refine ldE0 hR hx rfl ?_) | (refine ldEk hR hx rfl ?_) | (refine ldE1 hR hx rfl ?_) | (refine ldE0 hWw hx0 rfl ?_) | (refine ldEk hWw hx0 rfl ?_) | (refine ldE1 hWw hx0 rfl ?_)) | ((with_reducible show IxS _ _ _ _ _); first | ((refine ixE hR hx ?_ ?_; (first | rfl | omega))) | ((refine ixE hWw hx0 ?_ ?_; (first | rfl | omega)))) | ((with_reducible show LdN _ _ _ _ _); first | (refine ldNEi hR hx rfl ?_) | (refine ldNEi hWw hx0 rfl ?_)) | ((with_reducible show CallT _ _ _ _ _ _); first | ((refine call_pe (hba _) ?_ ?_ ?_; (exact rfl); exact rfl)) | ((refine call_x (σ := { y : Option Addr × Nat × Own // BufE encS 9 1 y.1 y.2.1 ws y.2.2 }) (R := fun y v => v = .slice y.1.1 ws.length y.1.2.1) (O := fun y => y.1.2.2 ++ (D1 ++ (D2 ++ (D3 ++ (D4 ++ (D5 ++ (L ++ own))))))) (fun w hw => (hwo _ w hw).mono fun _ _ ⟨v, o, he, hs, a, cap, D, hv, hB, hE⟩ => ⟨v, o, he, hs, ⟨(a, cap, D), hB⟩, hv, hE⟩) ?_ ?_ (fun y v hv => ?_); (exact rfl); (exact rfl); (obtain ⟨⟨aw, cw, Dw⟩, hBw⟩ := y; dsimp only at hv hBw ⊢; subst hv; have hWw := hBw.rd (W0 := W0)))) | ((refine call_pe (hna _) ?_ ?_ ?_; (exact rfl); exact rfl)) | ((refine call_pe (hfi _ (hR2.ent ent_i)) ?_ ?_ ?_; (exact rfl); exact rfl))) | (refine ari ?_ ?_; omega) | (refine aru ?_ ?_; omega) | (apply sel; exact rfl) | (refine ix0 rfl ?_) | (refine ix1 rfl ?_) | (refine ix2 rfl ?_) | (refine ix3 rfl ?_) | (apply ixj; omega) | (refine ixn ?_ ?_; omega) | (refine ixs0 rfl ?_) | (refine ixs1 rfl ?_) | (refine ixs_j ?_ ?_; omega) | (refine ixs_n ?_ ?_; omega) | (apply ld_o; exact rfl) | (apply ldN_a; exact rfl) | (apply ldN_o; (exact rfl); exact rfl) | (apply st_o; (exact rfl); exact rfl) | (apply stN_o; (exact rfl); (exact rfl); exact rfl) | (refine new_i (fun bk hbk => ?_)) | (apply when_dE; (exact rfl); (exact rfl); all_goals intro hc) | (apply when_dF; (exact rfl); (exact rfl); all_goals intro hc) | (apply when_nE; (exact rfl); (exact rfl); all_goals intro hc) | (apply when_nF; (exact rfl); (exact rfl); all_goals intro hc) | (apply br_dE; (exact rfl); all_goals intro hc) | (apply br_nE; (exact rfl); all_goals intro hc) | (refine mm_min ?_) | (refine mm_max ?_) | (refine rem_i ?_ ?_; omega) | (refine SelN.mk ?_) | (refine cut_n ?_) | (refine Both.mk ?_ ?_) | (exact True.intro))
            exact ⟨none, 0, rfl, rdI_nil, (by first | exact ent_i | (repeat (first | exact Ent.refl | exact Ent.left | refine Ent.cons ?_ | refine Ent.app ?_)))⟩
          | none =>
            rw [ha] at hI hst
            rw [if_neg (show ¬ (none : Option Int).isSome = true by simp)] at hI hst
            rw [if_pos rfl] at hI
            have hfi1 := find_none σ.lb 0 ha
            rw [hfi1] at hfi
            generalize wordsM c = ws at *
            repeat' ((try (conv => whnf)); first | (refine when_ye ?_ ?_; exact rfl) | (refine when_ne ?_ ?_; exact rfl) | (refine br_te ?_ ?_; exact rfl) | (refine br_fe ?_ ?_; exact rfl) | (apply br_pyE; (exact rfl); omega) | (apply br_pnE; (exact rfl); omega) | (apply when_pyE; (exact rfl); omega) | (apply when_pnE; (exact rfl); omega) | (apply br_npyE; (exact rfl); omega) | (apply br_npnE; (exact rfl); omega) | (apply when_npyE; (exact rfl); omega) | (apply when_npnE; (exact rfl); omega) | (refine ⟨w0.size - 1, xl, ?_, hxl, ?_⟩; (show (w0.size : Int) - 1 = _; omega)) | (refine ssc_n 0 (w0.size - 1) _ rfl ?_ ?_ ?_ hex ?_; (show (w0.size : Int) - 1 = _; omega); (omega); (omega)) | (apply app_i (enc := encS) n hb2; (exact rfl); (exact rfl); (omega); (exact rfl); (exact rfl); (omega); intro b2 e2 E2 he2) | (apply app_i (enc := encI) ((σ.p.length : Nat) : Int) hb4; (exact rfl); (exact rfl); (omega); (exact rfl); (exact rfl); (omega); intro b4 e4 E4 he4) | ((with_reducible show Ld _ _ _ _); first | (refine ldE0 hR hx rfl ?_) | (refine ldEk hR hx rfl ?_) | (refine ldE1 hR hx rfl ?_) | (refine ldE0 hWw hx0 rfl ?_) | (refine ldEk hWw hx0 rfl ?_) | (refine ldE1 hWw hx0 rfl ?_)) | ((with_reducible show IxS _ _ _ _ _); first | ((refine ixE hR hx ?_ ?_; (first | rfl | omega))) | ((refine ixE hWw hx0 ?_ ?_; (first | rfl | omega)))) | ((with_reducible show LdN _ _ _ _ _); first | (refine ldNEi hR hx rfl ?_) | (refine ldNEi hWw hx0 rfl ?_)) | ((with_reducible show CallT _ _ _ _ _ _); first | ((refine call_pe (hba _) ?_ ?_ ?_; (exact rfl); exact rfl)) | ((refine call_x (σ := { y : Option Addr × Nat × Own // BufE encS 9 1 y.1 y.2.1 ws y.2.2 }) (R := fun y v => v = .slice y.1.1 ws.length y.1.2.1) (O := fun y => y.1.2.2 ++ (D1 ++ (D2 ++ (D3 ++ (D4 ++ (D5 ++ (L ++ own))))))) (fun w hw => (hwo _ w hw).mono fun _ _ ⟨v, o, he, hs, a, cap, D, hv, hB, hE⟩ => ⟨v, o, he, hs, ⟨(a, cap, D), hB⟩, hv, hE⟩) ?_ ?_ (fun y v hv => ?_); (exact rfl); (exact rfl); (obtain ⟨⟨aw, cw, Dw⟩, hBw⟩ := y; dsimp only at hv hBw ⊢; subst hv; have hWw := hBw.rd (W0 := W0)))) | ((refine call_pe (hna _) ?_ ?_ ?_; (exact rfl); exact rfl)) | ((refine call_pe (hfi _ (hR2.ent ent_i)) ?_ ?_ ?_; (exact rfl); exact rfl))) | (refine ari ?_ ?_; omega) | (refine aru ?_ ?_; omega) | (apply sel; exact rfl) | (refine ix0 rfl ?_) | (refine ix1 rfl ?_) | (refine ix2 rfl ?_) | (refine ix3 rfl ?_) | (apply ixj; omega) | (refine ixn ?_ ?_; omega) | (refine ixs0 rfl ?_) | (refine ixs1 rfl ?_) | (refine ixs_j ?_ ?_; omega) | (refine ixs_n ?_ ?_; omega) | (apply ld_o; exact rfl) | (apply ldN_a; exact rfl) | (apply ldN_o; (exact rfl); exact rfl) | (apply st_o; (exact rfl); exact rfl) | (apply stN_o; (exact rfl); (exact rfl); exact rfl) | (refine new_i (fun bk hbk => ?_)) | (apply when_dE; (exact rfl); (exact rfl); all_goals intro hc) | (apply when_dF; (exact rfl); (exact rfl); all_goals intro hc) | (apply when_nE; (exact rfl); (exact rfl); all_goals intro hc) | (apply when_nF; (exact rfl); (exact rfl); all_goals intro hc) | (apply br_dE; (exact rfl); all_goals intro hc) | (apply br_nE; (exact rfl); all_goals intro hc) | (refine mm_min ?_) | (refine mm_max ?_) | (refine rem_i ?_ ?_; omega) | (refine SelN.mk ?_) | (refine cut_n ?_) | (refine Both.mk ?_ ?_) | (exact True.intro))
            refine ⟨(k + 1, ⟨σ.p, σ.lb ++ [(n, (σ.p.length : Int))], σ.tg⟩, ⟨a1, c1, D1, b2, e2, E2, a3, c3, D3, b4, e4, E4, a5, c5, D5⟩), ⟨by dsimp only; omega, hst, by dsimp only; simp; omega, ⟨hb1, by dsimp only; rw [List.map_append]; exact he2, hb3, by dsimp only; rw [List.map_append]; exact he4, hb5⟩, hI⟩, by dsimp only; omega, ?_, (by first | exact ent_i | (repeat (first | exact Ent.refl | exact Ent.left | refine Ent.cons ?_ | refine Ent.app ?_)))⟩
            dsimp only
            rw [List.map_append, List.map_append, List.length_append, List.length_append]
            exact (by repeat' (first | exact True.intro | refine And.intro ?_ ?_ | exact rfl | exact vi (by omega) | (dsimp only; exact rfl) | (dsimp only; exact vi (by omega))))
        | none =>
          rw [hl] at hI hst
          simp only at hI hst
          have hlc : (wr ≠ []) ∨ (wr = [] ∧ ¬ xl = 58) ∨ (wr = [] ∧ xl = 58 ∧ nameB (bW w0.data.toList.dropLast) = false) := by
            rw [hws] at hl
            cases wr with
            | cons _ _ => exact .inl (by simp)
            | nil =>
              refine .inr ?_
              unfold lblM at hl
              simp only at hl
              split at hl
              · cases hl
              · rename_i hc
                rw [hgl] at hc
                by_cases h58 : xl = 58
                · refine .inr ⟨rfl, h58, ?_⟩
                  cases hq : nameB (bW w0.data.toList.dropLast) with
                  | false => rfl
                  | true => exact absurd ⟨by rw [h58], hq⟩ hc
                · exact .inl ⟨rfl, h58⟩
          have hrj := fun (own : Own) (a : Option Addr) (cap : Nat) (h : RdE encS 1 W0 own a (wordsM c)) => sp_rjump (cap := cap) h hwsz
          unfold jmpS at hI hst
          rcases hlc with hlc | ⟨hlc, h58⟩ | ⟨hlc, h58, hnb⟩
          · have h1w : ¬ ((wordsM c).length : Int) = 1 := by
              have : wr.length ≠ 0 := fun e => hlc (List.eq_nil_of_length_eq_zero e)
              omega
            cases hjm : jmpM (wordsM c) with
            | some y =>
              rw [rj_some hjm] at hrj
              rw [hjm] at hI hst
              obtain ⟨⟨io, ia, ib, ic, im⟩, nm⟩ := y
              simp only at hI hst
              unfold pushS at hI hst
              by_cases h64 : σ.p.length = 64
              · have h64' : (σ.p.length : Int) = 64 := by omega
                rw [if_pos h64, if_neg (by simp)] at hI
                rw [← hI]
                unfold finS
                simp only
                rw [if_neg (by simp)]
                generalize wordsM c = ws at *
                repeat' ((try (conv => whnf)); first | (refine when_ye ?_ ?_; exact rfl) | (refine when_ne ?_ ?_; exact rfl) | (refine br_te ?_ ?_; exact rfl) | (refine br_fe ?_ ?_; exact rfl) | (apply br_pyE; (exact rfl); omega) | (apply br_pnE; (exact rfl); omega) | (apply when_pyE; (exact rfl); omega) | (apply when_pnE; (exact rfl); omega) | (apply br_npyE; (exact rfl); omega) | (apply br_npnE; (exact rfl); omega) | (apply when_npyE; (exact rfl); omega) | (apply when_npnE; (exact rfl); omega) | (refine ⟨w0.size - 1, xl, ?_, hxl, ?_⟩; (show (w0.size : Int) - 1 = _; omega)) | (refine ssc_n 0 (w0.size - 1) _ rfl ?_ ?_ ?_ hex ?_; (show (w0.size : Int) - 1 = _; omega); (omega); (omega)) | ((with_reducible show Ld _ _ _ _); first | (refine ldE0 hR hx rfl ?_) | (refine ldEk hR hx rfl ?_) | (refine ldE1 hR hx rfl ?_) | (refine ldE0 hWw hx0 rfl ?_) | (refine ldEk hWw hx0 rfl ?_) | (refine ldE1 hWw hx0 rfl ?_)) | ((with_reducible show IxS _ _ _ _ _); first | ((refine ixE hR hx ?_ ?_; (first | rfl | omega))) | ((refine ixE hWw hx0 ?_ ?_; (first | rfl | omega)))) | ((with_reducible show LdN _ _ _ _ _); first | (refine ldNEi hR hx rfl ?_) | (refine ldNEi hWw hx0 rfl ?_)) | ((with_reducible show CallT _ _ _ _ _ _); first | ((refine call_pe (hba _) ?_ ?_ ?_; (exact rfl); exact rfl)) | ((refine call_x (σ := { y : Option Addr × Nat × Own // BufE encS 9 1 y.1 y.2.1 ws y.2.2 }) (R := fun y v => v = .slice y.1.1 ws.length y.1.2.1) (O := fun y => y.1.2.2 ++ (D1 ++ (D2 ++ (D3 ++ (D4 ++ (D5 ++ (L ++ own))))))) (fun w hw => (hwo _ w hw).mono fun _ _ ⟨v, o, he, hs, a, cap, D, hv, hB, hE⟩ => ⟨v, o, he, hs, ⟨(a, cap, D), hB⟩, hv, hE⟩) ?_ ?_ (fun y v hv => ?_); (exact rfl); (exact rfl); (obtain ⟨⟨aw, cw, Dw⟩, hBw⟩ := y; dsimp only at hv hBw ⊢; subst hv; have hWw := hBw.rd (W0 := W0)))) | ((refine call_pe (hna _) ?_ ?_ ?_; (exact rfl); exact rfl)) | ((refine call_pe (hrj _ aw cw (hWw.ent ent_i)) ?_ ?_ ?_; (exact rfl); exact rfl)) | ((refine call_pe (hpa _) ?_ ?_ ?_; (exact rfl); exact rfl))) | (refine ari ?_ ?_; omega) | (refine aru ?_ ?_; omega) | (apply sel; exact rfl) | (refine ix0 rfl ?_) | (refine ix1 rfl ?_) | (refine ix2 rfl ?_) | (refine ix3 rfl ?_) | (apply ixj; omega) | (refine ixn ?_ ?_; omega) | (refine ixs0 rfl ?_) | (refine ixs1 rfl ?_) | (refine ixs_j ?_ ?_; omega) | (refine ixs_n ?_ ?_; omega) | (apply ld_o; exact rfl) | (apply ldN_a; exact rfl) | (apply ldN_o; (exact rfl); exact rfl) | (apply st_o; (exact rfl); exact rfl) | (apply stN_o; (exact rfl); (exact rfl); exact rfl) | (refine new_i (fun bk hbk => ?_)) | (apply when_dE; (exact rfl); (exact rfl); all_goals intro hc) | (apply when_dF; (exact rfl); (exact rfl); all_goals intro hc) | (apply when_nE; (exact rfl); (exact rfl); all_goals intro hc) | (apply when_nF; (exact rfl); (exact rfl); all_goals intro hc) | (apply br_dE; (exact rfl); all_goals intro hc) | (apply br_nE; (exact rfl); all_goals intro hc) | (refine mm_min ?_) | (refine mm_max ?_) | (refine rem_i ?_ ?_; omega) | (refine SelN.mk ?_) | (refine cut_n ?_) | (refine Both.mk ?_ ?_) | (exact True.intro))
                exact ⟨none, 0, rfl, rdI_nil, (by first | exact ent_i | (repeat (first | exact Ent.refl | exact Ent.left | refine Ent.cons ?_ | refine Ent.app ?_)))⟩
              · have h64' : ¬ (σ.p.length : Int) = 64 := by omega
                rw [if_neg h64, if_pos rfl] at hI
                rw [if_neg h64] at hst
                generalize wordsM c = ws at *
                repeat' ((try (conv => whnf)); first | (refine when_ye ?_ ?_; exact rfl) | (refine when_ne ?_ ?_; exact rfl) | (refine br_te ?_ ?_; exact rfl) | (refine br_fe ?_ ?_; exact rfl) | (apply br_pyE; (exact rfl); omega) | (apply br_pnE; (exact rfl); omega) | (apply when_pyE; (exact rfl); omega) | (apply when_pnE; (exact rfl); omega) | (apply br_npyE; (exact rfl); omega) | (apply br_npnE; (exact rfl); omega) | (apply when_npyE; (exact rfl); omega) | (apply when_npnE; (exact rfl); omega) | (refine ⟨w0.size - 1, xl, ?_, hxl, ?_⟩; (show (w0.size : Int) - 1 = _; omega)) | (refine ssc_n 0 (w0.size - 1) _ rfl ?_ ?_ ?_ hex ?_; (show (w0.size : Int) - 1 = _; omega); (omega); (omega)) | (apply app_i (enc := Ins.enc) (⟨io, ia, ib, ic, im⟩ : Ins) hb1; (exact rfl); (exact rfl); (omega); (exact rfl); (exact rfl); (omega); intro b1 e1 E1 he1) | (apply app_i (enc := encS) nm hb3; (exact rfl); (exact rfl); (omega); (exact rfl); (exact rfl); (omega); intro b3 e3 E3 he3) | (apply app_i (enc := encI) ((k : Int) + 1) hb5; (exact rfl); (exact rfl); (omega); (exact rfl); (exact rfl); (omega); intro b5 e5 E5 he5) | ((with_reducible show Ld _ _ _ _); first | (refine ldE0 hR hx rfl ?_) | (refine ldEk hR hx rfl ?_) | (refine ldE1 hR hx rfl ?_) | (refine ldE0 hWw hx0 rfl ?_) | (refine ldEk hWw hx0 rfl ?_) | (refine ldE1 hWw hx0 rfl ?_)) | ((with_reducible show IxS _ _ _ _ _); first | ((refine ixE hR hx ?_ ?_; (first | rfl | omega))) | ((refine ixE hWw hx0 ?_ ?_; (first | rfl | omega)))) | ((with_reducible show LdN _ _ _ _ _); first | (refine ldNEi hR hx rfl ?_) | (refine ldNEi hWw hx0 rfl ?_)) | ((with_reducible show CallT _ _ _ _ _ _); first | ((refine call_pe (hba _) ?_ ?_ ?_; (exact rfl); exact rfl)) | ((refine call_x (σ := { y : Option Addr × Nat × Own // BufE encS 9 1 y.1 y.2.1 ws y.2.2 }) (R := fun y v => v = .slice y.1.1 ws.length y.1.2.1) (O := fun y => y.1.2.2 ++ (D1 ++ (D2 ++ (D3 ++ (D4 ++ (D5 ++ (L ++ own))))))) (fun w hw => (hwo _ w hw).mono fun _ _ ⟨v, o, he, hs, a, cap, D, hv, hB, hE⟩ => ⟨v, o, he, hs, ⟨(a, cap, D), hB⟩, hv, hE⟩) ?_ ?_ (fun y v hv => ?_); (exact rfl); (exact rfl); (obtain ⟨⟨aw, cw, Dw⟩, hBw⟩ := y; dsimp only at hv hBw ⊢; subst hv; have hWw := hBw.rd (W0 := W0)))) | ((refine call_pe (hna _) ?_ ?_ ?_; (exact rfl); exact rfl)) | ((refine call_pe (hrj _ aw cw (hWw.ent ent_i)) ?_ ?_ ?_; (exact rfl); exact rfl)) | ((refine call_pe (hpa _) ?_ ?_ ?_; (exact rfl); exact rfl))) | (refine ari ?_ ?_; omega) | (refine aru ?_ ?_; omega) | (apply sel; exact rfl) | (refine ix0 rfl ?_) | (refine ix1 rfl ?_) | (refine ix2 rfl ?_) | (refine ix3 rfl ?_) | (apply ixj; omega) | (refine ixn ?_ ?_; omega) | (refine ixs0 rfl ?_) | (refine ixs1 rfl ?_) | (refine ixs_j ?_ ?_; omega) | (refine ixs_n ?_ ?_; omega) | (apply ld_o; exact rfl) | (apply ldN_a; exact rfl) | (apply ldN_o; (exact rfl); exact rfl) | (apply st_o; (exact rfl); exact rfl) | (apply stN_o; (exact rfl); (exact rfl); exact rfl) | (refine new_i (fun bk hbk => ?_)) | (apply when_dE; (exact rfl); (exact rfl); all_goals intro hc) | (apply when_dF; (exact rfl); (exact rfl); all_goals intro hc) | (apply when_nE; (exact rfl); (exact rfl); all_goals intro hc) | (apply when_nF; (exact rfl); (exact rfl); all_goals intro hc) | (apply br_dE; (exact rfl); all_goals intro hc) | (apply br_nE; (exact rfl); all_goals intro hc) | (refine mm_min ?_) | (refine mm_max ?_) | (refine rem_i ?_ ?_; omega) | (refine SelN.mk ?_) | (refine cut_n ?_) | (refine Both.mk ?_ ?_) | (exact True.intro))
                refine ⟨(k + 1, ⟨σ.p ++ [(⟨io, ia, ib, ic, im⟩ : Ins)], σ.lb, σ.tg ++ [(nm, (k : Int) + 1)]⟩, ⟨b1, e1, E1, a2, c2, D2, b3, e3, E3, a4, c4, D4, b5, e5, E5⟩), ⟨by dsimp only; omega, hst, by dsimp only; omega, ⟨he1, hb2, by dsimp only; rw [List.map_append]; exact he3, hb4, by dsimp only; rw [List.map_append]; exact he5⟩, hI⟩, by dsimp only; omega, ?_, (by first | exact ent_i | (repeat (first | exact Ent.refl | exact Ent.left | refine Ent.cons ?_ | refine Ent.app ?_)))⟩
                dsimp only
                rw [List.map_append, List.map_append, List.length_append, List.length_append, List.length_append]
                exact (by repeat' (first | exact True.intro | refine And.intro ?_ ?_ | exact rfl | exact vi (by omega) | (dsimp only; exact rfl) | (dsimp only; exact vi (by omega))))
            | none =>
              have hrn := rj_none hjm
              generalize rjM (wordsM c) = rj at hrj hrn
              obtain ⟨⟨jo, ja, jb, jc, jm⟩, jn, jk⟩ := rj
              dsimp only at hrn
              subst hrn
              rw [hjm] at hI hst
              simp only at hI hst
              unfold insS at hI hst
              generalize (parseM c).1 = i at hpa hI hst
              generalize (parseM c).2 = e at hpa hI hst
              obtain ⟨io, ia, ib, ic, im⟩ := i
              by_cases he : e = 0
              · subst he
                rw [if_pos rfl] at hI hst
                unfold pushS at hI hst
                by_cases h64 : σ.p.length = 64
                · have h64' : (σ.p.length : Int) = 64 := by omega
                  rw [if_pos h64, if_neg (by simp)] at hI
                  rw [← hI]
                  unfold finS
                  simp only
                  rw [if_neg (by simp)]
                  generalize wordsM c = ws at *
                  repeat' ((try (conv => whnf)); first | (refine when_ye ?_ ?_; exact rfl) | (refine when_ne ?_ ?_; exact rfl) | (refine br_te ?_ ?_; exact rfl) | (refine br_fe ?_ ?_; exact rfl) | (apply br_pyE; (exact rfl); omega) | (apply br_pnE; (exact rfl); omega) | (apply when_pyE; (exact rfl); omega) | (apply when_pnE; (exact rfl); omega) | (apply br_npyE; (exact rfl); omega) | (apply br_npnE; (exact rfl); omega) | (apply when_npyE; (exact rfl); omega) | (apply when_npnE; (exact rfl); omega) | (refine ⟨w0.size - 1, xl, ?_, hxl, ?_⟩; (show (w0.size : Int) - 1 = _; omega)) | (refine ssc_n 0 (w0.size - 1) _ rfl ?_ ?_ ?_ hex ?_; (show (w0.size : Int) - 1 = _; omega); (omega); (omega)) | ((with_reducible show Ld _ _ _ _); first | (refine ldE0 hR hx rfl ?_) | (refine ldEk hR hx rfl ?_) | (refine ldE1 hR hx rfl ?_) | (refine ldE0 hWw hx0 rfl ?_) | (refine ldEk hWw hx0 rfl ?_) | (refine ldE1 hWw hx0 rfl ?_)) | ((with_reducible show IxS _ _ _ _ _); first | ((refine ixE hR hx ?_ ?_; (first | rfl | omega))) | ((refine ixE hWw hx0 ?_ ?_; (first | rfl | omega)))) | ((with_reducible show LdN _ _ _ _ _); first | (refine ldNEi hR hx rfl ?_) | (refine ldNEi hWw hx0 rfl ?_)) | ((with_reducible show CallT _ _ _ _ _ _); first | ((refine call_pe (hba _) ?_ ?_ ?_; (exact rfl); exact rfl)) | ((refine call_x (σ := { y : Option Addr × Nat × Own // BufE encS 9 1 y.1 y.2.1 ws y.2.2 }) (R := fun y v => v = .slice y.1.1 ws.length y.1.2.1) (O := fun y => y.1.2.2 ++ (D1 ++ (D2 ++ (D3 ++ (D4 ++ (D5 ++ (L ++ own))))))) (fun w hw => (hwo _ w hw).mono fun _ _ ⟨v, o, he, hs, a, cap, D, hv, hB, hE⟩ => ⟨v, o, he, hs, ⟨(a, cap, D), hB⟩, hv, hE⟩) ?_ ?_ (fun y v hv => ?_); (exact rfl); (exact rfl); (obtain ⟨⟨aw, cw, Dw⟩, hBw⟩ := y; dsimp only at hv hBw ⊢; subst hv; have hWw := hBw.rd (W0 := W0)))) | ((refine call_pe (hna _) ?_ ?_ ?_; (exact rfl); exact rfl)) | ((refine call_pe (hrj _ aw cw (hWw.ent ent_i)) ?_ ?_ ?_; (exact rfl); exact rfl)) | ((refine call_pe (hpa _) ?_ ?_ ?_; (exact rfl); exact rfl))) | (refine ari ?_ ?_; omega) | (refine aru ?_ ?_; omega) | (apply sel; exact rfl) | (refine ix0 rfl ?_) | (refine ix1 rfl ?_) | (refine ix2 rfl ?_) | (refine ix3 rfl ?_) | (apply ixj; omega) | (refine ixn ?_ ?_; omega) | (refine ixs0 rfl ?_) | (refine ixs1 rfl ?_) | (refine ixs_j ?_ ?_; omega) | (refine ixs_n ?_ ?_; omega) | (apply ld_o; exact rfl) | (apply ldN_a; exact rfl) | (apply ldN_o; (exact rfl); exact rfl) | (apply st_o; (exact rfl); exact rfl) | (apply stN_o; (exact rfl); (exact rfl); exact rfl) | (refine new_i (fun bk hbk => ?_)) | (apply when_dE; (exact rfl); (exact rfl); all_goals intro hc) | (apply when_dF; (exact rfl); (exact rfl); all_goals intro hc) | (apply when_nE; (exact rfl); (exact rfl); all_goals intro hc) | (apply when_nF; (exact rfl); (exact rfl); all_goals intro hc) | (apply br_dE; (exact rfl); all_goals intro hc) | (apply br_nE; (exact rfl); all_goals intro hc) | (refine mm_min ?_) | (refine mm_max ?_) | (refine rem_i ?_ ?_; omega) | (refine SelN.mk ?_) | (refine cut_n ?_) | (refine Both.mk ?_ ?_) | (exact True.intro))
                  exact ⟨none, 0, rfl, rdI_nil, (by first | exact ent_i | (repeat (first | exact Ent.refl | exact Ent.left | refine Ent.cons ?_ | refine Ent.app ?_)))⟩
                · have h64' : ¬ (σ.p.length : Int) = 64 := by omega
                  rw [if_neg h64, if_pos rfl] at hI
                  rw [if_neg h64] at hst
                  generalize wordsM c = ws at *
                  repeat' ((try (conv => whnf)); first | (refine when_ye ?_ ?_; exact rfl) | (refine when_ne ?_ ?_; exact rfl) | (refine br_te ?_ ?_; exact rfl) | (refine br_fe ?_ ?_; exact rfl) | (apply br_pyE; (exact rfl); omega) | (apply br_pnE; (exact rfl); omega) | (apply when_pyE; (exact rfl); omega) | (apply when_pnE; (exact rfl); omega) | (apply br_npyE; (exact rfl); omega) | (apply br_npnE; (exact rfl); omega) | (apply when_npyE; (exact rfl); omega) | (apply when_npnE; (exact rfl); omega) | (refine ⟨w0.size - 1, xl, ?_, hxl, ?_⟩; (show (w0.size : Int) - 1 = _; omega)) | (refine ssc_n 0 (w0.size - 1) _ rfl ?_ ?_ ?_ hex ?_; (show (w0.size : Int) - 1 = _; omega); (omega); (omega)) | (apply app_i (enc := Ins.enc) (⟨io, ia, ib, ic, im⟩ : Ins) hb1; (exact rfl); (exact rfl); (omega); (exact rfl); (exact rfl); (omega); intro b1 e1 E1 he1) | (apply app_i (enc := encS) noB hb3; (exact rfl); (exact rfl); (omega); (exact rfl); (exact rfl); (omega); intro b3 e3 E3 he3) | (apply app_i (enc := encI) ((k : Int) + 1) hb5; (exact rfl); (exact rfl); (omega); (exact rfl); (exact rfl); (omega); intro b5 e5 E5 he5) | ((with_reducible show Ld _ _ _ _); first | (refine ldE0 hR hx rfl ?_) | (refine ldEk hR hx rfl ?_) | (refine ldE1 hR hx rfl ?_) | (refine ldE0 hWw hx0 rfl ?_) | (refine ldEk hWw hx0 rfl ?_) | (refine ldE1 hWw hx0 rfl ?_)) | ((with_reducible show IxS _ _ _ _ _); first | ((refine ixE hR hx ?_ ?_; (first | rfl | omega))) | ((refine ixE hWw hx0 ?_ ?_; (first | rfl | omega)))) | ((with_reducible show LdN _ _ _ _ _); first | (refine ldNEi hR hx rfl ?_) | (refine ldNEi hWw hx0 rfl ?_)) | ((with_reducible show CallT _ _ _ _ _ _); first | ((refine call_pe (hba _) ?_ ?_ ?_; (exact rfl); exact rfl)) | ((refine call_x (σ := { y : Option Addr × Nat × Own // BufE encS 9 1 y.1 y.2.1 ws y.2.2 }) (R := fun y v => v = .slice y.1.1 ws.length y.1.2.1) (O := fun y => y.1.2.2 ++ (D1 ++ (D2 ++ (D3 ++ (D4 ++ (D5 ++ (L ++ own))))))) (fun w hw => (hwo _ w hw).mono fun _ _ ⟨v, o, he, hs, a, cap, D, hv, hB, hE⟩ => ⟨v, o, he, hs, ⟨(a, cap, D), hB⟩, hv, hE⟩) ?_ ?_ (fun y v hv => ?_); (exact rfl); (exact rfl); (obtain ⟨⟨aw, cw, Dw⟩, hBw⟩ := y; dsimp only at hv hBw ⊢; subst hv; have hWw := hBw.rd (W0 := W0)))) | ((refine call_pe (hna _) ?_ ?_ ?_; (exact rfl); exact rfl)) | ((refine call_pe (hrj _ aw cw (hWw.ent ent_i)) ?_ ?_ ?_; (exact rfl); exact rfl)) | ((refine call_pe (hpa _) ?_ ?_ ?_; (exact rfl); exact rfl))) | (refine ari ?_ ?_; omega) | (refine aru ?_ ?_; omega) | (apply sel; exact rfl) | (refine ix0 rfl ?_) | (refine ix1 rfl ?_) | (refine ix2 rfl ?_) | (refine ix3 rfl ?_) | (apply ixj; omega) | (refine ixn ?_ ?_; omega) | (refine ixs0 rfl ?_) | (refine ixs1 rfl ?_) | (refine ixs_j ?_ ?_; omega) | (refine ixs_n ?_ ?_; omega) | (apply ld_o; exact rfl) | (apply ldN_a; exact rfl) | (apply ldN_o; (exact rfl); exact rfl) | (apply st_o; (exact rfl); exact rfl) | (apply stN_o; (exact rfl); (exact rfl); exact rfl) | (refine new_i (fun bk hbk => ?_)) | (apply when_dE; (exact rfl); (exact rfl); all_goals intro hc) | (apply when_dF; (exact rfl); (exact rfl); all_goals intro hc) | (apply when_nE; (exact rfl); (exact rfl); all_goals intro hc) | (apply when_nF; (exact rfl); (exact rfl); all_goals intro hc) | (apply br_dE; (exact rfl); all_goals intro hc) | (apply br_nE; (exact rfl); all_goals intro hc) | (refine mm_min ?_) | (refine mm_max ?_) | (refine rem_i ?_ ?_; omega) | (refine SelN.mk ?_) | (refine cut_n ?_) | (refine Both.mk ?_ ?_) | (exact True.intro))
                  refine ⟨(k + 1, ⟨σ.p ++ [(⟨io, ia, ib, ic, im⟩ : Ins)], σ.lb, σ.tg ++ [(noB, (k : Int) + 1)]⟩, ⟨b1, e1, E1, a2, c2, D2, b3, e3, E3, a4, c4, D4, b5, e5, E5⟩), ⟨by dsimp only; omega, hst, by dsimp only; omega, ⟨he1, hb2, by dsimp only; rw [List.map_append]; exact he3, hb4, by dsimp only; rw [List.map_append]; exact he5⟩, hI⟩, by dsimp only; omega, ?_, (by first | exact ent_i | (repeat (first | exact Ent.refl | exact Ent.left | refine Ent.cons ?_ | refine Ent.app ?_)))⟩
                  dsimp only
                  rw [List.map_append, List.map_append, List.length_append, List.length_append, List.length_append]
                  exact (by repeat' (first | exact True.intro | refine And.intro ?_ ?_ | exact rfl | exact vi (by omega) | (dsimp only; exact rfl) | (dsimp only; exact vi (by omega))))
              · rw [if_neg he, if_neg he] at hI
                rw [← hI]
                unfold finS
                simp only
                rw [if_neg he]
                generalize wordsM c = ws at *
                repeat' ((try (conv => whnf)); first | (refine when_ye ?_ ?_; exact rfl) | (refine when_ne ?_ ?_; exact rfl) | (refine br_te ?_ ?_; exact rfl) | (refine br_fe ?_ ?_; exact rfl) | (apply br_pyE; (exact rfl); omega) | (apply br_pnE; (exact rfl); omega) | (apply when_pyE; (exact rfl); omega) | (apply when_pnE; (exact rfl); omega) | (apply br_npyE; (exact rfl); omega) | (apply br_npnE; (exact rfl); omega) | (apply when_npyE; (exact rfl); omega) | (apply when_npnE; (exact rfl); omega) | (refine ⟨w0.size - 1, xl, ?_, hxl, ?_⟩; (show (w0.size : Int) - 1 = _; omega)) | (refine ssc_n 0 (w0.size - 1) _ rfl ?_ ?_ ?_ hex ?_; (show (w0.size : Int) - 1 = _; omega); (omega); (omega)) | ((with_reducible show Ld _ _ _ _); first | (refine ldE0 hR hx rfl ?_) | (refine ldEk hR hx rfl ?_) | (refine ldE1 hR hx rfl ?_) | (refine ldE0 hWw hx0 rfl ?_) | (refine ldEk hWw hx0 rfl ?_) | (refine ldE1 hWw hx0 rfl ?_)) | ((with_reducible show IxS _ _ _ _ _); first | ((refine ixE hR hx ?_ ?_; (first | rfl | omega))) | ((refine ixE hWw hx0 ?_ ?_; (first | rfl | omega)))) | ((with_reducible show LdN _ _ _ _ _); first | (refine ldNEi hR hx rfl ?_) | (refine ldNEi hWw hx0 rfl ?_)) | ((with_reducible show CallT _ _ _ _ _ _); first | ((refine call_pe (hba _) ?_ ?_ ?_; (exact rfl); exact rfl)) | ((refine call_x (σ := { y : Option Addr × Nat × Own // BufE encS 9 1 y.1 y.2.1 ws y.2.2 }) (R := fun y v => v = .slice y.1.1 ws.length y.1.2.1) (O := fun y => y.1.2.2 ++ (D1 ++ (D2 ++ (D3 ++ (D4 ++ (D5 ++ (L ++ own))))))) (fun w hw => (hwo _ w hw).mono fun _ _ ⟨v, o, he, hs, a, cap, D, hv, hB, hE⟩ => ⟨v, o, he, hs, ⟨(a, cap, D), hB⟩, hv, hE⟩) ?_ ?_ (fun y v hv => ?_); (exact rfl); (exact rfl); (obtain ⟨⟨aw, cw, Dw⟩, hBw⟩ := y; dsimp only at hv hBw ⊢; subst hv; have hWw := hBw.rd (W0 := W0)))) | ((refine call_pe (hna _) ?_ ?_ ?_; (exact rfl); exact rfl)) | ((refine call_pe (hrj _ aw cw (hWw.ent ent_i)) ?_ ?_ ?_; (exact rfl); exact rfl)) | ((refine call_pe (hpa _) ?_ ?_ ?_; (exact rfl); exact rfl))) | (refine ari ?_ ?_; omega) | (refine aru ?_ ?_; omega) | (apply sel; exact rfl) | (refine ix0 rfl ?_) | (refine ix1 rfl ?_) | (refine ix2 rfl ?_) | (refine ix3 rfl ?_) | (apply ixj; omega) | (refine ixn ?_ ?_; omega) | (refine ixs0 rfl ?_) | (refine ixs1 rfl ?_) | (refine ixs_j ?_ ?_; omega) | (refine ixs_n ?_ ?_; omega) | (apply ld_o; exact rfl) | (apply ldN_a; exact rfl) | (apply ldN_o; (exact rfl); exact rfl) | (apply st_o; (exact rfl); exact rfl) | (apply stN_o; (exact rfl); (exact rfl); exact rfl) | (refine new_i (fun bk hbk => ?_)) | (apply when_dE; (exact rfl); (exact rfl); all_goals intro hc) | (apply when_dF; (exact rfl); (exact rfl); all_goals intro hc) | (apply when_nE; (exact rfl); (exact rfl); all_goals intro hc) | (apply when_nF; (exact rfl); (exact rfl); all_goals intro hc) | (apply br_dE; (exact rfl); all_goals intro hc) | (apply br_nE; (exact rfl); all_goals intro hc) | (refine mm_min ?_) | (refine mm_max ?_) | (refine rem_i ?_ ?_; omega) | (refine SelN.mk ?_) | (refine cut_n ?_) | (refine Both.mk ?_ ?_) | (exact True.intro))
                exact ⟨none, 0, rfl, rdI_nil, (by first | exact ent_i | (repeat (first | exact Ent.refl | exact Ent.left | refine Ent.cons ?_ | refine Ent.app ?_)))⟩
          · have h58' : ¬ (xl.toNat : Int) = 58 := fun e => h58 (hxl58.2 e)
            have h1w : ((wordsM c).length : Int) = 1 := by rw [hlc, List.length_nil] at hlen1; omega
            have hjm : jmpM (wordsM c) = none := by rw [hws, hlc]; rfl
            have hrn := rj_none hjm
            generalize rjM (wordsM c) = rj at hrj hrn
            obtain ⟨⟨jo, ja, jb, jc, jm⟩, jn, jk⟩ := rj
            dsimp only at hrn
            subst hrn
            rw [hjm] at hI hst
            simp only at hI hst
            unfold insS at hI hst
            generalize (parseM c).1 = i at hpa hI hst
            generalize (parseM c).2 = e at hpa hI hst
            obtain ⟨io, ia, ib, ic, im⟩ := i
            by_cases he : e = 0
            · subst he
              rw [if_pos rfl] at hI hst
              unfold pushS at hI hst
              by_cases h64 : σ.p.length = 64
              · have h64' : (σ.p.length : Int) = 64 := by omega
                rw [if_pos h64, if_neg (by simp)] at hI
                rw [← hI]
                unfold finS
                simp only
                rw [if_neg (by simp)]
                generalize wordsM c = ws at *
                repeat' ((try (conv => whnf)); first | (refine when_ye ?_ ?_; exact rfl) | (refine when_ne ?_ ?_; exact rfl) | (refine br_te ?_ ?_; exact rfl) | (refine br_fe ?_ ?_; exact rfl) | (apply br_pyE; (exact rfl); omega) | (apply br_pnE; (exact rfl); omega) | (apply when_pyE; (exact rfl); omega) | (apply when_pnE; (exact rfl); omega) | (apply br_npyE; (exact rfl); omega) | (apply br_npnE; (exact rfl); omega) | (apply when_npyE; (exact rfl); omega) | (apply when_npnE; (exact rfl); omega) | (refine ⟨w0.size - 1, xl, ?_, hxl, ?_⟩; (show (w0.size : Int) - 1 = _; omega)) | (refine ssc_n 0 (w0.size - 1) _ rfl ?_ ?_ ?_ hex ?_; (show (w0.size : Int) - 1 = _; omega); (omega); (omega)) | ((with_reducible show Ld _ _ _ _); first | (refine ldE0 hR hx rfl ?_) | (refine ldEk hR hx rfl ?_) | (refine ldE1 hR hx rfl ?_) | (refine ldE0 hWw hx0 rfl ?_) | (refine ldEk hWw hx0 rfl ?_) | (refine ldE1 hWw hx0 rfl ?_)) | ((with_reducible show IxS _ _ _ _ _); first | ((refine ixE hR hx ?_ ?_; (first | rfl | omega))) | ((refine ixE hWw hx0 ?_ ?_; (first | rfl | omega)))) | ((with_reducible show LdN _ _ _ _ _); first | (refine ldNEi hR hx rfl ?_) | (refine ldNEi hWw hx0 rfl ?_)) | ((with_reducible show CallT _ _ _ _ _ _); first | ((refine call_pe (hba _) ?_ ?_ ?_; (exact rfl); exact rfl)) | ((refine call_x (σ := { y : Option Addr × Nat × Own // BufE encS 9 1 y.1 y.2.1 ws y.2.2 }) (R := fun y v => v = .slice y.1.1 ws.length y.1.2.1) (O := fun y => y.1.2.2 ++ (D1 ++ (D2 ++ (D3 ++ (D4 ++ (D5 ++ (L ++ own))))))) (fun w hw => (hwo _ w hw).mono fun _ _ ⟨v, o, he, hs, a, cap, D, hv, hB, hE⟩ => ⟨v, o, he, hs, ⟨(a, cap, D), hB⟩, hv, hE⟩) ?_ ?_ (fun y v hv => ?_); (exact rfl); (exact rfl); (obtain ⟨⟨aw, cw, Dw⟩, hBw⟩ := y; dsimp only at hv hBw ⊢; subst hv; have hWw := hBw.rd (W0 := W0)))) | ((refine call_pe (hna _) ?_ ?_ ?_; (exact rfl); exact rfl)) | ((refine call_pe (hrj _ aw cw (hWw.ent ent_i)) ?_ ?_ ?_; (exact rfl); exact rfl)) | ((refine call_pe (hpa _) ?_ ?_ ?_; (exact rfl); exact rfl))) | (refine ari ?_ ?_; omega) | (refine aru ?_ ?_; omega) | (apply sel; exact rfl) | (refine ix0 rfl ?_) | (refine ix1 rfl ?_) | (refine ix2 rfl ?_) | (refine ix3 rfl ?_) | (apply ixj; omega) | (refine ixn ?_ ?_; omega) | (refine ixs0 rfl ?_) | (refine ixs1 rfl ?_) | (refine ixs_j ?_ ?_; omega) | (refine ixs_n ?_ ?_; omega) | (apply ld_o; exact rfl) | (apply ldN_a; exact rfl) | (apply ldN_o; (exact rfl); exact rfl) | (apply st_o; (exact rfl); exact rfl) | (apply stN_o; (exact rfl); (exact rfl); exact rfl) | (refine new_i (fun bk hbk => ?_)) | (apply when_dE; (exact rfl); (exact rfl); all_goals intro hc) | (apply when_dF; (exact rfl); (exact rfl); all_goals intro hc) | (apply when_nE; (exact rfl); (exact rfl); all_goals intro hc) | (apply when_nF; (exact rfl); (exact rfl); all_goals intro hc) | (apply br_dE; (exact rfl); all_goals intro hc) | (apply br_nE; (exact rfl); all_goals intro hc) | (refine mm_min ?_) | (refine mm_max ?_) | (refine rem_i ?_ ?_; omega) | (refine SelN.mk ?_) | (refine cut_n ?_) | (refine Both.mk ?_ ?_) | (exact True.intro))
                exact ⟨none, 0, rfl, rdI_nil, (by first | exact ent_i | (repeat (first | exact Ent.refl | exact Ent.left | refine Ent.cons ?_ | refine Ent.app ?_)))⟩
              · have h64' : ¬ (σ.p.length : Int) = 64 := by omega
                rw [if_neg h64, if_pos rfl] at hI
                rw [if_neg h64] at hst
                generalize wordsM c = ws at *
                repeat' ((try (conv => whnf)); first | (refine when_ye ?_ ?_; exact rfl) | (refine when_ne ?_ ?_; exact rfl) | (refine br_te ?_ ?_; exact rfl) | (refine br_fe ?_ ?_; exact rfl) | (apply br_pyE; (exact rfl); omega) | (apply br_pnE; (exact rfl); omega) | (apply when_pyE; (exact rfl); omega) | (apply when_pnE; (exact rfl); omega) | (apply br_npyE; (exact rfl); omega) | (apply br_npnE; (exact rfl); omega) | (apply when_npyE; (exact rfl); omega) | (apply when_npnE; (exact rfl); omega) | (refine ⟨w0.size - 1, xl, ?_, hxl, ?_⟩; (show (w0.size : Int) - 1 = _; omega)) | (refine ssc_n 0 (w0.size - 1) _ rfl ?_ ?_ ?_ hex ?_; (show (w0.size : Int) - 1 = _; omega); (omega); (omega)) | (apply app_i (enc := Ins.enc) (⟨io, ia, ib, ic, im⟩ : Ins) hb1; (exact rfl); (exact rfl); (omega); (exact rfl); (exact rfl); (omega); intro b1 e1 E1 he1) | (apply app_i (enc := encS) noB hb3; (exact rfl); (exact rfl); (omega); (exact rfl); (exact rfl); (omega); intro b3 e3 E3 he3) | (apply app_i (enc := encI) ((k : Int) + 1) hb5; (exact rfl); (exact rfl); (omega); (exact rfl); (exact rfl); (omega); intro b5 e5 E5 he5) | ((with_reducible show Ld _ _ _ _); first | (refine ldE0 hR hx rfl ?_) | (refine ldEk hR hx rfl ?_) | (refine ldE1 hR hx rfl ?_) | (refine ldE0 hWw hx0 rfl ?_) | (refine ldEk hWw hx0 rfl ?_) | (refine ldE1 hWw hx0 rfl ?_)) | ((with_reducible show IxS _ _ _ _ _); first | ((refine ixE hR hx ?_ ?_; (first | rfl | omega))) | ((refine ixE hWw hx0 ?_ ?_; (first | rfl | omega)))) | ((with_reducible show LdN _ _ _ _ _); first | (refine ldNEi hR hx rfl ?_) | (refine ldNEi hWw hx0 rfl ?_)) | ((with_reducible show CallT _ _ _ _ _ _); first | ((refine call_pe (hba _) ?_ ?_ ?_; (exact rfl); exact rfl)) | ((refine call_x (σ := { y : Option Addr × Nat × Own // BufE encS 9 1 y.1 y.2.1 ws y.2.2 }) (R := fun y v => v = .slice y.1.1 ws.length y.1.2.1) (O := fun y => y.1.2.2 ++ (D1 ++ (D2 ++ (D3 ++ (D4 ++ (D5 ++ (L ++ own))))))) (fun w hw => (hwo _ w hw).mono fun _ _ ⟨v, o, he, hs, a, cap, D, hv, hB, hE⟩ => ⟨v, o, he, hs, ⟨(a, cap, D), hB⟩, hv, hE⟩) ?_ ?_ (fun y v hv => ?_); (exact rfl); (exact rfl); (obtain ⟨⟨aw, cw, Dw⟩, hBw⟩ := y; dsimp only at hv hBw ⊢; subst hv; have hWw := hBw.rd (W0 := W0)))) | ((refine call_pe (hna _) ?_ ?_ ?_; (exact rfl); exact rfl)) | ((refine call_pe (hrj _ aw cw (hWw.ent ent_i)) ?_ ?_ ?_; (exact rfl); exact rfl)) | ((refine call_pe (hpa _) ?_ ?_ ?_; (exact rfl); exact rfl))) | (refine ari ?_ ?_; omega) | (refine aru ?_ ?_; omega) | (apply sel; exact rfl) | (refine ix0 rfl ?_) | (refine ix1 rfl ?_) | (refine ix2 rfl ?_) | (refine ix3 rfl ?_) | (apply ixj; omega) | (refine ixn ?_ ?_; omega) | (refine ixs0 rfl ?_) | (refine ixs1 rfl ?_) | (refine ixs_j ?_ ?_; omega) | (refine ixs_n ?_ ?_; omega) | (apply ld_o; exact rfl) | (apply ldN_a; exact rfl) | (apply ldN_o; (exact rfl); exact rfl) | (apply st_o; (exact rfl); exact rfl) | (apply stN_o; (exact rfl); (exact rfl); exact rfl) | (refine new_i (fun bk hbk => ?_)) | (apply when_dE; (exact rfl); (exact rfl); all_goals intro hc) | (apply when_dF; (exact rfl); (exact rfl); all_goals intro hc) | (apply when_nE; (exact rfl); (exact rfl); all_goals intro hc) | (apply when_nF; (exact rfl); (exact rfl); all_goals intro hc) | (apply br_dE; (exact rfl); all_goals intro hc) | (apply br_nE; (exact rfl); all_goals intro hc) | (refine mm_min ?_) | (refine mm_max ?_) | (refine rem_i ?_ ?_; omega) | (refine SelN.mk ?_) | (refine cut_n ?_) | (refine Both.mk ?_ ?_) | (exact True.intro))
                refine ⟨(k + 1, ⟨σ.p ++ [(⟨io, ia, ib, ic, im⟩ : Ins)], σ.lb, σ.tg ++ [(noB, (k : Int) + 1)]⟩, ⟨b1, e1, E1, a2, c2, D2, b3, e3, E3, a4, c4, D4, b5, e5, E5⟩), ⟨by dsimp only; omega, hst, by dsimp only; omega, ⟨he1, hb2, by dsimp only; rw [List.map_append]; exact he3, hb4, by dsimp only; rw [List.map_append]; exact he5⟩, hI⟩, by dsimp only; omega, ?_, (by first | exact ent_i | (repeat (first | exact Ent.refl | exact Ent.left | refine Ent.cons ?_ | refine Ent.app ?_)))⟩
                dsimp only
                rw [List.map_append, List.map_append, List.length_append, List.length_append, List.length_append]
                exact (by repeat' (first | exact True.intro | refine And.intro ?_ ?_ | exact rfl | exact vi (by omega) | (dsimp only; exact rfl) | (dsimp only; exact vi (by omega))))
            · rw [if_neg he, if_neg he] at hI
              rw [← hI]
              unfold finS
              simp only
              rw [if_neg he]
              generalize wordsM c = ws at *
              repeat' ((try (conv => whnf)); first | (refine when_ye ?_ ?_; exact rfl) | (refine when_ne ?_ ?_; exact rfl) | (refine br_te ?_ ?_; exact rfl) | (refine br_fe ?_ ?_; exact rfl) | (apply br_pyE; (exact rfl); omega) | (apply br_pnE; (exact rfl); omega) | (apply when_pyE; (exact rfl); omega) | (apply when_pnE; (exact rfl); omega) | (apply br_npyE; (exact rfl); omega) | (apply br_npnE; (exact rfl); omega) | (apply when_npyE; (exact rfl); omega) | (apply when_npnE; (exact rfl); omega) | (refine ⟨w0.size - 1, xl, ?_, hxl, ?_⟩; (show (w0.size : Int) - 1 = _; omega)) | (refine ssc_n 0 (w0.size - 1) _ rfl ?_ ?_ ?_ hex ?_; (show (w0.size : Int) - 1 = _; omega); (omega); (omega)) | ((with_reducible show Ld _ _ _ _); first | (refine ldE0 hR hx rfl ?_) | (refine ldEk hR hx rfl ?_) | (refine ldE1 hR hx rfl ?_) | (refine ldE0 hWw hx0 rfl ?_) | (refine ldEk hWw hx0 rfl ?_) | (refine ldE1 hWw hx0 rfl ?_)) | ((with_reducible show IxS _ _ _ _ _); first | ((refine ixE hR hx ?_ ?_; (first | rfl | omega))) | ((refine ixE hWw hx0 ?_ ?_; (first | rfl | omega)))) | ((with_reducible show LdN _ _ _ _ _); first | (refine ldNEi hR hx rfl ?_) | (refine ldNEi hWw hx0 rfl ?_)) | ((with_reducible show CallT _ _ _ _ _ _); first | ((refine call_pe (hba _) ?_ ?_ ?_; (exact rfl); exact rfl)) | ((refine call_x (σ := { y : Option Addr × Nat × Own // BufE encS 9 1 y.1 y.2.1 ws y.2.2 }) (R := fun y v => v = .slice y.1.1 ws.length y.1.2.1) (O := fun y => y.1.2.2 ++ (D1 ++ (D2 ++ (D3 ++ (D4 ++ (D5 ++ (L ++ own))))))) (fun w hw => (hwo _ w hw).mono fun _ _ ⟨v, o, he, hs, a, cap, D, hv, hB, hE⟩ => ⟨v, o, he, hs, ⟨(a, cap, D), hB⟩, hv, hE⟩) ?_ ?_ (fun y v hv => ?_); (exact rfl); (exact rfl); (obtain ⟨⟨aw, cw, Dw⟩, hBw⟩ := y; dsimp only at hv hBw ⊢; subst hv; have hWw := hBw.rd (W0 := W0)))) | ((refine call_pe (hna _) ?_ ?_ ?_; (exact rfl); exact rfl)) | ((refine call_pe (hrj _ aw cw (hWw.ent ent_i)) ?_ ?_ ?_; (exact rfl); exact rfl)) | ((refine call_pe (hpa _) ?_ ?_ ?_; (exact rfl); exact rfl))) | (refine ari ?_ ?_; omega) | (refine aru ?_ ?_; omega) | (apply sel; exact rfl) | (refine ix0 rfl ?_) | (refine ix1 rfl ?_) | (refine ix2 rfl ?_) | (refine ix3 rfl ?_) | (apply ixj; omega) | (refine ixn ?_ ?_; omega) | (refine ixs0 rfl ?_) | (refine ixs1 rfl ?_) | (refine ixs_j ?_ ?_; omega) | (refine ixs_n ?_ ?_; omega) | (apply ld_o; exact rfl) | (apply ldN_a; exact rfl) | (apply ldN_o; (exact rfl); exact rfl) | (apply st_o; (exact rfl); exact rfl) | (apply stN_o; (exact rfl); (exact rfl); exact rfl) | (refine new_i (fun bk hbk => ?_)) | (apply when_dE; (exact rfl); (exact rfl); all_goals intro hc) | (apply when_dF; (exact rfl); (exact rfl); all_goals intro hc) | (apply when_nE; (exact rfl); (exact rfl); all_goals intro hc) | (apply when_nF; (exact rfl); (exact rfl); all_goals intro hc) | (apply br_dE; (exact rfl); all_goals intro hc) | (apply br_nE; (exact rfl); all_goals intro hc) | (refine mm_min ?_) | (refine mm_max ?_) | (refine rem_i ?_ ?_; omega) | (refine SelN.mk ?_) | (refine cut_n ?_) | (refine Both.mk ?_ ?_) | (exact True.intro))
              exact ⟨none, 0, rfl, rdI_nil, (by first | exact ent_i | (repeat (first | exact Ent.refl | exact Ent.left | refine Ent.cons ?_ | refine Ent.app ?_)))⟩
          · have h58' := hxl58.1 h58
            rw [hnb] at hna
            have h1w : ((wordsM c).length : Int) = 1 := by rw [hlc, List.length_nil] at hlen1; omega
            have hjm : jmpM (wordsM c) = none := by rw [hws, hlc]; rfl
            have hrn := rj_none hjm
            generalize rjM (wordsM c) = rj at hrj hrn
            obtain ⟨⟨jo, ja, jb, jc, jm⟩, jn, jk⟩ := rj
            dsimp only at hrn
            subst hrn
            rw [hjm] at hI hst
            simp only at hI hst
            unfold insS at hI hst
            generalize (parseM c).1 = i at hpa hI hst
            generalize (parseM c).2 = e at hpa hI hst
            obtain ⟨io, ia, ib, ic, im⟩ := i
            by_cases he : e = 0
            · subst he
              rw [if_pos rfl] at hI hst
              unfold pushS at hI hst
              by_cases h64 : σ.p.length = 64
              · have h64' : (σ.p.length : Int) = 64 := by omega
                rw [if_pos h64, if_neg (by simp)] at hI
                rw [← hI]
                unfold finS
                simp only
                rw [if_neg (by simp)]
                generalize wordsM c = ws at *
                repeat' ((try (conv => whnf)); first | (refine when_ye ?_ ?_; exact rfl) | (refine when_ne ?_ ?_; exact rfl) | (refine br_te ?_ ?_; exact rfl) | (refine br_fe ?_ ?_; exact rfl) | (apply br_pyE; (exact rfl); omega) | (apply br_pnE; (exact rfl); omega) | (apply when_pyE; (exact rfl); omega) | (apply when_pnE; (exact rfl); omega) | (apply br_npyE; (exact rfl); omega) | (apply br_npnE; (exact rfl); omega) | (apply when_npyE; (exact rfl); omega) | (apply when_npnE; (exact rfl); omega) | (refine ⟨w0.size - 1, xl, ?_, hxl, ?_⟩; (show (w0.size : Int) - 1 = _; omega)) | (refine ssc_n 0 (w0.size - 1) _ rfl ?_ ?_ ?_ hex ?_; (show (w0.size : Int) - 1 = _; omega); (omega); (omega)) | ((with_reducible show Ld _ _ _ _); first | (refine ldE0 hR hx rfl ?_) | (refine ldEk hR hx rfl ?_) | (refine ldE1 hR hx rfl ?_) | (refine ldE0 hWw hx0 rfl ?_) | (refine ldEk hWw hx0 rfl ?_) | (refine ldE1 hWw hx0 rfl ?_)) | ((with_reducible show IxS _ _ _ _ _); first | ((refine ixE hR hx ?_ ?_; (first | rfl | omega))) | ((refine ixE hWw hx0 ?_ ?_; (first | rfl | omega)))) | ((with_reducible show LdN _ _ _ _ _); first | (refine ldNEi hR hx rfl ?_) | (refine ldNEi hWw hx0 rfl ?_)) | ((with_reducible show CallT _ _ _ _ _ _); first | ((refine call_pe (hba _) ?_ ?_ ?_; (exact rfl); exact rfl)) | ((refine call_x (σ := { y : Option Addr × Nat × Own // BufE encS 9 1 y.1 y.2.1 ws y.2.2 }) (R := fun y v => v = .slice y.1.1 ws.length y.1.2.1) (O := fun y => y.1.2.2 ++ (D1 ++ (D2 ++ (D3 ++ (D4 ++ (D5 ++ (L ++ own))))))) (fun w hw => (hwo _ w hw).mono fun _ _ ⟨v, o, he, hs, a, cap, D, hv, hB, hE⟩ => ⟨v, o, he, hs, ⟨(a, cap, D), hB⟩, hv, hE⟩) ?_ ?_ (fun y v hv => ?_); (exact rfl); (exact rfl); (obtain ⟨⟨aw, cw, Dw⟩, hBw⟩ := y; dsimp only at hv hBw ⊢; subst hv; have hWw := hBw.rd (W0 := W0)))) | ((refine call_pe (hna _) ?_ ?_ ?_; (exact rfl); exact rfl)) | ((refine call_pe (hrj _ aw cw (hWw.ent ent_i)) ?_ ?_ ?_; (exact rfl); exact rfl)) | ((refine call_pe (hpa _) ?_ ?_ ?_; (exact rfl); exact rfl))) | (refine ari ?_ ?_; omega) | (refine aru ?_ ?_; omega) | (apply sel; exact rfl) | (refine ix0 rfl ?_) | (refine ix1 rfl ?_) | (refine ix2 rfl ?_) | (refine ix3 rfl ?_) | (apply ixj; omega) | (refine ixn ?_ ?_; omega) | (refine ixs0 rfl ?_) | (refine ixs1 rfl ?_) | (refine ixs_j ?_ ?_; omega) | (refine ixs_n ?_ ?_; omega) | (apply ld_o; exact rfl) | (apply ldN_a; exact rfl) | (apply ldN_o; (exact rfl); exact rfl) | (apply st_o; (exact rfl); exact rfl) | (apply stN_o; (exact rfl); (exact rfl); exact rfl) | (refine new_i (fun bk hbk => ?_)) | (apply when_dE; (exact rfl); (exact rfl); all_goals intro hc) | (apply when_dF; (exact rfl); (exact rfl); all_goals intro hc) | (apply when_nE; (exact rfl); (exact rfl); all_goals intro hc) | (apply when_nF; (exact rfl); (exact rfl); all_goals intro hc) | (apply br_dE; (exact rfl); all_goals intro hc) | (apply br_nE; (exact rfl); all_goals intro hc) | (refine mm_min ?_) | (refine mm_max ?_) | (refine rem_i ?_ ?_; omega) | (refine SelN.mk ?_) | (refine cut_n ?_) | (refine Both.mk ?_ ?_) | (exact True.intro))
                exact ⟨none, 0, rfl, rdI_nil, (by first | exact ent_i | (repeat (first | exact Ent.refl | exact Ent.left | refine Ent.cons ?_ | refine Ent.app ?_)))⟩
              · have h64' : ¬ (σ.p.length : Int) = 64 := by omega
                rw [if_neg h64, if_pos rfl] at hI
                rw [if_neg h64] at hst
                generalize wordsM c = ws at *
                repeat' ((try (conv => whnf)); first | (refine when_ye ?_ ?_; exact rfl) | (refine when_ne ?_ ?_; exact rfl) | (refine br_te ?_ ?_; exact rfl) | (refine br_fe ?_ ?_; exact rfl) | (apply br_pyE; (exact rfl); omega) | (apply br_pnE; (exact rfl); omega) | (apply when_pyE; (exact rfl); omega) | (apply when_pnE; (exact rfl); omega) | (apply br_npyE; (exact rfl); omega) | (apply br_npnE; (exact rfl); omega) | (apply when_npyE; (exact rfl); omega) | (apply when_npnE; (exact rfl); omega) | (refine ⟨w0.size - 1, xl, ?_, hxl, ?_⟩; (show (w0.size : Int) - 1 = _; omega)) | (refine ssc_n 0 (w0.size - 1) _ rfl ?_ ?_ ?_ hex ?_; (show (w0.size : Int) - 1 = _; omega); (omega); (omega)) | (apply app_i (enc := Ins.enc) (⟨io, ia, ib, ic, im⟩ : Ins) hb1; (exact rfl); (exact rfl); (omega); (exact rfl); (exact rfl); (omega); intro b1 e1 E1 he1) | (apply app_i (enc := encS) noB hb3; (exact rfl); (exact rfl); (omega); (exact rfl); (exact rfl); (omega); intro b3 e3 E3 he3) | (apply app_i (enc := encI) ((k : Int) + 1) hb5; (exact rfl); (exact rfl); (omega); (exact rfl); (exact rfl); (omega); intro b5 e5 E5 he5) | ((with_reducible show Ld _ _ _ _); first | (refine ldE0 hR hx rfl ?_) | (refine ldEk hR hx rfl ?_) | (refine ldE1 hR hx rfl ?_) | (refine ldE0 hWw hx0 rfl ?_) | (refine ldEk hWw hx0 rfl ?_) | (refine ldE1 hWw hx0 rfl ?_)) | ((with_reducible show IxS _ _ _ _ _); first | ((refine ixE hR hx ?_ ?_; (first | rfl | omega))) | ((refine ixE hWw hx0 ?_ ?_; (first | rfl | omega)))) | ((with_reducible show LdN _ _ _ _ _); first | (refine ldNEi hR hx rfl ?_) | (refine ldNEi hWw hx0 rfl ?_)) | ((with_reducible show CallT _ _ _ _ _ _); first | ((refine call_pe (hba _) ?_ ?_ ?_; (exact rfl); exact rfl)) | ((refine call_x (σ := { y : Option Addr × Nat × Own // BufE encS 9 1 y.1 y.2.1 ws y.2.2 }) (R := fun y v => v = .slice y.1.1 ws.length y.1.2.1) (O := fun y => y.1.2.2 ++ (D1 ++ (D2 ++ (D3 ++ (D4 ++ (D5 ++ (L ++ own))))))) (fun w hw => (hwo _ w hw).mono fun _ _ ⟨v, o, he, hs, a, cap, D, hv, hB, hE⟩ => ⟨v, o, he, hs, ⟨(a, cap, D), hB⟩, hv, hE⟩) ?_ ?_ (fun y v hv => ?_); (exact rfl); (exact rfl); (obtain ⟨⟨aw, cw, Dw⟩, hBw⟩ := y; dsimp only at hv hBw ⊢; subst hv; have hWw := hBw.rd (W0 := W0)))) | ((refine call_pe (hna _) ?_ ?_ ?_; (exact rfl); exact rfl)) | ((refine call_pe (hrj _ aw cw (hWw.ent ent_i)) ?_ ?_ ?_; (exact rfl); exact rfl)) | ((refine call_pe (hpa _) ?_ ?_ ?_; (exact rfl); exact rfl))) | (refine ari ?_ ?_; omega) | (refine aru ?_ ?_; omega) | (apply sel; exact rfl) | (refine ix0 rfl ?_) | (refine ix1 rfl ?_) | (refine ix2 rfl ?_) | (refine ix3 rfl ?_) | (apply ixj; omega) | (refine ixn ?_ ?_; omega) | (refine ixs0 rfl ?_) | (refine ixs1 rfl ?_) | (refine ixs_j ?_ ?_; omega) | (refine ixs_n ?_ ?_; omega) | (apply ld_o; exact rfl) | (apply ldN_a; exact rfl) | (apply ldN_o; (exact rfl); exact rfl) | (apply st_o; (exact rfl); exact rfl) | (apply stN_o; (exact rfl); (exact rfl); exact rfl) | (refine new_i (fun bk hbk => ?_)) | (apply when_dE; (exact rfl); (exact rfl); all_goals intro hc) | (apply when_dF; (exact rfl); (exact rfl); all_goals intro hc) | (apply when_nE; (exact rfl); (exact rfl); all_goals intro hc) | (apply when_nF; (exact rfl); (exact rfl); all_goals intro hc) | (apply br_dE; (exact rfl); all_goals intro hc) | (apply br_nE; (exact rfl); all_goals intro hc) | (refine mm_min ?_) | (refine mm_max ?_) | (refine rem_i ?_ ?_; omega) | (refine SelN.mk ?_) | (refine cut_n ?_) | (refine Both.mk ?_ ?_) | (exact True.intro))
                refine ⟨(k + 1, ⟨σ.p ++ [(⟨io, ia, ib, ic, im⟩ : Ins)], σ.lb, σ.tg ++ [(noB, (k : Int) + 1)]⟩, ⟨b1, e1, E1, a2, c2, D2, b3, e3, E3, a4, c4, D4, b5, e5, E5⟩), ⟨by dsimp only; omega, hst, by dsimp only; omega, ⟨he1, hb2, by dsimp only; rw [List.map_append]; exact he3, hb4, by dsimp only; rw [List.map_append]; exact he5⟩, hI⟩, by dsimp only; omega, ?_, (by first | exact ent_i | (repeat (first | exact Ent.refl | exact Ent.left | refine Ent.cons ?_ | refine Ent.app ?_)))⟩
                dsimp only
                rw [List.map_append, List.map_append, List.length_append, List.length_append, List.length_append]
                exact (by repeat' (first | exact True.intro | refine And.intro ?_ ?_ | exact rfl | exact vi (by omega) | (dsimp only; exact rfl) | (dsimp only; exact vi (by omega))))
            · rw [if_neg he, if_neg he] at hI
              rw [← hI]
              unfold finS
              simp only
              rw [if_neg he]
              generalize wordsM c = ws at *
              repeat' ((try (conv => whnf)); first | (refine when_ye ?_ ?_; exact rfl) | (refine when_ne ?_ ?_; exact rfl) | (refine br_te ?_ ?_; exact rfl) | (refine br_fe ?_ ?_; exact rfl) | (apply br_pyE; (exact rfl); omega) | (apply br_pnE; (exact rfl); omega) | (apply when_pyE; (exact rfl); omega) | (apply when_pnE; (exact rfl); omega) | (apply br_npyE; (exact rfl); omega) | (apply br_npnE; (exact rfl); omega) | (apply when_npyE; (exact rfl); omega) | (apply when_npnE; (exact rfl); omega) | (refine ⟨w0.size - 1, xl, ?_, hxl, ?_⟩; (show (w0.size : Int) - 1 = _; omega)) | (refine ssc_n 0 (w0.size - 1) _ rfl ?_ ?_ ?_ hex ?_; (show (w0.size : Int) - 1 = _; omega); (omega); (omega)) | ((with_reducible show Ld _ _ _ _); first | (refine ldE0 hR hx rfl ?_) | (refine ldEk hR hx rfl ?_) | (refine ldE1 hR hx rfl ?_) | (refine ldE0 hWw hx0 rfl ?_) | (refine ldEk hWw hx0 rfl ?_) | (refine ldE1 hWw hx0 rfl ?_)) | ((with_reducible show IxS _ _ _ _ _); first | ((refine ixE hR hx ?_ ?_; (first | rfl | omega))) | ((refine ixE hWw hx0 ?_ ?_; (first | rfl | omega)))) | ((with_reducible show LdN _ _ _ _ _); first | (refine ldNEi hR hx rfl ?_) | (refine ldNEi hWw hx0 rfl ?_)) | ((with_reducible show CallT _ _ _ _ _ _); first | ((refine call_pe (hba _) ?_ ?_ ?_; (exact rfl); exact rfl)) | ((refine call_x (σ := { y : Option Addr × Nat × Own // BufE encS 9 1 y.1 y.2.1 ws y.2.2 }) (R := fun y v => v = .slice y.1.1 ws.length y.1.2.1) (O := fun y => y.1.2.2 ++ (D1 ++ (D2 ++ (D3 ++ (D4 ++ (D5 ++ (L ++ own))))))) (fun w hw => (hwo _ w hw).mono fun _ _ ⟨v, o, he, hs, a, cap, D, hv, hB, hE⟩ => ⟨v, o, he, hs, ⟨(a, cap, D), hB⟩, hv, hE⟩) ?_ ?_ (fun y v hv => ?_); (exact rfl); (exact rfl); (obtain ⟨⟨aw, cw, Dw⟩, hBw⟩ := y; dsimp only at hv hBw ⊢; subst hv; have hWw := hBw.rd (W0 := W0)))) | ((refine call_pe (hna _) ?_ ?_ ?_; (exact rfl); exact rfl)) | ((refine call_pe (hrj _ aw cw (hWw.ent ent_i)) ?_ ?_ ?_; (exact rfl); exact rfl)) | ((refine call_pe (hpa _) ?_ ?_ ?_; (exact rfl); exact rfl))) | (refine ari ?_ ?_; omega) | (refine aru ?_ ?_; omega) | (apply sel; exact rfl) | (refine ix0 rfl ?_) | (refine ix1 rfl ?_) | (refine ix2 rfl ?_) | (refine ix3 rfl ?_) | (apply ixj; omega) | (refine ixn ?_ ?_; omega) | (refine ixs0 rfl ?_) | (refine ixs1 rfl ?_) | (refine ixs_j ?_ ?_; omega) | (refine ixs_n ?_ ?_; omega) | (apply ld_o; exact rfl) | (apply ldN_a; exact rfl) | (apply ldN_o; (exact rfl); exact rfl) | (apply st_o; (exact rfl); exact rfl) | (apply stN_o; (exact rfl); (exact rfl); exact rfl) | (refine new_i (fun bk hbk => ?_)) | (apply when_dE; (exact rfl); (exact rfl); all_goals intro hc) | (apply when_dF; (exact rfl); (exact rfl); all_goals intro hc) | (apply when_nE; (exact rfl); (exact rfl); all_goals intro hc) | (apply when_nF; (exact rfl); (exact rfl); all_goals intro hc) | (apply br_dE; (exact rfl); all_goals intro hc) | (apply br_nE; (exact rfl); all_goals intro hc) | (refine mm_min ?_) | (refine mm_max ?_) | (refine rem_i ?_ ?_; omega) | (refine SelN.mk ?_) | (refine cut_n ?_) | (refine Both.mk ?_ ?_) | (exact True.intro))
              exact ⟨none, 0, rfl, rdI_nil, (by first | exact ent_i | (repeat (first | exact Ent.refl | exact Ent.left | refine Ent.cons ?_ | refine Ent.app ?_)))⟩
    · have hlt' : ¬ (k : Int) < ls.length := by omega
      have hd : ls.drop k = [] := List.drop_eq_nil_of_le (by omega)
      rw [hd, runS] at hI
      rw [← hI]
      unfold finS
      rw [if_pos rfl]
      dsimp only
      clear hI hd
      have hR2 := hb2.rd (W0 := W0)
      have hR3 := hb3.rd (W0 := W0)
      have hR4 := hb4.rd (W0 := W0)
      have hR5 := hb5.rd (W0 := W0)
      have hlbs := hV.lbs
      repeat' ((try (conv => whnf)); first | (refine when_ye ?_ ?_; exact rfl) | (refine when_ne ?_ ?_; exact rfl) | (refine br_te ?_ ?_; exact rfl) | (refine br_fe ?_ ?_; exact rfl) | (apply br_pyE; (exact rfl); omega) | (apply br_pnE; (exact rfl); omega) | (apply when_pyE; (exact rfl); omega) | (apply when_pnE; (exact rfl); omega) | (apply br_npyE; (exact rfl); omega) | (apply br_npnE; (exact rfl); omega) | (apply when_npyE; (exact rfl); omega) | (apply when_npnE; (exact rfl); omega) | (refine ari ?_ ?_; omega) | (refine aru ?_ ?_; omega) | (apply sel; exact rfl) | (refine ix0 rfl ?_) | (refine ix1 rfl ?_) | (refine ix2 rfl ?_) | (refine ix3 rfl ?_) | (apply ixj; omega) | (refine ixn ?_ ?_; omega) | (refine ixs0 rfl ?_) | (refine ixs1 rfl ?_) | (refine ixs_j ?_ ?_; omega) | (refine ixs_n ?_ ?_; omega) | (apply ld_o; exact rfl) | (apply ldN_a; exact rfl) | (apply ldN_o; (exact rfl); exact rfl) | (apply st_o; (exact rfl); exact rfl) | (apply stN_o; (exact rfl); (exact rfl); exact rfl) | (refine new_i (fun bk hbk => ?_)) | (apply when_dE; (exact rfl); (exact rfl); all_goals intro hc) | (apply when_dF; (exact rfl); (exact rfl); all_goals intro hc) | (apply when_nE; (exact rfl); (exact rfl); all_goals intro hc) | (apply when_nF; (exact rfl); (exact rfl); all_goals intro hc) | (apply br_dE; (exact rfl); all_goals intro hc) | (apply br_nE; (exact rfl); all_goals intro hc) | (refine mm_min ?_) | (refine mm_max ?_) | (refine rem_i ?_ ?_; omega) | (refine SelN.mk ?_) | (refine cut_n ?_) | (refine Both.mk ?_ ?_) | (exact True.intro))
      refine loop_i (σ := Nat × List Ins × Own) (fun x => [(20, .int .i64 x.1)]) (fun x => x.2.2 ++ (D2 ++ (D3 ++ (D4 ++ (D5 ++ (L ++ own)))))) (fun x => x.1 ≤ σ.p.length ∧ x.2.1.length = x.1 ∧ BufE Ins.enc 23 5 a1 c1 (x.2.1 ++ σ.p.drop x.1) x.2.2 ∧ resS σ.lb (σ.p.drop x.1) (σ.tg.drop x.1) x.1 x.2.1 = resS σ.lb σ.p σ.tg 0 []) (fun x => σ.p.length - x.1) (0, [], D1) ⟨Nat.zero_le _, rfl, hb1, rfl⟩ (by repeat' (first | exact True.intro | refine And.intro ?_ ?_ | exact rfl | exact vi (by omega) | (dsimp only; exact rfl) | (dsimp only; exact vi (by omega)))) Ent.refl rfl ?_
      rintro ⟨i, acc, D⟩ junk ⟨hi, hal, hbp, hJ⟩
      dsimp only at hi hal hbp hJ ⊢
      have hpl : (acc ++ σ.p.drop i).length = σ.p.length := by rw [List.length_append, List.length_drop]; omega
      by_cases hlt2 : i < σ.p.length
      · have hlt3 : (i : Int) < σ.p.length := by omega
        obtain ⟨z, hz⟩ : ∃ z, σ.p[i]? = some z := ⟨_, List.getElem?_eq_getElem hlt2⟩
        obtain ⟨t, ht⟩ : ∃ t, σ.tg[i]? = some t := ⟨_, List.getElem?_eq_getElem (by omega)⟩
        have hdp : σ.p.drop i = z :: σ.p.drop (i + 1) := by
          rw [List.drop_eq_getElem_cons hlt2]
          congr 1
          exact (List.getElem?_eq_some_iff.1 hz).2
        have hdt : σ.tg.drop i = t :: σ.tg.drop (i + 1) := by
          rw [List.drop_eq_getElem_cons (by omega)]
          congr 1
          exact (List.getElem?_eq_some_iff.1 ht).2
        have ht1 : (σ.tg.map (·.1))[i]? = some t.1 := by rw [List.getElem?_map, ht]; rfl
        have ht2 : (σ.tg.map (·.2))[i]? = some t.2 := by rw [List.getElem?_map, ht]; rfl
        rw [hdp, hdt, resS] at hJ
        by_cases hno : t.1.toList = noB.toList
        · rw [if_pos hno] at hJ
          have hno : t.1.toList = (⟨#[]⟩ : ByteArray).toList := hno
          repeat' ((try (conv => whnf)); first | (refine when_ye ?_ ?_; exact rfl) | (refine when_ne ?_ ?_; exact rfl) | (refine br_te ?_ ?_; exact rfl) | (refine br_fe ?_ ?_; exact rfl) | (apply br_pyE; (exact rfl); omega) | (apply br_pnE; (exact rfl); omega) | (apply when_pyE; (exact rfl); omega) | (apply when_pnE; (exact rfl); omega) | (apply br_npyE; (exact rfl); omega) | (apply br_npnE; (exact rfl); omega) | (apply when_npyE; (exact rfl); omega) | (apply when_npnE; (exact rfl); omega) | (refine br_pyE ?_ hno ?_; exact rfl) | (refine br_pnE ?_ hno ?_; exact rfl) | (refine when_pyE ?_ hno ?_; exact rfl) | (refine when_pnE ?_ hno ?_; exact rfl) | (refine br_npyE ?_ hno ?_; exact rfl) | (refine br_npnE ?_ hno ?_; exact rfl) | (refine when_npyE ?_ hno ?_; exact rfl) | (refine when_npnE ?_ hno ?_; exact rfl) | ((with_reducible show Ld _ _ _ _); first | (refine ldE0 hR3 ht1 rfl ?_) | (refine ldEk hR3 ht1 rfl ?_) | (refine ldE1 hR3 ht1 rfl ?_)) | ((with_reducible show IxS _ _ _ _ _); first | ((refine ixE hR3 ht1 ?_ ?_; (first | rfl | omega)))) | ((with_reducible show LdN _ _ _ _ _); first | (refine ldNEi hR3 ht1 rfl ?_)) | (refine ari ?_ ?_; omega) | (refine aru ?_ ?_; omega) | (apply sel; exact rfl) | (refine ix0 rfl ?_) | (refine ix1 rfl ?_) | (refine ix2 rfl ?_) | (refine ix3 rfl ?_) | (apply ixj; omega) | (refine ixn ?_ ?_; omega) | (refine ixs0 rfl ?_) | (refine ixs1 rfl ?_) | (refine ixs_j ?_ ?_; omega) | (refine ixs_n ?_ ?_; omega) | (apply ld_o; exact rfl) | (apply ldN_a; exact rfl) | (apply ldN_o; (exact rfl); exact rfl) | (apply st_o; (exact rfl); exact rfl) | (apply stN_o; (exact rfl); (exact rfl); exact rfl) | (refine new_i (fun bk hbk => ?_)) | (apply when_dE; (exact rfl); (exact rfl); all_goals intro hc) | (apply when_dF; (exact rfl); (exact rfl); all_goals intro hc) | (apply when_nE; (exact rfl); (exact rfl); all_goals intro hc) | (apply when_nF; (exact rfl); (exact rfl); all_goals intro hc) | (apply br_dE; (exact rfl); all_goals intro hc) | (apply br_nE; (exact rfl); all_goals intro hc) | (refine mm_min ?_) | (refine mm_max ?_) | (refine rem_i ?_ ?_; omega) | (refine SelN.mk ?_) | (refine cut_n ?_) | (refine Both.mk ?_ ?_) | (exact True.intro))
          refine ⟨(i + 1, acc ++ [z], D), ⟨by dsimp only; omega, by dsimp only; simp; omega, ?_, hJ⟩, by dsimp only; omega, (by repeat' (first | exact True.intro | refine And.intro ?_ ?_ | exact rfl | exact vi (by omega) | (dsimp only; exact rfl) | (dsimp only; exact vi (by omega)))), (by first | exact ent_i | (repeat (first | exact Ent.refl | exact Ent.left | refine Ent.cons ?_ | refine Ent.app ?_)))⟩
          dsimp only
          rw [List.append_assoc, List.singleton_append, ← hdp]
          exact hbp
        · rw [if_neg hno] at hJ
          have hno : ¬ t.1.toList = (⟨#[]⟩ : ByteArray).toList := hno
          have hfi := fun (own : Own) (h : RdE encS 1 W0 own a2 (σ.lb.map (·.1))) => sp_find (cap := c2) h (by omega) t.1
          have hlm := fun v => alook_mem (n := t.1) (v := v) (lb := σ.lb)
          cases hk2 : alook t.1 σ.lb with
          | none =>
            rw [hk2] at hJ
            simp only at hJ
            rw [← hJ]
            rw [find_none σ.lb 0 hk2] at hfi
            repeat' ((try (conv => whnf)); first | (refine when_ye ?_ ?_; exact rfl) | (refine when_ne ?_ ?_; exact rfl) | (refine br_te ?_ ?_; exact rfl) | (refine br_fe ?_ ?_; exact rfl) | (apply br_pyE; (exact rfl); omega) | (apply br_pnE; (exact rfl); omega) | (apply when_pyE; (exact rfl); omega) | (apply when_pnE; (exact rfl); omega) | (apply br_npyE; (exact rfl); omega) | (apply br_npnE; (exact rfl); omega) | (apply when_npyE; (exact rfl); omega) | (apply when_npnE; (exact rfl); omega) | (refine br_pyE ?_ hno ?_; exact rfl) | (refine br_pnE ?_ hno ?_; exact rfl) | (refine when_pyE ?_ hno ?_; exact rfl) | (refine when_pnE ?_ hno ?_; exact rfl) | (refine br_npyE ?_ hno ?_; exact rfl) | (refine br_npnE ?_ hno ?_; exact rfl) | (refine when_npyE ?_ hno ?_; exact rfl) | (refine when_npnE ?_ hno ?_; exact rfl) | ((with_reducible show Ld _ _ _ _); first | (refine ldE0 hR3 ht1 rfl ?_) | (refine ldEk hR3 ht1 rfl ?_) | (refine ldE1 hR3 ht1 rfl ?_) | (refine ldE0 hR5 ht2 rfl ?_) | (refine ldEk hR5 ht2 rfl ?_) | (refine ldE1 hR5 ht2 rfl ?_)) | ((with_reducible show IxS _ _ _ _ _); first | ((refine ixE hR3 ht1 ?_ ?_; (first | rfl | omega))) | ((refine ixE hR5 ht2 ?_ ?_; (first | rfl | omega)))) | ((with_reducible show LdN _ _ _ _ _); first | (refine ldNEi hR3 ht1 rfl ?_) | (refine ldNEi hR5 ht2 rfl ?_)) | ((with_reducible show CallT _ _ _ _ _ _); first | ((refine call_pe (hfi _ (hR2.ent ent_i)) ?_ ?_ ?_; (exact rfl); exact rfl))) | (refine ari ?_ ?_; omega) | (refine aru ?_ ?_; omega) | (apply sel; exact rfl) | (refine ix0 rfl ?_) | (refine ix1 rfl ?_) | (refine ix2 rfl ?_) | (refine ix3 rfl ?_) | (apply ixj; omega) | (refine ixn ?_ ?_; omega) | (refine ixs0 rfl ?_) | (refine ixs1 rfl ?_) | (refine ixs_j ?_ ?_; omega) | (refine ixs_n ?_ ?_; omega) | (apply ld_o; exact rfl) | (apply ldN_a; exact rfl) | (apply ldN_o; (exact rfl); exact rfl) | (apply st_o; (exact rfl); exact rfl) | (apply stN_o; (exact rfl); (exact rfl); exact rfl) | (refine new_i (fun bk hbk => ?_)) | (apply when_dE; (exact rfl); (exact rfl); all_goals intro hc) | (apply when_dF; (exact rfl); (exact rfl); all_goals intro hc) | (apply when_nE; (exact rfl); (exact rfl); all_goals intro hc) | (apply when_nF; (exact rfl); (exact rfl); all_goals intro hc) | (apply br_dE; (exact rfl); all_goals intro hc) | (apply br_nE; (exact rfl); all_goals intro hc) | (refine mm_min ?_) | (refine mm_max ?_) | (refine rem_i ?_ ?_; omega) | (refine SelN.mk ?_) | (refine cut_n ?_) | (refine Both.mk ?_ ?_) | (exact True.intro))
            exact ⟨none, 0, rfl, rdI_nil, (by first | exact ent_i | (repeat (first | exact Ent.refl | exact Ent.left | refine Ent.cons ?_ | refine Ent.app ?_)))⟩
          | some v =>
            rw [hk2] at hJ
            simp only at hJ
            obtain ⟨fi, hfi1, hfi2⟩ := find_some σ.lb 0 hk2
            rw [hfi1, Nat.zero_add] at hfi
            obtain ⟨y, hy, hyv⟩ := hlm v hk2
            have hv := hlbs y hy
            rw [hyv] at hv
            by_cases hvm : v ≤ (i : Int)
            · rw [if_pos hvm] at hJ
              rw [← hJ]
              repeat' ((try (conv => whnf)); first | (refine when_ye ?_ ?_; exact rfl) | (refine when_ne ?_ ?_; exact rfl) | (refine br_te ?_ ?_; exact rfl) | (refine br_fe ?_ ?_; exact rfl) | (apply br_pyE; (exact rfl); omega) | (apply br_pnE; (exact rfl); omega) | (apply when_pyE; (exact rfl); omega) | (apply when_pnE; (exact rfl); omega) | (apply br_npyE; (exact rfl); omega) | (apply br_npnE; (exact rfl); omega) | (apply when_npyE; (exact rfl); omega) | (apply when_npnE; (exact rfl); omega) | (refine br_pyE ?_ hno ?_; exact rfl) | (refine br_pnE ?_ hno ?_; exact rfl) | (refine when_pyE ?_ hno ?_; exact rfl) | (refine when_pnE ?_ hno ?_; exact rfl) | (refine br_npyE ?_ hno ?_; exact rfl) | (refine br_npnE ?_ hno ?_; exact rfl) | (refine when_npyE ?_ hno ?_; exact rfl) | (refine when_npnE ?_ hno ?_; exact rfl) | ((with_reducible show Ld _ _ _ _); first | (refine ldE0 hR3 ht1 rfl ?_) | (refine ldEk hR3 ht1 rfl ?_) | (refine ldE1 hR3 ht1 rfl ?_) | (refine ldE0 hR5 ht2 rfl ?_) | (refine ldEk hR5 ht2 rfl ?_) | (refine ldE1 hR5 ht2 rfl ?_) | (refine ldE0 hR4 hfi2 rfl ?_) | (refine ldEk hR4 hfi2 rfl ?_) | (refine ldE1 hR4 hfi2 rfl ?_)) | ((with_reducible show IxS _ _ _ _ _); first | ((refine ixE hR3 ht1 ?_ ?_; (first | rfl | omega))) | ((refine ixE hR5 ht2 ?_ ?_; (first | rfl | omega))) | ((refine ixE hR4 hfi2 ?_ ?_; (first | rfl | omega)))) | ((with_reducible show LdN _ _ _ _ _); first | (refine ldNEi hR3 ht1 rfl ?_) | (refine ldNEi hR5 ht2 rfl ?_) | (refine ldNEi hR4 hfi2 rfl ?_)) | ((with_reducible show CallT _ _ _ _ _ _); first | ((refine call_pe (hfi _ (hR2.ent ent_i)) ?_ ?_ ?_; (exact rfl); exact rfl))) | (refine ari ?_ ?_; omega) | (refine aru ?_ ?_; omega) | (apply sel; exact rfl) | (refine ix0 rfl ?_) | (refine ix1 rfl ?_) | (refine ix2 rfl ?_) | (refine ix3 rfl ?_) | (apply ixj; omega) | (refine ixn ?_ ?_; omega) | (refine ixs0 rfl ?_) | (refine ixs1 rfl ?_) | (refine ixs_j ?_ ?_; omega) | (refine ixs_n ?_ ?_; omega) | (apply ld_o; exact rfl) | (apply ldN_a; exact rfl) | (apply ldN_o; (exact rfl); exact rfl) | (apply st_o; (exact rfl); exact rfl) | (apply stN_o; (exact rfl); (exact rfl); exact rfl) | (refine new_i (fun bk hbk => ?_)) | (apply when_dE; (exact rfl); (exact rfl); all_goals intro hc) | (apply when_dF; (exact rfl); (exact rfl); all_goals intro hc) | (apply when_nE; (exact rfl); (exact rfl); all_goals intro hc) | (apply when_nF; (exact rfl); (exact rfl); all_goals intro hc) | (apply br_dE; (exact rfl); all_goals intro hc) | (apply br_nE; (exact rfl); all_goals intro hc) | (refine mm_min ?_) | (refine mm_max ?_) | (refine rem_i ?_ ?_; omega) | (refine SelN.mk ?_) | (refine cut_n ?_) | (refine Both.mk ?_ ?_) | (exact True.intro))
              exact ⟨none, 0, rfl, rdI_nil, (by first | exact ent_i | (repeat (first | exact Ent.refl | exact Ent.left | refine Ent.cons ?_ | refine Ent.app ?_)))⟩
            · rw [if_neg hvm] at hJ
              obtain ⟨zo, za, zb, zc, zm⟩ := z
              have hR1 := hbp.rd (W0 := W0)
              have hzz : (acc ++ σ.p.drop i)[i]? = some ⟨zo, za, zb, zc, zm⟩ := by rw [hdp, List.getElem?_append_right (by omega), hal]; simp
              repeat' ((try (conv => whnf)); first | (refine when_ye ?_ ?_; exact rfl) | (refine when_ne ?_ ?_; exact rfl) | (refine br_te ?_ ?_; exact rfl) | (refine br_fe ?_ ?_; exact rfl) | (apply br_pyE; (exact rfl); omega) | (apply br_pnE; (exact rfl); omega) | (apply when_pyE; (exact rfl); omega) | (apply when_pnE; (exact rfl); omega) | (apply br_npyE; (exact rfl); omega) | (apply br_npnE; (exact rfl); omega) | (apply when_npyE; (exact rfl); omega) | (apply when_npnE; (exact rfl); omega) | (refine br_pyE ?_ hno ?_; exact rfl) | (refine br_pnE ?_ hno ?_; exact rfl) | (refine when_pyE ?_ hno ?_; exact rfl) | (refine when_pnE ?_ hno ?_; exact rfl) | (refine br_npyE ?_ hno ?_; exact rfl) | (refine br_npnE ?_ hno ?_; exact rfl) | (refine when_npyE ?_ hno ?_; exact rfl) | (refine when_npnE ?_ hno ?_; exact rfl) | (refine ixEn hR1 hzz hpl ?_ ?_; (omega)) | (apply stE_i (enc := Ins.enc) (j := i) (k := 4) (⟨zo, za, zb, zc, v - i - 1⟩ : Ins) hbp hzz; (exact rfl); (omega); (exact rfl); (exact rfl); intro E1 he1) | ((with_reducible show Ld _ _ _ _); first | (refine ldE0 hR3 ht1 rfl ?_) | (refine ldEk hR3 ht1 rfl ?_) | (refine ldE1 hR3 ht1 rfl ?_) | (refine ldE0 hR4 hfi2 rfl ?_) | (refine ldEk hR4 hfi2 rfl ?_) | (refine ldE1 hR4 hfi2 rfl ?_)) | ((with_reducible show IxS _ _ _ _ _); first | ((refine ixE hR3 ht1 ?_ ?_; (first | rfl | omega))) | ((refine ixE hR4 hfi2 ?_ ?_; (first | rfl | omega)))) | ((with_reducible show LdN _ _ _ _ _); first | (refine ldNEi hR3 ht1 rfl ?_) | (refine ldNEi hR4 hfi2 rfl ?_)) | ((with_reducible show CallT _ _ _ _ _ _); first | ((refine call_pe (hfi _ (hR2.ent ent_i)) ?_ ?_ ?_; (exact rfl); exact rfl))) | (refine ari ?_ ?_; omega) | (refine aru ?_ ?_; omega) | (apply sel; exact rfl) | (refine ix0 rfl ?_) | (refine ix1 rfl ?_) | (refine ix2 rfl ?_) | (refine ix3 rfl ?_) | (apply ixj; omega) | (refine ixn ?_ ?_; omega) | (refine ixs0 rfl ?_) | (refine ixs1 rfl ?_) | (refine ixs_j ?_ ?_; omega) | (refine ixs_n ?_ ?_; omega) | (apply ld_o; exact rfl) | (apply ldN_a; exact rfl) | (apply ldN_o; (exact rfl); exact rfl) | (apply st_o; (exact rfl); exact rfl) | (apply stN_o; (exact rfl); (exact rfl); exact rfl) | (refine new_i (fun bk hbk => ?_)) | (apply when_dE; (exact rfl); (exact rfl); all_goals intro hc) | (apply when_dF; (exact rfl); (exact rfl); all_goals intro hc) | (apply when_nE; (exact rfl); (exact rfl); all_goals intro hc) | (apply when_nF; (exact rfl); (exact rfl); all_goals intro hc) | (apply br_dE; (exact rfl); all_goals intro hc) | (apply br_nE; (exact rfl); all_goals intro hc) | (refine mm_min ?_) | (refine mm_max ?_) | (refine rem_i ?_ ?_; omega) | (refine SelN.mk ?_) | (refine cut_n ?_) | (refine Both.mk ?_ ?_) | (exact True.intro))
              refine ⟨(i + 1, acc ++ [⟨zo, za, zb, zc, v - i - 1⟩], E1), ⟨by dsimp only; omega, by dsimp only; simp; omega, ?_, hJ⟩, by dsimp only; omega, (by repeat' (first | exact True.intro | refine And.intro ?_ ?_ | exact rfl | exact vi (by omega) | (dsimp only; exact rfl) | (dsimp only; exact vi (by omega)))), (by first | exact ent_i | (repeat (first | exact Ent.refl | exact Ent.left | refine Ent.cons ?_ | refine Ent.app ?_)))⟩
              dsimp only
              have he : (acc ++ σ.p.drop i).set i ⟨zo, za, zb, zc, v - i - 1⟩ = acc ++ [⟨zo, za, zb, zc, v - i - 1⟩] ++ σ.p.drop (i + 1) := by
                rw [hdp, List.set_append_right _ _ (by omega), hal, Nat.sub_self, List.set_cons_zero]
                simp
              rw [← he]
              exact he1
      · have hlt3 : ¬ (i : Int) < σ.p.length := by omega
        have hdp : σ.p.drop i = [] := List.drop_eq_nil_of_le (by omega)
        rw [hdp, List.append_nil] at hbp hpl
        rw [hdp] at hJ
        simp only [resS] at hJ
        rw [← hJ]
        repeat' ((try (conv => whnf)); first | (refine when_ye ?_ ?_; exact rfl) | (refine when_ne ?_ ?_; exact rfl) | (refine br_te ?_ ?_; exact rfl) | (refine br_fe ?_ ?_; exact rfl) | (apply br_pyE; (exact rfl); omega) | (apply br_pnE; (exact rfl); omega) | (apply when_pyE; (exact rfl); omega) | (apply when_pnE; (exact rfl); omega) | (apply br_npyE; (exact rfl); omega) | (apply br_npnE; (exact rfl); omega) | (apply when_npyE; (exact rfl); omega) | (apply when_npnE; (exact rfl); omega) | (refine ari ?_ ?_; omega) | (refine aru ?_ ?_; omega) | (apply sel; exact rfl) | (refine ix0 rfl ?_) | (refine ix1 rfl ?_) | (refine ix2 rfl ?_) | (refine ix3 rfl ?_) | (apply ixj; omega) | (refine ixn ?_ ?_; omega) | (refine ixs0 rfl ?_) | (refine ixs1 rfl ?_) | (refine ixs_j ?_ ?_; omega) | (refine ixs_n ?_ ?_; omega) | (apply ld_o; exact rfl) | (apply ldN_a; exact rfl) | (apply ldN_o; (exact rfl); exact rfl) | (apply st_o; (exact rfl); exact rfl) | (apply stN_o; (exact rfl); (exact rfl); exact rfl) | (refine new_i (fun bk hbk => ?_)) | (apply when_dE; (exact rfl); (exact rfl); all_goals intro hc) | (apply when_dF; (exact rfl); (exact rfl); all_goals intro hc) | (apply when_nE; (exact rfl); (exact rfl); all_goals intro hc) | (apply when_nF; (exact rfl); (exact rfl); all_goals intro hc) | (apply br_dE; (exact rfl); all_goals intro hc) | (apply br_nE; (exact rfl); all_goals intro hc) | (refine mm_min ?_) | (refine mm_max ?_) | (refine rem_i ?_ ?_; omega) | (refine SelN.mk ?_) | (refine cut_n ?_) | (refine Both.mk ?_ ?_) | (exact True.intro))
        exact ⟨a1, c1, by rw [hpl]; rfl, hbp.rd.ent (by first | exact ent_i | (repeat (first | exact Ent.refl | exact Ent.left | refine Ent.cons ?_ | refine Ent.app ?_))), (by first | exact ent_i | (repeat (first | exact Ent.refl | exact Ent.left | refine Ent.cons ?_ | refine Ent.app ?_)))⟩
end
end Go.Proofs.YtiimndcifcoofaaGreatDoor
