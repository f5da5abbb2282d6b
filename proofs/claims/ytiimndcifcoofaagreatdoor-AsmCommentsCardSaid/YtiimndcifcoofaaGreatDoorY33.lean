/- What the laws share, part 33. No condition. -/
import Derived.Test.YtiimndcifcoofaaGreatDoorY32
namespace Go.Proofs.YtiimndcifcoofaaGreatDoor
open Go Go.RowKit
set_option maxRecDepth 10000
set_option maxHeartbeats 4000000
def AsmR (W0 : World) (own : Own) (x : List Ins × Int × Int) : Value → Own → Prop := fun v own' => ∃ a cap, v = .tuple #[.slice a x.1.length cap, .int .i64 x.2.1, .int .i64 x.2.2] ∧ RdE Ins.enc 5 W0 own' a x.1 ∧ Ent W0 own' own
theorem AsB.ent {ab mb : Nat} {σ : AS} {r O : Own} {W0 : World} (h : AsB ab mb σ r O) : Ent W0 O r := by
  obtain ⟨ca, cc, ja, jc, D1, D2, _, _, rfl⟩ := h.how
  exact Ent.cons (Ent.cons (Ent.app (Ent.app Ent.refl)))
theorem rdI_nil {W0 : World} {own : Own} : RdE Ins.enc 5 W0 own none [] := (BufE.nil (enc := Ins.enc) (T := 23) (sz := 5) (a := none)).rd.ent Ent.none
theorem ln_size : ∀ (l cur x : List UInt8), x ∈ lnL cur l → x.length ≤ cur.length + l.length
  | [], cur, x, h => by
    rw [ln_nil] at h
    split at h
    · cases h
    · rw [List.mem_singleton.1 h]; simp
  | c :: r, cur, x, h => by
    rw [ln_cons] at h
    split at h
    · rcases List.mem_cons.1 h with rfl | h
      · simp
      · have := ln_size r [] x h
        simp at this ⊢
        omega
    · have := ln_size r (cur ++ [c]) x h
      simp at this ⊢
      omega
theorem ln_len : ∀ (l cur : List UInt8), (lnL cur l).length ≤ l.length + 1
  | [], cur => by rw [ln_nil]; split <;> simp
  | c :: r, cur => by
    rw [ln_cons]
    split
    · have := ln_len r []
      simp; omega
    · have := ln_len r (cur ++ [c])
      simp; omega
theorem lines_size {s x : ByteArray} (h : x ∈ linesB s) : x.size ≤ s.size := by
  unfold linesB at h
  obtain ⟨y, hy, rfl⟩ := List.mem_map.1 h
  have := ln_size _ _ _ hy
  rw [bW_size]
  simpa using this
theorem lines_len (s : ByteArray) : (linesB s).length ≤ s.size + 1 := by
  have := ln_len s.data.toList []
  unfold linesB
  rw [List.length_map]
  simpa using this
theorem ixEn {α : Type} {enc : α → List Value} {sz n : Nat} {W0 : World} {own : Own} {a : Option Addr} {l : List α} {i : Int} {K : Addr → Prop} {j : Nat} {x : α} (h : RdE enc sz W0 own a l) (hx : l[j]? = some x) (hn : l.length = n) (hi : i = j) (hk : K ⟨ab a, ao a + j * sz, none⟩) : IxS a sz i n K := by
  subst hn; exact ixE h hx hi hk
section
variable {W0 : World} {own : Own}
theorem sp_Assemble (hA : AsmAt W0) (s : ByteArray) (hs : s.size ≤ 4294967296) : Spec Tryz.prog W0 24 [.string s] own (AsmR W0 own (asmM s)) := by
  refine spec_of mixed low_asm_Assemble (by simp [ir_asm_Assemble]) ?_
  unfold asmM
  by_cases h6 : 65536 < s.size
  · rw [if_pos h6]
    have h6' : 65536 < (s.size : Int) := by omega
    repeat' ((try (conv => whnf)); first | (refine when_ye ?_ ?_; exact rfl) | (refine when_ne ?_ ?_; exact rfl) | (refine br_te ?_ ?_; exact rfl) | (refine br_fe ?_ ?_; exact rfl) | (apply br_pyE; (exact rfl); omega) | (apply br_pnE; (exact rfl); omega) | (apply when_pyE; (exact rfl); omega) | (apply when_pnE; (exact rfl); omega) | (apply br_npyE; (exact rfl); omega) | (apply br_npnE; (exact rfl); omega) | (apply when_npyE; (exact rfl); omega) | (apply when_npnE; (exact rfl); omega) | (refine ari ?_ ?_; omega) | (refine aru ?_ ?_; omega) | (apply sel; exact rfl) | (refine ix0 rfl ?_) | (refine ix1 rfl ?_) | (refine ix2 rfl ?_) | (refine ix3 rfl ?_) | (apply ixj; omega) | (refine ixn ?_ ?_; omega) | (refine ixs0 rfl ?_) | (refine ixs1 rfl ?_) | (refine ixs_j ?_ ?_; omega) | (refine ixs_n ?_ ?_; omega) | (apply ld_o; exact rfl) | (apply ldN_a; exact rfl) | (apply ldN_o; (exact rfl); exact rfl) | (apply st_o; (exact rfl); exact rfl) | (apply stN_o; (exact rfl); (exact rfl); exact rfl) | (refine new_i (fun bk hbk => ?_)) | (apply when_dE; (exact rfl); (exact rfl); all_goals intro hc) | (apply when_dF; (exact rfl); (exact rfl); all_goals intro hc) | (apply when_nE; (exact rfl); (exact rfl); all_goals intro hc) | (apply when_nF; (exact rfl); (exact rfl); all_goals intro hc) | (apply br_dE; (exact rfl); all_goals intro hc) | (apply br_nE; (exact rfl); all_goals intro hc) | (refine mm_min ?_) | (refine mm_max ?_) | (refine rem_i ?_ ?_; omega) | (refine SelN.mk ?_) | (refine cut_n ?_) | (refine Both.mk ?_ ?_) | (exact True.intro))
    exact ⟨none, 0, rfl, rdI_nil, (by first | exact ent_i | (repeat (first | exact Ent.refl | exact Ent.left | refine Ent.cons ?_ | refine Ent.app ?_)))⟩
  · rw [if_neg h6]
    have h6' : ¬ 65536 < (s.size : Int) := by omega
    have hf := fun own => sp_lines (own := own) hA s (by omega)
    have hsz : ∀ x ∈ linesB s, x.size ≤ 65536 := fun x hx => by
      have := lines_size hx
      omega
    have hll : (linesB s).length ≤ 65537 := by
      have := lines_len s
      omega
    generalize linesB s = ls at *
    repeat' ((try (conv => whnf)); first | (refine when_ye ?_ ?_; exact rfl) | (refine when_ne ?_ ?_; exact rfl) | (refine br_te ?_ ?_; exact rfl) | (refine br_fe ?_ ?_; exact rfl) | (apply br_pyE; (exact rfl); omega) | (apply br_pnE; (exact rfl); omega) | (apply when_pyE; (exact rfl); omega) | (apply when_pnE; (exact rfl); omega) | (apply br_npyE; (exact rfl); omega) | (apply br_npnE; (exact rfl); omega) | (apply when_npyE; (exact rfl); omega) | (apply when_npnE; (exact rfl); omega) | (apply newM_i; intro mb hmb) | ((with_reducible show CallT _ _ _ _ _ _); first | ((refine call_se (hf _) ?_ ?_ (fun v own' hv => ?_); (exact rfl); (exact rfl); (obtain ⟨a, cap, L, rfl, hR, hE⟩ := hv)))) | (refine ari ?_ ?_; omega) | (refine aru ?_ ?_; omega) | (apply sel; exact rfl) | (refine ix0 rfl ?_) | (refine ix1 rfl ?_) | (refine ix2 rfl ?_) | (refine ix3 rfl ?_) | (apply ixj; omega) | (refine ixn ?_ ?_; omega) | (refine ixs0 rfl ?_) | (refine ixs1 rfl ?_) | (refine ixs_j ?_ ?_; omega) | (refine ixs_n ?_ ?_; omega) | (apply ld_o; exact rfl) | (apply ldN_a; exact rfl) | (apply ldN_o; (exact rfl); exact rfl) | (apply st_o; (exact rfl); exact rfl) | (apply stN_o; (exact rfl); (exact rfl); exact rfl) | (refine new_i (fun bk hbk => ?_)) | (apply when_dE; (exact rfl); (exact rfl); all_goals intro hc) | (apply when_dF; (exact rfl); (exact rfl); all_goals intro hc) | (apply when_nE; (exact rfl); (exact rfl); all_goals intro hc) | (apply when_nF; (exact rfl); (exact rfl); all_goals intro hc) | (apply br_dE; (exact rfl); all_goals intro hc) | (apply br_nE; (exact rfl); all_goals intro hc) | (refine mm_min ?_) | (refine mm_max ?_) | (refine rem_i ?_ ?_; omega) | (refine SelN.mk ?_) | (refine cut_n ?_) | (refine Both.mk ?_ ?_) | (exact True.intro))
    refine loop_i (σ := Nat × AS × Own) (fun x => [(22, .int .i64 x.1)]) (fun x => x.2.2) (fun x => x.1 ≤ ls.length ∧ Inv x.2.1 ∧ AsB bk mb x.2.1 (L ++ own) x.2.2 ∧ runS (ls.drop x.1) (x.1 + 1) x.2.1 = runS ls 1 AS0) (fun x => ls.length - x.1) (0, AS0, AsO bk mb AS0 none 0 none 0 ([] ++ ([] ++ (L ++ own)))) ⟨Nat.zero_le _, inv0, ⟨none, 0, none, 0, [], [], BufE.nil, BufE.nil, rfl⟩, rfl⟩ (by repeat' (first | exact True.intro | refine And.intro ?_ ?_ | exact rfl | exact vi (by omega) | (dsimp only; exact rfl) | (dsimp only; exact vi (by omega)))) (hE.trans (Ent.of_perm (List.perm_middle.trans (List.Perm.cons _ List.perm_middle)))) rfl ?_
    rintro ⟨k, σ, O⟩ junk ⟨hk, hV, hB, hI⟩
    dsimp only at hk hV hB hI ⊢
    have hRO := hR.ent (hB.ent.trans Ent.left)
    by_cases hlt : k < ls.length
    · have hlt' : (k : Int) < ls.length := by omega
      obtain ⟨x, hx⟩ : ∃ x, ls[k]? = some x := ⟨_, List.getElem?_eq_getElem hlt⟩
      have hd : ls.drop k = x :: ls.drop (k + 1) := by
        rw [List.drop_eq_getElem_cons hlt]
        congr 1
        exact (List.getElem?_eq_some_iff.1 hx).2
      rw [hd, runS] at hI
      have hxs := hsz x (List.mem_of_getElem? hx)
      have hst := step_inv (s := x) (ln := (k : Int) + 1) hV
      have hrd := sp_read hA hB hV x hxs ((k : Int) + 1)
      generalize stepS σ x ((k : Int) + 1) = q at hI hst hrd
      obtain ⟨e, σ2⟩ := q
      dsimp only at hI hst hrd
      by_cases he : e = 0
      · rw [if_pos he] at hI
        subst he
        repeat' ((try (conv => whnf)); first | (refine when_ye ?_ ?_; exact rfl) | (refine when_ne ?_ ?_; exact rfl) | (refine br_te ?_ ?_; exact rfl) | (refine br_fe ?_ ?_; exact rfl) | (apply br_pyE; (exact rfl); omega) | (apply br_pnE; (exact rfl); omega) | (apply when_pyE; (exact rfl); omega) | (apply when_pnE; (exact rfl); omega) | (apply br_npyE; (exact rfl); omega) | (apply br_npnE; (exact rfl); omega) | (apply when_npyE; (exact rfl); omega) | (apply when_npnE; (exact rfl); omega) | ((with_reducible show Ld _ _ _ _); first | (refine ldE0 hRO hx rfl ?_) | (refine ldEk hRO hx rfl ?_) | (refine ldE1 hRO hx rfl ?_)) | ((with_reducible show IxS _ _ _ _ _); first | ((refine ixE hRO hx ?_ ?_; (first | rfl | omega)))) | ((with_reducible show LdN _ _ _ _ _); first | (refine ldNEi hRO hx rfl ?_)) | ((with_reducible show CallT _ _ _ _ _ _); first | ((refine call_x (σ := { O' : Own // AsB bk mb σ2 (L ++ own) O' }) (R := fun _ v => v = .int .i64 0) (O := fun x => x.1) (fun w hw => (hrd w hw).mono fun _ _ ⟨v, o, he, hs, O', hv, hB', hE⟩ => ⟨v, o, he, hs, ⟨O', hB'⟩, hv, hE⟩) ?_ ?_ (fun y v hv => ?_); (exact rfl); (exact rfl); (subst hv)))) | (refine ari ?_ ?_; omega) | (refine aru ?_ ?_; omega) | (apply sel; exact rfl) | (refine ix0 rfl ?_) | (refine ix1 rfl ?_) | (refine ix2 rfl ?_) | (refine ix3 rfl ?_) | (apply ixj; omega) | (refine ixn ?_ ?_; omega) | (refine ixs0 rfl ?_) | (refine ixs1 rfl ?_) | (refine ixs_j ?_ ?_; omega) | (refine ixs_n ?_ ?_; omega) | (apply ld_o; exact rfl) | (apply ldN_a; exact rfl) | (apply ldN_o; (exact rfl); exact rfl) | (apply st_o; (exact rfl); exact rfl) | (apply stN_o; (exact rfl); (exact rfl); exact rfl) | (refine new_i (fun bk hbk => ?_)) | (apply when_dE; (exact rfl); (exact rfl); all_goals intro hc) | (apply when_dF; (exact rfl); (exact rfl); all_goals intro hc) | (apply when_nE; (exact rfl); (exact rfl); all_goals intro hc) | (apply when_nF; (exact rfl); (exact rfl); all_goals intro hc) | (apply br_dE; (exact rfl); all_goals intro hc) | (apply br_nE; (exact rfl); all_goals intro hc) | (refine mm_min ?_) | (refine mm_max ?_) | (refine rem_i ?_ ?_; omega) | (refine SelN.mk ?_) | (refine cut_n ?_) | (refine Both.mk ?_ ?_) | (exact True.intro))
        exact ⟨(k + 1, σ2, y.1), ⟨by dsimp only; omega, hst, y.2, hI⟩, by dsimp only; omega, (by repeat' (first | exact True.intro | refine And.intro ?_ ?_ | exact rfl | exact vi (by omega) | (dsimp only; exact rfl) | (dsimp only; exact vi (by omega)))), Ent.refl⟩
      · rw [if_neg he] at hI
        rw [← hI]
        unfold finS
        rw [if_neg he]
        repeat' ((try (conv => whnf)); first | (refine when_ye ?_ ?_; exact rfl) | (refine when_ne ?_ ?_; exact rfl) | (refine br_te ?_ ?_; exact rfl) | (refine br_fe ?_ ?_; exact rfl) | (apply br_pyE; (exact rfl); omega) | (apply br_pnE; (exact rfl); omega) | (apply when_pyE; (exact rfl); omega) | (apply when_pnE; (exact rfl); omega) | (apply br_npyE; (exact rfl); omega) | (apply br_npnE; (exact rfl); omega) | (apply when_npyE; (exact rfl); omega) | (apply when_npnE; (exact rfl); omega) | ((with_reducible show Ld _ _ _ _); first | (refine ldE0 hRO hx rfl ?_) | (refine ldEk hRO hx rfl ?_) | (refine ldE1 hRO hx rfl ?_)) | ((with_reducible show IxS _ _ _ _ _); first | ((refine ixE hRO hx ?_ ?_; (first | rfl | omega)))) | ((with_reducible show LdN _ _ _ _ _); first | (refine ldNEi hRO hx rfl ?_)) | ((with_reducible show CallT _ _ _ _ _ _); first | ((refine call_x (σ := { O' : Own // AsB bk mb σ2 (L ++ own) O' }) (R := fun _ v => v = .int .i64 e) (O := fun x => x.1) (fun w hw => (hrd w hw).mono fun _ _ ⟨v, o, he, hs, O', hv, hB', hE⟩ => ⟨v, o, he, hs, ⟨O', hB'⟩, hv, hE⟩) ?_ ?_ (fun y v hv => ?_); (exact rfl); (exact rfl); (subst hv)))) | (refine ari ?_ ?_; omega) | (refine aru ?_ ?_; omega) | (apply sel; exact rfl) | (refine ix0 rfl ?_) | (refine ix1 rfl ?_) | (refine ix2 rfl ?_) | (refine ix3 rfl ?_) | (apply ixj; omega) | (refine ixn ?_ ?_; omega) | (refine ixs0 rfl ?_) | (refine ixs1 rfl ?_) | (refine ixs_j ?_ ?_; omega) | (refine ixs_n ?_ ?_; omega) | (apply ld_o; exact rfl) | (apply ldN_a; exact rfl) | (apply ldN_o; (exact rfl); exact rfl) | (apply st_o; (exact rfl); exact rfl) | (apply stN_o; (exact rfl); (exact rfl); exact rfl) | (refine new_i (fun bk hbk => ?_)) | (apply when_dE; (exact rfl); (exact rfl); all_goals intro hc) | (apply when_dF; (exact rfl); (exact rfl); all_goals intro hc) | (apply when_nE; (exact rfl); (exact rfl); all_goals intro hc) | (apply when_nF; (exact rfl); (exact rfl); all_goals intro hc) | (apply br_dE; (exact rfl); all_goals intro hc) | (apply br_nE; (exact rfl); all_goals intro hc) | (refine mm_min ?_) | (refine mm_max ?_) | (refine rem_i ?_ ?_; omega) | (refine SelN.mk ?_) | (refine cut_n ?_) | (refine Both.mk ?_ ?_) | (exact True.intro))
        exact ⟨none, 0, rfl, rdI_nil, y.2.ent.trans (Ent.app Ent.refl)⟩
    · have hlt' : ¬ (k : Int) < ls.length := by omega
      have hd : ls.drop k = [] := List.drop_eq_nil_of_le (by omega)
      rw [hd, runS] at hI
      rw [← hI]
      unfold finS
      rw [if_pos rfl]
      dsimp only
      obtain ⟨ca, cc, ja, jc, D1, D2, hb1, hb2, rfl⟩ := hB
      have hres := resP_resS σ.lb σ.p σ.tg [] hV.len
      rw [List.length_nil, List.nil_append] at hres
      rw [← hres]
      have hR2 := hb2.rd (W0 := W0)
      have hat := jmps_at σ.tg 0
      have hlen := hV.len
      have hmax := hV.max
      have hjl := jmps_le σ.tg 0
      have hlbs := hV.lbs
      unfold AsO
      generalize jmps σ.tg 0 = js at *
      repeat' ((try (conv => whnf)); first | (refine when_ye ?_ ?_; exact rfl) | (refine when_ne ?_ ?_; exact rfl) | (refine br_te ?_ ?_; exact rfl) | (refine br_fe ?_ ?_; exact rfl) | (apply br_pyE; (exact rfl); omega) | (apply br_pnE; (exact rfl); omega) | (apply when_pyE; (exact rfl); omega) | (apply when_pnE; (exact rfl); omega) | (apply br_npyE; (exact rfl); omega) | (apply br_npnE; (exact rfl); omega) | (apply when_npyE; (exact rfl); omega) | (apply when_npnE; (exact rfl); omega) | (refine ari ?_ ?_; omega) | (refine aru ?_ ?_; omega) | (apply sel; exact rfl) | (refine ix0 rfl ?_) | (refine ix1 rfl ?_) | (refine ix2 rfl ?_) | (refine ix3 rfl ?_) | (apply ixj; omega) | (refine ixn ?_ ?_; omega) | (refine ixs0 rfl ?_) | (refine ixs1 rfl ?_) | (refine ixs_j ?_ ?_; omega) | (refine ixs_n ?_ ?_; omega) | (apply ld_o; exact rfl) | (apply ldN_a; exact rfl) | (apply ldN_o; (exact rfl); exact rfl) | (apply st_o; (exact rfl); exact rfl) | (apply stN_o; (exact rfl); (exact rfl); exact rfl) | (refine new_i (fun bk hbk => ?_)) | (apply when_dE; (exact rfl); (exact rfl); all_goals intro hc) | (apply when_dF; (exact rfl); (exact rfl); all_goals intro hc) | (apply when_nE; (exact rfl); (exact rfl); all_goals intro hc) | (apply when_nF; (exact rfl); (exact rfl); all_goals intro hc) | (apply br_dE; (exact rfl); all_goals intro hc) | (apply br_nE; (exact rfl); all_goals intro hc) | (refine mm_min ?_) | (refine mm_max ?_) | (refine rem_i ?_ ?_; omega) | (refine SelN.mk ?_) | (refine cut_n ?_) | (refine Both.mk ?_ ?_) | (exact True.intro))
      refine loop_i (σ := Nat × List Ins × Own) (fun x => [(43, .int .i64 x.1)]) (fun x => (bk, fun o => o = Obj.cells #[.slice ca σ.p.length cc, .map (some mb), .slice ja js.length jc] 71) :: (mb, mapO (lbV σ.lb)) :: (x.2.2 ++ (D2 ++ (L ++ own)))) (fun x => x.1 ≤ js.length ∧ x.2.1.length = σ.p.length ∧ BufE Ins.enc 23 5 ca cc x.2.1 x.2.2 ∧ resP σ.lb (js.drop x.1) x.2.1 = resP σ.lb js σ.p) (fun x => js.length - x.1) (0, σ.p, D1) ⟨Nat.zero_le _, rfl, hb1, rfl⟩ (by repeat' (first | exact True.intro | refine And.intro ?_ ?_ | exact rfl | exact vi (by omega) | (dsimp only; exact rfl) | (dsimp only; exact vi (by omega)))) Ent.refl rfl ?_
      rintro ⟨i, p, D⟩ junk ⟨hi, hpl, hbp, hJ⟩
      dsimp only at hi hpl hbp hJ ⊢
      by_cases hlt2 : i < js.length
      · have hlt3 : (i : Int) < js.length := by omega
        obtain ⟨j, hj⟩ : ∃ j, js[i]? = some j := ⟨_, List.getElem?_eq_getElem hlt2⟩
        have hd : js.drop i = j :: js.drop (i + 1) := by
          rw [List.drop_eq_getElem_cons hlt2]
          congr 1
          exact (List.getElem?_eq_some_iff.1 hj).2
        rw [hd, resP] at hJ
        obtain ⟨m, hm1, _, hm2⟩ := hat j (List.mem_of_getElem? hj)
        have hfl := find_lb j.nm σ.lb
        have hlm := fun v => alook_mem (n := j.nm) (v := v) (lb := σ.lb)
        cases hk : alook j.nm σ.lb with
        | none =>
          rw [hk] at hfl hJ
          simp only at hJ
          rw [← hJ]
          repeat' ((try (conv => whnf)); first | (refine when_ye ?_ ?_; exact rfl) | (refine when_ne ?_ ?_; exact rfl) | (refine br_te ?_ ?_; exact rfl) | (refine br_fe ?_ ?_; exact rfl) | (apply br_pyE; (exact rfl); omega) | (apply br_pnE; (exact rfl); omega) | (apply when_pyE; (exact rfl); omega) | (apply when_pnE; (exact rfl); omega) | (apply br_npyE; (exact rfl); omega) | (apply br_npnE; (exact rfl); omega) | (apply when_npyE; (exact rfl); omega) | (apply when_npnE; (exact rfl); omega) | (refine mlk_i hfl ?_) | ((with_reducible show Ld _ _ _ _); first | (refine ldE0 hR2 hj rfl ?_) | (refine ldEk hR2 hj rfl ?_) | (refine ldE1 hR2 hj rfl ?_)) | ((with_reducible show IxS _ _ _ _ _); first | ((refine ixE hR2 hj ?_ ?_; (first | rfl | omega)))) | ((with_reducible show LdN _ _ _ _ _); first | (refine ldNEi hR2 hj rfl ?_)) | (refine ari ?_ ?_; omega) | (refine aru ?_ ?_; omega) | (apply sel; exact rfl) | (refine ix0 rfl ?_) | (refine ix1 rfl ?_) | (refine ix2 rfl ?_) | (refine ix3 rfl ?_) | (apply ixj; omega) | (refine ixn ?_ ?_; omega) | (refine ixs0 rfl ?_) | (refine ixs1 rfl ?_) | (refine ixs_j ?_ ?_; omega) | (refine ixs_n ?_ ?_; omega) | (apply ld_o; exact rfl) | (apply ldN_a; exact rfl) | (apply ldN_o; (exact rfl); exact rfl) | (apply st_o; (exact rfl); exact rfl) | (apply stN_o; (exact rfl); (exact rfl); exact rfl) | (refine new_i (fun bk hbk => ?_)) | (apply when_dE; (exact rfl); (exact rfl); all_goals intro hc) | (apply when_dF; (exact rfl); (exact rfl); all_goals intro hc) | (apply when_nE; (exact rfl); (exact rfl); all_goals intro hc) | (apply when_nF; (exact rfl); (exact rfl); all_goals intro hc) | (apply br_dE; (exact rfl); all_goals intro hc) | (apply br_nE; (exact rfl); all_goals intro hc) | (refine mm_min ?_) | (refine mm_max ?_) | (refine rem_i ?_ ?_; omega) | (refine SelN.mk ?_) | (refine cut_n ?_) | (refine Both.mk ?_ ?_) | (exact True.intro))
          exact ⟨none, 0, rfl, rdI_nil, (by first | exact ent_i | (repeat (first | exact Ent.refl | exact Ent.left | refine Ent.cons ?_ | refine Ent.app ?_)))⟩
        | some v =>
          rw [hk] at hfl hJ
          simp only at hJ
          obtain ⟨y, hy, hyv⟩ := hlm v hk
          have hv := hlbs y hy
          rw [hyv] at hv
          by_cases hvm : v ≤ j.at_
          · rw [if_pos hvm] at hJ
            rw [← hJ]
            repeat' ((try (conv => whnf)); first | (refine when_ye ?_ ?_; exact rfl) | (refine when_ne ?_ ?_; exact rfl) | (refine br_te ?_ ?_; exact rfl) | (refine br_fe ?_ ?_; exact rfl) | (apply br_pyE; (exact rfl); omega) | (apply br_pnE; (exact rfl); omega) | (apply when_pyE; (exact rfl); omega) | (apply when_pnE; (exact rfl); omega) | (apply br_npyE; (exact rfl); omega) | (apply br_npnE; (exact rfl); omega) | (apply when_npyE; (exact rfl); omega) | (apply when_npnE; (exact rfl); omega) | (refine mlk_i hfl ?_) | ((with_reducible show Ld _ _ _ _); first | (refine ldE0 hR2 hj rfl ?_) | (refine ldEk hR2 hj rfl ?_) | (refine ldE1 hR2 hj rfl ?_)) | ((with_reducible show IxS _ _ _ _ _); first | ((refine ixE hR2 hj ?_ ?_; (first | rfl | omega)))) | ((with_reducible show LdN _ _ _ _ _); first | (refine ldNEi hR2 hj rfl ?_)) | (refine ari ?_ ?_; omega) | (refine aru ?_ ?_; omega) | (apply sel; exact rfl) | (refine ix0 rfl ?_) | (refine ix1 rfl ?_) | (refine ix2 rfl ?_) | (refine ix3 rfl ?_) | (apply ixj; omega) | (refine ixn ?_ ?_; omega) | (refine ixs0 rfl ?_) | (refine ixs1 rfl ?_) | (refine ixs_j ?_ ?_; omega) | (refine ixs_n ?_ ?_; omega) | (apply ld_o; exact rfl) | (apply ldN_a; exact rfl) | (apply ldN_o; (exact rfl); exact rfl) | (apply st_o; (exact rfl); exact rfl) | (apply stN_o; (exact rfl); (exact rfl); exact rfl) | (refine new_i (fun bk hbk => ?_)) | (apply when_dE; (exact rfl); (exact rfl); all_goals intro hc) | (apply when_dF; (exact rfl); (exact rfl); all_goals intro hc) | (apply when_nE; (exact rfl); (exact rfl); all_goals intro hc) | (apply when_nF; (exact rfl); (exact rfl); all_goals intro hc) | (apply br_dE; (exact rfl); all_goals intro hc) | (apply br_nE; (exact rfl); all_goals intro hc) | (refine mm_min ?_) | (refine mm_max ?_) | (refine rem_i ?_ ?_; omega) | (refine SelN.mk ?_) | (refine cut_n ?_) | (refine Both.mk ?_ ?_) | (exact True.intro))
            exact ⟨none, 0, rfl, rdI_nil, (by first | exact ent_i | (repeat (first | exact Ent.refl | exact Ent.left | refine Ent.cons ?_ | refine Ent.app ?_)))⟩
          · rw [if_neg hvm] at hJ
            have em : j.at_.toNat = m := by omega
            rw [em] at hJ
            obtain ⟨z, hz⟩ : ∃ z, p[m]? = some z := ⟨_, List.getElem?_eq_getElem (by omega)⟩
            rw [hz] at hJ
            simp only at hJ
            obtain ⟨zo, za, zb, zc, zm⟩ := z
            have hR1 := hbp.rd (W0 := W0)
            repeat' ((try (conv => whnf)); first | (refine when_ye ?_ ?_; exact rfl) | (refine when_ne ?_ ?_; exact rfl) | (refine br_te ?_ ?_; exact rfl) | (refine br_fe ?_ ?_; exact rfl) | (apply br_pyE; (exact rfl); omega) | (apply br_pnE; (exact rfl); omega) | (apply when_pyE; (exact rfl); omega) | (apply when_pnE; (exact rfl); omega) | (apply br_npyE; (exact rfl); omega) | (apply br_npnE; (exact rfl); omega) | (apply when_npyE; (exact rfl); omega) | (apply when_npnE; (exact rfl); omega) | (refine ixEn hR1 hz hpl ?_ ?_; (omega)) | (refine mlk_i hfl ?_) | (apply stE_i (enc := Ins.enc) (j := m) (k := 4) (⟨zo, za, zb, zc, v - j.at_ - 1⟩ : Ins) hbp hz; (exact rfl); (omega); (exact rfl); (exact rfl); intro E1 he1) | ((with_reducible show Ld _ _ _ _); first | (refine ldE0 hR2 hj rfl ?_) | (refine ldEk hR2 hj rfl ?_) | (refine ldE1 hR2 hj rfl ?_)) | ((with_reducible show IxS _ _ _ _ _); first | ((refine ixE hR2 hj ?_ ?_; (first | rfl | omega)))) | ((with_reducible show LdN _ _ _ _ _); first | (refine ldNEi hR2 hj rfl ?_)) | (refine ari ?_ ?_; omega) | (refine aru ?_ ?_; omega) | (apply sel; exact rfl) | (refine ix0 rfl ?_) | (refine ix1 rfl ?_) | (refine ix2 rfl ?_) | (refine ix3 rfl ?_) | (apply ixj; omega) | (refine ixn ?_ ?_; omega) | (refine ixs0 rfl ?_) | (refine ixs1 rfl ?_) | (refine ixs_j ?_ ?_; omega) | (refine ixs_n ?_ ?_; omega) | (apply ld_o; exact rfl) | (apply ldN_a; exact rfl) | (apply ldN_o; (exact rfl); exact rfl) | (apply st_o; (exact rfl); exact rfl) | (apply stN_o; (exact rfl); (exact rfl); exact rfl) | (refine new_i (fun bk hbk => ?_)) | (apply when_dE; (exact rfl); (exact rfl); all_goals intro hc) | (apply when_dF; (exact rfl); (exact rfl); all_goals intro hc) | (apply when_nE; (exact rfl); (exact rfl); all_goals intro hc) | (apply when_nF; (exact rfl); (exact rfl); all_goals intro hc) | (apply br_dE; (exact rfl); all_goals intro hc) | (apply br_nE; (exact rfl); all_goals intro hc) | (refine mm_min ?_) | (refine mm_max ?_) | (refine rem_i ?_ ?_; omega) | (refine SelN.mk ?_) | (refine cut_n ?_) | (refine Both.mk ?_ ?_) | (exact True.intro))
            exact ⟨(i + 1, p.set m ⟨zo, za, zb, zc, v - j.at_ - 1⟩, E1), ⟨by dsimp only; omega, by dsimp only; rw [List.length_set]; exact hpl, he1, hJ⟩, by dsimp only; omega, (by repeat' (first | exact True.intro | refine And.intro ?_ ?_ | exact rfl | exact vi (by omega) | (dsimp only; exact rfl) | (dsimp only; exact vi (by omega)))), (by first | exact ent_i | (repeat (first | exact Ent.refl | exact Ent.left | refine Ent.cons ?_ | refine Ent.app ?_)))⟩
      · have hlt3 : ¬ (i : Int) < js.length := by omega
        have hd : js.drop i = [] := List.drop_eq_nil_of_le (by omega)
        rw [hd, resP] at hJ
        rw [← hJ]
        repeat' ((try (conv => whnf)); first | (refine when_ye ?_ ?_; exact rfl) | (refine when_ne ?_ ?_; exact rfl) | (refine br_te ?_ ?_; exact rfl) | (refine br_fe ?_ ?_; exact rfl) | (apply br_pyE; (exact rfl); omega) | (apply br_pnE; (exact rfl); omega) | (apply when_pyE; (exact rfl); omega) | (apply when_pnE; (exact rfl); omega) | (apply br_npyE; (exact rfl); omega) | (apply br_npnE; (exact rfl); omega) | (apply when_npyE; (exact rfl); omega) | (apply when_npnE; (exact rfl); omega) | (refine ari ?_ ?_; omega) | (refine aru ?_ ?_; omega) | (apply sel; exact rfl) | (refine ix0 rfl ?_) | (refine ix1 rfl ?_) | (refine ix2 rfl ?_) | (refine ix3 rfl ?_) | (apply ixj; omega) | (refine ixn ?_ ?_; omega) | (refine ixs0 rfl ?_) | (refine ixs1 rfl ?_) | (refine ixs_j ?_ ?_; omega) | (refine ixs_n ?_ ?_; omega) | (apply ld_o; exact rfl) | (apply ldN_a; exact rfl) | (apply ldN_o; (exact rfl); exact rfl) | (apply st_o; (exact rfl); exact rfl) | (apply stN_o; (exact rfl); (exact rfl); exact rfl) | (refine new_i (fun bk hbk => ?_)) | (apply when_dE; (exact rfl); (exact rfl); all_goals intro hc) | (apply when_dF; (exact rfl); (exact rfl); all_goals intro hc) | (apply when_nE; (exact rfl); (exact rfl); all_goals intro hc) | (apply when_nF; (exact rfl); (exact rfl); all_goals intro hc) | (apply br_dE; (exact rfl); all_goals intro hc) | (apply br_nE; (exact rfl); all_goals intro hc) | (refine mm_min ?_) | (refine mm_max ?_) | (refine rem_i ?_ ?_; omega) | (refine SelN.mk ?_) | (refine cut_n ?_) | (refine Both.mk ?_ ?_) | (exact True.intro))
        exact ⟨ca, cc, by rw [← hpl]; rfl, hbp.rd.ent (by first | exact ent_i | (repeat (first | exact Ent.refl | exact Ent.left | refine Ent.cons ?_ | refine Ent.app ?_))), (by first | exact ent_i | (repeat (first | exact Ent.refl | exact Ent.left | refine Ent.cons ?_ | refine Ent.app ?_)))⟩
end
end Go.Proofs.YtiimndcifcoofaaGreatDoor
namespace Go.Proofs.YtiimndcifcoofaaGreatDoor
open Go Go.RowKit Go.Shelf
set_option maxRecDepth 10000
set_option maxHeartbeats 4000000
theorem shelf_lays166 : Go.Proofs.Lays.n166 Tryz.prog shelf_lays156_ren := {
  mixed := shelf_lays156.mixed
  f166 := shelf_lays156.f166
  f240 := shelf_lays156.f240
  f276 := shelf_lays156.f276
  t0 := shelf_lays156.t0
  a0 := shelf_lays156.a0
  z0 := shelf_lays156.z0
  v0 := shelf_lays156.v0
  t3 := shelf_lays156.t3
  a3 := shelf_lays156.a3
  z3 := shelf_lays156.z3
  v3 := shelf_lays156.v3
  t4 := shelf_lays156.t4
  a4 := shelf_lays156.a4
  z4 := shelf_lays156.z4
  v4 := shelf_lays156.v4
  t9 := shelf_lays156.t9
  a9 := shelf_lays156.a9
  z9 := shelf_lays156.z9
  v9 := shelf_lays156.v9
  t20 := shelf_lays156.t20
  a20 := shelf_lays156.a20
  z20 := shelf_lays156.z20
  v20 := shelf_lays156.v20
  t37 := shelf_lays156.t37
  a37 := shelf_lays156.a37
  z37 := shelf_lays156.z37
  v37 := shelf_lays156.v37
  t70 := shelf_lays156.t70
  a70 := shelf_lays156.a70
  z70 := shelf_lays156.z70
  v70 := shelf_lays156.v70
  t72 := shelf_lays156.t72
  a72 := shelf_lays156.a72
  z72 := shelf_lays156.z72
  v72 := shelf_lays156.v72
  t75 := shelf_lays156.t75
  a75 := shelf_lays156.a75
  z75 := shelf_lays156.z75
  v75 := shelf_lays156.v75
  t164 := shelf_lays156.t164
  a164 := shelf_lays156.a164
  z164 := shelf_lays156.z164
  v164 := shelf_lays156.v164 }
theorem shelf_WriteString (B b : Nat) (bs : List Value) (s : ByteArray) (w : World) (h : Lib.IsBuilder 84 5 B b bs w) (hlen : bs.length + s.size ≤ 140737488355328) (hBw : B ≤ w.heap.size) :
    Calls Tryz.prog 58 #[.pointer (some ⟨b, 0, none⟩), .string s] w fun e w' => e = .returned (.tuple #[.int .i64 s.size, .nilIface]) ∧ (Lib.BuilderAt 84 5 B b (.pointer (some ⟨b, 0, none⟩)) (bs ++ Lib.strCells s) w' ∧ Below B w w') :=
  Go.Proofs.Any.Builder_WriteString shelf_lays166 shelf_Builder_Extra_156 B b bs s w h hlen hBw
structure BuD (b : Nat) (l : List UInt8) (D : Own) : Prop where
  how : (l = [] ∧ D = [(b, fun o => o = Obj.cells #[.pointer none, .slice none 0 0] 84)]) ∨
    ∃ g cap cur, b < g ∧ D = [(b, fun o => o = Obj.cells #[.pointer (some ⟨b, 0, none⟩), .slice (some ⟨g, 0, none⟩) l.length cap] 84), (g, fun o => o = Obj.cells cur 5)] ∧ l.length ≤ cap ∧ cap ≤ maxLen ∧ cur.size = cap ∧ cur.toList.take l.length = Lib.byteCells l
section
variable {W0 : World} {own : Own}
theorem BuD.isB {b : Nat} {l : List UInt8} {D : Own} {w : World} (h : BuD b l D) (hw : St W0 (D ++ own) w) : Lib.IsBuilder 84 5 b b (Lib.byteCells l) w := by
  rcases h.how with ⟨rfl, rfl⟩ | ⟨g, cap, cur, hg, rfl, h1, h2, h3, h4⟩
  · obtain ⟨o, ho, he⟩ := hw.owns (b, _) (List.mem_append_left _ List.mem_cons_self)
    subst he
    exact .inl ⟨Nat.le_refl _, _, ho, ⟨rfl, .inl ⟨rfl, rfl⟩⟩, by simp [Value.ownBlock]⟩
  · obtain ⟨o, ho, he⟩ := hw.owns (b, _) (List.mem_append_left _ List.mem_cons_self)
    subst he
    obtain ⟨o2, ho2, he2⟩ := hw.owns (g, _) (List.mem_append_left _ (List.mem_cons_of_mem _ List.mem_cons_self))
    subst he2
    refine .inr ⟨Nat.le_refl _, _, ho, ⟨by simp, .inr ⟨g, cap, cur, by rw [Lib.byteCells_length], Nat.le_of_lt hg, ho2, by rw [Lib.byteCells_length]; exact h1, h2, by omega, by rw [Lib.byteCells_length, Nat.mul_one]; exact h4⟩⟩, ?_⟩
    simp only [Value.ownBlock, ne_eq, Option.some.injEq]
    omega
theorem BuD.mem {b : Nat} {l : List UInt8} {D : Own} (h : BuD b l D) : ∃ p, (b, p) ∈ D := by
  rcases h.how with ⟨_, rfl⟩ | ⟨g, cap, cur, _, rfl, _⟩
  · exact ⟨_, List.mem_cons_self⟩
  · exact ⟨_, List.mem_cons_self⟩
theorem BuD.after {b : Nat} {l : List UInt8} {D : Own} {w w' : World} {l2 : List UInt8} (h : BuD b l D) (hw : St W0 (D ++ own) w) (hlt : ∀ e ∈ own, e.1 < b) (hb : Below b w w') (hne : l2 ≠ [])
    (ha : Lib.BuilderAt 84 5 b b (.pointer (some ⟨b, 0, none⟩)) (Lib.byteCells l2) w') : ∃ D', BuD b l2 D' ∧ St W0 (D' ++ own) w' := by
  obtain ⟨p, hp⟩ := h.mem
  have hfb : W0.heap.size ≤ b := hw.fresh _ (List.mem_append_left _ hp)
  have hw0 : St W0 own w := Ent.of_sub (List.sublist_append_right D own) w hw
  obtain ⟨_, v, h1, ⟨_, h2⟩, h3⟩ := ha
  have hl2 : 0 < l2.length := by
    cases l2 with
    | nil => exact absurd rfl hne
    | cons a r => simp
  rcases h2 with ⟨_, h4⟩ | ⟨g, cap, cur, rfl, hbg, hg, hn, hc, hs, ht⟩
  · rw [Lib.byteCells_length] at h4; omega
  · rw [Lib.byteCells_length] at *
    have hgb : b < g := by
      simp only [Value.ownBlock, ne_eq, Option.some.injEq] at h3
      omega
    refine ⟨_, ⟨.inr ⟨g, cap, cur, hgb, rfl, hn, hc, by omega, by rw [Nat.mul_one] at ht; exact ht⟩⟩, ?_⟩
    refine ⟨hb.os.trans hw0.os, hb.tape.trans hw0.tape, hb.output.trans hw0.output, Nat.le_trans hw0.size hb.size, fun k hk => (hb.block k (Nat.lt_of_lt_of_le hk hfb)).trans (hw0.base k hk), fun e he => ?_, fun e he => ?_, ?_⟩
    · rcases List.mem_cons.1 he with rfl | he
      · exact hfb
      · rcases List.mem_cons.1 he with rfl | he
        · exact Nat.le_trans hfb (Nat.le_of_lt hgb)
        · exact hw0.fresh e he
    · rcases List.mem_cons.1 he with rfl | he
      · exact ⟨_, h1, rfl⟩
      · rcases List.mem_cons.1 he with rfl | he
        · exact ⟨_, hg, rfl⟩
        · obtain ⟨o, ho, hpo⟩ := hw0.owns e he
          exact ⟨o, (hb.block _ (hlt e he)).trans ho, hpo⟩
    · show (b :: g :: own.map (·.1)).Nodup
      rw [List.nodup_cons, List.nodup_cons]
      refine ⟨fun hm => ?_, fun hm => ?_, hw0.nodup⟩
      · rcases List.mem_cons.1 hm with hm | hm
        · omega
        · obtain ⟨e, he, hq⟩ := List.mem_map.1 hm
          have := hlt e he
          omega
      · obtain ⟨e, he, hq⟩ := List.mem_map.1 hm
        have := hlt e he
        omega
theorem strCells_app (l : List UInt8) (s : ByteArray) : Lib.byteCells l ++ Lib.strCells s = Lib.byteCells (l ++ s.data.toList) := by
  simp [Lib.byteCells, Lib.strCells]
theorem call_ws {b : Nat} {l : List UInt8} {D own0 : Own} {k : FuncId} {args : List Value} {s : ByteArray} {K : Value → Own → Prop} (hD : BuD b l D) (hlt : ∀ e ∈ own0, e.1 < b) (hE : Ent W0 own (D ++ own0)) (hs : s.size ≠ 0) (hlen : l.length + s.size ≤ 140737488355328)
    (ek : k = 58) (ea : args = [.pointer (some ⟨b, 0, none⟩), .string s]) (hk : ∀ D', BuD b (l ++ s.data.toList) D' → K (.tuple #[.int .i64 s.size, .nilIface]) (D' ++ own0)) : CallT Tryz.prog W0 own k args K := by
  subst ek; subst ea
  refine ⟨fun w hw => ?_⟩
  have hw' := hE w hw
  obtain ⟨p, hp⟩ := hD.mem
  have hbw : b ≤ w.heap.size := Nat.le_of_lt (hw'.mem_size (List.mem_append_left _ hp))
  refine (shelf_WriteString b b _ s w (hD.isB hw') (by rw [Lib.byteCells_length]; exact hlen) hbw).mono ?_
  rintro e w2 ⟨rfl, h1, h2⟩
  rw [strCells_app] at h1
  obtain ⟨D', hD', hS⟩ := hD.after hw' hlt h2 (fun e => hs (by
    have h3 := (List.append_eq_nil_iff.1 e).2
    have h4 : s.data.toList.length = s.size := by simp
    rw [h3] at h4
    exact h4.symm)) h1
  exact ⟨_, _, rfl, hS, hk D' hD'⟩
theorem call_bs {b : Nat} {l : List UInt8} {D own0 : Own} {k : FuncId} {args : List Value} {K : Value → Own → Prop} (hD : BuD b l D) (hlt : ∀ e ∈ own0, e.1 < b) (hE : Ent W0 own (D ++ own0))
    (ek : k = 61) (ea : args = [.pointer (some ⟨b, 0, none⟩)]) (hk : K (.string (bW l)) own0) : CallT Tryz.prog W0 own k args K := by
  subst ek; subst ea
  refine ⟨fun w hw => ?_⟩
  have hw' := hE w hw
  obtain ⟨p, hp⟩ := hD.mem
  have hbw : b ≤ w.heap.size := Nat.le_of_lt (hw'.mem_size (List.mem_append_left _ hp))
  have hfb : W0.heap.size ≤ b := hw'.fresh _ (List.mem_append_left _ hp)
  have hw0 : St W0 own0 w := Ent.of_sub (List.sublist_append_right D own0) w hw'
  refine (shelf_Builder_String_any b b l w (hD.isB hw') hbw).mono ?_
  rintro e w2 ⟨rfl, hb⟩
  refine ⟨_, _, rfl, ⟨hb.os.trans hw0.os, hb.tape.trans hw0.tape, hb.output.trans hw0.output, Nat.le_trans hw0.size hb.size, fun k hk => (hb.block k (Nat.lt_of_lt_of_le hk hfb)).trans (hw0.base k hk), hw0.fresh, fun e he => ?_, hw0.nodup⟩, hk⟩
  obtain ⟨o, ho, hpo⟩ := hw0.owns e he
  exact ⟨o, (hb.block _ (hlt e he)).trans ho, hpo⟩
end
end Go.Proofs.YtiimndcifcoofaaGreatDoor
