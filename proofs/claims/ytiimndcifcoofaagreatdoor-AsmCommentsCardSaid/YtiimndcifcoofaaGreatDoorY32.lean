/- What the laws share, part 32. No condition. -/
import Derived.Test.YtiimndcifcoofaaGreatDoorY31
namespace Go.Proofs.YtiimndcifcoofaaGreatDoor
open Go Go.RowKit
set_option maxRecDepth 10000
set_option maxHeartbeats 4000000
def AsO (ab mb : Nat) (σ : AS) (ca : Option Addr) (cc : Nat) (ja : Option Addr) (jc : Nat) (D : Own) : Own :=
  (ab, fun o => o = Obj.cells #[.slice ca σ.p.length cc, .map (some mb), .slice ja (jmps σ.tg 0).length jc] 71) :: (mb, mapO (lbV σ.lb)) :: D
structure AsB (ab mb : Nat) (σ : AS) (r O : Own) : Prop where
  how : ∃ ca cc ja jc D1 D2, BufE Ins.enc 23 5 ca cc σ.p D1 ∧ BufE Jmp.enc 74 3 ja jc (jmps σ.tg 0) D2 ∧ O = AsO ab mb σ ca cc ja jc (D1 ++ (D2 ++ r))
theorem jmps_le : ∀ (l : List (ByteArray × Int)) (k : Nat), (jmps l k).length ≤ l.length
  | [], _ => Nat.le_refl _
  | t :: l, k => by
    have := jmps_le l (k + 1)
    simp only [jmps]
    split
    · simp; omega
    · simp; omega
theorem cut_len (l : List UInt8) : (cutL l).length ≤ l.length := (List.takeWhile_sublist _).length_le
theorem trim_len (l : List UInt8) : (Go.Lib.trimB l 32).length ≤ l.length := by
  unfold Go.Lib.trimB Go.Lib.trimLeftB Go.Lib.trimRightB
  have h1 := (List.dropWhile_sublist (· == (32 : UInt8)) (l := (l.reverse.dropWhile (· == (32 : UInt8))).reverse)).length_le
  have h2 := (List.dropWhile_sublist (· == (32 : UInt8)) (l := l.reverse)).length_le
  rw [List.length_reverse] at h1 h2
  omega
theorem bare_size (s : ByteArray) : (bareS s).size ≤ s.size := by
  have h1 := cut_len s.data.toList
  have h2 : s.data.toList.length = s.size := by simp
  rw [bareS, bW_size]
  omega
theorem noB_name {n : ByteArray} (h : nameB n = true) : ¬ n.toList = noB.toList := fun e => by
  have := ba_toList e
  rw [this] at h
  revert h
  decide
section
variable {W0 : World} {r : Own}
theorem sp_read (hA : AsmAt W0) {ab mb : Nat} {σ : AS} {O : Own} (hB : AsB ab mb σ r O) (hV : Inv σ) (s : ByteArray) (hs : s.size ≤ 65536) (ln : Int) :
    Spec Tryz.prog W0 50 [.pointer (some ⟨ab, 0, none⟩), .string s, .int .i64 ln] O fun v own' => ∃ O', v = .int .i64 (stepS σ s ln).1 ∧ AsB ab mb (stepS σ s ln).2 r O' ∧ Ent W0 own' O' := by
  refine spec_of mixed low_asm_assembler_read (by simp [ir_asm_assembler_read]) ?_
  obtain ⟨ca, cc, ja, jc, D1, D2, hb1, hb2, rfl⟩ := hB
  have hmax := hV.max
  have hjl := jmps_le σ.tg 0
  have hlen := hV.len
  have hcut := fun own => sp_cut (own := own) hA.mx s (by omega)
  have hbs := bare_size s
  have hbd : (bareS s).data.toList = cutL s.data.toList := bW_data _
  have htr := fun own => sp_trim (W0 := W0) (own := own) (bareS s) (by omega)
  rw [hbd] at htr
  have hts : (bW (Go.Lib.trimB (cutL s.data.toList) 32)).size ≤ s.size := by
    have h1 := cut_len s.data.toList
    have h2 : s.data.toList.length = s.size := by simp
    have h3 := trim_len (cutL s.data.toList)
    rw [bW_size]
    omega
  have hwt := words_trim (cutL s.data.toList)
  have hnil := trim_nil (cutL s.data.toList)
  have hlb := lbl_eq (cutL s.data.toList)
  rw [show bW (cutL s.data.toList) = bareS s from rfl] at hwt hnil hlb
  have htd : (bW (Go.Lib.trimB (cutL s.data.toList) 32)).data.toList = Go.Lib.trimB (cutL s.data.toList) 32 := bW_data _
  generalize Go.Lib.trimB (cutL s.data.toList) 32 = tl at *
  have hcs := fun own => sp_cutsuf (W0 := W0) (own := own) (bW tl) (by omega)
  have hj := fun own => sp_toLabel (own := own) hA (bW tl) (by omega)
  have hp := fun own => sp_parse (own := own) hA.isa.lib hA.isa.forms hA.isa.names (bareS s)
  rw [hwt] at hj
  unfold AsO at *
  unfold stepS
  generalize bareS s = c at *
  by_cases h0 : wordsM c = []
  · rw [if_pos h0]
    have ht : (bW tl).toList = (⟨#[]⟩ : ByteArray).toList := by rw [hnil.2 h0]; rfl
    repeat' ((try (conv => whnf)); first | (refine when_ye ?_ ?_; exact rfl) | (refine when_ne ?_ ?_; exact rfl) | (refine br_te ?_ ?_; exact rfl) | (refine br_fe ?_ ?_; exact rfl) | (apply br_pyE; (exact rfl); omega) | (apply br_pnE; (exact rfl); omega) | (apply when_pyE; (exact rfl); omega) | (apply when_pnE; (exact rfl); omega) | (apply br_npyE; (exact rfl); omega) | (apply br_npnE; (exact rfl); omega) | (apply when_npyE; (exact rfl); omega) | (apply when_npnE; (exact rfl); omega) | (refine br_pyE ?_ ht ?_; exact rfl) | (refine br_pnE ?_ ht ?_; exact rfl) | (refine when_pyE ?_ ht ?_; exact rfl) | (refine when_pnE ?_ ht ?_; exact rfl) | (refine br_npyE ?_ ht ?_; exact rfl) | (refine br_npnE ?_ ht ?_; exact rfl) | (refine when_npyE ?_ ht ?_; exact rfl) | (refine when_npnE ?_ ht ?_; exact rfl) | ((with_reducible show CallT _ _ _ _ _ _); first | ((refine call_pe (hcut _) ?_ ?_ ?_; (exact rfl); exact rfl)) | ((refine call_pe (htr _) ?_ ?_ ?_; (exact rfl); exact rfl))) | (refine ari ?_ ?_; omega) | (refine aru ?_ ?_; omega) | (apply sel; exact rfl) | (refine ix0 rfl ?_) | (refine ix1 rfl ?_) | (refine ix2 rfl ?_) | (refine ix3 rfl ?_) | (apply ixj; omega) | (refine ixn ?_ ?_; omega) | (refine ixs0 rfl ?_) | (refine ixs1 rfl ?_) | (refine ixs_j ?_ ?_; omega) | (refine ixs_n ?_ ?_; omega) | (apply ld_o; exact rfl) | (apply ldN_a; exact rfl) | (apply ldN_o; (exact rfl); exact rfl) | (apply st_o; (exact rfl); exact rfl) | (apply stN_o; (exact rfl); (exact rfl); exact rfl) | (refine new_i (fun bk hbk => ?_)) | (apply when_dE; (exact rfl); (exact rfl); all_goals intro hc) | (apply when_dF; (exact rfl); (exact rfl); all_goals intro hc) | (apply when_nE; (exact rfl); (exact rfl); all_goals intro hc) | (apply when_nF; (exact rfl); (exact rfl); all_goals intro hc) | (apply br_dE; (exact rfl); all_goals intro hc) | (apply br_nE; (exact rfl); all_goals intro hc) | (refine mm_min ?_) | (refine mm_max ?_) | (refine rem_i ?_ ?_; omega) | (refine SelN.mk ?_) | (refine cut_n ?_) | (refine Both.mk ?_ ?_) | (exact True.intro))
    exact ⟨_, rfl, ⟨ca, cc, ja, jc, D1, D2, hb1, hb2, rfl⟩, (by first | exact ent_i | (repeat (first | exact Ent.refl | exact Ent.left | refine Ent.cons ?_ | refine Ent.app ?_)))⟩
  · rw [if_neg h0]
    have ht : ¬ (bW tl).toList = (⟨#[]⟩ : ByteArray).toList := fun e => h0 (hnil.1 (by
      have := congrArg (fun x : ByteArray => x.data.toList) (ba_toList e)
      simpa [bW] using this))
    cases hl : lblM (wordsM c) with
    | some n =>
      rw [hl] at hlb
      have hn : nameB n = true ∧ cutC (bW tl) = (n, true) := by
        unfold lblP at hlb
        split at hlb
        · rename_i hc
          have := Option.some.inj hlb
          refine ⟨by rw [← this]; exact hc.2, ?_⟩
          unfold cutC
          rw [bW_data, if_pos hc.1, this]
        · cases hlb
      obtain ⟨hn1, hn2⟩ := hn
      rw [hn2] at hcs
      have hsn := (name_ok hn1).2.1
      have hna := fun own => sp_isName (W0 := W0) (own := own) n (by omega)
      rw [hn1] at hna
      have hfl := find_lb n σ.lb
      have hup := upd_lb n σ.p.length σ.lb
      simp only
      unfold lblS
      cases ha : alook n σ.lb with
      | some v =>
        rw [ha] at hfl
        rw [if_pos (show (some v).isSome = true from rfl)]
        repeat' ((try (conv => whnf)); first | (refine when_ye ?_ ?_; exact rfl) | (refine when_ne ?_ ?_; exact rfl) | (refine br_te ?_ ?_; exact rfl) | (refine br_fe ?_ ?_; exact rfl) | (apply br_pyE; (exact rfl); omega) | (apply br_pnE; (exact rfl); omega) | (apply when_pyE; (exact rfl); omega) | (apply when_pnE; (exact rfl); omega) | (apply br_npyE; (exact rfl); omega) | (apply br_npnE; (exact rfl); omega) | (apply when_npyE; (exact rfl); omega) | (apply when_npnE; (exact rfl); omega) | (refine br_pyE ?_ ht ?_; exact rfl) | (refine br_pnE ?_ ht ?_; exact rfl) | (refine when_pyE ?_ ht ?_; exact rfl) | (refine when_pnE ?_ ht ?_; exact rfl) | (refine br_npyE ?_ ht ?_; exact rfl) | (refine br_npnE ?_ ht ?_; exact rfl) | (refine when_npyE ?_ ht ?_; exact rfl) | (refine when_npnE ?_ ht ?_; exact rfl) | (refine mlk_i hfl ?_) | ((with_reducible show CallT _ _ _ _ _ _); first | ((refine call_pe (hcut _) ?_ ?_ ?_; (exact rfl); exact rfl)) | ((refine call_pe (htr _) ?_ ?_ ?_; (exact rfl); exact rfl)) | ((refine call_pe (hcs _) ?_ ?_ ?_; (exact rfl); exact rfl)) | ((refine call_pe (hna _) ?_ ?_ ?_; (exact rfl); exact rfl))) | (refine ari ?_ ?_; omega) | (refine aru ?_ ?_; omega) | (apply sel; exact rfl) | (refine ix0 rfl ?_) | (refine ix1 rfl ?_) | (refine ix2 rfl ?_) | (refine ix3 rfl ?_) | (apply ixj; omega) | (refine ixn ?_ ?_; omega) | (refine ixs0 rfl ?_) | (refine ixs1 rfl ?_) | (refine ixs_j ?_ ?_; omega) | (refine ixs_n ?_ ?_; omega) | (apply ld_o; exact rfl) | (apply ldN_a; exact rfl) | (apply ldN_o; (exact rfl); exact rfl) | (apply st_o; (exact rfl); exact rfl) | (apply stN_o; (exact rfl); (exact rfl); exact rfl) | (refine new_i (fun bk hbk => ?_)) | (apply when_dE; (exact rfl); (exact rfl); all_goals intro hc) | (apply when_dF; (exact rfl); (exact rfl); all_goals intro hc) | (apply when_nE; (exact rfl); (exact rfl); all_goals intro hc) | (apply when_nF; (exact rfl); (exact rfl); all_goals intro hc) | (apply br_dE; (exact rfl); all_goals intro hc) | (apply br_nE; (exact rfl); all_goals intro hc) | (refine mm_min ?_) | (refine mm_max ?_) | (refine rem_i ?_ ?_; omega) | (refine SelN.mk ?_) | (refine cut_n ?_) | (refine Both.mk ?_ ?_) | (exact True.intro))
        exact ⟨_, rfl, ⟨ca, cc, ja, jc, D1, D2, hb1, hb2, rfl⟩, (by first | exact ent_i | (repeat (first | exact Ent.refl | exact Ent.left | refine Ent.cons ?_ | refine Ent.app ?_)))⟩
      | none =>
        rw [ha] at hfl
        rw [if_neg (by simp)]
        have hup := hup ha
        have hfs : (findM 2 (.string n) (lbV σ.lb)).isSome = true := by rw [hfl]; rfl
        repeat' ((try (conv => whnf)); first | (refine when_ye ?_ ?_; exact rfl) | (refine when_ne ?_ ?_; exact rfl) | (refine br_te ?_ ?_; exact rfl) | (refine br_fe ?_ ?_; exact rfl) | (apply br_pyE; (exact rfl); omega) | (apply br_pnE; (exact rfl); omega) | (apply when_pyE; (exact rfl); omega) | (apply when_pnE; (exact rfl); omega) | (apply br_npyE; (exact rfl); omega) | (apply br_npnE; (exact rfl); omega) | (apply when_npyE; (exact rfl); omega) | (apply when_npnE; (exact rfl); omega) | (refine br_pyE ?_ ht ?_; exact rfl) | (refine br_pnE ?_ ht ?_; exact rfl) | (refine when_pyE ?_ ht ?_; exact rfl) | (refine when_pnE ?_ ht ?_; exact rfl) | (refine br_npyE ?_ ht ?_; exact rfl) | (refine br_npnE ?_ ht ?_; exact rfl) | (refine when_npyE ?_ ht ?_; exact rfl) | (refine when_npnE ?_ ht ?_; exact rfl) | (refine mlk_i hfl ?_) | (refine mup_i hfs hup ?_) | ((with_reducible show CallT _ _ _ _ _ _); first | ((refine call_pe (hcut _) ?_ ?_ ?_; (exact rfl); exact rfl)) | ((refine call_pe (htr _) ?_ ?_ ?_; (exact rfl); exact rfl)) | ((refine call_pe (hcs _) ?_ ?_ ?_; (exact rfl); exact rfl)) | ((refine call_pe (hna _) ?_ ?_ ?_; (exact rfl); exact rfl))) | (refine ari ?_ ?_; omega) | (refine aru ?_ ?_; omega) | (apply sel; exact rfl) | (refine ix0 rfl ?_) | (refine ix1 rfl ?_) | (refine ix2 rfl ?_) | (refine ix3 rfl ?_) | (apply ixj; omega) | (refine ixn ?_ ?_; omega) | (refine ixs0 rfl ?_) | (refine ixs1 rfl ?_) | (refine ixs_j ?_ ?_; omega) | (refine ixs_n ?_ ?_; omega) | (apply ld_o; exact rfl) | (apply ldN_a; exact rfl) | (apply ldN_o; (exact rfl); exact rfl) | (apply st_o; (exact rfl); exact rfl) | (apply stN_o; (exact rfl); (exact rfl); exact rfl) | (refine new_i (fun bk hbk => ?_)) | (apply when_dE; (exact rfl); (exact rfl); all_goals intro hc) | (apply when_dF; (exact rfl); (exact rfl); all_goals intro hc) | (apply when_nE; (exact rfl); (exact rfl); all_goals intro hc) | (apply when_nF; (exact rfl); (exact rfl); all_goals intro hc) | (apply br_dE; (exact rfl); all_goals intro hc) | (apply br_nE; (exact rfl); all_goals intro hc) | (refine mm_min ?_) | (refine mm_max ?_) | (refine rem_i ?_ ?_; omega) | (refine SelN.mk ?_) | (refine cut_n ?_) | (refine Both.mk ?_ ?_) | (exact True.intro))
        exact ⟨_, rfl, ⟨ca, cc, ja, jc, D1, D2, hb1, hb2, rfl⟩, (by first | exact ent_i | (repeat (first | exact Ent.refl | exact Ent.left | refine Ent.cons ?_ | refine Ent.app ?_)))⟩
    | none =>
      rw [hl] at hlb
      simp only
      have hcq : ∃ x b, cutC (bW tl) = (x, b) ∧ (b = true → nameB x = false) ∧ x.size ≤ 65536 := by
        by_cases hc : tl.getLast? = some 58
        · refine ⟨bW tl.dropLast, true, by unfold cutC; rw [bW_data, if_pos hc], fun _ => ?_, ?_⟩
          · unfold lblP at hlb
            cases hq : nameB (bW tl.dropLast) with
            | false => rfl
            | true => rw [if_pos ⟨hc, hq⟩] at hlb; cases hlb
          · have h5 := List.length_dropLast (xs := tl)
            rw [bW_size] at hts ⊢
            omega
        · exact ⟨bW tl, false, by unfold cutC; rw [bW_data, if_neg hc], fun h => (by cases h), by omega⟩
      obtain ⟨x, b, hc1, hc2, hc3⟩ := hcq
      rw [hc1] at hcs
      have hna := fun own => sp_isName (W0 := W0) (own := own) x (by omega)
      unfold jmpS
      cases hjm : jmpM (wordsM c) with
      | some y =>
        obtain ⟨i, n⟩ := y
        have hn := (jmp_parse hjm).2.1
        have hnn := noB_name hn
        have htl : tlM (wordsM c) = (i, n, true) := by unfold tlM; rw [hjm]
        rw [htl] at hj
        simp only
        unfold pushS
        have hja := jmps_app σ.tg (n, ln) 0
        rw [if_neg hnn, Nat.zero_add] at hja
        obtain ⟨io, ia, ib, ic, im⟩ := i
        by_cases h64 : σ.p.length = 64
        · rw [if_pos h64]
          have h64' : (σ.p.length : Int) = 64 := by omega
          cases b with
          | false =>
            repeat' ((try (conv => whnf)); first | (refine when_ye ?_ ?_; exact rfl) | (refine when_ne ?_ ?_; exact rfl) | (refine br_te ?_ ?_; exact rfl) | (refine br_fe ?_ ?_; exact rfl) | (apply br_pyE; (exact rfl); omega) | (apply br_pnE; (exact rfl); omega) | (apply when_pyE; (exact rfl); omega) | (apply when_pnE; (exact rfl); omega) | (apply br_npyE; (exact rfl); omega) | (apply br_npnE; (exact rfl); omega) | (apply when_npyE; (exact rfl); omega) | (apply when_npnE; (exact rfl); omega) | (refine br_pyE ?_ ht ?_; exact rfl) | (refine br_pnE ?_ ht ?_; exact rfl) | (refine when_pyE ?_ ht ?_; exact rfl) | (refine when_pnE ?_ ht ?_; exact rfl) | (refine br_npyE ?_ ht ?_; exact rfl) | (refine br_npnE ?_ ht ?_; exact rfl) | (refine when_npyE ?_ ht ?_; exact rfl) | (refine when_npnE ?_ ht ?_; exact rfl) | ((with_reducible show CallT _ _ _ _ _ _); first | ((refine call_pe (hcut _) ?_ ?_ ?_; (exact rfl); exact rfl)) | ((refine call_pe (htr _) ?_ ?_ ?_; (exact rfl); exact rfl)) | ((refine call_pe (hcs _) ?_ ?_ ?_; (exact rfl); exact rfl)) | ((refine call_pe (hj _) ?_ ?_ ?_; (exact rfl); exact rfl))) | (refine ari ?_ ?_; omega) | (refine aru ?_ ?_; omega) | (apply sel; exact rfl) | (refine ix0 rfl ?_) | (refine ix1 rfl ?_) | (refine ix2 rfl ?_) | (refine ix3 rfl ?_) | (apply ixj; omega) | (refine ixn ?_ ?_; omega) | (refine ixs0 rfl ?_) | (refine ixs1 rfl ?_) | (refine ixs_j ?_ ?_; omega) | (refine ixs_n ?_ ?_; omega) | (apply ld_o; exact rfl) | (apply ldN_a; exact rfl) | (apply ldN_o; (exact rfl); exact rfl) | (apply st_o; (exact rfl); exact rfl) | (apply stN_o; (exact rfl); (exact rfl); exact rfl) | (refine new_i (fun bk hbk => ?_)) | (apply when_dE; (exact rfl); (exact rfl); all_goals intro hc) | (apply when_dF; (exact rfl); (exact rfl); all_goals intro hc) | (apply when_nE; (exact rfl); (exact rfl); all_goals intro hc) | (apply when_nF; (exact rfl); (exact rfl); all_goals intro hc) | (apply br_dE; (exact rfl); all_goals intro hc) | (apply br_nE; (exact rfl); all_goals intro hc) | (refine mm_min ?_) | (refine mm_max ?_) | (refine rem_i ?_ ?_; omega) | (refine SelN.mk ?_) | (refine cut_n ?_) | (refine Both.mk ?_ ?_) | (exact True.intro))
            exact ⟨_, rfl, ⟨ca, cc, ja, jc, D1, D2, hb1, hb2, rfl⟩, (by first | exact ent_i | (repeat (first | exact Ent.refl | exact Ent.left | refine Ent.cons ?_ | refine Ent.app ?_)))⟩
          | true =>
            rw [hc2 rfl] at hna
            repeat' ((try (conv => whnf)); first | (refine when_ye ?_ ?_; exact rfl) | (refine when_ne ?_ ?_; exact rfl) | (refine br_te ?_ ?_; exact rfl) | (refine br_fe ?_ ?_; exact rfl) | (apply br_pyE; (exact rfl); omega) | (apply br_pnE; (exact rfl); omega) | (apply when_pyE; (exact rfl); omega) | (apply when_pnE; (exact rfl); omega) | (apply br_npyE; (exact rfl); omega) | (apply br_npnE; (exact rfl); omega) | (apply when_npyE; (exact rfl); omega) | (apply when_npnE; (exact rfl); omega) | (refine br_pyE ?_ ht ?_; exact rfl) | (refine br_pnE ?_ ht ?_; exact rfl) | (refine when_pyE ?_ ht ?_; exact rfl) | (refine when_pnE ?_ ht ?_; exact rfl) | (refine br_npyE ?_ ht ?_; exact rfl) | (refine br_npnE ?_ ht ?_; exact rfl) | (refine when_npyE ?_ ht ?_; exact rfl) | (refine when_npnE ?_ ht ?_; exact rfl) | ((with_reducible show CallT _ _ _ _ _ _); first | ((refine call_pe (hcut _) ?_ ?_ ?_; (exact rfl); exact rfl)) | ((refine call_pe (htr _) ?_ ?_ ?_; (exact rfl); exact rfl)) | ((refine call_pe (hcs _) ?_ ?_ ?_; (exact rfl); exact rfl)) | ((refine call_pe (hna _) ?_ ?_ ?_; (exact rfl); exact rfl)) | ((refine call_pe (hj _) ?_ ?_ ?_; (exact rfl); exact rfl))) | (refine ari ?_ ?_; omega) | (refine aru ?_ ?_; omega) | (apply sel; exact rfl) | (refine ix0 rfl ?_) | (refine ix1 rfl ?_) | (refine ix2 rfl ?_) | (refine ix3 rfl ?_) | (apply ixj; omega) | (refine ixn ?_ ?_; omega) | (refine ixs0 rfl ?_) | (refine ixs1 rfl ?_) | (refine ixs_j ?_ ?_; omega) | (refine ixs_n ?_ ?_; omega) | (apply ld_o; exact rfl) | (apply ldN_a; exact rfl) | (apply ldN_o; (exact rfl); exact rfl) | (apply st_o; (exact rfl); exact rfl) | (apply stN_o; (exact rfl); (exact rfl); exact rfl) | (refine new_i (fun bk hbk => ?_)) | (apply when_dE; (exact rfl); (exact rfl); all_goals intro hc) | (apply when_dF; (exact rfl); (exact rfl); all_goals intro hc) | (apply when_nE; (exact rfl); (exact rfl); all_goals intro hc) | (apply when_nF; (exact rfl); (exact rfl); all_goals intro hc) | (apply br_dE; (exact rfl); all_goals intro hc) | (apply br_nE; (exact rfl); all_goals intro hc) | (refine mm_min ?_) | (refine mm_max ?_) | (refine rem_i ?_ ?_; omega) | (refine SelN.mk ?_) | (refine cut_n ?_) | (refine Both.mk ?_ ?_) | (exact True.intro))
            exact ⟨_, rfl, ⟨ca, cc, ja, jc, D1, D2, hb1, hb2, rfl⟩, (by first | exact ent_i | (repeat (first | exact Ent.refl | exact Ent.left | refine Ent.cons ?_ | refine Ent.app ?_)))⟩
        · rw [if_neg h64]
          have h64' : ¬ (σ.p.length : Int) = 64 := by omega
          cases b with
          | false =>
            repeat' ((try (conv => whnf)); first | (refine when_ye ?_ ?_; exact rfl) | (refine when_ne ?_ ?_; exact rfl) | (refine br_te ?_ ?_; exact rfl) | (refine br_fe ?_ ?_; exact rfl) | (apply br_pyE; (exact rfl); omega) | (apply br_pnE; (exact rfl); omega) | (apply when_pyE; (exact rfl); omega) | (apply when_pnE; (exact rfl); omega) | (apply br_npyE; (exact rfl); omega) | (apply br_npnE; (exact rfl); omega) | (apply when_npyE; (exact rfl); omega) | (apply when_npnE; (exact rfl); omega) | (refine br_pyE ?_ ht ?_; exact rfl) | (refine br_pnE ?_ ht ?_; exact rfl) | (refine when_pyE ?_ ht ?_; exact rfl) | (refine when_pnE ?_ ht ?_; exact rfl) | (refine br_npyE ?_ ht ?_; exact rfl) | (refine br_npnE ?_ ht ?_; exact rfl) | (refine when_npyE ?_ ht ?_; exact rfl) | (refine when_npnE ?_ ht ?_; exact rfl) | (apply app_i (enc := Jmp.enc) (⟨σ.p.length, ln, n⟩ : Jmp) hb2; (exact rfl); (exact rfl); (omega); (exact rfl); (exact rfl); (omega); intro a2 c2 E2 he2) | (apply app_i (enc := Ins.enc) (⟨io, ia, ib, ic, im⟩ : Ins) hb1; (exact rfl); (exact rfl); (omega); (exact rfl); (exact rfl); (omega); intro a1 c1 E1 he1) | ((with_reducible show CallT _ _ _ _ _ _); first | ((refine call_pe (hcut _) ?_ ?_ ?_; (exact rfl); exact rfl)) | ((refine call_pe (htr _) ?_ ?_ ?_; (exact rfl); exact rfl)) | ((refine call_pe (hcs _) ?_ ?_ ?_; (exact rfl); exact rfl)) | ((refine call_pe (hj _) ?_ ?_ ?_; (exact rfl); exact rfl))) | (refine ari ?_ ?_; omega) | (refine aru ?_ ?_; omega) | (apply sel; exact rfl) | (refine ix0 rfl ?_) | (refine ix1 rfl ?_) | (refine ix2 rfl ?_) | (refine ix3 rfl ?_) | (apply ixj; omega) | (refine ixn ?_ ?_; omega) | (refine ixs0 rfl ?_) | (refine ixs1 rfl ?_) | (refine ixs_j ?_ ?_; omega) | (refine ixs_n ?_ ?_; omega) | (apply ld_o; exact rfl) | (apply ldN_a; exact rfl) | (apply ldN_o; (exact rfl); exact rfl) | (apply st_o; (exact rfl); exact rfl) | (apply stN_o; (exact rfl); (exact rfl); exact rfl) | (refine new_i (fun bk hbk => ?_)) | (apply when_dE; (exact rfl); (exact rfl); all_goals intro hc) | (apply when_dF; (exact rfl); (exact rfl); all_goals intro hc) | (apply when_nE; (exact rfl); (exact rfl); all_goals intro hc) | (apply when_nF; (exact rfl); (exact rfl); all_goals intro hc) | (apply br_dE; (exact rfl); all_goals intro hc) | (apply br_nE; (exact rfl); all_goals intro hc) | (refine mm_min ?_) | (refine mm_max ?_) | (refine rem_i ?_ ?_; omega) | (refine SelN.mk ?_) | (refine cut_n ?_) | (refine Both.mk ?_ ?_) | (exact True.intro))
            refine ⟨_, rfl, ⟨a1, c1, a2, c2, E1, E2, he1, by dsimp only; rw [hja, ← hlen]; exact he2, rfl⟩, ?_⟩
            unfold AsO
            dsimp only
            rw [hja, List.length_append, List.length_append]
            exact (by first | exact ent_i | (repeat (first | exact Ent.refl | exact Ent.left | refine Ent.cons ?_ | refine Ent.app ?_)))
          | true =>
            rw [hc2 rfl] at hna
            repeat' ((try (conv => whnf)); first | (refine when_ye ?_ ?_; exact rfl) | (refine when_ne ?_ ?_; exact rfl) | (refine br_te ?_ ?_; exact rfl) | (refine br_fe ?_ ?_; exact rfl) | (apply br_pyE; (exact rfl); omega) | (apply br_pnE; (exact rfl); omega) | (apply when_pyE; (exact rfl); omega) | (apply when_pnE; (exact rfl); omega) | (apply br_npyE; (exact rfl); omega) | (apply br_npnE; (exact rfl); omega) | (apply when_npyE; (exact rfl); omega) | (apply when_npnE; (exact rfl); omega) | (refine br_pyE ?_ ht ?_; exact rfl) | (refine br_pnE ?_ ht ?_; exact rfl) | (refine when_pyE ?_ ht ?_; exact rfl) | (refine when_pnE ?_ ht ?_; exact rfl) | (refine br_npyE ?_ ht ?_; exact rfl) | (refine br_npnE ?_ ht ?_; exact rfl) | (refine when_npyE ?_ ht ?_; exact rfl) | (refine when_npnE ?_ ht ?_; exact rfl) | (apply app_i (enc := Jmp.enc) (⟨σ.p.length, ln, n⟩ : Jmp) hb2; (exact rfl); (exact rfl); (omega); (exact rfl); (exact rfl); (omega); intro a2 c2 E2 he2) | (apply app_i (enc := Ins.enc) (⟨io, ia, ib, ic, im⟩ : Ins) hb1; (exact rfl); (exact rfl); (omega); (exact rfl); (exact rfl); (omega); intro a1 c1 E1 he1) | ((with_reducible show CallT _ _ _ _ _ _); first | ((refine call_pe (hcut _) ?_ ?_ ?_; (exact rfl); exact rfl)) | ((refine call_pe (htr _) ?_ ?_ ?_; (exact rfl); exact rfl)) | ((refine call_pe (hcs _) ?_ ?_ ?_; (exact rfl); exact rfl)) | ((refine call_pe (hna _) ?_ ?_ ?_; (exact rfl); exact rfl)) | ((refine call_pe (hj _) ?_ ?_ ?_; (exact rfl); exact rfl))) | (refine ari ?_ ?_; omega) | (refine aru ?_ ?_; omega) | (apply sel; exact rfl) | (refine ix0 rfl ?_) | (refine ix1 rfl ?_) | (refine ix2 rfl ?_) | (refine ix3 rfl ?_) | (apply ixj; omega) | (refine ixn ?_ ?_; omega) | (refine ixs0 rfl ?_) | (refine ixs1 rfl ?_) | (refine ixs_j ?_ ?_; omega) | (refine ixs_n ?_ ?_; omega) | (apply ld_o; exact rfl) | (apply ldN_a; exact rfl) | (apply ldN_o; (exact rfl); exact rfl) | (apply st_o; (exact rfl); exact rfl) | (apply stN_o; (exact rfl); (exact rfl); exact rfl) | (refine new_i (fun bk hbk => ?_)) | (apply when_dE; (exact rfl); (exact rfl); all_goals intro hc) | (apply when_dF; (exact rfl); (exact rfl); all_goals intro hc) | (apply when_nE; (exact rfl); (exact rfl); all_goals intro hc) | (apply when_nF; (exact rfl); (exact rfl); all_goals intro hc) | (apply br_dE; (exact rfl); all_goals intro hc) | (apply br_nE; (exact rfl); all_goals intro hc) | (refine mm_min ?_) | (refine mm_max ?_) | (refine rem_i ?_ ?_; omega) | (refine SelN.mk ?_) | (refine cut_n ?_) | (refine Both.mk ?_ ?_) | (exact True.intro))
            refine ⟨_, rfl, ⟨a1, c1, a2, c2, E1, E2, he1, by dsimp only; rw [hja, ← hlen]; exact he2, rfl⟩, ?_⟩
            unfold AsO
            dsimp only
            rw [hja, List.length_append, List.length_append]
            exact (by first | exact ent_i | (repeat (first | exact Ent.refl | exact Ent.left | refine Ent.cons ?_ | refine Ent.app ?_)))
      | none =>
        have htl : tlM (wordsM c) = (insZ, noB, false) := by unfold tlM; rw [hjm]
        rw [htl] at hj
        simp only
        unfold insS pushS
        have hja := jmps_app σ.tg (noB, ln) 0
        rw [if_pos rfl] at hja
        generalize (parseM c).1 = i at hp
        generalize (parseM c).2 = e at hp
        obtain ⟨io, ia, ib, ic, im⟩ := i
        by_cases he : e = 0
        · rw [if_pos he]
          subst he
          by_cases h64 : σ.p.length = 64
          · rw [if_pos h64]
            have h64' : (σ.p.length : Int) = 64 := by omega
            cases b with
            | false =>
              repeat' ((try (conv => whnf)); first | (refine when_ye ?_ ?_; exact rfl) | (refine when_ne ?_ ?_; exact rfl) | (refine br_te ?_ ?_; exact rfl) | (refine br_fe ?_ ?_; exact rfl) | (apply br_pyE; (exact rfl); omega) | (apply br_pnE; (exact rfl); omega) | (apply when_pyE; (exact rfl); omega) | (apply when_pnE; (exact rfl); omega) | (apply br_npyE; (exact rfl); omega) | (apply br_npnE; (exact rfl); omega) | (apply when_npyE; (exact rfl); omega) | (apply when_npnE; (exact rfl); omega) | (refine br_pyE ?_ ht ?_; exact rfl) | (refine br_pnE ?_ ht ?_; exact rfl) | (refine when_pyE ?_ ht ?_; exact rfl) | (refine when_pnE ?_ ht ?_; exact rfl) | (refine br_npyE ?_ ht ?_; exact rfl) | (refine br_npnE ?_ ht ?_; exact rfl) | (refine when_npyE ?_ ht ?_; exact rfl) | (refine when_npnE ?_ ht ?_; exact rfl) | ((with_reducible show CallT _ _ _ _ _ _); first | ((refine call_pe (hcut _) ?_ ?_ ?_; (exact rfl); exact rfl)) | ((refine call_pe (htr _) ?_ ?_ ?_; (exact rfl); exact rfl)) | ((refine call_pe (hcs _) ?_ ?_ ?_; (exact rfl); exact rfl)) | ((refine call_pe (hj _) ?_ ?_ ?_; (exact rfl); exact rfl)) | ((refine call_pe (hp _) ?_ ?_ ?_; (exact rfl); exact rfl))) | (refine ari ?_ ?_; omega) | (refine aru ?_ ?_; omega) | (apply sel; exact rfl) | (refine ix0 rfl ?_) | (refine ix1 rfl ?_) | (refine ix2 rfl ?_) | (refine ix3 rfl ?_) | (apply ixj; omega) | (refine ixn ?_ ?_; omega) | (refine ixs0 rfl ?_) | (refine ixs1 rfl ?_) | (refine ixs_j ?_ ?_; omega) | (refine ixs_n ?_ ?_; omega) | (apply ld_o; exact rfl) | (apply ldN_a; exact rfl) | (apply ldN_o; (exact rfl); exact rfl) | (apply st_o; (exact rfl); exact rfl) | (apply stN_o; (exact rfl); (exact rfl); exact rfl) | (refine new_i (fun bk hbk => ?_)) | (apply when_dE; (exact rfl); (exact rfl); all_goals intro hc) | (apply when_dF; (exact rfl); (exact rfl); all_goals intro hc) | (apply when_nE; (exact rfl); (exact rfl); all_goals intro hc) | (apply when_nF; (exact rfl); (exact rfl); all_goals intro hc) | (apply br_dE; (exact rfl); all_goals intro hc) | (apply br_nE; (exact rfl); all_goals intro hc) | (refine mm_min ?_) | (refine mm_max ?_) | (refine rem_i ?_ ?_; omega) | (refine SelN.mk ?_) | (refine cut_n ?_) | (refine Both.mk ?_ ?_) | (exact True.intro))
              exact ⟨_, rfl, ⟨ca, cc, ja, jc, D1, D2, hb1, hb2, rfl⟩, (by first | exact ent_i | (repeat (first | exact Ent.refl | exact Ent.left | refine Ent.cons ?_ | refine Ent.app ?_)))⟩
            | true =>
              rw [hc2 rfl] at hna
              repeat' ((try (conv => whnf)); first | (refine when_ye ?_ ?_; exact rfl) | (refine when_ne ?_ ?_; exact rfl) | (refine br_te ?_ ?_; exact rfl) | (refine br_fe ?_ ?_; exact rfl) | (apply br_pyE; (exact rfl); omega) | (apply br_pnE; (exact rfl); omega) | (apply when_pyE; (exact rfl); omega) | (apply when_pnE; (exact rfl); omega) | (apply br_npyE; (exact rfl); omega) | (apply br_npnE; (exact rfl); omega) | (apply when_npyE; (exact rfl); omega) | (apply when_npnE; (exact rfl); omega) | (refine br_pyE ?_ ht ?_; exact rfl) | (refine br_pnE ?_ ht ?_; exact rfl) | (refine when_pyE ?_ ht ?_; exact rfl) | (refine when_pnE ?_ ht ?_; exact rfl) | (refine br_npyE ?_ ht ?_; exact rfl) | (refine br_npnE ?_ ht ?_; exact rfl) | (refine when_npyE ?_ ht ?_; exact rfl) | (refine when_npnE ?_ ht ?_; exact rfl) | ((with_reducible show CallT _ _ _ _ _ _); first | ((refine call_pe (hcut _) ?_ ?_ ?_; (exact rfl); exact rfl)) | ((refine call_pe (htr _) ?_ ?_ ?_; (exact rfl); exact rfl)) | ((refine call_pe (hcs _) ?_ ?_ ?_; (exact rfl); exact rfl)) | ((refine call_pe (hna _) ?_ ?_ ?_; (exact rfl); exact rfl)) | ((refine call_pe (hj _) ?_ ?_ ?_; (exact rfl); exact rfl)) | ((refine call_pe (hp _) ?_ ?_ ?_; (exact rfl); exact rfl))) | (refine ari ?_ ?_; omega) | (refine aru ?_ ?_; omega) | (apply sel; exact rfl) | (refine ix0 rfl ?_) | (refine ix1 rfl ?_) | (refine ix2 rfl ?_) | (refine ix3 rfl ?_) | (apply ixj; omega) | (refine ixn ?_ ?_; omega) | (refine ixs0 rfl ?_) | (refine ixs1 rfl ?_) | (refine ixs_j ?_ ?_; omega) | (refine ixs_n ?_ ?_; omega) | (apply ld_o; exact rfl) | (apply ldN_a; exact rfl) | (apply ldN_o; (exact rfl); exact rfl) | (apply st_o; (exact rfl); exact rfl) | (apply stN_o; (exact rfl); (exact rfl); exact rfl) | (refine new_i (fun bk hbk => ?_)) | (apply when_dE; (exact rfl); (exact rfl); all_goals intro hc) | (apply when_dF; (exact rfl); (exact rfl); all_goals intro hc) | (apply when_nE; (exact rfl); (exact rfl); all_goals intro hc) | (apply when_nF; (exact rfl); (exact rfl); all_goals intro hc) | (apply br_dE; (exact rfl); all_goals intro hc) | (apply br_nE; (exact rfl); all_goals intro hc) | (refine mm_min ?_) | (refine mm_max ?_) | (refine rem_i ?_ ?_; omega) | (refine SelN.mk ?_) | (refine cut_n ?_) | (refine Both.mk ?_ ?_) | (exact True.intro))
              exact ⟨_, rfl, ⟨ca, cc, ja, jc, D1, D2, hb1, hb2, rfl⟩, (by first | exact ent_i | (repeat (first | exact Ent.refl | exact Ent.left | refine Ent.cons ?_ | refine Ent.app ?_)))⟩
          · rw [if_neg h64]
            have h64' : ¬ (σ.p.length : Int) = 64 := by omega
            cases b with
            | false =>
              repeat' ((try (conv => whnf)); first | (refine when_ye ?_ ?_; exact rfl) | (refine when_ne ?_ ?_; exact rfl) | (refine br_te ?_ ?_; exact rfl) | (refine br_fe ?_ ?_; exact rfl) | (apply br_pyE; (exact rfl); omega) | (apply br_pnE; (exact rfl); omega) | (apply when_pyE; (exact rfl); omega) | (apply when_pnE; (exact rfl); omega) | (apply br_npyE; (exact rfl); omega) | (apply br_npnE; (exact rfl); omega) | (apply when_npyE; (exact rfl); omega) | (apply when_npnE; (exact rfl); omega) | (refine br_pyE ?_ ht ?_; exact rfl) | (refine br_pnE ?_ ht ?_; exact rfl) | (refine when_pyE ?_ ht ?_; exact rfl) | (refine when_pnE ?_ ht ?_; exact rfl) | (refine br_npyE ?_ ht ?_; exact rfl) | (refine br_npnE ?_ ht ?_; exact rfl) | (refine when_npyE ?_ ht ?_; exact rfl) | (refine when_npnE ?_ ht ?_; exact rfl) | (apply app_i (enc := Ins.enc) (⟨io, ia, ib, ic, im⟩ : Ins) hb1; (exact rfl); (exact rfl); (omega); (exact rfl); (exact rfl); (omega); intro a1 c1 E1 he1) | ((with_reducible show CallT _ _ _ _ _ _); first | ((refine call_pe (hcut _) ?_ ?_ ?_; (exact rfl); exact rfl)) | ((refine call_pe (htr _) ?_ ?_ ?_; (exact rfl); exact rfl)) | ((refine call_pe (hcs _) ?_ ?_ ?_; (exact rfl); exact rfl)) | ((refine call_pe (hj _) ?_ ?_ ?_; (exact rfl); exact rfl)) | ((refine call_pe (hp _) ?_ ?_ ?_; (exact rfl); exact rfl))) | (refine ari ?_ ?_; omega) | (refine aru ?_ ?_; omega) | (apply sel; exact rfl) | (refine ix0 rfl ?_) | (refine ix1 rfl ?_) | (refine ix2 rfl ?_) | (refine ix3 rfl ?_) | (apply ixj; omega) | (refine ixn ?_ ?_; omega) | (refine ixs0 rfl ?_) | (refine ixs1 rfl ?_) | (refine ixs_j ?_ ?_; omega) | (refine ixs_n ?_ ?_; omega) | (apply ld_o; exact rfl) | (apply ldN_a; exact rfl) | (apply ldN_o; (exact rfl); exact rfl) | (apply st_o; (exact rfl); exact rfl) | (apply stN_o; (exact rfl); (exact rfl); exact rfl) | (refine new_i (fun bk hbk => ?_)) | (apply when_dE; (exact rfl); (exact rfl); all_goals intro hc) | (apply when_dF; (exact rfl); (exact rfl); all_goals intro hc) | (apply when_nE; (exact rfl); (exact rfl); all_goals intro hc) | (apply when_nF; (exact rfl); (exact rfl); all_goals intro hc) | (apply br_dE; (exact rfl); all_goals intro hc) | (apply br_nE; (exact rfl); all_goals intro hc) | (refine mm_min ?_) | (refine mm_max ?_) | (refine rem_i ?_ ?_; omega) | (refine SelN.mk ?_) | (refine cut_n ?_) | (refine Both.mk ?_ ?_) | (exact True.intro))
              refine ⟨_, rfl, ⟨a1, c1, ja, jc, E1, D2, he1, by dsimp only; rw [hja]; exact hb2, rfl⟩, ?_⟩
              unfold AsO
              dsimp only
              rw [hja, List.length_append]
              exact (by first | exact ent_i | (repeat (first | exact Ent.refl | exact Ent.left | refine Ent.cons ?_ | refine Ent.app ?_)))
            | true =>
              rw [hc2 rfl] at hna
              repeat' ((try (conv => whnf)); first | (refine when_ye ?_ ?_; exact rfl) | (refine when_ne ?_ ?_; exact rfl) | (refine br_te ?_ ?_; exact rfl) | (refine br_fe ?_ ?_; exact rfl) | (apply br_pyE; (exact rfl); omega) | (apply br_pnE; (exact rfl); omega) | (apply when_pyE; (exact rfl); omega) | (apply when_pnE; (exact rfl); omega) | (apply br_npyE; (exact rfl); omega) | (apply br_npnE; (exact rfl); omega) | (apply when_npyE; (exact rfl); omega) | (apply when_npnE; (exact rfl); omega) | (refine br_pyE ?_ ht ?_; exact rfl) | (refine br_pnE ?_ ht ?_; exact rfl) | (refine when_pyE ?_ ht ?_; exact rfl) | (refine when_pnE ?_ ht ?_; exact rfl) | (refine br_npyE ?_ ht ?_; exact rfl) | (refine br_npnE ?_ ht ?_; exact rfl) | (refine when_npyE ?_ ht ?_; exact rfl) | (refine when_npnE ?_ ht ?_; exact rfl) | (apply app_i (enc := Ins.enc) (⟨io, ia, ib, ic, im⟩ : Ins) hb1; (exact rfl); (exact rfl); (omega); (exact rfl); (exact rfl); (omega); intro a1 c1 E1 he1) | ((with_reducible show CallT _ _ _ _ _ _); first | ((refine call_pe (hcut _) ?_ ?_ ?_; (exact rfl); exact rfl)) | ((refine call_pe (htr _) ?_ ?_ ?_; (exact rfl); exact rfl)) | ((refine call_pe (hcs _) ?_ ?_ ?_; (exact rfl); exact rfl)) | ((refine call_pe (hna _) ?_ ?_ ?_; (exact rfl); exact rfl)) | ((refine call_pe (hj _) ?_ ?_ ?_; (exact rfl); exact rfl)) | ((refine call_pe (hp _) ?_ ?_ ?_; (exact rfl); exact rfl))) | (refine ari ?_ ?_; omega) | (refine aru ?_ ?_; omega) | (apply sel; exact rfl) | (refine ix0 rfl ?_) | (refine ix1 rfl ?_) | (refine ix2 rfl ?_) | (refine ix3 rfl ?_) | (apply ixj; omega) | (refine ixn ?_ ?_; omega) | (refine ixs0 rfl ?_) | (refine ixs1 rfl ?_) | (refine ixs_j ?_ ?_; omega) | (refine ixs_n ?_ ?_; omega) | (apply ld_o; exact rfl) | (apply ldN_a; exact rfl) | (apply ldN_o; (exact rfl); exact rfl) | (apply st_o; (exact rfl); exact rfl) | (apply stN_o; (exact rfl); (exact rfl); exact rfl) | (refine new_i (fun bk hbk => ?_)) | (apply when_dE; (exact rfl); (exact rfl); all_goals intro hc) | (apply when_dF; (exact rfl); (exact rfl); all_goals intro hc) | (apply when_nE; (exact rfl); (exact rfl); all_goals intro hc) | (apply when_nF; (exact rfl); (exact rfl); all_goals intro hc) | (apply br_dE; (exact rfl); all_goals intro hc) | (apply br_nE; (exact rfl); all_goals intro hc) | (refine mm_min ?_) | (refine mm_max ?_) | (refine rem_i ?_ ?_; omega) | (refine SelN.mk ?_) | (refine cut_n ?_) | (refine Both.mk ?_ ?_) | (exact True.intro))
              refine ⟨_, rfl, ⟨a1, c1, ja, jc, E1, D2, he1, by dsimp only; rw [hja]; exact hb2, rfl⟩, ?_⟩
              unfold AsO
              dsimp only
              rw [hja, List.length_append]
              exact (by first | exact ent_i | (repeat (first | exact Ent.refl | exact Ent.left | refine Ent.cons ?_ | refine Ent.app ?_)))
        · rw [if_neg he]
          cases b with
          | false =>
            repeat' ((try (conv => whnf)); first | (refine when_ye ?_ ?_; exact rfl) | (refine when_ne ?_ ?_; exact rfl) | (refine br_te ?_ ?_; exact rfl) | (refine br_fe ?_ ?_; exact rfl) | (apply br_pyE; (exact rfl); omega) | (apply br_pnE; (exact rfl); omega) | (apply when_pyE; (exact rfl); omega) | (apply when_pnE; (exact rfl); omega) | (apply br_npyE; (exact rfl); omega) | (apply br_npnE; (exact rfl); omega) | (apply when_npyE; (exact rfl); omega) | (apply when_npnE; (exact rfl); omega) | (refine br_pyE ?_ ht ?_; exact rfl) | (refine br_pnE ?_ ht ?_; exact rfl) | (refine when_pyE ?_ ht ?_; exact rfl) | (refine when_pnE ?_ ht ?_; exact rfl) | (refine br_npyE ?_ ht ?_; exact rfl) | (refine br_npnE ?_ ht ?_; exact rfl) | (refine when_npyE ?_ ht ?_; exact rfl) | (refine when_npnE ?_ ht ?_; exact rfl) | ((with_reducible show CallT _ _ _ _ _ _); first | ((refine call_pe (hcut _) ?_ ?_ ?_; (exact rfl); exact rfl)) | ((refine call_pe (htr _) ?_ ?_ ?_; (exact rfl); exact rfl)) | ((refine call_pe (hcs _) ?_ ?_ ?_; (exact rfl); exact rfl)) | ((refine call_pe (hj _) ?_ ?_ ?_; (exact rfl); exact rfl)) | ((refine call_pe (hp _) ?_ ?_ ?_; (exact rfl); exact rfl))) | (refine ari ?_ ?_; omega) | (refine aru ?_ ?_; omega) | (apply sel; exact rfl) | (refine ix0 rfl ?_) | (refine ix1 rfl ?_) | (refine ix2 rfl ?_) | (refine ix3 rfl ?_) | (apply ixj; omega) | (refine ixn ?_ ?_; omega) | (refine ixs0 rfl ?_) | (refine ixs1 rfl ?_) | (refine ixs_j ?_ ?_; omega) | (refine ixs_n ?_ ?_; omega) | (apply ld_o; exact rfl) | (apply ldN_a; exact rfl) | (apply ldN_o; (exact rfl); exact rfl) | (apply st_o; (exact rfl); exact rfl) | (apply stN_o; (exact rfl); (exact rfl); exact rfl) | (refine new_i (fun bk hbk => ?_)) | (apply when_dE; (exact rfl); (exact rfl); all_goals intro hc) | (apply when_dF; (exact rfl); (exact rfl); all_goals intro hc) | (apply when_nE; (exact rfl); (exact rfl); all_goals intro hc) | (apply when_nF; (exact rfl); (exact rfl); all_goals intro hc) | (apply br_dE; (exact rfl); all_goals intro hc) | (apply br_nE; (exact rfl); all_goals intro hc) | (refine mm_min ?_) | (refine mm_max ?_) | (refine rem_i ?_ ?_; omega) | (refine SelN.mk ?_) | (refine cut_n ?_) | (refine Both.mk ?_ ?_) | (exact True.intro))
            exact ⟨_, rfl, ⟨ca, cc, ja, jc, D1, D2, hb1, hb2, rfl⟩, (by first | exact ent_i | (repeat (first | exact Ent.refl | exact Ent.left | refine Ent.cons ?_ | refine Ent.app ?_)))⟩
          | true =>
            rw [hc2 rfl] at hna
            repeat' ((try (conv => whnf)); first | (refine when_ye ?_ ?_; exact rfl) | (refine when_ne ?_ ?_; exact rfl) | (refine br_te ?_ ?_; exact rfl) | (refine br_fe ?_ ?_; exact rfl) | (apply br_pyE; (exact rfl); omega) | (apply br_pnE; (exact rfl); omega) | (apply when_pyE; (exact rfl); omega) | (apply when_pnE; (exact rfl); omega) | (apply br_npyE; (exact rfl); omega) | (apply br_npnE; (exact rfl); omega) | (apply when_npyE; (exact rfl); omega) | (apply when_npnE; (exact rfl); omega) | (refine br_pyE ?_ ht ?_; exact rfl) | (refine br_pnE ?_ ht ?_; exact rfl) | (refine when_pyE ?_ ht ?_; exact rfl) | (refine when_pnE ?_ ht ?_; exact rfl) | (refine br_npyE ?_ ht ?_; exact rfl) | (refine br_npnE ?_ ht ?_; exact rfl) | (refine when_npyE ?_ ht ?_; exact rfl) | (refine when_npnE ?_ ht ?_; exact rfl) | ((with_reducible show CallT _ _ _ _ _ _); first | ((refine call_pe (hcut _) ?_ ?_ ?_; (exact rfl); exact rfl)) | ((refine call_pe (htr _) ?_ ?_ ?_; (exact rfl); exact rfl)) | ((refine call_pe (hcs _) ?_ ?_ ?_; (exact rfl); exact rfl)) | ((refine call_pe (hna _) ?_ ?_ ?_; (exact rfl); exact rfl)) | ((refine call_pe (hj _) ?_ ?_ ?_; (exact rfl); exact rfl)) | ((refine call_pe (hp _) ?_ ?_ ?_; (exact rfl); exact rfl))) | (refine ari ?_ ?_; omega) | (refine aru ?_ ?_; omega) | (apply sel; exact rfl) | (refine ix0 rfl ?_) | (refine ix1 rfl ?_) | (refine ix2 rfl ?_) | (refine ix3 rfl ?_) | (apply ixj; omega) | (refine ixn ?_ ?_; omega) | (refine ixs0 rfl ?_) | (refine ixs1 rfl ?_) | (refine ixs_j ?_ ?_; omega) | (refine ixs_n ?_ ?_; omega) | (apply ld_o; exact rfl) | (apply ldN_a; exact rfl) | (apply ldN_o; (exact rfl); exact rfl) | (apply st_o; (exact rfl); exact rfl) | (apply stN_o; (exact rfl); (exact rfl); exact rfl) | (refine new_i (fun bk hbk => ?_)) | (apply when_dE; (exact rfl); (exact rfl); all_goals intro hc) | (apply when_dF; (exact rfl); (exact rfl); all_goals intro hc) | (apply when_nE; (exact rfl); (exact rfl); all_goals intro hc) | (apply when_nF; (exact rfl); (exact rfl); all_goals intro hc) | (apply br_dE; (exact rfl); all_goals intro hc) | (apply br_nE; (exact rfl); all_goals intro hc) | (refine mm_min ?_) | (refine mm_max ?_) | (refine rem_i ?_ ?_; omega) | (refine SelN.mk ?_) | (refine cut_n ?_) | (refine Both.mk ?_ ?_) | (exact True.intro))
            exact ⟨_, rfl, ⟨ca, cc, ja, jc, D1, D2, hb1, hb2, rfl⟩, (by first | exact ent_i | (repeat (first | exact Ent.refl | exact Ent.left | refine Ent.cons ?_ | refine Ent.app ?_)))⟩
end
end Go.Proofs.YtiimndcifcoofaaGreatDoor
