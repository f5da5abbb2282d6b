/- What the laws share, part 31. No condition. -/
import Derived.Test.YtiimndcifcoofaaGreatDoorY30
namespace Go.Proofs.YtiimndcifcoofaaGreatDoor
open Go Go.RowKit
set_option maxRecDepth 10000
set_option maxHeartbeats 4000000
def tlM (ws : List ByteArray) : Ins × ByteArray × Bool := match jmpM ws with
  | some x => (x.1, x.2, true)
  | none => (insZ, noB, false)
theorem jmp_cases {ws : List ByteArray} {i : Ins} {n : ByteArray} (h : jmpM ws = some (i, n)) : (∃ w0, ws = [w0, n] ∧ w0.toList = jumpW.toList ∧ nameB n = true) ∨
    (∃ w0 r, ws = [w0, r, n] ∧ (w0.toList = zeroW.toList ∨ w0.toList = nonzW.toList) ∧ (regM r).2 = true ∧ nameB n = true) := by
  rcases ws with _ | ⟨w0, _ | ⟨w1, _ | ⟨w2, _ | ⟨w3, r⟩⟩⟩⟩
  · cases h
  · cases h
  · simp only [jmpM] at h
    split at h
    · rename_i hc
      simp only [Option.some.injEq, Prod.mk.injEq] at h
      obtain ⟨_, rfl⟩ := h
      exact .inl ⟨_, rfl, hc⟩
    · cases h
  · simp only [jmpM] at h
    split at h
    · rename_i hc
      simp only [Option.some.injEq, Prod.mk.injEq] at h
      obtain ⟨_, rfl⟩ := h
      exact .inr ⟨_, _, rfl, hc⟩
    · cases h
  · cases h
section
variable {W0 : World} {own : Own}
theorem splitL (w : World) : Go.Proofs.PredAtRunes Tryz.prog 122 #[] spR w := fun W r _ _ => by
  unfold Go.Proofs.FnGives spR
  by_cases h1 : r = 32
  all_goals
    have z1 : (r : Int) = 32 ↔ r = 32 := by omega
    go_enter Tryz.func122, Tryz.ntmps122
    go_wp2
    all_goals first | (exfalso; omega) | (go_ret; exact ⟨by simp [h1, z1], 0, rfl⟩) | (go_ret; refine ⟨?_, 0, rfl⟩; simp [h1]; omega)
theorem sp_fieldsL (s : ByteArray) (hs : s.size ≤ 4294967296) : Spec Tryz.prog W0 105 [.string s, .func (.func 122) #[] #[]] own fun v own' => ∃ b, v = .slice (some ⟨b, 0, none⟩) (wordsM s).length (wordsM s).length ∧ own' = canE encS 9 b (wordsM s) :: own := by
  intro w hw
  refine (shelf_strings_FieldsFunc_runes 122 #[] (Go.Proofs.enters_of Tryz.func122 (by kernel_rfl) rfl) spR s w hs (splitL w)).mono ?_
  rintro e w' ⟨A, rfl, hA, hrow, hb⟩
  rw [fields_words] at *
  obtain ⟨_, h | ⟨g, cap, cur, hv, hg, hcell, _, _, hcs, htake⟩⟩ := hrow
  · cases h.1
  · simp only [Value.slice.injEq, Option.some.injEq, Addr.mk.injEq] at hv
    obtain ⟨⟨rfl, _, _⟩, _, rfl⟩ := hv
    refine ⟨_, _, rfl, hw.newB hb hg hcell ?_, A, rfl, rfl⟩
    rw [Nat.mul_one] at *
    rw [flatS]
    have : cur.toList = (wordsM s).map Value.string := by
      rw [← htake, List.take_of_length_le (by simp; omega)]
    rw [← this]
theorem call_joinW {b : Nat} {l : List ByteArray} {r : Own} {k : FuncId} {args : List Value} {K : Value → Own → Prop} (ho : own = [canE encS 9 b l] ++ r) (hne : l ≠ []) (hl : l.length ≤ 140737488355328)
    (hj : (Go.Lib.join (l.map (fun x => x.data.toList)) [32]).length ≤ 140737488355328) (ek : k = 37) (ea : args = [.slice (some ⟨b, 0, none⟩) l.length l.length, .string ⟨#[32]⟩]) (hk : K (.string (joinW l)) own) : CallT Tryz.prog W0 own k args K := by
  subst ho
  exact call_pe (sp_join (W0 := W0) (own := [canE encS 9 b l] ++ r) (D := [canE encS 9 b l]) (sep := ⟨#[32]⟩) (can_buf (fun _ _ => rfl)) hne hl hj) ek ea hk
theorem sp_toLabel (hA : AsmAt W0) (s : ByteArray) (hs : s.size ≤ 65536) : Pure Tryz.prog W0 81 [.string s] own (.tuple #[(tlM (wordsM s)).1.v, .string (tlM (wordsM s)).2.1, .bool (tlM (wordsM s)).2.2]) := by
  refine pure_of (spec_of mixed low_asm_toLabel (by simp [ir_asm_toLabel]) ?_)
  have hf := fun own => sp_fieldsL (W0 := W0) (own := own) s (by omega)
  have hsz : ∀ w ∈ wordsM s, w.size ≤ 9223372036854775807 := fun w hw => by have := word_size hw; omega
  have hP := fun x own => sp_parse (own := own) hA.isa.lib hA.isa.forms hA.isa.names x
  generalize wordsM s = ws at *
  have hwd : ∀ x ∈ ws, (encS x).length = 1 := fun _ _ => rfl
  cases hj : jmpM ws with
  | some x =>
    obtain ⟨i, n⟩ := x
    obtain ⟨hl, hn, hp⟩ := jmp_parse hj
    have e : tlM ws = (i, n, true) := by unfold tlM; rw [hj]
    rw [e]
    have hP' := fun own => hP (joinW (ws.dropLast ++ [⟨#[48]⟩])) own
    rw [hp] at hP'
    rcases jmp_cases hj with ⟨w0, rfl, hc1, hc2⟩ | ⟨w0, r, rfl, hc1, hc3, hc2⟩
    · clear hj
      have hP2 : ∀ own, Pure Tryz.prog W0 48 [.string (joinW ([w0, n].set 1 ⟨#[48]⟩))] own (.tuple #[i.v, .int .i64 0]) := hP'
      have hna := fun own => sp_isName (W0 := W0) (own := own) n (hsz n (by simp))
      rw [hc2] at hna
      have hnl : 2 = [w0, n].length := rfl
      have hx0 : [w0, n][0]? = some w0 := rfl
      have hx1 : [w0, n][1]? = some n := rfl
      have hjl : (Go.Lib.join (([w0, n].set 1 ⟨#[48]⟩).map (fun x => x.data.toList)) [32]).length ≤ 140737488355328 := by
        have := ba_toList hc1
        subst this
        show (6 : Nat) ≤ _
        omega
      repeat' ((try (conv => whnf)); first | (refine when_ye ?_ ?_; exact rfl) | (refine when_ne ?_ ?_; exact rfl) | (refine br_te ?_ ?_; exact rfl) | (refine br_fe ?_ ?_; exact rfl) | (apply br_pyE; (exact rfl); omega) | (apply br_pnE; (exact rfl); omega) | (apply when_pyE; (exact rfl); omega) | (apply when_pnE; (exact rfl); omega) | (apply br_npyE; (exact rfl); omega) | (apply br_npnE; (exact rfl); omega) | (apply when_npyE; (exact rfl); omega) | (apply when_npnE; (exact rfl); omega) | (refine br_pyE ?_ hc1 ?_; exact rfl) | (refine br_pnE ?_ hc1 ?_; exact rfl) | (refine when_pyE ?_ hc1 ?_; exact rfl) | (refine when_pnE ?_ hc1 ?_; exact rfl) | (refine br_npyE ?_ hc1 ?_; exact rfl) | (refine br_npnE ?_ hc1 ?_; exact rfl) | (refine when_npyE ?_ hc1 ?_; exact rfl) | (refine when_npnE ?_ hc1 ?_; exact rfl) | ((with_reducible show Ld _ _ _ _); first | (refine ldC0 hwd hx0 rfl ?_) | (refine ldC1 hwd hx0 rfl ?_) | (refine ldC hwd hx0 rfl ?_) | (refine ldC0 hwd hx1 rfl ?_) | (refine ldC1 hwd hx1 rfl ?_) | (refine ldC hwd hx1 rfl ?_)) | ((with_reducible show IxS _ _ _ _ _); first | ((refine ixC hx0 hnl ?_ ?_; (first | rfl | omega))) | ((refine ixC hx1 hnl ?_ ?_; (first | rfl | omega)))) | ((with_reducible show LdN _ _ _ _ _); first | (refine ldNC hwd hx0 rfl ?_) | (refine ldNC hwd hx1 rfl ?_)) | ((with_reducible show CallT _ _ _ _ _ _); first | ((refine call_se (hf _) ?_ ?_ (fun v own' hv => ?_); (exact rfl); (exact rfl); (obtain ⟨b, rfl, rfl⟩ := hv))) | ((refine call_pe (hna _) ?_ ?_ ?_; (exact rfl); exact rfl)) | ((refine call_joinW (l := [w0, n].set 1 ⟨#[48]⟩) (by exact rfl) (by simp) (by simp) hjl ?_ ?_ ?_; (exact rfl); (exact rfl))) | ((refine call_pe (hP2 _) ?_ ?_ ?_; (exact rfl); exact rfl))) | ((with_reducible show StT _ _ _ _ _); first | ((refine stC (T := 9) (k := 0) ((⟨#[48]⟩ : ByteArray)) hwd hx1 ?_ ?_ ?_ ?_ ?_; (exact rfl); (omega); (exact rfl); (exact rfl)))) | (refine ari ?_ ?_; omega) | (refine aru ?_ ?_; omega) | (apply sel; exact rfl) | (refine ix0 rfl ?_) | (refine ix1 rfl ?_) | (refine ix2 rfl ?_) | (refine ix3 rfl ?_) | (apply ixj; omega) | (refine ixn ?_ ?_; omega) | (refine ixs0 rfl ?_) | (refine ixs1 rfl ?_) | (refine ixs_j ?_ ?_; omega) | (refine ixs_n ?_ ?_; omega) | (apply ld_o; exact rfl) | (apply ldN_a; exact rfl) | (apply ldN_o; (exact rfl); exact rfl) | (apply st_o; (exact rfl); exact rfl) | (apply stN_o; (exact rfl); (exact rfl); exact rfl) | (refine new_i (fun bk hbk => ?_)) | (apply when_dE; (exact rfl); (exact rfl); all_goals intro hc) | (apply when_dF; (exact rfl); (exact rfl); all_goals intro hc) | (apply when_nE; (exact rfl); (exact rfl); all_goals intro hc) | (apply when_nF; (exact rfl); (exact rfl); all_goals intro hc) | (apply br_dE; (exact rfl); all_goals intro hc) | (apply br_nE; (exact rfl); all_goals intro hc) | (refine mm_min ?_) | (refine mm_max ?_) | (refine rem_i ?_ ?_; omega) | (refine SelN.mk ?_) | (refine cut_n ?_) | (refine Both.mk ?_ ?_) | (exact True.intro))
      exact ⟨rfl, (by first | exact ent_i | (repeat (first | exact Ent.refl | exact Ent.left | refine Ent.cons ?_ | refine Ent.app ?_)))⟩
    · clear hj
      have hP2 : ∀ own, Pure Tryz.prog W0 48 [.string (joinW ([w0, r, n].set 2 ⟨#[48]⟩))] own (.tuple #[i.v, .int .i64 0]) := hP'
      have hna := fun own => sp_isName (W0 := W0) (own := own) n (hsz n (by simp))
      rw [hc2] at hna
      have hre := fun own => sp_isRegister (W0 := W0) (own := own) r
      rw [hc3] at hre
      have hnl : 3 = [w0, r, n].length := rfl
      have hx0 : [w0, r, n][0]? = some w0 := rfl
      have hx1 : [w0, r, n][1]? = some r := rfl
      have hx2 : [w0, r, n][2]? = some n := rfl
      have hjl : (Go.Lib.join (([w0, r, n].set 2 ⟨#[48]⟩).map (fun x => x.data.toList)) [32]).length ≤ 140737488355328 := by
        obtain ⟨k, hk, rfl, _⟩ := reg_form hc3
        rcases hc1 with hc1 | hc1
        · have := ba_toList hc1
          subst this
          show 9 ≤ _
          omega
        · have := ba_toList hc1
          subst this
          show 12 ≤ _
          omega
      rcases hc1 with hc1 | hc1
      · repeat' ((try (conv => whnf)); first | (refine when_ye ?_ ?_; exact rfl) | (refine when_ne ?_ ?_; exact rfl) | (refine br_te ?_ ?_; exact rfl) | (refine br_fe ?_ ?_; exact rfl) | (apply br_pyE; (exact rfl); omega) | (apply br_pnE; (exact rfl); omega) | (apply when_pyE; (exact rfl); omega) | (apply when_pnE; (exact rfl); omega) | (apply br_npyE; (exact rfl); omega) | (apply br_npnE; (exact rfl); omega) | (apply when_npyE; (exact rfl); omega) | (apply when_npnE; (exact rfl); omega) | (refine br_pyE ?_ hc1 ?_; exact rfl) | (refine br_pnE ?_ hc1 ?_; exact rfl) | (refine when_pyE ?_ hc1 ?_; exact rfl) | (refine when_pnE ?_ hc1 ?_; exact rfl) | (refine br_npyE ?_ hc1 ?_; exact rfl) | (refine br_npnE ?_ hc1 ?_; exact rfl) | (refine when_npyE ?_ hc1 ?_; exact rfl) | (refine when_npnE ?_ hc1 ?_; exact rfl) | ((with_reducible show Ld _ _ _ _); first | (refine ldC0 hwd hx0 rfl ?_) | (refine ldC1 hwd hx0 rfl ?_) | (refine ldC hwd hx0 rfl ?_) | (refine ldC0 hwd hx1 rfl ?_) | (refine ldC1 hwd hx1 rfl ?_) | (refine ldC hwd hx1 rfl ?_) | (refine ldC0 hwd hx2 rfl ?_) | (refine ldC1 hwd hx2 rfl ?_) | (refine ldC hwd hx2 rfl ?_)) | ((with_reducible show IxS _ _ _ _ _); first | ((refine ixC hx0 hnl ?_ ?_; (first | rfl | omega))) | ((refine ixC hx1 hnl ?_ ?_; (first | rfl | omega))) | ((refine ixC hx2 hnl ?_ ?_; (first | rfl | omega)))) | ((with_reducible show LdN _ _ _ _ _); first | (refine ldNC hwd hx0 rfl ?_) | (refine ldNC hwd hx1 rfl ?_) | (refine ldNC hwd hx2 rfl ?_)) | ((with_reducible show CallT _ _ _ _ _ _); first | ((refine call_se (hf _) ?_ ?_ (fun v own' hv => ?_); (exact rfl); (exact rfl); (obtain ⟨b, rfl, rfl⟩ := hv))) | ((refine call_pe (hna _) ?_ ?_ ?_; (exact rfl); exact rfl)) | ((refine call_pe (hre _) ?_ ?_ ?_; (exact rfl); exact rfl)) | ((refine call_joinW (l := [w0, r, n].set 2 ⟨#[48]⟩) (by exact rfl) (by simp) (by simp) hjl ?_ ?_ ?_; (exact rfl); (exact rfl))) | ((refine call_pe (hP2 _) ?_ ?_ ?_; (exact rfl); exact rfl))) | ((with_reducible show StT _ _ _ _ _); first | ((refine stC (T := 9) (k := 0) ((⟨#[48]⟩ : ByteArray)) hwd hx2 ?_ ?_ ?_ ?_ ?_; (exact rfl); (omega); (exact rfl); (exact rfl)))) | (refine ari ?_ ?_; omega) | (refine aru ?_ ?_; omega) | (apply sel; exact rfl) | (refine ix0 rfl ?_) | (refine ix1 rfl ?_) | (refine ix2 rfl ?_) | (refine ix3 rfl ?_) | (apply ixj; omega) | (refine ixn ?_ ?_; omega) | (refine ixs0 rfl ?_) | (refine ixs1 rfl ?_) | (refine ixs_j ?_ ?_; omega) | (refine ixs_n ?_ ?_; omega) | (apply ld_o; exact rfl) | (apply ldN_a; exact rfl) | (apply ldN_o; (exact rfl); exact rfl) | (apply st_o; (exact rfl); exact rfl) | (apply stN_o; (exact rfl); (exact rfl); exact rfl) | (refine new_i (fun bk hbk => ?_)) | (apply when_dE; (exact rfl); (exact rfl); all_goals intro hc) | (apply when_dF; (exact rfl); (exact rfl); all_goals intro hc) | (apply when_nE; (exact rfl); (exact rfl); all_goals intro hc) | (apply when_nF; (exact rfl); (exact rfl); all_goals intro hc) | (apply br_dE; (exact rfl); all_goals intro hc) | (apply br_nE; (exact rfl); all_goals intro hc) | (refine mm_min ?_) | (refine mm_max ?_) | (refine rem_i ?_ ?_; omega) | (refine SelN.mk ?_) | (refine cut_n ?_) | (refine Both.mk ?_ ?_) | (exact True.intro))
        exact ⟨rfl, (by first | exact ent_i | (repeat (first | exact Ent.refl | exact Ent.left | refine Ent.cons ?_ | refine Ent.app ?_)))⟩
      · have hc0 : ¬ w0.toList = zeroW.toList := by rw [hc1]; decide +kernel
        repeat' ((try (conv => whnf)); first | (refine when_ye ?_ ?_; exact rfl) | (refine when_ne ?_ ?_; exact rfl) | (refine br_te ?_ ?_; exact rfl) | (refine br_fe ?_ ?_; exact rfl) | (apply br_pyE; (exact rfl); omega) | (apply br_pnE; (exact rfl); omega) | (apply when_pyE; (exact rfl); omega) | (apply when_pnE; (exact rfl); omega) | (apply br_npyE; (exact rfl); omega) | (apply br_npnE; (exact rfl); omega) | (apply when_npyE; (exact rfl); omega) | (apply when_npnE; (exact rfl); omega) | (refine br_pyE ?_ hc0 ?_; exact rfl) | (refine br_pnE ?_ hc0 ?_; exact rfl) | (refine when_pyE ?_ hc0 ?_; exact rfl) | (refine when_pnE ?_ hc0 ?_; exact rfl) | (refine br_npyE ?_ hc0 ?_; exact rfl) | (refine br_npnE ?_ hc0 ?_; exact rfl) | (refine when_npyE ?_ hc0 ?_; exact rfl) | (refine when_npnE ?_ hc0 ?_; exact rfl) | (refine br_pyE ?_ hc1 ?_; exact rfl) | (refine br_pnE ?_ hc1 ?_; exact rfl) | (refine when_pyE ?_ hc1 ?_; exact rfl) | (refine when_pnE ?_ hc1 ?_; exact rfl) | (refine br_npyE ?_ hc1 ?_; exact rfl) | (refine br_npnE ?_ hc1 ?_; exact rfl) | (refine when_npyE ?_ hc1 ?_; exact rfl) | (refine when_npnE ?_ hc1 ?_; exact rfl) | ((with_reducible show Ld _ _ _ _); first | (refine ldC0 hwd hx0 rfl ?_) | (refine ldC1 hwd hx0 rfl ?_) | (refine ldC hwd hx0 rfl ?_) | (refine ldC0 hwd hx1 rfl ?_) | (refine ldC1 hwd hx1 rfl ?_) | (refine ldC hwd hx1 rfl ?_) | (refine ldC0 hwd hx2 rfl ?_) | (refine ldC1 hwd hx2 rfl ?_) | (refine ldC hwd hx2 rfl ?_)) | ((with_reducible show IxS _ _ _ _ _); first | ((refine ixC hx0 hnl ?_ ?_; (first | rfl | omega))) | ((refine ixC hx1 hnl ?_ ?_; (first | rfl | omega))) | ((refine ixC hx2 hnl ?_ ?_; (first | rfl | omega)))) | ((with_reducible show LdN _ _ _ _ _); first | (refine ldNC hwd hx0 rfl ?_) | (refine ldNC hwd hx1 rfl ?_) | (refine ldNC hwd hx2 rfl ?_)) | ((with_reducible show CallT _ _ _ _ _ _); first | ((refine call_se (hf _) ?_ ?_ (fun v own' hv => ?_); (exact rfl); (exact rfl); (obtain ⟨b, rfl, rfl⟩ := hv))) | ((refine call_pe (hna _) ?_ ?_ ?_; (exact rfl); exact rfl)) | ((refine call_pe (hre _) ?_ ?_ ?_; (exact rfl); exact rfl)) | ((refine call_joinW (l := [w0, r, n].set 2 ⟨#[48]⟩) (by exact rfl) (by simp) (by simp) hjl ?_ ?_ ?_; (exact rfl); (exact rfl))) | ((refine call_pe (hP2 _) ?_ ?_ ?_; (exact rfl); exact rfl))) | ((with_reducible show StT _ _ _ _ _); first | ((refine stC (T := 9) (k := 0) ((⟨#[48]⟩ : ByteArray)) hwd hx2 ?_ ?_ ?_ ?_ ?_; (exact rfl); (omega); (exact rfl); (exact rfl)))) | (refine ari ?_ ?_; omega) | (refine aru ?_ ?_; omega) | (apply sel; exact rfl) | (refine ix0 rfl ?_) | (refine ix1 rfl ?_) | (refine ix2 rfl ?_) | (refine ix3 rfl ?_) | (apply ixj; omega) | (refine ixn ?_ ?_; omega) | (refine ixs0 rfl ?_) | (refine ixs1 rfl ?_) | (refine ixs_j ?_ ?_; omega) | (refine ixs_n ?_ ?_; omega) | (apply ld_o; exact rfl) | (apply ldN_a; exact rfl) | (apply ldN_o; (exact rfl); exact rfl) | (apply st_o; (exact rfl); exact rfl) | (apply stN_o; (exact rfl); (exact rfl); exact rfl) | (refine new_i (fun bk hbk => ?_)) | (apply when_dE; (exact rfl); (exact rfl); all_goals intro hc) | (apply when_dF; (exact rfl); (exact rfl); all_goals intro hc) | (apply when_nE; (exact rfl); (exact rfl); all_goals intro hc) | (apply when_nF; (exact rfl); (exact rfl); all_goals intro hc) | (apply br_dE; (exact rfl); all_goals intro hc) | (apply br_nE; (exact rfl); all_goals intro hc) | (refine mm_min ?_) | (refine mm_max ?_) | (refine rem_i ?_ ?_; omega) | (refine SelN.mk ?_) | (refine cut_n ?_) | (refine Both.mk ?_ ?_) | (exact True.intro))
        exact ⟨rfl, (by first | exact ent_i | (repeat (first | exact Ent.refl | exact Ent.left | refine Ent.cons ?_ | refine Ent.app ?_)))⟩
  | none =>
    have e : tlM ws = (insZ, noB, false) := by unfold tlM; rw [hj]
    rw [e]
    rcases ws with _ | ⟨w0, _ | ⟨m, _ | ⟨r2, _ | ⟨w3, rr⟩⟩⟩⟩
    · repeat' ((try (conv => whnf)); first | (refine when_ye ?_ ?_; exact rfl) | (refine when_ne ?_ ?_; exact rfl) | (refine br_te ?_ ?_; exact rfl) | (refine br_fe ?_ ?_; exact rfl) | (apply br_pyE; (exact rfl); omega) | (apply br_pnE; (exact rfl); omega) | (apply when_pyE; (exact rfl); omega) | (apply when_pnE; (exact rfl); omega) | (apply br_npyE; (exact rfl); omega) | (apply br_npnE; (exact rfl); omega) | (apply when_npyE; (exact rfl); omega) | (apply when_npnE; (exact rfl); omega) | ((with_reducible show CallT _ _ _ _ _ _); first | ((refine call_se (hf _) ?_ ?_ (fun v own' hv => ?_); (exact rfl); (exact rfl); (obtain ⟨b, rfl, rfl⟩ := hv)))) | (refine ari ?_ ?_; omega) | (refine aru ?_ ?_; omega) | (apply sel; exact rfl) | (refine ix0 rfl ?_) | (refine ix1 rfl ?_) | (refine ix2 rfl ?_) | (refine ix3 rfl ?_) | (apply ixj; omega) | (refine ixn ?_ ?_; omega) | (refine ixs0 rfl ?_) | (refine ixs1 rfl ?_) | (refine ixs_j ?_ ?_; omega) | (refine ixs_n ?_ ?_; omega) | (apply ld_o; exact rfl) | (apply ldN_a; exact rfl) | (apply ldN_o; (exact rfl); exact rfl) | (apply st_o; (exact rfl); exact rfl) | (apply stN_o; (exact rfl); (exact rfl); exact rfl) | (refine new_i (fun bk hbk => ?_)) | (apply when_dE; (exact rfl); (exact rfl); all_goals intro hc) | (apply when_dF; (exact rfl); (exact rfl); all_goals intro hc) | (apply when_nE; (exact rfl); (exact rfl); all_goals intro hc) | (apply when_nF; (exact rfl); (exact rfl); all_goals intro hc) | (apply br_dE; (exact rfl); all_goals intro hc) | (apply br_nE; (exact rfl); all_goals intro hc) | (refine mm_min ?_) | (refine mm_max ?_) | (refine rem_i ?_ ?_; omega) | (refine SelN.mk ?_) | (refine cut_n ?_) | (refine Both.mk ?_ ?_) | (exact True.intro))
      exact ⟨rfl, (by first | exact ent_i | (repeat (first | exact Ent.refl | exact Ent.left | refine Ent.cons ?_ | refine Ent.app ?_)))⟩
    · repeat' ((try (conv => whnf)); first | (refine when_ye ?_ ?_; exact rfl) | (refine when_ne ?_ ?_; exact rfl) | (refine br_te ?_ ?_; exact rfl) | (refine br_fe ?_ ?_; exact rfl) | (apply br_pyE; (exact rfl); omega) | (apply br_pnE; (exact rfl); omega) | (apply when_pyE; (exact rfl); omega) | (apply when_pnE; (exact rfl); omega) | (apply br_npyE; (exact rfl); omega) | (apply br_npnE; (exact rfl); omega) | (apply when_npyE; (exact rfl); omega) | (apply when_npnE; (exact rfl); omega) | ((with_reducible show CallT _ _ _ _ _ _); first | ((refine call_se (hf _) ?_ ?_ (fun v own' hv => ?_); (exact rfl); (exact rfl); (obtain ⟨b, rfl, rfl⟩ := hv)))) | (refine ari ?_ ?_; omega) | (refine aru ?_ ?_; omega) | (apply sel; exact rfl) | (refine ix0 rfl ?_) | (refine ix1 rfl ?_) | (refine ix2 rfl ?_) | (refine ix3 rfl ?_) | (apply ixj; omega) | (refine ixn ?_ ?_; omega) | (refine ixs0 rfl ?_) | (refine ixs1 rfl ?_) | (refine ixs_j ?_ ?_; omega) | (refine ixs_n ?_ ?_; omega) | (apply ld_o; exact rfl) | (apply ldN_a; exact rfl) | (apply ldN_o; (exact rfl); exact rfl) | (apply st_o; (exact rfl); exact rfl) | (apply stN_o; (exact rfl); (exact rfl); exact rfl) | (refine new_i (fun bk hbk => ?_)) | (apply when_dE; (exact rfl); (exact rfl); all_goals intro hc) | (apply when_dF; (exact rfl); (exact rfl); all_goals intro hc) | (apply when_nE; (exact rfl); (exact rfl); all_goals intro hc) | (apply when_nF; (exact rfl); (exact rfl); all_goals intro hc) | (apply br_dE; (exact rfl); all_goals intro hc) | (apply br_nE; (exact rfl); all_goals intro hc) | (refine mm_min ?_) | (refine mm_max ?_) | (refine rem_i ?_ ?_; omega) | (refine SelN.mk ?_) | (refine cut_n ?_) | (refine Both.mk ?_ ?_) | (exact True.intro))
      exact ⟨rfl, (by first | exact ent_i | (repeat (first | exact Ent.refl | exact Ent.left | refine Ent.cons ?_ | refine Ent.app ?_)))⟩
    · have hna := fun own => sp_isName (W0 := W0) (own := own) m (hsz m (by simp))
      have hnl : 2 = [w0, m].length := rfl
      have hx0 : [w0, m][0]? = some w0 := rfl
      have hx1 : [w0, m][1]? = some m := rfl
      by_cases hc1 : w0.toList = jumpW.toList
      · have hc2 : nameB m = false := by
          cases hq : nameB m with
          | false => rfl
          | true => simp only [jmpM] at hj; rw [if_pos ⟨hc1, hq⟩] at hj; cases hj
        rw [hc2] at hna
        repeat' ((try (conv => whnf)); first | (refine when_ye ?_ ?_; exact rfl) | (refine when_ne ?_ ?_; exact rfl) | (refine br_te ?_ ?_; exact rfl) | (refine br_fe ?_ ?_; exact rfl) | (apply br_pyE; (exact rfl); omega) | (apply br_pnE; (exact rfl); omega) | (apply when_pyE; (exact rfl); omega) | (apply when_pnE; (exact rfl); omega) | (apply br_npyE; (exact rfl); omega) | (apply br_npnE; (exact rfl); omega) | (apply when_npyE; (exact rfl); omega) | (apply when_npnE; (exact rfl); omega) | (refine br_pyE ?_ hc1 ?_; exact rfl) | (refine br_pnE ?_ hc1 ?_; exact rfl) | (refine when_pyE ?_ hc1 ?_; exact rfl) | (refine when_pnE ?_ hc1 ?_; exact rfl) | (refine br_npyE ?_ hc1 ?_; exact rfl) | (refine br_npnE ?_ hc1 ?_; exact rfl) | (refine when_npyE ?_ hc1 ?_; exact rfl) | (refine when_npnE ?_ hc1 ?_; exact rfl) | ((with_reducible show Ld _ _ _ _); first | (refine ldC0 hwd hx0 rfl ?_) | (refine ldC1 hwd hx0 rfl ?_) | (refine ldC hwd hx0 rfl ?_) | (refine ldC0 hwd hx1 rfl ?_) | (refine ldC1 hwd hx1 rfl ?_) | (refine ldC hwd hx1 rfl ?_)) | ((with_reducible show IxS _ _ _ _ _); first | ((refine ixC hx0 hnl ?_ ?_; (first | rfl | omega))) | ((refine ixC hx1 hnl ?_ ?_; (first | rfl | omega)))) | ((with_reducible show LdN _ _ _ _ _); first | (refine ldNC hwd hx0 rfl ?_) | (refine ldNC hwd hx1 rfl ?_)) | ((with_reducible show CallT _ _ _ _ _ _); first | ((refine call_se (hf _) ?_ ?_ (fun v own' hv => ?_); (exact rfl); (exact rfl); (obtain ⟨b, rfl, rfl⟩ := hv))) | ((refine call_pe (hna _) ?_ ?_ ?_; (exact rfl); exact rfl))) | (refine ari ?_ ?_; omega) | (refine aru ?_ ?_; omega) | (apply sel; exact rfl) | (refine ix0 rfl ?_) | (refine ix1 rfl ?_) | (refine ix2 rfl ?_) | (refine ix3 rfl ?_) | (apply ixj; omega) | (refine ixn ?_ ?_; omega) | (refine ixs0 rfl ?_) | (refine ixs1 rfl ?_) | (refine ixs_j ?_ ?_; omega) | (refine ixs_n ?_ ?_; omega) | (apply ld_o; exact rfl) | (apply ldN_a; exact rfl) | (apply ldN_o; (exact rfl); exact rfl) | (apply st_o; (exact rfl); exact rfl) | (apply stN_o; (exact rfl); (exact rfl); exact rfl) | (refine new_i (fun bk hbk => ?_)) | (apply when_dE; (exact rfl); (exact rfl); all_goals intro hc) | (apply when_dF; (exact rfl); (exact rfl); all_goals intro hc) | (apply when_nE; (exact rfl); (exact rfl); all_goals intro hc) | (apply when_nF; (exact rfl); (exact rfl); all_goals intro hc) | (apply br_dE; (exact rfl); all_goals intro hc) | (apply br_nE; (exact rfl); all_goals intro hc) | (refine mm_min ?_) | (refine mm_max ?_) | (refine rem_i ?_ ?_; omega) | (refine SelN.mk ?_) | (refine cut_n ?_) | (refine Both.mk ?_ ?_) | (exact True.intro))
        exact ⟨rfl, (by first | exact ent_i | (repeat (first | exact Ent.refl | exact Ent.left | refine Ent.cons ?_ | refine Ent.app ?_)))⟩
      · repeat' ((try (conv => whnf)); first | (refine when_ye ?_ ?_; exact rfl) | (refine when_ne ?_ ?_; exact rfl) | (refine br_te ?_ ?_; exact rfl) | (refine br_fe ?_ ?_; exact rfl) | (apply br_pyE; (exact rfl); omega) | (apply br_pnE; (exact rfl); omega) | (apply when_pyE; (exact rfl); omega) | (apply when_pnE; (exact rfl); omega) | (apply br_npyE; (exact rfl); omega) | (apply br_npnE; (exact rfl); omega) | (apply when_npyE; (exact rfl); omega) | (apply when_npnE; (exact rfl); omega) | (refine br_pyE ?_ hc1 ?_; exact rfl) | (refine br_pnE ?_ hc1 ?_; exact rfl) | (refine when_pyE ?_ hc1 ?_; exact rfl) | (refine when_pnE ?_ hc1 ?_; exact rfl) | (refine br_npyE ?_ hc1 ?_; exact rfl) | (refine br_npnE ?_ hc1 ?_; exact rfl) | (refine when_npyE ?_ hc1 ?_; exact rfl) | (refine when_npnE ?_ hc1 ?_; exact rfl) | ((with_reducible show Ld _ _ _ _); first | (refine ldC0 hwd hx0 rfl ?_) | (refine ldC1 hwd hx0 rfl ?_) | (refine ldC hwd hx0 rfl ?_) | (refine ldC0 hwd hx1 rfl ?_) | (refine ldC1 hwd hx1 rfl ?_) | (refine ldC hwd hx1 rfl ?_)) | ((with_reducible show IxS _ _ _ _ _); first | ((refine ixC hx0 hnl ?_ ?_; (first | rfl | omega))) | ((refine ixC hx1 hnl ?_ ?_; (first | rfl | omega)))) | ((with_reducible show LdN _ _ _ _ _); first | (refine ldNC hwd hx0 rfl ?_) | (refine ldNC hwd hx1 rfl ?_)) | ((with_reducible show CallT _ _ _ _ _ _); first | ((refine call_se (hf _) ?_ ?_ (fun v own' hv => ?_); (exact rfl); (exact rfl); (obtain ⟨b, rfl, rfl⟩ := hv))) | ((refine call_pe (hna _) ?_ ?_ ?_; (exact rfl); exact rfl))) | (refine ari ?_ ?_; omega) | (refine aru ?_ ?_; omega) | (apply sel; exact rfl) | (refine ix0 rfl ?_) | (refine ix1 rfl ?_) | (refine ix2 rfl ?_) | (refine ix3 rfl ?_) | (apply ixj; omega) | (refine ixn ?_ ?_; omega) | (refine ixs0 rfl ?_) | (refine ixs1 rfl ?_) | (refine ixs_j ?_ ?_; omega) | (refine ixs_n ?_ ?_; omega) | (apply ld_o; exact rfl) | (apply ldN_a; exact rfl) | (apply ldN_o; (exact rfl); exact rfl) | (apply st_o; (exact rfl); exact rfl) | (apply stN_o; (exact rfl); (exact rfl); exact rfl) | (refine new_i (fun bk hbk => ?_)) | (apply when_dE; (exact rfl); (exact rfl); all_goals intro hc) | (apply when_dF; (exact rfl); (exact rfl); all_goals intro hc) | (apply when_nE; (exact rfl); (exact rfl); all_goals intro hc) | (apply when_nF; (exact rfl); (exact rfl); all_goals intro hc) | (apply br_dE; (exact rfl); all_goals intro hc) | (apply br_nE; (exact rfl); all_goals intro hc) | (refine mm_min ?_) | (refine mm_max ?_) | (refine rem_i ?_ ?_; omega) | (refine SelN.mk ?_) | (refine cut_n ?_) | (refine Both.mk ?_ ?_) | (exact True.intro))
        exact ⟨rfl, (by first | exact ent_i | (repeat (first | exact Ent.refl | exact Ent.left | refine Ent.cons ?_ | refine Ent.app ?_)))⟩
    · have hna := fun own => sp_isName (W0 := W0) (own := own) r2 (hsz r2 (by simp))
      have hre := fun own => sp_isRegister (W0 := W0) (own := own) m
      have hnl : 3 = [w0, m, r2].length := rfl
      have hx0 : [w0, m, r2][0]? = some w0 := rfl
      have hx1 : [w0, m, r2][1]? = some m := rfl
      have hx2 : [w0, m, r2][2]? = some r2 := rfl
      simp only [jmpM] at hj
      have hj' : ¬ ((w0.toList = zeroW.toList ∨ w0.toList = nonzW.toList) ∧ (regM m).2 = true ∧ nameB r2 = true) := fun h => by rw [if_pos h] at hj; cases hj
      by_cases hc1 : w0.toList = zeroW.toList
      · cases hc3 : (regM m).2 with
        | false =>
          rw [hc3] at hre
          repeat' ((try (conv => whnf)); first | (refine when_ye ?_ ?_; exact rfl) | (refine when_ne ?_ ?_; exact rfl) | (refine br_te ?_ ?_; exact rfl) | (refine br_fe ?_ ?_; exact rfl) | (apply br_pyE; (exact rfl); omega) | (apply br_pnE; (exact rfl); omega) | (apply when_pyE; (exact rfl); omega) | (apply when_pnE; (exact rfl); omega) | (apply br_npyE; (exact rfl); omega) | (apply br_npnE; (exact rfl); omega) | (apply when_npyE; (exact rfl); omega) | (apply when_npnE; (exact rfl); omega) | (refine br_pyE ?_ hc1 ?_; exact rfl) | (refine br_pnE ?_ hc1 ?_; exact rfl) | (refine when_pyE ?_ hc1 ?_; exact rfl) | (refine when_pnE ?_ hc1 ?_; exact rfl) | (refine br_npyE ?_ hc1 ?_; exact rfl) | (refine br_npnE ?_ hc1 ?_; exact rfl) | (refine when_npyE ?_ hc1 ?_; exact rfl) | (refine when_npnE ?_ hc1 ?_; exact rfl) | ((with_reducible show Ld _ _ _ _); first | (refine ldC0 hwd hx0 rfl ?_) | (refine ldC1 hwd hx0 rfl ?_) | (refine ldC hwd hx0 rfl ?_) | (refine ldC0 hwd hx1 rfl ?_) | (refine ldC1 hwd hx1 rfl ?_) | (refine ldC hwd hx1 rfl ?_) | (refine ldC0 hwd hx2 rfl ?_) | (refine ldC1 hwd hx2 rfl ?_) | (refine ldC hwd hx2 rfl ?_)) | ((with_reducible show IxS _ _ _ _ _); first | ((refine ixC hx0 hnl ?_ ?_; (first | rfl | omega))) | ((refine ixC hx1 hnl ?_ ?_; (first | rfl | omega))) | ((refine ixC hx2 hnl ?_ ?_; (first | rfl | omega)))) | ((with_reducible show LdN _ _ _ _ _); first | (refine ldNC hwd hx0 rfl ?_) | (refine ldNC hwd hx1 rfl ?_) | (refine ldNC hwd hx2 rfl ?_)) | ((with_reducible show CallT _ _ _ _ _ _); first | ((refine call_se (hf _) ?_ ?_ (fun v own' hv => ?_); (exact rfl); (exact rfl); (obtain ⟨b, rfl, rfl⟩ := hv))) | ((refine call_pe (hna _) ?_ ?_ ?_; (exact rfl); exact rfl)) | ((refine call_pe (hre _) ?_ ?_ ?_; (exact rfl); exact rfl))) | (refine ari ?_ ?_; omega) | (refine aru ?_ ?_; omega) | (apply sel; exact rfl) | (refine ix0 rfl ?_) | (refine ix1 rfl ?_) | (refine ix2 rfl ?_) | (refine ix3 rfl ?_) | (apply ixj; omega) | (refine ixn ?_ ?_; omega) | (refine ixs0 rfl ?_) | (refine ixs1 rfl ?_) | (refine ixs_j ?_ ?_; omega) | (refine ixs_n ?_ ?_; omega) | (apply ld_o; exact rfl) | (apply ldN_a; exact rfl) | (apply ldN_o; (exact rfl); exact rfl) | (apply st_o; (exact rfl); exact rfl) | (apply stN_o; (exact rfl); (exact rfl); exact rfl) | (refine new_i (fun bk hbk => ?_)) | (apply when_dE; (exact rfl); (exact rfl); all_goals intro hc) | (apply when_dF; (exact rfl); (exact rfl); all_goals intro hc) | (apply when_nE; (exact rfl); (exact rfl); all_goals intro hc) | (apply when_nF; (exact rfl); (exact rfl); all_goals intro hc) | (apply br_dE; (exact rfl); all_goals intro hc) | (apply br_nE; (exact rfl); all_goals intro hc) | (refine mm_min ?_) | (refine mm_max ?_) | (refine rem_i ?_ ?_; omega) | (refine SelN.mk ?_) | (refine cut_n ?_) | (refine Both.mk ?_ ?_) | (exact True.intro))
          exact ⟨rfl, (by first | exact ent_i | (repeat (first | exact Ent.refl | exact Ent.left | refine Ent.cons ?_ | refine Ent.app ?_)))⟩
        | true =>
          have hc2 : nameB r2 = false := by
            cases hq : nameB r2 with
            | false => rfl
            | true => exact absurd ⟨.inl hc1, hc3, hq⟩ hj'
          rw [hc3] at hre
          rw [hc2] at hna
          repeat' ((try (conv => whnf)); first | (refine when_ye ?_ ?_; exact rfl) | (refine when_ne ?_ ?_; exact rfl) | (refine br_te ?_ ?_; exact rfl) | (refine br_fe ?_ ?_; exact rfl) | (apply br_pyE; (exact rfl); omega) | (apply br_pnE; (exact rfl); omega) | (apply when_pyE; (exact rfl); omega) | (apply when_pnE; (exact rfl); omega) | (apply br_npyE; (exact rfl); omega) | (apply br_npnE; (exact rfl); omega) | (apply when_npyE; (exact rfl); omega) | (apply when_npnE; (exact rfl); omega) | (refine br_pyE ?_ hc1 ?_; exact rfl) | (refine br_pnE ?_ hc1 ?_; exact rfl) | (refine when_pyE ?_ hc1 ?_; exact rfl) | (refine when_pnE ?_ hc1 ?_; exact rfl) | (refine br_npyE ?_ hc1 ?_; exact rfl) | (refine br_npnE ?_ hc1 ?_; exact rfl) | (refine when_npyE ?_ hc1 ?_; exact rfl) | (refine when_npnE ?_ hc1 ?_; exact rfl) | ((with_reducible show Ld _ _ _ _); first | (refine ldC0 hwd hx0 rfl ?_) | (refine ldC1 hwd hx0 rfl ?_) | (refine ldC hwd hx0 rfl ?_) | (refine ldC0 hwd hx1 rfl ?_) | (refine ldC1 hwd hx1 rfl ?_) | (refine ldC hwd hx1 rfl ?_) | (refine ldC0 hwd hx2 rfl ?_) | (refine ldC1 hwd hx2 rfl ?_) | (refine ldC hwd hx2 rfl ?_)) | ((with_reducible show IxS _ _ _ _ _); first | ((refine ixC hx0 hnl ?_ ?_; (first | rfl | omega))) | ((refine ixC hx1 hnl ?_ ?_; (first | rfl | omega))) | ((refine ixC hx2 hnl ?_ ?_; (first | rfl | omega)))) | ((with_reducible show LdN _ _ _ _ _); first | (refine ldNC hwd hx0 rfl ?_) | (refine ldNC hwd hx1 rfl ?_) | (refine ldNC hwd hx2 rfl ?_)) | ((with_reducible show CallT _ _ _ _ _ _); first | ((refine call_se (hf _) ?_ ?_ (fun v own' hv => ?_); (exact rfl); (exact rfl); (obtain ⟨b, rfl, rfl⟩ := hv))) | ((refine call_pe (hna _) ?_ ?_ ?_; (exact rfl); exact rfl)) | ((refine call_pe (hre _) ?_ ?_ ?_; (exact rfl); exact rfl))) | (refine ari ?_ ?_; omega) | (refine aru ?_ ?_; omega) | (apply sel; exact rfl) | (refine ix0 rfl ?_) | (refine ix1 rfl ?_) | (refine ix2 rfl ?_) | (refine ix3 rfl ?_) | (apply ixj; omega) | (refine ixn ?_ ?_; omega) | (refine ixs0 rfl ?_) | (refine ixs1 rfl ?_) | (refine ixs_j ?_ ?_; omega) | (refine ixs_n ?_ ?_; omega) | (apply ld_o; exact rfl) | (apply ldN_a; exact rfl) | (apply ldN_o; (exact rfl); exact rfl) | (apply st_o; (exact rfl); exact rfl) | (apply stN_o; (exact rfl); (exact rfl); exact rfl) | (refine new_i (fun bk hbk => ?_)) | (apply when_dE; (exact rfl); (exact rfl); all_goals intro hc) | (apply when_dF; (exact rfl); (exact rfl); all_goals intro hc) | (apply when_nE; (exact rfl); (exact rfl); all_goals intro hc) | (apply when_nF; (exact rfl); (exact rfl); all_goals intro hc) | (apply br_dE; (exact rfl); all_goals intro hc) | (apply br_nE; (exact rfl); all_goals intro hc) | (refine mm_min ?_) | (refine mm_max ?_) | (refine rem_i ?_ ?_; omega) | (refine SelN.mk ?_) | (refine cut_n ?_) | (refine Both.mk ?_ ?_) | (exact True.intro))
          exact ⟨rfl, (by first | exact ent_i | (repeat (first | exact Ent.refl | exact Ent.left | refine Ent.cons ?_ | refine Ent.app ?_)))⟩
      · by_cases hc0 : w0.toList = nonzW.toList
        · cases hc3 : (regM m).2 with
          | false =>
            rw [hc3] at hre
            repeat' ((try (conv => whnf)); first | (refine when_ye ?_ ?_; exact rfl) | (refine when_ne ?_ ?_; exact rfl) | (refine br_te ?_ ?_; exact rfl) | (refine br_fe ?_ ?_; exact rfl) | (apply br_pyE; (exact rfl); omega) | (apply br_pnE; (exact rfl); omega) | (apply when_pyE; (exact rfl); omega) | (apply when_pnE; (exact rfl); omega) | (apply br_npyE; (exact rfl); omega) | (apply br_npnE; (exact rfl); omega) | (apply when_npyE; (exact rfl); omega) | (apply when_npnE; (exact rfl); omega) | (refine br_pyE ?_ hc1 ?_; exact rfl) | (refine br_pnE ?_ hc1 ?_; exact rfl) | (refine when_pyE ?_ hc1 ?_; exact rfl) | (refine when_pnE ?_ hc1 ?_; exact rfl) | (refine br_npyE ?_ hc1 ?_; exact rfl) | (refine br_npnE ?_ hc1 ?_; exact rfl) | (refine when_npyE ?_ hc1 ?_; exact rfl) | (refine when_npnE ?_ hc1 ?_; exact rfl) | (refine br_pyE ?_ hc0 ?_; exact rfl) | (refine br_pnE ?_ hc0 ?_; exact rfl) | (refine when_pyE ?_ hc0 ?_; exact rfl) | (refine when_pnE ?_ hc0 ?_; exact rfl) | (refine br_npyE ?_ hc0 ?_; exact rfl) | (refine br_npnE ?_ hc0 ?_; exact rfl) | (refine when_npyE ?_ hc0 ?_; exact rfl) | (refine when_npnE ?_ hc0 ?_; exact rfl) | ((with_reducible show Ld _ _ _ _); first | (refine ldC0 hwd hx0 rfl ?_) | (refine ldC1 hwd hx0 rfl ?_) | (refine ldC hwd hx0 rfl ?_) | (refine ldC0 hwd hx1 rfl ?_) | (refine ldC1 hwd hx1 rfl ?_) | (refine ldC hwd hx1 rfl ?_) | (refine ldC0 hwd hx2 rfl ?_) | (refine ldC1 hwd hx2 rfl ?_) | (refine ldC hwd hx2 rfl ?_)) | ((with_reducible show IxS _ _ _ _ _); first | ((refine ixC hx0 hnl ?_ ?_; (first | rfl | omega))) | ((refine ixC hx1 hnl ?_ ?_; (first | rfl | omega))) | ((refine ixC hx2 hnl ?_ ?_; (first | rfl | omega)))) | ((with_reducible show LdN _ _ _ _ _); first | (refine ldNC hwd hx0 rfl ?_) | (refine ldNC hwd hx1 rfl ?_) | (refine ldNC hwd hx2 rfl ?_)) | ((with_reducible show CallT _ _ _ _ _ _); first | ((refine call_se (hf _) ?_ ?_ (fun v own' hv => ?_); (exact rfl); (exact rfl); (obtain ⟨b, rfl, rfl⟩ := hv))) | ((refine call_pe (hna _) ?_ ?_ ?_; (exact rfl); exact rfl)) | ((refine call_pe (hre _) ?_ ?_ ?_; (exact rfl); exact rfl))) | (refine ari ?_ ?_; omega) | (refine aru ?_ ?_; omega) | (apply sel; exact rfl) | (refine ix0 rfl ?_) | (refine ix1 rfl ?_) | (refine ix2 rfl ?_) | (refine ix3 rfl ?_) | (apply ixj; omega) | (refine ixn ?_ ?_; omega) | (refine ixs0 rfl ?_) | (refine ixs1 rfl ?_) | (refine ixs_j ?_ ?_; omega) | (refine ixs_n ?_ ?_; omega) | (apply ld_o; exact rfl) | (apply ldN_a; exact rfl) | (apply ldN_o; (exact rfl); exact rfl) | (apply st_o; (exact rfl); exact rfl) | (apply stN_o; (exact rfl); (exact rfl); exact rfl) | (refine new_i (fun bk hbk => ?_)) | (apply when_dE; (exact rfl); (exact rfl); all_goals intro hc) | (apply when_dF; (exact rfl); (exact rfl); all_goals intro hc) | (apply when_nE; (exact rfl); (exact rfl); all_goals intro hc) | (apply when_nF; (exact rfl); (exact rfl); all_goals intro hc) | (apply br_dE; (exact rfl); all_goals intro hc) | (apply br_nE; (exact rfl); all_goals intro hc) | (refine mm_min ?_) | (refine mm_max ?_) | (refine rem_i ?_ ?_; omega) | (refine SelN.mk ?_) | (refine cut_n ?_) | (refine Both.mk ?_ ?_) | (exact True.intro))
            exact ⟨rfl, (by first | exact ent_i | (repeat (first | exact Ent.refl | exact Ent.left | refine Ent.cons ?_ | refine Ent.app ?_)))⟩
          | true =>
            have hc2 : nameB r2 = false := by
              cases hq : nameB r2 with
              | false => rfl
              | true => exact absurd ⟨.inr hc0, hc3, hq⟩ hj'
            rw [hc3] at hre
            rw [hc2] at hna
            repeat' ((try (conv => whnf)); first | (refine when_ye ?_ ?_; exact rfl) | (refine when_ne ?_ ?_; exact rfl) | (refine br_te ?_ ?_; exact rfl) | (refine br_fe ?_ ?_; exact rfl) | (apply br_pyE; (exact rfl); omega) | (apply br_pnE; (exact rfl); omega) | (apply when_pyE; (exact rfl); omega) | (apply when_pnE; (exact rfl); omega) | (apply br_npyE; (exact rfl); omega) | (apply br_npnE; (exact rfl); omega) | (apply when_npyE; (exact rfl); omega) | (apply when_npnE; (exact rfl); omega) | (refine br_pyE ?_ hc1 ?_; exact rfl) | (refine br_pnE ?_ hc1 ?_; exact rfl) | (refine when_pyE ?_ hc1 ?_; exact rfl) | (refine when_pnE ?_ hc1 ?_; exact rfl) | (refine br_npyE ?_ hc1 ?_; exact rfl) | (refine br_npnE ?_ hc1 ?_; exact rfl) | (refine when_npyE ?_ hc1 ?_; exact rfl) | (refine when_npnE ?_ hc1 ?_; exact rfl) | (refine br_pyE ?_ hc0 ?_; exact rfl) | (refine br_pnE ?_ hc0 ?_; exact rfl) | (refine when_pyE ?_ hc0 ?_; exact rfl) | (refine when_pnE ?_ hc0 ?_; exact rfl) | (refine br_npyE ?_ hc0 ?_; exact rfl) | (refine br_npnE ?_ hc0 ?_; exact rfl) | (refine when_npyE ?_ hc0 ?_; exact rfl) | (refine when_npnE ?_ hc0 ?_; exact rfl) | ((with_reducible show Ld _ _ _ _); first | (refine ldC0 hwd hx0 rfl ?_) | (refine ldC1 hwd hx0 rfl ?_) | (refine ldC hwd hx0 rfl ?_) | (refine ldC0 hwd hx1 rfl ?_) | (refine ldC1 hwd hx1 rfl ?_) | (refine ldC hwd hx1 rfl ?_) | (refine ldC0 hwd hx2 rfl ?_) | (refine ldC1 hwd hx2 rfl ?_) | (refine ldC hwd hx2 rfl ?_)) | ((with_reducible show IxS _ _ _ _ _); first | ((refine ixC hx0 hnl ?_ ?_; (first | rfl | omega))) | ((refine ixC hx1 hnl ?_ ?_; (first | rfl | omega))) | ((refine ixC hx2 hnl ?_ ?_; (first | rfl | omega)))) | ((with_reducible show LdN _ _ _ _ _); first | (refine ldNC hwd hx0 rfl ?_) | (refine ldNC hwd hx1 rfl ?_) | (refine ldNC hwd hx2 rfl ?_)) | ((with_reducible show CallT _ _ _ _ _ _); first | ((refine call_se (hf _) ?_ ?_ (fun v own' hv => ?_); (exact rfl); (exact rfl); (obtain ⟨b, rfl, rfl⟩ := hv))) | ((refine call_pe (hna _) ?_ ?_ ?_; (exact rfl); exact rfl)) | ((refine call_pe (hre _) ?_ ?_ ?_; (exact rfl); exact rfl))) | (refine ari ?_ ?_; omega) | (refine aru ?_ ?_; omega) | (apply sel; exact rfl) | (refine ix0 rfl ?_) | (refine ix1 rfl ?_) | (refine ix2 rfl ?_) | (refine ix3 rfl ?_) | (apply ixj; omega) | (refine ixn ?_ ?_; omega) | (refine ixs0 rfl ?_) | (refine ixs1 rfl ?_) | (refine ixs_j ?_ ?_; omega) | (refine ixs_n ?_ ?_; omega) | (apply ld_o; exact rfl) | (apply ldN_a; exact rfl) | (apply ldN_o; (exact rfl); exact rfl) | (apply st_o; (exact rfl); exact rfl) | (apply stN_o; (exact rfl); (exact rfl); exact rfl) | (refine new_i (fun bk hbk => ?_)) | (apply when_dE; (exact rfl); (exact rfl); all_goals intro hc) | (apply when_dF; (exact rfl); (exact rfl); all_goals intro hc) | (apply when_nE; (exact rfl); (exact rfl); all_goals intro hc) | (apply when_nF; (exact rfl); (exact rfl); all_goals intro hc) | (apply br_dE; (exact rfl); all_goals intro hc) | (apply br_nE; (exact rfl); all_goals intro hc) | (refine mm_min ?_) | (refine mm_max ?_) | (refine rem_i ?_ ?_; omega) | (refine SelN.mk ?_) | (refine cut_n ?_) | (refine Both.mk ?_ ?_) | (exact True.intro))
            exact ⟨rfl, (by first | exact ent_i | (repeat (first | exact Ent.refl | exact Ent.left | refine Ent.cons ?_ | refine Ent.app ?_)))⟩
        · repeat' ((try (conv => whnf)); first | (refine when_ye ?_ ?_; exact rfl) | (refine when_ne ?_ ?_; exact rfl) | (refine br_te ?_ ?_; exact rfl) | (refine br_fe ?_ ?_; exact rfl) | (apply br_pyE; (exact rfl); omega) | (apply br_pnE; (exact rfl); omega) | (apply when_pyE; (exact rfl); omega) | (apply when_pnE; (exact rfl); omega) | (apply br_npyE; (exact rfl); omega) | (apply br_npnE; (exact rfl); omega) | (apply when_npyE; (exact rfl); omega) | (apply when_npnE; (exact rfl); omega) | (refine br_pyE ?_ hc1 ?_; exact rfl) | (refine br_pnE ?_ hc1 ?_; exact rfl) | (refine when_pyE ?_ hc1 ?_; exact rfl) | (refine when_pnE ?_ hc1 ?_; exact rfl) | (refine br_npyE ?_ hc1 ?_; exact rfl) | (refine br_npnE ?_ hc1 ?_; exact rfl) | (refine when_npyE ?_ hc1 ?_; exact rfl) | (refine when_npnE ?_ hc1 ?_; exact rfl) | (refine br_pyE ?_ hc0 ?_; exact rfl) | (refine br_pnE ?_ hc0 ?_; exact rfl) | (refine when_pyE ?_ hc0 ?_; exact rfl) | (refine when_pnE ?_ hc0 ?_; exact rfl) | (refine br_npyE ?_ hc0 ?_; exact rfl) | (refine br_npnE ?_ hc0 ?_; exact rfl) | (refine when_npyE ?_ hc0 ?_; exact rfl) | (refine when_npnE ?_ hc0 ?_; exact rfl) | ((with_reducible show Ld _ _ _ _); first | (refine ldC0 hwd hx0 rfl ?_) | (refine ldC1 hwd hx0 rfl ?_) | (refine ldC hwd hx0 rfl ?_) | (refine ldC0 hwd hx1 rfl ?_) | (refine ldC1 hwd hx1 rfl ?_) | (refine ldC hwd hx1 rfl ?_) | (refine ldC0 hwd hx2 rfl ?_) | (refine ldC1 hwd hx2 rfl ?_) | (refine ldC hwd hx2 rfl ?_)) | ((with_reducible show IxS _ _ _ _ _); first | ((refine ixC hx0 hnl ?_ ?_; (first | rfl | omega))) | ((refine ixC hx1 hnl ?_ ?_; (first | rfl | omega))) | ((refine ixC hx2 hnl ?_ ?_; (first | rfl | omega)))) | ((with_reducible show LdN _ _ _ _ _); first | (refine ldNC hwd hx0 rfl ?_) | (refine ldNC hwd hx1 rfl ?_) | (refine ldNC hwd hx2 rfl ?_)) | ((with_reducible show CallT _ _ _ _ _ _); first | ((refine call_se (hf _) ?_ ?_ (fun v own' hv => ?_); (exact rfl); (exact rfl); (obtain ⟨b, rfl, rfl⟩ := hv))) | ((refine call_pe (hna _) ?_ ?_ ?_; (exact rfl); exact rfl)) | ((refine call_pe (hre _) ?_ ?_ ?_; (exact rfl); exact rfl))) | (refine ari ?_ ?_; omega) | (refine aru ?_ ?_; omega) | (apply sel; exact rfl) | (refine ix0 rfl ?_) | (refine ix1 rfl ?_) | (refine ix2 rfl ?_) | (refine ix3 rfl ?_) | (apply ixj; omega) | (refine ixn ?_ ?_; omega) | (refine ixs0 rfl ?_) | (refine ixs1 rfl ?_) | (refine ixs_j ?_ ?_; omega) | (refine ixs_n ?_ ?_; omega) | (apply ld_o; exact rfl) | (apply ldN_a; exact rfl) | (apply ldN_o; (exact rfl); exact rfl) | (apply st_o; (exact rfl); exact rfl) | (apply stN_o; (exact rfl); (exact rfl); exact rfl) | (refine new_i (fun bk hbk => ?_)) | (apply when_dE; (exact rfl); (exact rfl); all_goals intro hc) | (apply when_dF; (exact rfl); (exact rfl); all_goals intro hc) | (apply when_nE; (exact rfl); (exact rfl); all_goals intro hc) | (apply when_nF; (exact rfl); (exact rfl); all_goals intro hc) | (apply br_dE; (exact rfl); all_goals intro hc) | (apply br_nE; (exact rfl); all_goals intro hc) | (refine mm_min ?_) | (refine mm_max ?_) | (refine rem_i ?_ ?_; omega) | (refine SelN.mk ?_) | (refine cut_n ?_) | (refine Both.mk ?_ ?_) | (exact True.intro))
          exact ⟨rfl, (by first | exact ent_i | (repeat (first | exact Ent.refl | exact Ent.left | refine Ent.cons ?_ | refine Ent.app ?_)))⟩
    · repeat' ((try (conv => whnf)); first | (refine when_ye ?_ ?_; exact rfl) | (refine when_ne ?_ ?_; exact rfl) | (refine br_te ?_ ?_; exact rfl) | (refine br_fe ?_ ?_; exact rfl) | (apply br_pyE; (exact rfl); omega) | (apply br_pnE; (exact rfl); omega) | (apply when_pyE; (exact rfl); omega) | (apply when_pnE; (exact rfl); omega) | (apply br_npyE; (exact rfl); omega) | (apply br_npnE; (exact rfl); omega) | (apply when_npyE; (exact rfl); omega) | (apply when_npnE; (exact rfl); omega) | ((with_reducible show CallT _ _ _ _ _ _); first | ((refine call_se (hf _) ?_ ?_ (fun v own' hv => ?_); (exact rfl); (exact rfl); (obtain ⟨b, rfl, rfl⟩ := hv)))) | (refine ari ?_ ?_; omega) | (refine aru ?_ ?_; omega) | (apply sel; exact rfl) | (refine ix0 rfl ?_) | (refine ix1 rfl ?_) | (refine ix2 rfl ?_) | (refine ix3 rfl ?_) | (apply ixj; omega) | (refine ixn ?_ ?_; omega) | (refine ixs0 rfl ?_) | (refine ixs1 rfl ?_) | (refine ixs_j ?_ ?_; omega) | (refine ixs_n ?_ ?_; omega) | (apply ld_o; exact rfl) | (apply ldN_a; exact rfl) | (apply ldN_o; (exact rfl); exact rfl) | (apply st_o; (exact rfl); exact rfl) | (apply stN_o; (exact rfl); (exact rfl); exact rfl) | (refine new_i (fun bk hbk => ?_)) | (apply when_dE; (exact rfl); (exact rfl); all_goals intro hc) | (apply when_dF; (exact rfl); (exact rfl); all_goals intro hc) | (apply when_nE; (exact rfl); (exact rfl); all_goals intro hc) | (apply when_nF; (exact rfl); (exact rfl); all_goals intro hc) | (apply br_dE; (exact rfl); all_goals intro hc) | (apply br_nE; (exact rfl); all_goals intro hc) | (refine mm_min ?_) | (refine mm_max ?_) | (refine rem_i ?_ ?_; omega) | (refine SelN.mk ?_) | (refine cut_n ?_) | (refine Both.mk ?_ ?_) | (exact True.intro))
      exact ⟨rfl, (by first | exact ent_i | (repeat (first | exact Ent.refl | exact Ent.left | refine Ent.cons ?_ | refine Ent.app ?_)))⟩
end
end Go.Proofs.YtiimndcifcoofaaGreatDoor
namespace Go.Proofs.YtiimndcifcoofaaGreatDoor
open Go Go.RowKit
set_option maxRecDepth 10000
set_option maxHeartbeats 4000000
section
variable {W0 : World} {own : Own}
def LinesR (W0 : World) (own : Own) (l : List ByteArray) : Value → Own → Prop := fun v own' => ∃ a cap L, v = .slice a l.length cap ∧ RdE encS 1 W0 L a l ∧ Ent W0 own' (L ++ own)
theorem slA0 {b m sz : Nat} : slA (some ⟨b, 0, none⟩) m 0 sz = some ⟨b, 0, none⟩ := by
  unfold slA
  split
  · rfl
  · simp [addr_add]
theorem rd_take {a : Option Addr} {l l2 : List ByteArray} (h : RdE encS 1 W0 own a (l ++ l2)) : RdE encS 1 W0 own a l :=
  ⟨fun hn => h.isS (by simp [hn]), fun _ _ => rfl, fun {j k x v} hx hv => h.cell (j := j) (k := k) (x := x) (v := v) (by rw [List.getElem?_append_left (List.getElem?_eq_some_iff.1 hx).1]; exact hx) hv⟩
theorem sp_split10 (hM : MaxAt W0) (s : ByteArray) (hs : s.size < 4294967281) : Spec Tryz.prog W0 76 [.string s, .string ⟨#[10]⟩] own fun v own' => ∃ b, v = .slice (some ⟨b, 0, none⟩) ((plL [] s.data.toList).map bW).length ((plL [] s.data.toList).map bW).length ∧ own' = canE encS 9 b ((plL [] s.data.toList).map bW) :: own := by
  intro w hw
  obtain ⟨m, hm⟩ := hM.st hw
  refine (shelf_strings_Split s ⟨#[10]⟩ m w hs hm (by decide)).mono ?_
  rintro e w' ⟨rfl, rfl⟩
  have h1 : (Go.Lib.splitB ⟨#[10]⟩ 0 (Go.Lib.countB s ⟨#[10]⟩) s).map (·.data.toList) = plL [] s.data.toList := by
    rw [Go.Lib.splitB_data]
    exact split_pl _
  have h2 : Go.Lib.splitB ⟨#[10]⟩ 0 (Go.Lib.countB s ⟨#[10]⟩) s = (plL [] s.data.toList).map bW := by
    rw [← h1, List.map_map]
    have : (bW ∘ fun x : ByteArray => x.data.toList) = id := by funext x; exact bW_self x
    rw [this, List.map_id]
  have h3 : Go.Lib.countB s ⟨#[10]⟩ + 1 = ((plL [] s.data.toList).map bW).length := by
    rw [← h2, Go.Lib.splitB_all ⟨#[10]⟩ (by decide) 0 _ s rfl]
  rw [h3, h2]
  refine ⟨_, _, rfl, hw.push _ (p := fun o => o = Obj.cells ((((plL [] s.data.toList).map bW).map encS).flatten).toArray 9) (by rw [flatS]), _, rfl, rfl⟩
theorem sp_lines (hA : AsmAt W0) (s : ByteArray) (hs : s.size ≤ 65536) : Spec Tryz.prog W0 49 [.string s] own (LinesR W0 own (linesB s)) := by
  refine spec_of mixed low_asm_lines (by simp [ir_asm_lines]) ?_
  have hf := fun own => sp_split10 (own := own) hA.mx s (by omega)
  obtain ⟨X, z, h1, h2⟩ := ln_pl s.data.toList []
  have hln : (plL [] s.data.toList).length ≤ s.size + 1 := by
    have := Go.Lib.splitB_all ⟨#[10]⟩ (by decide) 0 _ s rfl
    have h3 := Go.Lib.countB_le ⟨#[10]⟩ (by decide) s.size s (Nat.le_refl _)
    have h4 : (Go.Lib.splitB ⟨#[10]⟩ 0 (Go.Lib.countB s ⟨#[10]⟩) s).map (·.data.toList) = plL [] s.data.toList := by
      rw [Go.Lib.splitB_data]
      exact split_pl _
    rw [← h4, List.length_map]
    omega
  rw [h1] at hln
  simp only [List.length_append, List.length_singleton] at hln
  rw [h1] at hf
  have e1 : (X ++ [z]).map bW = X.map bW ++ [bW z] := by simp
  rw [e1] at hf
  unfold linesB
  rw [h2]
  generalize hXB : X.map bW = XB at hf
  have hXl : XB.length = X.length := by rw [← hXB, List.length_map]
  have hwd : ∀ x ∈ XB ++ [bW z], (encS x).length = 1 := fun _ _ => rfl
  have hnl : (XB ++ [bW z]).length = (XB ++ [bW z]).length := rfl
  have hx : (XB ++ [bW z])[XB.length]? = some (bW z) := by simp
  have hlen : ((XB ++ [bW z]).length : Int) = XB.length + 1 := by simp
  have hRd : ∀ b, RdE encS 1 W0 [canE encS 9 b (XB ++ [bW z])] (some ⟨b, 0, none⟩) (XB ++ [bW z]) := fun b => can_rd hwd
  by_cases hz : z = []
  · rw [if_pos hz, hXB]
    have hzz : (bW z).toList = (⟨#[]⟩ : ByteArray).toList := by rw [hz]; rfl
    repeat' ((try (conv => whnf)); first | (refine when_ye ?_ ?_; exact rfl) | (refine when_ne ?_ ?_; exact rfl) | (refine br_te ?_ ?_; exact rfl) | (refine br_fe ?_ ?_; exact rfl) | (apply br_pyE; (exact rfl); omega) | (apply br_pnE; (exact rfl); omega) | (apply when_pyE; (exact rfl); omega) | (apply when_pnE; (exact rfl); omega) | (apply br_npyE; (exact rfl); omega) | (apply br_npnE; (exact rfl); omega) | (apply when_npyE; (exact rfl); omega) | (apply when_npnE; (exact rfl); omega) | (refine br_pyE ?_ hzz ?_; exact rfl) | (refine br_pnE ?_ hzz ?_; exact rfl) | (refine when_pyE ?_ hzz ?_; exact rfl) | (refine when_pnE ?_ hzz ?_; exact rfl) | (refine br_npyE ?_ hzz ?_; exact rfl) | (refine br_npnE ?_ hzz ?_; exact rfl) | (refine when_npyE ?_ hzz ?_; exact rfl) | (refine when_npnE ?_ hzz ?_; exact rfl) | (refine ⟨0, XB.length, (XB ++ [bW z]).length, rfl, ?_, ?_, ?_, ?_, ?_, ?_, ?_⟩; (show ((XB ++ [bW z]).length : Int) - 1 = _; omega); (exact rfl); (omega); (omega); (omega); (simp)) | ((with_reducible show Ld _ _ _ _); first | (refine ldC0 hwd hx rfl ?_) | (refine ldC1 hwd hx rfl ?_) | (refine ldC hwd hx rfl ?_)) | ((with_reducible show IxS _ _ _ _ _); first | ((refine ixC hx hnl ?_ ?_; (first | rfl | omega)))) | ((with_reducible show LdN _ _ _ _ _); first | (refine ldNC hwd hx rfl ?_)) | ((with_reducible show CallT _ _ _ _ _ _); first | ((refine call_se (hf _) ?_ ?_ (fun v own' hv => ?_); (exact rfl); (exact rfl); (obtain ⟨b, rfl, rfl⟩ := hv)))) | (refine ari ?_ ?_; omega) | (refine aru ?_ ?_; omega) | (apply sel; exact rfl) | (refine ix0 rfl ?_) | (refine ix1 rfl ?_) | (refine ix2 rfl ?_) | (refine ix3 rfl ?_) | (apply ixj; omega) | (refine ixn ?_ ?_; omega) | (refine ixs0 rfl ?_) | (refine ixs1 rfl ?_) | (refine ixs_j ?_ ?_; omega) | (refine ixs_n ?_ ?_; omega) | (apply ld_o; exact rfl) | (apply ldN_a; exact rfl) | (apply ldN_o; (exact rfl); exact rfl) | (apply st_o; (exact rfl); exact rfl) | (apply stN_o; (exact rfl); (exact rfl); exact rfl) | (refine new_i (fun bk hbk => ?_)) | (apply when_dE; (exact rfl); (exact rfl); all_goals intro hc) | (apply when_dF; (exact rfl); (exact rfl); all_goals intro hc) | (apply when_nE; (exact rfl); (exact rfl); all_goals intro hc) | (apply when_nF; (exact rfl); (exact rfl); all_goals intro hc) | (apply br_dE; (exact rfl); all_goals intro hc) | (apply br_nE; (exact rfl); all_goals intro hc) | (refine mm_min ?_) | (refine mm_max ?_) | (refine rem_i ?_ ?_; omega) | (refine SelN.mk ?_) | (refine cut_n ?_) | (refine Both.mk ?_ ?_) | (exact True.intro))
    refine ⟨_, _, [canE encS 9 b (XB ++ [bW z])], rfl, ?_, (by first | exact ent_i | (repeat (first | exact Ent.refl | exact Ent.left | refine Ent.cons ?_ | refine Ent.app ?_)))⟩
    rw [slA0]
    exact rd_take (hRd _)
  · rw [if_neg hz, e1, hXB]
    have hzz : ¬ (bW z).toList = (⟨#[]⟩ : ByteArray).toList := fun e => hz (by
      have := congrArg (fun x : ByteArray => x.data.toList) (ba_toList e)
      simpa [bW] using this)
    repeat' ((try (conv => whnf)); first | (refine when_ye ?_ ?_; exact rfl) | (refine when_ne ?_ ?_; exact rfl) | (refine br_te ?_ ?_; exact rfl) | (refine br_fe ?_ ?_; exact rfl) | (apply br_pyE; (exact rfl); omega) | (apply br_pnE; (exact rfl); omega) | (apply when_pyE; (exact rfl); omega) | (apply when_pnE; (exact rfl); omega) | (apply br_npyE; (exact rfl); omega) | (apply br_npnE; (exact rfl); omega) | (apply when_npyE; (exact rfl); omega) | (apply when_npnE; (exact rfl); omega) | (refine br_pyE ?_ hzz ?_; exact rfl) | (refine br_pnE ?_ hzz ?_; exact rfl) | (refine when_pyE ?_ hzz ?_; exact rfl) | (refine when_pnE ?_ hzz ?_; exact rfl) | (refine br_npyE ?_ hzz ?_; exact rfl) | (refine br_npnE ?_ hzz ?_; exact rfl) | (refine when_npyE ?_ hzz ?_; exact rfl) | (refine when_npnE ?_ hzz ?_; exact rfl) | ((with_reducible show Ld _ _ _ _); first | (refine ldC0 hwd hx rfl ?_) | (refine ldC1 hwd hx rfl ?_) | (refine ldC hwd hx rfl ?_)) | ((with_reducible show IxS _ _ _ _ _); first | ((refine ixC hx hnl ?_ ?_; (first | rfl | omega)))) | ((with_reducible show LdN _ _ _ _ _); first | (refine ldNC hwd hx rfl ?_)) | ((with_reducible show CallT _ _ _ _ _ _); first | ((refine call_se (hf _) ?_ ?_ (fun v own' hv => ?_); (exact rfl); (exact rfl); (obtain ⟨b, rfl, rfl⟩ := hv)))) | (refine ari ?_ ?_; omega) | (refine aru ?_ ?_; omega) | (apply sel; exact rfl) | (refine ix0 rfl ?_) | (refine ix1 rfl ?_) | (refine ix2 rfl ?_) | (refine ix3 rfl ?_) | (apply ixj; omega) | (refine ixn ?_ ?_; omega) | (refine ixs0 rfl ?_) | (refine ixs1 rfl ?_) | (refine ixs_j ?_ ?_; omega) | (refine ixs_n ?_ ?_; omega) | (apply ld_o; exact rfl) | (apply ldN_a; exact rfl) | (apply ldN_o; (exact rfl); exact rfl) | (apply st_o; (exact rfl); exact rfl) | (apply stN_o; (exact rfl); (exact rfl); exact rfl) | (refine new_i (fun bk hbk => ?_)) | (apply when_dE; (exact rfl); (exact rfl); all_goals intro hc) | (apply when_dF; (exact rfl); (exact rfl); all_goals intro hc) | (apply when_nE; (exact rfl); (exact rfl); all_goals intro hc) | (apply when_nF; (exact rfl); (exact rfl); all_goals intro hc) | (apply br_dE; (exact rfl); all_goals intro hc) | (apply br_nE; (exact rfl); all_goals intro hc) | (refine mm_min ?_) | (refine mm_max ?_) | (refine rem_i ?_ ?_; omega) | (refine SelN.mk ?_) | (refine cut_n ?_) | (refine Both.mk ?_ ?_) | (exact True.intro))
    exact ⟨_, _, [canE encS 9 b (XB ++ [bW z])], rfl, hRd _, (by first | exact ent_i | (repeat (first | exact Ent.refl | exact Ent.left | refine Ent.cons ?_ | refine Ent.app ?_)))⟩
end
end Go.Proofs.YtiimndcifcoofaaGreatDoor
namespace Go.Proofs.YtiimndcifcoofaaGreatDoor
open Go Go.RowKit
set_option maxRecDepth 10000
set_option maxHeartbeats 4000000
section
variable {own : Own} {W0 : World}
theorem mlk_i {kk b : Nat} {key : Value} {l : List (Value × Value)} {r : Option Value} {K : Option Value → Prop} [m : MemC b (mapO l) own] (hf : findM kk key l = some r) (hk : K r) : MlkT own kk b key K := ⟨l, r, m.h, hf, hk⟩
theorem mup_i {kk b : Nat} {key v : Value} {l l' : List (Value × Value)} {K : Own → Prop} {C : (Obj → Prop) → Own} [m : UpC b (mapO l) own C] (hf : (findM kk key l).isSome = true) (hu : updM kk key v l = l') (hk : K (C (mapO l'))) : MupT own kk b key v K :=
  ⟨l, _, m.h _, hf, by rw [hu]; exact hk⟩
theorem newM_i {K : Nat → Own → Prop} (h : ∀ b, W0.heap.size ≤ b → K b ((b, mapO []) :: own)) : NewM W0 own K := ⟨h⟩
end
def lbV (lb : List (ByteArray × Int)) : List (Value × Value) := lb.map fun x => (Value.string x.1, Value.int .i64 x.2)
theorem find_lb (n : ByteArray) : ∀ lb : List (ByteArray × Int), findM 2 (.string n) (lbV lb) = some ((alook n lb).map (Value.int .i64))
  | [] => rfl
  | x :: r => by
    have ih := find_lb n r
    show (match eqOne 2 (.string n) (.string x.1) with | some true => some (some (Value.int .i64 x.2)) | some false => findM 2 (.string n) (lbV r) | none => none) = _
    unfold alook
    simp only [eqOne]
    by_cases h : n.toList = x.1.toList
    · rw [if_pos h]
      have h2 : n.data.toList = x.1.data.toList := by rw [ByteArray.toList_eq, ByteArray.toList_eq] at h; exact h
      rw [decide_eq_true h2]
      rfl
    · rw [if_neg h]
      have h2 : ¬ n.data.toList = x.1.data.toList := fun e => h (by rw [ByteArray.toList_eq, ByteArray.toList_eq]; exact e)
      rw [decide_eq_false h2]
      exact ih
theorem upd_lb (n : ByteArray) (v : Int) : ∀ lb : List (ByteArray × Int), alook n lb = none → updM 2 (.string n) (.int .i64 v) (lbV lb) = lbV (lb ++ [(n, v)])
  | [], _ => rfl
  | x :: r, h => by
    unfold alook at h
    split at h
    · cases h
    · rename_i hne
      have ih := upd_lb n v r h
      show (match eqOne 2 (.string n) (.string x.1) with | some true => (Value.string n, Value.int .i64 v) :: lbV r | _ => (Value.string x.1, Value.int .i64 x.2) :: updM 2 (.string n) (.int .i64 v) (lbV r)) = _
      have h2 : ¬ n.data.toList = x.1.data.toList := fun e => hne (by rw [ByteArray.toList_eq, ByteArray.toList_eq]; exact e)
      simp only [eqOne, decide_eq_false h2]
      rw [ih]
      rfl
end Go.Proofs.YtiimndcifcoofaaGreatDoor
