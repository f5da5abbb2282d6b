/- What the laws share, part 35. No condition. -/
import Derived.Test.YtiimndcifcoofaaGreatDoorY34
namespace Go.Proofs.YtiimndcifcoofaaGreatDoor
open Go Go.RowKit
set_option maxRecDepth 10000
set_option maxHeartbeats 4000000
theorem sct_n {a b : ByteArray} {K : Value → Prop} (c : ByteArray) (hc : a ++ b = c) (hs : a.size + b.size ≤ 140737488355328) (h : K (.string c)) : SctT a b K := ⟨by omega, by rw [hc]; exact h⟩
section
variable {W0 : World} {own : Own}
theorem call_sortD {a : Option Addr} {cap : Nat} {l : List Int} {D r : Own} {k : FuncId} {args : List Value} {K : Value → Own → Prop} (hB : BufE encI 3 1 a cap l D) (hl : l.length < 4611686018427387904) (ho : own = D ++ r) (ek : k = 45) (ea : args = [.slice a l.length cap])
    (hk : ∀ D', BufE encI 3 1 a cap (srt l) D' → K (.tuple #[]) (D' ++ r)) : CallT Tryz.prog W0 own k args K := by
  subst ho
  exact call_x (σ := { D : Own // BufE encI 3 1 a cap (srt l) D }) (R := fun _ v => v = .tuple #[]) (O := fun D => D.1 ++ r)
    (fun w hw => (sp_sort (W0 := W0) hB (At.head (r := r)) hl w hw).mono fun _ _ ⟨v, o, he, hs, D, ⟨hv, hD⟩, hE⟩ => ⟨v, o, he, hs, ⟨D, hD⟩, hv, hE⟩) ek ea (fun s v hv => by subst hv; exact hk s.1 s.2)
theorem call_cmpD {a : Option Addr} {cap : Nat} {l : List Int} {D r : Own} {k : FuncId} {args : List Value} {K : Value → Own → Prop} (hB : BufE encI 3 1 a cap (srt l) D) (hl : l.length ≤ 4611686018427387904) (ho : own = D ++ r) (ek : k = 46) (ea : args = [.slice a l.length cap])
    (hk : ∀ D', BufE encI 3 1 a cap (cmp (srt l)) D' → K (.slice a (cmp (srt l)).length cap) (D' ++ r)) : CallT Tryz.prog W0 own k args K := by
  subst ho
  rw [← srt_len l] at ea
  exact call_x (σ := { D : Own // BufE encI 3 1 a cap (cmp (srt l)) D }) (R := fun _ v => v = .slice a (cmp (srt l)).length cap) (O := fun D => D.1 ++ r)
    (fun w hw => (sp_compact (W0 := W0) hB (At.head (r := r)) (by rw [srt_len]; omega) (srt_sorted l) w hw).mono fun _ _ ⟨v, o, he, hs, D, ⟨hv, hD⟩, hE⟩ => ⟨v, o, he, hs, ⟨D, hD⟩, hv, hE⟩) ek ea (fun s v hv => by subst hv; exact hk s.1 s.2)
theorem sp_targets (hF : FormsAt W0) {a : Option Addr} {cap : Nat} {p : List Ins} (hR : RdE Ins.enc 5 W0 own a p) (hp : p.length ≤ 64) :
    Spec Tryz.prog W0 57 [.slice a p.length cap] own fun v own' => ∃ a' cap' D, v = .slice a' (tgtT p).length cap' ∧ BufE encI 3 1 a' cap' (tgtT p) D ∧ Ent W0 own' (D ++ own) := by
  refine spec_of mixed low_asm_targets (by simp [ir_asm_targets]) ?_
  repeat' ((try (conv => whnf)); first | (refine when_ye ?_ ?_; exact rfl) | (refine when_ne ?_ ?_; exact rfl) | (refine br_te ?_ ?_; exact rfl) | (refine br_fe ?_ ?_; exact rfl) | (apply br_pyE; (exact rfl); omega) | (apply br_pnE; (exact rfl); omega) | (apply when_pyE; (exact rfl); omega) | (apply when_pnE; (exact rfl); omega) | (apply br_npyE; (exact rfl); omega) | (apply br_npnE; (exact rfl); omega) | (apply when_npyE; (exact rfl); omega) | (apply when_npnE; (exact rfl); omega) | (refine ari ?_ ?_; omega) | (refine aru ?_ ?_; omega) | (apply sel; exact rfl) | (refine ix0 rfl ?_) | (refine ix1 rfl ?_) | (refine ix2 rfl ?_) | (refine ix3 rfl ?_) | (apply ixj; omega) | (refine ixn ?_ ?_; omega) | (refine ixs0 rfl ?_) | (refine ixs1 rfl ?_) | (refine ixs_j ?_ ?_; omega) | (refine ixs_n ?_ ?_; omega) | (apply ld_o; exact rfl) | (apply ldN_a; exact rfl) | (apply ldN_o; (exact rfl); exact rfl) | (apply st_o; (exact rfl); exact rfl) | (apply stN_o; (exact rfl); (exact rfl); exact rfl) | (refine new_i (fun bk hbk => ?_)) | (apply when_dE; (exact rfl); (exact rfl); all_goals intro hc) | (apply when_dF; (exact rfl); (exact rfl); all_goals intro hc) | (apply when_nE; (exact rfl); (exact rfl); all_goals intro hc) | (apply when_nF; (exact rfl); (exact rfl); all_goals intro hc) | (apply br_dE; (exact rfl); all_goals intro hc) | (apply br_nE; (exact rfl); all_goals intro hc) | (refine mm_min ?_) | (refine mm_max ?_) | (refine rem_i ?_ ?_; omega) | (refine SelN.mk ?_) | (refine cut_n ?_) | (refine Both.mk ?_ ?_) | (exact True.intro))
  refine loop_i (σ := Nat × List Int × Option Addr × Nat × Own) (fun x => [(10, .int .i64 x.1), (3, .slice x.2.2.1 x.2.1.length x.2.2.2.1)]) (fun x => x.2.2.2.2 ++ own) (fun x => x.1 ≤ p.length ∧ x.2.1.length ≤ x.1 ∧ BufE encI 3 1 x.2.2.1 x.2.2.2.1 x.2.1 x.2.2.2.2 ∧ x.2.1 ++ rawT p.length (p.drop x.1) x.1 = rawT p.length p 0) (fun x => p.length - x.1) (0, [], none, 0, []) ⟨Nat.zero_le _, Nat.le_refl _, BufE.nil, rfl⟩ (by repeat' (first | exact True.intro | refine And.intro ?_ ?_ | exact rfl | exact vi (by omega) | (dsimp only; exact rfl) | (dsimp only; exact vi (by omega)))) Ent.refl rfl ?_
  rintro ⟨k, acc, b, c, D⟩ junk ⟨hk, hal, hB, hI⟩
  dsimp only at hk hal hB hI ⊢
  by_cases hlt : k < p.length
  · have hlt' : (k : Int) < p.length := by omega
    obtain ⟨i, hi⟩ : ∃ i, p[k]? = some i := ⟨_, List.getElem?_eq_getElem hlt⟩
    have hd : p.drop k = i :: p.drop (k + 1) := by
      rw [List.drop_eq_getElem_cons hlt]
      congr 1
      exact (List.getElem?_eq_some_iff.1 hi).2
    rw [hd, rawT] at hI
    have hs := fun own => sp_iskips W0 own hF i
    have hr := iskip_le i
    cases hq : iskips i with
    | false =>
      rw [hq] at hs hI
      rw [if_neg (fun h => by cases h.1)] at hI
      generalize iskip i = s at *
      obtain ⟨io, ia, ib, ic, im⟩ := i
      repeat' ((try (conv => whnf)); first | (refine when_ye ?_ ?_; exact rfl) | (refine when_ne ?_ ?_; exact rfl) | (refine br_te ?_ ?_; exact rfl) | (refine br_fe ?_ ?_; exact rfl) | (apply br_pyE; (exact rfl); omega) | (apply br_pnE; (exact rfl); omega) | (apply when_pyE; (exact rfl); omega) | (apply when_pnE; (exact rfl); omega) | (apply br_npyE; (exact rfl); omega) | (apply br_npnE; (exact rfl); omega) | (apply when_npyE; (exact rfl); omega) | (apply when_npnE; (exact rfl); omega) | ((with_reducible show Ld _ _ _ _); first | (refine ldE0 hR hi rfl ?_) | (refine ldEk hR hi rfl ?_) | (refine ldE1 hR hi rfl ?_)) | ((with_reducible show IxS _ _ _ _ _); first | ((refine ixE hR hi ?_ ?_; (first | rfl | omega)))) | ((with_reducible show LdN _ _ _ _ _); first | (refine ldNEi hR hi rfl ?_)) | ((with_reducible show CallT _ _ _ _ _ _); first | ((refine call_pe (hs _) ?_ ?_ ?_; (exact rfl); exact rfl))) | (refine ari ?_ ?_; omega) | (refine aru ?_ ?_; omega) | (apply sel; exact rfl) | (refine ix0 rfl ?_) | (refine ix1 rfl ?_) | (refine ix2 rfl ?_) | (refine ix3 rfl ?_) | (apply ixj; omega) | (refine ixn ?_ ?_; omega) | (refine ixs0 rfl ?_) | (refine ixs1 rfl ?_) | (refine ixs_j ?_ ?_; omega) | (refine ixs_n ?_ ?_; omega) | (apply ld_o; exact rfl) | (apply ldN_a; exact rfl) | (apply ldN_o; (exact rfl); exact rfl) | (apply st_o; (exact rfl); exact rfl) | (apply stN_o; (exact rfl); (exact rfl); exact rfl) | (refine new_i (fun bk hbk => ?_)) | (apply when_dE; (exact rfl); (exact rfl); all_goals intro hc) | (apply when_dF; (exact rfl); (exact rfl); all_goals intro hc) | (apply when_nE; (exact rfl); (exact rfl); all_goals intro hc) | (apply when_nF; (exact rfl); (exact rfl); all_goals intro hc) | (apply br_dE; (exact rfl); all_goals intro hc) | (apply br_nE; (exact rfl); all_goals intro hc) | (refine mm_min ?_) | (refine mm_max ?_) | (refine rem_i ?_ ?_; omega) | (refine SelN.mk ?_) | (refine cut_n ?_) | (refine Both.mk ?_ ?_) | (exact True.intro))
      exact ⟨(k + 1, acc, b, c, D), ⟨by dsimp only; omega, by dsimp only; omega, hB, hI⟩, by dsimp only; omega, (by repeat' (first | exact True.intro | refine And.intro ?_ ?_ | exact rfl | exact vi (by omega) | (dsimp only; exact rfl) | (dsimp only; exact vi (by omega)))), (by first | exact ent_i | (repeat (first | exact Ent.refl | exact Ent.left | refine Ent.cons ?_ | refine Ent.app ?_)))⟩
    | true =>
      rw [hq] at hs hI
      generalize iskip i = s at *
      obtain ⟨io, ia, ib, ic, im⟩ := i
      by_cases hn : (k : Int) + 1 + s ≤ p.length
      · rw [if_pos ⟨rfl, hn⟩] at hI
        repeat' ((try (conv => whnf)); first | (refine when_ye ?_ ?_; exact rfl) | (refine when_ne ?_ ?_; exact rfl) | (refine br_te ?_ ?_; exact rfl) | (refine br_fe ?_ ?_; exact rfl) | (apply br_pyE; (exact rfl); omega) | (apply br_pnE; (exact rfl); omega) | (apply when_pyE; (exact rfl); omega) | (apply when_pnE; (exact rfl); omega) | (apply br_npyE; (exact rfl); omega) | (apply br_npnE; (exact rfl); omega) | (apply when_npyE; (exact rfl); omega) | (apply when_npnE; (exact rfl); omega) | (apply app_i (enc := encI) ((k : Int) + 1 + s) hB; (exact rfl); (exact rfl); (omega); (exact rfl); (exact rfl); (omega); intro b2 c2 D2 hb2) | ((with_reducible show Ld _ _ _ _); first | (refine ldE0 hR hi rfl ?_) | (refine ldEk hR hi rfl ?_) | (refine ldE1 hR hi rfl ?_)) | ((with_reducible show IxS _ _ _ _ _); first | ((refine ixE hR hi ?_ ?_; (first | rfl | omega)))) | ((with_reducible show LdN _ _ _ _ _); first | (refine ldNEi hR hi rfl ?_)) | ((with_reducible show CallT _ _ _ _ _ _); first | ((refine call_pe (hs _) ?_ ?_ ?_; (exact rfl); exact rfl))) | (refine ari ?_ ?_; omega) | (refine aru ?_ ?_; omega) | (apply sel; exact rfl) | (refine ix0 rfl ?_) | (refine ix1 rfl ?_) | (refine ix2 rfl ?_) | (refine ix3 rfl ?_) | (apply ixj; omega) | (refine ixn ?_ ?_; omega) | (refine ixs0 rfl ?_) | (refine ixs1 rfl ?_) | (refine ixs_j ?_ ?_; omega) | (refine ixs_n ?_ ?_; omega) | (apply ld_o; exact rfl) | (apply ldN_a; exact rfl) | (apply ldN_o; (exact rfl); exact rfl) | (apply st_o; (exact rfl); exact rfl) | (apply stN_o; (exact rfl); (exact rfl); exact rfl) | (refine new_i (fun bk hbk => ?_)) | (apply when_dE; (exact rfl); (exact rfl); all_goals intro hc) | (apply when_dF; (exact rfl); (exact rfl); all_goals intro hc) | (apply when_nE; (exact rfl); (exact rfl); all_goals intro hc) | (apply when_nF; (exact rfl); (exact rfl); all_goals intro hc) | (apply br_dE; (exact rfl); all_goals intro hc) | (apply br_nE; (exact rfl); all_goals intro hc) | (refine mm_min ?_) | (refine mm_max ?_) | (refine rem_i ?_ ?_; omega) | (refine SelN.mk ?_) | (refine cut_n ?_) | (refine Both.mk ?_ ?_) | (exact True.intro))
        refine ⟨(k + 1, acc ++ [(k : Int) + 1 + s], b2, c2, D2), ⟨by dsimp only; omega, by dsimp only; simp; omega, hb2, ?_⟩, by dsimp only; omega, ?_, (by first | exact ent_i | (repeat (first | exact Ent.refl | exact Ent.left | refine Ent.cons ?_ | refine Ent.app ?_)))⟩
        · dsimp only
          rw [List.append_assoc]
          exact hI
        · dsimp only
          rw [List.length_append]
          exact (by repeat' (first | exact True.intro | refine And.intro ?_ ?_ | exact rfl | exact vi (by omega) | (dsimp only; exact rfl) | (dsimp only; exact vi (by omega))))
      · rw [if_neg (fun h => hn h.2)] at hI
        repeat' ((try (conv => whnf)); first | (refine when_ye ?_ ?_; exact rfl) | (refine when_ne ?_ ?_; exact rfl) | (refine br_te ?_ ?_; exact rfl) | (refine br_fe ?_ ?_; exact rfl) | (apply br_pyE; (exact rfl); omega) | (apply br_pnE; (exact rfl); omega) | (apply when_pyE; (exact rfl); omega) | (apply when_pnE; (exact rfl); omega) | (apply br_npyE; (exact rfl); omega) | (apply br_npnE; (exact rfl); omega) | (apply when_npyE; (exact rfl); omega) | (apply when_npnE; (exact rfl); omega) | ((with_reducible show Ld _ _ _ _); first | (refine ldE0 hR hi rfl ?_) | (refine ldEk hR hi rfl ?_) | (refine ldE1 hR hi rfl ?_)) | ((with_reducible show IxS _ _ _ _ _); first | ((refine ixE hR hi ?_ ?_; (first | rfl | omega)))) | ((with_reducible show LdN _ _ _ _ _); first | (refine ldNEi hR hi rfl ?_)) | ((with_reducible show CallT _ _ _ _ _ _); first | ((refine call_pe (hs _) ?_ ?_ ?_; (exact rfl); exact rfl))) | (refine ari ?_ ?_; omega) | (refine aru ?_ ?_; omega) | (apply sel; exact rfl) | (refine ix0 rfl ?_) | (refine ix1 rfl ?_) | (refine ix2 rfl ?_) | (refine ix3 rfl ?_) | (apply ixj; omega) | (refine ixn ?_ ?_; omega) | (refine ixs0 rfl ?_) | (refine ixs1 rfl ?_) | (refine ixs_j ?_ ?_; omega) | (refine ixs_n ?_ ?_; omega) | (apply ld_o; exact rfl) | (apply ldN_a; exact rfl) | (apply ldN_o; (exact rfl); exact rfl) | (apply st_o; (exact rfl); exact rfl) | (apply stN_o; (exact rfl); (exact rfl); exact rfl) | (refine new_i (fun bk hbk => ?_)) | (apply when_dE; (exact rfl); (exact rfl); all_goals intro hc) | (apply when_dF; (exact rfl); (exact rfl); all_goals intro hc) | (apply when_nE; (exact rfl); (exact rfl); all_goals intro hc) | (apply when_nF; (exact rfl); (exact rfl); all_goals intro hc) | (apply br_dE; (exact rfl); all_goals intro hc) | (apply br_nE; (exact rfl); all_goals intro hc) | (refine mm_min ?_) | (refine mm_max ?_) | (refine rem_i ?_ ?_; omega) | (refine SelN.mk ?_) | (refine cut_n ?_) | (refine Both.mk ?_ ?_) | (exact True.intro))
        exact ⟨(k + 1, acc, b, c, D), ⟨by dsimp only; omega, by dsimp only; omega, hB, hI⟩, by dsimp only; omega, (by repeat' (first | exact True.intro | refine And.intro ?_ ?_ | exact rfl | exact vi (by omega) | (dsimp only; exact rfl) | (dsimp only; exact vi (by omega)))), (by first | exact ent_i | (repeat (first | exact Ent.refl | exact Ent.left | refine Ent.cons ?_ | refine Ent.app ?_)))⟩
  · have hlt' : ¬ (k : Int) < p.length := by omega
    have hd : p.drop k = [] := List.drop_eq_nil_of_le (by omega)
    rw [hd, rawT, List.append_nil] at hI
    have hfin : cmp (srt acc) = tgtT p := by rw [hI]; rfl
    repeat' ((try (conv => whnf)); first | (refine when_ye ?_ ?_; exact rfl) | (refine when_ne ?_ ?_; exact rfl) | (refine br_te ?_ ?_; exact rfl) | (refine br_fe ?_ ?_; exact rfl) | (apply br_pyE; (exact rfl); omega) | (apply br_pnE; (exact rfl); omega) | (apply when_pyE; (exact rfl); omega) | (apply when_pnE; (exact rfl); omega) | (apply br_npyE; (exact rfl); omega) | (apply br_npnE; (exact rfl); omega) | (apply when_npyE; (exact rfl); omega) | (apply when_npnE; (exact rfl); omega) | ((with_reducible show CallT _ _ _ _ _ _); first | ((refine call_sortD hB (by omega) rfl ?_ ?_ (fun D2 hD2 => ?_); (exact rfl); (exact rfl))) | ((refine call_cmpD hD2 (by omega) rfl ?_ ?_ (fun D3 hD3 => ?_); (exact rfl); (exact rfl)))) | (refine ari ?_ ?_; omega) | (refine aru ?_ ?_; omega) | (apply sel; exact rfl) | (refine ix0 rfl ?_) | (refine ix1 rfl ?_) | (refine ix2 rfl ?_) | (refine ix3 rfl ?_) | (apply ixj; omega) | (refine ixn ?_ ?_; omega) | (refine ixs0 rfl ?_) | (refine ixs1 rfl ?_) | (refine ixs_j ?_ ?_; omega) | (refine ixs_n ?_ ?_; omega) | (apply ld_o; exact rfl) | (apply ldN_a; exact rfl) | (apply ldN_o; (exact rfl); exact rfl) | (apply st_o; (exact rfl); exact rfl) | (apply stN_o; (exact rfl); (exact rfl); exact rfl) | (refine new_i (fun bk hbk => ?_)) | (apply when_dE; (exact rfl); (exact rfl); all_goals intro hc) | (apply when_dF; (exact rfl); (exact rfl); all_goals intro hc) | (apply when_nE; (exact rfl); (exact rfl); all_goals intro hc) | (apply when_nF; (exact rfl); (exact rfl); all_goals intro hc) | (apply br_dE; (exact rfl); all_goals intro hc) | (apply br_nE; (exact rfl); all_goals intro hc) | (refine mm_min ?_) | (refine mm_max ?_) | (refine rem_i ?_ ?_; omega) | (refine SelN.mk ?_) | (refine cut_n ?_) | (refine Both.mk ?_ ?_) | (exact True.intro))
    rw [hfin] at hD3
    exact ⟨b, c, D3, by rw [← hfin]; rfl, hD3, (by first | exact ent_i | (repeat (first | exact Ent.refl | exact Ent.left | refine Ent.cons ?_ | refine Ent.app ?_)))⟩
theorem sp_lib (s : ByteArray) (c : Int) (hs : s.size < 4611686018427387904) : Pure Tryz.prog W0 60 [.string s, .int .u8 c] own (.int .i64 (Go.Lib.lastIndexByte s c)) := fun w hw => by
  refine (shelf_strings_LastIndexByte s c hs w).mono ?_
  rintro e w' ⟨rfl, rfl⟩
  exact ⟨rfl, hw⟩
theorem lib_rng (s : ByteArray) (c : Int) : -1 ≤ Go.Lib.lastIndexByte s c ∧ Go.Lib.lastIndexByte s c < s.size := by
  rcases Go.Lib.lastIdx_spec s c s.size with ⟨h, _⟩ | ⟨i, hi, h, _⟩
  · unfold Go.Lib.lastIndexByte; rw [h]; omega
  · unfold Go.Lib.lastIndexByte; rw [h]; omega
end
theorem lnm_len {j : Nat} (h : j ≤ 64) : (lnmL j).length ≤ 22 := by
  have := Go.Lib.itoa_length_le ((j : Int) + 1) (by omega) (by omega)
  unfold lnmL
  simp; omega
section
variable {W0 : World} {own : Own}
theorem sp_Disassemble (hA : AsmAt W0) {a : Option Addr} {cap : Nat} {p : List Ins} (hR : RdE Ins.enc 5 W0 own a p) (hl : p.length ≤ 9223372036854775807) (him : ∀ i ∈ p, -9223372036854775808 ≤ i.imm ∧ i.imm ≤ 9223372036854775807) :
    Pure Tryz.prog W0 27 [.slice a p.length cap] own (.tuple #[.string (disM p).1, .int .i64 (disM p).2]) := by
  refine pure_of (spec_of mixed low_asm_Disassemble (by simp [ir_asm_Disassemble]) ?_)
  have hF := hA.isa.forms
  unfold disM
  by_cases h64 : 64 < p.length
  · rw [if_pos h64]
    have h64' : 64 < (p.length : Int) := by omega
    repeat' ((try (conv => whnf)); first | (refine when_ye ?_ ?_; exact rfl) | (refine when_ne ?_ ?_; exact rfl) | (refine br_te ?_ ?_; exact rfl) | (refine br_fe ?_ ?_; exact rfl) | (apply br_pyE; (exact rfl); omega) | (apply br_pnE; (exact rfl); omega) | (apply when_pyE; (exact rfl); omega) | (apply when_pnE; (exact rfl); omega) | (apply br_npyE; (exact rfl); omega) | (apply br_npnE; (exact rfl); omega) | (apply when_npyE; (exact rfl); omega) | (apply when_npnE; (exact rfl); omega) | (refine ari ?_ ?_; omega) | (refine aru ?_ ?_; omega) | (apply sel; exact rfl) | (refine ix0 rfl ?_) | (refine ix1 rfl ?_) | (refine ix2 rfl ?_) | (refine ix3 rfl ?_) | (apply ixj; omega) | (refine ixn ?_ ?_; omega) | (refine ixs0 rfl ?_) | (refine ixs1 rfl ?_) | (refine ixs_j ?_ ?_; omega) | (refine ixs_n ?_ ?_; omega) | (apply ld_o; exact rfl) | (apply ldN_a; exact rfl) | (apply ldN_o; (exact rfl); exact rfl) | (apply st_o; (exact rfl); exact rfl) | (apply stN_o; (exact rfl); (exact rfl); exact rfl) | (refine new_i (fun bk hbk => ?_)) | (apply when_dE; (exact rfl); (exact rfl); all_goals intro hc) | (apply when_dF; (exact rfl); (exact rfl); all_goals intro hc) | (apply when_nE; (exact rfl); (exact rfl); all_goals intro hc) | (apply when_nF; (exact rfl); (exact rfl); all_goals intro hc) | (apply br_dE; (exact rfl); all_goals intro hc) | (apply br_nE; (exact rfl); all_goals intro hc) | (refine mm_min ?_) | (refine mm_max ?_) | (refine rem_i ?_ ?_; omega) | (refine SelN.mk ?_) | (refine cut_n ?_) | (refine Both.mk ?_ ?_) | (exact True.intro))
    exact ⟨rfl, (by first | exact ent_i | (repeat (first | exact Ent.refl | exact Ent.left | refine Ent.cons ?_ | refine Ent.app ?_)))⟩
  · rw [if_neg h64]
    have h64' : ¬ 64 < (p.length : Int) := by omega
    repeat' ((try (conv => whnf)); first | (refine when_ye ?_ ?_; exact rfl) | (refine when_ne ?_ ?_; exact rfl) | (refine br_te ?_ ?_; exact rfl) | (refine br_fe ?_ ?_; exact rfl) | (apply br_pyE; (exact rfl); omega) | (apply br_pnE; (exact rfl); omega) | (apply when_pyE; (exact rfl); omega) | (apply when_pnE; (exact rfl); omega) | (apply br_npyE; (exact rfl); omega) | (apply br_npnE; (exact rfl); omega) | (apply when_npyE; (exact rfl); omega) | (apply when_npnE; (exact rfl); omega) | (refine ari ?_ ?_; omega) | (refine aru ?_ ?_; omega) | (apply sel; exact rfl) | (refine ix0 rfl ?_) | (refine ix1 rfl ?_) | (refine ix2 rfl ?_) | (refine ix3 rfl ?_) | (apply ixj; omega) | (refine ixn ?_ ?_; omega) | (refine ixs0 rfl ?_) | (refine ixs1 rfl ?_) | (refine ixs_j ?_ ?_; omega) | (refine ixs_n ?_ ?_; omega) | (apply ld_o; exact rfl) | (apply ldN_a; exact rfl) | (apply ldN_o; (exact rfl); exact rfl) | (apply st_o; (exact rfl); exact rfl) | (apply stN_o; (exact rfl); (exact rfl); exact rfl) | (refine new_i (fun bk hbk => ?_)) | (apply when_dE; (exact rfl); (exact rfl); all_goals intro hc) | (apply when_dF; (exact rfl); (exact rfl); all_goals intro hc) | (apply when_nE; (exact rfl); (exact rfl); all_goals intro hc) | (apply when_nF; (exact rfl); (exact rfl); all_goals intro hc) | (apply br_dE; (exact rfl); all_goals intro hc) | (apply br_nE; (exact rfl); all_goals intro hc) | (refine mm_min ?_) | (refine mm_max ?_) | (refine rem_i ?_ ?_; omega) | (refine SelN.mk ?_) | (refine cut_n ?_) | (refine Both.mk ?_ ?_) | (exact True.intro))
    refine loop_i (σ := Nat) (fun x => [(25, .int .i64 x)]) (fun _ => own) (fun x => x ≤ p.length ∧ errP (p.drop x) = errP p) (fun x => p.length - x) 0 ⟨Nat.zero_le _, rfl⟩ (by repeat' (first | exact True.intro | refine And.intro ?_ ?_ | exact rfl | exact vi (by omega) | (dsimp only; exact rfl) | (dsimp only; exact vi (by omega)))) Ent.refl rfl ?_
    rintro k junk ⟨hk, hI⟩
    by_cases hlt : k < p.length
    · have hlt' : (k : Int) < p.length := by omega
      obtain ⟨i, hi⟩ : ∃ i, p[k]? = some i := ⟨_, List.getElem?_eq_getElem hlt⟩
      have hd : p.drop k = i :: p.drop (k + 1) := by
        rw [List.drop_eq_getElem_cons hlt]
        congr 1
        exact (List.getElem?_eq_some_iff.1 hi).2
      rw [hd, errP] at hI
      have hc := fun own => sp_icheck W0 own hF i
      by_cases h0 : icheck i = 0
      · rw [if_pos h0] at hI
        rw [h0] at hc
        obtain ⟨io, ia, ib, ic, im⟩ := i
        repeat' ((try (conv => whnf)); first | (refine when_ye ?_ ?_; exact rfl) | (refine when_ne ?_ ?_; exact rfl) | (refine br_te ?_ ?_; exact rfl) | (refine br_fe ?_ ?_; exact rfl) | (apply br_pyE; (exact rfl); omega) | (apply br_pnE; (exact rfl); omega) | (apply when_pyE; (exact rfl); omega) | (apply when_pnE; (exact rfl); omega) | (apply br_npyE; (exact rfl); omega) | (apply br_npnE; (exact rfl); omega) | (apply when_npyE; (exact rfl); omega) | (apply when_npnE; (exact rfl); omega) | ((with_reducible show Ld _ _ _ _); first | (refine ldE0 hR hi rfl ?_) | (refine ldEk hR hi rfl ?_) | (refine ldE1 hR hi rfl ?_)) | ((with_reducible show IxS _ _ _ _ _); first | ((refine ixE hR hi ?_ ?_; (first | rfl | omega)))) | ((with_reducible show LdN _ _ _ _ _); first | (refine ldNEi hR hi rfl ?_)) | ((with_reducible show CallT _ _ _ _ _ _); first | ((refine call_pe (hc _) ?_ ?_ ?_; (exact rfl); exact rfl))) | (refine ari ?_ ?_; omega) | (refine aru ?_ ?_; omega) | (apply sel; exact rfl) | (refine ix0 rfl ?_) | (refine ix1 rfl ?_) | (refine ix2 rfl ?_) | (refine ix3 rfl ?_) | (apply ixj; omega) | (refine ixn ?_ ?_; omega) | (refine ixs0 rfl ?_) | (refine ixs1 rfl ?_) | (refine ixs_j ?_ ?_; omega) | (refine ixs_n ?_ ?_; omega) | (apply ld_o; exact rfl) | (apply ldN_a; exact rfl) | (apply ldN_o; (exact rfl); exact rfl) | (apply st_o; (exact rfl); exact rfl) | (apply stN_o; (exact rfl); (exact rfl); exact rfl) | (refine new_i (fun bk hbk => ?_)) | (apply when_dE; (exact rfl); (exact rfl); all_goals intro hc) | (apply when_dF; (exact rfl); (exact rfl); all_goals intro hc) | (apply when_nE; (exact rfl); (exact rfl); all_goals intro hc) | (apply when_nF; (exact rfl); (exact rfl); all_goals intro hc) | (apply br_dE; (exact rfl); all_goals intro hc) | (apply br_nE; (exact rfl); all_goals intro hc) | (refine mm_min ?_) | (refine mm_max ?_) | (refine rem_i ?_ ?_; omega) | (refine SelN.mk ?_) | (refine cut_n ?_) | (refine Both.mk ?_ ?_) | (exact True.intro))
        exact ⟨k + 1, ⟨by omega, hI⟩, by omega, (by repeat' (first | exact True.intro | refine And.intro ?_ ?_ | exact rfl | exact vi (by omega) | (dsimp only; exact rfl) | (dsimp only; exact vi (by omega)))), (by first | exact ent_i | (repeat (first | exact Ent.refl | exact Ent.left | refine Ent.cons ?_ | refine Ent.app ?_)))⟩
      · rw [if_neg h0] at hI
        have hne : ¬ errP p = 0 := by rw [← hI]; exact h0
        rw [if_neg hne, ← hI]
        generalize icheck i = e at *
        obtain ⟨io, ia, ib, ic, im⟩ := i
        repeat' ((try (conv => whnf)); first | (refine when_ye ?_ ?_; exact rfl) | (refine when_ne ?_ ?_; exact rfl) | (refine br_te ?_ ?_; exact rfl) | (refine br_fe ?_ ?_; exact rfl) | (apply br_pyE; (exact rfl); omega) | (apply br_pnE; (exact rfl); omega) | (apply when_pyE; (exact rfl); omega) | (apply when_pnE; (exact rfl); omega) | (apply br_npyE; (exact rfl); omega) | (apply br_npnE; (exact rfl); omega) | (apply when_npyE; (exact rfl); omega) | (apply when_npnE; (exact rfl); omega) | ((with_reducible show Ld _ _ _ _); first | (refine ldE0 hR hi rfl ?_) | (refine ldEk hR hi rfl ?_) | (refine ldE1 hR hi rfl ?_)) | ((with_reducible show IxS _ _ _ _ _); first | ((refine ixE hR hi ?_ ?_; (first | rfl | omega)))) | ((with_reducible show LdN _ _ _ _ _); first | (refine ldNEi hR hi rfl ?_)) | ((with_reducible show CallT _ _ _ _ _ _); first | ((refine call_pe (hc _) ?_ ?_ ?_; (exact rfl); exact rfl))) | (refine ari ?_ ?_; omega) | (refine aru ?_ ?_; omega) | (apply sel; exact rfl) | (refine ix0 rfl ?_) | (refine ix1 rfl ?_) | (refine ix2 rfl ?_) | (refine ix3 rfl ?_) | (apply ixj; omega) | (refine ixn ?_ ?_; omega) | (refine ixs0 rfl ?_) | (refine ixs1 rfl ?_) | (refine ixs_j ?_ ?_; omega) | (refine ixs_n ?_ ?_; omega) | (apply ld_o; exact rfl) | (apply ldN_a; exact rfl) | (apply ldN_o; (exact rfl); exact rfl) | (apply st_o; (exact rfl); exact rfl) | (apply stN_o; (exact rfl); (exact rfl); exact rfl) | (refine new_i (fun bk hbk => ?_)) | (apply when_dE; (exact rfl); (exact rfl); all_goals intro hc) | (apply when_dF; (exact rfl); (exact rfl); all_goals intro hc) | (apply when_nE; (exact rfl); (exact rfl); all_goals intro hc) | (apply when_nF; (exact rfl); (exact rfl); all_goals intro hc) | (apply br_dE; (exact rfl); all_goals intro hc) | (apply br_nE; (exact rfl); all_goals intro hc) | (refine mm_min ?_) | (refine mm_max ?_) | (refine rem_i ?_ ?_; omega) | (refine SelN.mk ?_) | (refine cut_n ?_) | (refine Both.mk ?_ ?_) | (exact True.intro))
        exact ⟨rfl, (by first | exact ent_i | (repeat (first | exact Ent.refl | exact Ent.left | refine Ent.cons ?_ | refine Ent.app ?_)))⟩
    · have hlt' : ¬ (k : Int) < p.length := by omega
      have hd : p.drop k = [] := List.drop_eq_nil_of_le (by omega)
      rw [hd, errP] at hI
      rw [if_pos hI.symm]
      have hall := errP_all hI.symm
      have htl := tgtT_len p
      have hta := tgtT_asc p
      have htr := tgtT_rng p
      have htg := fun (own' : Own) (h : RdE Ins.enc 5 W0 own' a p) => sp_targets (cap := cap) hF h (by omega)
      generalize tgtT p = T at *
      repeat' ((try (conv => whnf)); first | (refine when_ye ?_ ?_; exact rfl) | (refine when_ne ?_ ?_; exact rfl) | (refine br_te ?_ ?_; exact rfl) | (refine br_fe ?_ ?_; exact rfl) | (apply br_pyE; (exact rfl); omega) | (apply br_pnE; (exact rfl); omega) | (apply when_pyE; (exact rfl); omega) | (apply when_pnE; (exact rfl); omega) | (apply br_npyE; (exact rfl); omega) | (apply br_npnE; (exact rfl); omega) | (apply when_npyE; (exact rfl); omega) | (apply when_npnE; (exact rfl); omega) | (apply newM_i; intro mb hmb) | ((with_reducible show CallT _ _ _ _ _ _); first | ((refine call_x (σ := { y : Option Addr × Nat × Own // BufE encI 3 1 y.1 y.2.1 T y.2.2 }) (R := fun y v => v = .slice y.1.1 T.length y.1.2.1) (O := fun y => y.1.2.2 ++ ((mb, mapO []) :: own)) (fun w hw => (htg _ (hR.ent ent_i) w hw).mono fun _ _ ⟨v, o, he, hs, a, cap, D, hv, hB, hE⟩ => ⟨v, o, he, hs, ⟨(a, cap, D), hB⟩, hv, hE⟩) ?_ ?_ (fun y v hv => ?_); (exact rfl); (exact rfl); (obtain ⟨⟨ta, tc, TD⟩, hTB⟩ := y; dsimp only at hv hTB ⊢; subst hv; have hRT := hTB.rd (W0 := W0))))) | (refine ari ?_ ?_; omega) | (refine aru ?_ ?_; omega) | (apply sel; exact rfl) | (refine ix0 rfl ?_) | (refine ix1 rfl ?_) | (refine ix2 rfl ?_) | (refine ix3 rfl ?_) | (apply ixj; omega) | (refine ixn ?_ ?_; omega) | (refine ixs0 rfl ?_) | (refine ixs1 rfl ?_) | (refine ixs_j ?_ ?_; omega) | (refine ixs_n ?_ ?_; omega) | (apply ld_o; exact rfl) | (apply ldN_a; exact rfl) | (apply ldN_o; (exact rfl); exact rfl) | (apply st_o; (exact rfl); exact rfl) | (apply stN_o; (exact rfl); (exact rfl); exact rfl) | (refine new_i (fun bk hbk => ?_)) | (apply when_dE; (exact rfl); (exact rfl); all_goals intro hc) | (apply when_dF; (exact rfl); (exact rfl); all_goals intro hc) | (apply when_nE; (exact rfl); (exact rfl); all_goals intro hc) | (apply when_nF; (exact rfl); (exact rfl); all_goals intro hc) | (apply br_dE; (exact rfl); all_goals intro hc) | (apply br_nE; (exact rfl); all_goals intro hc) | (refine mm_min ?_) | (refine mm_max ?_) | (refine rem_i ?_ ?_; omega) | (refine SelN.mk ?_) | (refine cut_n ?_) | (refine Both.mk ?_ ?_) | (exact True.intro))
      refine loop_i (σ := Nat) (fun x => [(39, .int .i64 x)]) (fun x => (mb, mapO (mpV (T.take x) 0)) :: (TD ++ own)) (fun x => x ≤ T.length) (fun x => T.length - x) 0 (Nat.zero_le _) (by repeat' (first | exact True.intro | refine And.intro ?_ ?_ | exact rfl | exact vi (by omega) | (dsimp only; exact rfl) | (dsimp only; exact vi (by omega)))) (Ent.of_perm List.perm_middle) rfl ?_
      intro q junk hq
      by_cases hq1 : q < T.length
      · have hq1' : (q : Int) < T.length := by omega
        obtain ⟨x, hx⟩ : ∃ x, T[q]? = some x := ⟨_, List.getElem?_eq_getElem hq1⟩
        have hnot : x ∉ T.take q := fun hm => by
          obtain ⟨j, hj, he⟩ := List.mem_iff_getElem.1 hm
          rw [List.length_take] at hj
          rw [List.getElem_take] at he
          obtain ⟨hq2, hqe⟩ := List.getElem?_eq_some_iff.1 hx
          have := List.pairwise_iff_getElem.1 hta j q (by omega) hq2 (by omega)
          omega
        have hin := idx_none x (T.take q) 0 hnot
        have hfm := find_mp x (T.take q) 0
        rw [hin] at hfm
        have hfs : (findM 0 (.int .i64 x) (mpV (T.take q) 0)).isSome = true := by rw [hfm]; rfl
        have hup := upd_mp x (.string (bW (lnmL q))) (T.take q) 0 hin
        have htk : T.take (q + 1) = T.take q ++ [x] := by rw [List.take_add_one, hx]; rfl
        have hmp : mpV (T.take (q + 1)) 0 = mpV (T.take q) 0 ++ [(.int .i64 x, .string (bW (lnmL q)))] := by
          rw [htk, mpV_app, List.length_take, Nat.zero_add, Nat.min_eq_left (by omega)]
        rw [← hmp] at hup
        have hit : ∀ own, Pure Tryz.prog W0 36 [.int .i64 ((q : Int) + 1)] own (.string (bW (Go.Lib.itoa ((q : Int) + 1)))) := fun own => sp_itoa (own := own) hA.isa.lib (by omega) (by omega)
        have his : (bW (Go.Lib.itoa ((q : Int) + 1))).size ≤ 21 := by rw [bW_size]; exact Go.Lib.itoa_length_le _ (by omega) (by omega)
        have hs1 : (⟨#[108]⟩ : ByteArray).size = 1 := rfl
        have hcat : (⟨#[108]⟩ : ByteArray) ++ bW (Go.Lib.itoa ((q : Int) + 1)) = bW (lnmL q) := ba_ext (by simp [bW, lnmL, ByteArray.data_append])
        repeat' ((try (conv => whnf)); first | (refine when_ye ?_ ?_; exact rfl) | (refine when_ne ?_ ?_; exact rfl) | (refine br_te ?_ ?_; exact rfl) | (refine br_fe ?_ ?_; exact rfl) | (apply br_pyE; (exact rfl); omega) | (apply br_pnE; (exact rfl); omega) | (apply when_pyE; (exact rfl); omega) | (apply when_pnE; (exact rfl); omega) | (apply br_npyE; (exact rfl); omega) | (apply br_npnE; (exact rfl); omega) | (apply when_npyE; (exact rfl); omega) | (apply when_npnE; (exact rfl); omega) | (refine sct_n (bW (lnmL q)) hcat ?_ ?_; (omega)) | (refine mup_i hfs hup ?_) | ((with_reducible show Ld _ _ _ _); first | (refine ldE0 hRT hx rfl ?_) | (refine ldEk hRT hx rfl ?_) | (refine ldE1 hRT hx rfl ?_)) | ((with_reducible show IxS _ _ _ _ _); first | ((refine ixE hRT hx ?_ ?_; (first | rfl | omega)))) | ((with_reducible show LdN _ _ _ _ _); first | (refine ldNEi hRT hx rfl ?_)) | ((with_reducible show CallT _ _ _ _ _ _); first | ((refine call_pe (hit _) ?_ ?_ ?_; (exact rfl); exact rfl))) | (refine ari ?_ ?_; omega) | (refine aru ?_ ?_; omega) | (apply sel; exact rfl) | (refine ix0 rfl ?_) | (refine ix1 rfl ?_) | (refine ix2 rfl ?_) | (refine ix3 rfl ?_) | (apply ixj; omega) | (refine ixn ?_ ?_; omega) | (refine ixs0 rfl ?_) | (refine ixs1 rfl ?_) | (refine ixs_j ?_ ?_; omega) | (refine ixs_n ?_ ?_; omega) | (apply ld_o; exact rfl) | (apply ldN_a; exact rfl) | (apply ldN_o; (exact rfl); exact rfl) | (apply st_o; (exact rfl); exact rfl) | (apply stN_o; (exact rfl); (exact rfl); exact rfl) | (refine new_i (fun bk hbk => ?_)) | (apply when_dE; (exact rfl); (exact rfl); all_goals intro hc) | (apply when_dF; (exact rfl); (exact rfl); all_goals intro hc) | (apply when_nE; (exact rfl); (exact rfl); all_goals intro hc) | (apply when_nF; (exact rfl); (exact rfl); all_goals intro hc) | (apply br_dE; (exact rfl); all_goals intro hc) | (apply br_nE; (exact rfl); all_goals intro hc) | (refine mm_min ?_) | (refine mm_max ?_) | (refine rem_i ?_ ?_; omega) | (refine SelN.mk ?_) | (refine cut_n ?_) | (refine Both.mk ?_ ?_) | (exact True.intro))
        exact ⟨q + 1, by omega, by omega, (by repeat' (first | exact True.intro | refine And.intro ?_ ?_ | exact rfl | exact vi (by omega) | (dsimp only; exact rfl) | (dsimp only; exact vi (by omega)))), (by first | exact ent_i | (repeat (first | exact Ent.refl | exact Ent.left | refine Ent.cons ?_ | refine Ent.app ?_)))⟩
      · have hq1' : ¬ (q : Int) < T.length := by omega
        have htk : T.take q = T := List.take_of_length_le (by omega)
        rw [htk]
        repeat' ((try (conv => whnf)); first | (refine when_ye ?_ ?_; exact rfl) | (refine when_ne ?_ ?_; exact rfl) | (refine br_te ?_ ?_; exact rfl) | (refine br_fe ?_ ?_; exact rfl) | (apply br_pyE; (exact rfl); omega) | (apply br_pnE; (exact rfl); omega) | (apply when_pyE; (exact rfl); omega) | (apply when_pnE; (exact rfl); omega) | (apply br_npyE; (exact rfl); omega) | (apply br_npnE; (exact rfl); omega) | (apply when_npyE; (exact rfl); omega) | (apply when_npnE; (exact rfl); omega) | (refine new_lt (fun bb hbb hblt => ?_)) | (refine ari ?_ ?_; omega) | (refine aru ?_ ?_; omega) | (apply sel; exact rfl) | (refine ix0 rfl ?_) | (refine ix1 rfl ?_) | (refine ix2 rfl ?_) | (refine ix3 rfl ?_) | (apply ixj; omega) | (refine ixn ?_ ?_; omega) | (refine ixs0 rfl ?_) | (refine ixs1 rfl ?_) | (refine ixs_j ?_ ?_; omega) | (refine ixs_n ?_ ?_; omega) | (apply ld_o; exact rfl) | (apply ldN_a; exact rfl) | (apply ldN_o; (exact rfl); exact rfl) | (apply st_o; (exact rfl); exact rfl) | (apply stN_o; (exact rfl); (exact rfl); exact rfl) | (refine new_i (fun bk hbk => ?_)) | (apply when_dE; (exact rfl); (exact rfl); all_goals intro hc) | (apply when_dF; (exact rfl); (exact rfl); all_goals intro hc) | (apply when_nE; (exact rfl); (exact rfl); all_goals intro hc) | (apply when_nF; (exact rfl); (exact rfl); all_goals intro hc) | (apply br_dE; (exact rfl); all_goals intro hc) | (apply br_nE; (exact rfl); all_goals intro hc) | (refine mm_min ?_) | (refine mm_max ?_) | (refine rem_i ?_ ?_; omega) | (refine SelN.mk ?_) | (refine cut_n ?_) | (refine Both.mk ?_ ?_) | (exact True.intro))
        refine loop_i (σ := Nat × List UInt8 × Own) (fun x => [(11, .int .i64 x.1)]) (fun x => x.2.2 ++ ((mb, mapO (mpV T 0)) :: (TD ++ own))) (fun x => x.1 ≤ p.length ∧ x.2.1.length ≤ 200 * x.1 ∧ BuD bb x.2.1 x.2.2 ∧ x.2.1 ++ disR T (p.drop x.1) x.1 = disR T p 0) (fun x => p.length - x.1) (0, [], [(bb, fun o => o = Obj.cells #[.pointer none, .slice none 0 0] 84)]) ⟨Nat.zero_le _, by simp, ⟨.inl ⟨rfl, rfl⟩⟩, rfl⟩ (by repeat' (first | exact True.intro | refine And.intro ?_ ?_ | exact rfl | exact vi (by omega) | (dsimp only; exact rfl) | (dsimp only; exact vi (by omega)))) Ent.refl rfl ?_
        rintro ⟨m, l, D⟩ junk ⟨hm, hll, hD, hJ⟩
        dsimp only at hm hll hD hJ ⊢
        have hfm := find_mp m T 0
        have hi64 := fun q h => idx_lt (m : Int) T 0 q h
        by_cases hmn : m = p.length
        · have hmn' : (m : Int) = p.length := by omega
          have hdn : p.drop m = [] := List.drop_eq_nil_of_le (by omega)
          rw [hdn, disR] at hJ
          cases hix : idxI (m : Int) T 0 with
          | none =>
            rw [hix] at hfm
            unfold labT at hJ
            rw [hix, List.append_nil] at hJ
            rw [← hJ]
            repeat' ((try (conv => whnf)); first | (refine when_ye ?_ ?_; exact rfl) | (refine when_ne ?_ ?_; exact rfl) | (refine br_te ?_ ?_; exact rfl) | (refine br_fe ?_ ?_; exact rfl) | (apply br_pyE; (exact rfl); omega) | (apply br_pnE; (exact rfl); omega) | (apply when_pyE; (exact rfl); omega) | (apply when_pnE; (exact rfl); omega) | (apply br_npyE; (exact rfl); omega) | (apply br_npnE; (exact rfl); omega) | (apply when_npyE; (exact rfl); omega) | (apply when_npnE; (exact rfl); omega) | (refine mlk_i hfm ?_) | ((with_reducible show CallT _ _ _ _ _ _); first | ((refine call_bs hD hblt Ent.refl ?_ ?_ ?_; (exact rfl); (exact rfl)))) | (refine ari ?_ ?_; omega) | (refine aru ?_ ?_; omega) | (apply sel; exact rfl) | (refine ix0 rfl ?_) | (refine ix1 rfl ?_) | (refine ix2 rfl ?_) | (refine ix3 rfl ?_) | (apply ixj; omega) | (refine ixn ?_ ?_; omega) | (refine ixs0 rfl ?_) | (refine ixs1 rfl ?_) | (refine ixs_j ?_ ?_; omega) | (refine ixs_n ?_ ?_; omega) | (apply ld_o; exact rfl) | (apply ldN_a; exact rfl) | (apply ldN_o; (exact rfl); exact rfl) | (apply st_o; (exact rfl); exact rfl) | (apply stN_o; (exact rfl); (exact rfl); exact rfl) | (refine new_i (fun bk hbk => ?_)) | (apply when_dE; (exact rfl); (exact rfl); all_goals intro hc) | (apply when_dF; (exact rfl); (exact rfl); all_goals intro hc) | (apply when_nE; (exact rfl); (exact rfl); all_goals intro hc) | (apply when_nF; (exact rfl); (exact rfl); all_goals intro hc) | (apply br_dE; (exact rfl); all_goals intro hc) | (apply br_nE; (exact rfl); all_goals intro hc) | (refine mm_min ?_) | (refine mm_max ?_) | (refine rem_i ?_ ?_; omega) | (refine SelN.mk ?_) | (refine cut_n ?_) | (refine Both.mk ?_ ?_) | (exact True.intro))
            exact ⟨rfl, (by first | exact ent_i | (repeat (first | exact Ent.refl | exact Ent.left | refine Ent.cons ?_ | refine Ent.app ?_)))⟩
          | some j =>
            rw [hix] at hfm
            have hj := hi64 j hix
            have hln := lnm_len (j := j) (by omega)
            unfold labT at hJ
            rw [hix] at hJ
            rw [← hJ]
            have hs1 : (⟨#[58, 10]⟩ : ByteArray).size = 2 := rfl
            have hbs := bW_size (lnmL j)
            have hcat : bW (lnmL j) ++ (⟨#[58, 10]⟩ : ByteArray) = bW (lnmL j ++ [58, 10]) := ba_ext (by simp [bW, ByteArray.data_append])
            have hcs : (bW (lnmL j ++ [58, 10])).size = (lnmL j).length + 2 := by rw [bW_size]; simp
            repeat' ((try (conv => whnf)); first | (refine when_ye ?_ ?_; exact rfl) | (refine when_ne ?_ ?_; exact rfl) | (refine br_te ?_ ?_; exact rfl) | (refine br_fe ?_ ?_; exact rfl) | (apply br_pyE; (exact rfl); omega) | (apply br_pnE; (exact rfl); omega) | (apply when_pyE; (exact rfl); omega) | (apply when_pnE; (exact rfl); omega) | (apply br_npyE; (exact rfl); omega) | (apply br_npnE; (exact rfl); omega) | (apply when_npyE; (exact rfl); omega) | (apply when_npnE; (exact rfl); omega) | (refine mlk_i hfm ?_) | (refine sct_n _ hcat ?_ ?_; (omega)) | ((with_reducible show CallT _ _ _ _ _ _); first | ((refine call_ws (s := bW (lnmL j ++ [58, 10])) hD hblt ?_ ?_ ?_ ?_ ?_ (fun D2 hD2 => ?_); (first | exact Ent.refl | exact ent_i); (omega); (omega); (exact rfl); (exact rfl); (rw [bW_data] at hD2))) | ((refine call_bs hD2 hblt Ent.refl ?_ ?_ ?_; (exact rfl); (exact rfl)))) | (refine ari ?_ ?_; omega) | (refine aru ?_ ?_; omega) | (apply sel; exact rfl) | (refine ix0 rfl ?_) | (refine ix1 rfl ?_) | (refine ix2 rfl ?_) | (refine ix3 rfl ?_) | (apply ixj; omega) | (refine ixn ?_ ?_; omega) | (refine ixs0 rfl ?_) | (refine ixs1 rfl ?_) | (refine ixs_j ?_ ?_; omega) | (refine ixs_n ?_ ?_; omega) | (apply ld_o; exact rfl) | (apply ldN_a; exact rfl) | (apply ldN_o; (exact rfl); exact rfl) | (apply st_o; (exact rfl); exact rfl) | (apply stN_o; (exact rfl); (exact rfl); exact rfl) | (refine new_i (fun bk hbk => ?_)) | (apply when_dE; (exact rfl); (exact rfl); all_goals intro hc) | (apply when_dF; (exact rfl); (exact rfl); all_goals intro hc) | (apply when_nE; (exact rfl); (exact rfl); all_goals intro hc) | (apply when_nF; (exact rfl); (exact rfl); all_goals intro hc) | (apply br_dE; (exact rfl); all_goals intro hc) | (apply br_nE; (exact rfl); all_goals intro hc) | (refine mm_min ?_) | (refine mm_max ?_) | (refine rem_i ?_ ?_; omega) | (refine SelN.mk ?_) | (refine cut_n ?_) | (refine Both.mk ?_ ?_) | (exact True.intro))
            exact ⟨rfl, (by first | exact ent_i | (repeat (first | exact Ent.refl | exact Ent.left | refine Ent.cons ?_ | refine Ent.app ?_)))⟩
        · have hmn' : ¬ (m : Int) = p.length := by omega
          have hmle : (m : Int) ≤ p.length := by omega
          obtain ⟨i, hi⟩ : ∃ i, p[m]? = some i := ⟨_, List.getElem?_eq_getElem (by omega)⟩
          have hdn : p.drop m = i :: p.drop (m + 1) := by
            rw [List.drop_eq_getElem_cons (by omega)]
            congr 1
            exact (List.getElem?_eq_some_iff.1 hi).2
          rw [hdn, disR] at hJ
          have hv := hall i (List.mem_of_getElem? hi)
          obtain ⟨im1, im2⟩ := him i (List.mem_of_getElem? hi)
          have hfo := fun own => sp_Format (own := own) hA.isa i im1 im2
          have hfz := fmt_size hv im1 im2
          unfold fmtM at hfo
          rw [if_pos hv] at hfo
          dsimp only at hfo
          have hsk := fun own => sp_iskips W0 own hF i
          have hsr := iskip_le i
          have hfs10 : (⟨#[10]⟩ : ByteArray).size = 1 := rfl
          have hft := find_mp ((m : Int) + 1 + iskip i) T 0
          have hiq := fun q h => idx_lt ((m : Int) + 1 + iskip i) T 0 q h
          have hlib := fun own => sp_lib (W0 := W0) (own := own) (fmtB i) 32 (by omega)
          have hzr := lib_rng (fmtB i) 32
          have hup : (fmtB i).extract 0 (Go.Lib.lastIndexByte (fmtB i) 32 + 1).toNat = bW (uptoL (fmtB i)) := ba_ext (by rw [ba_extract, bW_data, List.drop_zero, Nat.sub_zero]; rfl)
          have hul : (uptoL (fmtB i)).length ≤ 88 := by
            have h1 := List.length_take_le (Go.Lib.lastIndexByte (fmtB i) 32 + 1).toNat (fmtB i).data.toList
            have h2 : (fmtB i).data.toList.length = (fmtB i).size := by simp
            unfold uptoL
            rw [List.length_take]
            omega
          have hfd : (fmtB i).data.toList.length = (fmtB i).size := by simp
          have hux := bW_size (uptoL (fmtB i))
          generalize Go.Lib.lastIndexByte (fmtB i) 32 = z at *
          cases hq2 : iskips i with
          | false =>
            rw [hq2] at hsk
            have hin : insX T i m = (fmtB i).data.toList := by unfold insX; rw [hq2, if_neg (by simp)]
            rw [hin] at hJ
            have hcn : fmtB i ++ (⟨#[10]⟩ : ByteArray) = bW ((fmtB i).data.toList ++ [10]) := ba_ext (by simp [bW, ByteArray.data_append])
            have hcz : (bW ((fmtB i).data.toList ++ [10])).size = (fmtB i).size + 1 := by rw [bW_size]; simp
            generalize iskip i = sk at *
            obtain ⟨io, ia, ib, ic, im⟩ := i
            cases hix : idxI (m : Int) T 0 with
            | none =>
              rw [hix] at hfm
              unfold labT at hJ
              rw [hix] at hJ
              simp only [List.nil_append] at hJ
              repeat' ((try (conv => whnf)); first | (refine when_ye ?_ ?_; exact rfl) | (refine when_ne ?_ ?_; exact rfl) | (refine br_te ?_ ?_; exact rfl) | (refine br_fe ?_ ?_; exact rfl) | (apply br_pyE; (exact rfl); omega) | (apply br_pnE; (exact rfl); omega) | (apply when_pyE; (exact rfl); omega) | (apply when_pnE; (exact rfl); omega) | (apply br_npyE; (exact rfl); omega) | (apply br_npnE; (exact rfl); omega) | (apply when_npyE; (exact rfl); omega) | (apply when_npnE; (exact rfl); omega) | (refine mlk_i hfm ?_) | (refine sct_n _ hcn ?_ ?_; (omega)) | ((with_reducible show Ld _ _ _ _); first | (refine ldE0 hR hi rfl ?_) | (refine ldEk hR hi rfl ?_) | (refine ldE1 hR hi rfl ?_)) | ((with_reducible show IxS _ _ _ _ _); first | ((refine ixE hR hi ?_ ?_; (first | rfl | omega)))) | ((with_reducible show LdN _ _ _ _ _); first | (refine ldNEi hR hi rfl ?_)) | ((with_reducible show CallT _ _ _ _ _ _); first | ((refine call_pe (hfo _) ?_ ?_ ?_; (exact rfl); exact rfl)) | ((refine call_pe (hsk _) ?_ ?_ ?_; (exact rfl); exact rfl)) | ((refine call_ws (s := bW ((fmtB ⟨io, ia, ib, ic, im⟩).data.toList ++ [10])) hD hblt ?_ ?_ ?_ ?_ ?_ (fun D3 hD3 => ?_); (first | exact Ent.refl | exact ent_i); (omega); (first | omega | (simp only [List.length_append, List.length_cons, List.length_nil]; omega)); (exact rfl); (exact rfl); (rw [bW_data] at hD3)))) | (refine ari ?_ ?_; omega) | (refine aru ?_ ?_; omega) | (apply sel; exact rfl) | (refine ix0 rfl ?_) | (refine ix1 rfl ?_) | (refine ix2 rfl ?_) | (refine ix3 rfl ?_) | (apply ixj; omega) | (refine ixn ?_ ?_; omega) | (refine ixs0 rfl ?_) | (refine ixs1 rfl ?_) | (refine ixs_j ?_ ?_; omega) | (refine ixs_n ?_ ?_; omega) | (apply ld_o; exact rfl) | (apply ldN_a; exact rfl) | (apply ldN_o; (exact rfl); exact rfl) | (apply st_o; (exact rfl); exact rfl) | (apply stN_o; (exact rfl); (exact rfl); exact rfl) | (refine new_i (fun bk hbk => ?_)) | (apply when_dE; (exact rfl); (exact rfl); all_goals intro hc) | (apply when_dF; (exact rfl); (exact rfl); all_goals intro hc) | (apply when_nE; (exact rfl); (exact rfl); all_goals intro hc) | (apply when_nF; (exact rfl); (exact rfl); all_goals intro hc) | (apply br_dE; (exact rfl); all_goals intro hc) | (apply br_nE; (exact rfl); all_goals intro hc) | (refine mm_min ?_) | (refine mm_max ?_) | (refine rem_i ?_ ?_; omega) | (refine SelN.mk ?_) | (refine cut_n ?_) | (refine Both.mk ?_ ?_) | (exact True.intro))
              refine ⟨(m + 1, l ++ ((fmtB ⟨io, ia, ib, ic, im⟩).data.toList ++ [10]), D3), ⟨by dsimp only; omega, ?_, hD3, ?_⟩, by dsimp only; omega, (by repeat' (first | exact True.intro | refine And.intro ?_ ?_ | exact rfl | exact vi (by omega) | (dsimp only; exact rfl) | (dsimp only; exact vi (by omega)))), (by first | exact ent_i | (repeat (first | exact Ent.refl | exact Ent.left | refine Ent.cons ?_ | refine Ent.app ?_)))⟩
              · dsimp only
                simp only [List.length_append, List.length_cons, List.length_nil]
                omega
              · dsimp only
                rw [← hJ]
                simp only [List.append_assoc]
            | some j =>
              rw [hix] at hfm
              have hj := hi64 j hix
              have hln := lnm_len (j := j) (by omega)
              unfold labT at hJ
              rw [hix] at hJ
              simp only at hJ
              have hs1 : (⟨#[58, 10]⟩ : ByteArray).size = 2 := rfl
              have hbs := bW_size (lnmL j)
              have hcat : bW (lnmL j) ++ (⟨#[58, 10]⟩ : ByteArray) = bW (lnmL j ++ [58, 10]) := ba_ext (by simp [bW, ByteArray.data_append])
              have hcs : (bW (lnmL j ++ [58, 10])).size = (lnmL j).length + 2 := by rw [bW_size]; simp
              repeat' ((try (conv => whnf)); first | (refine when_ye ?_ ?_; exact rfl) | (refine when_ne ?_ ?_; exact rfl) | (refine br_te ?_ ?_; exact rfl) | (refine br_fe ?_ ?_; exact rfl) | (apply br_pyE; (exact rfl); omega) | (apply br_pnE; (exact rfl); omega) | (apply when_pyE; (exact rfl); omega) | (apply when_pnE; (exact rfl); omega) | (apply br_npyE; (exact rfl); omega) | (apply br_npnE; (exact rfl); omega) | (apply when_npyE; (exact rfl); omega) | (apply when_npnE; (exact rfl); omega) | (refine mlk_i hfm ?_) | (refine sct_n _ hcat ?_ ?_; (omega)) | (refine sct_n _ hcn ?_ ?_; (omega)) | ((with_reducible show Ld _ _ _ _); first | (refine ldE0 hR hi rfl ?_) | (refine ldEk hR hi rfl ?_) | (refine ldE1 hR hi rfl ?_)) | ((with_reducible show IxS _ _ _ _ _); first | ((refine ixE hR hi ?_ ?_; (first | rfl | omega)))) | ((with_reducible show LdN _ _ _ _ _); first | (refine ldNEi hR hi rfl ?_)) | ((with_reducible show CallT _ _ _ _ _ _); first | ((refine call_ws (s := bW (lnmL j ++ [58, 10])) hD hblt ?_ ?_ ?_ ?_ ?_ (fun D2 hDl => ?_); (first | exact Ent.refl | exact ent_i); (omega); (omega); (exact rfl); (exact rfl); (rw [bW_data] at hDl))) | ((refine call_pe (hfo _) ?_ ?_ ?_; (exact rfl); exact rfl)) | ((refine call_pe (hsk _) ?_ ?_ ?_; (exact rfl); exact rfl)) | ((refine call_ws (s := bW ((fmtB ⟨io, ia, ib, ic, im⟩).data.toList ++ [10])) hDl hblt ?_ ?_ ?_ ?_ ?_ (fun D3 hD3 => ?_); (first | exact Ent.refl | exact ent_i); (omega); (first | omega | (simp only [List.length_append, List.length_cons, List.length_nil]; omega)); (exact rfl); (exact rfl); (rw [bW_data] at hD3)))) | (refine ari ?_ ?_; omega) | (refine aru ?_ ?_; omega) | (apply sel; exact rfl) | (refine ix0 rfl ?_) | (refine ix1 rfl ?_) | (refine ix2 rfl ?_) | (refine ix3 rfl ?_) | (apply ixj; omega) | (refine ixn ?_ ?_; omega) | (refine ixs0 rfl ?_) | (refine ixs1 rfl ?_) | (refine ixs_j ?_ ?_; omega) | (refine ixs_n ?_ ?_; omega) | (apply ld_o; exact rfl) | (apply ldN_a; exact rfl) | (apply ldN_o; (exact rfl); exact rfl) | (apply st_o; (exact rfl); exact rfl) | (apply stN_o; (exact rfl); (exact rfl); exact rfl) | (refine new_i (fun bk hbk => ?_)) | (apply when_dE; (exact rfl); (exact rfl); all_goals intro hc) | (apply when_dF; (exact rfl); (exact rfl); all_goals intro hc) | (apply when_nE; (exact rfl); (exact rfl); all_goals intro hc) | (apply when_nF; (exact rfl); (exact rfl); all_goals intro hc) | (apply br_dE; (exact rfl); all_goals intro hc) | (apply br_nE; (exact rfl); all_goals intro hc) | (refine mm_min ?_) | (refine mm_max ?_) | (refine rem_i ?_ ?_; omega) | (refine SelN.mk ?_) | (refine cut_n ?_) | (refine Both.mk ?_ ?_) | (exact True.intro))
              refine ⟨(m + 1, (l ++ (lnmL j ++ [58, 10])) ++ ((fmtB ⟨io, ia, ib, ic, im⟩).data.toList ++ [10]), D3), ⟨by dsimp only; omega, ?_, hD3, ?_⟩, by dsimp only; omega, (by repeat' (first | exact True.intro | refine And.intro ?_ ?_ | exact rfl | exact vi (by omega) | (dsimp only; exact rfl) | (dsimp only; exact vi (by omega)))), (by first | exact ent_i | (repeat (first | exact Ent.refl | exact Ent.left | refine Ent.cons ?_ | refine Ent.app ?_)))⟩
              · dsimp only
                simp only [List.length_append, List.length_cons, List.length_nil]
                omega
              · dsimp only
                rw [← hJ]
                simp only [List.append_assoc]
          | true =>
            rw [hq2] at hsk
            cases hit : idxI ((m : Int) + 1 + iskip i) T 0 with
            | none =>
              rw [hit] at hft
              have hin : insX T i m = (fmtB i).data.toList := by unfold insX; rw [hq2, if_pos rfl, hit]
              rw [hin] at hJ
              have hcn : fmtB i ++ (⟨#[10]⟩ : ByteArray) = bW ((fmtB i).data.toList ++ [10]) := ba_ext (by simp [bW, ByteArray.data_append])
              have hcz : (bW ((fmtB i).data.toList ++ [10])).size = (fmtB i).size + 1 := by rw [bW_size]; simp
              generalize iskip i = sk at *
              obtain ⟨io, ia, ib, ic, im⟩ := i
              cases hix : idxI (m : Int) T 0 with
              | none =>
                rw [hix] at hfm
                unfold labT at hJ
                rw [hix] at hJ
                simp only [List.nil_append] at hJ
                repeat' ((try (conv => whnf)); first | (refine when_ye ?_ ?_; exact rfl) | (refine when_ne ?_ ?_; exact rfl) | (refine br_te ?_ ?_; exact rfl) | (refine br_fe ?_ ?_; exact rfl) | (apply br_pyE; (exact rfl); omega) | (apply br_pnE; (exact rfl); omega) | (apply when_pyE; (exact rfl); omega) | (apply when_pnE; (exact rfl); omega) | (apply br_npyE; (exact rfl); omega) | (apply br_npnE; (exact rfl); omega) | (apply when_npyE; (exact rfl); omega) | (apply when_npnE; (exact rfl); omega) | (refine mlk_i hfm ?_) | (refine mlk_i hft ?_) | (refine sct_n _ hcn ?_ ?_; (omega)) | ((with_reducible show Ld _ _ _ _); first | (refine ldE0 hR hi rfl ?_) | (refine ldEk hR hi rfl ?_) | (refine ldE1 hR hi rfl ?_)) | ((with_reducible show IxS _ _ _ _ _); first | ((refine ixE hR hi ?_ ?_; (first | rfl | omega)))) | ((with_reducible show LdN _ _ _ _ _); first | (refine ldNEi hR hi rfl ?_)) | ((with_reducible show CallT _ _ _ _ _ _); first | ((refine call_pe (hfo _) ?_ ?_ ?_; (exact rfl); exact rfl)) | ((refine call_pe (hsk _) ?_ ?_ ?_; (exact rfl); exact rfl)) | ((refine call_ws (s := bW ((fmtB ⟨io, ia, ib, ic, im⟩).data.toList ++ [10])) hD hblt ?_ ?_ ?_ ?_ ?_ (fun D3 hD3 => ?_); (first | exact Ent.refl | exact ent_i); (omega); (first | omega | (simp only [List.length_append, List.length_cons, List.length_nil]; omega)); (exact rfl); (exact rfl); (rw [bW_data] at hD3)))) | (refine ari ?_ ?_; omega) | (refine aru ?_ ?_; omega) | (apply sel; exact rfl) | (refine ix0 rfl ?_) | (refine ix1 rfl ?_) | (refine ix2 rfl ?_) | (refine ix3 rfl ?_) | (apply ixj; omega) | (refine ixn ?_ ?_; omega) | (refine ixs0 rfl ?_) | (refine ixs1 rfl ?_) | (refine ixs_j ?_ ?_; omega) | (refine ixs_n ?_ ?_; omega) | (apply ld_o; exact rfl) | (apply ldN_a; exact rfl) | (apply ldN_o; (exact rfl); exact rfl) | (apply st_o; (exact rfl); exact rfl) | (apply stN_o; (exact rfl); (exact rfl); exact rfl) | (refine new_i (fun bk hbk => ?_)) | (apply when_dE; (exact rfl); (exact rfl); all_goals intro hc) | (apply when_dF; (exact rfl); (exact rfl); all_goals intro hc) | (apply when_nE; (exact rfl); (exact rfl); all_goals intro hc) | (apply when_nF; (exact rfl); (exact rfl); all_goals intro hc) | (apply br_dE; (exact rfl); all_goals intro hc) | (apply br_nE; (exact rfl); all_goals intro hc) | (refine mm_min ?_) | (refine mm_max ?_) | (refine rem_i ?_ ?_; omega) | (refine SelN.mk ?_) | (refine cut_n ?_) | (refine Both.mk ?_ ?_) | (exact True.intro))
                refine ⟨(m + 1, l ++ ((fmtB ⟨io, ia, ib, ic, im⟩).data.toList ++ [10]), D3), ⟨by dsimp only; omega, ?_, hD3, ?_⟩, by dsimp only; omega, (by repeat' (first | exact True.intro | refine And.intro ?_ ?_ | exact rfl | exact vi (by omega) | (dsimp only; exact rfl) | (dsimp only; exact vi (by omega)))), (by first | exact ent_i | (repeat (first | exact Ent.refl | exact Ent.left | refine Ent.cons ?_ | refine Ent.app ?_)))⟩
                · dsimp only
                  simp only [List.length_append, List.length_cons, List.length_nil]
                  omega
                · dsimp only
                  rw [← hJ]
                  simp only [List.append_assoc]
              | some j =>
                rw [hix] at hfm
                have hj := hi64 j hix
                have hln := lnm_len (j := j) (by omega)
                unfold labT at hJ
                rw [hix] at hJ
                simp only at hJ
                have hs1 : (⟨#[58, 10]⟩ : ByteArray).size = 2 := rfl
                have hbs := bW_size (lnmL j)
                have hcat : bW (lnmL j) ++ (⟨#[58, 10]⟩ : ByteArray) = bW (lnmL j ++ [58, 10]) := ba_ext (by simp [bW, ByteArray.data_append])
                have hcs : (bW (lnmL j ++ [58, 10])).size = (lnmL j).length + 2 := by rw [bW_size]; simp
                repeat' ((try (conv => whnf)); first | (refine when_ye ?_ ?_; exact rfl) | (refine when_ne ?_ ?_; exact rfl) | (refine br_te ?_ ?_; exact rfl) | (refine br_fe ?_ ?_; exact rfl) | (apply br_pyE; (exact rfl); omega) | (apply br_pnE; (exact rfl); omega) | (apply when_pyE; (exact rfl); omega) | (apply when_pnE; (exact rfl); omega) | (apply br_npyE; (exact rfl); omega) | (apply br_npnE; (exact rfl); omega) | (apply when_npyE; (exact rfl); omega) | (apply when_npnE; (exact rfl); omega) | (refine mlk_i hfm ?_) | (refine sct_n _ hcat ?_ ?_; (omega)) | (refine mlk_i hft ?_) | (refine sct_n _ hcn ?_ ?_; (omega)) | ((with_reducible show Ld _ _ _ _); first | (refine ldE0 hR hi rfl ?_) | (refine ldEk hR hi rfl ?_) | (refine ldE1 hR hi rfl ?_)) | ((with_reducible show IxS _ _ _ _ _); first | ((refine ixE hR hi ?_ ?_; (first | rfl | omega)))) | ((with_reducible show LdN _ _ _ _ _); first | (refine ldNEi hR hi rfl ?_)) | ((with_reducible show CallT _ _ _ _ _ _); first | ((refine call_ws (s := bW (lnmL j ++ [58, 10])) hD hblt ?_ ?_ ?_ ?_ ?_ (fun D2 hDl => ?_); (first | exact Ent.refl | exact ent_i); (omega); (omega); (exact rfl); (exact rfl); (rw [bW_data] at hDl))) | ((refine call_pe (hfo _) ?_ ?_ ?_; (exact rfl); exact rfl)) | ((refine call_pe (hsk _) ?_ ?_ ?_; (exact rfl); exact rfl)) | ((refine call_ws (s := bW ((fmtB ⟨io, ia, ib, ic, im⟩).data.toList ++ [10])) hDl hblt ?_ ?_ ?_ ?_ ?_ (fun D3 hD3 => ?_); (first | exact Ent.refl | exact ent_i); (omega); (first | omega | (simp only [List.length_append, List.length_cons, List.length_nil]; omega)); (exact rfl); (exact rfl); (rw [bW_data] at hD3)))) | (refine ari ?_ ?_; omega) | (refine aru ?_ ?_; omega) | (apply sel; exact rfl) | (refine ix0 rfl ?_) | (refine ix1 rfl ?_) | (refine ix2 rfl ?_) | (refine ix3 rfl ?_) | (apply ixj; omega) | (refine ixn ?_ ?_; omega) | (refine ixs0 rfl ?_) | (refine ixs1 rfl ?_) | (refine ixs_j ?_ ?_; omega) | (refine ixs_n ?_ ?_; omega) | (apply ld_o; exact rfl) | (apply ldN_a; exact rfl) | (apply ldN_o; (exact rfl); exact rfl) | (apply st_o; (exact rfl); exact rfl) | (apply stN_o; (exact rfl); (exact rfl); exact rfl) | (refine new_i (fun bk hbk => ?_)) | (apply when_dE; (exact rfl); (exact rfl); all_goals intro hc) | (apply when_dF; (exact rfl); (exact rfl); all_goals intro hc) | (apply when_nE; (exact rfl); (exact rfl); all_goals intro hc) | (apply when_nF; (exact rfl); (exact rfl); all_goals intro hc) | (apply br_dE; (exact rfl); all_goals intro hc) | (apply br_nE; (exact rfl); all_goals intro hc) | (refine mm_min ?_) | (refine mm_max ?_) | (refine rem_i ?_ ?_; omega) | (refine SelN.mk ?_) | (refine cut_n ?_) | (refine Both.mk ?_ ?_) | (exact True.intro))
                refine ⟨(m + 1, (l ++ (lnmL j ++ [58, 10])) ++ ((fmtB ⟨io, ia, ib, ic, im⟩).data.toList ++ [10]), D3), ⟨by dsimp only; omega, ?_, hD3, ?_⟩, by dsimp only; omega, (by repeat' (first | exact True.intro | refine And.intro ?_ ?_ | exact rfl | exact vi (by omega) | (dsimp only; exact rfl) | (dsimp only; exact vi (by omega)))), (by first | exact ent_i | (repeat (first | exact Ent.refl | exact Ent.left | refine Ent.cons ?_ | refine Ent.app ?_)))⟩
                · dsimp only
                  simp only [List.length_append, List.length_cons, List.length_nil]
                  omega
                · dsimp only
                  rw [← hJ]
                  simp only [List.append_assoc]
            | some q =>
              rw [hit] at hft
              have hqq := hiq q hit
              have hlq := lnm_len (j := q) (by omega)
              have hin : insX T i m = uptoL (fmtB i) ++ lnmL q := by unfold insX; rw [hq2, if_pos rfl, hit]
              rw [hin] at hJ
              have hcq : (fmtB i).extract 0 (z + 1).toNat ++ bW (lnmL q) = bW (uptoL (fmtB i) ++ lnmL q) := by rw [hup]; exact ba_ext (by simp [bW, ByteArray.data_append])
              have hex : ((fmtB i).extract 0 (z + 1).toNat).size ≤ 88 := by rw [hup]; omega
              have hbq := bW_size (lnmL q)
              have hbz : (bW (uptoL (fmtB i) ++ lnmL q)).size = (uptoL (fmtB i)).length + (lnmL q).length := by rw [bW_size]; simp
              have hcn : bW (uptoL (fmtB i) ++ lnmL q) ++ (⟨#[10]⟩ : ByteArray) = bW (uptoL (fmtB i) ++ lnmL q ++ [10]) := ba_ext (by simp [bW, ByteArray.data_append])
              have hcz : (bW (uptoL (fmtB i) ++ lnmL q ++ [10])).size = (uptoL (fmtB i)).length + (lnmL q).length + 1 := by rw [bW_size]; simp only [List.length_append, List.length_singleton]
              generalize iskip i = sk at *
              obtain ⟨io, ia, ib, ic, im⟩ := i
              cases hix : idxI (m : Int) T 0 with
              | none =>
                rw [hix] at hfm
                unfold labT at hJ
                rw [hix] at hJ
                simp only [List.nil_append] at hJ
                repeat' ((try (conv => whnf)); first | (refine when_ye ?_ ?_; exact rfl) | (refine when_ne ?_ ?_; exact rfl) | (refine br_te ?_ ?_; exact rfl) | (refine br_fe ?_ ?_; exact rfl) | (apply br_pyE; (exact rfl); omega) | (apply br_pnE; (exact rfl); omega) | (apply when_pyE; (exact rfl); omega) | (apply when_pnE; (exact rfl); omega) | (apply br_npyE; (exact rfl); omega) | (apply br_npnE; (exact rfl); omega) | (apply when_npyE; (exact rfl); omega) | (apply when_npnE; (exact rfl); omega) | (refine mlk_i hfm ?_) | (refine mlk_i hft ?_) | (refine SscT.mk ⟨0, (z + 1).toNat, rfl, ?_, ?_, ?_, ?_⟩; (show z + 1 = _; omega); (omega); (omega)) | (refine sct_n _ hcq ?_ ?_; (omega)) | (refine sct_n _ hcn ?_ ?_; (omega)) | ((with_reducible show Ld _ _ _ _); first | (refine ldE0 hR hi rfl ?_) | (refine ldEk hR hi rfl ?_) | (refine ldE1 hR hi rfl ?_)) | ((with_reducible show IxS _ _ _ _ _); first | ((refine ixE hR hi ?_ ?_; (first | rfl | omega)))) | ((with_reducible show LdN _ _ _ _ _); first | (refine ldNEi hR hi rfl ?_)) | ((with_reducible show CallT _ _ _ _ _ _); first | ((refine call_pe (hlib _) ?_ ?_ ?_; (exact rfl); exact rfl)) | ((refine call_pe (hfo _) ?_ ?_ ?_; (exact rfl); exact rfl)) | ((refine call_pe (hsk _) ?_ ?_ ?_; (exact rfl); exact rfl)) | ((refine call_ws (s := bW ((uptoL (fmtB ⟨io, ia, ib, ic, im⟩) ++ lnmL q) ++ [10])) hD hblt ?_ ?_ ?_ ?_ ?_ (fun D3 hD3 => ?_); (first | exact Ent.refl | exact ent_i); (omega); (first | omega | (simp only [List.length_append, List.length_cons, List.length_nil]; omega)); (exact rfl); (exact rfl); (rw [bW_data] at hD3)))) | (refine ari ?_ ?_; omega) | (refine aru ?_ ?_; omega) | (apply sel; exact rfl) | (refine ix0 rfl ?_) | (refine ix1 rfl ?_) | (refine ix2 rfl ?_) | (refine ix3 rfl ?_) | (apply ixj; omega) | (refine ixn ?_ ?_; omega) | (refine ixs0 rfl ?_) | (refine ixs1 rfl ?_) | (refine ixs_j ?_ ?_; omega) | (refine ixs_n ?_ ?_; omega) | (apply ld_o; exact rfl) | (apply ldN_a; exact rfl) | (apply ldN_o; (exact rfl); exact rfl) | (apply st_o; (exact rfl); exact rfl) | (apply stN_o; (exact rfl); (exact rfl); exact rfl) | (refine new_i (fun bk hbk => ?_)) | (apply when_dE; (exact rfl); (exact rfl); all_goals intro hc) | (apply when_dF; (exact rfl); (exact rfl); all_goals intro hc) | (apply when_nE; (exact rfl); (exact rfl); all_goals intro hc) | (apply when_nF; (exact rfl); (exact rfl); all_goals intro hc) | (apply br_dE; (exact rfl); all_goals intro hc) | (apply br_nE; (exact rfl); all_goals intro hc) | (refine mm_min ?_) | (refine mm_max ?_) | (refine rem_i ?_ ?_; omega) | (refine SelN.mk ?_) | (refine cut_n ?_) | (refine Both.mk ?_ ?_) | (exact True.intro))
                refine ⟨(m + 1, l ++ ((uptoL (fmtB ⟨io, ia, ib, ic, im⟩) ++ lnmL q) ++ [10]), D3), ⟨by dsimp only; omega, ?_, hD3, ?_⟩, by dsimp only; omega, (by repeat' (first | exact True.intro | refine And.intro ?_ ?_ | exact rfl | exact vi (by omega) | (dsimp only; exact rfl) | (dsimp only; exact vi (by omega)))), (by first | exact ent_i | (repeat (first | exact Ent.refl | exact Ent.left | refine Ent.cons ?_ | refine Ent.app ?_)))⟩
                · dsimp only
                  simp only [List.length_append, List.length_cons, List.length_nil]
                  omega
                · dsimp only
                  rw [← hJ]
                  simp only [List.append_assoc]
              | some j =>
                rw [hix] at hfm
                have hj := hi64 j hix
                have hln := lnm_len (j := j) (by omega)
                unfold labT at hJ
                rw [hix] at hJ
                simp only at hJ
                have hs1 : (⟨#[58, 10]⟩ : ByteArray).size = 2 := rfl
                have hbs := bW_size (lnmL j)
                have hcat : bW (lnmL j) ++ (⟨#[58, 10]⟩ : ByteArray) = bW (lnmL j ++ [58, 10]) := ba_ext (by simp [bW, ByteArray.data_append])
                have hcs : (bW (lnmL j ++ [58, 10])).size = (lnmL j).length + 2 := by rw [bW_size]; simp
                repeat' ((try (conv => whnf)); first | (refine when_ye ?_ ?_; exact rfl) | (refine when_ne ?_ ?_; exact rfl) | (refine br_te ?_ ?_; exact rfl) | (refine br_fe ?_ ?_; exact rfl) | (apply br_pyE; (exact rfl); omega) | (apply br_pnE; (exact rfl); omega) | (apply when_pyE; (exact rfl); omega) | (apply when_pnE; (exact rfl); omega) | (apply br_npyE; (exact rfl); omega) | (apply br_npnE; (exact rfl); omega) | (apply when_npyE; (exact rfl); omega) | (apply when_npnE; (exact rfl); omega) | (refine mlk_i hfm ?_) | (refine sct_n _ hcat ?_ ?_; (omega)) | (refine mlk_i hft ?_) | (refine SscT.mk ⟨0, (z + 1).toNat, rfl, ?_, ?_, ?_, ?_⟩; (show z + 1 = _; omega); (omega); (omega)) | (refine sct_n _ hcq ?_ ?_; (omega)) | (refine sct_n _ hcn ?_ ?_; (omega)) | ((with_reducible show Ld _ _ _ _); first | (refine ldE0 hR hi rfl ?_) | (refine ldEk hR hi rfl ?_) | (refine ldE1 hR hi rfl ?_)) | ((with_reducible show IxS _ _ _ _ _); first | ((refine ixE hR hi ?_ ?_; (first | rfl | omega)))) | ((with_reducible show LdN _ _ _ _ _); first | (refine ldNEi hR hi rfl ?_)) | ((with_reducible show CallT _ _ _ _ _ _); first | ((refine call_ws (s := bW (lnmL j ++ [58, 10])) hD hblt ?_ ?_ ?_ ?_ ?_ (fun D2 hDl => ?_); (first | exact Ent.refl | exact ent_i); (omega); (omega); (exact rfl); (exact rfl); (rw [bW_data] at hDl))) | ((refine call_pe (hlib _) ?_ ?_ ?_; (exact rfl); exact rfl)) | ((refine call_pe (hfo _) ?_ ?_ ?_; (exact rfl); exact rfl)) | ((refine call_pe (hsk _) ?_ ?_ ?_; (exact rfl); exact rfl)) | ((refine call_ws (s := bW ((uptoL (fmtB ⟨io, ia, ib, ic, im⟩) ++ lnmL q) ++ [10])) hDl hblt ?_ ?_ ?_ ?_ ?_ (fun D3 hD3 => ?_); (first | exact Ent.refl | exact ent_i); (omega); (first | omega | (simp only [List.length_append, List.length_cons, List.length_nil]; omega)); (exact rfl); (exact rfl); (rw [bW_data] at hD3)))) | (refine ari ?_ ?_; omega) | (refine aru ?_ ?_; omega) | (apply sel; exact rfl) | (refine ix0 rfl ?_) | (refine ix1 rfl ?_) | (refine ix2 rfl ?_) | (refine ix3 rfl ?_) | (apply ixj; omega) | (refine ixn ?_ ?_; omega) | (refine ixs0 rfl ?_) | (refine ixs1 rfl ?_) | (refine ixs_j ?_ ?_; omega) | (refine ixs_n ?_ ?_; omega) | (apply ld_o; exact rfl) | (apply ldN_a; exact rfl) | (apply ldN_o; (exact rfl); exact rfl) | (apply st_o; (exact rfl); exact rfl) | (apply stN_o; (exact rfl); (exact rfl); exact rfl) | (refine new_i (fun bk hbk => ?_)) | (apply when_dE; (exact rfl); (exact rfl); all_goals intro hc) | (apply when_dF; (exact rfl); (exact rfl); all_goals intro hc) | (apply when_nE; (exact rfl); (exact rfl); all_goals intro hc) | (apply when_nF; (exact rfl); (exact rfl); all_goals intro hc) | (apply br_dE; (exact rfl); all_goals intro hc) | (apply br_nE; (exact rfl); all_goals intro hc) | (refine mm_min ?_) | (refine mm_max ?_) | (refine rem_i ?_ ?_; omega) | (refine SelN.mk ?_) | (refine cut_n ?_) | (refine Both.mk ?_ ?_) | (exact True.intro))
                refine ⟨(m + 1, (l ++ (lnmL j ++ [58, 10])) ++ ((uptoL (fmtB ⟨io, ia, ib, ic, im⟩) ++ lnmL q) ++ [10]), D3), ⟨by dsimp only; omega, ?_, hD3, ?_⟩, by dsimp only; omega, (by repeat' (first | exact True.intro | refine And.intro ?_ ?_ | exact rfl | exact vi (by omega) | (dsimp only; exact rfl) | (dsimp only; exact vi (by omega)))), (by first | exact ent_i | (repeat (first | exact Ent.refl | exact Ent.left | refine Ent.cons ?_ | refine Ent.app ?_)))⟩
                · dsimp only
                  simp only [List.length_append, List.length_cons, List.length_nil]
                  omega
                · dsimp only
                  rw [← hJ]
                  simp only [List.append_assoc]
end
end Go.Proofs.YtiimndcifcoofaaGreatDoor
