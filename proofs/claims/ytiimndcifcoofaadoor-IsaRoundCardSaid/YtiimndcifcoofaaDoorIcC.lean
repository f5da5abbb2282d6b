/- isa: decimal, and the document's Number. No condition. -/
import Derived.Test.YtiimndcifcoofaaDoorIcB
import Derived.Test.YtiimndcifcoofaaDoorIpC
namespace Go.Proofs.YtiimndcifcoofaaDoor
open Go Go.RowKit
set_option maxRecDepth 10000
set_option maxHeartbeats 4000000
def pintOk (s : ByteArray) : Bool := match Go.Lib.parseIntB 64 s.data.toList with
  | .ok _ => true
  | _ => false
def decM (s : ByteArray) : Int × Bool := if Go.Lib.hasPrefix s.data.toList [43] = true then (0, false) else (pintV s, pintOk s)
def numR (l : List UInt8) : Int × Bool := match rnum l with
  | some v => (v, true)
  | none => (0, false)
def finR (o : Option Int) : Int × Bool := match o with
  | some v => if v = -9223372036854775808 then (0, false) else (-v, true)
  | none => (0, false)
/-- Both ways read the same texts as the same numbers. -/
theorem dec_num (s : ByteArray) : (decM s).2 = (numR s.data.toList).2 ∧ ((decM s).2 = true → (decM s).1 = (numR s.data.toList).1) := by
  have h := rnum_pib s.data.toList
  have hp : Go.Lib.hasPrefix s.data.toList [43] = true ↔ ∃ r, s.data.toList = 43 :: r := by
    unfold Go.Lib.hasPrefix
    cases s.data.toList with
    | nil => exact Iff.intro (fun h => absurd h (by decide)) (fun h => by obtain ⟨r, h⟩ := h; cases h)
    | cons c r =>
      have e : List.isPrefixOf [43] (c :: r) = (43 == c) := by rw [List.isPrefixOf_cons_cons, List.isPrefixOf_nil_left, Bool.and_true]
      rw [e, beq_iff_eq]
      exact ⟨fun h => ⟨r, by rw [h]⟩, fun ⟨r', h⟩ => (List.cons.inj h).1.symm⟩
  by_cases hx : Go.Lib.hasPrefix s.data.toList [43] = true
  · obtain ⟨r, hr⟩ := hp.1 hx
    have : rnum s.data.toList = none := by
      cases hn : rnum s.data.toList with
      | none => rfl
      | some v => exact absurd rfl (((h v).1 hn).1 43 r hr)
    unfold decM numR
    rw [if_pos hx, this]
    simp
  · have hnp : ∀ c r, s.data.toList = c :: r → c.toNat ≠ 43 := fun c r hr h43 => hx (hp.2 ⟨r, by rw [hr]; congr 1; exact UInt8.toNat.inj h43⟩)
    unfold decM
    rw [if_neg hx]
    cases hq : Go.Lib.parseIntB 64 s.data.toList with
    | ok v =>
      have : rnum s.data.toList = some v := (h v).2 ⟨hnp, hq⟩
      unfold numR pintV pintOk
      rw [this, hq]
      simp
    | _ =>
      have : rnum s.data.toList = none := by
        cases hn : rnum s.data.toList with
        | none => rfl
        | some v => have := ((h v).1 hn).2; rw [hq] at this; cases this
      unfold numR pintOk
      rw [this, hq]
      simp
theorem ar8 {e : Int} {K : Int → Prop} (h1 : 0 ≤ e ∧ e ≤ 255) (h : K e) : Arith .u8 e K := ⟨by rw [wrap_u8 h1.1 h1.2]; exact h⟩
section
variable {W0 : World} {own : Own}
theorem sp_decimal (hL : LibAt W0) (s : ByteArray) (hs : s.size ≤ 281474976710656) : Pure Tryd.prog W0 37 [.string s] own (.tuple #[.int .i64 (decM s).1, .bool (decM s).2]) := by
  refine pure_of (spec_of mixed low_isa_decimal (by simp [ir_isa_decimal]) ?_)
  unfold decM
  by_cases hx : Go.Lib.hasPrefix s.data.toList [43] = true
  · rw [if_pos hx]
    repeat' ((try (conv => whnf)); first | (refine when_ye ?_ ?_; exact rfl) | (refine when_ne ?_ ?_; exact rfl) | (refine br_te ?_ ?_; exact rfl) | (refine br_fe ?_ ?_; exact rfl) | (apply br_pyE; (exact rfl); omega) | (apply br_pnE; (exact rfl); omega) | (apply when_pyE; (exact rfl); omega) | (apply when_pnE; (exact rfl); omega) | (apply br_npyE; (exact rfl); omega) | (apply br_npnE; (exact rfl); omega) | (apply when_npyE; (exact rfl); omega) | (apply when_npnE; (exact rfl); omega) | ((with_reducible show CallT _ _ _ _ _ _); first | ((refine call_pe (sp_prefix s ⟨#[43]⟩ true hx) ?_ ?_ ?_; (exact rfl); exact rfl))) | (refine ari ?_ ?_; omega) | (refine aru ?_ ?_; omega) | (apply sel; exact rfl) | (refine ix0 rfl ?_) | (refine ix1 rfl ?_) | (refine ix2 rfl ?_) | (refine ix3 rfl ?_) | (apply ixj; omega) | (refine ixn ?_ ?_; omega) | (refine ixs0 rfl ?_) | (refine ixs1 rfl ?_) | (refine ixs_j ?_ ?_; omega) | (refine ixs_n ?_ ?_; omega) | (apply ld_o; exact rfl) | (apply ldN_a; exact rfl) | (apply ldN_o; (exact rfl); exact rfl) | (apply st_o; (exact rfl); exact rfl) | (apply stN_o; (exact rfl); (exact rfl); exact rfl) | (refine new_i (fun bk hbk => ?_)) | (apply when_dE; (exact rfl); (exact rfl); all_goals intro hc) | (apply when_dF; (exact rfl); (exact rfl); all_goals intro hc) | (apply when_nE; (exact rfl); (exact rfl); all_goals intro hc) | (apply when_nF; (exact rfl); (exact rfl); all_goals intro hc) | (apply br_dE; (exact rfl); all_goals intro hc) | (apply br_nE; (exact rfl); all_goals intro hc) | (refine mm_min ?_) | (refine mm_max ?_) | (refine rem_i ?_ ?_; omega) | (refine SelN.mk ?_) | (refine cut_n ?_) | (refine Both.mk ?_ ?_) | (exact True.intro))
    exact ⟨rfl, (by first | exact ent_i | (repeat (first | exact Ent.refl | exact Ent.left | refine Ent.cons ?_ | refine Ent.app ?_)))⟩
  · rw [if_neg hx]
    have hx' : Go.Lib.hasPrefix s.data.toList (⟨#[43]⟩ : ByteArray).data.toList = false := by simpa using hx
    by_cases hp : ∃ v, Go.Lib.parseIntB 64 s.data.toList = .ok v
    · obtain ⟨v, hp⟩ := hp
      have e1 : pintV s = v := by unfold pintV; rw [hp]
      have e2 : pintOk s = true := by unfold pintOk; rw [hp]
      rw [e1, e2]
      repeat' ((try (conv => whnf)); first | (refine when_ye ?_ ?_; exact rfl) | (refine when_ne ?_ ?_; exact rfl) | (refine br_te ?_ ?_; exact rfl) | (refine br_fe ?_ ?_; exact rfl) | (apply br_pyE; (exact rfl); omega) | (apply br_pnE; (exact rfl); omega) | (apply when_pyE; (exact rfl); omega) | (apply when_pnE; (exact rfl); omega) | (apply br_npyE; (exact rfl); omega) | (apply br_npnE; (exact rfl); omega) | (apply when_npyE; (exact rfl); omega) | (apply when_npnE; (exact rfl); omega) | ((with_reducible show CallT _ _ _ _ _ _); first | ((refine call_pe (sp_prefix s ⟨#[43]⟩ false hx') ?_ ?_ ?_; (exact rfl); exact rfl)) | ((refine call_pe (sp_pint_ok s hs hp) ?_ ?_ ?_; (exact rfl); exact rfl))) | (refine ari ?_ ?_; omega) | (refine aru ?_ ?_; omega) | (apply sel; exact rfl) | (refine ix0 rfl ?_) | (refine ix1 rfl ?_) | (refine ix2 rfl ?_) | (refine ix3 rfl ?_) | (apply ixj; omega) | (refine ixn ?_ ?_; omega) | (refine ixs0 rfl ?_) | (refine ixs1 rfl ?_) | (refine ixs_j ?_ ?_; omega) | (refine ixs_n ?_ ?_; omega) | (apply ld_o; exact rfl) | (apply ldN_a; exact rfl) | (apply ldN_o; (exact rfl); exact rfl) | (apply st_o; (exact rfl); exact rfl) | (apply stN_o; (exact rfl); (exact rfl); exact rfl) | (refine new_i (fun bk hbk => ?_)) | (apply when_dE; (exact rfl); (exact rfl); all_goals intro hc) | (apply when_dF; (exact rfl); (exact rfl); all_goals intro hc) | (apply when_nE; (exact rfl); (exact rfl); all_goals intro hc) | (apply when_nF; (exact rfl); (exact rfl); all_goals intro hc) | (apply br_dE; (exact rfl); all_goals intro hc) | (apply br_nE; (exact rfl); all_goals intro hc) | (refine mm_min ?_) | (refine mm_max ?_) | (refine rem_i ?_ ?_; omega) | (refine SelN.mk ?_) | (refine cut_n ?_) | (refine Both.mk ?_ ?_) | (exact True.intro))
      exact ⟨rfl, (by first | exact ent_i | (repeat (first | exact Ent.refl | exact Ent.left | refine Ent.cons ?_ | refine Ent.app ?_)))⟩
    · have e2 : pintOk s = false := by
        unfold pintOk
        split
        · rename_i v hv; exact absurd ⟨v, hv⟩ hp
        · rfl
      rw [e2]
      repeat' ((try (conv => whnf)); first | (refine when_ye ?_ ?_; exact rfl) | (refine when_ne ?_ ?_; exact rfl) | (refine br_te ?_ ?_; exact rfl) | (refine br_fe ?_ ?_; exact rfl) | (apply br_pyE; (exact rfl); omega) | (apply br_pnE; (exact rfl); omega) | (apply when_pyE; (exact rfl); omega) | (apply when_pnE; (exact rfl); omega) | (apply br_npyE; (exact rfl); omega) | (apply br_npnE; (exact rfl); omega) | (apply when_npyE; (exact rfl); omega) | (apply when_npnE; (exact rfl); omega) | ((with_reducible show CallT _ _ _ _ _ _); first | ((refine call_pe (sp_prefix s ⟨#[43]⟩ false hx') ?_ ?_ ?_; (exact rfl); exact rfl)) | ((refine call_x (sp_pint_err hL s hs (fun v hv => hp ⟨v, hv⟩)) ?_ ?_ (fun x v hv => ?_); (exact rfl); (exact rfl); subst hv))) | (refine ari ?_ ?_; omega) | (refine aru ?_ ?_; omega) | (apply sel; exact rfl) | (refine ix0 rfl ?_) | (refine ix1 rfl ?_) | (refine ix2 rfl ?_) | (refine ix3 rfl ?_) | (apply ixj; omega) | (refine ixn ?_ ?_; omega) | (refine ixs0 rfl ?_) | (refine ixs1 rfl ?_) | (refine ixs_j ?_ ?_; omega) | (refine ixs_n ?_ ?_; omega) | (apply ld_o; exact rfl) | (apply ldN_a; exact rfl) | (apply ldN_o; (exact rfl); exact rfl) | (apply st_o; (exact rfl); exact rfl) | (apply stN_o; (exact rfl); (exact rfl); exact rfl) | (refine new_i (fun bk hbk => ?_)) | (apply when_dE; (exact rfl); (exact rfl); all_goals intro hc) | (apply when_dF; (exact rfl); (exact rfl); all_goals intro hc) | (apply when_nE; (exact rfl); (exact rfl); all_goals intro hc) | (apply when_nF; (exact rfl); (exact rfl); all_goals intro hc) | (apply br_dE; (exact rfl); all_goals intro hc) | (apply br_nE; (exact rfl); all_goals intro hc) | (refine mm_min ?_) | (refine mm_max ?_) | (refine rem_i ?_ ?_; omega) | (refine SelN.mk ?_) | (refine cut_n ?_) | (refine Both.mk ?_ ?_) | (exact True.intro))
      exact ⟨rfl, (by first | exact ent_i | (repeat (first | exact Ent.refl | exact Ent.left | refine Ent.cons ?_ | refine Ent.app ?_)))⟩
end
end Go.Proofs.YtiimndcifcoofaaDoor
