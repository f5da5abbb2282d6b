/- isa: awake, and the walk of IsaParses. No condition. -/
import Derived.Test.YtiimndcifcoofaaGreatDoorIcK
import Derived.Test.YtiimndcifcoofaaGreatDoorIRkit
namespace Go.Proofs.YtiimndcifcoofaaGreatDoor
open Go Go.RowKit
set_option maxRecDepth 10000
set_option maxHeartbeats 4000000
/-- What the laws are given. -/
structure IsaAt (W0 : World) : Prop where
  lib : LibAt W0
  forms : FormsAt W0
  names : NamesAt W0
def addS : ByteArray := ⟨#[97, 100, 100, 32, 114, 49, 32, 114, 50, 32, 114, 51]⟩
theorem parse_add : parseM ⟨#[97, 100, 100, 32, 114, 49, 32, 114, 50, 32, 114, 51]⟩ = (⟨3, 1, 2, 3, 0⟩, 0) := by
  have e : (fun x : Ins × Int => (x.1.op, x.1.a, x.1.b, x.1.c, x.1.imm, x.2)) (parseM ⟨#[97, 100, 100, 32, 114, 49, 32, 114, 50, 32, 114, 51]⟩) = (3, 1, 2, 3, 0, 0) := by decide +kernel
  generalize parseM ⟨#[97, 100, 100, 32, 114, 49, 32, 114, 50, 32, 114, 51]⟩ = q at e
  obtain ⟨⟨o, a, b, c, i⟩, r⟩ := q
  simp only [Prod.mk.injEq] at e
  obtain ⟨rfl, rfl, rfl, rfl, rfl, rfl⟩ := e
  rfl
section
variable {W0 : World} {own : Own}
theorem sp_awake (hA : IsaAt W0) : Pure Tryz.prog W0 22 [] own (.bool true) := by
  refine pure_of (spec_of mixed low_law03_awake (by simp [ir_law03_awake]) ?_)
  have hp : ∀ own, Pure Tryz.prog W0 48 [.string ⟨#[97, 100, 100, 32, 114, 49, 32, 114, 50, 32, 114, 51]⟩] own (.tuple #[(⟨3, 1, 2, 3, 0⟩ : Ins).v, .int .i64 0]) := fun own => by
    have := sp_parse (own := own) hA.lib hA.forms hA.names ⟨#[97, 100, 100, 32, 114, 49, 32, 114, 50, 32, 114, 51]⟩
    rw [parse_add] at this
    exact this
  have hf := fun own => sp_fmt2 (own := own) hA.lib hA.forms
  have hs1 : (⟨#[98, 101, 103, 105, 110, 32, 50]⟩ : ByteArray).toList = (⟨#[98, 101, 103, 105, 110, 32, 50]⟩ : ByteArray).toList := rfl
  have hck : ∀ own, Pure Tryz.prog W0 13 [.agg #[.int .i64 18, .int .i64 0, .int .i64 0, .int .i64 0, .int .i64 0]] own (.int .i64 10) := fun own => sp_icheck W0 own hA.forms ⟨18, 0, 0, 0, 0⟩
  repeat' ((try (conv => whnf)); first | (refine when_ye ?_ ?_; exact rfl) | (refine when_ne ?_ ?_; exact rfl) | (refine br_te ?_ ?_; exact rfl) | (refine br_fe ?_ ?_; exact rfl) | (apply br_pyE; (exact rfl); omega) | (apply br_pnE; (exact rfl); omega) | (apply when_pyE; (exact rfl); omega) | (apply when_pnE; (exact rfl); omega) | (apply br_npyE; (exact rfl); omega) | (apply br_npnE; (exact rfl); omega) | (apply when_npyE; (exact rfl); omega) | (apply when_npnE; (exact rfl); omega) | (refine br_pyE ?_ hs1 ?_; exact rfl) | (refine br_pnE ?_ hs1 ?_; exact rfl) | (refine when_pyE ?_ hs1 ?_; exact rfl) | (refine when_pnE ?_ hs1 ?_; exact rfl) | (refine br_npyE ?_ hs1 ?_; exact rfl) | (refine br_npnE ?_ hs1 ?_; exact rfl) | (refine when_npyE ?_ hs1 ?_; exact rfl) | (refine when_npnE ?_ hs1 ?_; exact rfl) | (refine eq_yes (by simp [eqC, eqOne]) ?_) | ((with_reducible show CallT _ _ _ _ _ _); first | ((refine call_pe (hp _) ?_ ?_ ?_; (exact rfl); exact rfl)) | ((refine call_pe (hf _) ?_ ?_ ?_; (exact rfl); exact rfl)) | ((refine call_pe (hck _) ?_ ?_ ?_; (exact rfl); exact rfl))) | (refine ari ?_ ?_; omega) | (refine aru ?_ ?_; omega) | (apply sel; exact rfl) | (refine ix0 rfl ?_) | (refine ix1 rfl ?_) | (refine ix2 rfl ?_) | (refine ix3 rfl ?_) | (apply ixj; omega) | (refine ixn ?_ ?_; omega) | (refine ixs0 rfl ?_) | (refine ixs1 rfl ?_) | (refine ixs_j ?_ ?_; omega) | (refine ixs_n ?_ ?_; omega) | (apply ld_o; exact rfl) | (apply ldN_a; exact rfl) | (apply ldN_o; (exact rfl); exact rfl) | (apply st_o; (exact rfl); exact rfl) | (apply stN_o; (exact rfl); (exact rfl); exact rfl) | (refine new_i (fun bk hbk => ?_)) | (apply when_dE; (exact rfl); (exact rfl); all_goals intro hc) | (apply when_dF; (exact rfl); (exact rfl); all_goals intro hc) | (apply when_nE; (exact rfl); (exact rfl); all_goals intro hc) | (apply when_nF; (exact rfl); (exact rfl); all_goals intro hc) | (apply br_dE; (exact rfl); all_goals intro hc) | (apply br_nE; (exact rfl); all_goals intro hc) | (refine mm_min ?_) | (refine mm_max ?_) | (refine rem_i ?_ ?_; omega) | (refine SelN.mk ?_) | (refine cut_n ?_) | (refine Both.mk ?_ ?_) | (exact True.intro))
  exact ⟨rfl, (by first | exact ent_i | (repeat (first | exact Ent.refl | exact Ent.left | refine Ent.cons ?_ | refine Ent.app ?_)))⟩
end
def plc (a n : Int) : Int := IntKind.u64.wrap a % n
theorem plc_rng (a : Int) {n : Int} (h : 0 < n) : 0 ≤ plc a n ∧ plc a n < n := ⟨Int.emod_nonneg _ (by omega), Int.emod_lt_of_pos _ h⟩
theorem wrapu_rng (x : Int) : 0 ≤ IntKind.u64.wrap x ∧ IntKind.u64.wrap x ≤ 18446744073709551615 := by
  unfold IntKind.wrap
  have h3 : ((2 : Int) ^ IntKind.u64.bits) = 18446744073709551616 := rfl
  simp only [h3, IntKind.signed, Bool.false_and, Bool.false_eq_true, if_false]
  omega
theorem sp_place (W0 : World) (own : Own) (a : Int) {n : Int} (hn : 0 < n ∧ n ≤ 9223372036854775807) : Pure Tryz.prog W0 31 [.int .i64 a, .int .i64 n] own (.int .i64 (plc a n)) := by
  refine pure_of (spec_of mixed low_kit_Place (by simp [ir_kit_Place]) ?_)
  repeat' ((try (conv => whnf)); first | (refine when_ye ?_ ?_; exact rfl) | (refine when_ne ?_ ?_; exact rfl) | (refine br_te ?_ ?_; exact rfl) | (refine br_fe ?_ ?_; exact rfl) | (apply br_pyE; (exact rfl); omega) | (apply br_pnE; (exact rfl); omega) | (apply when_pyE; (exact rfl); omega) | (apply when_pnE; (exact rfl); omega) | (apply br_npyE; (exact rfl); omega) | (apply br_npnE; (exact rfl); omega) | (apply when_npyE; (exact rfl); omega) | (apply when_npnE; (exact rfl); omega) | (refine ari ?_ ?_; omega) | (refine aru ?_ ?_; omega) | (apply sel; exact rfl) | (refine ix0 rfl ?_) | (refine ix1 rfl ?_) | (refine ix2 rfl ?_) | (refine ix3 rfl ?_) | (apply ixj; omega) | (refine ixn ?_ ?_; omega) | (refine ixs0 rfl ?_) | (refine ixs1 rfl ?_) | (refine ixs_j ?_ ?_; omega) | (refine ixs_n ?_ ?_; omega) | (apply ld_o; exact rfl) | (apply ldN_a; exact rfl) | (apply ldN_o; (exact rfl); exact rfl) | (apply st_o; (exact rfl); exact rfl) | (apply stN_o; (exact rfl); (exact rfl); exact rfl) | (refine new_i (fun bk hbk => ?_)) | (apply when_dE; (exact rfl); (exact rfl); all_goals intro hc) | (apply when_dF; (exact rfl); (exact rfl); all_goals intro hc) | (apply when_nE; (exact rfl); (exact rfl); all_goals intro hc) | (apply when_nF; (exact rfl); (exact rfl); all_goals intro hc) | (apply br_dE; (exact rfl); all_goals intro hc) | (apply br_nE; (exact rfl); all_goals intro hc) | (refine mm_min ?_) | (refine mm_max ?_) | (refine rem_i ?_ ?_; omega) | (refine SelN.mk ?_) | (refine cut_n ?_) | (refine Both.mk ?_ ?_) | (exact True.intro))
  refine arw ?_
  have hu := wrapu_rng a
  have hp := plc_rng a hn.1
  unfold plc at *
  generalize IntKind.u64.wrap a = u at *
  repeat' ((try (conv => whnf)); first | (refine when_ye ?_ ?_; exact rfl) | (refine when_ne ?_ ?_; exact rfl) | (refine br_te ?_ ?_; exact rfl) | (refine br_fe ?_ ?_; exact rfl) | (apply br_pyE; (exact rfl); omega) | (apply br_pnE; (exact rfl); omega) | (apply when_pyE; (exact rfl); omega) | (apply when_pnE; (exact rfl); omega) | (apply br_npyE; (exact rfl); omega) | (apply br_npnE; (exact rfl); omega) | (apply when_npyE; (exact rfl); omega) | (apply when_npnE; (exact rfl); omega) | (refine ari ?_ ?_; omega) | (refine aru ?_ ?_; omega) | (apply sel; exact rfl) | (refine ix0 rfl ?_) | (refine ix1 rfl ?_) | (refine ix2 rfl ?_) | (refine ix3 rfl ?_) | (apply ixj; omega) | (refine ixn ?_ ?_; omega) | (refine ixs0 rfl ?_) | (refine ixs1 rfl ?_) | (refine ixs_j ?_ ?_; omega) | (refine ixs_n ?_ ?_; omega) | (apply ld_o; exact rfl) | (apply ldN_a; exact rfl) | (apply ldN_o; (exact rfl); exact rfl) | (apply st_o; (exact rfl); exact rfl) | (apply stN_o; (exact rfl); (exact rfl); exact rfl) | (refine new_i (fun bk hbk => ?_)) | (apply when_dE; (exact rfl); (exact rfl); all_goals intro hc) | (apply when_dF; (exact rfl); (exact rfl); all_goals intro hc) | (apply when_nE; (exact rfl); (exact rfl); all_goals intro hc) | (apply when_nF; (exact rfl); (exact rfl); all_goals intro hc) | (apply br_dE; (exact rfl); all_goals intro hc) | (apply br_nE; (exact rfl); all_goals intro hc) | (refine mm_min ?_) | (refine mm_max ?_) | (refine rem_i ?_ ?_; omega) | (refine SelN.mk ?_) | (refine cut_n ?_) | (refine Both.mk ?_ ?_) | (exact True.intro))
  exact ⟨rfl, (by first | exact ent_i | (repeat (first | exact Ent.refl | exact Ent.left | refine Ent.cons ?_ | refine Ent.app ?_)))⟩
end Go.Proofs.YtiimndcifcoofaaGreatDoor
