/- LayoutPacks: the blocks of a configuration lie one behind another from Base on, different blocks have no word in common, and Find is the inverse of First. No condition. -/
import Derived.Test.YtcelbfijiebjhaaLaG
import Derived.Test.YtcelbfijiebjhaaLaE
namespace Go.Proofs.Ytcelbfijiebjhaa
open Go Go.ChangeShapes Go.WideShapes Go.ChangeAt Go.RowKit

set_option maxRecDepth 100000 in
theorem layoutPacks_lifted (os : Os) (started : os.Started) (H : Type) (enc : TypeId × Value → H) :
    ReturnsInHanded {} Try.checked os 5 .any (Rows.layoutPacksSpec.pre6 enc Try.prog Try.f5 Rows.layoutPacksRow.domain false) (Rows.layoutPacksSpec.post enc Try.prog Try.f5 false true false false) := by
  refine returnsInHanded_of_change (C := Try.checked) rowOwn started (by kernel_rfl) Try.func5
    (ChangeSpec.witness6 (enc := enc) (C := Try.checked) false ⟨#[], #[.agg #[.int .i64 0, .int .i64 0, .int .i64 0, .int .i64 0, .int .i64 0], .agg #[.int .i64 0, .int .i64 0, .int .i64 0, .int .i64 0], .int .i64 0], []⟩ 8 (by kernel_rfl) (by kernel_rfl) (by kernel_rfl) (by kernel_rfl)) ?_
  intro W base args ds gs before hval0 hW hcnd _
  have hval : ∀ (j : Nat) t v, Try.f5.params[j]? = some t → args[j]? = some v → Value.okWide Try.prog W .any base t v := hval0
  have hW' := hW
  obtain ⟨p, q, hA0, hV, rfl, hfz, hnd⟩ := hW
  have hA : DataW.TrodAll enc Try.prog W 0 (fun _ => true) true Try.f5.params.toList args.toList ds p := hA0
  rw [Try.params5] at hA hval
  have hAA := hA
  obtain ⟨v0, vs0, d0, ds0, p0, q0, hargs, rfl, rfl, h0, r0⟩ := trodAll_cons hA
  obtain ⟨v1, vs1, d1, ds1, p1, q1, rfl, rfl, rfl, h1, r1⟩ := trodAll_cons r0
  obtain ⟨v2, vs2, d2, ds2, p2, q2, rfl, rfl, rfl, h2, r2⟩ := trodAll_cons r1
  obtain ⟨rfl, rfl, rfl⟩ := trodAll_nil r2
  obtain rfl : args = #[v0, v1, v2] := by cases args; simp_all
  obtain ⟨rfl, rfl⟩ := trodVars_none hV
  obtain ⟨n0, n1, n2, n3, n4, rfl, hn⟩ := arr5_open (hval 0 28 v0 rfl rfl)
  obtain ⟨m0, m1, m2, m3, rfl, hm⟩ := arr4_open (hval 1 22 v1 rfl rfl)
  obtain ⟨b, rfl, hb⟩ := val_int Try.underlying3 (hval 2 3 v2 rfl rfl)
  clear hA0 hval0
  refine (sp_packs W n0 n1 n2 n3 n4 m0 m1 m2 m3 b hn W (st_nil W)).mono fun e W' ⟨he, hs⟩ => ?_
  subst he
  have bel := below_st hs
  exact ⟨_, rfl, _, _, _, [], _, [], hW', trodAll_mk1 (shut_bool Try.underlying4 _), trodAll_below rowLaid bel (by kernel_rfl) hAA, rfl, bel.frame _, fun h => by cases h⟩

theorem layoutPacks_proved : Rows.LayoutPacksSaid :=
  OpenClaim.holds_of_wide 5 Try.f5 rfl rfl rfl rfl rfl rfl rfl ⟨rfl, rfl, rfl, rfl, rfl⟩ rfl rfl rfl rfl rfl (by kernel_rfl) Try.func5 (by kernel_rfl)
    (of_decide_eq_true (by kernel_rfl)) (by unfold Func.isWrapper; first | (rw [if_pos (by decide +kernel)]; kernel_rfl) | (rw [if_neg (by decide +kernel)]; exact ⟨rfl, rfl⟩))
    (fun os started H enc _ => layoutPacks_lifted os started H enc)
#print axioms layoutPacks_proved
end Go.Proofs.Ytcelbfijiebjhaa
