/- LayoutAny: all functions return the results of the document for any configuration. No condition. -/
import Derived.Test.YtcelbfijiebjhaaLaB
import Derived.Test.YtcelbfijiebjhaaVf
namespace Go.Proofs.Ytcelbfijiebjhaa
open Go Go.ChangeShapes Go.WideShapes Go.ChangeAt Go.RowKit

theorem cfg_open {w : World} {b0 : Nat} {v : Value} (h : Value.okWide Try.prog w .any b0 24 v) : ∃ c : Cfg, v = c.v := by
  obtain ⟨cs, rfl, hl, hc⟩ := val_flat (ts := [3, 3, 3, 3, 3, 3, 3, 3, 3, 3, 3, 3, 4]) (by kernel_rfl) (by kernel_rfl) (by kernel_rfl) h
  match cs, hl with
  | [c0, c1, c2, c3, c4, c5, c6, c7, c8, c9, c10, c11, c12], _ =>
    obtain ⟨n0, rfl, _⟩ := cell_int Try.underlying3 (hc 0 _ 3 rfl rfl)
    obtain ⟨n1, rfl, _⟩ := cell_int Try.underlying3 (hc 1 _ 3 rfl rfl)
    obtain ⟨n2, rfl, _⟩ := cell_int Try.underlying3 (hc 2 _ 3 rfl rfl)
    obtain ⟨n3, rfl, _⟩ := cell_int Try.underlying3 (hc 3 _ 3 rfl rfl)
    obtain ⟨n4, rfl, _⟩ := cell_int Try.underlying3 (hc 4 _ 3 rfl rfl)
    obtain ⟨n5, rfl, _⟩ := cell_int Try.underlying3 (hc 5 _ 3 rfl rfl)
    obtain ⟨n6, rfl, _⟩ := cell_int Try.underlying3 (hc 6 _ 3 rfl rfl)
    obtain ⟨n7, rfl, _⟩ := cell_int Try.underlying3 (hc 7 _ 3 rfl rfl)
    obtain ⟨n8, rfl, _⟩ := cell_int Try.underlying3 (hc 8 _ 3 rfl rfl)
    obtain ⟨n9, rfl, _⟩ := cell_int Try.underlying3 (hc 9 _ 3 rfl rfl)
    obtain ⟨n10, rfl, _⟩ := cell_int Try.underlying3 (hc 10 _ 3 rfl rfl)
    obtain ⟨n11, rfl, _⟩ := cell_int Try.underlying3 (hc 11 _ 3 rfl rfl)
    obtain ⟨b12, rfl⟩ := cell_bool Try.underlying4 (hc 12 _ 4 rfl rfl)
    exact ⟨⟨n0, n1, n2, n3, n4, n5, n6, n7, n8, n9, n10, n11, b12⟩, rfl⟩

set_option maxRecDepth 100000 in
theorem any_lifted (os : Os) (started : os.Started) (H : Type) (enc : TypeId × Value → H) :
    ReturnsInHanded {} Try.checked os 3 .any (Rows.layoutAnySpec.pre6 enc Try.prog Try.f3 Rows.layoutAnyRow.domain false) (Rows.layoutAnySpec.post enc Try.prog Try.f3 false true false false) := by
  refine returnsInHanded_of_change (C := Try.checked) rowOwn started (by kernel_rfl) Try.func3
    (ChangeSpec.witness6 (enc := enc) (C := Try.checked) false ⟨#[], #[zeC.v, .int .i64 0, .int .u64 0], []⟩ 8 (by kernel_rfl) (by kernel_rfl) (by kernel_rfl) (by kernel_rfl)) ?_
  intro W base args ds gs before hval0 hW hcnd _
  have hval : ∀ (j : Nat) t v, Try.f3.params[j]? = some t → args[j]? = some v → Value.okWide Try.prog W .any base t v := hval0
  have hW' := hW
  obtain ⟨p, q, hA0, hV, rfl, hfz, hnd⟩ := hW
  have hA : DataW.TrodAll enc Try.prog W 0 (fun _ => true) true Try.f3.params.toList args.toList ds p := hA0
  rw [Try.params3] at hA hval
  have hAA := hA
  obtain ⟨v0, vs0, d0, ds0, p0, q0, hargs, rfl, rfl, h0, r0⟩ := trodAll_cons hA
  obtain ⟨v1, vs1, d1, ds1, p1, q1, rfl, rfl, rfl, h1, r1⟩ := trodAll_cons r0
  obtain ⟨v2, vs2, d2, ds2, p2, q2, rfl, rfl, rfl, h2, r2⟩ := trodAll_cons r1
  obtain ⟨rfl, rfl, rfl⟩ := trodAll_nil r2
  obtain rfl : args = #[v0, v1, v2] := by cases args; simp_all
  obtain ⟨rfl, rfl⟩ := trodVars_none hV
  obtain ⟨c, rfl⟩ := cfg_open (hval 0 _ v0 rfl rfl)
  obtain ⟨b, rfl, hb⟩ := val_int Try.underlying3 (hval 1 3 v1 rfl rfl)
  obtain ⟨a, rfl, ha⟩ := val_int Try.underlying25 (hval 2 25 v2 rfl rfl)
  clear hA0 hval0
  refine (sp_any W c b a hb W (st_nil W)).mono fun e W' ⟨he, hs⟩ => ?_
  subst he
  have bel := below_st hs
  exact ⟨_, rfl, _, _, _, [], _, [], hW', trodAll_mk1 (shut_bool Try.underlying4 _), trodAll_below rowLaid bel (by kernel_rfl) hAA, rfl, bel.frame _, fun h => by cases h⟩

theorem layoutAny_proved : Rows.LayoutAnySaid :=
  OpenClaim.holds_of_wide 3 Try.f3 rfl rfl rfl rfl rfl rfl rfl ⟨rfl, rfl, rfl, rfl, rfl⟩ rfl rfl rfl rfl rfl (by kernel_rfl) Try.func3 (by kernel_rfl)
    (of_decide_eq_true (by kernel_rfl)) (by unfold Func.isWrapper; first | (rw [if_pos (by decide +kernel)]; kernel_rfl) | (rw [if_neg (by decide +kernel)]; exact ⟨rfl, rfl⟩))
    (fun os started H enc _ => any_lifted os started H enc)
#print axioms layoutAny_proved
end Go.Proofs.Ytcelbfijiebjhaa
