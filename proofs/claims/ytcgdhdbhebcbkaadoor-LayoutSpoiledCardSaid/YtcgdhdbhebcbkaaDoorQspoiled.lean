/- LayoutSpoiled: the card. -/
import Derived.Test.YtcgdhdbhebcbkaaDoorLdN
import Derived.Test.YtcgdhdbhebcbkaaDoorVg
import Derived.Test.YtcgdhdbhebcbkaaDoorTie
import Derived.Test.YtcgdhdbhebcbkaaDoorCards
namespace Go.Proofs.YtcgdhdbhebcbkaaDoor
open Go Go.ChangeShapes Go.WideShapes Go.ChangeAt Go.RowKit

set_option maxRecDepth 100000 in
theorem layoutSpoiled_lifted (os : Os) (started : os.Started) (H : Type) (enc : TypeId × Value → H) :
    ReturnsInHanded {} Tryd.checked os 7 .any (fun w args => (Rows.layoutSpoiledSpec.pre enc Tryd.prog Tryd.f7 Rows.layoutSpoiledRow.domain false w args ∧ laidMetH Tryd.prog [("strongtx/isa.forms", Rows.laid_strongtx_isa_forms)] w) ∧ sizedMet enc Tryd.prog Tryd.f7 (OpenSpec.ofChange Rows.layoutSpoiledSpec) false w args) (Rows.layoutSpoiledSpec.post enc Tryd.prog Tryd.f7 false true false false) := by
  refine returnsInHanded_of_change_and (C := Tryd.checked) (X := fun w _ => laidMetH Tryd.prog [("strongtx/isa.forms", Rows.laid_strongtx_isa_forms)] w) (fun _ _ _ hh h => h.of_heap hh) rowOwn started (by kernel_rfl) Tryd.func7
    (ChangeSpec.witness_shaped (enc := enc) (C := Tryd.checked) (os := os) (X := fun w _ => laidMetH Tryd.prog [("strongtx/isa.forms", Rows.laid_strongtx_isa_forms)] w) false (World.laidAll Tryd.prog os [("strongtx/isa.forms", Rows.laid_strongtx_isa_forms)]) #[.agg #[.int .i64 0, .int .i64 0, .int .i64 0, .int .i64 0, .int .i64 0], .slice none 0 0, .slice none 0 0, .int .i64 0, .int .i64 0, .int .i64 0] 8 (World.laidAll_os _ _ _)
      (World.shaped_of_ZipB (by kernel_rfl) (by kernel_rfl)) (by kernel_rfl) (by kernel_rfl) (by kernel_rfl)
      (by rw [MakeChecks.laidMetH_plain _ _ _ (by kernel_rfl)]; exact laidMet_laidAll _ (by kernel_rfl) (by kernel_rfl))) ?_
  intro W base args ds gs before hval0 hW hcnd _ hL _
  have hval : ∀ (j : Nat) t v, Tryd.f7.params[j]? = some t → args[j]? = some v → Value.okWide Tryd.prog W .any base t v := hval0
  have hW' := hW
  obtain ⟨p, q, hA0, hV, rfl, hfz, hnd⟩ := hW
  have hA : DataW.TrodAll enc Tryd.prog W 0 (fun _ => true) true Tryd.f7.params.toList args.toList ds p := hA0
  rw [Tryd.params7] at hA hval
  have hAA := hA
  obtain ⟨v0, vs0, d0, ds0, p0, q0, hargs, rfl, rfl, h0, r0⟩ := trodAll_cons hA
  obtain ⟨v1, vs1, d1, ds1, p1, q1, rfl, rfl, rfl, h1, r1⟩ := trodAll_cons r0
  obtain ⟨v2, vs2, d2, ds2, p2, q2, rfl, rfl, rfl, h2, r2⟩ := trodAll_cons r1
  obtain ⟨v3, vs3, d3, ds3, p3, q3, rfl, rfl, rfl, h3, r3⟩ := trodAll_cons r2
  obtain ⟨v4, vs4, d4, ds4, p4, q4, rfl, rfl, rfl, h4, r4⟩ := trodAll_cons r3
  obtain ⟨v5, vs5, d5, ds5, p5, q5, rfl, rfl, rfl, h5, r5⟩ := trodAll_cons r4
  obtain ⟨rfl, rfl, rfl⟩ := trodAll_nil r5
  obtain rfl : args = #[v0, v1, v2, v3, v4, v5] := by cases args; simp_all
  obtain ⟨rfl, rfl⟩ := trodVars_none hV
  obtain ⟨n0, n1, n2, n3, n4, rfl, hh⟩ := arr5_open (hval 0 51 v0 rfl rfl)
  obtain ⟨la, ls, lc, rfl, hLL, hQQ⟩ := ihs_open (hval 1 52 v1 rfl rfl) h1
  obtain ⟨pka, pks, pkc, rfl, hP, _⟩ := ints_open (hval 2 22 v2 rfl rfl) h2
  obtain ⟨what, rfl, _⟩ := val_int Tryd.underlying3 (hval 3 3 v3 rfl rfl)
  obtain ⟨aat, rfl, _⟩ := val_int Tryd.underlying3 (hval 4 3 v4 rfl rfl)
  obtain ⟨v, rfl, _⟩ := val_int Tryd.underlying3 (hval 5 3 v5 rfl rfl)
  clear hA0 hval0
  refine (sp_spoiled (lc := lc) (pkc := pkc) n0 n1 n2 n3 n4 what aat v (forms_at hL) hh hLL hQQ hP W (st_nil W)).mono fun e W' ⟨he, hs⟩ => ?_
  subst he
  have bel := below_st hs
  exact ⟨_, rfl, _, _, _, [], _, [], hW', trodAll_mk1 (shut_bool Tryd.underlying4 _), trodAll_below rowLaid bel (by kernel_rfl) hAA, rfl, bel.frame _, fun h => by cases h⟩

theorem layoutSpoiled_row : Rows.LayoutSpoiledSaid :=
  OpenClaim.holds_of_wide 7 Tryd.f7 rfl rfl rfl rfl rfl rfl rfl ⟨rfl, rfl, rfl, rfl, rfl⟩ rfl rfl rfl rfl rfl (by kernel_rfl) Tryd.func7 (by kernel_rfl)
    (of_decide_eq_true (by kernel_rfl)) (by unfold Func.isWrapper; first | (rw [if_pos (by decide +kernel)]; kernel_rfl) | (rw [if_neg (by decide +kernel)]; exact ⟨rfl, rfl⟩))
    (fun os started H enc _ => layoutSpoiled_lifted os started H enc)

set_option maxRecDepth 100000 in
theorem layoutSpoiled_proved : Rows.LayoutSpoiledCardSaid :=
  Claim7.holds_tied_plain_at .later [] [.data] true (true, "114f5eb595008e71fc0be3494cedf91214b198936b64a5bce8439699dcb29982") false
    layoutSpoiled_row (fun _ h => by cases h) (by kernel_rfl) (fun _ h => by cases h) layoutSpoiled_row_tie rfl ⟨rfl, rfl⟩ (by kernel_rfl) rfl
    (fun f fn hf hfn => by
      obtain rfl : f = 7 := Option.some.inj ((show Tryd.prog.funcNamed "strongtx/strongtxlaw07.LayoutSpoiled" = some 7 by kernel_rfl).symm.trans hf) |>.symm
      obtain rfl : fn = Tryd.f7 := (Option.some.inj (Tryd.func7.symm.trans hfn)).symm
      exact ⟨by kernel_rfl, fun j t ht => by
        rw [Tryd.params7] at ht
        have hm : t ∈ [51, 52, 22, 3, 3, 3] := by simpa using Array.mem_of_getElem? ht
        have hall : ([51, 52, 22, 3, 3, 3].all fun u => !Tryd.prog.wantsStandIn u) = true := by kernel_rfl
        exact (show Tryd.prog.wantsStandIn t = false by simpa using List.all_eq_true.1 hall t hm)⟩)
    (by kernel_rfl)
#print axioms layoutSpoiled_proved
end Go.Proofs.YtcgdhdbhebcbkaaDoor
