/- ExploreCounts: the card. -/
import Derived.Test.YtkieffpjjfebjaaGreatDoorY29
import Derived.Test.YtkieffpjjfebjaaGreatDoorTie
import Derived.Test.YtkieffpjjfebjaaGreatDoorCards
namespace Go.Proofs.YtkieffpjjfebjaaGreatDoor
open Go Go.ChangeShapes Go.WideShapes Go.ChangeAt Go.RowKit

set_option maxRecDepth 100000 in
theorem exploreCounts_lifted (os : Os) (started : os.Started) (H : Type) (enc : TypeId × Value → H) :
    ReturnsInHanded {} Tryz.checked os 8 .any (fun w args => (Rows.exploreCountsSpec.pre enc Tryz.prog Tryz.f8 Rows.exploreCountsRow.domain false w args ∧ laidMetH Tryz.prog [("strongtx/tdrf.none", Rows.laid_strongtx_tdrf_none), ("strongtx/isa.forms", Rows.laid_strongtx_isa_forms)] w) ∧ sizedMet enc Tryz.prog Tryz.f8 (OpenSpec.ofChange Rows.exploreCountsSpec) false w args) (Rows.exploreCountsSpec.post enc Tryz.prog Tryz.f8 false true false false) := by
  refine returnsInHanded_of_change_and (C := Tryz.checked) (X := fun w _ => laidMetH Tryz.prog [("strongtx/tdrf.none", Rows.laid_strongtx_tdrf_none), ("strongtx/isa.forms", Rows.laid_strongtx_isa_forms)] w) (fun _ _ _ hh h => h.of_heap hh) rowOwn started (by kernel_rfl) Tryz.func8
    (ChangeSpec.witness_shaped (enc := enc) (C := Tryz.checked) (os := os) (X := fun w _ => laidMetH Tryz.prog [("strongtx/tdrf.none", Rows.laid_strongtx_tdrf_none), ("strongtx/isa.forms", Rows.laid_strongtx_isa_forms)] w) false (World.laidAll Tryz.prog os [("strongtx/tdrf.none", Rows.laid_strongtx_tdrf_none), ("strongtx/isa.forms", Rows.laid_strongtx_isa_forms)]) #[.int .i64 0, .int .i64 0] 8 (World.laidAll_os _ _ _)
      (World.shaped_of_ZipB (by kernel_rfl) (by kernel_rfl)) (by kernel_rfl) (by kernel_rfl) (by kernel_rfl)
      (by rw [MakeChecks.laidMetH_plain _ _ _ (by kernel_rfl)]; exact laidMet_laidAll _ (by kernel_rfl) (by kernel_rfl))) ?_
  intro W base args ds gs before hval0 hW hcnd hsz hL _
  have hval : ∀ (j : Nat) t v, Tryz.f8.params[j]? = some t → args[j]? = some v → Value.okWide Tryz.prog W .any base t v := hval0
  have hW' := hW
  obtain ⟨p, q, hA0, hV, rfl, hfz, hnd⟩ := hW
  have hA : DataW.TrodAll enc Tryz.prog W 0 (fun _ => true) true Tryz.f8.params.toList args.toList ds p := hA0
  rw [Tryz.params8] at hA hval hsz
  have hAA := hA
  obtain ⟨v0, vs0, d0, ds0, p0, q0, hargs, rfl, rfl, h0, r0⟩ := trodAll_cons hA
  obtain ⟨v1, vs1, d1, ds1, p1, q1, rfl, rfl, rfl, h1, r1⟩ := trodAll_cons r0
  obtain ⟨rfl, rfl, rfl⟩ := trodAll_nil r1
  obtain rfl : args = #[v0, v1] := by cases args; simp_all
  obtain ⟨rfl, rfl⟩ := trodVars_none hV
  obtain ⟨xa, rfl, _⟩ := val_int Tryz.underlying3 (hval 0 3 v0 rfl rfl)
  obtain ⟨xb, rfl, _⟩ := val_int Tryz.underlying3 (hval 1 3 v1 rfl rfl)
  clear hA0 hval0 hsz
  refine (sp_counts (forms2_at hL) (none_at hL) xa xb W (st_nil W)).mono fun e W' ⟨he, hs⟩ => ?_
  subst he
  have bel := below_st hs
  exact ⟨_, rfl, _, _, _, [], _, [], hW', trodAll_mk1 (shut_bool Tryz.underlying4 _), trodAll_below rowLaid bel (by kernel_rfl) hAA, rfl, bel.frame _, fun h => by cases h⟩

theorem exploreCounts_row : Rows.ExploreCountsSaid :=
  OpenClaim.holds_of_wide 8 Tryz.f8 rfl rfl rfl rfl rfl rfl rfl ⟨rfl, rfl, rfl, rfl, rfl⟩ rfl rfl rfl rfl rfl (by kernel_rfl) Tryz.func8 (by kernel_rfl)
    (of_decide_eq_true (by kernel_rfl)) (by unfold Func.isWrapper; first | (rw [if_pos (by decide +kernel)]; kernel_rfl) | (rw [if_neg (by decide +kernel)]; exact ⟨rfl, rfl⟩))
    (fun os started H enc _ => exploreCounts_lifted os started H enc)

set_option maxRecDepth 100000 in
theorem exploreCounts_proved : Rows.ExploreCountsCardSaid :=
  Claim7.holds_tied_plain_at .later [] [.data, .data] true (true, "ad3f46fabf3e0f6fa36612f8ec912cd3be0b93ed6c78d83dabc4262986db39b4") true
    exploreCounts_row (fun _ h => by cases h) (by kernel_rfl) (fun _ h => by cases h) exploreCounts_row_tie rfl ⟨rfl, rfl⟩ (by kernel_rfl) rfl
    (fun f fn hf hfn => by
      obtain rfl : f = 8 := Option.some.inj ((show Tryz.prog.funcNamed "strongtx/strongtxlaw26.ExploreCounts" = some 8 by kernel_rfl).symm.trans hf) |>.symm
      obtain rfl : fn = Tryz.f8 := (Option.some.inj (Tryz.func8.symm.trans hfn)).symm
      exact ⟨by kernel_rfl, fun j t ht => by
        rw [Tryz.params8] at ht
        have hm : t ∈ [3, 3] := by simpa using Array.mem_of_getElem? ht
        have hall : ([3, 3].all fun u => !Tryz.prog.wantsStandIn u) = true := by kernel_rfl
        exact (show Tryz.prog.wantsStandIn t = false by simpa using List.all_eq_true.1 hall t hm)⟩)
    (by kernel_rfl)
#print axioms exploreCounts_proved
end Go.Proofs.YtkieffpjjfebjaaGreatDoor
