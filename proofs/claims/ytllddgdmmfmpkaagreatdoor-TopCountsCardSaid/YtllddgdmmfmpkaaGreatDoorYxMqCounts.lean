/- TopCounts: the card. -/
import Derived.Test.YtllddgdmmfmpkaaGreatDoorY29
import Derived.Test.YtllddgdmmfmpkaaGreatDoorTie
import Derived.Test.YtllddgdmmfmpkaaGreatDoorCards
namespace Go.Proofs.YtllddgdmmfmpkaaGreatDoor
open Go Go.ChangeShapes Go.WideShapes Go.ChangeAt Go.RowKit

set_option maxRecDepth 100000 in
theorem topCounts_lifted (os : Os) (started : os.Started) (H : Type) (enc : TypeId × Value → H) :
    ReturnsInHanded {} Tryz.checked os 3 .any (fun w args => (Rows.topCountsSpec.pre enc Tryz.prog Tryz.f3 Rows.topCountsRow.domain false w args ∧ laidMetH Tryz.prog [("strongtx/isa.forms", Rows.laid_strongtx_isa_forms)] w) ∧ sizedMet enc Tryz.prog Tryz.f3 (OpenSpec.ofChange Rows.topCountsSpec) false w args) (Rows.topCountsSpec.post enc Tryz.prog Tryz.f3 false true false false) := by
  refine returnsInHanded_of_change_and (C := Tryz.checked) (X := fun w _ => laidMetH Tryz.prog [("strongtx/isa.forms", Rows.laid_strongtx_isa_forms)] w) (fun _ _ _ hh h => h.of_heap hh) rowOwn started (by kernel_rfl) Tryz.func3
    (ChangeSpec.witness_shaped (enc := enc) (C := Tryz.checked) (os := os) (X := fun w _ => laidMetH Tryz.prog [("strongtx/isa.forms", Rows.laid_strongtx_isa_forms)] w) false (World.laidAll Tryz.prog os [("strongtx/isa.forms", Rows.laid_strongtx_isa_forms)]) #[.int .i64 0, .int .i64 0, .int .i64 0, .slice none 0 0] 8 (World.laidAll_os _ _ _)
      (World.shaped_of_ZipB (by kernel_rfl) (by kernel_rfl)) (by kernel_rfl) (by kernel_rfl) (by kernel_rfl)
      (by rw [MakeChecks.laidMetH_plain _ _ _ (by kernel_rfl)]; exact laidMet_laidAll _ (by kernel_rfl) (by kernel_rfl))) ?_
  intro W base args ds gs before hval0 hW hcnd hsz hL _
  have hval : ∀ (j : Nat) t v, Tryz.f3.params[j]? = some t → args[j]? = some v → Value.okWide Tryz.prog W .any base t v := hval0
  have hW' := hW
  obtain ⟨p, q, hA0, hV, rfl, hfz, hnd⟩ := hW
  have hA : DataW.TrodAll enc Tryz.prog W 0 (fun _ => true) true Tryz.f3.params.toList args.toList ds p := hA0
  rw [Tryz.params3] at hA hval hsz
  have hAA := hA
  obtain ⟨v0, vs0, d0, ds0, p0, q0, hargs, rfl, rfl, h0, r0⟩ := trodAll_cons hA
  obtain ⟨v1, vs1, d1, ds1, p1, q1, rfl, rfl, rfl, h1, r1⟩ := trodAll_cons r0
  obtain ⟨v2, vs2, d2, ds2, p2, q2, rfl, rfl, rfl, h2, r2⟩ := trodAll_cons r1
  obtain ⟨v3, vs3, d3, ds3, p3, q3, rfl, rfl, rfl, h3, r3⟩ := trodAll_cons r2
  obtain ⟨rfl, rfl, rfl⟩ := trodAll_nil r3
  obtain rfl : args = #[v0, v1, v2, v3] := by cases args; simp_all
  obtain ⟨rfl, rfl⟩ := trodVars_none hV
  obtain ⟨xa, rfl, _⟩ := val_int Tryz.underlying3 (hval 0 3 v0 rfl rfl)
  obtain ⟨xb, rfl, _⟩ := val_int Tryz.underlying3 (hval 1 3 v1 rfl rfl)
  obtain ⟨xc, rfl, _⟩ := val_int Tryz.underlying3 (hval 2 3 v2 rfl rfl)
  obtain ⟨pa, pl, pc, rfl, hPi, hPl⟩ := ints_V (hval 3 22 v3 rfl rfl) h3 (weight_head (weight_head (weight_head (weight_head hsz).2).2).2).1
  clear hA0 hval0 hsz
  refine (sp_topCounts (kc := pc) (forms_at hL) xa xb xc hPi hPl W (st_nil W)).mono fun e W' ⟨he, hs⟩ => ?_
  subst he
  have bel := below_st hs
  exact ⟨_, rfl, _, _, _, [], _, [], hW', trodAll_mk1 (shut_bool Tryz.underlying4 _), trodAll_below rowLaid bel (by kernel_rfl) hAA, rfl, bel.frame _, fun h => by cases h⟩

theorem topCounts_row : Rows.TopCountsSaid :=
  OpenClaim.holds_of_wide 3 Tryz.f3 rfl rfl rfl rfl rfl rfl rfl ⟨rfl, rfl, rfl, rfl, rfl⟩ rfl rfl rfl rfl rfl (by kernel_rfl) Tryz.func3 (by kernel_rfl)
    (of_decide_eq_true (by kernel_rfl)) (by unfold Func.isWrapper; first | (rw [if_pos (by decide +kernel)]; kernel_rfl) | (rw [if_neg (by decide +kernel)]; exact ⟨rfl, rfl⟩))
    (fun os started H enc _ => topCounts_lifted os started H enc)

set_option maxRecDepth 100000 in
theorem topCounts_proved : Rows.TopCountsCardSaid :=
  Claim7.holds_tied_plain_at .later [] [.data] true (true, "e13b68d5591301e38a58e6f3263680e8e4c198e9d561b609cf9fc46f28e45ba7") false
    topCounts_row (fun _ h => by cases h) (by kernel_rfl) (fun _ h => by cases h) topCounts_row_tie rfl ⟨rfl, rfl⟩ (by kernel_rfl) rfl
    (fun f fn hf hfn => by
      obtain rfl : f = 3 := Option.some.inj ((show Tryz.prog.funcNamed "strongtx/strongtxtop.TopCounts" = some 3 by kernel_rfl).symm.trans hf) |>.symm
      obtain rfl : fn = Tryz.f3 := (Option.some.inj (Tryz.func3.symm.trans hfn)).symm
      exact ⟨by kernel_rfl, fun j t ht => by
        rw [Tryz.params3] at ht
        have hm : t ∈ [3, 3, 3, 22] := by simpa using Array.mem_of_getElem? ht
        have hall : ([3, 3, 3, 22].all fun u => !Tryz.prog.wantsStandIn u) = true := by kernel_rfl
        exact (show Tryz.prog.wantsStandIn t = false by simpa using List.all_eq_true.1 hall t hm)⟩)
    (by kernel_rfl)
#print axioms topCounts_proved
end Go.Proofs.YtllddgdmmfmpkaaGreatDoor
