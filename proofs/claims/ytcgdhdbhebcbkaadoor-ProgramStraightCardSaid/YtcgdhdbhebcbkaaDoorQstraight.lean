/- ProgramStraight: the card. -/
import Derived.Test.YtcgdhdbhebcbkaaDoorLfO
import Derived.Test.YtcgdhdbhebcbkaaDoorVg
import Derived.Test.YtcgdhdbhebcbkaaDoorTie
import Derived.Test.YtcgdhdbhebcbkaaDoorCards
namespace Go.Proofs.YtcgdhdbhebcbkaaDoor
open Go Go.ChangeShapes Go.WideShapes Go.ChangeAt Go.RowKit

set_option maxRecDepth 100000 in
theorem programStraight_lifted (os : Os) (started : os.Started) (H : Type) (enc : TypeId × Value → H) :
    ReturnsInHanded {} Tryd.checked os 5 .any (fun w args => (Rows.programStraightSpec.pre enc Tryd.prog Tryd.f5 Rows.programStraightRow.domain false w args ∧ laidMetH Tryd.prog [("strongtx/isa.forms", Rows.laid_strongtx_isa_forms)] w) ∧ sizedMet enc Tryd.prog Tryd.f5 (OpenSpec.ofChange Rows.programStraightSpec) false w args) (Rows.programStraightSpec.post enc Tryd.prog Tryd.f5 false true false false) := by
  refine returnsInHanded_of_change_and (C := Tryd.checked) (X := fun w _ => laidMetH Tryd.prog [("strongtx/isa.forms", Rows.laid_strongtx_isa_forms)] w) (fun _ _ _ hh h => h.of_heap hh) rowOwn started (by kernel_rfl) Tryd.func5
    (ChangeSpec.witness_shaped (enc := enc) (C := Tryd.checked) (os := os) (X := fun w _ => laidMetH Tryd.prog [("strongtx/isa.forms", Rows.laid_strongtx_isa_forms)] w) false (World.laidAll Tryd.prog os [("strongtx/isa.forms", Rows.laid_strongtx_isa_forms)]) #[.slice none 0 0] 8 (World.laidAll_os _ _ _)
      (World.shaped_of_ZipB (by kernel_rfl) (by kernel_rfl)) (by kernel_rfl) (by kernel_rfl) (by kernel_rfl)
      (by rw [MakeChecks.laidMetH_plain _ _ _ (by kernel_rfl)]; exact laidMet_laidAll _ (by kernel_rfl) (by kernel_rfl))) ?_
  intro W base args ds gs before hval0 hW hcnd _ hL _
  have hval : ∀ (j : Nat) t v, Tryd.f5.params[j]? = some t → args[j]? = some v → Value.okWide Tryd.prog W .any base t v := hval0
  have hW' := hW
  obtain ⟨p, q, hA0, hV, rfl, hfz, hnd⟩ := hW
  have hA : DataW.TrodAll enc Tryd.prog W 0 (fun _ => true) true Tryd.f5.params.toList args.toList ds p := hA0
  rw [Tryd.params5] at hA hval
  have hAA := hA
  obtain ⟨v0, vs0, d0, ds0, p0, q0, hargs, rfl, rfl, h0, r0⟩ := trodAll_cons hA
  obtain ⟨rfl, rfl, rfl⟩ := trodAll_nil r0
  obtain rfl : args = #[v0] := by cases args; simp_all
  obtain ⟨rfl, rfl⟩ := trodVars_none hV
  obtain ⟨la, ls, lc, rfl, hLL, _⟩ := ints_open (hval 0 22 v0 rfl rfl) h0
  clear hA0 hval0
  refine (sp_straight (lc := lc) (forms_at hL) hLL W (st_nil W)).mono fun e W' ⟨he, hs⟩ => ?_
  subst he
  have bel := below_st hs
  exact ⟨_, rfl, _, _, _, [], _, [], hW', trodAll_mk1 (shut_bool Tryd.underlying4 _), trodAll_below rowLaid bel (by kernel_rfl) hAA, rfl, bel.frame _, fun h => by cases h⟩

theorem programStraight_row : Rows.ProgramStraightSaid :=
  OpenClaim.holds_of_wide 5 Tryd.f5 rfl rfl rfl rfl rfl rfl rfl ⟨rfl, rfl, rfl, rfl, rfl⟩ rfl rfl rfl rfl rfl (by kernel_rfl) Tryd.func5 (by kernel_rfl)
    (of_decide_eq_true (by kernel_rfl)) (by unfold Func.isWrapper; first | (rw [if_pos (by decide +kernel)]; kernel_rfl) | (rw [if_neg (by decide +kernel)]; exact ⟨rfl, rfl⟩))
    (fun os started H enc _ => programStraight_lifted os started H enc)

set_option maxRecDepth 100000 in
theorem programStraight_proved : Rows.ProgramStraightCardSaid :=
  Claim7.holds_tied_plain_at .later [] [.data] true (true, "114f5eb595008e71fc0be3494cedf91214b198936b64a5bce8439699dcb29982") false
    programStraight_row (fun _ h => by cases h) (by kernel_rfl) (fun _ h => by cases h) programStraight_row_tie rfl ⟨rfl, rfl⟩ (by kernel_rfl) rfl
    (fun f fn hf hfn => by
      obtain rfl : f = 5 := Option.some.inj ((show Tryd.prog.funcNamed "strongtx/strongtxlaw06.ProgramStraight" = some 5 by kernel_rfl).symm.trans hf) |>.symm
      obtain rfl : fn = Tryd.f5 := (Option.some.inj (Tryd.func5.symm.trans hfn)).symm
      exact ⟨by kernel_rfl, fun j t ht => by
        rw [Tryd.params5] at ht
        have hm : t ∈ [22] := by simpa using Array.mem_of_getElem? ht
        have hall : ([22].all fun u => !Tryd.prog.wantsStandIn u) = true := by kernel_rfl
        exact (show Tryd.prog.wantsStandIn t = false by simpa using List.all_eq_true.1 hall t hm)⟩)
    (by kernel_rfl)
#print axioms programStraight_proved
end Go.Proofs.YtcgdhdbhebcbkaaDoor
