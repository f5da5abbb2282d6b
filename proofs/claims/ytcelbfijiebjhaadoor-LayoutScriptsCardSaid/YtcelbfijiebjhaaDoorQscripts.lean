/- LayoutScripts: the card. -/
import Derived.Test.YtcelbfijiebjhaaDoorLdH
import Derived.Test.YtcelbfijiebjhaaDoorVg
import Derived.Test.YtcelbfijiebjhaaDoorTie
import Derived.Test.YtcelbfijiebjhaaDoorCards
namespace Go.Proofs.YtcelbfijiebjhaaDoor
open Go Go.ChangeShapes Go.WideShapes Go.ChangeAt Go.RowKit

set_option maxRecDepth 100000 in
theorem layoutScripts_lifted (os : Os) (started : os.Started) (H : Type) (enc : TypeId × Value → H) :
    ReturnsInHanded {} Tryd.checked os 6 .any (fun w args => (Rows.layoutScriptsSpec.pre enc Tryd.prog Tryd.f6 Rows.layoutScriptsRow.domain false w args ∧ laidMetH Tryd.prog [("strongtx/isa.forms", Rows.laid_strongtx_isa_forms)] w) ∧ sizedMet enc Tryd.prog Tryd.f6 (OpenSpec.ofChange Rows.layoutScriptsSpec) false w args) (Rows.layoutScriptsSpec.post enc Tryd.prog Tryd.f6 false true false false) := by
  refine returnsInHanded_of_change_and (C := Tryd.checked) (X := fun w _ => laidMetH Tryd.prog [("strongtx/isa.forms", Rows.laid_strongtx_isa_forms)] w) (fun _ _ _ hh h => h.of_heap hh) rowOwn started (by kernel_rfl) Tryd.func6
    (ChangeSpec.witness_shaped (enc := enc) (C := Tryd.checked) (os := os) (X := fun w _ => laidMetH Tryd.prog [("strongtx/isa.forms", Rows.laid_strongtx_isa_forms)] w) false (World.laidAll Tryd.prog os [("strongtx/isa.forms", Rows.laid_strongtx_isa_forms)]) #[.agg #[.int .i64 0, .int .i64 0, .int .i64 0, .int .i64 0, .int .i64 0, .int .i64 0, .int .i64 0, .int .i64 0, .int .i64 0, .int .i64 0, .int .i64 0, .int .i64 0, .bool false, .slice none 0 0, .slice none 0 0, .slice none 0 0]] 8 (World.laidAll_os _ _ _)
      (World.shaped_of_ZipB (by kernel_rfl) (by kernel_rfl)) (by kernel_rfl) (by kernel_rfl) (by kernel_rfl)
      (by rw [MakeChecks.laidMetH_plain _ _ _ (by kernel_rfl)]; exact laidMet_laidAll _ (by kernel_rfl) (by kernel_rfl))) ?_
  intro W base args ds gs before hval0 hW hcnd _ hL _
  have hval : ∀ (j : Nat) t v, Tryd.f6.params[j]? = some t → args[j]? = some v → Value.okWide Tryd.prog W .any base t v := hval0
  have hW' := hW
  obtain ⟨p, q, hA0, hV, rfl, hfz, hnd⟩ := hW
  have hA : DataW.TrodAll enc Tryd.prog W 0 (fun _ => true) true Tryd.f6.params.toList args.toList ds p := hA0
  rw [Tryd.params6] at hA hval
  have hAA := hA
  obtain ⟨v0, vs0, d0, ds0, p0, q0, hargs, rfl, rfl, h0, r0⟩ := trodAll_cons hA
  obtain ⟨rfl, rfl, rfl⟩ := trodAll_nil r0
  obtain rfl : args = #[v0] := by cases args; simp_all
  obtain ⟨rfl, rfl⟩ := trodVars_none hV
  obtain ⟨c, ia, il, ic, pa, ps, pc, ka, ks, kc, rfl, hP, hQ, hK⟩ := scr_open (hval 0 47 v0 rfl rfl) h0
  clear hA0 hval0
  refine (sp_scripts (forms_at hL) hP hQ hK W (st_nil W)).mono fun e W' ⟨he, hs⟩ => ?_
  subst he
  have bel := below_st hs
  exact ⟨_, rfl, _, _, _, [], _, [], hW', trodAll_mk1 (shut_bool Tryd.underlying4 _), trodAll_below rowLaid bel (by kernel_rfl) hAA, rfl, bel.frame _, fun h => by cases h⟩

theorem layoutScripts_row : Rows.LayoutScriptsSaid :=
  OpenClaim.holds_of_wide 6 Tryd.f6 rfl rfl rfl rfl rfl rfl rfl ⟨rfl, rfl, rfl, rfl, rfl⟩ rfl rfl rfl rfl rfl (by kernel_rfl) Tryd.func6 (by kernel_rfl)
    (of_decide_eq_true (by kernel_rfl)) (by unfold Func.isWrapper; first | (rw [if_pos (by decide +kernel)]; kernel_rfl) | (rw [if_neg (by decide +kernel)]; exact ⟨rfl, rfl⟩))
    (fun os started H enc _ => layoutScripts_lifted os started H enc)

set_option maxRecDepth 100000 in
theorem layoutScripts_proved : Rows.LayoutScriptsCardSaid :=
  Claim7.holds_tied_plain_at .later [] [.data] true (true, "114f5eb595008e71fc0be3494cedf91214b198936b64a5bce8439699dcb29982") false
    layoutScripts_row (fun _ h => by cases h) (by kernel_rfl) (fun _ h => by cases h) layoutScripts_row_tie rfl ⟨rfl, rfl⟩ (by kernel_rfl) rfl
    (fun f fn hf hfn => by
      obtain rfl : f = 6 := Option.some.inj ((show Tryd.prog.funcNamed "strongtx/strongtxlaw07.LayoutScripts" = some 6 by kernel_rfl).symm.trans hf) |>.symm
      obtain rfl : fn = Tryd.f6 := (Option.some.inj (Tryd.func6.symm.trans hfn)).symm
      exact ⟨by kernel_rfl, fun j t ht => by
        rw [Tryd.params6] at ht
        have hm : t ∈ [47] := by simpa using Array.mem_of_getElem? ht
        have hall : ([47].all fun u => !Tryd.prog.wantsStandIn u) = true := by kernel_rfl
        exact (show Tryd.prog.wantsStandIn t = false by simpa using List.all_eq_true.1 hall t hm)⟩)
    (by kernel_rfl)
#print axioms layoutScripts_proved
end Go.Proofs.YtcelbfijiebjhaaDoor
