/- TdrfOnline: the card. -/
import Derived.Test.YtofjnldidkiihaaDoorK14
import Derived.Test.YtofjnldidkiihaaDoorTie
import Derived.Test.YtofjnldidkiihaaDoorCards
namespace Go.Proofs.YtofjnldidkiihaaDoor
open Go Go.ChangeShapes Go.WideShapes Go.ChangeAt Go.RowKit

set_option maxRecDepth 100000 in
theorem tdrfOnline_lifted (os : Os) (started : os.Started) (H : Type) (enc : TypeId × Value → H) :
    ReturnsInHanded {} Tryd.checked os 5 .any (fun w args => (Rows.tdrfOnlineSpec.pre enc Tryd.prog Tryd.f5 Rows.tdrfOnlineRow.domain false w args ∧ laidMetH Tryd.prog [("strongtx/tdrf.none", Rows.laid_strongtx_tdrf_none)] w) ∧ sizedMet enc Tryd.prog Tryd.f5 (OpenSpec.ofChange Rows.tdrfOnlineSpec) false w args) (Rows.tdrfOnlineSpec.post enc Tryd.prog Tryd.f5 false true false false) := by
  refine returnsInHanded_of_change_and (C := Tryd.checked) (X := fun w _ => laidMetH Tryd.prog [("strongtx/tdrf.none", Rows.laid_strongtx_tdrf_none)] w) (fun _ _ _ hh h => h.of_heap hh) rowOwn started (by kernel_rfl) Tryd.func5
    (ChangeSpec.witness_shaped (enc := enc) (C := Tryd.checked) (os := os) (X := fun w _ => laidMetH Tryd.prog [("strongtx/tdrf.none", Rows.laid_strongtx_tdrf_none)] w) false (World.laidAll Tryd.prog os [("strongtx/tdrf.none", Rows.laid_strongtx_tdrf_none)]) #[.slice none 0 0, .int .i64 0, .slice none 0 0] 8 (World.laidAll_os _ _ _)
      (World.shaped_of_ZipB (by kernel_rfl) (by kernel_rfl)) (by kernel_rfl) (by kernel_rfl) (by kernel_rfl)
      (by rw [MakeChecks.laidMetH_plain _ _ _ (by kernel_rfl)]; exact laidMet_laidAll _ (by kernel_rfl) (by kernel_rfl))) ?_
  intro W base args ds gs before hval0 hW hcnd hsz hL _
  have hval : ∀ (j : Nat) t v, Tryd.f5.params[j]? = some t → args[j]? = some v → Value.okWide Tryd.prog W .any base t v := hval0
  have hW' := hW
  obtain ⟨p, q, hA0, hV, rfl, hfz, hnd⟩ := hW
  have hA : DataW.TrodAll enc Tryd.prog W 0 (fun _ => true) true Tryd.f5.params.toList args.toList ds p := hA0
  rw [Tryd.params5] at hA hval hsz
  have hAA := hA
  obtain ⟨v0, vs0, d0, ds0, p0, q0, hargs, rfl, rfl, h0, r0⟩ := trodAll_cons hA
  obtain ⟨v1, vs1, d1, ds1, p1, q1, rfl, rfl, rfl, h1, r1⟩ := trodAll_cons r0
  obtain ⟨v2, vs2, d2, ds2, p2, q2, rfl, rfl, rfl, h2, r2⟩ := trodAll_cons r1
  obtain ⟨rfl, rfl, rfl⟩ := trodAll_nil r2
  obtain rfl : args = #[v0, v1, v2] := by cases args; simp_all
  obtain ⟨rfl, rfl⟩ := trodVars_none hV
  obtain ⟨la, ll, lc, rfl, hR⟩ := ints_open (hval 0 22 v0 rfl rfl) h0
  obtain ⟨th, rfl, _⟩ := val_int Tryd.underlying3 (hval 1 3 v1 rfl rfl)
  obtain ⟨oa, ol, oc, rfl, hO, hEo⟩ := events_open (hval 2 25 v2 rfl rfl) h2 (weight_head (weight_head (weight_head hsz).2).2).1
  clear hA0 hval0 hsz
  refine (sp_TdrfOnline (cap := lc) (co := oc) (tnone_at hL) hR th hO hEo W (st_nil W)).mono fun e W' ⟨he, hs⟩ => ?_
  subst he
  have bel := below_st hs
  exact ⟨_, rfl, _, _, _, [], _, [], hW', trodAll_mk1 (shut_bool Tryd.underlying4 _), trodAll_below rowLaid bel (by kernel_rfl) hAA, rfl, bel.frame _, fun h => by cases h⟩

theorem tdrfOnline_row : Rows.TdrfOnlineSaid :=
  OpenClaim.holds_of_wide 5 Tryd.f5 rfl rfl rfl rfl rfl rfl rfl ⟨rfl, rfl, rfl, rfl, rfl⟩ rfl rfl rfl rfl rfl (by kernel_rfl) Tryd.func5 (by kernel_rfl)
    (of_decide_eq_true (by kernel_rfl)) (by unfold Func.isWrapper; first | (rw [if_pos (by decide +kernel)]; kernel_rfl) | (rw [if_neg (by decide +kernel)]; exact ⟨rfl, rfl⟩))
    (fun os started H enc _ => tdrfOnline_lifted os started H enc)

set_option maxRecDepth 100000 in
theorem tdrfOnline_proved : Rows.TdrfOnlineCardSaid :=
  Claim7.holds_tied_plain_at .later [] [.data] true (true, "2bc852bd85afda713ef57f9a4728bd5aad2482ca4d7857e69830dd42229a96e7") false
    tdrfOnline_row (fun _ h => by cases h) (by kernel_rfl) (fun _ h => by cases h) tdrfOnline_row_tie rfl ⟨rfl, rfl⟩ (by kernel_rfl) rfl
    (fun f fn hf hfn => by
      obtain rfl : f = 5 := Option.some.inj ((show Tryd.prog.funcNamed "strongtx/strongtxlaw25.TdrfOnline" = some 5 by kernel_rfl).symm.trans hf) |>.symm
      obtain rfl : fn = Tryd.f5 := (Option.some.inj (Tryd.func5.symm.trans hfn)).symm
      exact ⟨by kernel_rfl, fun j t ht => by
        rw [Tryd.params5] at ht
        have hm : t ∈ [22, 3, 25] := by simpa using Array.mem_of_getElem? ht
        have hall : ([22, 3, 25].all fun u => !Tryd.prog.wantsStandIn u) = true := by kernel_rfl
        exact (show Tryd.prog.wantsStandIn t = false by simpa using List.all_eq_true.1 hall t hm)⟩)
    (by kernel_rfl)
#print axioms tdrfOnline_proved
end Go.Proofs.YtofjnldidkiihaaDoor
