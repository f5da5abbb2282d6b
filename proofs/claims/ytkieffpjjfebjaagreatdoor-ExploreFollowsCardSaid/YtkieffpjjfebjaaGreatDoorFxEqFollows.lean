/- ExploreFollows: the card. -/
import Derived.Test.YtkieffpjjfebjaaGreatDoorF7
import Derived.Test.YtkieffpjjfebjaaGreatDoorTie
import Derived.Test.YtkieffpjjfebjaaGreatDoorCards
namespace Go.Proofs.YtkieffpjjfebjaaGreatDoor
open Go Go.ChangeShapes Go.WideShapes Go.ChangeAt Go.RowKit
set_option maxRecDepth 100000 in
theorem qmJ(os:Os)(started:os.Started)(H:Type)(enc:TypeId×Value→H):
  ReturnsInHanded {} Tryz.checked os 3 .any (fun w args=>(Rows.exploreFollowsSpec.pre enc Tryz.prog Tryz.f3 Rows.exploreFollowsRow.domain false w args∧laidMetH Tryz.prog [("strongtx/tdrf.none",Rows.laid_strongtx_tdrf_none),("strongtx/isa.forms",Rows.laid_strongtx_isa_forms)] w)∧sizedMet enc Tryz.prog Tryz.f3 (OpenSpec.ofChange Rows.exploreFollowsSpec) false w args) (Rows.exploreFollowsSpec.post enc Tryz.prog Tryz.f3 false true false false):=by
 refine returnsInHanded_of_change_and (C:=Tryz.checked) (X:=fun w _=>laidMetH Tryz.prog [("strongtx/tdrf.none",Rows.laid_strongtx_tdrf_none),("strongtx/isa.forms",Rows.laid_strongtx_isa_forms)] w) (fun _ _ _ hh h=>h.of_heap hh) qqO started (by kernel_rfl) Tryz.func3
  (ChangeSpec.witness_shaped (enc:=enc) (C:=Tryz.checked) (os:=os) (X:=fun w _=>laidMetH Tryz.prog [("strongtx/tdrf.none",Rows.laid_strongtx_tdrf_none),("strongtx/isa.forms",Rows.laid_strongtx_isa_forms)] w) false (World.laidAll Tryz.prog os [("strongtx/tdrf.none",Rows.laid_strongtx_tdrf_none),("strongtx/isa.forms",Rows.laid_strongtx_isa_forms)]) #[.int .i64 0, .int .i64 0, .slice none 0 0, .slice none 0 0, .int .i64 0] 8 (World.laidAll_os _ _ _)
   (World.shaped_of_ZipB (by kernel_rfl) (by kernel_rfl)) (by kernel_rfl) (by kernel_rfl) (by kernel_rfl)
   (by rw[MakeChecks.laidMetH_plain _ _ _ (by kernel_rfl)];exact laidMet_laidAll _ (by kernel_rfl) (by kernel_rfl))) ?_
 intro W base args ds gs before hval0 hW hcnd hsz hL _
 have hval:∀(j:Nat) t v,Tryz.f3.params[j]? =some t→args[j]? =some v→Value.okWide Tryz.prog W .any base t v:=hval0
 have hW':=hW
 obtain⟨p,q,hA0,hV,rfl,hfz,hnd⟩:=hW
 have hA:DataW.TrodAll enc Tryz.prog W 0 (fun _=>true) true Tryz.f3.params.toList args.toList ds p:=hA0
 rw[Tryz.params3] at hA hval hsz
 have hAA:=hA
 obtain⟨v0,vs0,d0,ds0,p0,q0,hargs,rfl,rfl,h0,r0⟩:=trodAll_cons hA
 obtain⟨v1,vs1,d1,ds1,p1,q1,rfl,rfl,rfl,h1,r1⟩:=trodAll_cons r0
 obtain⟨v2,vs2,d2,ds2,p2,q2,rfl,rfl,rfl,h2,r2⟩:=trodAll_cons r1
 obtain⟨v3,vs3,d3,ds3,p3,q3,rfl,rfl,rfl,h3,r3⟩:=trodAll_cons r2
 obtain⟨v4,vs4,d4,ds4,p4,q4,rfl,rfl,rfl,h4,r4⟩:=trodAll_cons r3
 obtain⟨rfl,rfl,rfl⟩:=trodAll_nil r4
 obtain rfl:args= #[v0,v1,v2,v3,v4]:=by cases args;simp_all
 obtain⟨rfl,rfl⟩:=trodVars_none hV
 obtain⟨xa,rfl,_⟩:=qop Tryz.underlying3 (hval 0 3 v0 rfl rfl)
 obtain⟨xb,rfl,_⟩:=qop Tryz.underlying3 (hval 1 3 v1 rfl rfl)
 obtain⟨la,ls,lc,rfl,hLL,hll,hQQ⟩:=qr8 (hval 2 22 v2 rfl rfl) h2 (qm7 (qm7 (qm7 hsz).2).2).1
 obtain⟨pa,pl,pc,rfl,hPi,hPl⟩:=qqM (hval 3 23 v3 rfl rfl) h3 (qm7 (qm7 (qm7 (qm7 hsz).2).2).2).1
 obtain⟨xc,rfl,_⟩:=qop Tryz.underlying3 (hval 4 3 v4 rfl rfl)
 clear hA0 hval0 hsz
 refine(qoE (lc:=lc) (fc:=pc) (qoS hL) (qq5 hL) xa xb hLL hll hQQ hPi xc W (qqZ W)).mono fun e W' ⟨he,hs⟩=> ?_
 subst he
 have bel:=qpi hs
 exact⟨_,rfl,_,_,_,[],_,[],hW',trodAll_mk1 (shut_bool Tryz.underlying4 _),qn4 qq8 bel (by kernel_rfl) hAA,rfl,bel.frame _,fun h=>by cases h⟩
theorem qmY:Rows.ExploreFollowsSaid:=
 OpenClaim.holds_of_wide 3 Tryz.f3 rfl rfl rfl rfl rfl rfl rfl ⟨rfl,rfl,rfl,rfl,rfl⟩ rfl rfl rfl rfl rfl (by kernel_rfl) Tryz.func3 (by kernel_rfl)
  (of_decide_eq_true (by kernel_rfl)) (by unfold Func.isWrapper;first|(rw[if_pos (by decide+kernel)];kernel_rfl)|(rw[if_neg (by decide+kernel)];exact⟨rfl,rfl⟩))
  (fun os started H enc _=>qmJ os started H enc)
set_option maxRecDepth 100000 in
theorem exploreFollows_proved:Rows.ExploreFollowsCardSaid:=
 Claim7.holds_tied_plain_at .later [] [.data, .data] true (true,"ad3f46fabf3e0f6fa36612f8ec912cd3be0b93ed6c78d83dabc4262986db39b4") true
  qmY (fun _ h=>by cases h) (by kernel_rfl) (fun _ h=>by cases h) exploreFollows_row_tie rfl ⟨rfl,rfl⟩ (by kernel_rfl) rfl
  (fun f fn hf hfn=>by
   obtain rfl:f=3:=Option.some.inj ((show Tryz.prog.funcNamed "strongtx/strongtxlaw26.ExploreFollows" =some 3 by kernel_rfl).symm.trans hf)|>.symm
   obtain rfl:fn=Tryz.f3:=(Option.some.inj (Tryz.func3.symm.trans hfn)).symm
   exact⟨by kernel_rfl,fun j t ht=>by
    rw[Tryz.params3] at ht
    have hm:t∈ [3,3,22,23,3]:=by simpa using Array.mem_of_getElem? ht
    have hall:([3,3,22,23,3].all fun u=> !Tryz.prog.wantsStandIn u)=true:=by kernel_rfl
    exact(show Tryz.prog.wantsStandIn t=false by simpa using List.all_eq_true.1 hall t hm)⟩)
  (by kernel_rfl)
#print axioms exploreFollows_proved
end Go.Proofs.YtkieffpjjfebjaaGreatDoor
