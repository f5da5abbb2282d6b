/- ExploreRefuses: the card. -/
import Derived.Test.YtkieffpjjfebjaaGreatDoorR4
import Derived.Test.YtkieffpjjfebjaaGreatDoorTie
import Derived.Test.YtkieffpjjfebjaaGreatDoorCards
namespace Go.Proofs.YtkieffpjjfebjaaGreatDoor
open Go Go.ChangeShapes Go.WideShapes Go.ChangeAt Go.RowKit
set_option maxRecDepth 100000 in
theorem qlT(os:Os)(started:os.Started)(H:Type)(enc:TypeId×Value→H):
  ReturnsInHanded {} Tryz.checked os 4 .any (fun w args=>(Rows.exploreRefusesSpec.pre enc Tryz.prog Tryz.f4 Rows.exploreRefusesRow.domain false w args∧laidMetH Tryz.prog [("strongtx/tdrf.none",Rows.laid_strongtx_tdrf_none),("strongtx/isa.forms",Rows.laid_strongtx_isa_forms)] w)∧sizedMet enc Tryz.prog Tryz.f4 (OpenSpec.ofChange Rows.exploreRefusesSpec) false w args) (Rows.exploreRefusesSpec.post enc Tryz.prog Tryz.f4 false true false false):=by
 refine returnsInHanded_of_change_and (C:=Tryz.checked) (X:=fun w _=>laidMetH Tryz.prog [("strongtx/tdrf.none",Rows.laid_strongtx_tdrf_none),("strongtx/isa.forms",Rows.laid_strongtx_isa_forms)] w) (fun _ _ _ hh h=>h.of_heap hh) qmX started (by kernel_rfl) Tryz.func4
  (ChangeSpec.witness_shaped (enc:=enc) (C:=Tryz.checked) (os:=os) (X:=fun w _=>laidMetH Tryz.prog [("strongtx/tdrf.none",Rows.laid_strongtx_tdrf_none),("strongtx/isa.forms",Rows.laid_strongtx_isa_forms)] w) false (World.laidAll Tryz.prog os [("strongtx/tdrf.none",Rows.laid_strongtx_tdrf_none),("strongtx/isa.forms",Rows.laid_strongtx_isa_forms)]) #[.agg #[.int .i64 0, .int .i64 0, .int .i64 0, .int .i64 0, .int .i64 0, .int .i64 0, .int .i64 0, .int .i64 0, .int .i64 0, .int .i64 0, .int .i64 0, .int .i64 0, .bool false, .slice none 0 0, .slice none 0 0, .slice none 0 0], .agg #[.int .i64 0, .int .i64 0, .int .i64 0, .int .i64 0, .int .i64 0], .slice none 0 0, .slice none 0 0, .int .i64 0, .bool false] 8 (World.laidAll_os _ _ _)
   (World.shaped_of_ZipB (by kernel_rfl) (by kernel_rfl)) (by kernel_rfl) (by kernel_rfl) (by kernel_rfl)
   (by rw[MakeChecks.laidMetH_plain _ _ _ (by kernel_rfl)];exact laidMet_laidAll _ (by kernel_rfl) (by kernel_rfl))) ?_
 intro W base args ds gs before hval0 hW hcnd hsz hL _
 have hval:∀(j:Nat) t v,Tryz.f4.params[j]? =some t→args[j]? =some v→Value.okWide Tryz.prog W .any base t v:=hval0
 have hW':=hW
 obtain⟨p,q,hA0,hV,rfl,hfz,hnd⟩:=hW
 have hA:DataW.TrodAll enc Tryz.prog W 0 (fun _=>true) true Tryz.f4.params.toList args.toList ds p:=hA0
 rw[Tryz.params4] at hA hval hsz
 have hAA:=hA
 obtain⟨v0,vs0,d0,ds0,p0,q0,hargs,rfl,rfl,h0,r0⟩:=trodAll_cons hA
 obtain⟨v1,vs1,d1,ds1,p1,q1,rfl,rfl,rfl,h1,r1⟩:=trodAll_cons r0
 obtain⟨v2,vs2,d2,ds2,p2,q2,rfl,rfl,rfl,h2,r2⟩:=trodAll_cons r1
 obtain⟨v3,vs3,d3,ds3,p3,q3,rfl,rfl,rfl,h3,r3⟩:=trodAll_cons r2
 obtain⟨v4,vs4,d4,ds4,p4,q4,rfl,rfl,rfl,h4,r4⟩:=trodAll_cons r3
 obtain⟨v5,vs5,d5,ds5,p5,q5,rfl,rfl,rfl,h5,r5⟩:=trodAll_cons r4
 obtain⟨rfl,rfl,rfl⟩:=trodAll_nil r5
 obtain rfl:args= #[v0,v1,v2,v3,v4,v5]:=by cases args;simp_all
 obtain⟨rfl,rfl⟩:=trodVars_none hV
 obtain⟨c2,ia2,il2,ic2,pa2,ps2,pc2,ka2,ks2,kc2,rfl,hI2,hw2,hP2,hQ2,_⟩:=qmx (hval 0 32 v0 rfl rfl) h0
 obtain⟨n0,n1,n2,n3,n4,rfl,hh⟩:=qmr (hval 1 43 v1 rfl rfl)
 obtain⟨la,ls,lc,rfl,hLL,hll,hQQ⟩:=qn3 (hval 2 22 v2 rfl rfl) h2 (qlL (qlL (qlL hsz).2).2).1
 obtain⟨pa,pl,pc,rfl,hPi,hPl⟩:=qmW (hval 3 23 v3 rfl rfl) h3 (qlL (qlL (qlL (qlL hsz).2).2).2).1
 obtain⟨xb,rfl,_⟩:=qmS Tryz.underlying3 (hval 4 3 v4 rfl rfl)
 obtain⟨st,rfl⟩:=qmG Tryz.underlying4 (hval 5 4 v5 rfl rfl)
 clear hA0 hval0 hsz
 refine(qmq (lc:=lc) (fc:=pc) (qmu hL) (qmM hL) n0 n1 n2 n3 n4 hh hLL hll hQQ hI2 hw2 hP2 hQ2 hPi xb st W (qmZ W)).mono fun e W' ⟨he,hs⟩=> ?_
 subst he
 have bel:=qmA hs
 exact⟨_,rfl,_,_,_,[],_,[],hW',trodAll_mk1 (shut_bool Tryz.underlying4 _),qlY qmN bel (by kernel_rfl) hAA,rfl,bel.frame _,fun h=>by cases h⟩
theorem qlW:Rows.ExploreRefusesSaid:=
 OpenClaim.holds_of_wide 4 Tryz.f4 rfl rfl rfl rfl rfl rfl rfl ⟨rfl,rfl,rfl,rfl,rfl⟩ rfl rfl rfl rfl rfl (by kernel_rfl) Tryz.func4 (by kernel_rfl)
  (of_decide_eq_true (by kernel_rfl)) (by unfold Func.isWrapper;first|(rw[if_pos (by decide+kernel)];kernel_rfl)|(rw[if_neg (by decide+kernel)];exact⟨rfl,rfl⟩))
  (fun os started H enc _=>qlT os started H enc)
set_option maxRecDepth 100000 in
theorem exploreRefuses_proved:Rows.ExploreRefusesCardSaid:=
 Claim7.holds_tied_plain_at .later [] [.data, .data] true (true,"ad3f46fabf3e0f6fa36612f8ec912cd3be0b93ed6c78d83dabc4262986db39b4") true
  qlW (fun _ h=>by cases h) (by kernel_rfl) (fun _ h=>by cases h) exploreRefuses_row_tie rfl ⟨rfl,rfl⟩ (by kernel_rfl) rfl
  (fun f fn hf hfn=>by
   obtain rfl:f=4:=Option.some.inj ((show Tryz.prog.funcNamed "strongtx/strongtxlaw26.ExploreRefuses" =some 4 by kernel_rfl).symm.trans hf)|>.symm
   obtain rfl:fn=Tryz.f4:=(Option.some.inj (Tryz.func4.symm.trans hfn)).symm
   exact⟨by kernel_rfl,fun j t ht=>by
    rw[Tryz.params4] at ht
    have hm:t∈ [32,43,22,23,3,4]:=by simpa using Array.mem_of_getElem? ht
    have hall:([32,43,22,23,3,4].all fun u=> !Tryz.prog.wantsStandIn u)=true:=by kernel_rfl
    exact(show Tryz.prog.wantsStandIn t=false by simpa using List.all_eq_true.1 hall t hm)⟩)
  (by kernel_rfl)
#print axioms exploreRefuses_proved
end Go.Proofs.YtkieffpjjfebjaaGreatDoor
