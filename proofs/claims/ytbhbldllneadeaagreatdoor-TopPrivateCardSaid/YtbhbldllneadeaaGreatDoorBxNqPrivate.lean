/- TopPrivate: the card. -/
import Derived.Test.YtbhbldllneadeaaGreatDoorB4
import Derived.Test.YtbhbldllneadeaaGreatDoorTie
import Derived.Test.YtbhbldllneadeaaGreatDoorCards
namespace Go.Proofs.YtbhbldllneadeaaGreatDoor
open Go Go.ChangeShapes Go.WideShapes Go.ChangeAt Go.RowKit
set_option maxRecDepth 100000 in
theorem q6(os:Os)(started:os.Started)(H:Type)(enc:TypeId×Value→H):
  ReturnsInHanded {} Tryz.checked os 4 .any (fun w args=>(Rows.topPrivateSpec.pre enc Tryz.prog Tryz.f4 Rows.topPrivateRow.domain false w args∧laidMetH Tryz.prog [("strongtx/tdrf.none",Rows.laid_strongtx_tdrf_none),("strongtx/isa.forms",Rows.laid_strongtx_isa_forms)] w)∧sizedMet enc Tryz.prog Tryz.f4 (OpenSpec.ofChange Rows.topPrivateSpec) false w args) (Rows.topPrivateSpec.post enc Tryz.prog Tryz.f4 false true false false):=by
 refine returnsInHanded_of_change_and (C:=Tryz.checked) (X:=fun w _=>laidMetH Tryz.prog [("strongtx/tdrf.none",Rows.laid_strongtx_tdrf_none),("strongtx/isa.forms",Rows.laid_strongtx_isa_forms)] w) (fun _ _ _ hh h=>h.of_heap hh) qp8 started (by kernel_rfl) Tryz.func4
  (ChangeSpec.witness_shaped (enc:=enc) (C:=Tryz.checked) (os:=os) (X:=fun w _=>laidMetH Tryz.prog [("strongtx/tdrf.none",Rows.laid_strongtx_tdrf_none),("strongtx/isa.forms",Rows.laid_strongtx_isa_forms)] w) false (World.laidAll Tryz.prog os [("strongtx/tdrf.none",Rows.laid_strongtx_tdrf_none),("strongtx/isa.forms",Rows.laid_strongtx_isa_forms)]) #[.slice none 0 0, .slice none 0 0] 8 (World.laidAll_os _ _ _)
   (World.shaped_of_ZipB (by kernel_rfl) (by kernel_rfl)) (by kernel_rfl) (by kernel_rfl) (by kernel_rfl)
   (by rw[MakeChecks.laidMetH_plain _ _ _ (by kernel_rfl)];exact laidMet_laidAll _ (by kernel_rfl) (by kernel_rfl))) ?_
 intro W base args ds gs before hval0 hW hcnd hsz hL _;have hval:∀(j:Nat) t v,Tryz.f4.params[j]? =some t→args[j]? =some v→Value.okWide Tryz.prog W .any base t v:=hval0
 have hW':=hW;obtain⟨p,q,hA0,hV,rfl,hfz,hnd⟩:=hW;have hA:DataW.TrodAll enc Tryz.prog W 0 (fun _=>true) true Tryz.f4.params.toList args.toList ds p:=hA0;rw[Tryz.params4] at hA hval hsz;have hAA:=hA;obtain⟨v0,vs0,d0,ds0,p0,q0,hargs,rfl,rfl,h0,r0⟩:=trodAll_cons hA;obtain⟨v1,vs1,d1,ds1,p1,q1,rfl,rfl,rfl,h1,r1⟩:=trodAll_cons r0;obtain⟨rfl,rfl,rfl⟩:=trodAll_nil r1;obtain rfl:args= #[v0,v1]:=by cases args;simp_all
 obtain⟨rfl,rfl⟩:=trodVars_none hV;obtain⟨la,ls,lc,rfl,hLL,hll,hQQ⟩:=qpd (hval 0 35 v0 rfl rfl) h0 (q3 hsz).1;obtain⟨pa,pl,pc,rfl,hPi,hPl⟩:=qp4 (hval 1 22 v1 rfl rfl) h1 (q3 (q3 hsz).2).1;clear hA0 hval0 hsz;refine(qnU (lc:=lc) (pkc:=pc) (qoo hL) (qoW hL) hLL hll hQQ hPi hPl W (qp9 W)).mono fun e W' ⟨he,hs⟩=> ?_
 subst he;have bel:=qox hs;exact⟨_,rfl,_,_,_,[],_,[],hW',trodAll_mk1 (shut_bool Tryz.underlying4 _),q4 qoY bel (by kernel_rfl) hAA,rfl,bel.frame _,fun h=>by cases h⟩
set_option maxRecDepth 100000 in
theorem qnV:(Rows.topPrivateRow.inPlace==Tryz.prog.inPlace 4)=true:=by kernel_rfl
set_option maxRecDepth 100000 in
theorem qnW:(Rows.topPrivateRow.unfollowed==Tryz.prog.unfollowed 4)=true:=by kernel_rfl
set_option maxRecDepth 100000 in
theorem qnX:(Rows.topPrivateRow.recurses==Tryz.prog.recurses 4)=true:=by kernel_rfl
set_option maxRecDepth 100000 in
theorem qnY:(Rows.topPrivateRow.named==Tryz.prog.varsNamed 4)=true:=by kernel_rfl
set_option maxRecDepth 100000 in
theorem q5:joinedFacts Tryz.prog 4 Tryz.f4 Rows.topPrivateSpec Rows.topPrivateRow=true:=by
 unfold joinedFacts;rw[qnV,qnW,qnX,qnY]
 kernel_rfl
theorem qR:Rows.TopPrivateSaid:=
 OpenClaim.holds_of_wide 4 Tryz.f4 rfl rfl rfl rfl rfl rfl rfl ⟨rfl,rfl,rfl,rfl,rfl⟩ rfl rfl rfl rfl rfl (by kernel_rfl) Tryz.func4 q5
  (of_decide_eq_true (by kernel_rfl)) (by unfold Func.isWrapper;first|(rw[if_pos (by decide+kernel)];kernel_rfl)|(rw[if_neg (by decide+kernel)];exact⟨rfl,rfl⟩))
  (fun os started H enc _=>q6 os started H enc)
set_option maxRecDepth 100000 in
theorem topPrivate_proved:Rows.TopPrivateCardSaid:=
 Claim7.holds_tied_plain_at .later [] [.data, .data] true (true,"a4be5ae416ba14f67331caf3f768570a2400d3f9cab56ec4d8b596c2691a87f7") true
  qR (fun _ h=>by cases h) (by kernel_rfl) (fun _ h=>by cases h) topPrivate_row_tie rfl ⟨rfl,rfl⟩ (by kernel_rfl) rfl
  (fun f fn hf hfn=>by
   obtain rfl:f=4:=Option.some.inj ((show Tryz.prog.funcNamed "strongtx/strongtxtop.TopPrivate" =some 4 by kernel_rfl).symm.trans hf)|>.symm
   obtain rfl:fn=Tryz.f4:=(Option.some.inj (Tryz.func4.symm.trans hfn)).symm;exact⟨by kernel_rfl,fun j t ht=>by
    rw[Tryz.params4] at ht;have hm:t∈ [35,22]:=by simpa using Array.mem_of_getElem? ht
    have hall:([35,22].all fun u=> !Tryz.prog.wantsStandIn u)=true:=by kernel_rfl
    exact(show Tryz.prog.wantsStandIn t=false by simpa using Z7.1 hall t hm)⟩)
  (by kernel_rfl)
#print axioms topPrivate_proved
end Go.Proofs.YtbhbldllneadeaaGreatDoor
