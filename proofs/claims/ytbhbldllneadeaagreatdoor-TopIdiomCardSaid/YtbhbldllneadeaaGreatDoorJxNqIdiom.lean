/- TopIdiom: the card. -/
import Derived.Test.YtbhbldllneadeaaGreatDoorJ3
import Derived.Test.YtbhbldllneadeaaGreatDoorTie
import Derived.Test.YtbhbldllneadeaaGreatDoorCards
namespace Go.Proofs.YtbhbldllneadeaaGreatDoor
open Go Go.ChangeShapes Go.WideShapes Go.ChangeAt Go.RowKit
set_option maxRecDepth 100000 in
theorem qnV(os:Os)(started:os.Started)(H:Type)(enc:TypeId×Value→H):
  ReturnsInHanded {} Tryz.checked os 3 .any (fun w args=>(Rows.topIdiomSpec.pre enc Tryz.prog Tryz.f3 Rows.topIdiomRow.domain false w args∧laidMetH Tryz.prog [("strongtx/tdrf.none",Rows.laid_strongtx_tdrf_none),("strongtx/isa.forms",Rows.laid_strongtx_isa_forms)] w)∧sizedMet enc Tryz.prog Tryz.f3 (OpenSpec.ofChange Rows.topIdiomSpec) false w args) (Rows.topIdiomSpec.post enc Tryz.prog Tryz.f3 false true false false):=by
 refine returnsInHanded_of_change_and (C:=Tryz.checked) (X:=fun w _=>laidMetH Tryz.prog [("strongtx/tdrf.none",Rows.laid_strongtx_tdrf_none),("strongtx/isa.forms",Rows.laid_strongtx_isa_forms)] w) (fun _ _ _ hh h=>h.of_heap hh) qp7 started (by kernel_rfl) Tryz.func3
  (ChangeSpec.witness_shaped (enc:=enc) (C:=Tryz.checked) (os:=os) (X:=fun w _=>laidMetH Tryz.prog [("strongtx/tdrf.none",Rows.laid_strongtx_tdrf_none),("strongtx/isa.forms",Rows.laid_strongtx_isa_forms)] w) false (World.laidAll Tryz.prog os [("strongtx/tdrf.none",Rows.laid_strongtx_tdrf_none),("strongtx/isa.forms",Rows.laid_strongtx_isa_forms)]) #[.int .i64 0, .slice none 0 0, .slice none 0 0] 8 (World.laidAll_os _ _ _)
   (World.shaped_of_ZipB (by kernel_rfl) (by kernel_rfl)) (by kernel_rfl) (by kernel_rfl) (by kernel_rfl)
   (by rw[MakeChecks.laidMetH_plain _ _ _ (by kernel_rfl)];exact laidMet_laidAll _ (by kernel_rfl) (by kernel_rfl))) ?_
 intro W base args ds gs before hval0 hW hcnd hsz hL _;have hval:∀(j:Nat) t v,Tryz.f3.params[j]? =some t→args[j]? =some v→Value.okWide Tryz.prog W .any base t v:=hval0
 have hW':=hW;obtain⟨p,q,hA0,hV,rfl,hfz,hnd⟩:=hW;have hA:DataW.TrodAll enc Tryz.prog W 0 (fun _=>true) true Tryz.f3.params.toList args.toList ds p:=hA0;rw[Tryz.params3] at hA hval hsz;have hAA:=hA;obtain⟨v0,vs0,d0,ds0,p0,q0,hargs,rfl,rfl,h0,r0⟩:=trodAll_cons hA;obtain⟨v1,vs1,d1,ds1,p1,q1,rfl,rfl,rfl,h1,r1⟩:=trodAll_cons r0;obtain⟨v2,vs2,d2,ds2,p2,q2,rfl,rfl,rfl,h2,r2⟩:=trodAll_cons r1;obtain⟨rfl,rfl,rfl⟩:=trodAll_nil r2;obtain rfl:args= #[v0,v1,v2]:=by cases args;simp_all
 obtain⟨rfl,rfl⟩:=trodVars_none hV;obtain⟨xa,rfl,_⟩:=qoQ Tryz.underlying3 (hval 0 3 v0 rfl rfl);obtain⟨la,ls,lc,rfl,hLi,_⟩:=qoA (hval 1 22 v1 rfl rfl) h1 (qa (qa hsz).2).1;obtain⟨pa,pl,pc,rfl,hPi,_⟩:=qoA (hval 2 22 v2 rfl rfl) h2 (qa (qa (qa hsz).2).2).1;clear hA0 hval0 hsz;refine(qo2 (lc:=lc) (pkc:=pc) (qof hL) (qoI hL) xa hLi hPi W (qp9 W)).mono fun e W' ⟨he,hs⟩=> ?_
 subst he;have bel:=qor hs;exact⟨_,rfl,_,_,_,[],_,[],hW',trodAll_mk1 (shut_bool Tryz.underlying4 _),qnQ qoL bel (by kernel_rfl) hAA,rfl,bel.frame _,fun h=>by cases h⟩
set_option maxRecDepth 100000 in
theorem qo3:(Rows.topIdiomRow.inPlace==Tryz.prog.inPlace 3)=true:=by kernel_rfl
set_option maxRecDepth 100000 in
theorem qo4:(Rows.topIdiomRow.unfollowed==Tryz.prog.unfollowed 3)=true:=by kernel_rfl
set_option maxRecDepth 100000 in
theorem qo5:(Rows.topIdiomRow.recurses==Tryz.prog.recurses 3)=true:=by kernel_rfl
set_option maxRecDepth 100000 in
theorem qo6:(Rows.topIdiomRow.named==Tryz.prog.varsNamed 3)=true:=by kernel_rfl
set_option maxRecDepth 100000 in
theorem qnU:joinedFacts Tryz.prog 3 Tryz.f3 Rows.topIdiomSpec Rows.topIdiomRow=true:=by
 unfold joinedFacts;rw[qo3,qo4,qo5,qo6]
 kernel_rfl
theorem qo0:Rows.TopIdiomSaid:=
 OpenClaim.holds_of_wide 3 Tryz.f3 rfl rfl rfl rfl rfl rfl rfl ⟨rfl,rfl,rfl,rfl,rfl⟩ rfl rfl rfl rfl rfl (by kernel_rfl) Tryz.func3 qnU
  (of_decide_eq_true (by kernel_rfl)) (by unfold Func.isWrapper;first|(rw[if_pos (by decide+kernel)];kernel_rfl)|(rw[if_neg (by decide+kernel)];exact⟨rfl,rfl⟩))
  (fun os started H enc _=>qnV os started H enc)
set_option maxRecDepth 100000 in
theorem topIdiom_proved:Rows.TopIdiomCardSaid:=
 Claim7.holds_tied_plain_at .later [] [.data, .data] true (true,"a4be5ae416ba14f67331caf3f768570a2400d3f9cab56ec4d8b596c2691a87f7") true
  qo0 (fun _ h=>by cases h) (by kernel_rfl) (fun _ h=>by cases h) topIdiom_row_tie rfl ⟨rfl,rfl⟩ (by kernel_rfl) rfl
  (fun f fn hf hfn=>by
   obtain rfl:f=3:=Option.some.inj ((show Tryz.prog.funcNamed "strongtx/strongtxtop.TopIdiom" =some 3 by kernel_rfl).symm.trans hf)|>.symm
   obtain rfl:fn=Tryz.f3:=(Option.some.inj (Tryz.func3.symm.trans hfn)).symm;exact⟨by kernel_rfl,fun j t ht=>by
    rw[Tryz.params3] at ht;have hm:t∈ [3,22,22]:=by simpa using Array.mem_of_getElem? ht
    have hall:([3,22,22].all fun u=> !Tryz.prog.wantsStandIn u)=true:=by kernel_rfl
    exact(show Tryz.prog.wantsStandIn t=false by simpa using Z7.1 hall t hm)⟩)
  (by kernel_rfl)
#print axioms topIdiom_proved
end Go.Proofs.YtbhbldllneadeaaGreatDoor
