/- TopExplored: the card. -/
import Derived.Test.YtikpjajangpdjaaGreatDoorQ18
import Derived.Test.YtikpjajangpdjaaGreatDoorTie
import Derived.Test.YtikpjajangpdjaaGreatDoorCards
namespace Go.Proofs.YtikpjajangpdjaaGreatDoor
open Go Go.ChangeShapes Go.WideShapes Go.ChangeAt Go.RowKit
set_option maxRecDepth 100000 in
theorem q4h(os:Os)(started:os.Started)(H:Type)(enc:TypeId×Value->H):
  ReturnsInHanded {} Tryz.checked os 3 .any (fun w args=>(Rows.topExploredSpec.pre enc Tryz.prog Tryz.f3 Rows.topExploredRow.domain false w args/\laidMetH Tryz.prog [("strongtx/tdrf.none",Rows.laid_strongtx_tdrf_none),("strongtx/isa.forms",Rows.laid_strongtx_isa_forms)] w)/\sizedMet enc Tryz.prog Tryz.f3 (OpenSpec.ofChange Rows.topExploredSpec) false w args) (Rows.topExploredSpec.post enc Tryz.prog Tryz.f3 false true false false):=by
 refine returnsInHanded_of_change_and (C:=Tryz.checked) (X:=fun w _=>laidMetH Tryz.prog [("strongtx/tdrf.none",Rows.laid_strongtx_tdrf_none),("strongtx/isa.forms",Rows.laid_strongtx_isa_forms)] w) (fun _ _ _ E h=>h.of_heap E) qqh started (by kernel_rfl) Tryz.func3
  (ChangeSpec.witness_shaped (enc:=enc) (C:=Tryz.checked) (os:=os) (X:=fun w _=>laidMetH Tryz.prog [("strongtx/tdrf.none",Rows.laid_strongtx_tdrf_none),("strongtx/isa.forms",Rows.laid_strongtx_isa_forms)] w) false (World.laidAll Tryz.prog os [("strongtx/tdrf.none",Rows.laid_strongtx_tdrf_none),("strongtx/isa.forms",Rows.laid_strongtx_isa_forms)]) #[j5 0,j5 0,j7,j7] 8 (World.laidAll_os _ _ _)
   (World.shaped_of_ZipB (by kernel_rfl) (by kernel_rfl)) (by kernel_rfl) (by kernel_rfl) (by kernel_rfl)
   (by rw[MakeChecks.laidMetH_plain _ _ _ (by kernel_rfl)];exact laidMet_laidAll _ (by kernel_rfl) (by kernel_rfl))) ?_
 intro W base args ds gs before c z hcnd f y _;have b:∀(j:Nat) t v,Tryz.f3.params[j]? =some t->args[j]? =some v->Value.okWide Tryz.prog W .any base t v:=c
 have u:=z;obtain⟨p,q,k,D,rfl,hfz,hnd⟩:=z;have l:DataW.TrodAll enc Tryz.prog W 0 (fun _=>true) true Tryz.f3.params.toList args.toList ds p:=k;rw[Tryz.params3] at l b f;have m:=l;obtain⟨v0,vs0,d0,ds0,p0,q0,hargs,rfl,rfl,h0,r0⟩:=trodAll_cons l;obtain⟨v1,vs1,d1,ds1,p1,q1,rfl,rfl,rfl,h1,r1⟩:=trodAll_cons r0;obtain⟨v2,vs2,d2,ds2,p2,q2,rfl,rfl,rfl,A,r2⟩:=trodAll_cons r1;obtain⟨v3,vs3,d3,ds3,p3,q3,rfl,rfl,rfl,B,r3⟩:=trodAll_cons r2;obtain⟨rfl,rfl,rfl⟩:=trodAll_nil r3;obtain rfl:args= #[v0,v1,v2,v3]:=by cases args;simp_all
 obtain⟨rfl,rfl⟩:=trodVars_none D;obtain⟨G,rfl,_⟩:=qhj Tryz.underlying3 (b 0 3 v0 rfl rfl);obtain⟨xb,rfl,_⟩:=qhj Tryz.underlying3 (b 1 3 v1 rfl rfl);obtain⟨la,ls,lc,rfl,n,x,s⟩:=qrO (b 2 22 v2 rfl rfl) A (q0R (q0R (q0R f).2).2).1;obtain⟨pa,pl,pc,rfl,o,r⟩:=qpK (b 3 23 v3 rfl rfl) B (q0R (q0R (q0R (q0R f).2).2).2).1;clear k c f;refine(q6M (lc:=lc) (pkc:=pc) (qf0 y) (qmT y) G xb n x s o r W (qqO W)).mono fun e W' ⟨he,F⟩=>?_
 subst he;have i:=qhO F;exact⟨_,rfl,_,_,_,[],_,[],u,trodAll_mk1 (shut_bool Tryz.underlying4 _),q4i qn9 i (by kernel_rfl) m,rfl,i.frame _,fun h=>by cases h⟩
set_option maxRecDepth 100000 in
theorem q6P:(Rows.topExploredRow.inPlace==Tryz.prog.inPlace 3)=true:=by kernel_rfl
set_option maxRecDepth 100000 in
theorem q6Q:(Rows.topExploredRow.unfollowed==Tryz.prog.unfollowed 3)=true:=by kernel_rfl
set_option maxRecDepth 100000 in
theorem q6R:(Rows.topExploredRow.recurses==Tryz.prog.recurses 3)=true:=by kernel_rfl
set_option maxRecDepth 100000 in
theorem q6S:(Rows.topExploredRow.named==Tryz.prog.varsNamed 3)=true:=by kernel_rfl
set_option maxRecDepth 100000 in
theorem q4g:joinedFacts Tryz.prog 3 Tryz.f3 Rows.topExploredSpec Rows.topExploredRow=true:=by
 unfold joinedFacts;rw[q6P,q6Q,q6R,q6S]
 kernel_rfl
theorem q6u:Rows.TopExploredSaid:=
 OpenClaim.holds_of_wide 3 Tryz.f3 rfl rfl rfl rfl rfl rfl rfl ⟨rfl,rfl,rfl,rfl,rfl⟩ rfl rfl rfl rfl rfl (by kernel_rfl) Tryz.func3 q4g
  (of_decide_eq_true (by kernel_rfl)) (by unfold Func.isWrapper;first|rw[if_pos (by decide+kernel)];kernel_rfl|rw[if_neg (by decide+kernel)];exact⟨rfl,rfl⟩)
  (fun os started H enc _=>q4h os started H enc)
set_option maxRecDepth 100000 in
theorem topExplored_proved:Rows.TopExploredCardSaid:=
 Claim7.holds_tied_plain_at .later [] [.data, .data] true (true,"c5e1e763f727a5cb83db3a54ffe1ba61285379f700b1e1136c066db32cedc651") true
  q6u (fun _ h=>by cases h) (by kernel_rfl) (fun _ h=>by cases h) topExplored_row_tie rfl ⟨rfl,rfl⟩ (by kernel_rfl) rfl
  (fun f fn d b=>by
   obtain rfl:f=3:=Option.some.inj ((show Tryz.prog.funcNamed "strongtx/strongtxtop.TopExplored" =some 3 by kernel_rfl).symm.trans d)|>.symm
   obtain rfl:fn=Tryz.f3:=(Option.some.inj (Tryz.func3.symm.trans b)).symm;exact⟨by kernel_rfl,fun j t c=>by
    rw[Tryz.params3] at c;have hm:t∈ [3,3,22,23]:=by simpa using Array.mem_of_getElem? c
    have a:([3,3,22,23].all fun u=> !Tryz.prog.wantsStandIn u)=true:=by kernel_rfl
    exact(show Tryz.prog.wantsStandIn t=false by simpa using zX.1 a t hm)⟩)
  (by kernel_rfl)
#print axioms topExplored_proved
end Go.Proofs.YtikpjajangpdjaaGreatDoor
