/- TopModes: the card. -/
import Derived.Test.YtfnghamklcdgnaaGreatDoorQ19
import Derived.Test.YtfnghamklcdgnaaGreatDoorTie
import Derived.Test.YtfnghamklcdgnaaGreatDoorCards
namespace Go.Proofs.YtfnghamklcdgnaaGreatDoor
open Go Go.ChangeShapes Go.WideShapes Go.ChangeAt Go.RowKit
set_option maxRecDepth 100000 in
theorem q5D(os:Os)(started:os.Started)(H:Type)(enc:TypeId×Value->H):
  ReturnsInHanded {} Tryz.checked os 3 .any (fun w args=>(Rows.topModesSpec.pre enc Tryz.prog Tryz.f3 Rows.topModesRow.domain false w args/\laidMetH Tryz.prog [("strongtx/tdrf.none",Rows.laid_strongtx_tdrf_none),("strongtx/isa.forms",Rows.laid_strongtx_isa_forms)] w)/\sizedMet enc Tryz.prog Tryz.f3 (OpenSpec.ofChange Rows.topModesSpec) false w args) (Rows.topModesSpec.post enc Tryz.prog Tryz.f3 false true false false):=by
 refine returnsInHanded_of_change_and (C:=Tryz.checked) (X:=fun w _=>laidMetH Tryz.prog [("strongtx/tdrf.none",Rows.laid_strongtx_tdrf_none),("strongtx/isa.forms",Rows.laid_strongtx_isa_forms)] w) (fun _ _ _ x h=>h.of_heap x) qmr started (by kernel_rfl) Tryz.func3
  (ChangeSpec.witness_shaped (enc:=enc) (C:=Tryz.checked) (os:=os) (X:=fun w _=>laidMetH Tryz.prog [("strongtx/tdrf.none",Rows.laid_strongtx_tdrf_none),("strongtx/isa.forms",Rows.laid_strongtx_isa_forms)] w) false (World.laidAll Tryz.prog os [("strongtx/tdrf.none",Rows.laid_strongtx_tdrf_none),("strongtx/isa.forms",Rows.laid_strongtx_isa_forms)]) #[.agg #[j4 0,j4 0,j4 0,j4 0,j4 0],j6,j6] 8 (World.laidAll_os _ _ _)
   (World.shaped_of_ZipB (by kernel_rfl) (by kernel_rfl)) (by kernel_rfl) (by kernel_rfl) (by kernel_rfl)
   (by rw[MakeChecks.laidMetH_plain _ _ _ (by kernel_rfl)];exact laidMet_laidAll _ (by kernel_rfl) (by kernel_rfl))) ?_
 intro W base args ds gs before c A hcnd f z _;have b:∀(j:Nat) t v,Tryz.f3.params[j]? =some t->args[j]? =some v->Value.okWide Tryz.prog W .any base t v:=c
 have u:=A;obtain⟨p,q,k,E,rfl,hfz,hnd⟩:=A;have l:DataW.TrodAll enc Tryz.prog W 0 (fun _=>true) true Tryz.f3.params.toList args.toList ds p:=k;rw[Tryz.params3] at l b f;have m:=l;obtain⟨v0,vs0,d0,ds0,p0,q0,hargs,rfl,rfl,h0,r0⟩:=trodAll_cons l;obtain⟨v1,vs1,d1,ds1,p1,q1,rfl,rfl,rfl,B,r1⟩:=trodAll_cons r0;obtain⟨v2,vs2,d2,ds2,p2,q2,rfl,rfl,rfl,D,r2⟩:=trodAll_cons r1;obtain⟨rfl,rfl,rfl⟩:=trodAll_nil r2;obtain rfl:args= #[v0,v1,v2]:=by cases args;simp_all
 obtain⟨rfl,rfl⟩:=trodVars_none E;obtain⟨G,I,n2,J,K,rfl,x⟩:=qcn (b 0 22 v0 rfl rfl);obtain⟨la,ls,lc,rfl,n,y,s⟩:=qnJ (b 1 23 v1 rfl rfl) B (q1F (q1F f).2).1;obtain⟨pa,pl,pc,rfl,o,r⟩:=qm1 (b 2 24 v2 rfl rfl) D (q1F (q1F (q1F f).2).2).1;clear k c f;refine(q9s (lc:=lc) (pkc:=pc) (qcU z) (qjr z) G I n2 J K x n y s o r W (qmS W)).mono fun e W' ⟨he,F⟩=>?_
 subst he;have i:=qfn F;exact⟨_,rfl,_,_,_,[],_,[],u,trodAll_mk1 (shut_bool Tryz.underlying4 _),q3M qjC i (by kernel_rfl) m,rfl,i.frame _,fun h=>by cases h⟩
set_option maxRecDepth 100000 in
theorem q9y:(Rows.topModesRow.inPlace==Tryz.prog.inPlace 3)=true:=by kernel_rfl
set_option maxRecDepth 100000 in
theorem q9z:(Rows.topModesRow.unfollowed==Tryz.prog.unfollowed 3)=true:=by kernel_rfl
set_option maxRecDepth 100000 in
theorem q9A:(Rows.topModesRow.recurses==Tryz.prog.recurses 3)=true:=by kernel_rfl
set_option maxRecDepth 100000 in
theorem q9B:(Rows.topModesRow.named==Tryz.prog.varsNamed 3)=true:=by kernel_rfl
set_option maxRecDepth 100000 in
theorem q5C:joinedFacts Tryz.prog 3 Tryz.f3 Rows.topModesSpec Rows.topModesRow=true:=by
 unfold joinedFacts;rw[q9y,q9z,q9A,q9B]
 kernel_rfl
theorem q8q:Rows.TopModesSaid:=
 OpenClaim.holds_of_wide 3 Tryz.f3 rfl rfl rfl rfl rfl rfl rfl ⟨rfl,rfl,rfl,rfl,rfl⟩ rfl rfl rfl rfl rfl (by kernel_rfl) Tryz.func3 q5C
  (of_decide_eq_true (by kernel_rfl)) (by unfold Func.isWrapper;first|rw[if_pos (by decide+kernel)];kernel_rfl|rw[if_neg (by decide+kernel)];exact⟨rfl,rfl⟩)
  (fun os started H enc _=>q5D os started H enc)
set_option maxRecDepth 100000 in
theorem topModes_proved:Rows.TopModesCardSaid:=
 Claim7.holds_tied_plain_at .later [] [.data, .data] true (true,"008e59344ba699ad0bcb279f2725101f696720529239941e5ff2314b15274df0") true
  q8q (fun _ h=>by cases h) (by kernel_rfl) (fun _ h=>by cases h) topModes_row_tie rfl ⟨rfl,rfl⟩ (by kernel_rfl) rfl
  (fun f fn d b=>by
   obtain rfl:f=3:=Option.some.inj ((show Tryz.prog.funcNamed "strongtx/strongtxtop.TopModes" =some 3 by kernel_rfl).symm.trans d)|>.symm
   obtain rfl:fn=Tryz.f3:=(Option.some.inj (Tryz.func3.symm.trans b)).symm;exact⟨by kernel_rfl,fun j t c=>by
    rw[Tryz.params3] at c;have hm:t∈ [22,23,24]:=by simpa using Array.mem_of_getElem? c
    have a:([22,23,24].all fun u=> !Tryz.prog.wantsStandIn u)=true:=by kernel_rfl
    exact(show Tryz.prog.wantsStandIn t=false by simpa using Z7.1 a t hm)⟩)
  (by kernel_rfl)
#print axioms topModes_proved
end Go.Proofs.YtfnghamklcdgnaaGreatDoor
