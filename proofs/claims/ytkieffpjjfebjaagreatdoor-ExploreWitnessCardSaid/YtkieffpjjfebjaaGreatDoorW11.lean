/- What the laws share, part 11. No condition. -/
import Derived.Shelf.Sort.Plain
import Derived.Shelf.Slices.In.SortNone
import Derived.Shelf.Slices.CompactI
import Derived.Ground.Names2Prog
import Derived.Test.YtkieffpjjfebjaaGreatDoorProg
import Derived.Test.YtkieffpjjfebjaaGreatDoorW10
set_option maxHeartbeats 16000000
set_option maxRecDepth 100000
namespace Go.Proofs.YtkieffpjjfebjaaGreatDoor
open Go
section
variable{W0:World}{own:Own}{c:Cfg}{ia pa ka:Option Addr}{ic pc kc:Nat}{ps:List PH}{il ks:List Int}
theorem qq4{g b:Nat×(Obj→Prop)}{D0 D1 D2 D3 kD L Z:Own}:Ent W0 (g::(D3++(D2++(kD++(L++(D1++(D0++(b::Z)))))))) (b::(g::(D2++(D3++(kD++(L++Z)))))):=qo (D1++D0)
theorem qq5{x y b g:Nat×(Obj→Prop)}{D2 D3 T O kD L Z:Own}:Ent W0 (x::(y::(b::(g::(D2++(D3++(T++(O++(kD++(L++Z)))))))))) (b::(g::(D2++(D3++(T++(O++(kD++(L++Z)))))))):=qo [x,y]
theorem qq6{b g:Nat×(Obj→Prop)}{D2 D3 T O kD L Z:Own}:Ent W0 (b::(g::(D2++(D3++(T++(O++(kD++(L++Z)))))))) ((g::(D2++(D3++(T++([]++(O++([]++ [])))))))++((kD++L)++Z)):=qo [b]
theorem qpz(hI:RdE q7j 1 W0 own ia il)(hil:il.length≤1000000)(hP:RdE PH.enc 1 W0 own pa ps)(hpl:ps.length≤16)(hQ:∀h∈ps,RdE Ins.enc 5 W0 own h.a h.p∧h.p.length≤64)(hK:RdE qM 1 W0 own ka ks)(hkl:ks.length≤1000000):
  q0E Tryz.prog W0 44 [qi0 c ia il.length ic pa ps.length pc ka ks.length kc] own fun v own'=>∃y:DP×List PB×Own,
   (v= .pointer (some ⟨y.1.rb,0,none⟩)∧y.1.ok W0 (y.2.2++q9L y.2.1) (y.2.1.map PB.h) (q7G c il (ps.map PH.p))∧(y.2.1.map PB.h).map PH.p=ps.map PH.p)∧
   Ent W0 own' (y.1.O c (y.2.1.map PB.h).length (q7G c il (ps.map PH.p))++((y.2.2++q9L y.2.1)++own)):=by
 refine qa qj qnk (by simp[qmd]) ?_
 have hbd:=q6w c
 have hts:=fun(own':Own) [qt own' own]=>qnw (c:=c) (ic:=ic) (pc:=pc) (kc:=kc) (own:=own') (RdE.up hI) hil (RdE.up hP) (by omega) (fun h hh=>⟨(hQ h hh).1.up,by have:=(hQ h hh).2;omega⟩) (RdE.up hK) hkl
 have hcw:=fun(own':Own) [qt own' own]=>qmk (cap:=ic) (RdE.up (own:=own') hI) (by omega)
 have hbl:=fun own=>q8f W0 own c
 repeat'((try(conv=>whnf));first|(refine qc (fun b1 h1=> ?_);(apply Stop.h)))
 refine Stop.mk ?_
 refine q4H (σ:=Nat×Value×Value×(List PB×Option Addr×Nat×Own)×(Option Addr×Nat×Own)×(Option Addr×Nat×Own)) 65512 (fun y=> [(3, .pointer (some ⟨y.1,0,none⟩))])
  (fun y=>ScE b1 c (.slice ia il.length ic) (.slice pa ps.length pc) (.slice ka ks.length kc)::((y.1,fun o=>o=Obj.cells (cfL c [y.2.1, .slice y.2.2.2.1.2.1 (y.2.2.2.1.1.map PB.h).length y.2.2.2.1.2.2.1,y.2.2.1, .slice y.2.2.2.2.1.1 il.length y.2.2.2.2.1.2.1, .slice y.2.2.2.2.2.1 (qy c).toNat y.2.2.2.2.2.2.1, .slice none 0 0, .slice none 0 0, .slice none 0 0, .int .i64 0]).toArray 106 (0,0))::(y.2.2.2.2.1.2.2++(y.2.2.2.2.2.2.2++(y.2.2.2.1.2.2.2++(q9L y.2.2.2.1.1++own))))))
  (fun y=>(y.2.2.2.1.1.map PB.h).map PH.p=ps.map PH.p∧qr PH.enc 66 1 y.2.2.2.1.2.1 y.2.2.2.1.2.2.1 (y.2.2.2.1.1.map PB.h) y.2.2.2.1.2.2.2∧(∀x∈y.2.2.2.1.1,x.ok)∧qr q7j 58 1 y.2.2.2.2.1.1 y.2.2.2.2.1.2.1 il y.2.2.2.2.1.2.2∧qr qmu 4 1 y.2.2.2.2.2.1 y.2.2.2.2.2.2.1 (List.replicate (qy c).toNat false) y.2.2.2.2.2.2.2) rfl ?_ ?_
 ·repeat'((try(conv=>whnf));first|(refine mkE (enc:=qmu) false rfl rfl (by omega) (fun a3 c3 D3 hb3=> ?_))|(refine qc (fun gb hgb=> ?_))|((with_reducible show qf _ _ _ _ _ _);first|((refine qZ (hts _) ?_ ?_ (fun y v hv=> ?_);(exact rfl);(exact rfl);(obtain⟨⟨a1,c1,D1⟩,⟨a0,c0,D0⟩,ys,⟨a5,c5,kD⟩⟩:=y;obtain⟨rfl,hpp,hBk,hys⟩:=hv;dsimp only at hpp hBk hys)))|((refine qZ (hcw _) ?_ ?_ (fun y v hv=> ?_);(exact rfl);(exact rfl);(obtain⟨a2,c2,D2⟩:=y;obtain⟨rfl,hB2⟩:=hv;dsimp only at hB2))))|((with_reducible show q0b _ _ _ _ _ _);first|((refine qq (fun ex=>hbl _) ?_ ?_ ?_;(exact rfl);(exact rfl))))|(refine fA ?_)|(refine fL ?_)|(refine fQ ?_)|(refine q4T.mk ?_ ?_))
  all_goals
   refine⟨(gb, .slice a1 il.length c1, .slice a0 ks.length c0,(ys,a5,c5,kD),(a2,c2,D2),(a3,c3,D3)),⟨hpp,hBk,hys,hB2,hb3⟩,(eF),?_⟩
   exact qq4
 ·rintro⟨gb,iv,kv,⟨ys,a5,c5,kD⟩,⟨a2,c2,D2⟩,⟨a3,c3,D3⟩⟩ junk ⟨hpp,hBk,hys,hB2,hb3⟩
  dsimp only at hpp hBk hys hB2 hb3 ⊢
  refine q0Z (σ:=Nat×(Option Addr×Nat×Own)×(Option Addr×Nat×Own)) (fun y=> [(4, .int .i64 y.1)])
   (fun y=>ScE b1 c (.slice ia il.length ic) (.slice pa ps.length pc) (.slice ka ks.length kc)::((gb,fun o=>o=Obj.cells (cfL c [iv, .slice a5 (ys.map PB.h).length c5,kv, .slice a2 il.length c2, .slice a3 (qy c).toNat c3, .slice y.2.1.1 ((ps.take y.1).map fun h=>qcD h.p).length y.2.1.2.1, .slice none 0 0, .slice y.2.2.1 (List.replicate y.1 (⟨none,0,[],[]⟩:ObS)).length y.2.2.2.1, .int .i64 0]).toArray 106 (0,0))::(D2++(D3++(y.2.1.2.2++(y.2.2.2.2++(kD++(q9L ys++own))))))))
   (fun y=>y.1≤ps.length∧qr Thr.enc 61 11 y.2.1.1 y.2.1.2.1 ((ps.take y.1).map fun h=>qcD h.p) y.2.1.2.2∧qr ObS.enc 124 1 y.2.2.1 y.2.2.2.1 (List.replicate y.1 (⟨none,0,[],[]⟩:ObS)) y.2.2.2.2)
   (fun y=>ps.length-y.1) (0,(none,0,[]),(none,0,[])) ⟨Nat.zero_le _,qr.nil,qr.nil⟩ (eF) ?_ rfl ?_
  ·exact Ent.refl
  rintro⟨i,⟨ta,tc,tD⟩,⟨oa,oc,oD⟩⟩ junk ⟨hi,hBt,hBo⟩
  dsimp only at hi hBt hBo ⊢
  have htl:((ps.take i).map fun h=>qcD h.p).length=i:=by simp;omega
  have hol:(List.replicate i (⟨none,0,[],[]⟩:ObS)).length=i:=by simp
  by_cases hil:i<ps.length
  ·obtain⟨x,hx⟩:∃x,ps[i]? =some x:=⟨_,List.getElem?_eq_getElem hil⟩
   obtain⟨xa,xc,xp⟩:=x
   have hthr:∀b:Bool,b=decide (xp.length=0)→ [.int .i64 0, .int .u64 0, .int .u64 0, .int .u64 0, .int .u64 0, .int .u64 0, .int .u64 0, .int .u64 0, .int .u64 0, .int .i64 0, .bool b]=(qcD xp).enc:=fun b hb=>by rw[hb];rfl
   repeat'((try(conv=>whnf));first|(refine fF ?_)|(apply q69 (enc:=Thr.enc) (T:=61) (qcD xp) hBt;(refine hthr _ ?_;simp);(exact rfl);(omega);(exact rfl);(exact rfl);(omega);intro a9 c9 D9 hb9)|(apply q69 (enc:=ObS.enc) (T:=124) ⟨none,0,[],[]⟩ hBo;(exact rfl);(exact rfl);(omega);(exact rfl);(exact rfl);(omega);intro a8 c8 D8 hb8)|((with_reducible show Ld _ _ _ _);first|(refine q1M hP hx rfl ?_))|((with_reducible show IxS _ _ _ _ _);first|((refine ixE hP hx ?_ ?_;(first|rfl|omega))))|(refine fB ?_)|(refine fA ?_)|(refine fN ?_)|(refine qc (fun bk hbk=> ?_)))
   all_goals
    have htk:((ps.take i).map fun h=>qcD h.p)++ [qcD xp]=(ps.take (i+1)).map fun h=>qcD h.p:=by
     rw[List.take_add_one,hx];simp
    have hrp:List.replicate i (⟨none,0,[],[]⟩:ObS)++ [⟨none,0,[],[]⟩]=List.replicate (i+1) ⟨none,0,[],[]⟩:=List.replicate_succ'.symm
    have e1:((ps.take (i+1)).map fun h=>qcD h.p).length=((ps.take i).map fun h=>qcD h.p).length+1:=by rw[←htk];simp
    have e2:(List.replicate (i+1) (⟨none,0,[],[]⟩:ObS)).length=(List.replicate i (⟨none,0,[],[]⟩:ObS)).length+1:=by simp
    rw[htk] at hb9
    rw[hrp] at hb8
    refine⟨(i+1,(a9,c9,D9),(a8,c8,D8)),⟨hil,hb9,hb8⟩,(by show ps.length-(i+1)<ps.length-i;omega),(eF),?_⟩
    dsimp only
    rw[e1,e2]
    exact qq5
  ·have hiN:i=ps.length:=by omega
   subst hiN
   rw[List.take_length] at hBt ⊢
   repeat'((try(conv=>whnf));first|(refine fG ?_)|(refine fA ?_))
   have hT:(q7G c il (ps.map PH.p)).T=ps.map fun h=>qcD h.p:=by simp[q7G,qcD]
   have hz:q5q (List.replicate ps.length (⟨none,0,[],[]⟩:ObS))= []:=by simp[q5q]
   have hk:(q7G c il (ps.map PH.p)).tk.length=(qy c).toNat:=by simp[q7G]
   refine⟨(⟨gb,iv,a5,c5,kv,a2,c2,D2,a3,c3,D3,ta,tc,tD,none,0,[],[],[],oa,oc,oD,List.replicate ps.length ⟨none,0,[],[]⟩⟩,ys,kD),⟨rfl,⟨hB2,hb3,RdE.up (hBk.rd (W0:=W0)),?_,hT ▸ hBt,qr.nil,rfl,(fun _ h=>(by cases h)),hBo,?_,?_⟩,hpp⟩,?_⟩
   ·intro h hh
    obtain⟨x,hx,rfl⟩:=List.mem_map.1 hh
    exact qhO hx ((hys x hx).rd (W0:=W0))
   ·intro x hx
    rw[List.eq_of_mem_replicate hx]
    exact qr.nil
   ·simp only[q7G,List.map_map,List.map_replicate]
    exact(List.map_const' ..).symm
   ·dsimp only[DP.O,DP.cells]
    rw[hT,hz,hk]
    exact qq6
end
open Go
section
variable{W0:World}{own:Own}{c:Cfg}{ia pa ka:Option Addr}{ic pc kc:Nat}{ps:List PH}{il ks:List Int}{ca:Option Addr}{cc:Nat}{cl:List CH}
theorem qp9(c:Cfg)(ia pa ka:Option Addr)(il ic pn pc kn kc:Nat)(own:Own):qD Tryz.prog W0 40 [qi0 c ia il ic pa pn pc ka kn kc] own (qi0 c ia il ic pa pn pc none 0 0):=by
 refine qe (qa qj qnh (by simp[qma]) ?_)
 repeat'((try(conv=>whnf));first|(refine fL ?_)|(refine fN ?_)|(refine fM ?_)|(refine qc (fun bk hbk=> ?_)))
 all_goals exact⟨rfl,(eC)⟩
theorem qo1{a b:Nat×(Obj→Prop)}{A Z:Own}:Ent W0 (a::(b::(A++Z))) (A++([a,b]++Z)):=qo []
theorem qoT{a b:Nat×(Obj→Prop)}{A Z:Own}:Ent W0 (A++([a,b]++Z)) (a::(b::(A++Z))):=qo []
theorem qoU{a b:Nat×(Obj→Prop)}{A B Z:Own}:Ent W0 (A++([a,b]++(B++Z))) Z:=qo (a::b::(A++B))
theorem qpw(hI:RdE q7j 1 W0 own ia il)(hil:il.length≤500000)(hw:∀x∈il,okU x)(hP:RdE PH.enc 1 W0 own pa ps)(hQ:∀h∈ps,RdE Ins.enc 5 W0 own h.a h.p)(hK:RdE qM 1 W0 own ka ks)(hkl:ks.length≤1000000)
  (hC:RdE CH.enc 3 W0 own ca cl) (hA:∀x∈cl,RdE qM 1 W0 own x.a x.ad∧x.ad.length≤x.ac∧∀a∈x.ad,a≤9223372036854775807) (hcl:cl.length≤5000):
  q0E Tryz.prog W0 19 [qi0 c ia il.length ic pa ps.length pc ka ks.length kc, .slice ca cl.length cc] own fun v own'=>
   ((∃k e:Int,v= .tuple #[qqp, .int .i64 k, .int .i64 e]∧(((csM c il.length ps []).2.2≠0∧k=0∧e=(csM c il.length ps []).2.2)∨(csM c il.length ps []=(0,0,0)∧e=70∧∃j:Nat,k=j∧qce c (ps.map PH.p) (cl.map CH.m) 0 (q7G c il (ps.map PH.p))= .inr j)))∧Ent W0 own' own)∨
   ∃y:RG×GS,(v= .tuple #[y.1.v y.2, .int .i64 0, .int .i64 0]∧csM c il.length ps []=(0,0,0)∧qce c (ps.map PH.p) (cl.map CH.m) 0 (q7G c il (ps.map PH.p))= .inl y.2∧y.1.ok W0 y.2)∧Ent W0 own' (y.1.D++own):=by
 refine qa qj qnr (by simp[qmg]) ?_
 have hcs:=fun(own':Own) [qt own' own]=>qqj (c:=c) (ia:=ia) (il:=il.length) (ic:=ic) (pc:=pc) (ka:=none) (ks:= []) (kc:=0) (own:=own') (RdE.up hP) (fun h hh=>RdE.up (hQ h hh)) RdE.nil
 have hba:=fun own'=>qp9 (W0:=W0) c ia pa ka il.length ic ps.length pc ks.length kc own'
 by_cases he:(csM c il.length ps []).2.2≠0
 ·generalize csM c il.length ps []=z at*
  obtain⟨zt,za,ze⟩:=z
  dsimp only at he
  repeat'((try(conv=>whnf));first|(refine fF ?_)|((with_reducible show qf _ _ _ _ _ _);first|((refine qh (hba _) ?_ ?_ ?_;(exact rfl);exact rfl))|((refine qh (hcs _) ?_ ?_ ?_;(exact rfl);exact rfl)))|(refine fO ?_)|(refine fL ?_)|(refine fM ?_)|(refine qc (fun bk hbk=> ?_)))
  all_goals exact .inl ⟨⟨0,ze,rfl, .inl ⟨he,rfl,rfl⟩⟩,(eC)⟩
 ·obtain⟨h0,hc0,hpl,hiw,hck⟩:=qh1 (show(csM c il.length ps []).2.2=0 by omega)
  have hnw:=fun b2 b4=>qpz (own:= [(b4,fun o=>o=Obj.cells #[.slice none 0 0, .slice none 0 0, .slice none 0 0, .slice none 0 0] 52 (0,0)),(b2,fun o=>o=Obj.cells (qiF c (.slice ia il.length ic) (.slice pa ps.length pc) (.slice ka ks.length kc)) 32 (0,0))]++own) (c:=c) (ic:=ic) (pc:=pc) (ka:=ka) (ks:=ks) (kc:=kc) (RdE.up hI) (by omega) (RdE.up hP) hpl.2 (fun h hh=>⟨RdE.up (hQ h hh),q6A (hck h hh)⟩) (RdE.up hK) hkl
  have hG0:GOk c (ps.map PH.p) (q7G c il (ps.map PH.p)):=qgw hc0 hiw hw fun p hp=>by obtain⟨x,hx,rfl⟩:=List.mem_map.1 hp;exact hck x hx
  have hn0:(q7G c il (ps.map PH.p)).n=0:=rfl
  have hc1:=hC
  rw[h0] at hcs ⊢
  generalize q7G c il (ps.map PH.p)=s0 at*
  repeat'((try(conv=>whnf));first|(refine qc (fun b2 h2=> ?_);(apply Stop.h)))
  refine Stop.mk ?_
  repeat'((try(conv=>whnf));first|(refine qc (fun b4 h4=> ?_);(apply Stop.h)))
  refine Stop.mk ?_
  repeat'((try(conv=>whnf));first|(refine fD ?_)|((with_reducible show qf _ _ _ _ _ _);first|((refine qh (hba _) ?_ ?_ ?_;(exact rfl);exact rfl))|((refine qh (hcs _) ?_ ?_ ?_;(exact rfl);exact rfl))|((refine qm (hnw b2 b4) ?_ ?_ ?_ (fun y v hv=> ?_);(exact qpM);(exact rfl);(exact rfl);(apply Stop.h))))|(refine fO ?_)|(refine fL ?_))
  obtain⟨g,ys,kD⟩:=y
  obtain⟨rfl,hok,hpp⟩:=hv
  dsimp only at hok hpp ⊢
  generalize hPe:ps.map PH.p=P at*
  refine Stop.mk ?_
  refine q0Z (σ:=Nat×DP×GS) (fun y=> [(11, .int .i64 y.1)])
   (fun y=>(b4,fun o=>o=Obj.cells #[.slice none 0 0, .slice none 0 0, .slice none 0 0, .slice none 0 0] 52 (0,0))::((b2,fun o=>o=Obj.cells (qiF c (.slice ia il.length ic) (.slice pa ps.length pc) (.slice ka ks.length kc)) 32 (0,0))::(y.2.1.O c (ys.map PB.h).length y.2.2++((kD++q9L ys)++own))))
   (fun y=>y.1≤cl.length∧y.2.1.ok W0 (kD++q9L ys) (ys.map PB.h) y.2.2∧y.2.1.rb=g.rb∧GOk c P y.2.2∧y.2.2.n=y.1∧qce c P (cl.map CH.m) 0 s0=qce c P ((cl.drop y.1).map CH.m) y.1 y.2.2)
   (fun y=>cl.length-y.1) (0,g,s0) ⟨Nat.zero_le _,hok,rfl,hG0,hn0,rfl⟩ (eF) ?_ rfl ?_
  ·exact qpN
  ·rintro⟨k,g1,s1⟩ junk ⟨hk,hok1,hgb,hG1,hn1,hrun⟩
   dsimp only at hk hok1 hgb hG1 hn1 hrun ⊢
   by_cases hkl:k<cl.length
   ·obtain⟨x,hx⟩:∃x,cl[k]? =some x:=⟨_,List.getElem?_eq_getElem hkl⟩
    obtain⟨hxA,hxl,hxr⟩:=hA x (List.mem_of_getElem? hx)
    obtain⟨xt,xf,xa,xad,xac⟩:=x
    dsimp only at hxA hxl hxr
    rw[q4I hx] at hrun
    simp only[List.map_cons,qce] at hrun
    have hG1':=hG1
    rw[←hpp] at hG1'
    have hdo:=qqk (c:=c) hok1 hG1' (by omega) xt xf hxA hxl hxr ([(b4,fun o=>o=Obj.cells #[.slice none 0 0, .slice none 0 0, .slice none 0 0, .slice none 0 0] 52 (0,0)),(b2,fun o=>o=Obj.cells (qiF c (.slice ia il.length ic) (.slice pa ps.length pc) (.slice ka ks.length kc)) 32 (0,0))]++((kD++q9L ys)++own))
    rw[hpp] at hdo
    have hdk:=qeY hG1 (ch:=⟨xt,xf,xad⟩) hxr
    rw[hgb] at hdo
    by_cases hz:(doM c P s1 ⟨xt,xf,xad⟩).1=0
    ·have hdn:=qqE hz
     rw[if_pos hz] at hrun
     generalize doM c P s1 ⟨xt,xf,xad⟩=z at*
     obtain⟨zc,s2⟩:=z
     dsimp only at hz hdo hdk hrun hdn
     subst hz
     repeat'((try(conv=>whnf));first|(refine fD ?_)|(refine fF ?_)|((with_reducible show IxS _ _ _ _ _);first|((refine ixE hc1 hx ?_ ?_;(first|rfl|omega))))|((with_reducible show LdN _ _ _ _ _);first|(refine q2e hc1 hx rfl ?_))|((with_reducible show qf _ _ _ _ _ _);first|((refine qm hdo ?_ ?_ ?_ (fun g2 v hg2=> ?_);(exact qo1);(exact rfl);(exact rfl);(obtain⟨rfl,hok2,hgb2⟩:=hg2))))|(refine fB ?_))
     exact⟨(k+1,g2,s2),⟨hkl,hok2,hgb2,hdk,hdn.trans (by rw[hn1]),hrun⟩,(by show cl.length-(k+1)<cl.length-k;omega),(eF),qoT⟩
    ·have hdc:=qpk hz
     rw[if_neg hz] at hrun
     rw[hdc] at hdo
     dsimp only at hdo
     repeat'((try(conv=>whnf));first|(refine fE ?_)|(refine fF ?_)|((with_reducible show IxS _ _ _ _ _);first|((refine ixE hc1 hx ?_ ?_;(first|rfl|omega))))|((with_reducible show LdN _ _ _ _ _);first|(refine q2e hc1 hx rfl ?_))|((with_reducible show qf _ _ _ _ _ _);first|((refine qm hdo ?_ ?_ ?_ (fun g2 v hg2=> ?_);(exact qo1);(exact rfl);(exact rfl);(obtain⟨rfl,hok2,hgb2⟩:=hg2))))|(refine fL ?_)|(refine fM ?_))
     exact .inl ⟨⟨k,70,rfl, .inr ⟨rfl,rfl,k,rfl,hrun⟩⟩,qoU⟩
   ·have hkN:k=cl.length:=by omega
    subst hkN
    rw[List.drop_length] at hrun
    have hPl:P.length≤16:=by rw[←hPe,List.length_map];exact hpl.2
    have hsz:=hG1.sz (by omega) hPl
    have hrs:=fun q=>qof (c:=c) hok1 hsz.d hsz.t hsz.e hsz.o hsz.ol hsz.ev q
    rw[hgb] at hrs
    have hrk:=qG (E:= [(b4,fun o=>o=Obj.cells #[.slice none 0 0, .slice none 0 0, .slice none 0 0, .slice none 0 0] 52 (0,0)),(b2,fun o=>o=Obj.cells (qiF c (.slice ia il.length ic) (.slice pa ps.length pc) (.slice ka ks.length kc)) 32 (0,0))]) (q:=(kD++q9L ys)++own) (D:=g1.O c (ys.map PB.h).length s1) (O:=fun r:RG=>r.D++g1.O c (ys.map PB.h).length s1) (R:=fun r v=>v=r.v s1∧r.ok W0 s1) (fun q=>by simpa only[List.append_assoc] using hrs q)
    repeat'((try(conv=>whnf));first|(refine fG ?_)|((with_reducible show qf _ _ _ _ _ _);first|((refine qm hrk ?_ ?_ ?_ (fun r v hr=> ?_);(exact qpK);(exact rfl);(exact rfl);(obtain⟨rfl,hrok⟩:=hr))))|(refine fL ?_)|(refine fM ?_))
    exact .inr ⟨(r,s1),⟨rfl,rfl,hrun,hrok⟩,qpL⟩
end
open Go
def gs0:GS:=⟨[],[],[],[],[],0⟩
def rg0:RG:=⟨none,0,[],none,0,[],none,0,[],[],[],none,0,[],[]⟩
theorem qpe{W0:World}:rg0.ok W0 gs0:=⟨qr.nil,qr.nil,qr.nil,rfl,(fun _ h=>(by cases h)),qr.nil,(fun _ h=>(by cases h)),rfl⟩
def qqJ:GS ⊕ Nat→GS×Int×Int
 | .inl s=>(s,0,0)
 | .inr j=>(gs0,j,70)
def qnA(c:Cfg)(il:List Int)(ps:List PH)(cl:List ChM):GS×Int×Int:=
 if(csM c il.length ps []).2.2≠0 then(gs0,0,(csM c il.length ps []).2.2) else qqJ (qce c (ps.map PH.p) cl 0 (q7G c il (ps.map PH.p)))
section
variable{W0:World}{own:Own}{c:Cfg}{ia pa ka:Option Addr}{ic pc kc:Nat}{ps:List PH}{il ks:List Int}{ca:Option Addr}{cc:Nat}{cl:List CH}
theorem qpq{W0:World}{v:Value}{own':Own}
  (h:((∃k e:Int,v= .tuple #[qqp, .int .i64 k, .int .i64 e]∧(((csM c il.length ps []).2.2≠0∧k=0∧e=(csM c il.length ps []).2.2)∨(csM c il.length ps []=(0,0,0)∧e=70∧∃j:Nat,k=j∧qce c (ps.map PH.p) (cl.map CH.m) 0 (q7G c il (ps.map PH.p))= .inr j)))∧Ent W0 own' own)∨
   ∃y:RG×GS,(v= .tuple #[y.1.v y.2, .int .i64 0, .int .i64 0]∧csM c il.length ps []=(0,0,0)∧qce c (ps.map PH.p) (cl.map CH.m) 0 (q7G c il (ps.map PH.p))= .inl y.2∧y.1.ok W0 y.2)∧Ent W0 own' (y.1.D++own)):
  ∃y:RG,(v= .tuple #[y.v (qnA c il ps (cl.map CH.m)).1, .int .i64 (qnA c il ps (cl.map CH.m)).2.1, .int .i64 (qnA c il ps (cl.map CH.m)).2.2]∧y.ok W0 (qnA c il ps (cl.map CH.m)).1)∧Ent W0 own' (y.D++own):=by
 rcases h with ⟨⟨k,e,rfl,h⟩,hE⟩|⟨⟨y,s⟩,⟨rfl,h0,hr,hy⟩,hE⟩
 ·refine⟨rg0,?_,hE⟩
  rcases h with ⟨hne,rfl,rfl⟩|⟨h0,rfl,j,rfl,hr⟩
  ·unfold qnA
   rw[if_pos hne]
   exact⟨rfl,qpe⟩
  ·unfold qnA
   rw[if_neg (by rw[h0];simp),hr]
   exact⟨rfl,qpe⟩
 ·refine⟨y,?_,hE⟩
  unfold qnA
  rw[if_neg (by rw[h0];simp),hr]
  exact⟨rfl,hy⟩
theorem qp8(hI:RdE q7j 1 W0 own ia il)(hil:il.length≤500000)(hw:∀x∈il,okU x)(hP:RdE PH.enc 1 W0 own pa ps)(hQ:∀h∈ps,RdE Ins.enc 5 W0 own h.a h.p)(hK:RdE qM 1 W0 own ka ks)(hkl:ks.length≤1000000)
  (hC:RdE CH.enc 3 W0 own ca cl) (hA:∀x∈cl,RdE qM 1 W0 own x.a x.ad∧x.ad.length≤x.ac∧∀a∈x.ad,a≤9223372036854775807) (hcl:cl.length≤5000):
  q0E Tryz.prog W0 19 [qi0 c ia il.length ic pa ps.length pc ka ks.length kc, .slice ca cl.length cc] own fun v own'=>
   ∃y:RG,(v= .tuple #[y.v (qnA c il ps (cl.map CH.m)).1, .int .i64 (qnA c il ps (cl.map CH.m)).2.1, .int .i64 (qnA c il ps (cl.map CH.m)).2.2]∧y.ok W0 (qnA c il ps (cl.map CH.m)).1)∧Ent W0 own' (y.D++own):=by
 have h:=qpw (c:=c) (ic:=ic) (pc:=pc) (kc:=kc) (cc:=cc) hI hil hw hP hQ hK hkl hC hA hcl
 intro w hs
 refine(h w hs).mono fun _ _ ⟨v,o,a,b,hv⟩=>⟨v,o,a,b,qpq hv⟩
end
section
variable{W0:World}{own:Own}{m:MS}{st:Bool}{ca:Option Addr}{cc:Nat}{cl:List CH}
theorem MS.ok.ilu(h:m.ok st):∀x∈m.il,okU x:=fun x hx=>by have:=h.iw x hx;exact⟨by omega,by omega⟩
theorem MS.ok.il5(h:m.ok st):m.il.length≤500000:=by
 have h1:=h.il
 have h2:=(q1R h.c0).1
 unfold okW at h2
 omega
end
open Go
section
variable{W0:World}{own:Own}{la:Option Addr}{lc:Nat}{ls:List IH}
theorem qpv(hL:RdE IH.enc 1 W0 own la ls)(hll:ls.length≤17592186043904)(hQ:∀h∈ls,h.l.length≤17592186043904):
  q0E Tryz.prog W0 9 [.slice la ls.length lc] own fun v own'=>∃z:Bool,(v= .bool z∧(z=false→ls.length≤3∧∀h∈ls,h.l.length≤24))∧Ent W0 own' own:=by
 refine qa qj qnf (by simp[qm8]) ?_
 refine q0Z (σ:=Nat×Int) (fun y=> [(3, .int .i64 y.2),(4, .int .i64 y.1)]) (fun _=>own)
  (fun y=>y.1≤ls.length∧qks ls y.1 y.2) (fun y=>ls.length-y.1) (0,0) ⟨Nat.zero_le _,fun _=>⟨Int.le_refl _,by simp,fun _ h=>(by cases h)⟩⟩ (eF) Ent.refl rfl ?_
 rintro⟨i,n⟩ junk ⟨hi,hS⟩
 dsimp only at hi hS ⊢
 by_cases hil:i<ls.length
 ·obtain⟨x,hx⟩:∃x,ls[i]? =some x:=⟨_,List.getElem?_eq_getElem hil⟩
  have hxl:=hQ x (List.mem_of_getElem? hx)
  have hSn:=hS.next hx hxl
  obtain⟨xa,xc,xl⟩:=x
  repeat'((try(conv=>whnf));first|(refine fF ?_)|(refine fB ?_)|(refine arw ?_)|((with_reducible show Ld _ _ _ _);first|(refine q1M hL hx rfl ?_))|((with_reducible show IxS _ _ _ _ _);first|((refine ixE hL hx ?_ ?_;(first|rfl|omega)))))
  exact⟨(i+1,_),⟨hil,hSn⟩,(by show ls.length-(i+1)<ls.length-i;omega),(eF),Ent.refl⟩
 ·have hiN:i=ls.length:=by omega
  subst hiN
  by_cases hc:(3:Int)<ls.length
  ·repeat'((try(conv=>whnf));first|(refine fI ?_)|(refine fG ?_)|(refine fJ ?_))
   all_goals exact⟨true,⟨rfl,fun h=>(by cases h)⟩,(eC)⟩
  ·obtain⟨hn0, -,hn2⟩:=hS (by omega)
   repeat'((try(conv=>whnf));first|(refine fH ?_)|(refine fG ?_)|(refine fK ?_))
   all_goals exact⟨decide (24<n),⟨rfl,fun hz=>by
    have hn:¬24<n:=of_decide_eq_false hz
    exact⟨by omega,fun h hh=>by have:=hn2 h (by rw[List.take_of_length_le (by omega)];exact hh);omega⟩⟩,(eC)⟩
end
open Go
abbrev qoB(w o:Int):Cfg:=⟨1+qbu w 12,1+qbu o 12,0,0,0,0,0,16,32,0,0,1000,false⟩
theorem qpo(w o:Int):qL (qoB w o)=0:=by
 have h1:=qbv w (n:=12) (by omega)
 have h2:=qbv o (n:=12) (by omega)
 exact(cm0 (by unfold okW;dsimp only;omega) (by unfold okH okC nB nW;dsimp only;omega) (by unfold okL;dsimp only;omega) (by unfold okK;dsimp only;omega)).symm
structure MS.cl(m:MS):Prop where
 i:qr q7j 58 1 m.ia m.ic m.il m.Di
 p:qr PH.enc 66 1 m.pa m.pc (m.ps.map PB.h) m.Dp
 q:∀x∈m.ps,x.ok∧qx x.h.p=(0,0)
 na:∀x∈m.ps,∀y∈x.h.p,y.op≠14∧y.op≠15
 len:∀x∈m.ps,x.h.p.length≤6
 il:(m.il.length:Int)=m.c.words
 iw:∀x∈m.il,0≤x∧x≤3
 pl:m.ps.length=2∨m.ps.length=3
 cw:1≤m.c.words∧m.c.words≤12
 c0:qL m.c=0
 cs:m.c.strong=false
section
variable{W0:World}{own:Own}{la:Option Addr}{lc:Nat}{ls:List IH}
theorem qp5(w o:Int):qD Tryz.prog W0 24 [.int .i64 w, .int .i64 o] own (qoB w o).v:=by
 refine qe (qa qj qng (by simp[qm9]) ?_)
 have hw:=qbv w (n:=12) (by omega)
 have ho:=qbv o (n:=12) (by omega)
 have p1:=fun q=>qbG W0 q w 12 (by omega)
 have p2:=fun q=>qbG W0 q o 12 (by omega)
 repeat'((try(conv=>whnf));first|((with_reducible show qf _ _ _ _ _ _);first|((refine qh (p1 _) ?_ ?_ ?_;(exact rfl);exact rfl))|((refine qh (p2 _) ?_ ?_ ?_;(exact rfl);exact rfl)))|(refine fB ?_)|(refine fL ?_)|(refine fM ?_)|(refine qc (fun bk hbk=> ?_)))
 all_goals exact⟨rfl,(eC)⟩
theorem qob{c:Cfg}(h0:qL c=0)(hcs:c.strong=false)(hcw:1≤c.words∧c.words≤12)(n:Int)(hn:n=2∨n=3)(hL:RdE IH.enc 1 W0 own la ls)(hQ:∀h∈ls,RdE qM 1 W0 own h.a h.l∧h.l.length≤1000000):
  q0E Tryz.prog W0 18 [c.v, .int .i64 n, .slice la ls.length lc, .int .i64 (8-n), .bool false, .bool true, .slice none 0 0] own fun v own'=>∃m:MS,(v=m.v∧m.cl∧m.c=c)∧Ent W0 own' (m.O++own):=fun w hw=>by
 refine(qiG (c:=c) (pka:=none) (pks:= []) (pkc:=0) n (8-n) false true (by omega) (by omega) (by omega) hL hQ RdE.nil (by simp) w hw).mono fun _ _ ⟨v,o,a,b,ia,il,ic,Di,pa,ps,pc,Dp,ka,ks,kc,Dk,hv,hI,hP,hK,hp,hl,hw,hpl,hkl,_,hE⟩=> ?_
 have hk0:ks= []:=List.eq_nil_of_length_eq_zero hkl
 subst hk0
 refine⟨v,o,a,b,⟨c,ia,il,ic,Di,pa,ps,pc,Dp,ka,kc,Dk⟩,⟨hv,⟨hI,hP,fun x hx=>⟨(hp x hx).1,by rw[qeS];exact(hp x hx).2.1⟩,fun x hx y hy=> ?_,fun x hx=>by have:=(hp x hx).2.2.1;omega,hl,hw,(by show ps.length=2∨ps.length=3;omega),hcw,h0,hcs⟩,rfl⟩,?_⟩
 ·have:=((hp x hx).2.2.2 y hy).2
  exact⟨fun h=>(by have:=this (.inl h);cases this),fun h=>(by have:=this (.inr h);cases this)⟩
 ·simpa only[MS.O,List.append_assoc] using hE
theorem qpJ{x y z:Nat×(Obj→Prop)}{A Z:Own}:Ent W0 (x::(A++(y::(z::Z)))) (A++Z):=qo [x,y,z]
theorem qoD(w o:Int)(hL:RdE IH.enc 1 W0 own la ls)(hll:ls.length≤3)(hQ:∀h∈ls,RdE qM 1 W0 own h.a h.l∧h.l.length≤24):
  q0E Tryz.prog W0 11 [.int .i64 w, .int .i64 o, .slice la ls.length lc] own fun v own'=>∃m:MS,(v=m.v∧m.cl∧m.c=qoB w o)∧Ent W0 own' (m.O++own):=by
 refine qa qj qmU (by simp[qlX]) ?_
 have hw:=qbv w (n:=12) (by omega)
 have hro:=fun q=>qp5 (W0:=W0) (own:=q) w o
 have hsc:=fun(own':Own) [qt own' own]=>qob (lc:=lc) (own:=own') (c:=qoB w o) (qpo w o) rfl (by dsimp only;omega) (2+(ls.length:Int) % 2) (by omega) hL.up (fun h hh=>⟨(hQ h hh).1.up,by have:=(hQ h hh).2;omega⟩)
 generalize qoB w o=c at*
 repeat'((try(conv=>whnf));first|((with_reducible show qf _ _ _ _ _ _);first|((refine qh (hro _) ?_ ?_ ?_;(exact rfl);exact rfl))|((refine qm (hsc _) Ent.refl ?_ ?_ (fun m v hv=> ?_);(exact rfl);(exact rfl);(obtain⟨rfl,hm,hc⟩:=hv))))|(refine fB ?_)|(refine fL ?_)|(refine fM ?_)|(refine qc (fun bk hbk=> ?_))|(refine q9M ?_ ?_;omega))
 all_goals exact⟨m,⟨rfl,hm,hc⟩,qpJ⟩
end
open Go
section
variable{m:MS}
theorem MS.cl.cs0(h:m.cl):csM m.c m.il.length (m.ps.map PB.h) []=(0,0,0):=by
 unfold csM
 have hp:=h.pl
 rw[if_neg (by rw[h.c0];simp),if_neg (by rw[List.length_map];omega),if_neg (by rw[h.il];simp),qnQ _ _ fun y hy=>by
  obtain⟨x,hx,rfl⟩:=List.mem_map.1 hy
  exact(h.q x hx).2]
 rfl
theorem MS.cl.ilu(h:m.cl):∀x∈m.il,okU x:=fun x hx=>by have:=h.iw x hx;exact⟨by omega,by omega⟩
theorem MS.cl.g0(h:m.cl):GOk m.c m.P (q7G m.c m.il m.P):=
 qgw h.c0 h.il h.ilu fun p hp=>by
  obtain⟨y,hy,rfl⟩:=List.mem_map.1 hp
  obtain⟨x,hx,rfl⟩:=List.mem_map.1 hy
  exact(h.q x hx).2
theorem MS.cl.pl16(h:m.cl):m.P.length≤16:=by
 have hp:=h.pl
 simp only[List.length_map]
 omega
theorem MS.cl.il5(h:m.cl):m.il.length≤500000:=by
 have h1:=h.il
 have h2:=h.cw
 omega
theorem MS.cl.noal(h:m.cl):qfn m.P:=fun p hp=>by
 obtain⟨y,hy,rfl⟩:=List.mem_map.1 hp
 obtain⟨x,hx,rfl⟩:=List.mem_map.1 hy
 exact h.na x hx
theorem MS.cl.alq(h:m.cl):alQ (m.ps.map PB.h)=false:=by
 unfold alQ
 rw[List.any_eq_false]
 intro y hy
 obtain⟨x,hx,rfl⟩:=List.mem_map.1 hy
 rw[Bool.not_eq_true,List.any_eq_false]
 intro z hz
 have:=h.na x hx z hz
 unfold alI
 simp[this.1,this.2]
theorem MS.cl.arg(h:m.cl){fo:List Int}{lim:Int}(hf:fo.length≤4)(hfo:∀k∈fo,3≤k∧k≤6)(hl:1≤lim∧lim≤100000):qeN m.c m.il.length (m.ps.map PB.h) fo lim=0:=by
 unfold qeN
 rw[h.cs0,if_neg (by simp),if_neg (by rw[h.cs,h.alq];simp),if_neg (by omega),if_pos]
 unfold foB
 rw[List.all_eq_true]
 intro k hk
 exact decide_eq_true (hfo k hk)
theorem MS.cl.rp{W0:World}(h:m.cl):RdE PH.enc 1 W0 (m.O) m.pa (m.ps.map PB.h):=h.p.rd.ent (qo (m.Dk++(q9L m.ps++m.Di)) fun a=>by simp only[MS.O,q2k];omega)
theorem MS.cl.ri{W0:World}(h:m.cl):RdE q7j 1 W0 (m.O) m.ia m.il:=h.i.rd.ent (qo (m.Dk++(m.Dp++q9L m.ps)) fun a=>by simp only[MS.O,q2k];omega)
theorem MS.cl.rq{W0:World}(h:m.cl):∀x∈m.ps.map PB.h,RdE Ins.enc 5 W0 (m.O) x.a x.p:=fun y hy=>by
 obtain⟨x,hx,rfl⟩:=List.mem_map.1 hy
 have:=qhO (kD:= []) hx ((h.q x hx).1.rd (W0:=W0))
 exact this.ent (qo (m.Dk++(m.Dp++m.Di)) fun a=>by simp only[MS.O,q2k,q6C];omega)
end
structure Ans(c:Cfg)(il:List Int)(P:List (List Ins))(fo:List Int)(R:SS×Int):Prop where
 e:R.2=0∨(R.2=80∧R.1=ss0)
 n:R.1.racy=false→R.1.found= []
 r:R.2=0→R.1.racy=true→∃s',qex c P fo (q7G c il P) [] s' R.1.found∧rcC P.length s'.E=true
 a:R.2=0→R.1.racy=false→∀s' l',qex c P fo (q7G c il P) [] s' l'→rcC P.length s'.E=false
theorem MS.cl.ans{m:MS}(h:m.cl){fo:List Int}{lim:Int}(hf:fo.length≤4)(hfo:∀k∈fo,3≤k∧k≤6)(hl:1≤lim∧lim≤100000):Ans m.c m.il m.P fo (q5x m.c m.il (m.ps.map PB.h) fo lim):=by
 unfold q5x
 rw[h.arg hf hfo hl,if_neg (by simp)]
 unfold qll
 have h1:=qnx (rc:=rcC m.P.length) (c:=m.c) (P:=m.P) (fo:=fo) (lim:=lim) (q1n m.P (q7G m.c m.il m.P)+1) (q7G m.c m.il m.P) [] ss0 rfl
 have h2:=qnY (rc:=rcC m.P.length) (c:=m.c) (P:=m.P) (fo:=fo) (lim:=lim) h.noal hfo (q1n m.P (q7G m.c m.il m.P)+1) (q7G m.c m.il m.P) [] ss0 h.g0 (Nat.lt_succ_self _)
 have h3:=q7h (rc:=rcC m.P.length) (c:=m.c) (P:=m.P) (fo:=fo) (lim:=lim) (n:=q1n m.P (q7G m.c m.il m.P)+1) (s:=q7G m.c m.il m.P) (l:= []) (x:=ss0) rfl rfl
 dsimp only
 generalize q7L (rcC m.P.length) m.c m.P fo lim (q1n m.P (q7G m.c m.il m.P)+1) (q7G m.c m.il m.P) [] ss0=R at*
 cases hm:R.many with
 |true=>exact⟨.inr ⟨rfl,rfl⟩,fun _=>rfl,fun h=>absurd h (by simp),fun h=>absurd h (by simp)⟩
 |false=>
  refine⟨.inl rfl,h3,fun _ hr=>h1 hr,fun _ hr=>h2 ?_⟩
  unfold SS.stop
  have hr':R.racy=false:=hr
  rw[hr',hm]
  rfl
theorem qex.len{c:Cfg}{P:List (List Ins)}{fo:List Int}(hna:qfn P)(hfo:∀k∈fo,3≤k∧k≤6){s s':GS}{l l':List ChM}(h:qex c P fo s l s' l'):GOk c P s→l.length≤s.n→GOk c P s'∧l'.length≤s'.n∧s'.n+q1n P s'≤s.n+q1n P s:=by
 induction h with
 |done h=>exact fun hG hl=>⟨hG,hl,Nat.le_refl _⟩
 | @loc s s' l l' t ht hd ha _ ih=>
  intro hG hl
  obtain⟨g1,g2, -⟩:=qg3 (t:=t) hna 64 s l hG
  obtain⟨i1,i2,i3⟩:=ih g1 (qiM hna t 64 s l hG hl)
  exact⟨i1,i2,by omega⟩
 | @step s s' l l' t k ht hd ha hk _ ih=>
  intro hG hl
  obtain⟨g1,g2, -⟩:=qg3 (t:=t) hna 64 s l hG
  have hn:=qiM hna t 64 s l hG hl
  obtain⟨i,hi⟩:=qh2 g1 ha
  obtain⟨-,m1,m2,m3,m4,m5⟩:=q3Z g1 hna hi (k:=k) (by
   rcases qag hfo hk with hk|⟨j,hj,h7,hk⟩
   ·exact .inl hk
   ·rw[hi] at hj
    obtain rfl:=Option.some.inj hj
    exact .inr ⟨h7,hk⟩)
  obtain⟨i1,i2,i3⟩:=ih m1 (by rw[List.length_append,List.length_singleton];omega)
  exact⟨i1,i2,by omega⟩
open Go
def bcS(f:Nat→Nat):Nat→Nat
 |0=>1
 |b+1=>f (b+1)+bcS f b
def bc:Nat→Nat→Nat
 |0=>fun _=>1
 |a+1=>bcS (bc a)
abbrev qqI:Ins:=⟨13,0,0,0,0⟩
abbrev qqH:Ins:=⟨12,1,0,0,1⟩
def qqK(n m:Nat):List (List Ins):= [List.replicate n qqI,List.replicate m qqH]
structure Two(c:Cfg)(n m:Nat)(s:GS)(i j:Nat):Prop where
 G:GOk c (qqK n m) s
 T:∃a b:Thr,s.T= [a,b]∧a.pc=i∧b.pc=j∧a.rg.r0=0∧b.rg.r0=0∧a.dn=decide (i=n)∧b.dn=decide (j=m)
 E:∀e∈s.E,(e.k=1∨e.k=2)∧e.w=e.t
theorem RdE.conv{α β:Type}{enc:α→List Value}{enc2:β→List Value}{f:α→β}{sz:Nat}{W0:World}{own:Own}{a:Option Addr}{l:List α}(h:RdE enc sz W0 own a l)(he:∀x∈l,enc2 (f x)=enc x):RdE enc2 sz W0 own a (l.map f):=by
 refine⟨fun hn=>h.isS (fun e=>hn (by rw[e];rfl)),fun x hx=> ?_,fun{j k x v} hx hv=> ?_⟩
 ·obtain⟨y,hy,rfl⟩:=List.mem_map.1 hx
  rw[he y hy]
  exact h.wid y hy
 ·rw[List.getElem?_map] at hx
  cases hy:l[j]? with
  |none=>rw[hy] at hx;cases hx
  |some y=>
   rw[hy] at hx
   obtain rfl:=Option.some.inj hx
   rw[he y (List.mem_of_getElem? hy)] at hv
   exact h.cell hy hv
abbrev chH(x:ChM):CH:=⟨x.t,x.f,none,[],0⟩
theorem qqs{l:List ChM}(h:∀x∈l,x.ad= []):(l.map chH).map CH.m=l:=by
 rw[List.map_map]
 conv=>rhs;rw[←List.map_id l]
 refine List.map_congr_left fun x hx=> ?_
 have:=h x hx
 obtain⟨t,f,ad⟩:=x
 dsimp only at this
 subst this
 rfl
section
variable{W0:World}{own:Own}{m:MS}{ca:Option Addr}{cc:Nat}{l:List ChM}
theorem qp7(h:m.cl) [e:qt own m.O](hC:RdE q8x 3 W0 own ca l)(hA:∀x∈l,x.ad= [])(hcl:l.length≤5000):
  q0E Tryz.prog W0 19 [qi0 m.c m.ia m.il.length m.ic m.pa m.ps.length m.pc m.ka 0 m.kc, .slice ca l.length cc] own fun v own'=>
   ∃y:RG,(v= .tuple #[y.v (qnA m.c m.il (m.ps.map PB.h) l).1, .int .i64 (qnA m.c m.il (m.ps.map PB.h) l).2.1, .int .i64 (qnA m.c m.il (m.ps.map PB.h) l).2.2]∧y.ok W0 (qnA m.c m.il (m.ps.map PB.h) l).1)∧Ent W0 own' (y.D++own):=by
 have:=qp8 (ks:= []) (c:=m.c) (ic:=m.ic) (pc:=m.pc) (ka:=m.ka) (kc:=m.kc) (cc:=cc) (cl:=l.map chH) (h.ri.up (W0:=W0) (own:=own)) h.il5 h.ilu h.rp.up (fun x hx=>(h.rq x hx).up) RdE.nil (Nat.zero_le _) (hC.conv (enc2:=CH.enc) (f:=chH) fun _ _=>rfl) (fun x hx=>by
  obtain⟨y, -,rfl⟩:=List.mem_map.1 hx
  exact⟨RdE.nil,Nat.zero_le _,fun _ h=>(by cases h)⟩) (by rw[List.length_map];exact hcl)
 rw[qqs hA,List.length_map,List.length_map] at this
 exact this
theorem qpx{s:GS}{r:RG}(ha:r.at W0 s own)(hz:SzG s)(N:Nat):qD Tryz.prog W0 20 [.slice r.ea r.L.length r.ec, .int .i64 N] own (.agg (Ord.encRc (Ord.frR (s.E.map evH) N)).toArray):=by
 have:=Ord.sp_rfirst (cap:=r.ec) ha.e (fun y hy=>⟨(ha.ev y hy).1,(ha.ev y hy).2,by have:=(hz.ev y.m (by rw[←ha.em];exact List.mem_map_of_mem hy)).1;exact Nat.le_trans this (by decide),by have:=(hz.ev y.m (by rw[←ha.em];exact List.mem_map_of_mem hy)).2;exact Nat.le_trans this (by decide)⟩) N
 rw[(qly ha.em).1] at this
 exact this
end
theorem qp1{m:MS}(h:m.cl){fo:List Int}(hfo:∀k∈fo,3≤k∧k≤6){s':GS}{l:List ChM}(hL:qex m.c m.P fo (q7G m.c m.il m.P) [] s' l):
  qnA m.c m.il (m.ps.map PB.h) l=(s',0,0)∧(∀x∈l,x.ad= [])∧l.length≤5000∧q6E s'=true∧SzG s':=by
 obtain⟨g,g1,g2,g3,g4⟩:=hL.runs h.noal hfo h.g0
 rw[List.nil_append] at g1
 subst g1
 obtain⟨i1,i2,i3⟩:=hL.len h.noal hfo h.g0 (Nat.zero_le _)
 have hml:=qhJ h.g0 h.pl16
 have hn0:(q7G m.c m.il m.P).n=0:=rfl
 refine⟨?_,g2,by omega,g3,i1.sz (by omega) h.pl16⟩
 unfold qnA
 rw[h.cs0,if_neg (by simp),g4 0]
 rfl
open Go
section
variable{W0:World}{own:Own}{la:Option Addr}{lc:Nat}{ls:List IH}
theorem qqe{m:MS}(hF:q0A W0)(hN:q1s W0 0 Ord.noneV)(h:m.cl) [e:qt own m.O]{fa:Option Addr}{fc:Nat}{fo:List Int}(hfo:RdE qM 1 W0 own fa fo)(lim:Int):
  q0E Tryz.prog W0 13 [qi0 m.c m.ia m.il.length m.ic m.pa m.ps.length m.pc m.ka 0 m.kc, .slice fa fo.length fc, .int .i64 lim] own fun v own'=>∃y:Option Addr×Nat×Own,
   (v= .tuple #[.agg #[.bool (q5x m.c m.il (m.ps.map PB.h) fo lim).1.racy, .slice y.1 (q5x m.c m.il (m.ps.map PB.h) fo lim).1.found.length y.2.1, .int .i64 (q5x m.c m.il (m.ps.map PB.h) fo lim).1.runs], .int .i64 (q5x m.c m.il (m.ps.map PB.h) fo lim).2]∧RdE q8x 3 W0 y.2.2 y.1 (q5x m.c m.il (m.ps.map PB.h) fo lim).1.found)∧Ent W0 own' (y.2.2++own):=by
 have:=qch (ks:= []) (c:=m.c) (ic:=m.ic) (pc:=m.pc) (ka:=m.ka) (kc:=m.kc) (fc:=fc) hF hN (h.ri.up (W0:=W0) (own:=own)) h.il5 h.ilu h.rp.up (by have:=h.pl;rw[List.length_map];omega) (fun x hx=>(h.rq x hx).up) hfo lim
 rw[List.length_map] at this
 exact this
theorem qoh(hF:q0A W0)(hN:q1s W0 0 Ord.noneV)(w o:Int)(hL:RdE IH.enc 1 W0 own la ls)(hll:ls.length≤17592186043904)(hQ:∀h∈ls,RdE qM 1 W0 own h.a h.l∧h.l.length≤17592186043904):
  qD Tryz.prog W0 5 [.int .i64 w, .int .i64 o, .slice la ls.length lc] own (.bool true):=by
 refine qe (qa qj qml (by simp[q9]) ?_)
 have haw:=fun own=>qkm (W0:=W0) (own:=own) hF hN
 have hlo:=fun(own':Own) [qt own' own]=>qpv (lc:=lc) (own:=own') hL.up hll (fun h hh=>(hQ h hh).2)
 repeat'((try(conv=>whnf));first|((with_reducible show qf _ _ _ _ _ _);first|((refine qm (hlo _) Ent.refl ?_ ?_ (fun z v hv=> ?_);(exact rfl);(exact rfl);(apply Stop.h)))))
 obtain⟨rfl,hz⟩:=hv
 refine Stop.mk ?_
 cases z with
 |true=>
  repeat'((try(conv=>whnf));first|(refine fE ?_)|((with_reducible show qf _ _ _ _ _ _);first|((refine qh (haw _) ?_ ?_ ?_;(exact rfl);exact rfl))))
  all_goals exact⟨rfl,(eC)⟩
 |false=>
  obtain⟨hl3,hl24⟩:=hz rfl
  have hcl:=fun(own':Own) [qt own' own]=>qoD (lc:=lc) (own:=own') w o hL.up hl3 (fun h hh=>⟨(hQ h hh).1.up,hl24 h hh⟩)
  repeat'((try(conv=>whnf));first|(refine fD ?_)|((with_reducible show qf _ _ _ _ _ _);first|((refine qm (hcl _) Ent.refl ?_ ?_ (fun m v hv=> ?_);(exact rfl);(exact rfl);(apply Stop.h)))))
  obtain⟨rfl,hm, -⟩:=hv
  refine Stop.mk ?_
  have hA:=hm.ans (fo:= [5]) (lim:=150) (by simp) (by simp) (by omega)
  have hex:=fun(own':Own) [qt own' m.O] (fa:Option Addr) (hfo:RdE qM 1 W0 own' fa [5])=>qqe (own:=own') (fc:=1) hF hN hm hfo 150
  have hPl:m.P.length=m.ps.length:=by simp
  generalize q5x m.c m.il (m.ps.map PB.h) [5] 150=R at*
  obtain⟨⟨runs,racy,many,found⟩,re⟩:=R
  obtain⟨hA1,hA2,hA3,hA4⟩:=hA
  dsimp only at hA1 hA2 hA3 hex
  rw[hPl] at hA3
  clear hA4
  repeat'((try(conv=>whnf));first|(refine qc (fun b7 h7=> ?_);(apply Stop.h)))
  refine Stop.mk ?_
  repeat'((try(conv=>whnf));first|(refine qc (fun b23 h23=> ?_);(apply Stop.h))|(refine fL ?_)|(refine fM ?_))
  refine Stop.mk ?_
  repeat'((try(conv=>whnf));first|((with_reducible show qf _ _ _ _ _ _);first|((refine qm (hex _ (some ⟨b23,0,none⟩) (q4E (by(repeat(first|exact List.Mem.head _|apply List.Mem.tail))) (fun _ _=>rfl) rfl)) Ent.refl ?_ ?_ (fun y v hv=> ?_);(exact rfl);(exact rfl);(apply Stop.h)))))
  obtain⟨rfl,hy⟩:=hv
  obtain⟨ya,yc,yD⟩:=y
  dsimp only at hy
  refine Stop.mk ?_
  repeat'((try(conv=>whnf));first|(refine qc (fun b8 h8=> ?_);(apply Stop.h))|(refine fO ?_))
  refine Stop.mk ?_
  by_cases he:re=0
  ·cases racy with
   |false=>
    obtain rfl:found= []:=hA2 rfl
    repeat'((try(conv=>whnf));first|(refine fH ?_)|(refine fI ?_)|(refine fE ?_)|(refine fJ ?_)|(refine fK ?_)|((with_reducible show qf _ _ _ _ _ _);first|((refine qh (haw _) ?_ ?_ ?_;(exact rfl);exact rfl)))|(refine fA ?_)|(refine fM ?_))
    all_goals exact⟨rfl,(eC)⟩
   |true=>
    obtain⟨s',hLf,hrc⟩:=hA3 he rfl
    obtain⟨ho,had,hln,hdn,hz⟩:=qp1 hm (by simp) hLf
    have hrr:=fun(own':Own) [qt own' m.O] [qt own' yD]=>qp7 (own:=own') (cc:=yc) hm (hy.up) had hln
    rw[ho] at hrr
    dsimp only at hrr
    subst he
    clear hA1 hA2 hA3 ho
    repeat'((try(conv=>whnf));first|(refine fH ?_)|(refine fD ?_)|((with_reducible show qf _ _ _ _ _ _);first|((refine qm (hrr _) Ent.refl ?_ ?_ (fun r v hv=> ?_);(exact rfl);(exact rfl);(apply Stop.h))))|(refine fA ?_)|(refine fL ?_)|(refine fM ?_))
    obtain⟨rfl,hr⟩:=hv
    refine Stop.mk ?_
    have hfs:=fun(own':Own) (e:qt own' r.D)=>qpx (own:=own') (hr.at (e.h W0)) hz m.ps.length
    have hrc':0≤(Ord.frR (s'.E.map evH) m.ps.length).2.1:=by rw[qjI] at hrc;exact of_decide_eq_true hrc
    generalize Ord.frR (s'.E.map evH) m.ps.length=fr at*
    obtain⟨f1,f2,f3⟩:=fr
    dsimp only at hrc' hfs
    have hf:¬f2<0:=by omega
    repeat'((try(conv=>whnf));first|(refine fH ?_)|(refine fG ?_)|(refine qc (fun bg hbg=> ?_))|((with_reducible show qf _ _ _ _ _ _);first|((refine qh (hfs _ inferInstance) ?_ ?_ ?_;(exact rfl);exact rfl)))|(refine fO ?_)|(refine fA ?_)|(refine fM ?_))
    have hT:RdE Thr.enc 11 W0 r.D r.ta s'.T:=(hr.at Ent.refl).t
    refine q1N (σ:=Nat) (fun i=> [(13, .int .i64 i)]) (fun i=>i≤s'.T.length) (fun i=>s'.T.length-i) 0 (Nat.zero_le _) (eF) rfl ?_
    intro i junk hi
    by_cases hlt:i<s'.T.length
    ·obtain⟨x,hx⟩:∃x,s'.T[i]? =some x:=⟨_,List.getElem?_eq_getElem hlt⟩
     have hTl:=hz.t
     have hxd:x.dn=true:=List.all_eq_true.1 hdn x (List.mem_of_getElem? hx)
     have hlt':(i:Int)<s'.T.length:=by omega
     obtain⟨xp,xr,xo,xd⟩:=x
     dsimp only at hxd
     subst hxd
     repeat'((try(conv=>whnf));first|(refine fD ?_)|(refine fF ?_)|((with_reducible show Ld _ _ _ _);first|(refine qgp hT hx rfl ?_))|((with_reducible show IxS _ _ _ _ _);first|((refine ixE hT hx ?_ ?_;(first|rfl|omega))))|(refine fB ?_)|(refine fA ?_))
     all_goals exact⟨i+1,hlt,(by show s'.T.length-(i+1)<s'.T.length-i;omega),(eF),Ent.refl⟩
    ·have hlt':¬(i:Int)<s'.T.length:=by omega
     repeat'((try(conv=>whnf));first|(refine fG ?_)|((with_reducible show qf _ _ _ _ _ _);first|((refine qh (haw _) ?_ ?_ ?_;(exact rfl);exact rfl)))|(refine fA ?_))
     all_goals exact⟨rfl,(eC)⟩
  ·have h80:re=80:=by omega
   have hss:=(hA1.resolve_left he).2
   simp only[ss0,SS.mk.injEq] at hss
   obtain⟨rfl,rfl,rfl,rfl⟩:=hss
   clear hA1 hA2 hA3
   subst h80
   repeat'((try(conv=>whnf));first|(refine fH ?_)|(refine fI ?_)|(refine fE ?_)|((with_reducible show qf _ _ _ _ _ _);first|((refine qh (haw _) ?_ ?_ ?_;(exact rfl);exact rfl)))|(refine fA ?_)|(refine fM ?_))
   all_goals exact⟨rfl,(eC)⟩
end
open Go Go.ChangeShapes Go.WideShapes Go.ChangeAt Go.RowKit
theorem qor{W:World}(h:laidMetH Tryz.prog [("strongtx/tdrf.none",Rows.laid_strongtx_tdrf_none),("strongtx/isa.forms",Rows.laid_strongtx_isa_forms)] W):q0A W:=
 qot (d:=Rows.laid_strongtx_isa_forms) (g:=2) (t:=240) (cs:=qjp) (by kernel_rfl) h (List.Mem.tail _ (List.Mem.head _)) (by kernel_rfl) (by kernel_rfl) (by kernel_rfl) (by kernel_rfl) (by simp[qjp])
theorem qpn{W:World}(h:laidMetH Tryz.prog [("strongtx/tdrf.none",Rows.laid_strongtx_tdrf_none),("strongtx/isa.forms",Rows.laid_strongtx_isa_forms)] W):q1s W 0 Ord.noneV:=
 qot (d:=Rows.laid_strongtx_tdrf_none) (g:=0) (t:=56) (cs:=Ord.noneV) (by kernel_rfl) h (List.Mem.head _) (by kernel_rfl) (by kernel_rfl) (by kernel_rfl) (by kernel_rfl) (by simp[Ord.noneV])
end Go.Proofs.YtkieffpjjfebjaaGreatDoor
