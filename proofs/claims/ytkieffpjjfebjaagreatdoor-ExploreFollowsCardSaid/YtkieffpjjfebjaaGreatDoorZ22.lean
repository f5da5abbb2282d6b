/- What the laws share, part 22. No condition. -/
import Derived.Test.YtkieffpjjfebjaaGreatDoorZ21
set_option maxHeartbeats 16000000
set_option maxRecDepth 10000
namespace Go.Proofs.YtkieffpjjfebjaaGreatDoor
open Go
theorem qi2{α:Type}{l:List (List α)}{t:Nat}(ht:t<l.length)(a w:List α):(l.set t (l.getD t []++a)).set t ((l.set t (l.getD t []++a)).getD t []++w)=l.set t (l.getD t []++(a++w)):=by
 have e:(l.set t (l.getD t []++a)).getD t []=l.getD t []++a:=by simp[List.getD,ht]
 rw[e,List.set_set,List.append_assoc]
theorem qjA{O:List (List ObM)}{t:Nat}{a:List ObM}(h:∀l∈O,l.length≤500000)(ha:a.length≤400000):∀l∈O.set t (O.getD t []++a),l.length≤1000000:=fun l hl=>by
 rcases List.mem_or_eq_of_mem_set hl with hl|rfl
 ·have:=h l hl;omega
 ·rw[List.length_append,List.getD_eq_getElem?_getD]
  cases hO:O[t]? with
  |none=>simp;omega
  |some y=>have:=h y (List.mem_of_getElem? hO);simp;omega
theorem qjj{W0:World}{e m b:Nat×(Obj→Prop)}{A Z:Own}:Ent W0 (e::(A++(m::(b::Z)))) ([b]++((e::(A++(m::([]++([]++ [])))))++Z)):=
 qo []
section
variable{W0:World}{Kp K Y:Own}{g:GP}{c:Cfg}{ps:List PH}{s:GS}
theorem qfI(hF:q0A W0){t:Nat}{th:Thr}{ph:PH}(hT:qk7 c ps s t th ph)(h:g.ok W0 Kp ps s)(hv:g.ev W0 Y)(hp:qx ph.p=(0,0)){x0:Ins}(hx0:ph.p[th.pc]? =some x0)(h7:x0.op=7)(htk:s.tk.length=(qy c).toNat)(f:Int){aa:Option Addr}{ad:List Int}{ac:Nat}(hA:RdE qM 1 W0 K aa ad)(hal:ad.length≤ac)(had:∀a∈ad,a≤9223372036854775807)(q:Own) [ek:qt q Kp] [ek2:qt q K]:
  q0E Tryz.prog W0 65 [.pointer (some ⟨g.gb,0,none⟩),chV t f aa ad.length ac] (g.O c ps.length s++q) fun v own'=>
   ((v= .bool false∧txM c ph.p s th t f ad=none)∧Ent W0 own' (g.O c ps.length s++q))∨
   ∃s':GS×GP,(v= .bool true∧txM c ph.p s th t f ad=some s'.1∧s'.2.ok W0 Kp ps s'.1∧s'.2.ev W0 Y∧s'.2.gb=g.gb)∧Ent W0 own' (s'.2.O c ps.length s'.1++q):=by
 have hth:=hT.hth
 have htl:=(List.getElem?_eq_some_iff.1 hth).1
 have htO:t<s.O.length:=by rw[hT.tl];exact htl
 have hTR:=h.t.rd (W0:=W0)
 have hpl:=q6A hp
 have hcm:=q7X hx0
 rw[if_pos ⟨by rw[hp],h7⟩] at hcm
 have hend:=q3G hp hx0 h7
 have hpcl:=(List.getElem?_eq_some_iff.1 hx0).1
 generalize he:q40 ph.p th.pc=e at hcm
 obtain⟨e',he',hke,hel, -⟩:=hend
 have hee:e'=e:=by rw[←he',he]
 subst hee
 refine qa qj q4e (by simp[q0x]) ?_
 repeat'((try(conv=>whnf));first|(refine qc (fun b3 h3=> ?_);(apply Stop.h)))
 refine Stop.mk ?_
 repeat'((try(conv=>whnf));first|((with_reducible show Ld _ _ _ _);first|(refine q1M hTR hth rfl ?_))|((with_reducible show IxS _ _ _ _ _);first|((refine ixE hTR hth ?_ ?_;(first|rfl|omega))))|(refine fA ?_))
 refine q4H (σ:=GS×GP×Thr) 75557863725914322894992 (fun _=> []) (fun y=> [(b3,fun o=>o=Obj.cells #[.int .i64 t, .int .i64 f, .slice aa ad.length ac] 79 (0,0))]++(y.2.1.O c ps.length y.1++q))
  (fun y=>y.2.1.ok W0 Kp ps y.1∧y.2.1.ev W0 Y∧y.2.1.gb=g.gb∧y.2.1.ta=g.ta∧y.1.T[t]? =some y.2.2∧(t<y.1.O.length∧∀l∈y.1.O,l.length≤1000000)∧okU y.2.2.oc∧
   txM c ph.p s th t f ad=some {y.1 with T:=y.1.T.set t ⟨e'+1,y.2.2.rg,y.2.2.oc,decide (e'+1=ph.p.length)⟩,O:=y.1.O.set t (y.1.O.getD t []++ [⟨th.pc,3,y.2.2.oc⟩])}) rfl ?_ ?_
 ·by_cases hf:f=0
  ·subst hf
   have hcl:=fun(own':Own) [qt own' g.dD] [q3X g.mb (q70 (mpV g.ml)) own']=>q66 (own:=own') (dc:=g.dc) (mb:=g.mb) (ml:=g.ml) (RdE.up (h.d.rd (W0:=W0))) (by have:=hT.dl;have:=(q1R hT.c0).1;unfold okW at this;omega)
   repeat'((try(conv=>whnf));first|(refine fE ?_)|(refine fA ?_))
   refine q4H (σ:=TxG) 549747425408 (fun x=> [(7, .pointer (some ⟨x.xb,0,none⟩))]) (fun x=> [(b3,fun o=>o=Obj.cells #[.int .i64 t, .int .i64 0, .slice aa ad.length ac] 79 (0,0))]++(x.O c (⟨s.d,s.tk,th,[],[],[],ad⟩:BM) 0++(g.O c ps.length s++q))) (fun x=>x.ok W0 K (⟨s.d,s.tk,th,[],[],[],ad⟩:BM)) rfl ?_ ?_
   ·repeat'((try(conv=>whnf));first|((with_reducible show LdN _ _ _ _ _);first|(refine q2e hTR hth rfl ?_))|((with_reducible show qf _ _ _ _ _ _);first|((refine qZ (hcl _) ?_ ?_ (fun y v hv=> ?_);(exact rfl);(exact rfl);(obtain⟨⟨a1,c1,D1⟩,mb'⟩:=y;obtain⟨rfl,hB⟩:=hv;dsimp only at hB))))|(refine fA ?_)|(refine fQ ?_)|(refine qc (fun bk hbk=> ?_))|(refine q4T.mk ?_ ?_))
    all_goals exact⟨⟨_,mb',g.ml,a1,c1,D1,aa,ac,none,0,[],none,0,[],none,0,[]⟩,⟨hB,h.m,hA,hal,qr.nil,qr.nil,qr.nil⟩,(eF),qjj⟩
   ·rintro x junk hxok
    dsimp only at hxok ⊢
    have hmem:=List.mem_of_getElem? hT.hph
    have hph:=hT.hph
    have hKK:=h.k
    have hBI:BI c ⟨s.d,s.tk,{th with pc:=th.pc+1},[],[],[],ad⟩:=⟨hT.dl,hT.dr,htk,hT.rg,Nat.zero_le _,Nat.zero_le _,Nat.zero_le _,fun _ h=>(by cases h),fun _ h=>(by cases h),had⟩
    have hrun:=qjT (Kp:=Kp) (pcap:=ph.cap) hxok hT.c0 hp hx0 h7 hBI (h.kp ph hmem) ([(b3,fun o=>o=Obj.cells #[.int .i64 t, .int .i64 0, .slice aa ad.length ac] 79 (0,0))]++(g.O c ps.length s++q))
    have hrok:=qdO hp hx0 h7 (c:=c) ph.p.length ⟨s.d,s.tk,{th with pc:=th.pc+1},[],[],[],ad⟩ (Nat.lt_succ_self _) (by rw[he];exact hke) hBI
    rw[he] at hrok
    have htx:txM c ph.p s th t 0 ad=match q5e c ph.p ph.p.length ⟨s.d,s.tk,{th with pc:=th.pc+1},[],[],[],ad⟩ with
     |(b,o)=>if o= -1∨b.ad≠ [] then none
      else if o=1 then some (((s.mem b.d b.tk).ev [⟨s.n,t,3,0,[],[]⟩,⟨s.n,t,4,0,b.r,b.w⟩]).fin t ⟨e'+1,b.t.rg,1,decide (e'+1=ph.p.length)⟩ (b.o++ [⟨th.pc,3,1⟩]))
      else some ((s.ev [⟨s.n,t,3,0,[],[]⟩,⟨s.n,t,4,0,b.r,[]⟩]).fin t ⟨e'+1,th.rg,o,decide (e'+1=ph.p.length)⟩ [⟨th.pc,3,o⟩]):=by
     unfold txM;rw[if_neg (by simp),he]
    rw[htx]
    clear htx
    dsimp only at hrun
    generalize q5e c ph.p ph.p.length ⟨s.d,s.tk,{th with pc:=th.pc+1},[],[],[],ad⟩=z at*
    obtain⟨zb,zo⟩:=z
    dsimp only at hrun hrok ⊢
    by_cases hz:zo=1
    ·subst hz
     obtain⟨hbi, -,hpce⟩:=hrok (by decide)
     have hol:=hbi.ol
     have hcmx:=fun(x1:TxG) (hok1:x1.ok W0 K zb)=>qcl (c:=c) h hv hth htO hT.ob hT.el hok1 (by omega) ([(b3,fun o=>o=Obj.cells #[.int .i64 t, .int .i64 0, .slice aa ad.length ac] 79 (0,0))]++q)
     have hth1:(s.T.set t {th with rg:=zb.t.rg})[t]? =some {th with rg:=zb.t.rg}:=List.getElem?_set_self htl
     repeat'((try(conv=>whnf));first|(refine fE ?_)|(refine fD ?_)|(apply q5Q (enc:=Thr.enc) (T:=61) (j:=t) (k:=9) {th with rg:=zb.t.rg,oc:=1} hk1.t hth1;(exact rfl);(omega);(exact rfl);(exact rfl);intro D1 hb1)|((with_reducible show Ld _ _ _ _);first|(refine q1M hKK hph rfl ?_))|((with_reducible show IxS _ _ _ _ _);first|((refine ixE hKK hph ?_ ?_;(first|rfl|omega))))|((with_reducible show qf _ _ _ _ _ _);first|((refine q3r hrun ?_ ?_ ?_ (fun v hv=> ?_) (fun x1 v hv=> ?_);(exact Ent.of_perm (List.perm_append_comm_assoc _ _ _));(exact rfl);(exact rfl);(obtain⟨rfl,hv⟩:=hv);rotate_left;(obtain⟨rfl,hz1,hz2,hok1,hxb1⟩:=hv);(rw[←hxb1])))|((refine qm (hcmx x1 hok1) ?_ ?_ ?_ (fun g1 v hg1=> ?_);(exact Ent.of_perm (List.Perm.append_left _ (List.perm_append_comm_assoc _ _ _)));(exact rfl);(exact rfl);(obtain⟨hk1,hv1,hgb1,hta1⟩:=hg1);(rw[←hta1]))))|(refine fA ?_))
     ·rw[if_neg (fun h=>h.elim hz1 (fun h=>h hz2)),if_pos rfl]
      refine⟨({((({s with d:=zb.d,tk:=zb.tk,T:=s.T.set t {th with rg:=zb.t.rg},O:=s.O.set t (s.O.getD t []++zb.o)}:GS).ev [⟨s.n,t,3,0,[],[]⟩]).ev [⟨s.n,t,4,0,zb.r,zb.w⟩]) with T:=(s.T.set t {th with rg:=zb.t.rg}).set t {th with rg:=zb.t.rg,oc:=1}},{g1 with tD:=D1},{th with rg:=zb.t.rg,oc:=1}),⟨⟨hk1.d,hk1.m,hk1.k,hk1.kp,hb1,hk1.e,hk1.em,hk1.o,hk1.os,hk1.ol⟩,hv1,hgb1,rfl,List.getElem?_set_self (by rw[List.length_set];exact htl),⟨by simpa [GS.ev] using htO,?_⟩,(show okU 1 from ⟨by decide,by decide⟩),?_⟩,trivial,?_⟩
      ·exact fun l hl=>qjA hT.ob (a:=zb.o) (by omega) l hl
      ·simp only[GS.fin,GS.ev,GS.mem,List.set_set,qi2 htO,List.append_assoc,List.cons_append,List.nil_append]
      ·dsimp only[GP.O,GP.cells,GS.ev]
       simp only[List.length_set]
       exact Ent.app (Ent.of_perm (List.perm_append_comm_assoc _ _ _))
     ·exact .inl ⟨⟨rfl,if_pos hv⟩,(eC)⟩
    ·have hcmx:=fun(x1:TxG) (hok1:x1.ok W0 K zb)=>qe2 (c:=c) (t:=t) h hv hT.el hok1 hz ([(b3,fun o=>o=Obj.cells #[.int .i64 t, .int .i64 0, .slice aa ad.length ac] 79 (0,0))]++q)
     repeat'((try(conv=>whnf));first|(refine fE ?_)|(refine fD ?_)|(apply q5Q (enc:=Thr.enc) (T:=61) (j:=t) (k:=9) {th with oc:=zo} hk1.t hth;(exact rfl);(omega);(exact rfl);(exact rfl);intro D1 hb1)|((with_reducible show Ld _ _ _ _);first|(refine q1M hKK hph rfl ?_))|((with_reducible show IxS _ _ _ _ _);first|((refine ixE hKK hph ?_ ?_;(first|rfl|omega))))|((with_reducible show qf _ _ _ _ _ _);first|((refine q3r hrun ?_ ?_ ?_ (fun v hv=> ?_) (fun x1 v hv=> ?_);(exact Ent.of_perm (List.perm_append_comm_assoc _ _ _));(exact rfl);(exact rfl);(obtain⟨rfl,hv⟩:=hv);rotate_left;(obtain⟨rfl,hz1,hz2,hok1,hxb1⟩:=hv);(rw[←hxb1])))|((refine qm (hcmx x1 hok1) ?_ ?_ ?_ (fun g1 v hg1=> ?_);(exact Ent.of_perm (List.Perm.append_left _ (List.perm_append_comm_assoc _ _ _)));(exact rfl);(exact rfl);(obtain⟨hk1,hv1,hgb1,hta1⟩:=hg1);(rw[←hta1]))))|(refine fA ?_))
     ·obtain⟨hbi,⟨hzo0,hzo1⟩, -⟩:=hrok hz1
      rw[if_neg (fun h=>h.elim hz1 (fun h=>h hz2)),if_neg hz]
      refine⟨({((s.ev [⟨s.n,t,3,0,[],[]⟩]).ev [⟨s.n,t,4,0,zb.r,[]⟩]) with T:=s.T.set t {th with oc:=zo}},{g1 with tD:=D1},{th with oc:=zo}),⟨⟨hk1.d,hk1.m,hk1.k,hk1.kp,hb1,hk1.e,hk1.em,hk1.o,hk1.os,hk1.ol⟩,hv1,hgb1,rfl,List.getElem?_set_self htl,⟨htO,fun l hl=>by have:=hT.ob l hl;omega⟩,(show okU zo from ⟨by omega,by omega⟩),?_⟩,trivial,?_⟩
      ·simp only[GS.fin,GS.ev,List.set_set,List.append_assoc,List.cons_append,List.nil_append]
      ·dsimp only[GP.O,GP.cells,GS.ev]
       simp only[List.length_set]
       exact Ent.app (Ent.of_perm (List.perm_append_comm_assoc _ _ _))
     ·exact .inl ⟨⟨rfl,if_pos hv⟩,(eC)⟩
  ·have htx:txM c ph.p s th t f ad=if(3≤f∧f≤6)∧ad= [] then some (s.fin t ⟨e'+1,th.rg,f,decide (e'+1=ph.p.length)⟩ [⟨th.pc,3,f⟩]) else none:=by
    unfold txM;rw[if_pos hf,he]
   rw[htx]
   clear htx
   by_cases hff:3≤f∧f≤6
   ·by_cases hal0:ad= []
    ·rw[if_pos ⟨hff,hal0⟩]
     have hl0:¬(0:Int)<ad.length:=by rw[hal0];simp
     have hq:f=3∨f=4∨f=5∨f=6:=by omega
     repeat'((try(conv=>whnf));first|(refine fF ?_)|(refine fG ?_)|(apply q5Q (enc:=Thr.enc) (T:=61) (j:=t) (k:=9) {th with oc:=f} h.t hth;(exact rfl);(omega);(exact rfl);(exact rfl);intro D1 hb1)|(refine fA ?_)|(apply q9q;(exact rfl);all_goals intro hc))
     all_goals first|(exfalso;omega)|skip
     all_goals
      refine⟨({s with T:=s.T.set t {th with oc:=f}},{g with tD:=D1},{th with oc:=f}),⟨⟨h.d,h.m,h.k,h.kp,hb1,h.e,h.em,h.o,h.os,h.ol⟩,hv,rfl,rfl,List.getElem?_set_self htl,⟨htO,fun l hl=>by have:=hT.ob l hl;omega⟩,(show okU f from ⟨by omega,by omega⟩),?_⟩,trivial,?_⟩
      ·simp only[GS.fin,List.set_set]
      ·dsimp only[GP.O,GP.cells]
       simp only[List.length_set]
       exact(eC)
    ·rw[if_neg (fun h=>hal0 h.2)]
     have hl0:(0:Int)<ad.length:=by
      have:ad.length≠0:=fun h=>hal0 (List.eq_nil_of_length_eq_zero h)
      omega
     have hq:f=3∨f=4∨f=5∨f=6:=by omega
     repeat'((try(conv=>whnf));first|(refine fF ?_)|(refine fG ?_)|(refine fA ?_)|(apply q9q;(exact rfl);all_goals intro hc))
     all_goals first|(exfalso;omega)|exact .inl ⟨⟨rfl,rfl⟩,(eC)⟩
   ·rw[if_neg (fun h=>hff h.1)]
    repeat'((try(conv=>whnf));first|(refine fG ?_)|(refine fA ?_))
    all_goals first|(exfalso;omega)|exact .inl ⟨⟨rfl,rfl⟩,(eC)⟩
 ·rintro⟨s1,g1,th1⟩ junk ⟨hk1,hv1,hgb1,hta1,hth1,⟨hO1,hO2⟩,hoc,hres⟩
  dsimp only at hk1 hv1 hgb1 hta1 hth1 hO1 hO2 hoc hres ⊢
  rw[hres]
  have htS1:t<g1.S.length:=by
   have h1:=congrArg List.length hk1.ol
   rw[List.length_map] at h1
   omega
  obtain⟨hoc0,hoc1⟩:=hoc
  have hob:=qG (E:= [(b3,fun o=>o=Obj.cells #[.int .i64 t, .int .i64 f, .slice aa ad.length ac] 79 (0,0))]) (q:=q) (q1O (c:=c) hk1 htS1 hO2 th.pc 3 th1.oc)
  rw[hgb1] at hob
  have hR1:RdE Thr.enc 11 W0 g1.tD g.ta s1.T:=hta1 ▸ (hk1.t.rd (W0:=W0))
  have hmem:=List.mem_of_getElem? hT.hph
  have hph:=hT.hph
  have hcmt:=fun(own':Own) [qt own' Kp]=>qdU (own:=own') (cap:=ph.cap) hF (RdE.up (h.kp ph hmem)) (by omega) th.pc
  rw[hcm] at hcmt
  have he1:((e'+1:Nat):Int)=(e':Int)+1:=by omega
  have hto:=fun(g2:GP) (h2:g2.ok W0 Kp ps {s1 with O:=s1.O.set t (s1.O.getD t []++ [⟨th.pc,3,th1.oc⟩])})=>qaB (c:=c) h2 hth1 hT.hph (e'+1) q
  rw[he1] at hto
  repeat'((try(conv=>whnf));first|(refine ldE (k:=9) (v:= .int .i64 th1.oc) (RdE.up hR1) hth1 ?_ rfl ?_;omega)|((with_reducible show Ld _ _ _ _);first|(refine q1M hk2k hph rfl ?_))|((with_reducible show IxS _ _ _ _ _);first|((refine ixE hk2k hph ?_ ?_;(first|rfl|omega))))|((with_reducible show qf _ _ _ _ _ _);first|((refine qm hob ?_ ?_ ?_ (fun g2 v hg2=> ?_);(exact(eC));(exact rfl);(exact rfl);(obtain⟨hk2,hg2,hl2⟩:=hg2);(have hgb2:g2.gb=g.gb:=by rw[hg2]);(have hk2k:=hk2.k);(rw[←hgb2])))|((refine qm (hto g2 hk2) ?_ ?_ ?_ (fun g3 v hg3=> ?_);(exact(eC));(exact rfl);(exact rfl))))|((with_reducible show q0b _ _ _ _ _ _);first|((refine qq (fun ex=>hcmt _) ?_ ?_ ?_;(exact rfl);(exact rfl))))|(refine fB ?_)|(refine fC ?_)|(refine fA ?_)|(refine q4T.mk ?_ ?_))
  all_goals exact .inr ⟨(_,g3),⟨rfl,rfl,hg3.1,GP.ev.of hv1 (by rw[hg3.2,hg2]) (by rw[hg3.2,hg2]),by rw[hg3.2]⟩,Ent.refl⟩
end
open Go
theorem qfS{p:List Ins}{k:Nat}(h:p[k]? =none):stB p (k+1)=stB p k:=by simp only[stB,h]
theorem q9a{p:List Ins}{k:Nat}(hk:stB p k<0):∀d:Nat,stB p (k+d)<0∨∃(b:Nat) (x:Ins),k≤b∧b<k+d∧stB p (k+d)=b∧p[b]? =some x∧x.op=7
 |0=> .inl hk
 |d+1=>by
  rw[←Nat.add_assoc]
  cases hx:p[k+d]? with
  |none=>
   rw[qfS hx]
   rcases q9a hk d with h|⟨b,x,h1,h2,h3⟩
   ·exact .inl h
   ·exact .inr ⟨b,x,h1,by omega,h3⟩
  |some y=>
   rw[q5m hx]
   unfold q16
   by_cases h7:y.op=7
   ·rw[if_pos h7]
    exact .inr ⟨k+d,y,by omega,by omega,rfl,hx,h7⟩
   ·rw[if_neg h7]
    by_cases h8:y.op=8
    ·rw[if_pos h8];exact .inl (by decide)
    ·rw[if_neg h8]
     rcases q9a hk d with h|⟨b,x,h1,h2,h3⟩
     ·exact .inl h
     ·exact .inr ⟨b,x,h1,by omega,h3⟩
theorem qbp{p:List Ins}(h:qx p=(0,0)){k:Nat}{x:Ins}(hx:p[k]? =some x)(ho:stB p k<0)(h7:x.op≠7){j:Nat}(hj:(j:Int)∈q5W p k x):k<j∧j≤p.length∧stB p j<0:=by
 obtain⟨j',hj',h1,h2,_,h4⟩:=qaM h hx _ hj
 obtain rfl:j=j':=by omega
 refine⟨h1,h2,?_⟩
 obtain⟨d,rfl⟩:∃d,j=k+d:=⟨j-k,by omega⟩
 rcases q9a ho d with h|⟨b,y,hb1,hb2,hb3,hb4,hb5⟩
 ·exact h
 ·exfalso
  have hbk:b≠k:=fun e=>by
   subst e
   rw[hx] at hb4
   exact h7 (Option.some.inj hb4 ▸ hb5)
  rcases h4 ho b y (by omega) hb4 hb5 with h5|h5
  ·omega
  ·have hi:=(qgb h h2).bb
   rw[hb3] at hi
   rcases hi with hi|⟨_,_,hi⟩
   ·omega
   ·rw[Int.toNat_natCast] at hi
    have:=(q5u (p.drop (k+d)) (k+d)).1
    omega
theorem qgx{p:List Ins}(h:qx p=(0,0)){k:Nat}{x:Ins}(hx:p[k]? =some x)(ho:stB p k<0):qv x=0∧((0≤x.op∧x.op≤7)∨x.op=12∨x.op=13∨x.op=16∨x.op=17):=by
 have hi:=q9v h hx
 have h18:=(q2l hi.1).1
 have h8:x.op≠8:=fun e=>by have:=hi.2.2.1 e;omega
 have h9:=hi.2.2.2.2
 refine⟨hi.1,?_⟩
 by_cases h10:x.op=9∨x.op=10∨x.op=11∨x.op=14∨x.op=15
 ·have:=h9 h10;omega
 ·omega
def qlk(c:Cfg)(e:EvM):Prop:=(0≤e.w∧e.w<c.words)∧(∀x∈e.r,0≤x∧x<c.words)∧(∀x∈e.wl,0≤x∧x<c.words)∧e.r.length≤1000∧e.wl.length≤1000
def EvB(c:Cfg)(E:List EvM):Prop:=(∀e∈E,qlk c e)∧(E= []∨(∃e,E= [e]∧e.k≠3)∨∃a b,E= [a,b]∧b.k=4∧b.t=a.t∧b.ev=a.ev)
def EvG(c:Cfg)(E:List EvM):Prop:=(∀e∈E,qlk c e)∧∀(i:Nat) (a:EvM),E[i]? =some a→a.k=3→∃b,E[i+1]? =some b∧b.k=4∧b.t=a.t∧b.ev=a.ev
theorem EvB.nil{c:Cfg}:EvB c []:=⟨fun _ h=>(by cases h), .inl rfl⟩
theorem EvB.len{c:Cfg}{E:List EvM}(h:EvB c E):E.length≤2:=by
 rcases h.2 with rfl|⟨e,rfl, -⟩|⟨a,b,rfl, -⟩ <;>simp
theorem EvB.pair{c:Cfg}{n t:Int}{r w:List Int}(hw:0<c.words)(h1:∀x∈r,0≤x∧x<c.words)(h2:∀x∈w,0≤x∧x<c.words)(h3:r.length≤1000)(h4:w.length≤1000):EvB c [⟨n,t,3,0,[],[]⟩,⟨n,t,4,0,r,w⟩]:=by
 refine⟨fun e he=> ?_, .inr (.inr ⟨_,_,rfl,rfl,rfl,rfl⟩)⟩
 rcases List.mem_cons.1 he with rfl|he
 ·exact⟨⟨Int.le_refl _,hw⟩,fun _ h=>(by cases h),fun _ h=>(by cases h),Nat.zero_le _,Nat.zero_le _⟩
 ·rw[List.mem_singleton.1 he]
  exact⟨⟨Int.le_refl _,hw⟩,h1,h2,h3,h4⟩
theorem EvG.app{c:Cfg}{E F:List EvM}(h:EvG c E)(h2:EvB c F):EvG c (E++F):=by
 refine⟨fun e he=>(List.mem_append.1 he).elim (h.1 e) (h2.1 e),fun i a hi hk=> ?_⟩
 by_cases hl:i<E.length
 ·rw[List.getElem?_append_left hl] at hi
  obtain⟨b,hb,h3⟩:=h.2 i a hi hk
  exact⟨b,by rw[List.getElem?_append_left (List.getElem?_eq_some_iff.1 hb).1];exact hb,h3⟩
 ·rw[List.getElem?_append_right (by omega)] at hi ⊢
  rw[show i+1-E.length=(i-E.length)+1 by omega]
  generalize i-E.length=j at*
  rcases h2.2 with rfl|⟨e,rfl,he⟩|⟨x,y,rfl,h3⟩
  ·cases hi
  ·match j,hi with
   |0,hi=>cases hi;exact absurd hk he
  ·match j,hi with
   |0,hi=>cases hi;exact⟨y,rfl,h3⟩
   |1,hi=>cases hi;rw[h3.1] at hk;exact absurd hk (by decide)
structure GOk(c:Cfg)(P:List (List Ins))(s:GS):Prop where
 c0:qL c=0
 pv:∀p∈P,qx p=(0,0)
 dl:(s.d.length:Int)=c.words
 dr:∀x∈s.d,okU x
 kl:s.tk.length=(qy c).toNat
 tl:s.T.length=P.length
 ol:s.O.length=P.length
 th:∀(t:Nat) (th:Thr) (p:List Ins),s.T[t]? =some th→P[t]? =some p→th.rg.ok∧th.pc≤p.length∧stB p th.pc<0∧th.dn=decide (th.pc=p.length)∧okU th.oc
 el:s.E.length≤2*s.n
 ev:EvG c s.E
 ob:∀l∈s.O,l.length≤70*s.n
theorem GOk.fin{c:Cfg}{P:List (List Ins)}{s s':GS}(h:GOk c P s){t:Nat}{p:List Ins}(hp:P[t]? =some p){th':Thr}{l:List ObM}{E:List EvM}{d:List Int}{tk:List Bool}(he:s'=(((s.mem d tk).ev E).fin t th' l))(hd:d.length=s.d.length)(hdr:∀x∈d,okU x)(htk:tk.length=s.tk.length)(hE:EvB c E)(hl:l.length≤70)
  (h1:th'.rg.ok) (h2:th'.pc≤p.length) (h3:stB p th'.pc<0) (h4:th'.dn=decide (th'.pc=p.length)) (h5:okU th'.oc):GOk c P {s' with n:=s.n+1}:=by
 subst he
 refine⟨h.c0,h.pv,by show(d.length:Int)=_;rw[hd];exact h.dl,hdr,by show tk.length=_;rw[htk];exact h.kl,by show(s.T.set t th').length=_;rw[List.length_set];exact h.tl,by show(s.O.set t _).length=_;rw[List.length_set];exact h.ol,fun u th q hth hq=> ?_,?_,h.ev.app hE,fun l' hl'=> ?_⟩
 ·replace hth:(s.T.set t th')[u]? =some th:=hth
  rw[List.getElem?_set] at hth
  split at hth
  ·rename_i e
   subst e
   rw[hp] at hq
   obtain rfl:=Option.some.inj hq
   split at hth
   ·obtain rfl:=Option.some.inj hth
    exact⟨h1,h2,h3,h4,h5⟩
   ·cases hth
  ·exact h.th u th q hth hq
 ·have:=h.el
  have:=hE.len
  show(s.E++E).length≤2*(s.n+1)
  rw[List.length_append];omega
 ·replace hl':l'∈s.O.set t (s.O.getD t []++l):=hl'
  show l'.length≤70*(s.n+1)
  rcases List.mem_or_eq_of_mem_set hl' with hl'|rfl
  ·have:=h.ob l' hl';omega
  ·rw[List.length_append,List.getD_eq_getElem?_getD]
   cases hO:s.O[t]? with
   |none=>simp;omega
   |some y=>have:=h.ob y (List.mem_of_getElem? hO);simp;omega
theorem qb4{s:GS}:s.ev []=s:=by unfold GS.ev;rw[List.append_nil]
theorem q4p{s:GS}:s.mem s.d s.tk=s:=rfl
theorem qgz{c:Cfg}{n t:Nat}{k a:Int}(hw:0<c.words)(h0:0≤a)(h1:a<c.words)(hk:k≠3):EvB c (plE c n t k a):=by
 have h1':∀x∈ [a],0≤x∧x<c.words:=fun x hx=>by rw[List.mem_singleton.1 hx];exact⟨h0,h1⟩
 have h0':∀x∈([]:List Int),0≤x∧x<c.words:=fun x hx=>by cases hx
 unfold plE
 split
 ·split
  ·exact EvB.pair hw h1' h0' (by simp) (by simp)
  ·exact EvB.pair hw h0' h1' (by simp) (by simp)
 ·refine⟨fun e he=> ?_, .inr (.inl ⟨_,rfl,hk⟩)⟩
  rw[List.mem_singleton.1 he]
  exact⟨⟨h0,h1⟩,h0',h0',Nat.zero_le _,Nat.zero_le _⟩
theorem qkO{c:Cfg}{P:List (List Ins)}{s s':GS}(h:GOk c P s){t:Nat}{th:Thr}{p:List Ins}(hth:s.T[t]? =some th)(hp:P[t]? =some p){x:Ins}(hx:p[th.pc]? =some x)(h7:x.op≠7){f:Int}(hs:sgM c p s th t f x=some s'):GOk c P {s' with n:=s.n+1}:=by
 obtain⟨hrg,hpc,hst,hdn,hoc⟩:=h.th t th p hth hp
 have hv:=h.pv p (List.mem_of_getElem? hp)
 obtain⟨hic,hop⟩:=qgx hv hx hst
 have hI:=(q2l hic).2.2.2.2.1
 unfold sgM at hs
 by_cases hpl:x.op=12∨x.op=13
 ·rw[if_pos hpl] at hs
  have hnx:=qbp hv hx hst h7 (j:=th.pc+1) (by unfold q5W;rw[if_neg (by omega),if_neg (by omega),if_neg (by omega)];simp)
  have hgo:∀(r:Rg) (E:List EvM) (d:List Int) (l:List ObM),s'=(((s.mem d s.tk).ev E).fin t (th.nxt p.length r) l)→r.ok→EvB c E→d.length=s.d.length→(∀x∈d,okU x)→l.length≤70→GOk c P {s' with n:=s.n+1}:=fun r E d l h6 h1 h2 h3 h4 h5=>
   h.fin hp h6 h3 h4 rfl h2 h5 h1 hnx.2.1 hnx.2.2 rfl hoc
  have hw0:0<c.words:=by have:=(q1R h.c0).1;unfold okW at this;omega
  have ha:=q9l (r:=th.rg) (b:=if x.op=12 then x.b else x.a) (imm:=x.imm)
  dsimp only at hs
  generalize adr th.rg (if x.op=12 then x.b else x.a) x.imm=z at*
  split at hs
  ·split at hs
   ·exact hgo th.rg [] s.d _ (by rw[qb4,q4p];exact(Option.some.inj hs).symm) hrg EvB.nil rfl h.dr (by simp)
   ·cases hs
  ·split at hs
   ·refine hgo _ [] s.d _ (by rw[qb4,q4p];exact(Option.some.inj hs).symm) ?_ EvB.nil rfl h.dr (by simp)
    split
    ·exact Rg.ok_set hrg ⟨by decide,by decide⟩
    ·exact hrg
   ·split at hs
    ·exact hgo _ _ s.d _ (by rw[q4p];exact(Option.some.inj hs).symm) (Rg.ok_set hrg (qdm h.dr _)) (qgz hw0 ha.1 (by omega) (by decide)) rfl h.dr (by simp)
    ·exact hgo _ _ _ _ (Option.some.inj hs).symm hrg (qgz hw0 ha.1 (by omega) (by decide)) (List.length_set ..) (q5M h.dr (hrg _)) (by simp)
 ·rw[if_neg hpl] at hs
  split at hs
  ·cases hs
  ·have haf:((q60 th x:Nat):Int)∈q5W p th.pc x:=by
    unfold q60 q5W
    by_cases h4:x.op=4
    ·rw[if_pos h4,if_pos (Or.inl h4),List.mem_singleton]
     have:=hI (.inl h4)
     omega
    ·rw[if_neg h4]
     by_cases h56:x.op=5∨x.op=6
     ·rw[if_pos h56]
      have:=hI (.inr h56)
      split
      ·simp;omega
      ·simp
     ·rw[if_neg h56,if_neg (by omega),if_neg (by omega)]
      simp
   have hnx:=qbp hv hx hst h7 haf
   refine h.fin (th':={q6a th x with dn:=decide ((q6a th x).pc=p.length)}) (l:=if x.op=16 then [⟨th.pc,6,0⟩] else []) (E:= []) (d:=s.d) (tk:=s.tk) hp (by rw[qb4,q4p];exact(Option.some.inj hs).symm) rfl h.dr rfl EvB.nil ?_ (qdw hrg) hnx.2.1 hnx.2.2 rfl hoc
   split <;>simp
theorem ql8{c:Cfg}{P:List (List Ins)}{s s':GS}(h:GOk c P s){t:Nat}{th:Thr}{p:List Ins}(hth:s.T[t]? =some th)(hp:P[t]? =some p){x:Ins}(hx:p[th.pc]? =some x)(h7:x.op=7){f:Int}{ad:List Int}(had:∀a∈ad,a≤9223372036854775807)(hs:txM c p s th t f ad=some s'):GOk c P {s' with n:=s.n+1}:=by
 obtain⟨hrg,hpc,hst,hdn,hoc⟩:=h.th t th p hth hp
 have hv:=h.pv p (List.mem_of_getElem? hp)
 obtain⟨e,he,hke,hel,_,hse,_⟩:=q3G hv hx h7
 unfold txM at hs
 rw[he] at hs
 split at hs
 ·split at hs
  ·rename_i hf
   exact h.fin (th':=⟨e+1,th.rg,f,decide (e+1=p.length)⟩) (l:= [⟨th.pc,3,f⟩]) (E:= []) (d:=s.d) (tk:=s.tk) hp (by rw[qb4,q4p];exact(Option.some.inj hs).symm) rfl h.dr rfl EvB.nil (by simp) hrg (by simp only;omega) (by simp only;omega) rfl ⟨by simp only;omega,by simp only;omega⟩
  ·cases hs
 ·have hBI:BI c ⟨s.d,s.tk,{th with pc:=th.pc+1},[],[],[],ad⟩:=⟨h.dl,h.dr,h.kl,hrg,Nat.zero_le _,Nat.zero_le _,Nat.zero_le _,fun _ h=>(by cases h),fun _ h=>(by cases h),had⟩
  have hrok:=qdO hv hx h7 (c:=c) p.length ⟨s.d,s.tk,{th with pc:=th.pc+1},[],[],[],ad⟩ (Nat.lt_succ_self _) (by rw[he];exact hke) hBI
  generalize q5e c p p.length ⟨s.d,s.tk,{th with pc:=th.pc+1},[],[],[],ad⟩=z at*
  obtain⟨zb,zo⟩:=z
  dsimp only at hs hrok
  split at hs
  ·cases hs
  ·rename_i hn
   obtain⟨hbi,⟨hz0,hz1⟩,hpce⟩:=hrok (fun e=>hn (.inl e))
   have hpl:=q6A hv
   have h1:=hbi.ol
   have hw0:0<c.words:=by have:=(q1R h.c0).1;unfold okW at this;omega
   have h2:=hbi.rl
   have h3:=hbi.wl
   split at hs
   ·exact h.fin hp (Option.some.inj hs).symm (by have:=h.dl;have:=hbi.dl;omega) hbi.dr (by rw[hbi.tl,h.kl]) (EvB.pair hw0 hbi.rr hbi.wr (by omega) (by omega)) (by simp;omega) hbi.rg (by simp only;omega) (by simp only;omega) rfl (show okU 1 from ⟨by decide,by decide⟩)
   ·exact h.fin (th':=⟨e+1,th.rg,zo,decide (e+1=p.length)⟩) (l:= [⟨th.pc,3,zo⟩]) (E:= [⟨s.n,t,3,0,[],[]⟩,⟨s.n,t,4,0,zb.r,[]⟩]) (d:=s.d) (tk:=s.tk) hp (by rw[q4p];exact(Option.some.inj hs).symm) rfl h.dr rfl (EvB.pair hw0 hbi.rr (fun _ h=>(by cases h)) (by omega) (Nat.zero_le _)) (by simp) hrg (by simp only;omega) (by simp only;omega) rfl ⟨by simp only;omega,by simp only;omega⟩
theorem qeY{c:Cfg}{P:List (List Ins)}{s:GS}(h:GOk c P s){ch:ChM}(had:∀a∈ch.ad,a≤9223372036854775807):GOk c P (doM c P s ch).2:=by
 unfold doM
 cases hs:chM c P s ch with
 |none=>exact h
 |some s'=>
  unfold chM at hs
  split at hs
  ·cases hs
  ·split at hs
   ·rename_i th p hth hp
    split at hs
    ·cases hs
    ·split at hs
     ·rename_i x hx
      split at hs
      ·exact ql8 h hth hp hx (by assumption) had hs
      ·split at hs
       ·exact qkO h hth hp hx (by assumption) hs
       ·cases hs
     ·cases hs
   ·cases hs
section
variable{W0:World}{Kp K Y:Own}{g:GP}{c:Cfg}{ps:List PH}{s:GS}
theorem q9V(h:g.ok W0 Kp ps s){t:Nat}{th:Thr}{ph:PH}{x:Ins}(hth:s.T[t]? =some th)(hph:ps[t]? =some ph)(hdn:th.dn=false)(hx:ph.p[th.pc]? =some x)(q:Own) [ek:qt q Kp]:
  qD Tryz.prog W0 31 [.pointer (some ⟨g.gb,0,none⟩), .int .i64 t] (g.O c ps.length s++q) (.tuple #[x.v, .bool true]):=by
 refine qe (qa qj q2L (by simp[q0g]) ?_)
 have hTR:=h.t.rd (W0:=W0)
 have hK:=h.k
 have hPR:=h.kp ph (List.mem_of_getElem? hph)
 have htl:=(List.getElem?_eq_some_iff.1 hth).1
 obtain⟨pc,rg,oc,dn⟩:=th
 dsimp only at hdn hx
 subst hdn
 repeat'((try(conv=>whnf));first|(refine fH ?_)|(refine fD ?_)|(refine fK ?_)|((with_reducible show Ld _ _ _ _);first|(refine q1M hTR hth rfl ?_)|(refine qgp hTR hth rfl ?_)|(refine q1M hK hph rfl ?_))|((with_reducible show IxS _ _ _ _ _);first|((refine ixE hTR hth ?_ ?_;(first|rfl|omega)))|((refine ixE hK hph ?_ ?_;(first|rfl|omega)))|((refine ixE hPR hx ?_ ?_;(first|rfl|omega))))|((with_reducible show LdN _ _ _ _ _);first|(refine q2e hPR hx rfl ?_))|(refine fA ?_)|(refine fL ?_)|(refine fM ?_)|(refine qc (fun bk hbk=> ?_)))
 all_goals exact⟨rfl,(eC)⟩
theorem q9U(h:g.ok W0 Kp ps s){t:Int}(ht:t<0∨(s.T.length:Int)≤t∨∃(j:Nat) (th:Thr),t=j∧s.T[j]? =some th∧th.dn=true)(q:Own):
  qD Tryz.prog W0 31 [.pointer (some ⟨g.gb,0,none⟩), .int .i64 t] (g.O c ps.length s++q) (.tuple #[(⟨0,0,0,0,0⟩:Ins).v, .bool false]):=by
 refine qe (qa qj q2L (by simp[q0g]) ?_)
 have hTR:=h.t.rd (W0:=W0)
 rcases ht with ht|ht|⟨j,th,rfl,hth,hdn⟩
 ·repeat'((try(conv=>whnf));first|(refine fH ?_)|(refine fI ?_)|(refine fE ?_)|(refine fJ ?_)|(refine fL ?_)|(refine fM ?_)|(refine qc (fun bk hbk=> ?_)))
  all_goals exact⟨rfl,(eC)⟩
 ·by_cases h0:t<0
  all_goals
   repeat'((try(conv=>whnf));first|(refine fH ?_)|(refine fI ?_)|(refine fE ?_)|(refine fJ ?_)|(refine fK ?_)|(refine fA ?_)|(refine fL ?_)|(refine fM ?_)|(refine qc (fun bk hbk=> ?_)))
   all_goals exact⟨rfl,(eC)⟩
 ·have htl:=(List.getElem?_eq_some_iff.1 hth).1
  obtain⟨pc,rg,oc,dn⟩:=th
  dsimp only at hdn
  subst hdn
  repeat'((try(conv=>whnf));first|(refine fH ?_)|(refine fE ?_)|(refine fK ?_)|((with_reducible show Ld _ _ _ _);first|(refine qgp hTR hth rfl ?_))|((with_reducible show IxS _ _ _ _ _);first|((refine ixE hTR hth ?_ ?_;(first|rfl|omega))))|(refine fA ?_)|(refine fL ?_)|(refine fM ?_)|(refine qc (fun bk hbk=> ?_)))
  all_goals exact⟨rfl,(eC)⟩
theorem qlK{p:List Ins}{th:Thr}{t:Nat}{f:Int}{ad:List Int}{s':GS}(h:txM c p s th t f ad=some s'):s'.n=s.n:=by
 unfold txM at h
 split at h
 ·split at h
  ·rw[←Option.some.inj h];rfl
  ·cases h
 ·split at h
  split at h
  ·cases h
  ·split at h <;>(rw[←Option.some.inj h];rfl)
theorem qlF{p:List Ins}{th:Thr}{t:Nat}{f:Int}{x:Ins}{s':GS}(h:sgM c p s th t f x=some s'):s'.n=s.n:=by
 unfold sgM at h
 split at h
 ·generalize adr th.rg (if x.op=12 then x.b else x.a) x.imm=z at h
  dsimp only at h
  split at h
  ·split at h
   ·rw[←Option.some.inj h];rfl
   ·cases h
  ·split at h
   ·rw[←Option.some.inj h];rfl
   ·split at h <;>(rw[←Option.some.inj h];rfl)
 ·split at h
  ·cases h
  ·rw[←Option.some.inj h];rfl
theorem qjH{t:Nat}{ph:PH}(h:ps[t]? =some ph):(ps.map PH.p)[t]? =some ph.p:=by rw[List.getElem?_map,h];rfl
theorem ql4(hF:q0A W0)(h:g.ok W0 Kp ps s)(hv:g.ev W0 Y)(hG:GOk c (ps.map PH.p) s)(hn:s.n≤5000)(t f:Int){aa:Option Addr}{ad:List Int}{ac:Nat}(hA:RdE qM 1 W0 K aa ad)(hal:ad.length≤ac)(had:∀a∈ad,a≤9223372036854775807)(q:Own) [ek:qt q Kp] [ek2:qt q K]:
  q0E Tryz.prog W0 34 [.pointer (some ⟨g.gb,0,none⟩),chV t f aa ad.length ac] (g.O c ps.length s++q) fun v own'=>∃g':GP,
   (v= .int .i64 (doM c (ps.map PH.p) s ⟨t,f,ad⟩).1∧g'.ok W0 Kp ps (doM c (ps.map PH.p) s ⟨t,f,ad⟩).2∧g'.ev W0 Y∧g'.gb=g.gb)∧Ent W0 own' (g'.O c ps.length (doM c (ps.map PH.p) s ⟨t,f,ad⟩).2++q):=by
 refine qa qj q5I (by simp[q1i]) ?_
 by_cases hr:t<0∨(s.T.length:Int)≤t∨∃(j:Nat) (th:Thr),t=j∧s.T[j]? =some th∧th.dn=true
 ·have hd:doM c (ps.map PH.p) s ⟨t,f,ad⟩=(70,s):=by
   unfold doM chM
   rcases hr with hr|hr|⟨j,th,rfl,hth,hdn⟩
   ·rw[if_pos hr]
   ·by_cases h0:t<0
    ·rw[if_pos h0]
    ·rw[if_neg h0,List.getElem?_eq_none (by show s.T.length≤t.toNat;omega)]
   ·rw[if_neg (by show ¬((j:Nat):Int)<0;omega)]
    simp only[Int.toNat_natCast,hth]
    cases hp:(ps.map PH.p)[j]? with
    |none=>rfl
    |some p=>simp only[hdn,if_true]
  rw[hd]
  have hnx:=q9U (c:=c) h hr
  repeat'((try(conv=>whnf));first|(refine fE ?_)|(refine fD ?_)|((with_reducible show qf _ _ _ _ _ _);first|((refine qg (q3e (hnx _)) ?_)))|(refine fO ?_)|(refine fA ?_)|(refine fM ?_)|(refine qc (fun bk hbk=> ?_)))
  all_goals exact⟨g,⟨rfl,h,hv,rfl⟩,(eC)⟩
 ·have ht0:0≤t∧t<s.T.length:=⟨by omega,by omega⟩
  obtain⟨j,rfl⟩:=Int.eq_ofNat_of_zero_le ht0.1
  have hjl:j<s.T.length:=by omega
  obtain⟨th,hth⟩:∃th,s.T[j]? =some th:=⟨_,List.getElem?_eq_getElem hjl⟩
  have htl:=hG.tl
  rw[List.length_map] at htl
  obtain⟨ph,hph⟩:∃ph,ps[j]? =some ph:=⟨_,List.getElem?_eq_getElem (by omega)⟩
  have hpp:=qjH hph
  have hpv:=hG.pv ph.p (List.mem_of_getElem? hpp)
  obtain⟨hrg,hpc,hst,hdn,hoc⟩:=hG.th j th ph.p hth hpp
  have hdf:th.dn=false:=by
   cases hd:th.dn with
   |false=>rfl
   |true=>exact absurd (.inr (.inr ⟨j,th,rfl,hth,hd⟩)) hr
  have hpcl:th.pc<ph.p.length:=by
   rw[hdf] at hdn
   have:=of_decide_eq_false hdn.symm
   omega
  obtain⟨x,hx⟩:∃x,ph.p[th.pc]? =some x:=⟨_,List.getElem?_eq_getElem hpcl⟩
  have hnx:=q9V (c:=c) h hth hph hdf hx
  have hpl:=q6A hpv
  have hxi:=qgx hpv hx hst
  have hT:qk7 c ps s j th ph:=⟨hth,hph,hG.c0,hrg,hG.dl,hG.dr,by rw[hG.ol,hG.tl],fun l hl=>by have:=hG.ob l hl;omega,by have:=hG.el;omega⟩
  have hd:doM c (ps.map PH.p) s ⟨j,f,ad⟩=match (if x.op=7 then txM c ph.p s th j f ad else if ad= [] then sgM c ph.p s th j f x else none) with
   |some s'=>(0,{s' with n:=s.n+1})
   |none=>(70,s):=by
   unfold doM chM
   rw[if_neg (by show ¬((j:Nat):Int)<0;omega)]
   simp only[Int.toNat_natCast,hth,hpp,hdf,Bool.false_eq_true,if_false,hx]
   cases (if x.op=7 then txM c ph.p s th j f ad else if ad= [] then sgM c ph.p s th j f x else none) <;>rfl
  rw[hd]
  clear hd
  have hnn:∀s':GS,(if x.op=7 then txM c ph.p s th j f ad else if ad= [] then sgM c ph.p s th j f x else none)=some s'→s'.n=s.n:=fun s' e=>by
   split at e
   ·exact qlK e
   ·split at e
    ·exact qlF e
    ·cases e
  by_cases h7:x.op=7
  ·rw[if_pos h7] at hnn ⊢
   have hbe:=qfI (c:=c) hF hT h hv hpv hx h7 hG.kl f hA hal had q
   generalize txM c ph.p s th j f ad=o at*
   obtain⟨op,a,b',c',imm⟩:=x
   dsimp only[Ins.v] at*
   subst h7
   repeat'((try(conv=>whnf));first|(refine fE ?_)|(refine fD ?_)|((with_reducible show qf _ _ _ _ _ _);first|((refine qg (q3e (hnx _)) ?_))|((refine q3r hbe ?_ ?_ ?_ (fun v hv=> ?_) (fun s' v hv=> ?_);(exact(eC));(exact rfl);(exact rfl);(obtain⟨rfl,hvn⟩:=hv);rotate_left;(obtain⟨rfl,ho,hk1,hv1,hgb1⟩:=hv);(have hnn2:=hnn _ ho);(subst ho);(rw[←hgb1]))))|(refine fB ?_)|(refine fO ?_)|(refine fA ?_)|(refine fL ?_)|(refine fN ?_)|(refine fM ?_)|(refine qc (fun bk hbk=> ?_)))
   ·have e1:((s.n+1:Nat):Int)=(s'.1.n:Int)+1:=by omega
    refine⟨s'.2,⟨rfl,⟨hk1.d,hk1.m,hk1.k,hk1.kp,hk1.t,hk1.e,hk1.em,hk1.o,hk1.os,hk1.ol⟩,hv1,rfl⟩,?_⟩
    dsimp only[GP.O,GP.cells]
    rw[e1]
    exact(eC)
   ·subst hvn
    exact⟨g,⟨rfl,h,hv,rfl⟩,(eC)⟩
  ·rw[if_neg h7] at hnn ⊢
   by_cases had0:ad= []
   ·rw[if_pos had0] at hnn ⊢
    have hl:(ad.length:Int)=0:=by rw[had0];rfl
    have hsi:=qef (c:=c) hT h hv hxi.1 ⟨hpcl,hpl⟩ f aa ad.length ac q
    generalize sgM c ph.p s th j f x=o at*
    obtain⟨op,a,b',c',imm⟩:=x
    dsimp only[Ins.v] at*
    repeat'((try(conv=>whnf));first|(refine fH ?_)|(refine fE ?_)|(refine fD ?_)|(refine fG ?_)|(refine fJ ?_)|((with_reducible show qf _ _ _ _ _ _);first|((refine qg (q3e (hnx _)) ?_))|((refine q3r hsi ?_ ?_ ?_ (fun v hv=> ?_) (fun s' v hv=> ?_);(exact(eC));(exact rfl);(exact rfl);(obtain⟨rfl,hvn⟩:=hv);rotate_left;(obtain⟨rfl,ho,hk1,hv1,hgb1⟩:=hv);(have hnn2:=hnn _ ho);(subst ho);(rw[←hgb1]))))|(refine fB ?_)|(refine fO ?_)|(refine fA ?_)|(refine fL ?_)|(refine fN ?_)|(refine fM ?_)|(refine qc (fun bk hbk=> ?_)))
    ·have e1:((s.n+1:Nat):Int)=(s'.1.n:Int)+1:=by omega
     refine⟨s'.2,⟨rfl,⟨hk1.d,hk1.m,hk1.k,hk1.kp,hk1.t,hk1.e,hk1.em,hk1.o,hk1.os,hk1.ol⟩,hv1,rfl⟩,?_⟩
     dsimp only[GP.O,GP.cells]
     rw[e1]
     exact(eC)
    ·subst hvn
     exact⟨g,⟨rfl,h,hv,rfl⟩,(eC)⟩
   ·rw[if_neg had0]
    have hl:¬(ad.length:Int)=0:=fun e=>had0 (List.eq_nil_of_length_eq_zero (by omega))
    obtain⟨op,a,b',c',imm⟩:=x
    dsimp only[Ins.v] at*
    repeat'((try(conv=>whnf));first|(refine fI ?_)|(refine fE ?_)|(refine fD ?_)|(refine fG ?_)|(refine fK ?_)|((with_reducible show qf _ _ _ _ _ _);first|((refine qg (q3e (hnx _)) ?_)))|(refine fO ?_)|(refine fA ?_)|(refine fM ?_)|(refine qc (fun bk hbk=> ?_)))
    exact⟨g,⟨rfl,h,hv,rfl⟩,(eC)⟩
end
open Go
structure RG where
 da:Option Addr
 dc:Nat
 dD:Own
 ta:Option Addr
 tc:Nat
 tD:Own
 ea:Option Addr
 ec:Nat
 eD:Own
 L:List EH
 X:Own
 oa:Option Addr
 oc:Nat
 oD:Own
 S:List ObS
abbrev RG.v(r:RG)(s:GS):Value:= .agg #[.slice r.da s.d.length r.dc, .slice r.ta s.T.length r.tc, .slice r.ea r.L.length r.ec, .slice r.oa r.S.length r.oc]
def RG.D(r:RG):Own:=r.dD++(r.tD++(r.eD++(r.X++(r.oD++q5q r.S))))
structure RG.ok(r:RG)(W0:World)(s:GS):Prop where
 d:qr q7j 58 1 r.da r.dc s.d r.dD
 t:qr Thr.enc 61 11 r.ta r.tc s.T r.tD
 e:qr EH.enc 116 6 r.ea r.ec r.L r.eD
 em:r.L.map EH.m=s.E
 ev:∀e∈r.L,RdE qM 1 W0 r.X e.ra e.rl∧RdE qM 1 W0 r.X e.wa e.wl
 o:qr ObS.enc 124 1 r.oa r.oc r.S r.oD
 os:∀x∈r.S,qr ObM.enc 127 3 x.a x.cap x.l x.D
 ol:r.S.map ObS.l=s.O
theorem qbQ{α β:Type}{f:α→β}{l:List α}{m:List α}{i:Nat}{e e':α}(h:m.map f=(l.take i).map f)(hx:l[i]? =some e)(he:f e'=f e):(m++ [e']).map f=(l.take (i+1)).map f:=by
 obtain⟨hl,hx⟩:=List.getElem?_eq_some_iff.1 hx
 rw[List.take_add_one,List.getElem?_eq_getElem hl,hx]
 simp[h,he]
theorem qfi{α β:Type}{f:α→β}{l:List α}{m:List α}{i:Nat}(h:m.map f=(l.take i).map f)(hi:i≤l.length):m.length=i:=by
 have:=congrArg List.length h
 simpa [Nat.min_eq_left hi] using this
section
variable{W0:World}{e b:Nat×(Obj→Prop)}{A B Z:Own}
theorem qj7:Ent W0 (e::(B++(A++(b::Z)))) (b::(e::(A++(B++Z)))):=qo []
theorem qj8:Ent W0 (B++(e::(A++(b::Z)))) (b::(e::(A++(B++Z)))):=qo []
theorem qj9:Ent W0 (B++(A++(e::(b::Z)))) (b::(e::(A++(B++Z)))):=qo []
theorem qja:Ent W0 (e::(A++(B++(b::Z)))) (b::(e::(A++(B++Z)))):=qo []
theorem qjb:Ent W0 (A++(e::(B++(b::Z)))) (b::(e::(A++(B++Z)))):=qo []
theorem qjc:Ent W0 (A++(B++(e::(b::Z)))) (b::(e::(A++(B++Z)))):=qo []
theorem qjd{bk b5 b2 b3:Nat×(Obj→Prop)}{D1 D2 D3 D4 D5 X:Own}:Ent W0 (bk::(D4++(D3++(b5::(b2::(b3::(D1++(D2++(D5++(X++Z)))))))))) (b2::(b3::(D1++(D2++(D5++((D3++(D4++X))++Z)))))):=qo [bk,b5]
theorem qje{bk b2 b3:Nat×(Obj→Prop)}{D1 D2 D3 eD D5 X S:Own}:Ent W0 (bk::(D3++(b2::(b3::(D1++(D2++(eD++(X++(D5++(S++Z)))))))))) (b2::(b3::(D1++(D2++(eD++(X++(D5++((S++D3)++Z)))))))):=qo [bk]
theorem qjf{b2 b3:Nat×(Obj→Prop)}{D1 D2 eD oD X S:Own}:Ent W0 (b2::(b3::(D1++(D2++(eD++(X++(oD++(S++Z)))))))) ((D1++(D2++(eD++(X++(oD++S)))))++Z):=qo [b2,b3]
end
theorem qbq{S:List ObS}{x:ObS}:q5q (S++ [x])=q5q S++x.D:=by simp[q5q]
section
variable{W0:World}{Kp Y:Own}{g:GP}{c:Cfg}{ps:List PH}{s:GS}
theorem qeb(h:g.ok W0 Kp ps s)(hv:g.ev W0 Y)(hd:s.d.length≤500000)(hT:s.T.length≤500000)(hE:s.E.length≤500000)(hO:s.O.length≤500000)(hOl:∀l∈s.O,l.length≤500000)(hin:∀e∈s.E,e.r.length≤500000∧e.wl.length≤500000)(q:Own):
  q0E Tryz.prog W0 28 [.pointer (some ⟨g.gb,0,none⟩)] (g.O c ps.length s++q) fun v own'=>∃r:RG,
   (v=r.v s∧r.ok W0 s)∧Ent W0 own' (r.D++(g.O c ps.length s++q)):=by
 have hEl:g.L.length=s.E.length:=by rw[←h.em,List.length_map]
 have hSl:g.S.length=s.O.length:=by rw[←h.ol,List.length_map]
 have hER:=h.e.rd (W0:=W0)
 have hOR:=h.o.rd (W0:=W0)
 refine qa qj q3U (by simp[q0n]) ?_
 have hcd:=fun(own':Own) [qt own' g.dD]=>q2N (cap:=g.dc) (RdE.up (own:=own') (h.d.rd (W0:=W0))) (by omega)
 have hct:=fun(own':Own) [qt own' g.tD]=>q4i (cap:=g.tc) (RdE.up (own:=own') (h.t.rd (W0:=W0))) (by omega)
 repeat'((try(conv=>whnf));first|(refine qc (fun b2 h2=> ?_);(apply Stop.h)))
 refine Stop.mk ?_
 repeat'((try(conv=>whnf));first|(refine fD ?_))
 refine q4H (σ:=Nat×(Option Addr×Nat×Own)×(Option Addr×Nat×Own)) 8386568 (fun y=> [(3, .pointer (some ⟨y.1,0,none⟩))])
  (fun y=>(b2,fun o=>o=Obj.cells #[.slice none 0 0, .slice none 0 0, .slice none 0 0, .slice none 0 0] 52 (0,0))::((y.1,fun o=>o=Obj.cells #[.slice y.2.1.1 s.d.length y.2.1.2.1, .slice y.2.2.1 s.T.length y.2.2.2.1, .slice none 0 0, .slice none 0 0] 52 (0,0))::(y.2.1.2.2++(y.2.2.2.2++(g.O c ps.length s++q)))))
  (fun y=>qr q7j 58 1 y.2.1.1 y.2.1.2.1 s.d y.2.1.2.2∧qr Thr.enc 61 11 y.2.2.1 y.2.2.2.1 s.T y.2.2.2.2) rfl ?_ ?_
 ·repeat'((try(conv=>whnf));first|(refine qc (fun b3 h3=> ?_))|((with_reducible show qf _ _ _ _ _ _);first|((refine qZ (hcd _) ?_ ?_ (fun y v hv=> ?_);(exact rfl);(exact rfl);(obtain⟨a1,c1,D1⟩:=y;obtain⟨rfl,hB⟩:=hv;dsimp only at hB)))|((refine qZ (hct _) ?_ ?_ (fun y v hv=> ?_);(exact rfl);(exact rfl);(obtain⟨a2,c2,D2⟩:=y;obtain⟨rfl,hB2⟩:=hv;dsimp only at hB2))))|(refine fA ?_)|(refine fM ?_)|(refine q4T.mk ?_ ?_))
  all_goals
   refine⟨(b3,(a1,c1,D1),(a2,c2,D2)),⟨hB,hB2⟩,(eF),?_⟩
   first|exact qj7|exact qj8|exact qj9|exact qja|exact qjb|exact qjc
 ·rintro⟨b3,⟨a1,c1,D1⟩,⟨a2,c2,D2⟩⟩ junk ⟨hB1,hB2⟩
  dsimp only at hB1 hB2 ⊢
  repeat'((try(conv=>whnf));first|(refine fA ?_))
  --the events
  refine q0Z (σ:=Nat×List EH×Own×Option Addr×Nat×Own) (fun y=> [(28, .int .i64 y.1)])
   (fun y=>(b2,fun o=>o=Obj.cells #[.slice none 0 0, .slice none 0 0, .slice none 0 0, .slice none 0 0] 52 (0,0))::((b3,fun o=>o=Obj.cells #[.slice a1 s.d.length c1, .slice a2 s.T.length c2, .slice y.2.2.2.1 y.2.1.length y.2.2.2.2.1, .slice none 0 0] 52 (0,0))::(D1++(D2++(y.2.2.2.2.2++(y.2.2.1++(g.O c ps.length s++q)))))))
   (fun y=>y.1≤g.L.length∧y.2.1.map EH.m=(g.L.take y.1).map EH.m∧qr EH.enc 116 6 y.2.2.2.1 y.2.2.2.2.1 y.2.1 y.2.2.2.2.2∧∀e∈y.2.1,RdE qM 1 W0 y.2.2.1 e.ra e.rl∧RdE qM 1 W0 y.2.2.1 e.wa e.wl)
   (fun y=>g.L.length-y.1) (0,[],[],none,0,[]) ⟨Nat.zero_le _,rfl,qr.nil,fun _ h=>by cases h⟩ (eF) ?_ rfl ?_
  ·exact Ent.refl
  ·rintro⟨i,L',X',ea,ec,eD⟩ junk ⟨hi,hm,hB,hX⟩
   dsimp only at hi hm hB hX ⊢
   have hll:=qfi hm hi
   by_cases hil:i<g.L.length
   ·obtain⟨e,hx⟩:∃e,g.L[i]? =some e:=⟨_,List.getElem?_eq_getElem hil⟩
    have hem:=List.mem_of_getElem? hx
    have hvr:=(hv.1 e hem).1
    have hvw:=(hv.1 e hem).2
    have hie:=hin e.m (by rw[←h.em];exact List.mem_map_of_mem hem)
    obtain⟨ev,et,ekk,ew,era,erl,erc,ewa,ewl,ewc⟩:=e
    dsimp only[EH.m] at hvr hvw hie hx
    have hcr:=fun(own':Own) [qt own' g.X]=>q65 (cap:=erc) (RdE.up (own:=own') hvr) (by omega)
    have hcw:=fun(own':Own) [qt own' g.X]=>q65 (cap:=ewc) (RdE.up (own:=own') hvw) (by omega)
    repeat'((try(conv=>whnf));first|(refine fF ?_)|(refine qc (fun b5 h5=> ?_);(apply Stop.h))|((with_reducible show IxS _ _ _ _ _);first|((refine ixE hER hx ?_ ?_;(first|rfl|omega))))|((with_reducible show LdN _ _ _ _ _);first|(refine q2e hER hx rfl ?_)))
    refine Stop.mk ?_
    repeat'((try(conv=>whnf));first|(apply q69 (enc:=EH.enc) (T:=116) ⟨ev,et,ekk,ew,a3,erl,c3,a4,ewl,c4⟩ hB;(exact rfl);(exact rfl);(omega);(exact rfl);(exact rfl);(omega);intro a9 c9 D5 hb1)|((with_reducible show qf _ _ _ _ _ _);first|((refine qZ (hcr _) ?_ ?_ (fun y v hv=> ?_);(exact rfl);(exact rfl);(obtain⟨a3,c3,D3⟩:=y;obtain⟨rfl,hB3⟩:=hv;dsimp only at hB3)))|((refine qZ (hcw _) ?_ ?_ (fun y v hv=> ?_);(exact rfl);(exact rfl);(obtain⟨a4,c4,D4⟩:=y;obtain⟨rfl,hB4⟩:=hv;dsimp only at hB4))))|(refine fB ?_)|(refine fA ?_)|(refine fL ?_)|(refine fN ?_)|(refine fM ?_)|(refine qc (fun bk hbk=> ?_))|(refine q4T.mk ?_ ?_))
    all_goals
     refine⟨(i+1,L'++ [⟨ev,et,ekk,ew,a3,erl,c3,a4,ewl,c4⟩],D3++(D4++X'),a9,c9,D5),⟨hil,qbQ hm hx rfl,hb1,fun e he=> ?_⟩,(by show g.L.length-(i+1)<g.L.length-i;omega),(eF),?_⟩
     ·rcases List.mem_append.1 he with he|he
      ·exact⟨(hX e he).1.up,(hX e he).2.up⟩
      ·rw[List.mem_singleton.1 he]
       exact⟨RdE.up (hB3.rd (W0:=W0)),RdE.up (hB4.rd (W0:=W0))⟩
     ·have hlen:(L'++ [(⟨ev,et,ekk,ew,a3,erl,c3,a4,ewl,c4⟩:EH)]).length=L'.length+1:=by simp
      dsimp only
      rw[hlen]
      exact qjd
   ·have hiN:i=g.L.length:=by omega
    subst hiN
    rw[List.take_length] at hm
    repeat'((try(conv=>whnf));first|(refine fG ?_)|(refine fA ?_))
    refine q0Z (σ:=Nat×List ObS×Option Addr×Nat×Own) (fun y=> [(52, .int .i64 y.1)])
     (fun y=>(b2,fun o=>o=Obj.cells #[.slice none 0 0, .slice none 0 0, .slice none 0 0, .slice none 0 0] 52 (0,0))::((b3,fun o=>o=Obj.cells #[.slice a1 s.d.length c1, .slice a2 s.T.length c2, .slice ea L'.length ec, .slice y.2.2.1 y.2.1.length y.2.2.2.1] 52 (0,0))::(D1++(D2++(eD++(X'++(y.2.2.2.2++(q5q y.2.1++(g.O c ps.length s++q)))))))))
     (fun y=>y.1≤g.S.length∧y.2.1.map ObS.l=(g.S.take y.1).map ObS.l∧qr ObS.enc 124 1 y.2.2.1 y.2.2.2.1 y.2.1 y.2.2.2.2∧∀x∈y.2.1,qr ObM.enc 127 3 x.a x.cap x.l x.D)
     (fun y=>g.S.length-y.1) (0,[],none,0,[]) ⟨Nat.zero_le _,rfl,qr.nil,fun _ h=>by cases h⟩ (eF) ?_ rfl ?_
    ·exact Ent.refl
    ·rintro⟨j,S',oa,oc,oD⟩ junk ⟨hj,hmS,hBS,hSS⟩
     dsimp only at hj hmS hBS hSS ⊢
     have hllS:=qfi hmS hj
     by_cases hjl:j<g.S.length
     ·obtain⟨x,hx⟩:∃x,g.S[j]? =some x:=⟨_,List.getElem?_eq_getElem hjl⟩
      have hxm:=List.mem_of_getElem? hx
      have hxB:=(h.os x hxm).rd (W0:=W0)
      have hxl:=hOl x.l (by rw[←h.ol];exact List.mem_map_of_mem hxm)
      have hsp:=q3k hx
      obtain⟨xa,xc,xl,xD⟩:=x
      dsimp only at hxB hxl hsp
      have hco:=fun(own':Own) [qt own' xD]=>q64 (cap:=xc) (RdE.up (own:=own') hxB) (by omega)
      dsimp only[GP.O]
      rw[hsp]
      repeat'((try(conv=>whnf));first|(refine fF ?_)|(apply q69 (enc:=ObS.enc) (T:=124) ⟨a3,c3,xl,D3⟩ hBS;(exact rfl);(exact rfl);(omega);(exact rfl);(exact rfl);(omega);intro a9 c9 D5 hb1)|((with_reducible show Ld _ _ _ _);first|(refine q1M hOR hx rfl ?_))|((with_reducible show IxS _ _ _ _ _);first|((refine ixE hOR hx ?_ ?_;(first|rfl|omega))))|((with_reducible show qf _ _ _ _ _ _);first|((refine qZ (hco _) ?_ ?_ (fun y v hv=> ?_);(exact rfl);(exact rfl);(obtain⟨a3,c3,D3⟩:=y;obtain⟨rfl,hB3⟩:=hv;dsimp only at hB3))))|(refine fB ?_)|(refine fA ?_)|(refine fN ?_)|(refine qc (fun bk hbk=> ?_))|(refine q4T.mk ?_ ?_))
      all_goals
       refine⟨(j+1,S'++ [⟨a3,c3,xl,D3⟩],a9,c9,D5),⟨hjl,qbQ hmS hx rfl,hb1,fun e he=> ?_⟩,(by show g.S.length-(j+1)<g.S.length-j;omega),(eF),?_⟩
       ·rcases List.mem_append.1 he with he|he
        ·exact hSS e he
        ·rw[List.mem_singleton.1 he]
         exact hB3
       ·have hlen:(S'++ [(⟨a3,c3,xl,D3⟩:ObS)]).length=S'.length+1:=by simp
        dsimp only
        rw[hlen,qbq]
        exact qje
     ·have hjN:j=g.S.length:=by omega
      subst hjN
      rw[List.take_length] at hmS
      repeat'((try(conv=>whnf));first|(refine fG ?_)|(refine fL ?_)|(refine fM ?_))
      exact⟨⟨a1,c1,D1,a2,c2,D2,ea,ec,eD,L',X',oa,oc,oD,S'⟩,⟨rfl,⟨hB1,hB2,hB,by rw[hm,h.em],hX,hBS,hSS,by rw[hmS,h.ol]⟩⟩,qjf⟩
end
end Go.Proofs.YtkieffpjjfebjaaGreatDoor
