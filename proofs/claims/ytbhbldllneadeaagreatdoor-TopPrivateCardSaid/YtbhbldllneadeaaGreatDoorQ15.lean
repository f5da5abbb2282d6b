/- What the laws share, part 15. No condition. -/
import Derived.Test.YtbhbldllneadeaaGreatDoorQ14
set_option maxHeartbeats 16000000
set_option maxRecDepth 10000
namespace Go.Proofs.YtbhbldllneadeaaGreatDoor
open Go
theorem qiH{α:Type}{l:List (List α)}{t:Nat}(ht:t<l.length)(a w:List α):(l.set t (l.getD t []++a)).set t ((l.set t (l.getD t []++a)).getD t []++w)=l.set t (l.getD t []++(a++w)):=by
 have e:(l.set t (l.getD t []++a)).getD t []=l.getD t []++a:=by simp[List.getD,ht]
 rw[e,yc,zd]
theorem ql9{O:List (List ObM)}{t:Nat}{a:List ObM}(h:∀l∈O,l.length≤500000)(ha:a.length≤400000):∀l∈O.set t (O.getD t []++a),l.length≤1000000:=fun l hl=>by
 rcases Zh hl with hl|rfl
 ·have:=h l hl;omega
 ·rw[z8,zh];cases hO:O[t]? with
  |none=>simp;omega
  |some y=>have:=h y (zg hO);simp;omega
theorem qkF{W0:World}{e m b:Nat×(Obj→Prop)}{A Z:Own}:Ent W0 (e::(A++(m::(b::Z)))) ([b]++((e::(A++(m::([]++([]++ [])))))++Z)):=
 q02 []
section
variable{W0:World}{Kp K:Own}{g:GP}{c:Cfg}{ps:List PH}{s:GS}
theorem qfl(hF:qC W0){t:Nat}{th:Thr}{ph:PH}(hT:qm5 c ps s t th ph)(h:g.ok W0 Kp ps s)(hv:g.ev W0)(hp:qw ph.p=(0,0)){x0:Ins}(hx0:ph.p[th.pc]? =some x0)(h7:x0.op=7)(htk:s.tk.length=(qA c).toNat)(f:Int){aa:Option Addr}{ad:List Int}{ac:Nat}(hA:RdE qx 1 W0 K aa ad)(hal:ad.length≤ac)(had:∀a∈ad,a≤9223372036854775807)(q:Own) [ek:qv q Kp] [ek2:qv q K]:
  qt Tryz.prog W0 64 [.pointer (some ⟨g.gb,0,none⟩),chV t f aa ad.length ac] (g.O c ps.length s++q) fun v own'=>
   ((v= .bool false∧txM c ph.p s th t f ad=none)∧Ent W0 own' (g.O c ps.length s++q))∨
   ∃s':GS×GP,(v= .bool true∧txM c ph.p s th t f ad=some s'.1∧s'.2.ok W0 Kp ps s'.1∧s'.2.ev W0∧s'.2.gb=g.gb)∧Ent W0 own' (s'.2.O c ps.length s'.1++q):=by
 have hth:=hT.hth;have htl:=(z7.1 hth).1;have htO:t<s.O.length:=by rw[hT.tl];exact htl
 have hTR:=h.t.rd (W0:=W0);have hpl:=q70 hp;have hcm:=q3y hx0;rw[if_pos ⟨by rw[hp],h7⟩] at hcm;have hend:=q0k hp hx0 h7;have hpcl:=(z7.1 hx0).1;generalize he:q0t ph.p th.pc=e at hcm;obtain⟨e',he',hke,hel, -⟩:=hend;have hee:e'=e:=by rw[←he',he]
 subst hee;refine sC [114,141] [3,5,7,9,11,13,15,17,0,3,5,7,9,13,15,17,21,23,27,1,12,19,25,29,31,34,35,0,1,19,1,12,25,29,31,34,35,0,1,25,1,12,29,31,34,35,0,29,12,31,34,35,0,29,1,12,25,31,34,35,0,25,12,31,34,35,0,1,25,1,12,19,29,31,34,35,0,1,19,1,12,29,31,34,35,0,29,12,31,34,35,0,29,1,12,19,31,34,35,0,19,12,31,34,35,0,29,1,12,19,25,31,34,35,0,1,19,1,12,25,31,34,35,0,25,12,31,34,35,0,25,1,12,19,31,34,35,0,19,12,31,34,35,0,3,5,7,9,11,13,15,17,19,22,23,0,3,5,7,9,11,13,15,17,19,22,0,3,5,7,9,11,13,17,25,1,15,19,21,23,27,29,32,0,19,15,21,23,27,29,32,0] ?_
 repeat'((try(conv=>whnf));first|(refine qf (fun b3 h3=> ?_);(apply Stop.h)))
 refine Stop.mk ?_
 repeat'((try(conv=>whnf));first|((apply gLd);first|(refine q0r hTR hth rfl ?_))|((apply qJ);first|((refine ixE hTR hth ?_ ?_;(first|rfl|omega))))|(refine fA ?_))
 refine q3z (σ:=GS×GP×Thr) 75557863725914322894992 (fun _=> []) (fun y=> [(b3,fun o=>o=Obj.cells #[.int .i64 t, .int .i64 f, .slice aa ad.length ac] 101 (0,0))]++(y.2.1.O c ps.length y.1++q))
  (fun y=>y.2.1.ok W0 Kp ps y.1∧y.2.1.ev W0∧y.2.1.gb=g.gb∧y.2.1.ta=g.ta∧y.1.T[t]? =some y.2.2∧(t<y.1.O.length∧∀l∈y.1.O,l.length≤1000000)∧okU y.2.2.oc∧
   txM c ph.p s th t f ad=some {y.1 with T:=y.1.T.set t ⟨e'+1,y.2.2.rg,y.2.2.oc,decide (e'+1=ph.p.length)⟩,O:=y.1.O.set t (y.1.O.getD t []++ [⟨th.pc,3,y.2.2.oc⟩])}) rfl ?_ ?_
 ·by_cases hf:f=0
  ·subst hf;have hcl:=fun(own':Own) [qv own' g.dD] [qy g.mb (q2C (mpV g.ml)) own']=>q7y (own:=own') (dc:=g.dc) (mb:=g.mb) (ml:=g.ml) (RdE.up (h.d.rd (W0:=W0))) (by have:=hT.dl;have:=(q1g hT.c0).1;unfold okW at this;omega)
   repeat'((try(conv=>whnf));first|(refine fE ?_)|(refine fA ?_))
   refine q3z (σ:=TxG) 549747425408 (fun x=> [(7, .pointer (some ⟨x.xb,0,none⟩))]) (fun x=> [(b3,fun o=>o=Obj.cells #[.int .i64 t, .int .i64 0, .slice aa ad.length ac] 101 (0,0))]++(x.O c (⟨s.d,s.tk,th,[],[],[],ad⟩:BM) 0++(g.O c ps.length s++q))) (fun x=>x.ok W0 K (⟨s.d,s.tk,th,[],[],[],ad⟩:BM)) rfl ?_ ?_
   ·repeat'((try(conv=>whnf));first|((apply q2H);first|(refine q1h hTR hth rfl ?_))|((apply qe);first|((refine qi (hcl _) (fun y v hv=> ?_);(obtain⟨⟨a1,c1,D1⟩,mb'⟩:=y;obtain⟨rfl,hB⟩:=hv;dsimp only at hB))))|(refine fA ?_)|(refine fQ ?_)|(refine qf (fun bk hbk=> ?_))|(refine q1c.mk ?_ ?_))
    all_goals exact⟨⟨_,mb',g.ml,a1,c1,D1,aa,ac,none,0,[],none,0,[],none,0,[]⟩,⟨hB,h.m,hA,hal,qu.nil,qu.nil,qu.nil⟩,(eF),qkF⟩
   ·rintro x junk hxok;dsimp only at hxok ⊢;have hmem:=zg hT.hph;have hph:=hT.hph;have hKK:=h.k;have hBI:BI c ⟨s.d,s.tk,{th with pc:=th.pc+1},[],[],[],ad⟩:=⟨hT.dl,hT.dr,htk,hT.rg,zq _,zq _,zq _,fun _ h=>(by cases h),fun _ h=>(by cases h),had⟩
    have hrun:=qhZ (Kp:=Kp) (pcap:=ph.cap) hxok hT.c0 hp hx0 h7 hBI (h.kp ph hmem) ([(b3,fun o=>o=Obj.cells #[.int .i64 t, .int .i64 0, .slice aa ad.length ac] 101 (0,0))]++(g.O c ps.length s++q));have hrok:=qcE hp hx0 h7 (c:=c) ph.p.length ⟨s.d,s.tk,{th with pc:=th.pc+1},[],[],[],ad⟩ (Z8 _) (by rw[he];exact hke) hBI;rw[he] at hrok;have htx:txM c ph.p s th t 0 ad=match q3U c ph.p ph.p.length ⟨s.d,s.tk,{th with pc:=th.pc+1},[],[],[],ad⟩ with
     |(b,o)=>if o= -1∨b.ad≠ [] then none
      else if o=1 then some (((s.mem b.d b.tk).ev [⟨s.n,t,3,0,[],[]⟩,⟨s.n,t,4,0,b.r,b.w⟩]).fin t ⟨e'+1,b.t.rg,1,decide (e'+1=ph.p.length)⟩ (b.o++ [⟨th.pc,3,1⟩]))
      else some ((s.ev [⟨s.n,t,3,0,[],[]⟩,⟨s.n,t,4,0,b.r,[]⟩]).fin t ⟨e'+1,th.rg,o,decide (e'+1=ph.p.length)⟩ [⟨th.pc,3,o⟩]):=by
     unfold txM;rw[if_neg Y8,he]
    rw[htx];clear htx;dsimp only at hrun;generalize q3U c ph.p ph.p.length ⟨s.d,s.tk,{th with pc:=th.pc+1},[],[],[],ad⟩=z at*;obtain⟨zb,zo⟩:=z;dsimp only at hrun hrok ⊢
    by_cases hz:zo=1
    ·subst hz;obtain⟨hbi, -,hpce⟩:=hrok Y7;have hol:=hbi.ol;have hcmx:=fun(x1:TxG) (hok1:x1.ok W0 K zb)=>qaP (c:=c) h hv hth htO hT.ob hT.el hok1 Y6 ([(b3,fun o=>o=Obj.cells #[.int .i64 t, .int .i64 0, .slice aa ad.length ac] 101 (0,0))]++q)
     have hth1:(s.T.set t {th with rg:=zb.t.rg})[t]? =some {th with rg:=zb.t.rg}:=Ze htl
     repeat'((try(conv=>whnf));first|(refine fE ?_)|(refine fD ?_)|(apply q3o (enc:=Thr.enc) (T:=89) (j:=t) (k:=9) {th with rg:=zb.t.rg,oc:=1} hk1.t hth1;(exact rfl);(omega);(exact rfl);(exact rfl);intro D1 hb1)|((apply gLd);first|(refine q0r hKK hph rfl ?_))|((apply qJ);first|((refine ixE hKK hph ?_ ?_;(first|rfl|omega))))|((apply qe);first|((refine q2g hrun ?_ ?_ ?_ (fun v hv=> ?_) (fun x1 v hv=> ?_);(exact Ent.of_perm (Zm _ _ _));(exact rfl);(exact rfl);(obtain⟨rfl,hv⟩:=hv);rotate_left;(obtain⟨rfl,hz1,hz2,hok1,hxb1⟩:=hv);(rw[←hxb1])))|((refine qm (hcmx x1 hok1) ?_ ?_ ?_ (fun g1 v hg1=> ?_);(exact Ent.of_perm (List.Perm.append_left _ (Zm _ _ _)));(exact rfl);(exact rfl);(obtain⟨hk1,hv1,hgb1,hta1⟩:=hg1);(rw[←hta1]))))|(refine fA ?_))
     ·rw[if_neg (fun h=>h.elim hz1 (fun h=>h hz2)),if_pos rfl];refine⟨({((({s with d:=zb.d,tk:=zb.tk,T:=s.T.set t {th with rg:=zb.t.rg},O:=s.O.set t (s.O.getD t []++zb.o)}:GS).ev [⟨s.n,t,3,0,[],[]⟩]).ev [⟨s.n,t,4,0,zb.r,zb.w⟩]) with T:=(s.T.set t {th with rg:=zb.t.rg}).set t {th with rg:=zb.t.rg,oc:=1}},{g1 with tD:=D1},{th with rg:=zb.t.rg,oc:=1}),⟨⟨hk1.d,hk1.m,hk1.k,hk1.kp,hb1,hk1.e,hk1.em,hk1.o,hk1.os,hk1.ol⟩,hv1,hgb1,rfl,Ze (by rw[zj];exact htl),⟨by simpa [GS.ev] using htO,?_⟩,(show okU 1 from ⟨Y7,Y7⟩),?_⟩,trivial,?_⟩
      ·exact fun l hl=>ql9 hT.ob (a:=zb.o) Y6 l hl
      ·simp only[GS.fin,GS.ev,GS.mem,yc,qiH htO,zd,zl,zi]
      ·dsimp only[GP.O,GP.cells,GS.ev];simp only[zj];exact Ent.app (Ent.of_perm (Zm _ _ _))
     ·exact .inl ⟨⟨rfl,if_pos hv⟩,(eC)⟩
    ·have hcmx:=fun(x1:TxG) (hok1:x1.ok W0 K zb)=>qd1 (c:=c) (t:=t) h hv hT.el hok1 hz ([(b3,fun o=>o=Obj.cells #[.int .i64 t, .int .i64 0, .slice aa ad.length ac] 101 (0,0))]++q)
     repeat'((try(conv=>whnf));first|(refine fE ?_)|(refine fD ?_)|(apply q3o (enc:=Thr.enc) (T:=89) (j:=t) (k:=9) {th with oc:=zo} hk1.t hth;(exact rfl);(omega);(exact rfl);(exact rfl);intro D1 hb1)|((apply gLd);first|(refine q0r hKK hph rfl ?_))|((apply qJ);first|((refine ixE hKK hph ?_ ?_;(first|rfl|omega))))|((apply qe);first|((refine q2g hrun ?_ ?_ ?_ (fun v hv=> ?_) (fun x1 v hv=> ?_);(exact Ent.of_perm (Zm _ _ _));(exact rfl);(exact rfl);(obtain⟨rfl,hv⟩:=hv);rotate_left;(obtain⟨rfl,hz1,hz2,hok1,hxb1⟩:=hv);(rw[←hxb1])))|((refine qm (hcmx x1 hok1) ?_ ?_ ?_ (fun g1 v hg1=> ?_);(exact Ent.of_perm (List.Perm.append_left _ (Zm _ _ _)));(exact rfl);(exact rfl);(obtain⟨hk1,hv1,hgb1,hta1⟩:=hg1);(rw[←hta1]))))|(refine fA ?_))
     ·obtain⟨hbi,⟨hzo0,hzo1⟩, -⟩:=hrok hz1;rw[if_neg (fun h=>h.elim hz1 (fun h=>h hz2)),if_neg hz];refine⟨({((s.ev [⟨s.n,t,3,0,[],[]⟩]).ev [⟨s.n,t,4,0,zb.r,[]⟩]) with T:=s.T.set t {th with oc:=zo}},{g1 with tD:=D1},{th with oc:=zo}),⟨⟨hk1.d,hk1.m,hk1.k,hk1.kp,hb1,hk1.e,hk1.em,hk1.o,hk1.os,hk1.ol⟩,hv1,hgb1,rfl,Ze htl,⟨htO,fun l hl=>by have:=hT.ob l hl;omega⟩,(show okU zo from ⟨Y6,Y6⟩),?_⟩,trivial,?_⟩
      ·simp only[GS.fin,GS.ev,yc,zd,zl,zi]
      ·dsimp only[GP.O,GP.cells,GS.ev];simp only[zj];exact Ent.app (Ent.of_perm (Zm _ _ _))
     ·exact .inl ⟨⟨rfl,if_pos hv⟩,(eC)⟩
  ·have htx:txM c ph.p s th t f ad=if(3≤f∧f≤6)∧ad= [] then some (s.fin t ⟨e'+1,th.rg,f,decide (e'+1=ph.p.length)⟩ [⟨th.pc,3,f⟩]) else none:=by
    unfold txM;rw[if_pos hf,he]
   rw[htx];clear htx
   by_cases hff:3≤f∧f≤6
   ·by_cases hal0:ad= []
    ·rw[if_pos ⟨hff,hal0⟩];have hl0:¬(0:Int)<ad.length:=by rw[hal0];simp
     have hq:f=3∨f=4∨f=5∨f=6:=Y6
     repeat'((try(conv=>whnf));first|(refine fF ?_)|(refine fG ?_)|(apply q3o (enc:=Thr.enc) (T:=89) (j:=t) (k:=9) {th with oc:=f} h.t hth;(exact rfl);(omega);(exact rfl);(exact rfl);intro D1 hb1)|(refine fA ?_)|(apply qee;(exact rfl);all_goals intro hc))
     all_goals first|(exfalso;omega)|skip
     all_goals
      refine⟨({s with T:=s.T.set t {th with oc:=f}},{g with tD:=D1},{th with oc:=f}),⟨⟨h.d,h.m,h.k,h.kp,hb1,h.e,h.em,h.o,h.os,h.ol⟩,hv,rfl,rfl,Ze htl,⟨htO,fun l hl=>by have:=hT.ob l hl;omega⟩,(show okU f from ⟨Y6,Y6⟩),?_⟩,trivial,?_⟩
      ·simp only[GS.fin,yc]
      ·dsimp only[GP.O,GP.cells];simp only[zj];exact(eC)
    ·rw[if_neg (fun h=>hal0 h.2)];have hl0:(0:Int)<ad.length:=by
      have:ad.length≠0:=fun h=>hal0 (Z9 h)
      omega
     have hq:f=3∨f=4∨f=5∨f=6:=Y6
     repeat'((try(conv=>whnf));first|(refine fF ?_)|(refine fG ?_)|(refine fA ?_)|(apply qee;(exact rfl);all_goals intro hc))
     all_goals first|(exfalso;omega)|exact .inl ⟨⟨rfl,rfl⟩,(eC)⟩
   ·rw[if_neg (fun h=>hff h.1)]
    repeat'((try(conv=>whnf));first|(refine fG ?_)|(refine fA ?_))
    all_goals first|(exfalso;omega)|exact .inl ⟨⟨rfl,rfl⟩,(eC)⟩
 ·rintro⟨s1,g1,th1⟩ junk ⟨hk1,hv1,hgb1,hta1,hth1,⟨hO1,hO2⟩,hoc,hres⟩;dsimp only at hk1 hv1 hgb1 hta1 hth1 hO1 hO2 hoc hres ⊢;rw[hres];have htS1:t<g1.S.length:=by
   have h1:=congrArg List.length hk1.ol;rw[zk] at h1;omega
  obtain⟨hoc0,hoc1⟩:=hoc;have hob:=qL (E:= [(b3,fun o=>o=Obj.cells #[.int .i64 t, .int .i64 f, .slice aa ad.length ac] 101 (0,0))]) (q:=q) (q0U (c:=c) hk1 htS1 hO2 th.pc 3 th1.oc);rw[hgb1] at hob;have hR1:RdE Thr.enc 11 W0 g1.tD g.ta s1.T:=hta1 ▸ (hk1.t.rd (W0:=W0));have hmem:=zg hT.hph;have hph:=hT.hph;have hcmt:=fun(own':Own) [qv own' Kp]=>q7q (own:=own') (cap:=ph.cap) hF (RdE.up (h.kp ph hmem)) Y6 th.pc
  rw[hcm] at hcmt;have he1:((e'+1:Nat):Int)=(e':Int)+1:=Y6;have hto:=fun(g2:GP) (h2:g2.ok W0 Kp ps {s1 with O:=s1.O.set t (s1.O.getD t []++ [⟨th.pc,3,th1.oc⟩])})=>q4v (c:=c) h2 hth1 hT.hph (e'+1) q
  rw[he1] at hto
  repeat'((try(conv=>whnf));first|(refine ldE (k:=9) (v:= .int .i64 th1.oc) (RdE.up hR1) hth1 ?_ rfl ?_;omega)|((apply gLd);first|(refine q0r hk2k hph rfl ?_))|((apply qJ);first|((refine ixE hk2k hph ?_ ?_;(first|rfl|omega))))|((apply qe);first|((refine qm hob ?_ ?_ ?_ (fun g2 v hg2=> ?_);(exact(eC));(exact rfl);(exact rfl);(obtain⟨hk2,hg2,hl2⟩:=hg2);(have hgb2:g2.gb=g.gb:=by rw[hg2]);(have hk2k:=hk2.k);(rw[←hgb2])))|((refine qm (hto g2 hk2) ?_ ?_ ?_ (fun g3 v hg3=> ?_);(exact(eC));(exact rfl);(exact rfl))))|((apply qz);first|((refine qj (fun ex=>hcmt _) ?_)))|(refine fB ?_)|(refine fC ?_)|(refine fA ?_)|(refine q1c.mk ?_ ?_))
  all_goals exact .inr ⟨(_,g3),⟨rfl,rfl,hg3.1,GP.ev.of hv1 (by rw[hg3.2,hg2]) (by rw[hg3.2,hg2]),by rw[hg3.2]⟩,Ent.refl⟩
end
open Go
theorem qga{p:List Ins}{k:Nat}(h:p[k]? =none):stB p (k+1)=stB p k:=by simp only[stB,h]
theorem q6E{p:List Ins}{k:Nat}(hk:stB p k<0):∀d:Nat,stB p (k+d)<0∨∃(b:Nat) (x:Ins),k≤b∧b<k+d∧stB p (k+d)=b∧p[b]? =some x∧x.op=7
 |0=> .inl hk
 |d+1=>by
  rw[←yd];cases hx:p[k+d]? with
  |none=>
   rw[qga hx]
   rcases q6E hk d with h|⟨b,x,h1,h2,h3⟩
   ·exact .inl h
   ·exact .inr ⟨b,x,h1,Y6,h3⟩
  |some y=>
   rw[q24 hx];unfold q18
   by_cases h7:y.op=7
   ·rw[if_pos h7];exact .inr ⟨k+d,y,Y6,Y6,rfl,hx,h7⟩
   ·rw[if_neg h7]
    by_cases h8:y.op=8
    ·rw[if_pos h8];exact .inl Y7
    ·rw[if_neg h8]
     rcases q6E hk d with h|⟨b,x,h1,h2,h3⟩
     ·exact .inl h
     ·exact .inr ⟨b,x,h1,Y6,h3⟩
theorem q9M{p:List Ins}(h:qw p=(0,0)){k:Nat}{x:Ins}(hx:p[k]? =some x)(ho:stB p k<0)(h7:x.op≠7){j:Nat}(hj:(j:Int)∈q2E p k x):k<j∧j≤p.length∧stB p j<0:=by
 obtain⟨j',hj',h1,h2,_,h4⟩:=q44 h hx _ hj;obtain rfl:j=j':=Y6;refine⟨h1,h2,?_⟩;obtain⟨d,rfl⟩:∃d,j=k+d:=⟨j-k,Y6⟩
 rcases q6E ho d with h|⟨b,y,hb1,hb2,hb3,hb4,hb5⟩
 ·exact h
 ·exfalso;have hbk:b≠k:=fun e=>by
   subst e;rw[hx] at hb4;exact h7 (Option.some.inj hb4 ▸ hb5)
  rcases h4 ho b y Y6 hb4 hb5 with h5|h5
  ·omega
  ·have hi:=(qbB h h2).bb;rw[hb3] at hi
   rcases hi with hi|⟨_,_,hi⟩
   ·omega
   ·rw[zB] at hi;have:=(q2P (p.drop (k+d)) (k+d)).1;omega
theorem qgZ{p:List Ins}(h:qw p=(0,0)){k:Nat}{x:Ins}(hx:p[k]? =some x)(ho:stB p k<0):qS x=0∧((0≤x.op∧x.op≤7)∨x.op=12∨x.op=13∨x.op=16∨x.op=17):=by
 have hi:=q36 h hx;have h18:=(q0T hi.1).1;have h8:x.op≠8:=fun e=>by have:=hi.2.2.1 e;omega
 have h9:=hi.2.2.2.2;refine⟨hi.1,?_⟩
 by_cases h10:x.op=9∨x.op=10∨x.op=11∨x.op=14∨x.op=15
 ·have:=h9 h10;omega
 ·omega
def qnq(c:Cfg)(e:EvM):Prop:=(0≤e.w∧e.w<c.words)∧(∀x∈e.r,0≤x∧x<c.words)∧(∀x∈e.wl,0≤x∧x<c.words)∧e.r.length≤1000∧e.wl.length≤1000
def EvB(c:Cfg)(E:List EvM):Prop:=(∀e∈E,qnq c e)∧(E= []∨(∃e,E= [e]∧e.k≠3)∨∃a b,E= [a,b]∧b.k=4∧b.t=a.t∧b.ev=a.ev)
def EvG(c:Cfg)(E:List EvM):Prop:=(∀e∈E,qnq c e)∧∀(i:Nat) (a:EvM),E[i]? =some a→a.k=3→∃b,E[i+1]? =some b∧b.k=4∧b.t=a.t∧b.ev=a.ev
theorem EvB.nil{c:Cfg}:EvB c []:=⟨fun _ h=>(by cases h), .inl rfl⟩
theorem EvB.len{c:Cfg}{E:List EvM}(h:EvB c E):E.length≤2:=by
 rcases h.2 with rfl|⟨e,rfl, -⟩|⟨a,b,rfl, -⟩ <;>simp
theorem EvB.pair{c:Cfg}{n t:Int}{r w:List Int}(hw:0<c.words)(h1:∀x∈r,0≤x∧x<c.words)(h2:∀x∈w,0≤x∧x<c.words)(h3:r.length≤1000)(h4:w.length≤1000):EvB c [⟨n,t,3,0,[],[]⟩,⟨n,t,4,0,r,w⟩]:=by
 refine⟨fun e he=> ?_, .inr (.inr ⟨_,_,rfl,rfl,rfl,rfl⟩)⟩
 rcases zQ.1 he with rfl|he
 ·exact⟨⟨zW _,hw⟩,fun _ h=>(by cases h),fun _ h=>(by cases h),zq _,zq _⟩
 ·rw[zf.1 he];exact⟨⟨zW _,hw⟩,h1,h2,h3,h4⟩
theorem EvG.app{c:Cfg}{E F:List EvM}(h:EvG c E)(h2:EvB c F):EvG c (E++F):=by
 refine⟨fun e he=>(zz.1 he).elim (h.1 e) (h2.1 e),fun i a hi hk=> ?_⟩
 by_cases hl:i<E.length
 ·rw[zy hl] at hi;obtain⟨b,hb,h3⟩:=h.2 i a hi hk;exact⟨b,by rw[zy (z7.1 hb).1];exact hb,h3⟩
 ·rw[zP Y6] at hi ⊢;rw[show i+1-E.length=(i-E.length)+1 by omega];generalize i-E.length=j at*
  rcases h2.2 with rfl|⟨e,rfl,he⟩|⟨x,y,rfl,h3⟩
  ·cases hi
  ·match j,hi with
   |0,hi=>cases hi;exact absurd hk he
  ·match j,hi with
   |0,hi=>cases hi;exact⟨y,rfl,h3⟩
   |1,hi=>cases hi;rw[h3.1] at hk;exact absurd hk Y7
structure GOk(c:Cfg)(P:List (List Ins))(s:GS):Prop where
 c0:qH c=0
 pv:∀p∈P,qw p=(0,0)
 dl:(s.d.length:Int)=c.words
 dr:∀x∈s.d,okU x
 kl:s.tk.length=(qA c).toNat
 tl:s.T.length=P.length
 ol:s.O.length=P.length
 th:∀(t:Nat) (th:Thr) (p:List Ins),s.T[t]? =some th→P[t]? =some p→th.rg.ok∧th.pc≤p.length∧stB p th.pc<0∧th.dn=decide (th.pc=p.length)∧okU th.oc
 el:s.E.length≤2*s.n
 ev:EvG c s.E
 ob:∀l∈s.O,l.length≤70*s.n
theorem GOk.fin{c:Cfg}{P:List (List Ins)}{s s':GS}(h:GOk c P s){t:Nat}{p:List Ins}(hp:P[t]? =some p){th':Thr}{l:List ObM}{E:List EvM}{d:List Int}{tk:List Bool}(he:s'=(((s.mem d tk).ev E).fin t th' l))(hd:d.length=s.d.length)(hdr:∀x∈d,okU x)(htk:tk.length=s.tk.length)(hE:EvB c E)(hl:l.length≤70)
  (h1:th'.rg.ok) (h2:th'.pc≤p.length) (h3:stB p th'.pc<0) (h4:th'.dn=decide (th'.pc=p.length)) (h5:okU th'.oc):GOk c P {s' with n:=s.n+1}:=by
 subst he;refine⟨h.c0,h.pv,by show(d.length:Int)=_;rw[hd];exact h.dl,hdr,by show tk.length=_;rw[htk];exact h.kl,by show(s.T.set t th').length=_;rw[zj];exact h.tl,by show(s.O.set t _).length=_;rw[zj];exact h.ol,fun u th q hth hq=> ?_,?_,h.ev.app hE,fun l' hl'=> ?_⟩
 ·replace hth:(s.T.set t th')[u]? =some th:=hth
  rw[zv] at hth
  split at hth
  ·rename_i e;subst e;rw[hp] at hq;obtain rfl:=Option.some.inj hq
   split at hth
   ·obtain rfl:=Option.some.inj hth;exact⟨h1,h2,h3,h4,h5⟩
   ·cases hth
  ·exact h.th u th q hth hq
 ·have:=h.el;have:=hE.len;show(s.E++E).length≤2*(s.n+1);rw[z8];omega
 ·replace hl':l'∈s.O.set t (s.O.getD t []++l):=hl'
  show l'.length≤70*(s.n+1)
  rcases Zh hl' with hl'|rfl
  ·have:=h.ob l' hl';omega
  ·rw[z8,zh];cases hO:s.O[t]? with
   |none=>simp;omega
   |some y=>have:=h.ob y (zg hO);simp;omega
theorem q9k{s:GS}:s.ev []=s:=by unfold GS.ev;rw[zC]
theorem q2v{s:GS}:s.mem s.d s.tk=s:=rfl
theorem qh3{c:Cfg}{n t:Nat}{k a:Int}(hw:0<c.words)(h0:0≤a)(h1:a<c.words)(hk:k≠3):EvB c (plE c n t k a):=by
 have h1':∀x∈ [a],0≤x∧x<c.words:=fun x hx=>by rw[zf.1 hx];exact⟨h0,h1⟩
 have h0':∀x∈([]:List Int),0≤x∧x<c.words:=fun x hx=>by cases hx
 unfold plE
 split
 ·split
  ·exact EvB.pair hw h1' h0' Y8 Y8
  ·exact EvB.pair hw h0' h1' Y8 Y8
 ·refine⟨fun e he=> ?_, .inr (.inl ⟨_,rfl,hk⟩)⟩;rw[zf.1 he];exact⟨⟨h0,h1⟩,h0',h0',zq _,zq _⟩
theorem qmX{c:Cfg}{P:List (List Ins)}{s s':GS}(h:GOk c P s){t:Nat}{th:Thr}{p:List Ins}(hth:s.T[t]? =some th)(hp:P[t]? =some p){x:Ins}(hx:p[th.pc]? =some x)(h7:x.op≠7){f:Int}(hs:sgM c p s th t f x=some s'):GOk c P {s' with n:=s.n+1}:=by
 obtain⟨hrg,hpc,hst,hdn,hoc⟩:=h.th t th p hth hp;have hv:=h.pv p (zg hp);obtain⟨hic,hop⟩:=qgZ hv hx hst;have hI:=(q0T hic).2.2.2.2.1;unfold sgM at hs
 by_cases hpl:x.op=12∨x.op=13
 ·rw[if_pos hpl] at hs;have hnx:=q9M hv hx hst h7 (j:=th.pc+1) (by unfold q2E;rw[if_neg Y6,if_neg Y6,if_neg Y6];simp);have hgo:∀(r:Rg) (E:List EvM) (d:List Int) (l:List ObM),s'=(((s.mem d s.tk).ev E).fin t (th.nxt p.length r) l)→r.ok→EvB c E→d.length=s.d.length→(∀x∈d,okU x)→l.length≤70→GOk c P {s' with n:=s.n+1}:=fun r E d l h6 h1 h2 h3 h4 h5=>
   h.fin hp h6 h3 h4 rfl h2 h5 h1 hnx.2.1 hnx.2.2 rfl hoc
  have hw0:0<c.words:=by have:=(q1g h.c0).1;unfold okW at this;omega
  have ha:=q6R (r:=th.rg) (b:=if x.op=12 then x.b else x.a) (imm:=x.imm);dsimp only at hs;generalize adr th.rg (if x.op=12 then x.b else x.a) x.imm=z at*
  split at hs
  ·split at hs
   ·exact hgo th.rg [] s.d _ (by rw[q9k,q2v];exact(Option.some.inj hs).symm) hrg EvB.nil rfl h.dr Y8
   ·cases hs
  ·split at hs
   ·refine hgo _ [] s.d _ (by rw[q9k,q2v];exact(Option.some.inj hs).symm) ?_ EvB.nil rfl h.dr Y8
    split
    ·exact Rg.ok_set hrg ⟨Y7,Y7⟩
    ·exact hrg
   ·split at hs
    ·exact hgo _ _ s.d _ (by rw[q2v];exact(Option.some.inj hs).symm) (Rg.ok_set hrg (qbW h.dr _)) (qh3 hw0 ha.1 Y6 Y7) rfl h.dr Y8
    ·exact hgo _ _ _ _ (Option.some.inj hs).symm hrg (qh3 hw0 ha.1 Y6 Y7) (zj ..) (q3B h.dr (hrg _)) Y8
 ·rw[if_neg hpl] at hs
  split at hs
  ·cases hs
  ·have haf:((q1o th x:Nat):Int)∈q2E p th.pc x:=by
    unfold q1o q2E
    by_cases h4:x.op=4
    ·rw[if_pos h4,if_pos (Or.inl h4),zf];have:=hI (.inl h4);omega
    ·rw[if_neg h4]
     by_cases h56:x.op=5∨x.op=6
     ·rw[if_pos h56];have:=hI (.inr h56)
      split
      ·simp;omega
      ·simp
     ·rw[if_neg h56,if_neg Y6,if_neg Y6];simp
   have hnx:=q9M hv hx hst h7 haf;refine h.fin (th':={q1q th x with dn:=decide ((q1q th x).pc=p.length)}) (l:=if x.op=16 then [⟨th.pc,6,0⟩] else []) (E:= []) (d:=s.d) (tk:=s.tk) hp (by rw[q9k,q2v];exact(Option.some.inj hs).symm) rfl h.dr rfl EvB.nil ?_ (q8p hrg) hnx.2.1 hnx.2.2 rfl hoc
   split <;>simp
theorem qn9{c:Cfg}{P:List (List Ins)}{s s':GS}(h:GOk c P s){t:Nat}{th:Thr}{p:List Ins}(hth:s.T[t]? =some th)(hp:P[t]? =some p){x:Ins}(hx:p[th.pc]? =some x)(h7:x.op=7){f:Int}{ad:List Int}(had:∀a∈ad,a≤9223372036854775807)(hs:txM c p s th t f ad=some s'):GOk c P {s' with n:=s.n+1}:=by
 obtain⟨hrg,hpc,hst,hdn,hoc⟩:=h.th t th p hth hp;have hv:=h.pv p (zg hp);obtain⟨e,he,hke,hel,_,hse,_⟩:=q0k hv hx h7;unfold txM at hs;rw[he] at hs
 split at hs
 ·split at hs
  ·rename_i hf;exact h.fin (th':=⟨e+1,th.rg,f,decide (e+1=p.length)⟩) (l:= [⟨th.pc,3,f⟩]) (E:= []) (d:=s.d) (tk:=s.tk) hp (by rw[q9k,q2v];exact(Option.some.inj hs).symm) rfl h.dr rfl EvB.nil Y8 hrg (by simp only;omega) (by simp only;omega) rfl ⟨by simp only;omega,by simp only;omega⟩
  ·cases hs
 ·have hBI:BI c ⟨s.d,s.tk,{th with pc:=th.pc+1},[],[],[],ad⟩:=⟨h.dl,h.dr,h.kl,hrg,zq _,zq _,zq _,fun _ h=>(by cases h),fun _ h=>(by cases h),had⟩
  have hrok:=qcE hv hx h7 (c:=c) p.length ⟨s.d,s.tk,{th with pc:=th.pc+1},[],[],[],ad⟩ (Z8 _) (by rw[he];exact hke) hBI;generalize q3U c p p.length ⟨s.d,s.tk,{th with pc:=th.pc+1},[],[],[],ad⟩=z at*;obtain⟨zb,zo⟩:=z;dsimp only at hs hrok
  split at hs
  ·cases hs
  ·rename_i hn;obtain⟨hbi,⟨hz0,hz1⟩,hpce⟩:=hrok (fun e=>hn (.inl e));have hpl:=q70 hv;have h1:=hbi.ol;have hw0:0<c.words:=by have:=(q1g h.c0).1;unfold okW at this;omega
   have h2:=hbi.rl;have h3:=hbi.wl
   split at hs
   ·exact h.fin hp (Option.some.inj hs).symm (by have:=h.dl;have:=hbi.dl;omega) hbi.dr (by rw[hbi.tl,h.kl]) (EvB.pair hw0 hbi.rr hbi.wr Y6 Y6) (by simp;omega) hbi.rg (by simp only;omega) (by simp only;omega) rfl (show okU 1 from ⟨Y7,Y7⟩)
   ·exact h.fin (th':=⟨e+1,th.rg,zo,decide (e+1=p.length)⟩) (l:= [⟨th.pc,3,zo⟩]) (E:= [⟨s.n,t,3,0,[],[]⟩,⟨s.n,t,4,0,zb.r,[]⟩]) (d:=s.d) (tk:=s.tk) hp (by rw[q2v];exact(Option.some.inj hs).symm) rfl h.dr rfl (EvB.pair hw0 hbi.rr (fun _ h=>(by cases h)) Y6 (zq _)) Y8 hrg (by simp only;omega) (by simp only;omega) rfl ⟨by simp only;omega,by simp only;omega⟩
theorem qmz{c:Cfg}{P:List (List Ins)}{s:GS}(h:GOk c P s){ch:ChM}(had:∀a∈ch.ad,a≤9223372036854775807):GOk c P (doM c P s ch).2:=by
 unfold doM;cases hs:chM c P s ch with
 |none=>exact h
 |some s'=>
  unfold chM at hs
  split at hs
  ·cases hs
  ·split at hs
   ·rename_i th p hth hp
    split at hs
    ·cases hs
    ·split at hs
     ·rename_i x hx
      split at hs
      ·exact qn9 h hth hp hx (by assumption) had hs
      ·split at hs
       ·exact qmX h hth hp hx (by assumption) hs
       ·cases hs
     ·cases hs
   ·cases hs
section
variable{W0:World}{Kp K:Own}{g:GP}{c:Cfg}{ps:List PH}{s:GS}
theorem qde(h:g.ok W0 Kp ps s){t:Nat}{th:Thr}{ph:PH}{x:Ins}(hth:s.T[t]? =some th)(hph:ps[t]? =some ph)(hdn:th.dn=false)(hx:ph.p[th.pc]? =some x)(q:Own) [ek:qv q Kp]:
  qE Tryz.prog W0 63 [.pointer (some ⟨g.gb,0,none⟩), .int .i64 t] (g.O c ps.length s++q) (.tuple #[x.v, .bool true]):=by
 refine qg (sH [3,5,7,9,11,13,15,17,19,21,23,25,27,29,31,33,35,38,39,0] ?_);have hTR:=h.t.rd (W0:=W0);have hK:=h.k;have hPR:=h.kp ph (zg hph);have htl:=(z7.1 hth).1;obtain⟨pc,rg,oc,dn⟩:=th;dsimp only at hdn hx;subst hdn
 repeat'((try(conv=>whnf));first|(refine fH ?_)|(refine fD ?_)|(refine fK ?_)|((apply gLd);first|(refine q0r hTR hth rfl ?_)|(refine ql0 hTR hth rfl ?_)|(refine q0r hK hph rfl ?_))|((apply qJ);first|((refine ixE hTR hth ?_ ?_;(first|rfl|omega)))|((refine ixE hK hph ?_ ?_;(first|rfl|omega)))|((refine ixE hPR hx ?_ ?_;(first|rfl|omega))))|((apply q2H);first|(refine q1h hPR hx rfl ?_))|(refine fA ?_)|(refine fL ?_)|(refine fM ?_)|(refine qf (fun bk hbk=> ?_)))
 all_goals exact⟨rfl,(eC)⟩
theorem qdd(h:g.ok W0 Kp ps s){t:Int}(ht:t<0∨(s.T.length:Int)≤t∨∃(j:Nat) (th:Thr),t=j∧s.T[j]? =some th∧th.dn=true)(q:Own):
  qE Tryz.prog W0 63 [.pointer (some ⟨g.gb,0,none⟩), .int .i64 t] (g.O c ps.length s++q) (.tuple #[(⟨0,0,0,0,0⟩:Ins).v, .bool false]):=by
 refine qg (sH [3,5,7,9,11,13,15,17,19,21,23,25,27,29,31,33,35,38,39,0] ?_);have hTR:=h.t.rd (W0:=W0)
 rcases ht with ht|ht|⟨j,th,rfl,hth,hdn⟩
 ·repeat'((try(conv=>whnf));first|(refine fH ?_)|(refine fI ?_)|(refine fE ?_)|(refine fJ ?_)|(refine fL ?_)|(refine fM ?_)|(refine qf (fun bk hbk=> ?_)))
  all_goals exact⟨rfl,(eC)⟩
 ·by_cases h0:t<0
  all_goals
   repeat'((try(conv=>whnf));first|(refine fH ?_)|(refine fI ?_)|(refine fE ?_)|(refine fJ ?_)|(refine fK ?_)|(refine fA ?_)|(refine fL ?_)|(refine fM ?_)|(refine qf (fun bk hbk=> ?_)))
   all_goals exact⟨rfl,(eC)⟩
 ·have htl:=(z7.1 hth).1;obtain⟨pc,rg,oc,dn⟩:=th;dsimp only at hdn;subst hdn
  repeat'((try(conv=>whnf));first|(refine fH ?_)|(refine fE ?_)|(refine fK ?_)|((apply gLd);first|(refine ql0 hTR hth rfl ?_))|((apply qJ);first|((refine ixE hTR hth ?_ ?_;(first|rfl|omega))))|(refine fA ?_)|(refine fL ?_)|(refine fM ?_)|(refine qf (fun bk hbk=> ?_)))
  all_goals exact⟨rfl,(eC)⟩
theorem qnP{p:List Ins}{th:Thr}{t:Nat}{f:Int}{ad:List Int}{s':GS}(h:txM c p s th t f ad=some s'):s'.n=s.n:=by
 unfold txM at h
 split at h
 ·split at h
  ·rw[←Option.some.inj h];rfl
  ·cases h
 ·split at h
  split at h
  ·cases h
  ·split at h <;>(rw[←Option.some.inj h];rfl)
theorem qnN{p:List Ins}{th:Thr}{t:Nat}{f:Int}{x:Ins}{s':GS}(h:sgM c p s th t f x=some s'):s'.n=s.n:=by
 unfold sgM at h
 split at h
 ·generalize adr th.rg (if x.op=12 then x.b else x.a) x.imm=z at h;dsimp only at h
  split at h
  ·split at h
   ·rw[←Option.some.inj h];rfl
   ·cases h
  ·split at h
   ·rw[←Option.some.inj h];rfl
   ·split at h <;>(rw[←Option.some.inj h];rfl)
 ·split at h
  ·cases h
  ·rw[←Option.some.inj h];rfl
theorem qlc{t:Nat}{ph:PH}(h:ps[t]? =some ph):(ps.map PH.p)[t]? =some ph.p:=by rw[zI,h];rfl
theorem qn3(hF:qC W0)(h:g.ok W0 Kp ps s)(hv:g.ev W0)(hG:GOk c (ps.map PH.p) s)(hn:s.n≤5000)(t f:Int){aa:Option Addr}{ad:List Int}{ac:Nat}(hA:RdE qx 1 W0 K aa ad)(hal:ad.length≤ac)(had:∀a∈ad,a≤9223372036854775807)(q:Own) [ek:qv q Kp] [ek2:qv q K]:
  qt Tryz.prog W0 32 [.pointer (some ⟨g.gb,0,none⟩),chV t f aa ad.length ac] (g.O c ps.length s++q) fun v own'=>∃g':GP,
   (v= .int .i64 (doM c (ps.map PH.p) s ⟨t,f,ad⟩).1∧g'.ok W0 Kp ps (doM c (ps.map PH.p) s ⟨t,f,ad⟩).2∧g'.ev W0∧g'.gb=g.gb)∧Ent W0 own' (g'.O c ps.length (doM c (ps.map PH.p) s ⟨t,f,ad⟩).2++q):=by
 refine sH [] ?_
 by_cases hr:t<0∨(s.T.length:Int)≤t∨∃(j:Nat) (th:Thr),t=j∧s.T[j]? =some th∧th.dn=true
 ·have hd:doM c (ps.map PH.p) s ⟨t,f,ad⟩=(70,s):=by
   unfold doM chM
   rcases hr with hr|hr|⟨j,th,rfl,hth,hdn⟩
   ·rw[if_pos hr]
   ·by_cases h0:t<0
    ·rw[if_pos h0]
    ·rw[if_neg h0,zX (by show s.T.length≤t.toNat;omega)]
   ·rw[if_neg (by show ¬((j:Nat):Int)<0;omega)];simp only[zB,hth];cases hp:(ps.map PH.p)[j]? with
    |none=>rfl
    |some p=>simp only[hdn,if_true]
  rw[hd];have hnx:=qdd (c:=c) h hr
  repeat'((try(conv=>whnf));first|(refine fE ?_)|(refine fD ?_)|((apply qe);first|((refine qp (q1E (hnx _)) ?_)))|(refine fO ?_)|(refine fA ?_)|(refine fM ?_)|(refine qf (fun bk hbk=> ?_)))
  all_goals exact⟨g,⟨rfl,h,hv,rfl⟩,(eC)⟩
 ·have ht0:0≤t∧t<s.T.length:=⟨Y6,Y6⟩
  obtain⟨j,rfl⟩:=Z0 ht0.1;have hjl:j<s.T.length:=Y6;obtain⟨th,hth⟩:∃th,s.T[j]? =some th:=⟨_,z6 hjl⟩
  have htl:=hG.tl;rw[zk] at htl;obtain⟨ph,hph⟩:∃ph,ps[j]? =some ph:=⟨_,z6 Y6⟩
  have hpp:=qlc hph;have hpv:=hG.pv ph.p (zg hpp);obtain⟨hrg,hpc,hst,hdn,hoc⟩:=hG.th j th ph.p hth hpp;have hdf:th.dn=false:=by
   cases hd:th.dn with
   |false=>rfl
   |true=>exact absurd (.inr (.inr ⟨j,th,rfl,hth,hd⟩)) hr
  have hpcl:th.pc<ph.p.length:=by
   rw[hdf] at hdn;have:=of_decide_eq_false hdn.symm;omega
  obtain⟨x,hx⟩:∃x,ph.p[th.pc]? =some x:=⟨_,z6 hpcl⟩
  have hnx:=qde (c:=c) h hth hph hdf hx;have hpl:=q70 hpv;have hxi:=qgZ hpv hx hst;have hT:qm5 c ps s j th ph:=⟨hth,hph,hG.c0,hrg,hG.dl,hG.dr,by rw[hG.ol,hG.tl],fun l hl=>by have:=hG.ob l hl;omega,by have:=hG.el;omega⟩
  have hd:doM c (ps.map PH.p) s ⟨j,f,ad⟩=match (if x.op=7 then txM c ph.p s th j f ad else if ad= [] then sgM c ph.p s th j f x else none) with
   |some s'=>(0,{s' with n:=s.n+1})
   |none=>(70,s):=by
   unfold doM chM;rw[if_neg (by show ¬((j:Nat):Int)<0;omega)];simp only[zB,hth,hpp,hdf,zO,if_false,hx];cases (if x.op=7 then txM c ph.p s th j f ad else if ad= [] then sgM c ph.p s th j f x else none) <;>rfl
  rw[hd];clear hd;have hnn:∀s':GS,(if x.op=7 then txM c ph.p s th j f ad else if ad= [] then sgM c ph.p s th j f x else none)=some s'→s'.n=s.n:=fun s' e=>by
   split at e
   ·exact qnP e
   ·split at e
    ·exact qnN e
    ·cases e
  by_cases h7:x.op=7
  ·rw[if_pos h7] at hnn ⊢;have hbe:=qfl (c:=c) hF hT h hv hpv hx h7 hG.kl f hA hal had q;generalize txM c ph.p s th j f ad=o at*;obtain⟨op,a,b',c',imm⟩:=x;dsimp only[Ins.v] at*;subst h7
   repeat'((try(conv=>whnf));first|(refine fE ?_)|(refine fD ?_)|((apply qe);first|((refine qp (q1E (hnx _)) ?_))|((refine q2g hbe ?_ ?_ ?_ (fun v hv=> ?_) (fun s' v hv=> ?_);(exact(eC));(exact rfl);(exact rfl);(obtain⟨rfl,hvn⟩:=hv);rotate_left;(obtain⟨rfl,ho,hk1,hv1,hgb1⟩:=hv);(have hnn2:=hnn _ ho);(subst ho);(rw[←hgb1]))))|(refine fB ?_)|(refine fO ?_)|(refine fA ?_)|(refine fL ?_)|(refine fN ?_)|(refine fM ?_)|(refine qf (fun bk hbk=> ?_)))
   ·have e1:((s.n+1:Nat):Int)=(s'.1.n:Int)+1:=Y6;refine⟨s'.2,⟨rfl,⟨hk1.d,hk1.m,hk1.k,hk1.kp,hk1.t,hk1.e,hk1.em,hk1.o,hk1.os,hk1.ol⟩,hv1,rfl⟩,?_⟩;dsimp only[GP.O,GP.cells];rw[e1];exact(eC)
   ·subst hvn;exact⟨g,⟨rfl,h,hv,rfl⟩,(eC)⟩
  ·rw[if_neg h7] at hnn ⊢
   by_cases had0:ad= []
   ·rw[if_pos had0] at hnn ⊢;have hl:(ad.length:Int)=0:=by rw[had0];rfl
    have hsi:=qdn (c:=c) hT h hv hxi.1 ⟨hpcl,hpl⟩ f aa ad.length ac q;generalize sgM c ph.p s th j f x=o at*;obtain⟨op,a,b',c',imm⟩:=x;dsimp only[Ins.v] at*
    repeat'((try(conv=>whnf));first|(refine fH ?_)|(refine fE ?_)|(refine fD ?_)|(refine fG ?_)|(refine fJ ?_)|((apply qe);first|((refine qp (q1E (hnx _)) ?_))|((refine q2g hsi ?_ ?_ ?_ (fun v hv=> ?_) (fun s' v hv=> ?_);(exact(eC));(exact rfl);(exact rfl);(obtain⟨rfl,hvn⟩:=hv);rotate_left;(obtain⟨rfl,ho,hk1,hv1,hgb1⟩:=hv);(have hnn2:=hnn _ ho);(subst ho);(rw[←hgb1]))))|(refine fB ?_)|(refine fO ?_)|(refine fA ?_)|(refine fL ?_)|(refine fN ?_)|(refine fM ?_)|(refine qf (fun bk hbk=> ?_)))
    ·have e1:((s.n+1:Nat):Int)=(s'.1.n:Int)+1:=Y6;refine⟨s'.2,⟨rfl,⟨hk1.d,hk1.m,hk1.k,hk1.kp,hk1.t,hk1.e,hk1.em,hk1.o,hk1.os,hk1.ol⟩,hv1,rfl⟩,?_⟩;dsimp only[GP.O,GP.cells];rw[e1];exact(eC)
    ·subst hvn;exact⟨g,⟨rfl,h,hv,rfl⟩,(eC)⟩
   ·rw[if_neg had0];have hl:¬(ad.length:Int)=0:=fun e=>had0 (Z9 Y6)
    obtain⟨op,a,b',c',imm⟩:=x;dsimp only[Ins.v] at*
    repeat'((try(conv=>whnf));first|(refine fI ?_)|(refine fE ?_)|(refine fD ?_)|(refine fG ?_)|(refine fK ?_)|((apply qe);first|((refine qp (q1E (hnx _)) ?_)))|(refine fO ?_)|(refine fA ?_)|(refine fM ?_)|(refine qf (fun bk hbk=> ?_)))
    exact⟨g,⟨rfl,h,hv,rfl⟩,(eC)⟩
end
open Go
structure RG where
 da:Option Addr
 dc:Nat
 dD:Own
 ta:Option Addr
 tc:Nat
 tD:Own
 ea:Option Addr
 ec:Nat
 eD:Own
 L:List EH
 X:Own
 oa:Option Addr
 oc:Nat
 oD:Own
 S:List ObS
abbrev RG.v(r:RG)(s:GS):Value:= .agg #[.slice r.da s.d.length r.dc, .slice r.ta s.T.length r.tc, .slice r.ea r.L.length r.ec, .slice r.oa r.S.length r.oc]
def RG.D(r:RG):Own:=r.dD++(r.tD++(r.eD++(r.X++(r.oD++q5j r.S))))
structure RG.ok(r:RG)(W0:World)(s:GS):Prop where
 d:qu q09 49 1 r.da r.dc s.d r.dD
 t:qu Thr.enc 89 11 r.ta r.tc s.T r.tD
 e:qu EH.enc 84 6 r.ea r.ec r.L r.eD
 em:r.L.map EH.m=s.E
 ev:∀e∈r.L,RdE qx 1 W0 r.X e.ra e.rl∧RdE qx 1 W0 r.X e.wa e.wl
 o:qu ObS.enc 76 1 r.oa r.oc r.S r.oD
 os:∀x∈r.S,qu ObM.enc 78 3 x.a x.cap x.l x.D
 ol:r.S.map ObS.l=s.O
theorem qdP{α β:Type}{f:α→β}{l:List α}{m:List α}{i:Nat}{e e':α}(h:m.map f=(l.take i).map f)(hx:l[i]? =some e)(he:f e'=f e):(m++ [e']).map f=(l.take (i+1)).map f:=by
 obtain⟨hl,hx⟩:=z7.1 hx;rw[zZ,z6 hl,hx];simp[h,he]
theorem qig{α β:Type}{f:α→β}{l:List α}{m:List α}{i:Nat}(h:m.map f=(l.take i).map f)(hi:i≤l.length):m.length=i:=by
 have:=congrArg List.length h
 simpa [Nat.min_eq_left hi] using this
section
variable{W0:World}{e b:Nat×(Obj→Prop)}{A B Z:Own}
theorem qkw:Ent W0 (e::(B++(A++(b::Z)))) (b::(e::(A++(B++Z)))):=q02 []
theorem qkx:Ent W0 (B++(e::(A++(b::Z)))) (b::(e::(A++(B++Z)))):=q02 []
theorem qky:Ent W0 (B++(A++(e::(b::Z)))) (b::(e::(A++(B++Z)))):=q02 []
theorem qkz:Ent W0 (e::(A++(B++(b::Z)))) (b::(e::(A++(B++Z)))):=q02 []
theorem qkA:Ent W0 (A++(e::(B++(b::Z)))) (b::(e::(A++(B++Z)))):=q02 []
theorem qkB:Ent W0 (A++(B++(e::(b::Z)))) (b::(e::(A++(B++Z)))):=q02 []
theorem qkC{bk b5 b2 b3:Nat×(Obj→Prop)}{D1 D2 D3 D4 D5 X:Own}:Ent W0 (bk::(D4++(D3++(b5::(b2::(b3::(D1++(D2++(D5++(X++Z)))))))))) (b2::(b3::(D1++(D2++(D5++((D3++(D4++X))++Z)))))):=q02 [bk,b5]
theorem qkD{bk b2 b3:Nat×(Obj→Prop)}{D1 D2 D3 eD D5 X S:Own}:Ent W0 (bk::(D3++(b2::(b3::(D1++(D2++(eD++(X++(D5++(S++Z)))))))))) (b2::(b3::(D1++(D2++(eD++(X++(D5++((S++D3)++Z)))))))):=q02 [bk]
theorem qkE{b2 b3:Nat×(Obj→Prop)}{D1 D2 eD oD X S:Own}:Ent W0 (b2::(b3::(D1++(D2++(eD++(X++(oD++(S++Z)))))))) ((D1++(D2++(eD++(X++(oD++S)))))++Z):=q02 [b2,b3]
end
theorem qeW{S:List ObS}{x:ObS}:q5j (S++ [x])=q5j S++x.D:=by simp[q5j]
section
variable{W0:World}{Kp:Own}{g:GP}{c:Cfg}{ps:List PH}{s:GS}
theorem qau(h:g.ok W0 Kp ps s)(hv:g.ev W0)(hd:s.d.length≤500000)(hT:s.T.length≤500000)(hE:s.E.length≤500000)(hO:s.O.length≤500000)(hOl:∀l∈s.O,l.length≤500000)(hin:∀e∈s.E,e.r.length≤500000∧e.wl.length≤500000)(q:Own):
  qt Tryz.prog W0 33 [.pointer (some ⟨g.gb,0,none⟩)] (g.O c ps.length s++q) fun v own'=>∃r:RG,
   (v=r.v s∧r.ok W0 s)∧Ent W0 own' (r.D++(g.O c ps.length s++q)):=by
 have hEl:g.L.length=s.E.length:=by rw[←h.em,zk]
 have hSl:g.S.length=s.O.length:=by rw[←h.ol,zk]
 have hER:=h.e.rd (W0:=W0);have hOR:=h.o.rd (W0:=W0);refine sC [69] [3,5,7,9,11,15,17,19,1,14,21,1,24,25,28,30,0,28,24,25,30,0,1,21,1,14,1,24,25,28,30,0,28,24,25,30,0,28,14,24,25,30,0,28,1,14,21,24,25,30,0,21,14,24,25,30,0,3,5,9,1,8,11,15,14,18,19,22,0,11,8,15,14,18,19,22,0,3,7,1,5,10,12,14,15,18,0,10,5,12,14,15,18,0] ?_;have hcd:=fun(own':Own) [qv own' g.dD]=>qK (cap:=g.dc) (RdE.up (own:=own') (h.d.rd (W0:=W0))) Y6
 have hct:=fun(own':Own) [qv own' g.tD]=>q4N (cap:=g.tc) (RdE.up (own:=own') (h.t.rd (W0:=W0))) Y6
 repeat'((try(conv=>whnf));first|(refine qf (fun b2 h2=> ?_);(apply Stop.h)))
 refine Stop.mk ?_
 repeat'((try(conv=>whnf));first|(refine fD ?_))
 refine q3z (σ:=Nat×(Option Addr×Nat×Own)×(Option Addr×Nat×Own)) 8386568 (fun y=> [(3, .pointer (some ⟨y.1,0,none⟩))])
  (fun y=>(b2,fun o=>o=Obj.cells #[.slice none 0 0, .slice none 0 0, .slice none 0 0, .slice none 0 0] 68 (0,0))::((y.1,fun o=>o=Obj.cells #[.slice y.2.1.1 s.d.length y.2.1.2.1, .slice y.2.2.1 s.T.length y.2.2.2.1, .slice none 0 0, .slice none 0 0] 68 (0,0))::(y.2.1.2.2++(y.2.2.2.2++(g.O c ps.length s++q)))))
  (fun y=>qu q09 49 1 y.2.1.1 y.2.1.2.1 s.d y.2.1.2.2∧qu Thr.enc 89 11 y.2.2.1 y.2.2.2.1 s.T y.2.2.2.2) rfl ?_ ?_
 ·repeat'((try(conv=>whnf));first|(refine qf (fun b3 h3=> ?_))|((apply qe);first|((refine qi (hcd _) (fun y v hv=> ?_);(obtain⟨a1,c1,D1⟩:=y;obtain⟨rfl,hB⟩:=hv;dsimp only at hB)))|((refine qi (hct _) (fun y v hv=> ?_);(obtain⟨a2,c2,D2⟩:=y;obtain⟨rfl,hB2⟩:=hv;dsimp only at hB2))))|(refine fA ?_)|(refine fM ?_)|(refine q1c.mk ?_ ?_))
  all_goals
   refine⟨(b3,(a1,c1,D1),(a2,c2,D2)),⟨hB,hB2⟩,(eF),?_⟩
   first|exact qkw|exact qkx|exact qky|exact qkz|exact qkA|exact qkB
 ·rintro⟨b3,⟨a1,c1,D1⟩,⟨a2,c2,D2⟩⟩ junk ⟨hB1,hB2⟩;dsimp only at hB1 hB2 ⊢
  repeat'((try(conv=>whnf));first|(refine fA ?_))
  --the events
  refine qX (σ:=Nat×List EH×Own×Option Addr×Nat×Own) (fun y=> [(28, .int .i64 y.1)])
   (fun y=>(b2,fun o=>o=Obj.cells #[.slice none 0 0, .slice none 0 0, .slice none 0 0, .slice none 0 0] 68 (0,0))::((b3,fun o=>o=Obj.cells #[.slice a1 s.d.length c1, .slice a2 s.T.length c2, .slice y.2.2.2.1 y.2.1.length y.2.2.2.2.1, .slice none 0 0] 68 (0,0))::(D1++(D2++(y.2.2.2.2.2++(y.2.2.1++(g.O c ps.length s++q)))))))
   (fun y=>y.1≤g.L.length∧y.2.1.map EH.m=(g.L.take y.1).map EH.m∧qu EH.enc 84 6 y.2.2.2.1 y.2.2.2.2.1 y.2.1 y.2.2.2.2.2∧∀e∈y.2.1,RdE qx 1 W0 y.2.2.1 e.ra e.rl∧RdE qx 1 W0 y.2.2.1 e.wa e.wl)
   (fun y=>g.L.length-y.1) (0,[],[],none,0,[]) ⟨zq _,rfl,qu.nil,fun _ h=>by cases h⟩ (eF) ?_ rfl ?_
  ·exact Ent.refl
  ·rintro⟨i,L',X',ea,ec,eD⟩ junk ⟨hi,hm,hB,hX⟩;dsimp only at hi hm hB hX ⊢;have hll:=qig hm hi
   by_cases hil:i<g.L.length
   ·obtain⟨e,hx⟩:∃e,g.L[i]? =some e:=⟨_,z6 hil⟩
    have hem:=zg hx;have hvr:=(hv e hem).1;have hvw:=(hv e hem).2;have hie:=hin e.m (by rw[←h.em];exact y2 hem);obtain⟨ev,et,ekk,ew,era,erl,erc,ewa,ewl,ewc⟩:=e;dsimp only[EH.m] at hvr hvw hie hx;have hcr:=fun(own':Own) [qv own' g.X]=>qI (cap:=erc) (RdE.up (own:=own') hvr) Y6
    have hcw:=fun(own':Own) [qv own' g.X]=>qI (cap:=ewc) (RdE.up (own:=own') hvw) Y6
    repeat'((try(conv=>whnf));first|(refine fF ?_)|(refine qf (fun b5 h5=> ?_);(apply Stop.h))|((apply qJ);first|((refine ixE hER hx ?_ ?_;(first|rfl|omega))))|((apply q2H);first|(refine q1h hER hx rfl ?_)))
    refine Stop.mk ?_
    repeat'((try(conv=>whnf));first|(apply q0p (enc:=EH.enc) (T:=84) ⟨ev,et,ekk,ew,a3,erl,c3,a4,ewl,c4⟩ hB;(exact rfl);(exact rfl);(omega);(exact rfl);(exact rfl);(omega);intro a9 c9 D5 hb1)|((apply qe);first|((refine qi (hcr _) (fun y v hv=> ?_);(obtain⟨a3,c3,D3⟩:=y;obtain⟨rfl,hB3⟩:=hv;dsimp only at hB3)))|((refine qi (hcw _) (fun y v hv=> ?_);(obtain⟨a4,c4,D4⟩:=y;obtain⟨rfl,hB4⟩:=hv;dsimp only at hB4))))|(refine fB ?_)|(refine fA ?_)|(refine fL ?_)|(refine fN ?_)|(refine fM ?_)|(refine qf (fun bk hbk=> ?_))|(refine q1c.mk ?_ ?_))
    all_goals
     refine⟨(i+1,L'++ [⟨ev,et,ekk,ew,a3,erl,c3,a4,ewl,c4⟩],D3++(D4++X'),a9,c9,D5),⟨hil,qdP hm hx rfl,hb1,fun e he=> ?_⟩,(by show g.L.length-(i+1)<g.L.length-i;omega),(eF),?_⟩
     ·rcases zz.1 he with he|he
      ·exact⟨(hX e he).1.up,(hX e he).2.up⟩
      ·rw[zf.1 he];exact⟨RdE.up (hB3.rd (W0:=W0)),RdE.up (hB4.rd (W0:=W0))⟩
     ·have hlen:(L'++ [(⟨ev,et,ekk,ew,a3,erl,c3,a4,ewl,c4⟩:EH)]).length=L'.length+1:=Y8;dsimp only;rw[hlen];exact qkC
   ·have hiN:i=g.L.length:=Y6;subst hiN;rw[Z4] at hm
    repeat'((try(conv=>whnf));first|(refine fG ?_)|(refine fA ?_))
    refine qX (σ:=Nat×List ObS×Option Addr×Nat×Own) (fun y=> [(52, .int .i64 y.1)])
     (fun y=>(b2,fun o=>o=Obj.cells #[.slice none 0 0, .slice none 0 0, .slice none 0 0, .slice none 0 0] 68 (0,0))::((b3,fun o=>o=Obj.cells #[.slice a1 s.d.length c1, .slice a2 s.T.length c2, .slice ea L'.length ec, .slice y.2.2.1 y.2.1.length y.2.2.2.1] 68 (0,0))::(D1++(D2++(eD++(X'++(y.2.2.2.2++(q5j y.2.1++(g.O c ps.length s++q)))))))))
     (fun y=>y.1≤g.S.length∧y.2.1.map ObS.l=(g.S.take y.1).map ObS.l∧qu ObS.enc 76 1 y.2.2.1 y.2.2.2.1 y.2.1 y.2.2.2.2∧∀x∈y.2.1,qu ObM.enc 78 3 x.a x.cap x.l x.D)
     (fun y=>g.S.length-y.1) (0,[],none,0,[]) ⟨zq _,rfl,qu.nil,fun _ h=>by cases h⟩ (eF) ?_ rfl ?_
    ·exact Ent.refl
    ·rintro⟨j,S',oa,oc,oD⟩ junk ⟨hj,hmS,hBS,hSS⟩;dsimp only at hj hmS hBS hSS ⊢;have hllS:=qig hmS hj
     by_cases hjl:j<g.S.length
     ·obtain⟨x,hx⟩:∃x,g.S[j]? =some x:=⟨_,z6 hjl⟩
      have hxm:=zg hx;have hxB:=(h.os x hxm).rd (W0:=W0);have hxl:=hOl x.l (by rw[←h.ol];exact y2 hxm);have hsp:=q3C hx;obtain⟨xa,xc,xl,xD⟩:=x;dsimp only at hxB hxl hsp;have hco:=fun(own':Own) [qv own' xD]=>q3X (cap:=xc) (RdE.up (own:=own') hxB) Y6
      dsimp only[GP.O];rw[hsp]
      repeat'((try(conv=>whnf));first|(refine fF ?_)|(apply q0p (enc:=ObS.enc) (T:=76) ⟨a3,c3,xl,D3⟩ hBS;(exact rfl);(exact rfl);(omega);(exact rfl);(exact rfl);(omega);intro a9 c9 D5 hb1)|((apply gLd);first|(refine q0r hOR hx rfl ?_))|((apply qJ);first|((refine ixE hOR hx ?_ ?_;(first|rfl|omega))))|((apply qe);first|((refine qi (hco _) (fun y v hv=> ?_);(obtain⟨a3,c3,D3⟩:=y;obtain⟨rfl,hB3⟩:=hv;dsimp only at hB3))))|(refine fB ?_)|(refine fA ?_)|(refine fN ?_)|(refine qf (fun bk hbk=> ?_))|(refine q1c.mk ?_ ?_))
      all_goals
       refine⟨(j+1,S'++ [⟨a3,c3,xl,D3⟩],a9,c9,D5),⟨hjl,qdP hmS hx rfl,hb1,fun e he=> ?_⟩,(by show g.S.length-(j+1)<g.S.length-j;omega),(eF),?_⟩
       ·rcases zz.1 he with he|he
        ·exact hSS e he
        ·rw[zf.1 he];exact hB3
       ·have hlen:(S'++ [(⟨a3,c3,xl,D3⟩:ObS)]).length=S'.length+1:=Y8;dsimp only;rw[hlen,qeW];exact qkD
     ·have hjN:j=g.S.length:=Y6;subst hjN;rw[Z4] at hmS
      repeat'((try(conv=>whnf));first|(refine fG ?_)|(refine fL ?_)|(refine fM ?_))
      exact⟨⟨a1,c1,D1,a2,c2,D2,ea,ec,eD,L',X',oa,oc,oD,S'⟩,⟨rfl,⟨hB1,hB2,hB,by rw[hm,h.em],hX,hBS,hSS,by rw[hmS,h.ol]⟩⟩,qkE⟩
end
open Go
theorem qks{W0:World}{e m:Nat×(Obj→Prop)}{A Z:Own}:Ent W0 (e::(m::(A++Z))) (e::(A++(m::Z))):=q02 []
theorem qkt{W0:World}{e m:Nat×(Obj→Prop)}{A Z:Own}:Ent W0 (e::(A++(m::Z))) (e::(A++(m::Z))):=Ent.refl
theorem qku{W0:World}{bk bk2 gb mb b1:Nat×(Obj→Prop)}{D1 D3 D8 D9 L Z:Own}:Ent W0 (bk::(bk2::(D3++(gb::(D1++(mb::(D8++(L++(D9++(b1::Z)))))))))) (gb::(D1++(mb::(D8++((L++D3)++(D9++(b1::Z))))))):=q02 [bk,bk2]
theorem qkv{W0:World}{gb mb b1:Nat×(Obj→Prop)}{D1 D5 kD tD L Z:Own}:Ent W0 (D5++(gb::(D1++(mb::(kD++(L++(tD++(b1::Z)))))))) ((gb::(D1++(mb::(tD++([]++(D5++([]++ [])))))))++((kD++L)++Z)):=q02 [b1]
theorem qit{W0:World}{kD:Own}{ys:List PB}{x:PB}{a:Option Addr}{l:List Ins}(hx:x∈ys)(h:RdE Ins.enc 5 W0 x.D a l):RdE Ins.enc 5 W0 (kD++qb7 ys) a l:=by
 obtain⟨l1,l2,rfl⟩:=ZS hx;refine h.ent ?_;simp only[qb7,zH,zF,zY,Z2];exact q02 (kD++((l1.map PB.D).flatten++(l2.map PB.D).flatten))
theorem q9R:∀(ps:List PH) (t:Nat),psG ps t=none→∀h∈ps,qw h.p=(0,0)
 | [],_,_,_,h=>by cases h
 |x::l,t,hn,y,hy=>by
  unfold psG at hn
  split at hn
  ·cases hn
  ·rename_i h0
   rcases zQ.1 hy with rfl|hy
   ·have h0':(qw y.p).2=0:=Y6;exact q81.1 h0'
   ·exact q9R l (t+1) hn y hy
theorem qlb:∀(ps:List PH) (t:Nat) (r:Int×Int×Int),psG ps t=some r→r.2.2≠0
 | [],_,_,h=>by cases h
 |x::l,t,r,hn=>by
  unfold psG at hn
  split at hn
  ·rename_i h0;rw[←Option.some.inj hn];exact h0
  ·exact qlb l (t+1) r hn
theorem qkb{c:Cfg}{il:Nat}{ps:List PH}(h:(csM c il ps []).2.2=0):csM c il ps []=(0,0,0)∧qH c=0∧(1≤ps.length∧ps.length≤16)∧(il:Int)=c.words∧∀h∈ps,qw h.p=(0,0):=by
 unfold csM at h ⊢
 by_cases h0:qH c=0
 ·rw[if_neg Y6] at h ⊢
  by_cases h1:ps.length<1∨16<ps.length
  ·rw[if_pos h1] at h;exact absurd h Y7
  ·rw[if_neg h1] at h ⊢
   by_cases h2:(il:Int)≠c.words
   ·rw[if_pos h2] at h;exact absurd h Y7
   ·rw[if_neg h2] at h ⊢;cases hp:psG ps 0 with
    |some r=>rw[hp] at h;exact absurd h (qlb ps 0 r hp)
    |none=>exact⟨rfl,h0,Y6,Y6,q9R ps 0 hp⟩
 ·rw[if_pos h0] at h;exact absurd h h0
def qb8(p:List Ins):Thr:=⟨0,⟨0,0,0,0,0,0,0,0⟩,0,decide (p.length=0)⟩
section
variable{W0:World}{own:Own}{c:Cfg}{ia pa ka:Option Addr}{ic pc kc:Nat}{ps:List PH}{il ks:List Int}
theorem qlr(hF:qC W0)(hI:RdE q09 1 W0 own ia il)(hil:il.length≤1000000)(hP:RdE PH.enc 1 W0 own pa ps)(hQ:∀h∈ps,RdE Ins.enc 5 W0 own h.a h.p):
  qt Tryz.prog W0 31 [qaG c ia il.length ic pa ps.length pc ka ks.length kc] own fun v own'=>
   ((v= .tuple #[.pointer none, .int .i64 (csM c il.length ps []).1, .int .i64 (csM c il.length ps []).2.1, .int .i64 (csM c il.length ps []).2.2]∧(csM c il.length ps []).2.2≠0)∧Ent W0 own' own)∨
   ∃y:GP×List PB×Own,(v= .tuple #[.pointer (some ⟨y.1.gb,0,none⟩), .int .i64 0, .int .i64 0, .int .i64 0]∧csM c il.length ps []=(0,0,0)∧
    y.1.ok W0 (y.2.2++qb7 y.2.1) (y.2.1.map PB.h) (q4a c il (ps.map PH.p))∧y.1.ev W0∧(y.2.1.map PB.h).map PH.p=ps.map PH.p∧y.1.L= [])∧Ent W0 own' (y.1.O c (y.2.1.map PB.h).length (q4a c il (ps.map PH.p))++((y.2.2++qb7 y.2.1)++own)):=by
 refine sC [123] [3,5,13,1,8,15,10,11,17,20,21,0,1,10,1,8,11,15,17,20,21,0,15,8,11,17,20,21,0,15,1,8,10,11,17,20,21,0,10,8,11,17,20,21,0,3,5,7,9,13,1,11,16,18,20,21,23,26,0,16,11,18,20,21,23,26,0] ?_;have hcs:=fun(own':Own) [qv own' own]=>qln (c:=c) (ia:=ia) (il:=il.length) (ic:=ic) (pc:=pc) (ka:=none) (ks:= []) (kc:=0) (own:=own') hF (RdE.up hP) (fun h hh=>RdE.up (hQ h hh)) RdE.nil
 by_cases he:(csM c il.length ps []).2.2=0
 ·obtain⟨h0,hc0,hpl,hiw,hck⟩:=qkb he;rw[h0] at hcs ⊢;have hcl:=fun(own':Own) [qv own' own]=>qK (cap:=ic) (RdE.up (own:=own') hI) Y6
  repeat'((try(conv=>whnf));first|(refine qf (fun b1 h1=> ?_);(apply Stop.h)))
  refine Stop.mk ?_
  repeat'((try(conv=>whnf));first|(refine fD ?_)|((apply qe);first|((refine qd (hcs _) ?_)))|(refine fO ?_)|(refine fL ?_)|(refine fN ?_))
  refine q3z (σ:=Nat×Nat×Option Addr×Nat×Own) 535822340 (fun y=> [(2, .pointer (some ⟨y.1,0,none⟩))])
   (fun y=>(y.1,fun o=>o=Obj.cells (.slice y.2.2.1 il.length y.2.2.2.1:: .map (some y.2.1)::cfL c [.slice none 0 0, .slice none 0 0, .slice none 0 0, .slice none 0 0, .int .i64 0]).toArray 152 (0,0))::(y.2.2.2.2++((y.2.1,q2C (mpV []))::((b1,fun o=>o=Obj.cells (qh8 c (.slice ia il.length ic) (.slice pa ps.length pc) (.slice none 0 0)) 31 (0,0))::own))))
   (fun y=>qu q09 49 1 y.2.2.1 y.2.2.2.1 il y.2.2.2.2) rfl ?_ ?_
  ·repeat'((try(conv=>whnf));first|(refine qnf.mk (fun mb hmb=> ?_))|(refine qf (fun gb hgb=> ?_))|((apply qe);first|((refine qi (hcl _) (fun y v hv=> ?_);(obtain⟨a1,c1,D1⟩:=y;obtain⟨rfl,hB⟩:=hv;dsimp only at hB))))|(refine fA ?_)|(refine fQ ?_)|(refine q1c.mk ?_ ?_))
   all_goals
    refine⟨(gb,mb,a1,c1,D1),hB,(eF),?_⟩
    first|exact qks|exact qkt
  ·rintro⟨gb,mb,a1,c1,D1⟩ junk hB1;dsimp only at hB1 ⊢
   repeat'((try(conv=>whnf));first|(refine fA ?_))
   refine qX (σ:=Nat×List PB×(Option Addr×Nat×Own)×(Option Addr×Nat×Own)) (fun y=> [(32, .int .i64 y.1)])
    (fun y=>(gb,fun o=>o=Obj.cells (.slice a1 il.length c1:: .map (some mb)::cfL c [.slice y.2.2.1.1 (y.2.1.map PB.h).length y.2.2.1.2.1, .slice y.2.2.2.1 ((ps.take y.1).map fun h=>qb8 h.p).length y.2.2.2.2.1, .slice none 0 0, .slice none 0 0, .int .i64 0]).toArray 152 (0,0))::(D1++((mb,q2C (mpV []))::(y.2.2.1.2.2++(qb7 y.2.1++(y.2.2.2.2.2++((b1,fun o=>o=Obj.cells (qh8 c (.slice ia il.length ic) (.slice pa ps.length pc) (.slice none 0 0)) 31 (0,0))::own)))))))
    (fun y=>y.1≤ps.length∧(y.2.1.map PB.h).map PH.p=(ps.take y.1).map PH.p∧qu PH.enc 38 1 y.2.2.1.1 y.2.2.1.2.1 (y.2.1.map PB.h) y.2.2.1.2.2∧(∀x∈y.2.1,x.ok)∧qu Thr.enc 89 11 y.2.2.2.1 y.2.2.2.2.1 ((ps.take y.1).map fun h=>qb8 h.p) y.2.2.2.2.2)
    (fun y=>ps.length-y.1) (0,[],(none,0,[]),(none,0,[])) ⟨zq _,rfl,qu.nil,(fun _ h=>(by cases h)),qu.nil⟩ (eF) Ent.refl rfl ?_
   rintro⟨i,ys,⟨ka',kc',kD⟩,⟨ta,tc,tD⟩⟩ junk ⟨hi,hm,hBk,hys,hBt⟩;dsimp only at hi hm hBk hys hBt ⊢;have hyl:(ys.map PB.h).length=i:=qig hm hi;have htl:((ps.take i).map fun h=>qb8 h.p).length=i:=by simp;omega
   by_cases hil:i<ps.length
   ·obtain⟨x,hx⟩:∃x,ps[i]? =some x:=⟨_,z6 hil⟩
    have hxm:=zg hx;have hxP:=hQ x hxm;have hxl:=q70 (hck x hxm);obtain⟨xa,xc,xp⟩:=x;dsimp only at hxP hxl;have hci:=fun(own':Own) [qv own' own]=>q2K (cap:=xc) (RdE.up (own:=own') hxP) Y6
    have hthr:∀b:Bool,b=decide (xp.length=0)→ [.int .i64 0, .int .u64 0, .int .u64 0, .int .u64 0, .int .u64 0, .int .u64 0, .int .u64 0, .int .u64 0, .int .u64 0, .int .i64 0, .bool b]=(qb8 xp).enc:=fun b hb=>by rw[hb];rfl
    repeat'((try(conv=>whnf));first|(refine fF ?_)|(apply q0p (enc:=PH.enc) (T:=38) ⟨a3,c3,xp⟩ hBk;(exact rfl);(exact rfl);(omega);(exact rfl);(exact rfl);(omega);intro a8 c8 D8 hb8)|(apply q0p (enc:=Thr.enc) (T:=89) (qb8 xp) hBt;(refine hthr _ ?_;simp);(exact rfl);(omega);(exact rfl);(exact rfl);(omega);intro a9 c9 D9 hb9)|((apply gLd);first|(refine q0r hP hx rfl ?_))|((apply qJ);first|((refine ixE hP hx ?_ ?_;(first|rfl|omega))))|((apply qe);first|((refine qi (hci _) (fun y v hv=> ?_);(obtain⟨a3,c3,D3⟩:=y;obtain⟨rfl,hB3⟩:=hv;dsimp only at hB3))))|(refine fB ?_)|(refine fA ?_)|(refine fN ?_)|(refine qf (fun bk hbk=> ?_))|(refine q1c.mk ?_ ?_))
    all_goals
     have hsn:ys.map PB.h++ [⟨a3,c3,xp⟩]=(ys++ [(⟨⟨a3,c3,xp⟩,D3⟩:PB)]).map PB.h:=Y8;have htk:((ps.take i).map fun h=>qb8 h.p)++ [qb8 xp]=(ps.take (i+1)).map fun h=>qb8 h.p:=by
      rw[zZ,hx];simp
     rw[hsn] at hb8;rw[htk] at hb9;refine⟨(i+1,ys++ [⟨⟨a3,c3,xp⟩,D3⟩],(a8,c8,D8),(a9,c9,D9)),⟨hil,by rw[←hsn];exact qdP hm hx rfl,hb8,fun x hx=> ?_,hb9⟩,(by show ps.length-(i+1)<ps.length-i;omega),(eF),?_⟩
     ·rcases zz.1 hx with hx|hx
      ·exact hys x hx
      ·rw[zf.1 hx];exact hB3
     ·have e1:((ys++ [(⟨⟨a3,c3,xp⟩,D3⟩:PB)]).map PB.h).length=(ys.map PB.h).length+1:=Y8;have e2:((ps.take (i+1)).map fun h=>qb8 h.p).length=((ps.take i).map fun h=>qb8 h.p).length+1:=by rw[←htk];simp
      dsimp only;rw[e1,e2,qck];exact qku
   ·have hiN:i=ps.length:=Y6;subst hiN;rw[Z4] at hm hBt ⊢
    repeat'((try(conv=>whnf));first|(refine fG ?_)|(refine mkE (enc:=ObS.enc) ⟨none,0,[],[]⟩ rfl rfl Y6 (fun a5 c5 D5 hb5=> ?_))|(refine fA ?_)|(refine fN ?_))
    have hT:(q4a c il (ps.map PH.p)).T=ps.map fun h=>qb8 h.p:=by simp[q4a,qb8]
    have hz:q5j (List.replicate (ys.map PB.h).length (⟨none,0,[],[]⟩:ObS))= []:=by simp[q5j]
    replace hb5:qu ObS.enc 76 1 a5 c5 (List.replicate (ys.map PB.h).length ⟨none,0,[],[]⟩) D5:=hb5
    refine .inr ⟨(⟨gb,mb,[],a1,c1,D1,ka',kc',ta,tc,tD,none,0,[],[],[],a5,c5,D5,List.replicate (ys.map PB.h).length ⟨none,0,[],[]⟩⟩,ys,kD),⟨rfl,rfl,⟨hB1,?_,RdE.up (hBk.rd (W0:=W0)),?_,hT ▸ hBt,qu.nil,rfl,hb5,?_,?_⟩,(fun _ h=>(by cases h)),hm,rfl⟩,?_⟩
    ·intro k;show false=_;simp only[q4a,zh,ZM]
     split <;>rfl
    ·intro h hh;obtain⟨x,hx,rfl⟩:=zK.1 hh;exact qit hx ((hys x hx).rd (W0:=W0))
    ·intro x hx;rw[List.eq_of_mem_replicate hx];exact qu.nil
    ·have e:ps.length=(ys.map PB.h).length:=hyl.symm;simp only[q4a,yE,ZR];rw[←e];exact(List.map_const' ..).symm
    ·dsimp only[GP.O,GP.cells];rw[hT,hz,zJ];exact qkv
 ·generalize csM c il.length ps []=z at*;obtain⟨zt,za,ze⟩:=z;dsimp only at he
  repeat'((try(conv=>whnf));first|(refine fF ?_)|((apply qe);first|((refine qd (hcs _) ?_)))|(refine fO ?_)|(refine fL ?_)|(refine fN ?_)|(refine qf (fun bk hbk=> ?_)))
  all_goals exact .inl ⟨⟨rfl,he⟩,(eC)⟩
end
open Go
theorem ok0:okU 0:=⟨Y7,Y7⟩
theorem ql8{c:Cfg}{il:List Int}{P:List (List Ins)}(h0:qH c=0)(hl:(il.length:Int)=c.words)(hw:∀x∈il,okU x)(hP:∀p∈P,qw p=(0,0)):GOk c P (q4a c il P):=by
 refine⟨h0,hP,hl,hw,by simp[q4a],by simp[q4a],by simp[q4a],fun t th p ht hp=> ?_,zq _,⟨fun _ h=>(by cases h),fun _ _ h=>(by cases h)⟩,fun l hl=> ?_⟩
 ·simp only[q4a,zI,hp,Zu,Option.some.injEq] at ht;subst ht;refine⟨fun k=> ?_,zq _,(by show(-1:Int)<0;decide),?_,ok0⟩
  ·by_cases hk:k<8
   ·rcases lt8 hk with rfl|rfl|rfl|rfl|rfl|rfl|rfl|rfl <;>exact ok0
   ·obtain⟨m,rfl⟩:∃m,k=m+8:=⟨k-8,Y6⟩
    exact ok0
  ·show decide (p.length=0)=decide (0=p.length)
   by_cases h:p.length=0
   ·rw[h]
   ·rw[decide_eq_false h,decide_eq_false Y6]
 ·obtain⟨_,_,rfl⟩:=zK.1 hl;exact zq _
def q7k(c:Cfg)(P:List (List Ins)):List ChM→Nat→GS→GS ⊕ Nat
 | [],_,s=> .inl s
 |ch::l,k,s=>if(doM c P s ch).1=0 then q7k c P l (k+1) (doM c P s ch).2 else .inr k
theorem qhI{c:Cfg}{P:List (List Ins)}{s:GS}{ch:ChM}(h:(doM c P s ch).1≠0):doM c P s ch=(70,s):=by
 unfold doM at h ⊢
 split at h
 ·exact absurd rfl h
 ·rfl
theorem qnF{c:Cfg}{P:List (List Ins)}{s:GS}{ch:ChM}(h:(doM c P s ch).1=0):(doM c P s ch).2.n=s.n+1:=by
 unfold doM at h ⊢;cases hs:chM c P s ch with
 |none=>rw[hs] at h;exact absurd (show(70:Int)=0 from h) Y7
 |some s'=>rfl
structure CH where
 t:Int
 f:Int
 a:Option Addr
 ad:List Int
 ac:Nat
abbrev CH.enc(x:CH):List Value:= [.int .i64 x.t, .int .i64 x.f, .slice x.a x.ad.length x.ac]
abbrev CH.m(x:CH):ChM:=⟨x.t,x.f,x.ad⟩
abbrev qna:Value:= .agg #[.slice none 0 0, .slice none 0 0, .slice none 0 0, .slice none 0 0]
theorem qgH{W0:World}{a b d:Nat×(Obj→Prop)}{A Z:Own}:Ent W0 (a::(b::(d::(A++Z)))) (A++([a,b,d]++Z)):=q02 []
theorem qkk{W0:World}{a b d:Nat×(Obj→Prop)}{A Z:Own}:Ent W0 (A++([a,b,d]++Z)) (b::(d::(A++Z))):=q02 [a]
theorem qkl{W0:World}{a b d:Nat×(Obj→Prop)}{A B Z:Own}:Ent W0 (A++([a,b,d]++(B++Z))) Z:=q02 (a::b::d::(A++B))
theorem qkm{W0:World}{b d:Nat×(Obj→Prop)}{A Z:Own}:Ent W0 (b::(d::(A++Z))) ([b,d]++(A++Z)):=Ent.refl
theorem qkn{W0:World}{b d:Nat×(Obj→Prop)}{R A B Z:Own}:Ent W0 (b::(d::((R++A)++(B++Z)))) (R++Z):=q02 (b::d::(A++B))
theorem qko{W0:World}{b d:Nat×(Obj→Prop)}{Z:Own}:Ent W0 (b::(d::Z)) ([b,d]++Z):=Ent.refl
theorem qkp{W0:World}{b d:Nat×(Obj→Prop)}{A B Z:Own}:Ent W0 (A++(B++([b,d]++Z))) (b::(d::(A++(B++Z)))):=q02 []
section
variable{W0:World}{own:Own}{c:Cfg}{ia pa ka:Option Addr}{ic pc kc:Nat}{ps:List PH}{il ks:List Int}{ca:Option Addr}{cc:Nat}{cl:List CH}
theorem qll(hF:qC W0)(hI:RdE q09 1 W0 own ia il)(hil:il.length≤500000)(hw:∀x∈il,okU x)(hP:RdE PH.enc 1 W0 own pa ps)(hQ:∀h∈ps,RdE Ins.enc 5 W0 own h.a h.p)
  (hC:RdE CH.enc 3 W0 own ca cl) (hA:∀x∈cl,RdE qx 1 W0 own x.a x.ad∧x.ad.length≤x.ac∧∀a∈x.ad,a≤9223372036854775807) (hcl:cl.length≤5000):
  qt Tryz.prog W0 19 [qaG c ia il.length ic pa ps.length pc ka ks.length kc, .slice ca cl.length cc] own fun v own'=>
   ((∃k e:Int,v= .tuple #[qna, .int .i64 k, .int .i64 e]∧(((csM c il.length ps []).2.2≠0∧k=0∧e=(csM c il.length ps []).2.2)∨(csM c il.length ps []=(0,0,0)∧e=70∧∃j:Nat,k=j∧q7k c (ps.map PH.p) (cl.map CH.m) 0 (q4a c il (ps.map PH.p))= .inr j)))∧Ent W0 own' own)∨
   ∃y:RG×GS,(v= .tuple #[y.1.v y.2, .int .i64 0, .int .i64 0]∧csM c il.length ps []=(0,0,0)∧q7k c (ps.map PH.p) (cl.map CH.m) 0 (q4a c il (ps.map PH.p))= .inl y.2∧y.1.ok W0 y.2)∧Ent W0 own' (y.1.D++own):=by
 refine sH [] ?_;have hnw:=fun b2 b4=>qlr (own:= [(b4,fun o=>o=Obj.cells #[.slice none 0 0, .slice none 0 0, .slice none 0 0, .slice none 0 0] 68 (0,0)),(b2,fun o=>o=Obj.cells (qh8 c (.slice ia il.length ic) (.slice pa ps.length pc) (.slice ka ks.length kc)) 31 (0,0))]++own) (c:=c) (ic:=ic) (pc:=pc) (ka:=ka) (ks:=ks) (kc:=kc) hF (RdE.up hI) Y6 (RdE.up hP) (fun h hh=>RdE.up (hQ h hh))
 repeat'((try(conv=>whnf));first|(refine qf (fun b2 h2=> ?_);(apply Stop.h)))
 refine Stop.mk ?_
 repeat'((try(conv=>whnf));first|(refine qf (fun b4 h4=> ?_);(apply Stop.h)))
 refine Stop.mk ?_
 repeat'((try(conv=>whnf));first|((apply qe);first|((refine q2g (hnw b2 b4) ?_ ?_ ?_ (fun v hv=> ?_) (fun y v hv=> ?_);(exact qko);(exact rfl);(exact rfl);all_goals(apply Stop.h))))|(refine fL ?_))
 ·obtain⟨rfl,he⟩:=hv;generalize csM c il.length ps []=z at*;obtain⟨zt,za,ze⟩:=z;dsimp only at he;refine Stop.mk ?_
  repeat'((try(conv=>whnf));first|(refine fF ?_)|(refine fO ?_)|(refine fL ?_)|(refine fM ?_))
  all_goals exact .inl ⟨⟨0,ze,rfl, .inl ⟨he,rfl,rfl⟩⟩,(eC)⟩
 ·obtain⟨g,ys,kD⟩:=y;obtain⟨rfl,h0,hok,hev,hpp, -⟩:=hv;dsimp only at hok hev hpp ⊢;obtain⟨-,hc0,hpl,hiw,hck⟩:=qkb (by rw[h0]:(csM c il.length ps []).2.2=0);have hG0:GOk c (ps.map PH.p) (q4a c il (ps.map PH.p)):=ql8 hc0 hiw hw fun p hp=>by obtain⟨x,hx,rfl⟩:=zK.1 hp;exact hck x hx
  have hc1:=hC;rw[h0];have hn0:(q4a c il (ps.map PH.p)).n=0:=rfl;generalize q4a c il (ps.map PH.p)=s0 at*;generalize hPe:ps.map PH.p=P at*;refine Stop.mk ?_
  repeat'((try(conv=>whnf));first|(refine fD ?_)|(refine fO ?_))
  refine qX (σ:=Nat×GP×GS) (fun y=> [(27, .int .i64 y.1)])
   (fun y=>(b4,fun o=>o=Obj.cells #[.slice none 0 0, .slice none 0 0, .slice none 0 0, .slice none 0 0] 68 (0,0))::((b2,fun o=>o=Obj.cells (qh8 c (.slice ia il.length ic) (.slice pa ps.length pc) (.slice ka ks.length kc)) 31 (0,0))::(y.2.1.O c (ys.map PB.h).length y.2.2++((kD++qb7 ys)++own))))
   (fun y=>y.1≤cl.length∧y.2.1.ok W0 (kD++qb7 ys) (ys.map PB.h) y.2.2∧y.2.1.ev W0∧y.2.1.gb=g.gb∧GOk c P y.2.2∧y.2.2.n=y.1∧q7k c P (cl.map CH.m) 0 s0=q7k c P ((cl.drop y.1).map CH.m) y.1 y.2.2)
   (fun y=>cl.length-y.1) (0,g,s0) ⟨zq _,hok,hev,rfl,hG0,hn0,rfl⟩ (eF) ?_ rfl ?_
  ·exact qkp
  ·rintro⟨k,g1,s1⟩ junk ⟨hk,hok1,hev1,hgb,hG1,hn1,hrun⟩;dsimp only at hk hok1 hev1 hgb hG1 hn1 hrun ⊢
   by_cases hkl:k<cl.length
   ·obtain⟨x,hx⟩:∃x,cl[k]? =some x:=⟨_,z6 hkl⟩
    obtain⟨hxA,hxl,hxr⟩:=hA x (zg hx);obtain⟨xt,xf,xa,xad,xac⟩:=x;dsimp only at hxA hxl hxr;rw[q4q hx] at hrun;simp only[zF,q7k] at hrun;have hG1':=hG1;rw[←hpp] at hG1';have hdo:=fun(E:Own)=>qn3 (c:=c) hF hok1 hev1 hG1' Y6 xt xf hxA hxl hxr (E++((kD++qb7 ys)++own))
    rw[hpp] at hdo;have hdk:=qmz hG1 (ch:=⟨xt,xf,xad⟩) hxr;rw[hgb] at hdo
    by_cases hz:(doM c P s1 ⟨xt,xf,xad⟩).1=0
    ·have hdn:=qnF hz;rw[if_pos hz] at hrun;generalize doM c P s1 ⟨xt,xf,xad⟩=z at*;obtain⟨zc,s2⟩:=z;dsimp only at hz hdo hdk hrun hdn;subst hz
     repeat'((try(conv=>whnf));first|(refine fF ?_)|(refine qf (fun b12 h12=> ?_);(apply Stop.h))|((apply qJ);first|((refine ixE hc1 hx ?_ ?_;(first|rfl|omega))))|((apply q2H);first|(refine q1h hc1 hx rfl ?_)))
     refine Stop.mk ?_
     repeat'((try(conv=>whnf));first|(refine fD ?_)|((apply qe);first|((refine qm (hdo [(b12,fun o=>o=Obj.cells #[.int .i64 xt, .int .i64 xf, .slice xa xad.length xac] 101 (0,0)),(b4,fun o=>o=Obj.cells #[.slice none 0 0, .slice none 0 0, .slice none 0 0, .slice none 0 0] 68 (0,0)),(b2,fun o=>o=Obj.cells (qh8 c (.slice ia il.length ic) (.slice pa ps.length pc) (.slice ka ks.length kc)) 31 (0,0))]) ?_ ?_ ?_ (fun g2 v hg2=> ?_);(exact qgH);(exact rfl);(exact rfl);(obtain⟨rfl,hok2,hev2,hgb2⟩:=hg2))))|(refine fB ?_)|(refine fL ?_)|(refine fM ?_))
     exact⟨(k+1,g2,s2),⟨hkl,hok2,hev2,hgb2,hdk,hdn.trans (by rw[hn1]),hrun⟩,(by show cl.length-(k+1)<cl.length-k;omega),(eF),qkk⟩
    ·have hdc:=qhI hz;rw[if_neg hz] at hrun;rw[hdc] at hdo;dsimp only at hdo
     repeat'((try(conv=>whnf));first|(refine fF ?_)|(refine qf (fun b12 h12=> ?_);(apply Stop.h))|((apply qJ);first|((refine ixE hc1 hx ?_ ?_;(first|rfl|omega))))|((apply q2H);first|(refine q1h hc1 hx rfl ?_)))
     refine Stop.mk ?_
     repeat'((try(conv=>whnf));first|(refine fE ?_)|((apply qe);first|((refine qm (hdo [(b12,fun o=>o=Obj.cells #[.int .i64 xt, .int .i64 xf, .slice xa xad.length xac] 101 (0,0)),(b4,fun o=>o=Obj.cells #[.slice none 0 0, .slice none 0 0, .slice none 0 0, .slice none 0 0] 68 (0,0)),(b2,fun o=>o=Obj.cells (qh8 c (.slice ia il.length ic) (.slice pa ps.length pc) (.slice ka ks.length kc)) 31 (0,0))]) ?_ ?_ ?_ (fun g2 v hg2=> ?_);(exact qgH);(exact rfl);(exact rfl);(obtain⟨rfl,hok2,hev2,hgb2⟩:=hg2))))|(refine fL ?_)|(refine fM ?_))
     exact .inl ⟨⟨k,70,rfl, .inr ⟨rfl,rfl,k,rfl,hrun⟩⟩,qkl⟩
   ·have hkN:k=cl.length:=Y6;subst hkN;rw[ZQ] at hrun;have hdl:=hG1.dl;have htl:=hG1.tl;have hol:=hG1.ol;have hel:=hG1.el;have hPl:P.length≤16:=by rw[←hPe,zk];exact hpl.2
    have hrs:=qau (c:=c) hok1 hev1 Y6 Y6 Y6 Y6 (fun l hl=>by have:=hG1.ob l hl;omega) (fun e he=>by have:=(hG1.ev.1 e he).2.2.2;omega);rw[hgb] at hrs;have hrk:=qL (E:= [(b4,fun o=>o=Obj.cells #[.slice none 0 0, .slice none 0 0, .slice none 0 0, .slice none 0 0] 68 (0,0)),(b2,fun o=>o=Obj.cells (qh8 c (.slice ia il.length ic) (.slice pa ps.length pc) (.slice ka ks.length kc)) 31 (0,0))]) (q:=(kD++qb7 ys)++own) (D:=g1.O c (ys.map PB.h).length s1) (O:=fun r:RG=>r.D++g1.O c (ys.map PB.h).length s1) (R:=fun r v=>v=r.v s1∧r.ok W0 s1) (fun q=>by simpa only[zd] using hrs q)
    repeat'((try(conv=>whnf));first|(refine fG ?_)|((apply qe);first|((refine qm hrk ?_ ?_ ?_ (fun r v hr=> ?_);(exact qkm);(exact rfl);(exact rfl);(obtain⟨rfl,hrok⟩:=hr))))|(refine fL ?_)|(refine fM ?_))
    exact .inr ⟨(r,s1),⟨rfl,rfl,hrun,hrok⟩,qkn⟩
end
end Go.Proofs.YtbhbldllneadeaaGreatDoor
