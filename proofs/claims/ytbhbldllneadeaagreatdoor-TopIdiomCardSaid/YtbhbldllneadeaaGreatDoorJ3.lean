/- What the laws share, part 3. No condition. -/
import Derived.Test.YtbhbldllneadeaaGreatDoorJ2
set_option maxHeartbeats 8000000
set_option maxRecDepth 100000
namespace Go.Proofs.YtbhbldllneadeaaGreatDoor
open Go Go.Proofs.YtbhbldllneadeaaGreatDoor.Ord
section
variable{ps:List (List Ins)}{n k:Nat}{q:RM}{g g':GS}{r r':Nat→List (Int×Int)}{t u:Nat}{x:GT}{a b:AT}{p:List Ins}
def EW(q:RM):Prop:=∀(u:Nat) y b,q.xs[u]? =some y→y.at'=some b→b.dn=false→b.ph.past=true→∀e s,e0A q.E e s→(∃p,e<p∧bgA q.E p u)∨b.rv<q1C q.m (qF cfF 0)∨Pd q.xs (qF cfF 0)
structure IdQ(ps:List (List Ins))(n:Nat)(q:RM)(g:GS)(r:Nat→List (Int×Int)):Prop where
 he:qhh n q
 hs:qbc cfF q.xs
 gi:GI ps g
 rs:RSq q.xs r
 hj:JQ q.xs r
 hw:WW q.xs (g.d.getD 0 0)
 ew:EW q
 oi:OI q.E (g.d.getD 0 0)
 rf:RF q.E
theorem qpl{E l:List EvM}{e:Nat}{s:Int}(h:bgA E e s):bgA (E++l) e s:=by
 obtain⟨z,h1,h2⟩:=h;exact⟨z,by rw[zy (qR h1)];exact h1,h2⟩
theorem qp6{c:Cfg}{rg:Rg}{i:Ins}:(q1F c rg a i).rv=a.rv:=by
 unfold q1F AT.read
 (repeat' split) <;>rfl
theorem qpd{m:MS}(h:AtN cfF p t m x b)(ha:x.at'=some a)(hp:a.ph.past=true):b.rv=a.rv:=by
 cases h with
 |same b e=>rw[ha] at e;cases e;rfl
 |adv a' e hA=>
  rw[ha] at e;cases e
  rcases qjx (c:=cfF) (t:=t) (m:=m) (a:=a) with h|h
  ·exact h
  ·rw[h] at hp;cases hp
 |req a' i e hid hi hr hA=>
  rw[ha] at e;cases e
  rcases qjx (c:=cfF) (t:=t) (m:=m) (a:=q1F cfF x.th.rg a i) with h|h
  ·exact h.trans qp6
  ·exact absurd h (qh6 (i:=i)).1
 |new e=>rw[ha] at e;cases e
theorem IdQ.zero{O:Nat}:IdQ ps n ⟨ms0 ilF O n,ps.map q2J,[],[]⟩ (q4a cfF ilF ps) fun _=> []:=by
 have hat:∀(u:Nat) x,(ps.map q2J)[u]? =some x→x.at'=none:=fun u x hx=>by
  rw[zI] at hx;obtain⟨p,_,rfl⟩:=Zc.1 hx;rfl
 have no:∀(u:Nat) y b,(ps.map q2J)[u]? =some y→y.at'=some b→False:=fun u y b hy hb=>by rw[hat u y hy] at hb;cases hb
 exact⟨qhh.zero hat,fun u y b hy hb=>(no u y b hy hb).elim,GI.zero rfl,fun u y b hy hb=>(no u y b hy hb).elim,fun u y b hy hb=>(no u y b hy hb).elim,fun u y b hy hb=>(no u y b hy hb).elim,fun u y b hy hb=>(no u y b hy hb).elim,
  ⟨fun i z h=>(by cases h),fun _ i z h=>(by cases h),fun s hs (e:(0:Int)=s+1)=>by omega⟩,fun i j x y _ h=>by cases h⟩
theorem GI.run(hn:ps.length≤3)(hP:∀(t:Nat) p,ps[t]? =some p→PgF t p):∀(l:List ChM) (g:GS),GI ps g→(∀ch∈l,ch.ad= [])→q6w cfF ps g l=some g'→GI ps g'
 | [],g,h,_,e=>by cases e;exact h
 |ch::l,g,h,ha,e=>by
  unfold q6w at e;cases e1:chM cfF ps g ch with
  |none=>rw[e1] at e;cases e
  |some g1=>
   rw[e1] at e;have h1:=GI.step hn hP h (ha ch zm) e1;exact GI.run hn hP l {g1 with n:=g.n+1} h1 (fun c hc=>ha c (zp _ hc)) e
theorem IdQ.step(hn:ps.length≤3)(hnn:n=ps.length)(hk:k≤1000)(hR:q3t cfF ps n k q g r)(hI:IdQ ps n q g r)(ht:t<n)(hps:∀p∈ps,PrO p)(hP:∀(t:Nat) p,ps[t]? =some p→PgF t p)(hpk:PkR cfF ps n q g r t g' r')(hR':q3t cfF ps n (k+1) (q0R cfF ps n q t) g' r'):IdQ ps n (q0R cfF ps n q t) g' r':=by
 obtain⟨⟨x,hx⟩,p,hp⟩:=qoW hR ht;have hpo:=hps p (zg hp);cases hd:x.th.dn with
 |true=>
  obtain⟨e1,e2⟩:=hpk.dn x hx hd;rw[(q8t (c:=cfF) (ps:=ps) (n:=n) hx hd).1,e1,e2];exact hI
 |false=>
  obtain⟨i1,i2⟩:=hI.he.step Y7 hk hR hI.hs ht hps;have i3:GI ps g':=GI.run hn hP _ g hI.gi (by rw[(q8u hx hp hd).2];exact qk6) hpk.ch;have i4:=hI.rs.step hR hP hps hI.gi hx hp hd hpk;have i5:=hI.hj.step hR hP hps hx hp hd hpk hR' i3 i4;have hcs:=qoZ Y6 hk hR hR' hP hpo hI.gi hI.rs hpk hx hp hd;have i6:=hI.hw.step hR hx hcs;have hst:=qdJ hR hx hp hpo hd;have hN:=qoC hR hx hp hpo hd;have hat:=fun b=>q7W (b:=b) hR hx hp hpo hd
  have hpl:=fun ha i hi hop=>qom hR hP hI.gi hx hp ha (i:=i) hi hop
  rw[(q8u (c:=cfF) (ps:=ps) (n:=n) hx hp hd).1] at i1 i2 ⊢;have hone:=fun{a} (ha:x.at'=some a) h u y b hy hb=>hR.gi.one (u:=u) (y:=y) (b:=b) hx ha h hy hb
  have hoi:=hI.oi;have hrf:=hI.rf;have hew:=hI.ew;generalize qN cfF p n t q.m x=z at*
  --what was known of an attempt stays so
  have keep:∀(l:List EvM) (u e:Nat) (rv:Int),rv≤q.m.ck→((∃p,e<p∧bgA q.E p u)∨rv<q1C q.m (qF cfF 0)∨Pd q.xs (qF cfF 0))→(∃p,e<p∧bgA (q.E++l) p u)∨rv<q1C z.1 (qF cfF 0)∨Pd (q.xs.set t z.2.1) (qF cfF 0):=fun l u e rv hle h=>by
   rcases h with ⟨p,h1,h2⟩|h|h
   ·exact .inl ⟨p,h1,qpl h2⟩
   ·rcases hN.ver qmx.co Y6 Y6 hR.gi ht (qF cfF 0) with e|e <;>rw[e]
    ·exact .inr (.inl h)
    ·exact .inr (.inl Y6)
   ·rcases hN.pd hx h with h|h
    ·exact .inr (.inr h)
    ·exact .inr (.inl Y6)
  have oth:∀(l:List EvM) (u:Nat) y b,u≠t→(q.xs.set t z.2.1)[u]? =some y→y.at'=some b→b.dn=false→b.ph.past=true→∀e s,e0A q.E e s→(∃p,e<p∧bgA (q.E++l) p u)∨b.rv<q1C z.1 (qF cfF 0)∨Pd (q.xs.set t z.2.1) (qF cfF 0):=fun l u y b hu hy hb hbd hbp e s he=>by
   rw[q0v hu] at hy;exact keep l u e b.rv ((hR.gi.ai u y b hy hb).rv hbp).2 (hew u y b hy hb hbd hbp e s he)
  have own:∀y,(q.xs.set t z.2.1)[t]? =some y→y=z.2.1:=fun y hy=>by rw[q0u hx] at hy;cases hy;rfl
  have ec:∀{v:EvM} {e s},e0A (q.E++ [v]) e s→e0A q.E e s∨(e=q.E.length∧v.k=4∧0∈v.wl):=fun h=>by
   obtain⟨z,h1,h2,h3,h4⟩:=h
   rcases qo1 h1 with h|⟨h,rfl⟩
   ·exact .inl ⟨z,h,h2,h3,h4⟩
   ·exact .inr ⟨h,h2,h4⟩
  have ht0:(0:Int)≤t:=Y6;have main:EW ⟨z.1,q.xs.set t z.2.1,q.S++ [z.2.2.1],q.E++z.2.2.2.map (qmc q.S.length)⟩∧OI (q.E++z.2.2.2.map (qmc q.S.length)) (g'.d.getD 0 0)∧RF (q.E++z.2.2.2.map (qmc q.S.length)):=by
   rcases hcs with ⟨hd0,hno⟩|⟨a,hD⟩
   ·rw[hd0];generalize hes:z.2.2.2=es at hst ⊢;cases hst with
    |no hno'=>
     rw[Zi];refine⟨fun u y b hy hb hbd hbp e s he=> ?_,by rw[zC];exact hoi,by rw[zC];exact hrf⟩;dsimp only at he hy;rw[zC] at he
     by_cases hu:u=t
     ·subst hu;obtain rfl:=own y hy;obtain⟨a,h1,h2,h3⟩:=hno' b hb hbd hbp;rw[qpd (hat b hb) h1 h3];exact keep [] u e a.rv ((hR.gi.ai u x a hx h1).rv h3).2 (hew u x a hx h1 h2 h3 e s he)
     ·exact oth [] u y b hu hy hb hbd hbp e s he
    |bg a a' e1 e2 e3 e4 e5=>
     refine⟨fun u y b hy hb hbd hbp e s he=> ?_,hoi.bg rfl,hrf.bg rfl⟩;dsimp only at he hy
     rcases ec he with he|⟨_,h,_⟩
     ·by_cases hu:u=t
      ·obtain⟨z',h1,_⟩:=he;exact .inl ⟨q.E.length,qR h1,_,qpa,rfl,by rw[hu];rfl⟩
      ·exact oth _ u y b hu hy hb hbd hbp e s he
     ·exact absurd h (by show ¬(3:Int)=4;decide)
    |en a a' e1 e2 e3 e4 e5=>
     obtain⟨a0,h1,h2,_⟩:=hno a' e4 e5;rw[e1] at h1;cases h1;rw[e3] at h2;cases h2
    |pl i e1 e2 e3 e4 e5 e6=>
     obtain⟨h1,h2,_⟩:=hpl e1 i e4 e5;have hp4:qnR (qmc q.S.length ⟨0,t,if i.op=12 then 1 else 2,q1b x i,[],[]⟩):=by show(if i.op=12 then(1:Int) else 2)=1∨(if i.op=12 then(1:Int) else 2)=2;split;exact .inl rfl;exact .inr rfl
     refine⟨fun u y b hy hb hbd hbp e s he=> ?_,hoi.pl hp4 ht0 h1 h2,hrf.pl hoi hp4 ht0 h1 h2⟩;dsimp only at he hy
     rcases ec he with he|⟨_,h,_⟩
     ·by_cases hu:u=t
      ·subst hu;obtain rfl:=own y hy;rw[e3] at hb;cases hb
      ·exact oth _ u y b hu hy hb hbd hbp e s he
     ·unfold qnR at hp4;omega
   ·have hA:=hR.gi.ai t x a hx hD.ha;have hph:=hA.ph;unfold PhA at hph;rw[hD.ph] at hph;obtain⟨_,_,⟨hoc,_⟩,_,hset⟩:=hph;rw[hD.ev,hD.d0];obtain⟨w,hw1,hw3,hc⟩:=hD.un;refine⟨fun u y b hy hb hbd hbp e s he=> ?_,hoi.en rfl ht0 ?_,hrf.en hoi rfl ?_⟩
    ·dsimp only at he hy
     rcases ec he with he|⟨_,_,h0⟩
     ·by_cases hu:u=t
      ·subst hu;obtain rfl:=own y hy;rw[hD.at'] at hb;cases hb;rw[hD.dn'] at hbd;cases hbd
      ·exact oth _ u y b hu hy hb hbd hbp e s he
     ·have h0:(0:Int)∈a.ad:=h0;refine .inr (.inr ⟨t,z.2.1,_,q0u hx,hD.at',hD.dn',?_⟩);rw[(qoc hA hD.ph hD.dn').2.2.2.2.2.2 hD.cd (List.ne_nil_of_mem h0)];exact hoc hD.cd 0 h0
    ·rcases hc with ⟨h1,h2,h3⟩|⟨h1,h2,h3,h4⟩|⟨h1,h2,h3,h4⟩|⟨h1,h2,h3,_⟩
     ·exact .inl ⟨h3,fun w hw=>by
       rcases hw with hw|hw
       ·exact h2 w hw
       ·rw[show(qmc q.S.length ⟨0,t,4,0,a.seen,a.ad⟩).wl=a.ad from rfl,h1] at hw;cases hw⟩
     ·exact .inr (.inl ⟨h3,h4,by show(0:Int)∈a.ad;rw[h1];exact zf.2 rfl⟩)
     ·exact .inr (.inr (.inl ⟨h3,h4,by show(0:Int)∈a.ad;rw[h1];exact zf.2 rfl⟩))
     ·exact .inr (.inr (.inr ⟨h2,h3⟩))
    ·have z0:(∀z∈a.seen,z=0)→(∀z∈a.ad,z=0)→∀w,toE (qmc q.S.length ⟨0,t,4,0,a.seen,a.ad⟩) w→w=0:=fun h1 h2 w hw=>by
      rcases hw with hw|hw
      ·exact h1 w hw
      ·exact h2 w hw
     rcases hc with ⟨h1,h2,_⟩|⟨h1,h2,_⟩|⟨h1,h2,_⟩|⟨_,h2,_,y,hy,hy0⟩
     ·exact .inl (z0 h2 (by rw[h1];simp))
     ·exact .inl (z0 h2 (by rw[h1];simp))
     ·exact .inl (z0 h2 (by rw[h1];simp))
     ·refine .inr ⟨h2,fun e s he=> ?_⟩
      rcases hew t x a hx hD.ha hD.dn (by rw[hD.ph];rfl) e s he with h|h|⟨v,yv,bv,hyv,hbv,hdv,hov⟩
      ·exact h
      ·have:=hset _ (hD.rr y hy);rw[hy0] at this;omega
      ·obtain rfl:=hone hD.ha (by rw[hD.ph];rfl) v yv bv hyv hbv (qf2 hov);rw[hx] at hyv;cases hyv;rw[hD.ha] at hbv;cases hbv;rw[hD.dn] at hdv;cases hdv
  exact⟨i1,i2,i3,i4,i5,i6,main.1,main.2.1,main.2.2⟩
end
theorem qoi{n:Nat}{l:List EH}{E:List EvM}(h1:1≤n)(hn:n≤16)(h:TrW n E)(hl:l.map EH.m=E)(hle:l.length≤65536)(hrf:RF E):(q9b l n).2=0∧frR l n=(-1, -1, -1):=by
 refine qgh h1 hn h hl hle fun x y hxy hy hx3 hy3 ht h44 w hxw hyw=> ?_
 have hw:=(qlU h1 hn h l hl hle).1.wf;have ge:∀i,i<l.length→E[i]? =some (at' l i).m:=fun i hi=>by
  rw[←hl,zI,z6 hi,Zu,qgv (z6 hi)]
 have en:∀{e:Nat} {t:Int},enA E e t→e<l.length∧knd l e=4∧thr l e=t:=fun{e t} h=>by
  obtain⟨z,a1,a2,a3⟩:=h;have hel:=qR a1;rw[←hl,zk] at hel;rw[ge e hel] at a1;cases a1;exact⟨hel,a2,a3⟩
 have hxl:x<l.length:=Y6;obtain⟨r1,r2,r3⟩:=hrf x y _ _ hxy (ge x hxl) (ge y hy) ht
 by_cases hy4:knd l y=4
 ·have hpx:=(qW hxw).resolve_right fun h=>h44 ⟨h.1,hy4⟩
  obtain⟨p,hp,hpy,hp3,hpt⟩:=qgz hw hy hy4;have hty:toE (at' l y).m (at' l x).m.w:=by
   rw[show(at' l x).m.w=w from hpx.2]
   rcases qW hyw with h|h
   ·exfalso;have:(at' l y).k=4:=hy4;omega
   ·exact h.2
  obtain⟨e,p0,b1,b2,b3,b4,⟨z,c1,c2,c3⟩⟩:=r3 hpx.1 hy4 hty;obtain⟨d1,d2,d3⟩:=en b4;have hp0:p0<l.length:=Y6;rw[ge p0 hp0] at c1;cases c1;have hpv:=qf3.2 hp;have hle0:p0≤p:=Nat.le_of_not_lt fun h=>hpv.2.2 p0 h b3 c3
  have hto:toP l y=p:=by unfold toP;rw[if_pos hy4,hp];rfl
  rw[hto];exact⟨Y6,⟨hxl, .inl hx3⟩,⟨Y6, .inr ⟨y,hy,hpv,hy4⟩⟩, .inr (.inr ⟨fun h=>by unfold q1Q at h;omega,e,Y6,Y6,d2,d3⟩)⟩
 ·have hto:toP l y=y:=by unfold toP;rw[if_neg hy4]
  have hpy:=(qW hyw).resolve_right fun h=>hy4 h.1
  rw[hto];refine⟨hxy,⟨hxl, .inl hx3⟩,⟨hy, .inl hy3⟩, .inr (.inl ⟨hpy.1,?_⟩)⟩
  rcases qW hxw with h|h
  ·obtain⟨e,f,b1,b2,b3,b4,b5⟩:=r1 h.1 hpy.1;obtain⟨d1,d2,d3⟩:=en b4;obtain⟨f1,f2,f3⟩:=en b5;exact⟨e,f,Y6,b2,b3,d2,f2,d3,f3⟩
  ·obtain⟨f,b1,b3,b5⟩:=r2 h.1 hpy.1 (by rw[show(at' l y).m.w=w from hpy.2];exact h.2);obtain⟨f1,f2,f3⟩:=en b5;exact⟨x,f,zu x,b1,b3,h.1,f2,rfl,f3⟩
open Go Go.Proofs.YtbhbldllneadeaaGreatDoor.Ord
theorem qoh{ps:List (List Ins)}{l:List Nat}(hn:1≤ps.length∧ps.length≤3)(hP:∀(t:Nat) p,ps[t]? =some p→PgF t p)(hpo:∀p∈ps,PrO p)(hpl:∀p∈ps,p.length≤64)(hl:∀t∈l,t<ps.length)(hlk:l.length≤1000):∃g,qjT cfF ilF 3 ps l g:=by
 obtain⟨g,r,h1,h2,h3⟩:=qiC (c:=cfF) (il:=ilF) (O:=3) (P:=fun q g r=>IdQ ps ps.length q g r) qmx Y6 hpo hpl rfl rfl (qir Y7) IdQ.zero (fun k q g r t _ hR hp _=>qot hR hP hp.gi hp.hw hp.hj) (fun k q g r t g' r' hk hR hp ht hkk hR'=>hp.step hn.2 rfl hk hR ht hpo hP hkk hR') hl hlk;have hle:(q10 cfF ilF 3 ps l).E.length≤65536:=by
  have a1:=h3.he.el;have a2:=h2.sl;omega
 exact⟨g,h1,hle,fun es hes=>qoi hn.1 Y6 h3.he.tr hes (by have:=congrArg List.length hes;rw[zk] at this;omega) h3.rf,h3.he.tr.lb⟩
section
variable{W0:World}{own:Own}{la pka:Option Addr}{lc pkc:Nat}{ls pks:List Int}
theorem qo2(hF:qC W0)(hN:q12 W0 0 noneV)(xa:Int)(hL:RdE qx 1 W0 own la ls)(hP:RdE qx 1 W0 own pka pks):
  qE Tryz.prog W0 3 [.int .i64 xa, .slice la ls.length lc, .slice pka pks.length pkc] own (.bool true):=by
 refine qg (sH [] ?_);have haw:=fun own=>qjM (W0:=W0) hF hN own
 by_cases h4:(400:Int)<pks.length
 ·repeat'((try(conv=>whnf));first|(refine fF ?_)|((apply qe);first|((refine qd (haw _) ?_))))
  all_goals exact⟨rfl,(eC)⟩
 have hpt:=fun own'=>qdg W0 own' xa (n:=2) Y7
 have hrg:=q8v xa (n:=2) Y7;obtain⟨m,hm⟩:∃m:Nat,plT xa 2=m:=⟨(plT xa 2).toNat,Y6⟩
 rw[hm] at hpt hrg;have e:((2+m:Nat):Int)=2+(m:Int):=Y6;have hfl:=fun(own':Own) (m1:qv own' own)=>qfp (W0:=W0) (own:=own') (la:=la) (ka:=pka) (lc:=lc) (kc:=pkc) (n:=2+m) (ls:=ls) (ks:=pks) hL.up hP.up Y6 Y6
 rw[e] at hfl
 repeat'((try(conv=>whnf));first|(refine fG ?_)|((apply qe);first|((refine qd (hpt _) ?_))|((refine qi (hfl _ Y9) (fun y v hv=> ?_);(apply Stop.h))))|(refine fB ?_))
 obtain⟨⟨pa,pc,pD⟩,ps,⟨ka,kc,kD⟩,b⟩:=y;obtain⟨rfl,hBp,hpl,hps,hBk⟩:=hv;dsimp only at hBp hpl hps hBk;have hpg:∀(t:Nat) p,((ps.map PW.h).map PH.p)[t]? =some p→PgF t p:=fun t p hp=>by
  rw[yE,zI] at hp;obtain⟨x,hx,rfl⟩:=Zc.1 hp;exact(hps t x hx).2
 have hln:((ps.map PW.h).map PH.p).length=2+m:=by rw[zk,zk];exact hpl
 obtain⟨l,hkk,hll,hlt⟩:∃l:List Nat,(l.map fun t=>((t:Nat):Int))=(pks.map fun z=>plT z (2+(m:Int)))∧l.length=pks.length∧∀t∈l,t<2+m:=by
  refine⟨pks.map fun z=>(plT z (2+(m:Int))).toNat,?_,zk ..,fun t ht=> ?_⟩
  ·rw[yE];exact List.map_congr_left fun z _=>Z6 (q8v z Y6).1
  ·obtain⟨z,_,rfl⟩:=zK.1 ht;have:=q8v z (n:=2+(m:Int)) Y6;omega
 obtain⟨hs,hpo,hp64⟩:=qnM (ps:=(ps.map PW.h).map PH.p) (l:=l) Y6 hpg Y6 (fun t ht=>by have:=hlt t ht;omega);have hq:=qoh (ps:=(ps.map PW.h).map PH.p) (l:=l) Y6 hpg hpo hp64 (fun t ht=>by have:=hlt t ht;omega) Y6;have hpR:=hBp.rd (W0:=W0);have hkR:=hBk.rd (W0:=W0);rw[←hkk] at hkR;have hqt:=fun(own':Own) (hI:RdE q09 1 W0 own' (some ⟨b,0,none⟩) ilF) (m1:qv own' pD) (m2:qv own' (qcl ps)) (m3:qv own' kD)=>qlu (W0:=W0) (own:=own') (c:=cfF) (ia:=some ⟨b,0,none⟩) (ic:=4) (pa:=pa) (pc:=pc) (ka:=ka) (kc:=kc) (l:=l) hF hN hs hq hI hpR.up (fun h hh=>by
  obtain⟨x,hx,rfl⟩:=zK.1 hh;obtain⟨t,ht,rfl⟩:=ZO hx;exact((((hps t _ (z6 ht)).1.rd (W0:=W0)).ent (qiu hx))).up) (hkR.up)
 rw[hkk] at hqt;refine Stop.mk ?_
 repeat'((try(conv=>whnf));first|(refine fH ?_)|((apply qe);first|((refine qd (hqt _ (q1A (by(repeat(first|exact List.Mem.head _|apply List.Mem.tail))) (fun _ _=>rfl) rfl) Y9 Y9 Y9) ?_))|((refine qd (haw _) ?_))))
 all_goals exact⟨rfl,(eC)⟩
end
open Go Go.ChangeShapes Go.WideShapes Go.ChangeAt Go.RowKit
theorem qof{W:World}(h:laidMetH Tryz.prog [("strongtx/tdrf.none",Rows.laid_strongtx_tdrf_none),("strongtx/isa.forms",Rows.laid_strongtx_isa_forms)] W):qC W:=
 qok (d:=Rows.laid_strongtx_isa_forms) (g:=1) (t:=310) (cs:=qkP) (by kernel_rfl) h (List.Mem.tail _ (List.Mem.head _)) (by kernel_rfl) (by kernel_rfl) (by kernel_rfl) (by kernel_rfl) (by simp[qkP])
theorem qoI{W:World}(h:laidMetH Tryz.prog [("strongtx/tdrf.none",Rows.laid_strongtx_tdrf_none),("strongtx/isa.forms",Rows.laid_strongtx_isa_forms)] W):q12 W 0 Ord.noneV:=
 qok (d:=Rows.laid_strongtx_tdrf_none) (g:=0) (t:=46) (cs:=Ord.noneV) (by kernel_rfl) h (List.Mem.head _) (by kernel_rfl) (by kernel_rfl) (by kernel_rfl) (by kernel_rfl) (by simp[Ord.noneV])
section
variable{H:Type}{enc:TypeId×Value→H}{P:Program}{w:World}{spare:Nat→Bool}{held:Bool}{q:Nat→Bool}
theorem qa{t:TypeId}{ts:List TypeId}{d:DataW H}{ds:List (DataW H)}(h:(DataW.weightsEach P (t::ts) (d::ds)).all q=true):(d.weights P t).all q=true∧(DataW.weightsEach P ts ds).all q=true:=by
 simpa only[DataW.weightsEach,List.all_append,zx] using h
theorem qnX{e:TypeId}:∀{E:List (DataW H)} {d:DataW H},(DataW.weightsAll P e E).all q=true→d∈E→(d.weights P e).all q=true
 | [],_,_,hd=>by cases hd
 |c::r,d,h,hd=>by
  simp only[DataW.weightsAll,List.all_append,zx] at h
  rcases zQ.1 hd with rfl|hd
  ·exact h.1
  ·exact qnX h.2 hd
theorem qoy{α:Type}{en:α→List Value}{sz:Nat}{Φ:α→Prop}{fuel:Nat}{t e:TypeId}{cs:List Value}{x:DataW H×List MemPlace}(ht:P.underlying t=some (.slice e))(hsz:P.cellsOf e=sz)(hpos:0<sz)
  (hel:∀n cs x,DataW.trod enc P w 0 spare held n e cs=some x→(x.1.weights P e).all q=true→∃y,cs=en y∧Φ y) (h:DataW.trod enc P w 0 spare held fuel t cs=some x) (hw:(x.1.weights P t).all q=true):
  ∃a l cap,cs= [.slice a l.length cap]∧RdE en sz w [] a l∧(∀y∈l,Φ y)∧l.length≤cap∧(l= []∨∃k,q ((l.length+k)*P.bytesOf e)=true):=by
 rcases DataW.trod_slice ht h with ⟨rfl,_⟩|⟨a,len,cap,elems,rest,n,_,rfl,rfl,_,hl,_,hlen,hel',_⟩
 ·exact⟨none,[],0,rfl,RdE.nil,fun _ h=>(by cases h),Y8, .inl rfl⟩
 ·simp only[DataW.weights,ht,List.all_cons,List.all_append,zx,zk] at hw;obtain⟨hw1,hw2,_⟩:=hw;have key:∀i,i<len→∃y,(w.cells? 0 (a.add (i*sz)) sz=some (en y))∧Φ y:=fun i hi=>by
   have:=hel' i hi;rw[hsz] at this;have hi':i<elems.length:=Y6;rw[z6 hi',Option.bind_eq_some_iff] at this;obtain⟨c,hc,hx⟩:=this;obtain⟨y,rfl,hy⟩:=hel _ _ _ hx (qnX hw2 (y2 (yo hi')));exact⟨y,hc,hy⟩
  obtain⟨l,hll,hq⟩:=qol len key;have hget:∀{j k:Nat} {y:α} {v:Value},l[j]? =some y→(en y)[k]? =some v→w.cell? ((a.add (j*sz)).add k)=some v∧(en y).length=sz:=fun{j k y v} hy hv=>by
   obtain⟨hc,_⟩:=hq j y hy;obtain⟨_,hlen,hget⟩:=World.cells?_some hc;have hk:=(z7.1 hv).1;exact⟨(hget k Y6).trans hv,hlen⟩
  have hspot:l≠ []→a.spot=none:=fun hne=>by
   cases l with
   |nil=>exact absurd rfl hne
   |cons y r=>
    obtain⟨hc,_⟩:=hq 0 y rfl;obtain⟨_,hlen,hget⟩:=World.cells?_some hc;have h0:=hget 0 hpos;rw[z6 Y6] at h0;rw[Nat.zero_mul] at h0;have e0:(a.add 0).add 0=a:=by simp[Addr.add]
    rw[e0] at h0;unfold World.cell? at h0
    split at h0
    ·split at h0
     ·cases h0
     ·rename_i hs;simpa using hs
    ·cases h0
  refine⟨some a,l,cap,by rw[hll],⟨fun hne=> ?_,fun y hy=> ?_,fun{j k y v} hy hv=> ?_⟩,fun y hy=> ?_,Y6, .inr ⟨rest.length,by rw[hll,←hlen];exact hw1⟩⟩
  ·have:=hspot hne;obtain⟨b,o,s⟩:=a;simp only at this;subst this;rfl
  ·obtain⟨i,hi⟩:=ZY hy;obtain⟨hc,_⟩:=hq i y hi;exact(World.cells?_some hc).2.1
  ·obtain⟨hc,_⟩:=hget hy hv;have hs:=hspot (by intro e;subst e;simp at hy);have he:(a.add (j*sz)).add k=⟨ab (some a),ao (some a)+j*sz+k,none⟩:=by
    obtain⟨b,o,s⟩:=a;simp only at hs;subst hs;rw[qO,qO];rfl
   rw[he] at hc;exact qoE hc
  ·obtain⟨i,hi⟩:=ZY hy;exact(hq i y hi).2
end
section
variable{H:Type}{enc:TypeId×Value→H}{w:World}{spare:Nat→Bool}{held:Bool}{v:Value}{d:DataW H}{p:List MemPlace}
theorem qp3{cs:Array Value}{v x:Value}(h:v.cells=cs)(hc:cs.toList= [x])(hx:∀a,v≠ .agg a):v=x:=by
 unfold Value.cells at h
 split at h
 ·rename_i a;exact absurd rfl (hx a)
 ·subst h;simpa using hc
theorem qoo{P:Program}{w:World}{b0:Nat}{t e:TypeId}{v:Value}(ht:P.underlying t=some (.slice e))(h:Value.okWide P w .any b0 t v):∀a,v≠ .agg a:=by
 intro a e;subst e;simp only[Value.okWide,ht,Cell.okWide,Cell.ok] at h
theorem qp0{fuel:Nat}{cs:List Value}{x:DataW H×List MemPlace}(h:DataW.trod enc Tryz.prog w 0 spare held fuel 22 cs=some x)(hw:(x.1.weights Tryz.prog 22).all (· ≤reachBytes)=true):
  ∃a l cap,cs= [.slice a (List.length l) cap]∧RdE qx 1 w [] a l∧l.length≤17592186043904:=by
 obtain⟨a,l,cap,e,hr,_,_,hk⟩:=qoy (q:=(· ≤reachBytes)) (en:=qx) (sz:=1) (Φ:=fun _=>True) Tryz.underlying22 (by kernel_rfl) Y6 (fun n cs x h _=>by
  obtain⟨n,rfl,_⟩:=qox Tryz.underlying3 h;exact⟨n,rfl,trivial⟩) h hw
 refine⟨a,l,cap,e,hr,?_⟩
 rcases hk with rfl|⟨k,hk⟩
 ·simp
 ·have h8:Tryz.prog.bytesOf 3=8:=by kernel_rfl
  rw[h8] at hk;have hk:=of_decide_eq_true hk;have h9:reachBytes=140737488351232:=rfl;rw[h9] at hk;omega
end
section
variable{H:Type}{enc:TypeId×Value→H}{w:World}{spare:Nat→Bool}{held:Bool}{v:Value}{d:DataW H}{p:List MemPlace}
theorem qoA{b0:Nat}(hv:Value.okWide Tryz.prog w .any b0 22 v)(ht:DataW.Trod enc Tryz.prog w 0 spare held 22 v d p)(hw:(d.weights Tryz.prog 22).all (· ≤reachBytes)=true):
  ∃a l cap,v= .slice a (List.length l) cap∧RdE qx 1 w [] a l∧l.length≤17592186043904:=by
 obtain⟨fuel,h⟩:=ht;obtain⟨a,l,cap,e,hr,hl⟩:=qp0 h hw;exact⟨a,l,cap,qp3 rfl e (qoo Tryz.underlying22 hv),hr,hl⟩
end
end Go.Proofs.YtbhbldllneadeaaGreatDoor
