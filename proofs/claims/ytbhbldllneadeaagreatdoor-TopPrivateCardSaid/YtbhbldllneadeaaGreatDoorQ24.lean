/- What the laws share, part 24. No condition. -/
import Derived.Test.YtbhbldllneadeaaGreatDoorQ23
set_option maxHeartbeats 16000000
set_option maxRecDepth 10000
namespace Go.Proofs.YtbhbldllneadeaaGreatDoor
open Go
structure q3t(c:Cfg)(ps:List (List Ins))(n k:Nat)(q:RM)(g:GS)(r:Nat→List (Int×Int)):Prop where
 gi:q0c c ps n k q.m q.xs g r
 xt:∀(t:Nat) x,q.xs[t]? =some x→ThX n k x
 dd:q4b q.m.d
 sl:q.S.length≤k
def qm3(c:Cfg)(ps:List (List Ins))(q:RM)(r:Nat→List (Int×Int))(t:Nat):Prop:=
 ∀x p i,q.xs[t]? =some x→ps[t]? =some p→x.th.dn=false→p[x.th.pc]? =some i→x.at'=none→x.fn=none→(i.op=12∨i.op=13)→q1b x i<c.words→qm2 q.xs (q1b x i)∧(i.op=13→qmo c q.m q.xs r t (q1b x i))
section
variable{c:Cfg}{ps:List (List Ins)}{n k:Nat}{q:RM}{g g':GS}{r r':Nat→List (Int×Int)}{t u:Nat}{x:GT}{a:AT}{p:List Ins}{i:Ins}
theorem q3t.zero{il:List Int}{O:Nat}(hl:(il.length:Int)=c.words)(hO:c.orecs=(O:Int))(hw:q4b il):q3t c ps ps.length 0 ⟨ms0 il O ps.length,ps.map q2J,[],[]⟩ (q4a c il ps) (fun _=> []):=by
 have hat:∀(t:Nat) x,(ps.map q2J)[t]? =some x→∃p,ps[t]? =some p∧x=q2J p:=fun t x hx=>by
  rw[zI] at hx;obtain⟨p,hp,rfl⟩:=Zc.1 hx;exact⟨p,hp,rfl⟩
 have hno:∀(t:Nat) x a,(ps.map q2J)[t]? =some x→x.at'=some a→False:=fun t x a hx ha=>by
  obtain⟨p,_,rfl⟩:=hat t x hx;cases ha
 refine⟨⟨⟨fun j=> ?_,by rw[hO];exact congrArg _ (zJ ..),hl,zJ ..,⟨zW _,zW _⟩,zW _,⟨zW _,zW _⟩⟩,zk ..,rfl,zk ..,zk ..,hl,fun t x a hx ha=>(hno t x a hx ha).elim,fun u v y z a b hy _ ha=>(hno u y a hy ha).elim,fun t x p hx hp=> ?_,fun t x a hx ha=>(hno t x a hx ha).elim, .inr ⟨fun u y b hy hb=>(hno u y b hy hb).elim,rfl⟩⟩,fun t x hx=> ?_,hw,zu _⟩
 ·show okU ((List.replicate O (0:Int)).getD j 0);refine q4b.at (fun v hv=> ?_) j;rw[(List.mem_replicate.1 hv).2];exact qm1
 ·obtain⟨p',hp',rfl⟩:=hat t x hx;rw[hp] at hp';cases hp';unfold ThR q2J;dsimp only;have e:decide (p.length=0)=decide (0=p.length):=decide_eq_decide.2 Y6;refine⟨?_,?_,zq _,(by show(-1:Int)<0;decide),rfl,fun h=>absurd rfl h,fun h=>absurd rfl h⟩
  ·unfold q4a;dsimp only;rw[zI,hp,←e];rfl
  ·unfold q4a;dsimp only;rw[zh,zI,hp];rfl
 ·obtain⟨p,_,rfl⟩:=hat t x hx;exact⟨Rg.ok_0,Rg.ok_0,zq _,zq _,zq _,zq _,fun f e=>(by cases e),fun a e=>(by cases e)⟩
theorem q8t(hx:q.xs[t]? =some x)(hd:x.th.dn=true):q0R c ps n q t=q∧chR c ps n q t= []:=by
 unfold q0R chR;simp only[hx];cases ps[t]? with
 |none=>exact⟨rfl,rfl⟩
 |some p=>dsimp only;rw[if_pos hd,if_pos hd];exact⟨rfl,rfl⟩
theorem q8u(hx:q.xs[t]? =some x)(hp:ps[t]? =some p)(hd:x.th.dn=false):q0R c ps n q t=⟨(qN c p n t q.m x).1,q.xs.set t (qN c p n t q.m x).2.1,q.S++ [(qN c p n t q.m x).2.2.1],q.E++(qN c p n t q.m x).2.2.2.map (qmc q.S.length)⟩∧
  chR c ps n q t=chN x (qN c p n t q.m x).2.1 (qN c p n t q.m x).2.2.1:=by
 unfold q0R chR;simp only[hx,hp];rw[if_neg (by rw[hd];decide),if_neg (by rw[hd];decide)];exact⟨rfl,rfl⟩
structure PkR(c:Cfg)(ps:List (List Ins))(n:Nat)(q:RM)(g:GS)(r:Nat→List (Int×Int))(t:Nat)(g':GS)(r':Nat→List (Int×Int)):Prop where
 ch:q6w c ps g (chR c ps n q t)=some g'
 ot:∀u,u≠t→r' u=r u
 rd:∀x p,q.xs[t]? =some x→ps[t]? =some p→x.th.dn=false→RdN x (qN c p n t q.m x).2.1 (r t) (r' t)
 dn:∀x,q.xs[t]? =some x→x.th.dn=true→g'=g∧r'=r
theorem q3t.fn(h:q3t c ps n k q g r)(hx:q.xs[t]? =some x)(hp:ps[t]? =some p)(hpo:PrO p):(x.fn≠none→x.at'=none)∧(x.th.dn=false→∃i,p[x.th.pc]? =some i∧∀a,x.at'=some a→a.busy=false→i.op≠7∧i.op≠12∧i.op≠13∧i.op≠16):=by
 have hR:=h.gi.th t x p hx hp;unfold ThR at hR;cases ha:x.at' with
 |none=>
  rw[ha] at hR;dsimp only at hR;obtain⟨_,_,h3,_,h5,_⟩:=hR;exact⟨fun _=>rfl,fun hd=>⟨_,z6 (yy h3 fun e=>by rw[hd,decide_eq_true e] at h5;cases h5),fun a e=>by cases e⟩⟩
 |some a=>
  rw[ha] at hR;dsimp only at hR;have hfb:x.fn=none∧x.th.pc<p.length:=by
   split at hR
   ·exact⟨hR.2.2.fn,hR.2.2.pl⟩
   ·exact⟨hR.2.2.fn,hR.2.2.pl⟩
  refine⟨fun e=>absurd hfb.1 e,fun _=>⟨_,z6 hfb.2,fun b e hb=> ?_⟩⟩;cases e;have hA:=h.gi.ai t x a hx ha;have hid:a.ph= .idle:=by
   unfold AT.busy at hb;cases e:a.ph <;>rw[e] at hb <;>first|rfl|cases hb
  have hadn:a.dn=false:=by
   have:=hA.ph;unfold PhA at this;rw[hid] at this;exact this.1
  rw[if_neg (by rw[hadn];decide)] at hR;obtain⟨_,_,hT⟩:=hR;obtain⟨i1,i2,_,_⟩:=hT.req (fun k e=>by rw[hid] at e;cases e) (by rw[hid];rfl);obtain⟨ib,hib,h7⟩:=hT.bg;obtain⟨_,_,_,j,hj,hop,_⟩:=q7b hpo hib h7 i1 i2;rw[z6 hfb.2] at hj;cases hj;omega
theorem q3t.step(hC:COk c)(hn:n≤16)(hk:k≤1000)(h:q3t c ps n k q g r)(ht:t<n)(hps:∀p∈ps,PrO p)(hs:qm3 c ps q r t):∃g' r',PkR c ps n q g r t g' r'∧q3t c ps n (k+1) (q0R c ps n q t) g' r':=by
 obtain⟨x,hx⟩:∃x,q.xs[t]? =some x:=⟨_,z6 (by rw[h.gi.xl];exact ht)⟩
 obtain⟨p,hp⟩:∃p,ps[t]? =some p:=⟨_,z6 (by rw[h.gi.pl];exact ht)⟩
 have hpo:=hps p (zg hp);cases hd:x.th.dn with
 |true=>
  obtain⟨e1,e2⟩:=q8t (c:=c) (ps:=ps) (n:=n) hx hd;refine⟨g,r,⟨by rw[e2];rfl,fun _ _=>rfl,fun x' p' hx' _ hd'=> ?_,fun _ _ _=>⟨rfl,rfl⟩⟩,?_⟩
  ·rw[hx] at hx';cases hx';rw[hd] at hd';cases hd'
  ·rw[e1];exact⟨h.gi.mono,fun u y hy=>(h.xt u y hy).up,h.dd,Zs h.sl⟩
 |false=>
  obtain⟨e1,e2⟩:=q8u (c:=c) (ps:=ps) (n:=n) hx hp hd;obtain⟨f1,f2⟩:=h.fn hx hp hpo;obtain⟨i,hi,f3⟩:=f2 hd;obtain⟨g',r',h1,h2,h3,h4⟩:=q0c.step hC hn Y6 h.gi hx hp hpo hd fun i hi ha hf hop hw=>hs x p i hx hp hd hi ha hf hop hw
  have hck:=h.gi.gm.ck;obtain⟨h5,h6⟩:=ThX.step (c:=c) (p:=p) (t:=t) (m:=q.m) (h.xt t x hx) h.dd hck hi f1 f3;refine⟨g',r',⟨by rw[e2];exact h1,h3,fun x' p' hx' hp' _=> ?_,fun x' hx' hd'=> ?_⟩,?_⟩
  ·rw[hx] at hx';cases hx';rw[hp] at hp';cases hp';exact h4
  ·rw[hx] at hx';cases hx';rw[hd] at hd';cases hd'
  ·rw[e1];refine⟨h2,fun u y hy=> ?_,h6,?_⟩
   ·dsimp only at hy
    by_cases hu:u=t
    ·subst hu;rw[q0u hx] at hy;cases hy;exact h5
    ·rw[q0v hu] at hy;exact(h.xt u y hy).up
   ·have:=h.sl;show(q.S++ [_]).length≤k+1;rw[z8,zE];omega
theorem q9V:∀(l:List ChM) (g:GS) {l2:List ChM} {g1:GS},q6w c ps g l=some g1→q6w c ps g (l++l2)=q6w c ps g1 l2
 | [],g,l2,g1,h=>by cases h;rfl
 |ch::l,g,l2,g1,h=>by
  unfold q6w at h;rw[zl];show q6w c ps g (ch::(l++l2))=_;rw[q6w];cases e:chM c ps g ch with
  |none=>rw[e] at h;cases h
  |some g2=>rw[e] at h;exact q9V l _ h
theorem qcD{P:RM→GS→(Nat→List (Int×Int))→Prop}{q0:RM}{g0:GS}{r0:Nat→List (Int×Int)}(hC:COk c)(hn:n≤16)(hps:∀p∈ps,PrO p)(h0:q3t c ps n 0 q0 g0 r0)(hP0:P q0 g0 r0)(hsafe:∀k q g r t,k≤1000→q3t c ps n k q g r→P q g r→t<n→qm3 c ps q r t)
  (hstep:∀k q g r t g' r',k≤1000→q3t c ps n k q g r→P q g r→t<n→PkR c ps n q g r t g' r'→q3t c ps n (k+1) (q0R c ps n q t) g' r'→P (q0R c ps n q t) g' r'):
  ∀(j:Nat) (l:List Nat),l.length=j→(∀t∈l,t<n)→j≤1000→∃g r,q6w c ps g0 (q55 c ps n q0 l)=some g∧q3t c ps n j (qfc c ps n q0 l) g r∧P (qfc c ps n q0 l) g r
 |0,l,hl,_,_=>by
  obtain rfl:l= []:=zA.1 hl;exact⟨g0,r0,rfl,h0,hP0⟩
 |j+1,l,hl,ht,hj=>by
  obtain⟨l',t,rfl⟩:∃l' t,l=l'++ [t]:=⟨l.dropLast,l.getLast (fun e=>by rw[e] at hl;cases hl),(List.dropLast_concat_getLast _).symm⟩
  have hl':l'.length=j:=by rw[z8,zE] at hl;omega
  have htn:=ht t (zR _ (zf.2 rfl));obtain⟨g,r,h1,h2,h3⟩:=qcD hC hn hps h0 hP0 hsafe hstep j l' hl' (fun u hu=>ht u (zN _ hu)) Y6;obtain⟨g',r',h4,h5⟩:=h2.step hC hn Y6 htn hps (hsafe j _ g r t Y6 h2 h3 htn);rw[q6Z,q4F];exact⟨g',r',(q9V _ _ h1).trans h4.ch,h5,hstep j _ g r t g' r' Y6 h2 h3 htn h4 h5⟩
end
open Go
theorem q5F{c:Cfg}{P:List (List Ins)}:∀(l:List ChM) (s s':GS) (k:Nat),q6w c P s l=some s'→q7k c P l k s= .inl s'
 | [],s,s',k,h=>by cases h;rfl
 |ch::l,s,s',k,h=>by
  unfold q6w at h;unfold q7k doM;cases e:chM c P s ch with
  |none=>rw[e] at h;cases h
  |some s1=>
   rw[e] at h;dsimp only at h ⊢;rw[if_pos rfl];exact q5F l _ s' (k+1) h
theorem qk6{x x':GT}{s:StM}:∀z∈chN x x' s,z.ad= []:=by
 unfold chN;intro z hz
 (repeat' split at hz) <;>first|cases hz;done|(rw[zf.1 hz])
theorem qk7{c:Cfg}{ps:List (List Ins)}{n:Nat}{r:RM}{t:Nat}:(∀z∈chR c ps n r t,z.ad= [])∧(chR c ps n r t).length≤1:=by
 have hl:∀x x' s,(chN x x' s).length≤1:=fun x x' s=>by
  unfold chN
  (repeat' split) <;>simp
 unfold chR
 split
 ·split
  ·exact⟨fun _ h=>(by cases h),zq _⟩
  ·exact⟨qk6,hl _ _ _⟩
 ·exact⟨fun _ h=>(by cases h),zq _⟩
theorem q82{c:Cfg}{ps:List (List Ins)}{n:Nat}:∀(l:List Nat) (r:RM),(∀z∈q55 c ps n r l,z.ad= [])∧(q55 c ps n r l).length≤l.length
 | [],_=>⟨fun _ h=>(by cases h),zu _⟩
 |t::l,r=>by
  obtain⟨h1,h2⟩:=qk7 (c:=c) (ps:=ps) (n:=n) (r:=r) (t:=t);obtain⟨h3,h4⟩:=q82 l (q0R c ps n r t);refine⟨fun z hz=> ?_,?_⟩
  ·rcases zz.1 hz with h|h
   ·exact h1 z h
   ·exact h3 z h
  ·show(chR c ps n r t++_).length≤_;rw[z8,zG];omega
theorem qgR:∀{l:List ChM},(∀z∈l,z.ad= [])→(l.map q9G).map CH.m=l
 | [],_=>rfl
 |⟨t,f,ad⟩::l,h=>by
  have h1:ad= []:=h _ zm;subst h1;rw[zF,zF,qgR fun z hz=>h z (zp _ hz)]
theorem qeV{l:List OB}{o:OB}{W0:World}(h:o∈l):Ent W0 (qe4 l) o.D:=by
 obtain⟨a,b,rfl⟩:=ZS h;unfold qe4;rw[zH,zF,zY,Z2];exact Ent.right.trans Ent.left
theorem qeX{l:List ObS}{o:ObS}{W0:World}(h:o∈l):Ent W0 (q5j l) o.D:=by
 obtain⟨a,b,rfl⟩:=ZS h;unfold q5j;rw[zH,zF,zY,Z2];exact Ent.right.trans Ent.left
section
variable{W0:World}{own:Own}{c:Cfg}
theorem qfh{ia pa ka:Option Addr}{il ks:List Int}{ic pc kc:Nat}{ps:List PH}{ca:Option Addr}{cc:Nat}{cl:List ChM}{g:GS}(hF:qC W0)(hI:RdE q09 1 W0 own ia il)(hil:il.length≤1000)(hw:∀x∈il,okU x)(hP:RdE PH.enc 1 W0 own pa ps)(hQ:∀h∈ps,RdE Ins.enc 5 W0 own h.a h.p)
  (hC:RdE CH.enc 3 W0 own ca (cl.map q9G)) (hna:∀z∈cl,z.ad= []) (hcl:cl.length≤5000) (hcs:csM c il.length ps []=(0,0,0)) (hrun:q6w c (ps.map PH.p) (q4a c il (ps.map PH.p)) cl=some g):
  qt Tryz.prog W0 19 [qaG c ia il.length ic pa ps.length pc ka ks.length kc, .slice ca (cl.map q9G).length cc] own fun v own'=>∃y:RG,(v= .tuple #[y.v g, .int .i64 0, .int .i64 0]∧y.ok W0 g)∧Ent W0 own' (y.dD++(y.tD++(y.eD++(y.X++(y.oD++(q5j y.S++own)))))):=by
 have h1:=qll (W0:=W0) (own:=own) (c:=c) (ic:=ic) (pc:=pc) (ka:=ka) (ks:=ks) (kc:=kc) (cc:=cc) hF hI Y6 hw hP hQ hC (fun x hx=>by
  obtain⟨z,_,rfl⟩:=zK.1 hx;exact⟨RdE.nil,zu _,fun _ h=>(by cases h)⟩) (by rw[zk];exact hcl)
 have h2:=q5F cl _ _ 0 hrun;rw[qgR hna,h2] at h1;intro w hw;refine(h1 w hw).mono ?_;rintro e w' ⟨v,own',he,hs,⟨⟨k,e',rfl,hor⟩,_⟩|⟨⟨y,s⟩,⟨rfl,_,h3,h4⟩,hE⟩⟩
 ·exfalso
  rcases hor with ⟨h,_⟩|⟨_,_,j,_,h⟩
  ·exact h (by rw[hcs])
  ·cases h
 ·cases h3;exact⟨_,own',he,hs,y,⟨rfl,h4⟩,by simp only[RG.D,zd] at hE;exact hE⟩
theorem qdz{ia pa ka:Option Addr}{il ks:List Int}{ic pc kc O:Nat}{ps:List PH}{l:List Nat}{g:GS}(hF:qC W0)(hcs:csM c il.length ps ks=(0,0,0))(hcs0:csM c il.length ps []=(0,0,0))(hc:qH c=0)(h0:c.c0=0∧c.c1=0∧c.c2=0∧c.c3=0)(hb:qA c=0)(hI:RdE q09 1 W0 own ia il)(hil:(il.length:Int)=c.words)(hi1:il≠ [])(hi2:il.length≤1000)(hiw:∀x∈il,okU x)(hO:c.orecs=(O:Int))(hO2:O≤1000)
  (hP:RdE PH.enc 1 W0 own pa ps) (hQ:∀h∈ps,RdE Ins.enc 5 W0 own h.a h.p) (hK:RdE qx 1 W0 own ka ks) (hn1:1≤ps.length) (hn:ps.length≤16) (hck:∀h∈ps,qw h.p=(0,0)) (hpl:∀h∈ps,h.p.length≤100000)
  (hkl:ks=l.map fun t=>((t:Nat):Int)) (hkb:l.length≤1000) (hkr:∀t∈l,t<ps.length) (hg:∀k t,l[k]? =some t→StG c (ps.map PH.p) ps.length (q10 c il O (ps.map PH.p) (l.take k)) t) (hS:(q10 c il O (ps.map PH.p) l).S.length≤1000) (hob:∀x∈(q10 c il O (ps.map PH.p) l).xs,x.obs.length≤100000)
  (hxc:∀(u:Nat) x a,(q10 c il O (ps.map PH.p) l).xs[u]? =some x→x.at'=some a→0≤a.ck∧a.ck≤1099511627776)
  (hrun:q6w c (ps.map PH.p) (q4a c il (ps.map PH.p)) (q55 c (ps.map PH.p) (ps.map PH.p).length ⟨ms0 il O (ps.map PH.p).length,(ps.map PH.p).map q2J,[],[]⟩ l)=some g)
  (hgol:g.O.length=(q10 c il O (ps.map PH.p) l).xs.length) (hgo:∀(t:Nat) x,(q10 c il O (ps.map PH.p) l).xs[t]? =some x→∃s,g.O.getD t []=x.obs++s) (hgd:(q10 c il O (ps.map PH.p) l).xs.any GT.stor=true∨g.d=(q10 c il O (ps.map PH.p) l).m.d) (hgl:g.d.length≤1000):
  qt Tryz.prog W0 11 [qaG c ia il.length ic pa ps.length pc ka ks.length kc] own fun v own'=>∃_:Unit,v= .tuple #[.int .i64 0, .int .i64 0, .int .i64 0]∧Ent W0 own' own:=by
 refine qD (sH [3,5,7,9,11,1,14,15,17,19,21,24,26,27,29,0,24,14,15,17,19,21,26,27,29,0,3,5,7,9,11,13,15,17,19,21,23,25,27,29,31,33,35,37,39,41,0] ?_);have hwr:=fun(own':Own) (m:qv own' own)=>qjn (W0:=W0) (own:=own') (c:=c) (ic:=ic) (pc:=pc) (kc:=kc) hF hcs hc h0 hb hI.up hil hi1 hi2 hO hO2 hP.up (fun h hh=>(hQ h hh).up) hK.up hn1 hn hck hpl hkl hkb hkr hg fun k=>Zl (q82 _ _).2 (by rw[zU];omega)
 obtain⟨hna,hcl⟩:=q82 (c:=c) (ps:=ps.map PH.p) (n:=(ps.map PH.p).length) l ⟨ms0 il O (ps.map PH.p).length,(ps.map PH.p).map q2J,[],[]⟩;have hlen:(ps.map PH.p).length=ps.length:=zk ..;generalize q55 c (ps.map PH.p) (ps.map PH.p).length ⟨ms0 il O (ps.map PH.p).length,(ps.map PH.p).map q2J,[],[]⟩ l=cl at*;generalize q10 c il O (ps.map PH.p) l=R at*;have hro:=fun(own':Own) (m:qv own' own) (ca:Option Addr) (cc:Nat) (hC:RdE CH.enc 3 W0 own' ca (cl.map q9G))=>qfh (W0:=W0) (own:=own') (c:=c) (ia:=ia) (ic:=ic) (pc:=pc) (ka:=ka) (ks:=ks) (kc:=kc) (cc:=cc) hF hI.up hi2 hiw hP.up (fun h hh=>(hQ h hh).up) hC hna Y6 hcs0 hrun
 repeat'((try(conv=>whnf));first|(refine fD ?_)|(refine qf (fun bk hbk=> ?_))|((apply qe);first|((refine qi (hwr _ Y9) (fun y v hv=> ?_);(obtain⟨xb,M,ca,cc,cD⟩:=y;obtain⟨rfl,hMk,hB⟩:=hv;dsimp only at hMk hB;have hrX:=fun(own':Own) (m:qv own' own) (m2:qv own' cD)=>hro own' m ca cc ((hB.rd (W0:=W0)).up))))|((refine qi (hrX _ Y9 Y9) (fun y v hv=> ?_);(obtain⟨rfl,hgk⟩:=hv;have hrs:=fun Q=>q7B (W0:=W0) (n:=ps.length) hMk.ok (by have:=hMk.len;rw[hlen] at this;omega) hS (fun y hy=>hob y.x (by rw[←hMk.x];exact zK.2 ⟨y,hy,rfl⟩)) Q)))|((refine qo (b:=M.b) (D:=M.mh.O R.m++(M.tD++(M.sD++(M.eD++(M.gD++(TsO c ps.length 0 M.L++ [])))))) hrs (fun Q=>sbE) (fun r v hv=> ?_);(obtain⟨rfl,hr⟩:=hv;obtain⟨cs,ta,tc,tD,sa,sc,sD,ea,ec,oa,oc,oD,ol,da,el,eD,gD⟩:=r;have hsh:=hr.sh;obtain⟨a1,a2,a3,a4,a5,n1,c1,n2,c2,n3,c3,n4,c4,n5,c5,x1,x2,x3,hcs2⟩:=hsh;dsimp only at hcs2;subst hcs2))))|(refine fO ?_)|(refine fA ?_)|(refine fL ?_)|(refine fM ?_)|(refine q1c.mk ?_ ?_))
 all_goals
  have hOR:=hr.ho.rd (W0:=W0);have hSR:=hgk.o.rd (W0:=W0);have hobm:=hr.ob;have holm:=hgk.ol;dsimp only at hOR hobm;have hxs:(M.L.map fun y=>y.x.obs)=R.xs.map GT.obs:=by rw[←hMk.x,yE];rfl
  rw[hxs] at hobm;have holl:ol.length=y.S.length:=by
   have h1:=congrArg List.length hobm;have h2:=congrArg List.length holm;rw[zk,zk] at h1;rw[zk] at h2;omega
  have holn:ol.length≤16:=by
   have h1:=congrArg List.length hobm;have h2:=congrArg List.length holm;have h4:=congrArg List.length hMk.x;have h5:=hMk.len;rw[zk,zk] at h1;rw[zk] at h2 h4;rw[hlen] at h5;omega
  refine qX (σ:=Nat) (fun s=> [(48, .int .i64 s)]) (fun _=>_) (fun s=>s≤ol.length) (fun s=>ol.length-s) 0 (zq _) (eF) Ent.refl rfl ?_;rintro i junk hi
  by_cases hlt:i<ol.length
  ·obtain⟨o,ho⟩:∃o,ol[i]? =some o:=⟨_,z6 hlt⟩
   obtain⟨z,hz⟩:∃z,y.S[i]? =some z:=⟨_,z6 Y6⟩
   obtain⟨x,hx,hxo⟩:∃x,R.xs[i]? =some x∧o.l=x.obs:=by
    have:=congrArg (fun l=>l[i]?) hobm;simp only[zI,ho,Zu] at this;obtain⟨x,hx,h2⟩:=Zc.1 this.symm;exact⟨x,hx,h2.symm⟩
   obtain⟨s,hzo⟩:∃s,z.l=o.l++s:=by
    have:=congrArg (fun l=>l[i]?) holm;simp only[zI,hz,Zu] at this;obtain⟨s,hs⟩:=hgo i x hx;rw[zh,←this] at hs;exact⟨s,by rw[hxo];exact hs⟩
   have hlt':(i:Int)<ol.length:=Y6;have ho2:=hr.hv o (zg ho);have hz2:=hgk.os z (zg hz);have holR:RdE ObM.enc 3 W0 (qe4 ol) o.a o.l:=(ho2.rd (W0:=W0)).ent (qeV (zg ho));have hzlR:RdE ObM.enc 3 W0 (q5j y.S) z.a z.l:=(hz2.rd (W0:=W0)).ent (qeX (zg hz));have hol5:o.l.length≤100000:=by
    rw[hxo];exact hob x (zg hx)
   repeat'((try(conv=>whnf));first|(refine fF ?_)|((apply gLd);first|(refine q0r hOR ho rfl ?_))|((apply qJ);first|((refine ixE hOR ho ?_ ?_;(first|rfl|omega)))))
   refine qX (σ:=Nat) (fun s=> [(55, .int .i64 s)]) (fun _=>_) (fun s=>s≤o.l.length) (fun s=>o.l.length-s) 0 (zq _) (eF) Ent.refl rfl ?_;rintro k junk2 hk
   by_cases hkl:k<o.l.length
   ·obtain⟨e,he⟩:∃e,o.l[k]? =some e:=⟨_,z6 hkl⟩
    have he2:z.l[k]? =some e:=by rw[hzo,zy hkl];exact he
    have hkl':(k:Int)<o.l.length:=Y6;have hkz:¬(k:Int)≥z.l.length:=by rw[hzo,z8];omega
    repeat'((try(conv=>whnf));first|(refine fH ?_)|(refine fD ?_)|(refine fF ?_)|(refine fK ?_)|(refine q4s (by simp[eqC,q0I]) ?_)|((apply gLd);first|(refine q0r hSR hz rfl ?_))|((apply qJ);first|((refine ixE holR he ?_ ?_;(first|rfl|omega)))|((refine ixE hSR hz ?_ ?_;(first|rfl|omega)))|((refine ixE hzlR he2 ?_ ?_;(first|rfl|omega))))|((apply q2H);first|(refine q1h holR he rfl ?_)|(refine q1h hzlR he2 rfl ?_))|(refine fB ?_)|(refine fA ?_)|(refine fL ?_)|(refine fM ?_)|(refine qf (fun bk hbk=> ?_)))
    all_goals exact⟨k+1,hkl,Y6,(eF),sbE⟩
   ·obtain rfl:k=o.l.length:=Y6;have hkl':¬(o.l.length:Int)<o.l.length:=Y6
    repeat'((try(conv=>whnf));first|(refine fG ?_)|(refine fB ?_))
    all_goals exact⟨i+1,hlt,Y6,(eF),sbE⟩
  ·obtain rfl:i=ol.length:=Y6;have hlt':¬(ol.length:Int)<ol.length:=Y6;have hst:=fun(Q:Own) (m:qv Q [(xb,xP M.b ca (cl.map q9G).length cc)])=>qaV (W0:=W0) (n:=ps.length) (xb:=xb) (ca:=ca) (k:=(cl.map q9G).length) (cc:=cc) hMk (by rw[hlen];exact hn) hxc Q
   rw[hlen] at hst;cases hsv:R.xs.any GT.stor with
   |true=>
    rw[hsv] at hst
    repeat'((try(conv=>whnf));first|(refine fE ?_)|(refine fG ?_)|((apply qe);first|((refine q1f (F:= [(xb,xP M.b ca (cl.map q9G).length cc)]) (b:=M.b) (D:=M.mh.O R.m++(M.tD++(M.sD++(M.eD++(M.gD++(TsO c ps.length 0 M.L++ [])))))) hst (fun Q=>sbE) (fun _ v hv=> ?_);(subst hv))))|(refine fA ?_))
    all_goals exact⟨rfl,sbE⟩
   |false=>
    rw[hsv] at hst
    repeat'((try(conv=>whnf));first|(refine fD ?_)|(refine fG ?_)|((apply qe);first|((refine q1f (F:= [(xb,xP M.b ca (cl.map q9G).length cc)]) (b:=M.b) (D:=M.mh.O R.m++(M.tD++(M.sD++(M.eD++(M.gD++(TsO c ps.length 0 M.L++ [])))))) hst (fun Q=>sbE) (fun _ v hv=> ?_);(subst hv))))|(refine fA ?_))
    have hde:g.d=R.m.d:=hgd.resolve_left (by rw[hsv];decide);obtain⟨da',dc',hda1,hda2⟩:=hr.dd;have hda3:Value.slice a1 n1 c1= .slice da' R.m.d.length dc':=hda1;dsimp only at hda2;rw[←hde] at hda2 hda3;cases hda3;have hgR:=hgk.d.rd (W0:=W0);refine qX (σ:=Nat) (fun s=> [(92, .int .i64 s)]) (fun _=>_) (fun s=>s≤g.d.length) (fun s=>g.d.length-s) 0 (zq _) (eF) Ent.refl rfl ?_;rintro k junk2 hk
    by_cases hkl:k<g.d.length
    ·obtain⟨e,he⟩:∃e,g.d[k]? =some e:=⟨_,z6 hkl⟩
     have hkl':(k:Int)<g.d.length:=Y6
     repeat'((try(conv=>whnf));first|(refine fF ?_)|(refine fG ?_)|((apply gLd);first|(refine q0r hgR he rfl ?_)|(refine q0r hda2 he rfl ?_))|((apply qJ);first|((refine ixE hgR he ?_ ?_;(first|rfl|omega)))|((refine ixE hda2 he ?_ ?_;(first|rfl|omega))))|(refine fB ?_)|(refine fA ?_))
     all_goals exact⟨k+1,hkl,Y6,(eF),sbE⟩
    ·obtain rfl:k=g.d.length:=Y6;have hkl':¬(g.d.length:Int)<g.d.length:=Y6
     repeat'((try(conv=>whnf));first|(refine fG ?_))
     all_goals exact⟨rfl,sbE⟩
end
open Go
structure CfO(c:Cfg):Prop where
 hr:0≤c.reads∧c.reads≤32
 hw:1≤c.writes∧c.writes≤32
 hcw:0≤c.words∧c.words≤64
 str:c.strong=false
 ck:0≤c.clock∧c.clock≤1099511627776
 co:COk c
section
variable{c:Cfg}{ps:List (List Ins)}{n k t:Nat}{m:MS}{xs:List GT}{g:GS}{r:Nat→List (Int×Int)}{x:GT}{a:AT}{p:List Ins}{i:Ins}
theorem q9K(hG:GM c n k m){o:Int}(h:0≤o∧o.toNat<m.o.length):okO m o:=⟨o.toNat,(Z6 h.1).symm,h.2,hG.o _⟩
theorem qgY(hG:GM c n k m){w:Int}(h:0≤w∧w<c.words):okD m w:=⟨w.toNat,(Z6 h.1).symm,by have:=hG.dl;omega⟩
theorem q8h{l:List Int}(h:l≠ []):l.headD 0∈l:=by cases l with|nil=>exact absurd rfl h|cons y l=>exact zm
theorem qgX(hC:CfO c)(hG:GM c n k m)(hA:AI c t m a)(hX:AtX k a)(hk:k≤1000)(ht:t<n)(hn:n≤16)(hb:a.busy=true):okA c t m a:=by
 have hp:=hA.ph;have hq:=hX.ph;have hsl:=hG.sl;have hck:=hG.ck;have hxc:=hX.ck;have hw:=hC.hcw;unfold PhA at hp;unfold okA;cases e:a.ph with
 |idle=>unfold AT.busy at hb;rw[e] at hb;cases hb
 |loc q=>
  rw[e] at hp;exact⟨hp.1.2.1,Y6,fun w v h=>hp.2 w v h⟩
 |ent j=>
  rw[e] at hp;dsimp only at hp;have:=hp.2;exact⟨Y6,Y6,Y6⟩
 |rd j b v=>
  rw[e] at hp hq;obtain⟨_,_,h1,h2⟩:=hp;have ho:=hC.co.or a.addr h1 h2;have h3:=hX.ls;have h4:=hX.ln;refine⟨q9K hG (hG.len ho),qgY hG ⟨h1,h2⟩,h2,?_,Y6,Y6⟩
  rcases hq with h|h|h
  ·exact .inl h
  ·exact .inr (.inl h)
  ·exact .inr (.inr h.1)
 |lk s ld=>
  rw[e] at hp;obtain⟨_,_,_,h1,_,_,h2⟩:=hp;refine⟨h1,q9K hG (hA.oc _ ?_),fun hl=> ?_,Y6⟩
  ·rw[zh,z6 h1];exact yo _
  ·obtain⟨h3,h4⟩:=h2 hl;unfold q3R at h3;unfold okU at h4;omega
 |tn _=>trivial
 |ck l=>
  rw[e] at hp;obtain⟨_,_,_,_,h1,h2,_⟩:=hp;exact⟨h1,q9K hG (hA.st _ (h2 _ (q8h h1)))⟩
 |dc=>exact hC.ck
 |wr A V=>
  rw[e] at hp;obtain⟨h1,h2,h3,_,h4,h5,_,h6,_⟩:=hp;refine⟨h4,fun h=>h4 (zA.1 (by rw[h5,h];rfl)),qgY hG (hA.ar _ (h6 _ (q8h h4))),⟨h1,decide_eq_true ⟨h2,h3⟩⟩,Y6⟩
 |rl l w=>
  rw[e] at hp;obtain⟨h1,h2,h3,_⟩:=hp;exact⟨h1,fun h=>h1 (zA.1 (by rw[h3,h];rfl)),q9K hG (hA.oc _ (h2 _ (q8h h1))),Y6⟩
 |sp=>trivial
 |ps=>
  have h1:=hA.tk (by rw[e];rfl);have h2:=hG.tk;have h3:=hG.sv;exact⟨Y6,Y6⟩
 |lv=>show t<m.sl.length;omega
theorem qgD(hX:AtX k a)(hd:q4b m.d)(hG:GM c n k m):qka c t m a:=fun _=>by
 have:=(hX.step (c:=c) (t:=t) hd hG.ck).1.cd;omega
theorem qkS(hC:CfO c)(hp:PrO p)(hl:p.length≤64):GoC c p:=by
 have hw:=hC.hcw;refine⟨hC.hr,hC.hw,Y6,hC.str,Y6,by rw[hp.ck],fun b i hb h7=> ?_⟩;obtain⟨c',hc,_,h,_⟩:=q0k hp.ck hb h7;omega
theorem qkT(hC:CfO c)(hn:n≤16)(hk:k≤1000)(h:q0c c ps n k m xs g r)(hX:ThX n k x)(hd:q4b m.d)(hx:xs[t]? =some x)(hp:ps[t]? =some p)(hpo:PrO p)(hl:p.length≤64)(hdn:x.th.dn=false):∃i,GoT c p n t m x i:=by
 have hR:=h.th t x p hx hp;have htn:t<n:=by rw[←h.xl];exact(z7.1 hx).1
 have ho:=hX.ob;have hs:=hX.sn;have hct:=hX.ct;have htr:=hX.tr;have hsl:=h.gm.sl;have hck:=h.gm.ck;unfold ThR at hR;have mk:∀i,p[x.th.pc]? =some i→(match x.at' with
  |none=>(match x.fn with
   |some f=>qeU n m f
   |none=>locI i∨(i.op=7∧okA c t m a0T)∨(i.op=12∨i.op=13)∨(i.op=16∧qeU n m ⟨false,0,0⟩))
  |some a=>x.fn=none∧(∃bi,p[x.bg]? =some bi∧bi.op=7)∧((a.busy=true∧okA c t m a∧qka c t m a∧((i.op=10∧0≤i.a∧i.a<8)∨(i.op≠10∧i.op≠14)))∨
   (a.ph= .idle∧a.st=1∧(locI i∨(rqI i∧okA c t m (q1F c x.th.rg a i)∧qka c t m (q1F c x.th.rg a i))))))→GoT c p n t m x i:=fun i hi hat=>by
  have hpl:=(z7.1 hi).1;exact⟨hi,qkV (q36 hpo.ck hi).1,hX.rg,Y6,hdn,Y6,Y6,Y6,Y6,h.gm.dl,hat⟩
 cases ha:x.at' with
 |none=>
  rw[ha] at hR mk;dsimp only at hR mk;obtain⟨_,_,h3,h4,h5,h6,_⟩:=hR;obtain⟨i,hi⟩:∃i,p[x.th.pc]? =some i:=⟨_,z6 (yy h3 fun e=>by rw[hdn,decide_eq_true e] at h5;cases h5)⟩
  refine⟨i,mk i hi ?_⟩;cases hf:x.fn with
  |some f=>
   have:=hX.fn f hf;exact⟨.inr ⟨this.1,this.2.1,this.2.2.1,Y6⟩,Y6,Y6,hn,hsl⟩
  |none=>
   have:=qh0 hpo h4 hi;dsimp only;unfold locI
   rcases this with h|h|h|h|h|h
   ·exact .inr (.inl ⟨h,⟨.inl rfl,Y6,Y6⟩⟩)
   ·exact .inr (.inr (.inl (.inl h)))
   ·exact .inr (.inr (.inl (.inr h)))
   ·exact .inr (.inr (.inr ⟨h, .inl rfl,Y6,Y6,hn,hsl⟩))
   ·exact .inl (.inr h)
   ·exact .inl (.inl h)
 |some a=>
  rw[ha] at hR mk;dsimp only at hR mk;have hA:=h.ai t x a hx ha;have hXA:=hX.at' a ha;have hfb:x.fn=none∧(∃bi,p[x.bg]? =some bi∧bi.op=7)∧x.th.pc<p.length:=by
   split at hR
   ·exact⟨hR.2.2.fn,hR.2.2.bg,hR.2.2.pl⟩
   ·exact⟨hR.2.2.fn,hR.2.2.bg,hR.2.2.pl⟩
  obtain⟨i,hi⟩:∃i,p[x.th.pc]? =some i:=⟨_,z6 hfb.2.2⟩
  have hna:=hpo.na i (zg hi);have hic:=qkV (q36 hpo.ck hi).1;refine⟨i,mk i hi ⟨hfb.1,hfb.2.1,?_⟩⟩
  by_cases hb:a.busy=true
  ·refine .inl ⟨hb,qgX hC h.gm hA hXA hk htn hn hb,qgD hXA hd h.gm,?_⟩
   by_cases h10:i.op=10
   ·exact .inl ⟨h10,hic.a (by rw[h10];rfl)⟩
   ·exact .inr ⟨h10,hna.1⟩
  ·have hid:a.ph= .idle:=by
    unfold AT.busy at hb;cases e:a.ph <;>rw[e] at hb <;>first|rfl|exact absurd rfl hb
   have hadn:a.dn=false:=by
    have:=hA.ph;unfold PhA at this;rw[hid] at this;exact this.1
   rw[if_neg (by rw[hadn];decide)] at hR;obtain⟨_,_,hT⟩:=hR;obtain⟨i1,i2,_,_⟩:=hT.req (fun k e=>by rw[hid] at e;cases e) (by rw[hid];rfl);obtain⟨ib,hib,h7⟩:=hT.bg;obtain⟨_,_,_,j,hj,hop,_⟩:=q7b hpo hib h7 i1 i2;rw[hi] at hj;cases hj;refine .inr ⟨hid,hT.st,?_⟩
   by_cases hrq:8≤i.op∧i.op≤11
   ·obtain⟨_,f2,f3,_⟩:=q9U hT hA hid hi hrq;exact .inr ⟨by unfold rqI;omega,qgX hC h.gm f2 (hXA.req hX.rg) hk htn hn f3,qgD (hXA.req hX.rg) hd h.gm⟩
   ·exact .inl (.inl Y6)
end
open Go
structure qjG(c:Cfg)(il:List Int)(O:Nat)(ps:List (List Ins))(l:List Nat)(g:GS):Prop where
 hg:∀k t,l[k]? =some t→StG c ps ps.length (q10 c il O ps (l.take k)) t
 hS:(q10 c il O ps l).S.length≤1000
 hob:∀x∈(q10 c il O ps l).xs,x.obs.length≤100000
 hxc:∀(u:Nat) x a,(q10 c il O ps l).xs[u]? =some x→x.at'=some a→0≤a.ck∧a.ck≤1099511627776
 hrun:q6w c ps (q4a c il ps) (q55 c ps ps.length ⟨ms0 il O ps.length,ps.map q2J,[],[]⟩ l)=some g
 hgol:g.O.length=(q10 c il O ps l).xs.length
 hgo:∀(t:Nat) x,(q10 c il O ps l).xs[t]? =some x→∃s,g.O.getD t []=x.obs++s
 hgd:(q10 c il O ps l).xs.any GT.stor=true∨g.d=(q10 c il O ps l).m.d
 hgl:g.d.length≤1000
section
variable{c:Cfg}{ps:List (List Ins)}{n k:Nat}{q:RM}{g:GS}{r:Nat→List (Int×Int)}
theorem qjD{x:GT}{a:AT}{A V:List Int}(hA:AI c k q.m a)(hx:x.at'=some a)(h:a.ph= .wr A V):x.stor=true:=by
 have hp:=hA.ph;unfold PhA at hp;rw[h] at hp;unfold GT.stor;rw[hx];dsimp only;rw[h];dsimp only;obtain⟨h1,h2,h3,h4,_⟩:=hp;rw[h1,Bool.and_true,yM];unfold AT.sto;simp[h2,h3]
theorem q3t.obs(h:q3t c ps n k q g r)(t:Nat)(x:GT)(hx:q.xs[t]? =some x):∃s,g.O.getD t []=x.obs++s:=by
 obtain⟨p,hp⟩:∃p,ps[t]? =some p:=⟨_,z6 (by have:=(z7.1 hx).1;rw[h.gi.pl,←h.gi.xl];exact this)⟩
 have hR:=h.gi.th t x p hx hp;unfold ThR at hR;cases ha:x.at' with
 |none=>rw[ha] at hR;exact⟨[],by rw[zC];exact hR.2.1⟩
 |some a=>
  rw[ha] at hR;dsimp only at hR
  split at hR
  ·refine⟨(if a.code=1 then x.seen else [])++ [⟨x.bg,3,a.code⟩],?_⟩;rw[hR.2.1];unfold qep
   split <;>simp
  ·exact⟨[],by rw[zC];exact hR.2.1⟩
theorem q3t.dat(h:q3t c ps n k q g r):q.xs.any GT.stor=true∨g.d=q.m.d:=by
 rcases h.gi.mr with ⟨u,y,b,A,V,hy,hb,hp,_⟩|⟨_,e⟩
 ·exact .inl (yL.2 ⟨y,zg hy,qjD (h.gi.ai u y b hy hb) hb hp⟩)
 ·exact .inr e
theorem qiC{P:RM→GS→(Nat→List (Int×Int))→Prop}{il:List Int}{O:Nat}(hC:CfO c)(hn:ps.length≤16)(hps:∀p∈ps,PrO p)(hpl:∀p∈ps,p.length≤64)(hil:(il.length:Int)=c.words)(hO:c.orecs=(O:Int))(hw:q4b il)
  (hP0:P ⟨ms0 il O ps.length,ps.map q2J,[],[]⟩ (q4a c il ps) (fun _=> [])) (hsafe:∀k q g r t,k≤1000→q3t c ps ps.length k q g r→P q g r→t<ps.length→qm3 c ps q r t)
  (hstep:∀k q g r t g' r',k≤1000→q3t c ps ps.length k q g r→P q g r→t<ps.length→PkR c ps ps.length q g r t g' r'→q3t c ps ps.length (k+1) (q0R c ps ps.length q t) g' r'→P (q0R c ps ps.length q t) g' r') {l:List Nat} (hl:∀t∈l,t<ps.length) (hlk:l.length≤1000):
  ∃g r,qjG c il O ps l g∧q3t c ps ps.length l.length (q10 c il O ps l) g r∧P (q10 c il O ps l) g r:=by
 have hz:=q3t.zero (c:=c) (ps:=ps) (O:=O) hil hO hw;have hall:=qcD (P:=P) hC.co hn hps hz hP0 hsafe hstep;obtain⟨g,r,h1,h2,h3⟩:=hall l.length l rfl hl hlk;have hcw:=hC.hcw;refine⟨g,r,⟨fun k t hk=> ?_,by have:=h2.sl;exact Zl this hlk,fun x hx=> ?_,fun u x a hx ha=> ?_,h1,by rw[h2.gi.ol,h2.gi.xl],h2.obs,h2.dat,by have:=h2.gi.dl;omega⟩,h2,h3⟩
 ·have hkl:=(z7.1 hk).1;have htl:(l.take k).length=k:=by rw[zU];omega
  obtain⟨g1,r1,_,i2,_⟩:=hall k (l.take k) htl (fun t ht=>hl t (yj ht)) Y6;refine⟨fun x p hx hp hd=>⟨qkS hC (hps p (zg hp)) (hpl p (zg hp)),?_⟩,Zl i2.sl Y6⟩;exact qkT hC hn Y6 i2.gi (i2.xt t x hx) i2.dd hx hp (hps p (zg hp)) (hpl p (zg hp)) hd
 ·obtain⟨t,ht,hxt⟩:=ZO hx;have:=(h2.xt t x (by rw[z6 ht,hxt])).ob;omega
 ·have:=((h2.xt u x hx).at' a ha).ck;omega
end
namespace Ord
open Go
theorem q6e:∀l:List Int,(l.map qx).flatten=l.map (Value.int .i64)
 | []=>rfl
 |x::l=>by simp[q6e l]
theorem _root_.Go.Proofs.YtbhbldllneadeaaGreatDoor.St.put_row2{W0:World}{own:Own}{w:World}{b:Nat}{T:TypeId}{C:Own→Own}{l l':List Int}{rest:List Value}{n:Nat}{os:Array Obj}(s:St W0 own w)(hat:At [(b,fun o=>o=Obj.cells ((l.map qx).flatten++rest).toArray T)] own C)(hl:l'.length=l.length):
  St W0 (C [(b,fun o=>o=Obj.cells ((l'.map qx).flatten++rest).toArray T)]) (Go.Sort.grow (Go.Sort.putRow (Value.int .i64) (Go.Sort.ahead w n) b 0 l'.toArray) os):=by
 have hu:=hat.up (fun o=>o=Obj.cells ((l'.map qx).flatten++rest).toArray T);have hb:=s.mem_size hu.mem;refine s.up hu rfl rfl rfl ?_ ?_ ?_
 ·simp[Go.Sort.grow,Go.Sort.putRow,Go.Sort.mapBlock,Go.Sort.ahead]
 ·intro k hk hne;simp only[Go.Sort.grow,Go.Sort.putRow,Go.Sort.mapBlock,Go.Sort.ahead];rw[ZT (by simpa using hk),ZG,if_neg (fun e=>hne e.symm)]
 ·obtain⟨o,ho,hp⟩:=s.owns _ hu.mem;refine⟨_,?_,rfl⟩;simp only[Go.Sort.grow,Go.Sort.putRow,Go.Sort.mapBlock,Go.Sort.ahead];rw[ZT (by simpa using hb),ZG,if_pos rfl];have hp':o=Obj.cells ((l.map qx).flatten++rest).toArray T:=hp;have ho':w.heap[b]? =some o:=ho;rw[ho',hp'];simp only[Zu,Go.Sort.onCells,Go.Sort.putCells,q6e]
  congr 2
  apply Array.ext';rw[Array.toList_mapIdx];refine List.ext_getElem (by simp[hl]) fun k h1 h2=> ?_
  simp only[List.getElem_mapIdx]
  by_cases hk:k<l'.length
  ·rw[if_pos ⟨Y6,by simpa using hk⟩,List.getElem_append_left (by simpa using hk),getElem!_pos _ _ (by simpa using hk)];simp
  ·rw[if_neg (by simp;omega),ZW (by simp;omega),ZW (by simp;omega)];simp[hl]
section
variable{W0:World}{own:Own}
theorem q38{w:World}{b:Nat}{l:List Int}{rest:List Value}{T:TypeId}(s:St W0 own w)(hm:(b,fun o=>o=Obj.cells ((l.map qx).flatten++rest).toArray T)∈own):Go.Sort.Holds (Value.int .i64) w b 0 l.toArray:=fun j hj=>by
 have hj':j<l.length:=by simpa using hj
 refine⟨?_,?_⟩
 ·rw[getElem!_pos _ j hj];refine q0E hm ?_ w s;rw[zD,q6e,zL,zy (by simpa using hj')];simp[hj']
 ·obtain⟨o,ho,hp⟩:=s.owns _ hm;have hp':o=Obj.cells ((l.map qx).flatten++rest).toArray T:=hp;have ho':w.heap[b]? =some o:=ho;simp[World.frozen?,ho',hp']
theorem q8O{a:Option Addr}{l:List Int}{cap:Nat}{D:Own}{C:Own→Own}(hB:qu qx 3 1 a cap l D)(hat:At D own C)(hl:l.length<4611686018427387904):
  qt Tryz.prog W0 71 [.slice a l.length cap] own fun v own'=>∃D':Own,(v= .tuple #[]∧qu qx 3 1 a cap (srt l) D')∧Ent W0 own' (C D'):=by
 intro w hs
 rcases hB.how with ⟨rfl,rfl,rfl⟩|⟨b,rest,rfl,rfl,hlen,hle⟩
 ·refine(q2l a 0 w).mono ?_;rintro e w' ⟨rfl,rfl⟩;exact⟨_,own,rfl,hs,[],⟨rfl,by rw[show srt []= [] from List.mergeSort_nil];exact qu.nil⟩,by rw[hat.same];exact Ent.refl⟩
 ·have hm:=(hat.up (fun _=>True)).mem;refine(q5J b 0 cap l w (q38 hs hm) (hs.mem_size hm) hl).mono ?_;rintro e w' ⟨rfl,n,os,rfl⟩;exact⟨_,_,rfl,hs.put_row2 hat (q1a l),_,⟨rfl,fun _ _=>rfl, .inr ⟨b,rest,rfl,rfl,by rw[q1a];exact hlen,by rw[q1a];exact hle⟩⟩,Ent.refl⟩
theorem q3G{a:Option Addr}{l:List Int}{cap:Nat}{D:Own}{C:Own→Own}(hB:qu qx 3 1 a cap l D)(hat:At D own C)(hl:l.length≤9223372036854775807)(hs2:l.Pairwise (· ≤ ·)):
  qt Tryz.prog W0 72 [.slice a l.length cap] own fun v own'=>∃D':Own,(v= .slice a (cmp l).length cap∧qu qx 3 1 a cap (cmp l) D')∧Ent W0 own' (C D'):=by
 cases l with
 |nil=>
  refine sH [3,5,7,9,11,13,15,17,19,21,0,3,5,7,9,11,13,15,17,19,21,0] ?_
  repeat'((try(conv=>whnf));first|(refine fE ?_))
  exact⟨D,⟨rfl,hB⟩,by rw[hat.same];exact Ent.refl⟩
 |cons x r=>
  intro w hs;have hcl:=(q46 hs2).2.2
  rcases hB.how with ⟨h,_,_⟩|⟨b,rest,rfl,rfl,hlen,hle⟩
  ·cases h
  ·generalize x::r=l at*;have hm:=(hat.up (fun _=>True)).mem;refine(q3i b 0 cap l w (q38 hs hm) hl hle).mono ?_;rintro e w' ⟨rfl,q,rfl⟩;have hst:=hs.put_row2 (n:=q) (os:= #[]) (l':=cmp l++List.replicate (l.length-(cmp l).length) 0) hat (by simp;omega);rw[Go.Sort.grow_empty] at hst;refine⟨_,_,rfl,hst,_,⟨rfl,fun _ _=>rfl, .inr ⟨b,((List.replicate (l.length-(cmp l).length) 0).map qx).flatten++rest,rfl,rfl,?_,Y6⟩⟩,?_⟩
   ·simp only[q6e,z8,zk,zJ];omega
   ·rw[zH,zY,zd];exact Ent.refl
theorem qn2{b o n c sz r:Nat}{K:Value→Prop}(hr:r≤c)(h:K (.slice (some ⟨b,o,none⟩) r c)):qjH (some ⟨b,o,none⟩) n c sz none (some (r:Int)) none K:=by
 refine⟨0,r,c,rfl,rfl,rfl,zq _,fun _=>hr,fun h=>Bool.noConfusion h,fun h=>Bool.noConfusion h,?_⟩;have e:slA (some ⟨b,o,none⟩) c 0 sz=some ⟨b,o,none⟩:=by
  unfold slA
  split
  ·rfl
  ·simp[qO]
 rw[e];exact h
theorem qiJ{sz:Nat}{K:Value→Prop}(h:K (.slice none 0 0)):qjH none 0 0 sz none (some 0) none K:=
 ⟨0,0,0,rfl,rfl,rfl,zu _,fun _=>zu _,fun h=>Bool.noConfusion h,fun h=>Bool.noConfusion h,h⟩
theorem qfq(n:Nat)(hn:n*8≤281474976710656):
  qt Tryz.prog W0 102 [.slice none 0 0, .int .i64 n] own fun v own'=>∃s:Option Addr×Nat×Own,(v= .slice s.1 0 s.2.1∧n≤s.2.1∧qu qx 3 1 s.1 s.2.1 [] s.2.2)∧Ent W0 own' (s.2.2++own):=by
 refine sH [] ?_
 by_cases h0:n=0
 ·subst h0
  repeat'((try(conv=>whnf));first|(refine fD ?_)|(refine fB ?_))
  exact⟨(none,0,[]),⟨rfl,Y8,qu.nil⟩,Ent.refl⟩
 ·repeat'((try(conv=>whnf));first|(refine fD ?_)|(refine fF ?_)|(refine qiJ ?_)|(refine qn2 (r:=0) (zq _) ?_)|(refine⟨.inr ⟨rfl,rfl,n,Y6,Y6,hn,fun b c' hb hc=> ?_⟩⟩)|(refine fB ?_))
  refine⟨(some ⟨b,0,none⟩,c',[(b,fun o=>o=Obj.cells (List.replicate c' [.int .i64 0]).flatten.toArray 3)]),⟨rfl,hc,fun _ h=>(by cases h), .inr ⟨b,(List.replicate c' [.int .i64 0]).flatten,rfl,rfl,Y8,Y8⟩⟩,Ent.refl⟩
theorem qcR{bq:Nat}{ra wa:Option Addr}{rl wl:List Int}{rc wc:Nat} [qy bq (fun o=>o=Obj.cells #[.slice ra rl.length rc, .slice wa wl.length wc] 22) own](h1:RdE qx 1 W0 own ra rl)(h2:RdE qx 1 W0 own wa wl)(hb:(rl.length+wl.length)*8≤281474976710656):
  qt Tryz.prog W0 70 [.slice (some ⟨bq,0,none⟩) 2 2] own fun v own'=>∃s:Option Addr×Nat×Own,(v= .slice s.1 (rl++wl).length s.2.1∧qu qx 3 1 s.1 s.2.1 (rl++wl) s.2.2)∧Ent W0 own' (s.2.2++own):=by
 refine sH [] ?_;have hg:qt Tryz.prog W0 102 [.slice none 0 0, .int .i64 ((rl.length+wl.length:Nat):Int)] own _:=qfq (rl.length+wl.length) hb;have e:((rl.length+wl.length:Nat):Int)=0+(rl.length:Int)+wl.length:=Y6;rw[e] at hg
 repeat'((try(conv=>whnf));first|(refine fE ?_)|(refine fD ?_)|(refine q1P 3 ?_)|((apply qe);first|((refine qi hg (fun s v hv=> ?_);(obtain⟨a0,c0,D0⟩:=s;obtain⟨rfl,hc,hB⟩:=hv;dsimp only at hc hB);(apply Stop.h))))|(refine fB ?_)|(refine qnr rfl ?_)|(refine qns rfl ?_)|(refine fA ?_))
 refine Stop.mk ?_
 repeat'((try(conv=>whnf));first|(refine fE ?_)|(refine q1P 3 ?_)|(refine qjZ (enc:=qx) (l:= []) (l2:=rl) hB h1 rfl Y6 (fun _ _=>rfl) (by simp;omega) (fun D1 hB1=> ?_);(rw[zM,zD rl.length]);(apply Stop.h))|(refine qnr rfl ?_)|(refine fA ?_))
 refine Stop.mk ?_;rw[zi] at hB1
 repeat'((try(conv=>whnf));first|(refine fE ?_)|(refine qjZ (enc:=qx) (l:=rl) (l2:=wl) hB1 h2 rfl Y6 (fun _ _=>rfl) Y6 (fun D2 hB2=> ?_);(apply Stop.h))|(refine fB ?_)|(refine qns rfl ?_)|(refine fA ?_))
 refine Stop.mk ?_
 repeat'((try(conv=>whnf));first|(refine fD ?_)|(refine fB ?_))
 exact⟨(a0,c0,D2),⟨q0J Y8,hB2⟩,Ent.refl⟩
end
abbrev noneV:List Value:= [.int .i64 (-1), .int .i64 (-1), .int .i64 (-1)]
def wrB(e:EH)(w:Int):Bool:=(decide (e.k=2)&&decide (e.w=w))||(decide (e.k=4)&&e.wl.contains w)
def toB(e:EH)(w:Int):Bool:=wrB e w||((decide (e.k=1)&&decide (e.w=w))||(decide (e.k=4)&&e.rl.contains w))
theorem qbw{a b:EH}{w:Int}(h:cfP a b w=true)(ha:1≤a.k∧a.k≤2)(hb:1≤b.k∧b.k≤4∧b.k≠3):toB a w=true∧toB b w=true∧(wrB a w=true∨wrB b w=true):=by
 unfold cfP at h;rw[zx,decide_eq_true_iff] at h;obtain⟨h1,h2⟩:=h;have hta:toB a w=true:=by
  unfold toB wrB
  by_cases h3:a.k=2
  ·simp[h1,h3]
  ·have h4:a.k=1:=Y6;simp[h1,h4]
 refine⟨hta,?_⟩
 split at h2
 ·rename_i h3;rw[ZB,zx,decide_eq_true_iff] at h2
  rcases h2 with h2|⟨h2,h4⟩
  ·have:wrB b w=true:=by unfold wrB;rw[h2];simp[h3]
   exact⟨by unfold toB;rw[this,Bool.true_or], .inr this⟩
  ·exact⟨by unfold toB;rw[h4];simp[h3], .inl (by unfold wrB;simp[h1,h2])⟩
 ·rename_i h3;rw[zx,ZB,decide_eq_true_iff,decide_eq_true_iff,decide_eq_true_iff] at h2;obtain⟨h4,h5⟩:=h2;refine⟨?_,?_⟩
  ·unfold toB wrB
   by_cases h6:b.k=2
   ·simp[h4,h6]
   ·have h7:b.k=1:=Y6;simp[h4,h7]
  ·rcases h5 with h5|h5
   ·exact .inl (by unfold wrB;simp[h1,h5])
   ·exact .inr (by unfold wrB;simp[h4,h5])
theorem qem{a b:EH}{w:Int}(h:q71 a b w=true)(ha:1≤a.k∧a.k≤4∧a.k≠3)(hb:1≤b.k∧b.k≤4∧b.k≠3):a.t≠b.t∧¬(a.k=4∧b.k=4)∧toB a w=true∧toB b w=true∧(wrB a w=true∨wrB b w=true):=by
 unfold q71 at h;rw[zx,yg,decide_eq_false_iff_not] at h;refine⟨h.1,?_⟩;have h:=h.2
 split at h
 ·rename_i h3;rw[zx,yg,decide_eq_false_iff_not] at h;obtain⟨h1,h2,h4⟩:=qbw h.2 Y6 ha;exact⟨fun x=>h.1 x.2,h2,h1,h4.symm⟩
 ·rename_i h3;exact⟨fun x=>h3 x.1,qbw h Y6 hb⟩
theorem qcx{l:List EH}{y m:Nat}{w:Int}{r:q0a}(h:r∈rcL l y w m):∃x,x<m∧r=((x:Int),(y:Int),w)∧rcB l y w x=true:=by
 unfold rcL at h;rw[zK] at h;obtain⟨x,hx,rfl⟩:=h;rw[yu,Zd] at hx;exact⟨x,hx.1,rfl,hx.2⟩
theorem qcv{l:List EH}{m:Nat}{r:q0a}:r∈rcA l m↔ ∃y w,y<m∧w<64∧knd l y≠3∧r∈rcL l y ((w:Nat):Int) y:=by
 unfold rcA rcW;rw[y7];constructor
 ·rintro⟨y,hy,hr⟩;rw[Zd] at hy
  split at hr
  ·cases hr
  ·rename_i h3;rw[y7] at hr;obtain⟨w,hw,hr⟩:=hr;rw[Zd] at hw;exact⟨y,w,hy,hw,h3,hr⟩
 ·rintro⟨y,w,hy,hw,h3,hr⟩;refine⟨y,Zd.2 hy,?_⟩;rw[if_neg h3,y7];exact⟨w,Zd.2 hw,hr⟩
theorem qhX{l:List EH}:(q1K l).2.1≥0↔rcA l l.length≠ []:=by
 constructor
 ·intro h hn;rw[q2i hn] at h
  revert h
  decide
 ·intro h;unfold q1K;cases hf:(prs l l.length).findSome? fun p=>(rcL l p.1 p.2 p.1).getLast? with
  |some r=>
   obtain⟨p,_,hr⟩:=List.exists_of_findSome?_eq_some hf;obtain⟨x,_,rfl,_⟩:=qcx (List.mem_of_getLast? hr);show(p.1:Int)≥0;omega
  |none=>
   exfalso;rw[yk] at hf;obtain⟨r,hr⟩:=yp _ h;obtain⟨y,w,hy,hw,h3,hr⟩:=qcv.1 hr;have:=hf (y,(w:Int)) (by
    unfold prs;rw[y7];refine⟨y,Zd.2 hy,?_⟩;rw[if_neg h3,zK];exact⟨w,Zd.2 hw,rfl⟩)
   rw[List.getLast?_eq_none_iff] at this;dsimp only at this;rw[this] at hr;cases hr
def lst(Q:Nat→Bool):Nat→Nat
 |0=>0
 |m+1=>if Q m=true then m+1 else lst Q m
theorem qgP{Q:Nat→Bool}:∀m,lst Q m≤m
 |0=>zu _
 |m+1=>by unfold lst;split;exact zu _;exact Zs (qgP m)
theorem qcc{Q:Nat→Bool}{k:Nat}:∀{m},lst Q m=k+1→Q k=true∧k<m
 |0,h=>by cases h
 |m+1,h=>by
  unfold lst at h
  split at h
  ·rename_i hq;have:k=m:=Y6;subst this;exact⟨hq,Z8 _⟩
  ·obtain⟨h1,h2⟩:=qcc h;exact⟨h1,Y6⟩
theorem qcd{Q:Nat→Bool}{i:Nat}(hq:Q i=true):∀{m},i<m→i<lst Q m
 |0,h=>by omega
 |m+1,h=>by
  unfold lst
  split
  ·exact h
  ·rename_i hn;have:i≠m:=fun e=>hn (e ▸ hq)
   exact qcd hq Y6
theorem q7f{Q R:Nat→Bool}:∀{m},(∀i,i<m→Q i=R i)→lst Q m=lst R m
 |0,_=>rfl
 |m+1,h=>by
  unfold lst;rw[h m Y6,q7f fun i hi=>h i Y6]
def q6a(l:List EH)(t:Int)(i:Nat):Bool:=decide (knd l i=4∧thr l i=t)
theorem q1x{l:List EH}{t:Int}{i:Nat}:q6a l t i=true↔knd l i=4∧thr l i=t:=by unfold q6a;exact decide_eq_true_iff
def q03(l:List EH)(t:Int):Nat→Nat
 |0=>0
 |m+1=>q03 l t m+if q6a l t m=true then 1 else 0
theorem q8b{l:List EH}{t:Int}:∀m,q03 l t m≤m
 |0=>zu _
 |m+1=>by
  unfold q03;have:=q8b (l:=l) (t:=t) m
  split <;>omega
theorem q37{l:List EH}{t:Int}{a b:Nat}(h:a≤b):q03 l t a≤q03 l t b:=by
 induction b with
 |zero=>
   have:a=0:=Y6;subst this;exact zu _
 |succ b ih=>
  rcases yn b a with hb|hb
  ·have:a=b+1:=Y6;subst this;exact zu _
  ·exact Zl (ih hb) (by show q03 l t b≤q03 l t b+_;omega)
theorem q68{l:List EH}{t:Int}{a b:Nat}:q03 l t a<q03 l t b↔ ∃e,a≤e∧e<b∧q6a l t e=true:=by
 constructor
 ·intro h
  induction b with
  |zero=>cases h
  |succ b ih=>
   by_cases he:q6a l t b=true
   ·by_cases hab:a≤b
    ·exact⟨b,hab,Z8 _,he⟩
    ·have:=q37 (l:=l) (t:=t) (a:=b+1) (b:=a) Y6;omega
   ·have h2:q03 l t (b+1)=q03 l t b:=by show q03 l t b+_=_;rw[if_neg he];rfl
    rw[h2] at h;obtain⟨e,h3,h4,h5⟩:=ih h;exact⟨e,h3,Y6,h5⟩
 ·rintro⟨e,h1,h2,h3⟩;have h4:=q37 (l:=l) (t:=t) h1;have h5:=q37 (l:=l) (t:=t) (show e+1≤b by omega);have h6:q03 l t (e+1)=q03 l t e+1:=by show q03 l t e+_=_;rw[if_pos h3]
  omega
def q4I(l:List EH)(u:Int)(m:Nat)(t:Int):Nat:=q03 l t (lst (q6a l u) m)
def qeb(l:List EH)(u:Int)(m:Nat)(t:Int):Nat:=q03 l t (bgL l u m).toNat
theorem qeG{l:List EH}{x y:Nat}{t:Int}(hx:q84 l x)(hy:y<l.length)(hxy:x<y)(ht:thr l x=t)(hne:thr l x≠thr l y)(hp:q1Q l y):HB l x y↔q03 l t x+1≤q4I l (thr l y) y t:=by
 unfold q4I;constructor
 ·rintro⟨_,_,_,h|⟨_,e,f,h1,h2,h3,h4,h5,h6,h7⟩|⟨h,_⟩⟩
  ·exact absurd h hne
  ·have hf:=qcd (Q:=q6a l (thr l y)) (i:=f) (q1x.2 ⟨h5,h7⟩) h3;exact(q68 (a:=x)).2 ⟨e,h1,Y6,q1x.2 ⟨h4,h6.trans ht⟩⟩
  ·exact absurd hp h
 ·intro h;obtain⟨e,h1,h2,h3⟩:=q68.1 h;obtain⟨h4,h5⟩:=q1x.1 h3;obtain⟨f,hf⟩:∃f,lst (q6a l (thr l y)) y=f+1:=⟨_,(Nat.succ_pred_eq_of_pos Y6).symm⟩
  obtain⟨h6,h7⟩:=qcc hf;obtain⟨h8,h9⟩:=q1x.1 h6;have hef:e≠f:=fun he=>by subst he;exact hne (by rw[ht,←h5,h9])
  refine⟨hxy,hx,⟨hy, .inl ?_⟩, .inr (.inl ⟨hp,e,f,h1,Y6,h7,h4,h8,h5.trans ht.symm,h9⟩)⟩
  rcases hp with hp|hp <;>omega
theorem qeF{l:List EH}{x p:Nat}{t:Int}(hx:q84 l x)(hp:q84 l p)(h3:knd l p=3)(ht:thr l x=t)(hne:thr l x≠thr l p):HB l x p↔q03 l t x+1≤q03 l t p:=by
 have hnp:¬q1Q l p:=by rintro(h|h) <;>omega
 constructor
 ·rintro⟨_,_,_,h|⟨h,_⟩|⟨_,e,h1,h2,h4,h5⟩⟩
  ·exact absurd h hne
  ·exact absurd h hnp
  ·exact(q68 (a:=x)).2 ⟨e,h1,h2,q1x.2 ⟨h4,h5.trans ht⟩⟩
 ·intro h;obtain⟨e,h1,h2,h3⟩:=q68.1 h;obtain⟨h4,h5⟩:=q1x.1 h3;exact⟨Y6,hx,hp, .inr (.inr ⟨hnp,e,h1,h2,h4,h5.trans ht.symm⟩)⟩
def q31(l:List EH)(Q:Nat→Bool)(t:Int)(m:Nat):Int×Int:=
 if lst (fun i=>Q i&&decide (thr l i=t)) m=0 then(0,0) else(((lst (fun i=>Q i&&decide (thr l i=t)) m-1:Nat):Int),(q03 l t (lst (fun i=>Q i&&decide (thr l i=t)) m-1):Int)+1)
theorem q32{l:List EH}{Q:Nat→Bool}{t:Int}{m:Nat}:q31 l Q t (m+1)=if Q m=true∧thr l m=t then((m:Int),(q03 l t m:Int)+1) else q31 l Q t m:=by
 have e:lst (fun i=>Q i&&decide (thr l i=t)) (m+1)=if(Q m&&decide (thr l m=t))=true then m+1 else lst (fun i=>Q i&&decide (thr l i=t)) m:=rfl
 by_cases h:Q m=true∧thr l m=t
 ·rw[if_pos h];rw[if_pos (by rw[h.1,decide_eq_true h.2];rfl)] at e;unfold q31;rw[e,if_neg Y6];rfl
 ·rw[if_neg h];rw[if_neg (by rw[zx,decide_eq_true_iff];exact h)] at e;unfold q31;rw[e]
def ltM(own:Int)(ck:Nat→Int)(f:Nat→Int×Int)(pl:Int):Nat→Int
 |0=>pl
 |k+1=>if(k:Int)≠own∧(f k).2>ck k∧(f k).1>ltM own ck f pl k then(f k).1 else ltM own ck f pl k
theorem q9E{own:Int}{ck:Nat→Int}{f:Nat→Int×Int}{pl:Int}:∀n,pl≤ltM own ck f pl n∧(ltM own ck f pl n=pl∨∃t,t<n∧(t:Int)≠own∧(f t).2>ck t∧(f t).1=ltM own ck f pl n)∧∀t,t<n→(t:Int)≠own→(f t).2>ck t→(f t).1≤ltM own ck f pl n
 |0=>⟨zW _, .inl rfl,fun t h=>by omega⟩
 |k+1=>by
  obtain⟨h1,h2,h3⟩:=q9E (own:=own) (ck:=ck) (f:=f) (pl:=pl) k;unfold ltM
  split
  ·rename_i h;refine⟨Y6, .inr ⟨k,Y6,h.1,h.2.1,rfl⟩,fun t ht ho hc=> ?_⟩
   by_cases e:t=k
   ·subst e;exact zW _
   ·have:=h3 t Y6 ho hc;omega
  ·rename_i h;refine⟨h1,h2.imp id fun⟨t,a,b⟩=>⟨t,Y6,b⟩,fun t ht ho hc=> ?_⟩
   by_cases e:t=k
   ·subst e
    by_cases hg:(f t).1>ltM own ck f pl t
    ·exact absurd ⟨ho,hc,hg⟩ h
    ·omega
   ·exact h3 t Y6 ho hc
def RC(l:List EH)(Q:Nat→Bool)(own:Int)(ck:Nat→Int)(y x:Nat):Prop:=x<y∧Q x=true∧thr l x≠own∧ck (thr l x).toNat<(q03 l (thr l x) x:Int)+1
theorem qce{l:List EH}{Q:Nat→Bool}{own:Int}{ck:Nat→Int}{n y:Nat}{pl:Int}(ht:∀x,x<y→0≤thr l x∧thr l x<n)(hck:∀t,0≤ck t):
  pl≤ltM own ck (fun t=>q31 l Q t y) pl n∧(ltM own ck (fun t=>q31 l Q t y) pl n=pl∨∃x,RC l Q own ck y x∧(x:Int)=ltM own ck (fun t=>q31 l Q t y) pl n)∧∀x,RC l Q own ck y x→(x:Int)≤ltM own ck (fun t=>q31 l Q t y) pl n:=by
 obtain⟨h1,h2,h3⟩:=q9E (own:=own) (ck:=ck) (f:=fun t=>q31 l Q t y) (pl:=pl) n;refine⟨h1,h2.imp id ?_,?_⟩
 ·rintro⟨t,htn,ho,hc,he⟩;rw[←he]
  revert hc
  unfold q31
  split
  ·intro hc;have:=hck t;dsimp only at hc;omega
  ·rename_i hk;intro hc;obtain⟨x,hx⟩:∃x,lst (fun i=>Q i&&decide (thr l i=(t:Int))) y=x+1:=⟨_,(Nat.succ_pred_eq_of_pos Y6).symm⟩
   rw[hx] at hc ⊢;obtain⟨hq,hxy⟩:=qcc hx;rw[zx,decide_eq_true_iff] at hq;refine⟨x,⟨hxy,hq.1,by rw[hq.2];exact ho,?_⟩,rfl⟩;rw[hq.2];exact hc
 ·rintro x ⟨hxy,hq,ho,hc⟩;obtain⟨t1,t2⟩:=ht x hxy;obtain⟨t,e⟩:∃t:Nat,thr l x=t:=⟨(thr l x).toNat,Y6⟩
  rw[e] at ho hc t2;rw[zB] at hc;have hg:=qcd (Q:=fun i=>Q i&&decide (thr l i=(t:Int))) (i:=x) (by rw[zx,decide_eq_true_iff];exact⟨hq,e⟩) hxy;have hm:=q37 (l:=l) (t:=t) (show x≤lst (fun i=>Q i&&decide (thr l i=(t:Int))) y-1 by omega);have:=h3 t Y6 ho (by
   unfold q31;rw[if_neg Y6];dsimp only;omega)
  refine Int.le_trans ?_ this;unfold q31;rw[if_neg Y6];dsimp only;omega
theorem q5B{P:Nat→Bool}{x:Nat}(hp:P x=true):∀{m},x<m→(∀z,x<z→z<m→P z=false)→((List.range m).filter P).getLast? =some x
 |0,h,_=>by omega
 |m+1,h,hz=>by
  rw[ZX,yv]
  by_cases e:x=m
  ·subst e;rw[List.filter_cons,if_pos hp,List.filter_nil];simp
  ·rw[List.filter_cons,if_neg (by rw[hz m Y6 Y6];simp),List.filter_nil,zC];exact q5B hp Y6 fun z h1 h2=>hz z h1 Y6
def qW(l:List EH)(w:Int)(x:Nat):Bool:=decide (knd l x=2∧(at' l x).w=w)
def qR(l:List EH)(w:Int)(x:Nat):Bool:=decide (knd l x=1∧(at' l x).w=w)
def qTW(l:List EH)(w:Int)(x:Nat):Bool:=decide (knd l x=4)&&(at' l x).wl.contains w
def qTR(l:List EH)(w:Int)(x:Nat):Bool:=decide (knd l x=4)&&(at' l x).rl.contains w
def qae(l:List EH)(n y:Nat)(k own w:Int)(wr:Bool)(ck:Nat→Int):Int:=
 let p0:=ltM own ck (fun t=>q31 l (qW l w) t y) (-1) n
 let p1:=if wr=true then ltM own ck (fun t=>q31 l (qR l w) t y) p0 n else p0
 let p2:=if k≠4 then ltM own ck (fun t=>q31 l (qTW l w) t y) p1 n else p1
 if k≠4∧wr=true then ltM own ck (fun t=>q31 l (qTR l w) t y) p2 n else p2
theorem qdR{l:List EH}{n y:Nat}{k own w:Int}{wr:Bool}{ck:Nat→Int}(ht:∀x,x<y→0≤thr l x∧thr l x<n)(hck:∀t,0≤ck t)(R:Nat→Prop)
  (hR:∀x,R x↔RC l (qW l w) own ck y x∨(wr=true∧RC l (qR l w) own ck y x)∨(k≠4∧RC l (qTW l w) own ck y x)∨((k≠4∧wr=true)∧RC l (qTR l w) own ck y x)):
  -1≤qae l n y k own w wr ck∧(qae l n y k own w wr ck= -1∨∃x,R x∧(x:Int)=qae l n y k own w wr ck)∧∀x,R x→(x:Int)≤qae l n y k own w wr ck:=by
 have step:∀(Q:Nat→Bool) (c:Prop) [Decidable c] (pl:Int) (S:Nat→Prop),(-1≤pl∧(pl= -1∨∃x,S x∧(x:Int)=pl)∧∀x,S x→(x:Int)≤pl)→
   ∀r,r=(if c then ltM own ck (fun t=>q31 l Q t y) pl n else pl)→
   -1≤r∧(r= -1∨∃x,(S x∨(c∧RC l Q own ck y x))∧(x:Int)=r)∧∀x,(S x∨(c∧RC l Q own ck y x))→(x:Int)≤r:=by
  intro Q c _ pl S ⟨h1,h2,h3⟩ r hr;subst hr;obtain⟨g1,g2,g3⟩:=qce (l:=l) (Q:=Q) (own:=own) (ck:=ck) (pl:=pl) ht hck
  by_cases hc:c
  ·simp only[if_pos hc];refine⟨Y6,?_,fun x hx=> ?_⟩
   ·rcases g2 with e|⟨x,hx,e⟩
    ·rw[e];exact h2.imp id fun⟨x,hx,e⟩=>⟨x, .inl hx,e⟩
    ·exact .inr ⟨x, .inr ⟨hc,hx⟩,e⟩
   ·rcases hx with hx|hx
    ·have:=h3 x hx;omega
    ·exact g3 x hx.2
  ·simp only[if_neg hc];exact⟨h1,h2.imp id fun⟨x,hx,e⟩=>⟨x, .inl hx,e⟩,fun x hx=>hx.elim (h3 x) fun h=>absurd h.1 hc⟩
 obtain⟨a1,a2,a3⟩:=qce (l:=l) (Q:=qW l w) (own:=own) (ck:=ck) (pl:= -1) ht hck;have s1:=step (qR l w) (wr=true) _ (fun x=>RC l (qW l w) own ck y x) ⟨a1,a2,a3⟩ _ rfl;have s2:=step (qTW l w) (k≠4) _ _ s1 _ rfl;have s3:=step (qTR l w) (k≠4∧wr=true) _ _ s2 _ rfl;obtain⟨b1,b2,b3⟩:=s3;have e:∀x,(((RC l (qW l w) own ck y x∨(wr=true∧RC l (qR l w) own ck y x))∨(k≠4∧RC l (qTW l w) own ck y x))∨((k≠4∧wr=true)∧RC l (qTR l w) own ck y x))↔R x:=fun x=>by
  rw[hR x,or_assoc,or_assoc]
 exact⟨b1,b2.imp id fun⟨x,hx,h⟩=>⟨x,(e x).1 hx,h⟩,fun x hx=>b3 x ((e x).2 hx)⟩
theorem qen{a b:EH}{w:Int}{wr:Bool}(ha:a.k=1∨a.k=2∨a.k=4)(hb:b.k=1∨b.k=2∨b.k=4)(ht:a.t≠b.t)
  (hA:(b.k≠4∧b.w=w∧wr=decide (b.k=2))∨(b.k=4∧wr=b.wl.contains w∧(b.wl.contains w=true∨b.rl.contains w=true))):
  q71 a b w=true↔(a.k=2∧a.w=w)∨(wr=true∧(a.k=1∧a.w=w))∨(b.k≠4∧(a.k=4∧a.wl.contains w=true))∨((b.k≠4∧wr=true)∧(a.k=4∧a.rl.contains w=true)):=by
 unfold q71 cfP;generalize a.wl.contains w=a1;generalize a.rl.contains w=a2
 rcases hA with ⟨h1,h2,h3⟩|⟨h1,h2,h3⟩
 ·subst h3
  rcases ha with ha|ha|ha <;>rcases hb with hb|hb|hb
  all_goals first
   |(exact absurd hb h1)
   |(simp[ha,hb,h2,ht])
 ·subst h2;generalize b.wl.contains w=b1 at*;generalize b.rl.contains w=b2 at*
  rcases ha with ha|ha|ha
  all_goals
   cases b1 <;>cases b2
   all_goals simp_all
theorem qld{l:List EH}{n y:Nat}{w:Int}{wr:Bool}{ck:Nat→Int}(hw:Wf l n)(hy:y<l.length)(h3:knd l y≠3)
  (hA:(knd l y≠4∧(at' l y).w=w∧wr=decide (knd l y=2))∨(knd l y=4∧wr=(at' l y).wl.contains w∧((at' l y).wl.contains w=true∨(at' l y).rl.contains w=true)))
  (hH:∀x,x<y→knd l x≠3→thr l x≠thr l y→(HB l x (toP l y)↔(q03 l (thr l x) x:Int)+1≤ck (thr l x).toNat)) (x:Nat):
  (x<y∧rcB l y w x=true)↔RC l (qW l w) (thr l y) ck y x∨(wr=true∧RC l (qR l w) (thr l y) ck y x)∨(knd l y≠4∧RC l (qTW l w) (thr l y) ck y x)∨((knd l y≠4∧wr=true)∧RC l (qTR l w) (thr l y) ck y x):=by
 by_cases hxy:¬x<y
 ·constructor
  ·exact fun h=>absurd h.1 hxy
  ·rintro(h|⟨_,h⟩|⟨_,h⟩|⟨_,h⟩) <;>exact absurd h.1 hxy
 have hxy:=Decidable.of_not_not hxy
 by_cases hx3:knd l x=3
 ·constructor
  ·rintro⟨_,h⟩;unfold rcB at h;rw[decide_eq_true hx3] at h;cases h
  ·rintro(h|⟨_,h⟩|⟨_,h⟩|⟨_,h⟩)
   all_goals
    have:=h.2.1;simp[qW,qR,qTW,qTR,hx3] at this
 by_cases ht:thr l x=thr l y
 ·constructor
  ·rintro⟨_,h⟩;unfold rcB q71 at h;rw[decide_eq_true (show(at' l x).t=(at' l y).t from ht)] at h;simp at h
  ·rintro(h|⟨_,h⟩|⟨_,h⟩|⟨_,h⟩) <;>exact absurd ht h.2.2.1
 have hk:=hw.kd x Y6;have hky:=hw.kd y hy;have hc:=qen (a:=at' l x) (b:=at' l y) (w:=w) (wr:=wr) (by unfold knd at hk hx3;omega) (by unfold knd at hky h3;omega) ht hA;have hh:=hH x hxy hx3 ht;have hrc:rcB l y w x=true↔q71 (at' l x) (at' l y) w=true∧ck (thr l x).toNat<(q03 l (thr l x) x:Int)+1:=by
  unfold rcB;rw[decide_eq_false hx3,Bool.not_false,yM,zx,yg,←y6,q6h,hh];constructor
  ·exact fun⟨a,b⟩=>⟨a,Y6⟩
  ·exact fun⟨a,b⟩=>⟨a,Y6⟩
 rw[hrc,hc];have e1:qW l w x=true↔((at' l x).k=2∧(at' l x).w=w):=by unfold qW knd;exact decide_eq_true_iff
 have e2:qR l w x=true↔((at' l x).k=1∧(at' l x).w=w):=by unfold qR knd;exact decide_eq_true_iff
 have e3:qTW l w x=true↔((at' l x).k=4∧(at' l x).wl.contains w=true):=by unfold qTW knd;rw[zx,decide_eq_true_iff]
 have e4:qTR l w x=true↔((at' l x).k=4∧(at' l x).rl.contains w=true):=by unfold qTR knd;rw[zx,decide_eq_true_iff]
 unfold RC;rw[e1,e2,e3,e4];have ek:(at' l y).k=knd l y:=rfl;rw[ek];constructor
 ·rintro⟨_,h,hck⟩
  rcases h with h|⟨g,h⟩|⟨g,h⟩|⟨g,h⟩
  ·exact .inl ⟨hxy,h,ht,hck⟩
  ·exact .inr (.inl ⟨g,hxy,h,ht,hck⟩)
  ·exact .inr (.inr (.inl ⟨g,hxy,h,ht,hck⟩))
  ·exact .inr (.inr (.inr ⟨g,hxy,h,ht,hck⟩))
 ·rintro(⟨_,h,_,hck⟩|⟨g,_,h,_,hck⟩|⟨g,_,h,_,hck⟩|⟨g,_,h,_,hck⟩)
  ·exact⟨hxy, .inl h,hck⟩
  ·exact⟨hxy, .inr (.inl ⟨g,h⟩),hck⟩
  ·exact⟨hxy, .inr (.inr (.inl ⟨g,h⟩)),hck⟩
  ·exact⟨hxy, .inr (.inr (.inr ⟨g,h⟩)),hck⟩
theorem qgj{l:List EH}{n y:Nat}{w:Int}{wr:Bool}{ck:Nat→Int}(hw:Wf l n)(hy:y<l.length)(h3:knd l y≠3)
  (hA:(knd l y≠4∧(at' l y).w=w∧wr=decide (knd l y=2))∨(knd l y=4∧wr=(at' l y).wl.contains w∧((at' l y).wl.contains w=true∨(at' l y).rl.contains w=true)))
  (hck:∀t,0≤ck t) (hH:∀x,x<y→knd l x≠3→thr l x≠thr l y→(HB l x (toP l y)↔(q03 l (thr l x) x:Int)+1≤ck (thr l x).toNat)):
  (qae l n y (knd l y) (thr l y) w wr ck<0→rcL l y w y= [])∧(0≤qae l n y (knd l y) (thr l y) w wr ck→(rcL l y w y).getLast? =some (qae l n y (knd l y) (thr l y) w wr ck,(y:Int),w)):=by
 obtain⟨h1,h2,h4⟩:=qdR (l:=l) (n:=n) (y:=y) (k:=knd l y) (own:=thr l y) (w:=w) (wr:=wr) (ck:=ck) (fun x hx=>by have:=hw.kd x Y6;exact⟨this.2.2.1,this.2.2.2.1⟩) hck (fun x=>x<y∧rcB l y w x=true) (qld hw hy h3 hA hH);generalize qae l n y (knd l y) (thr l y) w wr ck=p at*;constructor
 ·intro hp;unfold rcL;rw[List.map_eq_nil_iff,List.filter_eq_nil_iff];intro x hx hb;have:=h4 x ⟨Zd.1 hx,hb⟩;omega
 ·intro hp;obtain⟨x,⟨hxy,hb⟩,rfl⟩:=h2.resolve_left Y6;unfold rcL;rw[List.getLast?_map,q5B hb hxy fun z hz hzy=>by
   rw[←y6];intro hzb;have:=h4 z ⟨hzy,hzb⟩;omega]
  rfl
theorem q9i{l r:List EH}{t:Int}{i:Nat}(h:i<l.length):q6a (l++r) t i=q6a l t i:=by unfold q6a;rw[qU h,q08 h]
theorem q1w{l r:List EH}{t:Int}:∀{m},m≤l.length→q03 (l++r) t m=q03 l t m
 |0,_=>rfl
 |m+1,h=>by unfold q03;rw[q1w Y6,q9i Y6]
theorem qeM{l r:List EH}{t:Int}{m:Nat}(h:m≤l.length):lst (q6a (l++r) t) m=lst (q6a l t) m:=q7f fun i hi=>q9i Y6
theorem q7l{l r:List EH}{u t:Int}{m:Nat}(h:m≤l.length):q4I (l++r) u m t=q4I l u m t:=by
 unfold q4I;rw[qeM h,q1w (Zl (qgP _) h)]
theorem q1X{l r:List EH}{Q R:Nat→Bool}{t:Int}:∀{m},m≤l.length→(∀i,i<l.length→Q i=R i)→q31 (l++r) Q t m=q31 l R t m
 |0,_,_=>rfl
 |m+1,h,hq=>by rw[q32,q32,hq m Y6,q08 Y6,q1w Y6,q1X Y6 hq]
theorem q7g{own:Int}{ck ck':Nat→Int}{f g:Nat→Int×Int}{pl:Int}:∀{n},(∀t,t<n→f t=g t∧ck t=ck' t)→ltM own ck f pl n=ltM own ck' g pl n
 |0,_=>rfl
 |k+1,h=>by unfold ltM;rw[q7g (f:=f) (g:=g) (ck':=ck') fun t ht=>h t Y6,(h k Y6).1,(h k Y6).2]
theorem qgi{l r:List EH}{n:Nat}{k own w:Int}{wr:Bool}{ck:Nat→Int}:qae (l++r) n l.length k own w wr ck=qae l n l.length k own w wr ck:=by
 unfold qae;have h1:∀t:Int,q31 (l++r) (qW (l++r) w) t l.length=q31 l (qW l w) t l.length:=fun t=>q1X (zu _) fun i hi=>by unfold qW;rw[qU hi,q1v hi]
 have h2:∀t:Int,q31 (l++r) (qR (l++r) w) t l.length=q31 l (qR l w) t l.length:=fun t=>q1X (zu _) fun i hi=>by unfold qR;rw[qU hi,q1v hi]
 have h3:∀t:Int,q31 (l++r) (qTW (l++r) w) t l.length=q31 l (qTW l w) t l.length:=fun t=>q1X (zu _) fun i hi=>by unfold qTW;rw[qU hi,q1v hi]
 have h4:∀t:Int,q31 (l++r) (qTR (l++r) w) t l.length=q31 l (qTR l w) t l.length:=fun t=>q1X (zu _) fun i hi=>by unfold qTR;rw[qU hi,q1v hi]
 simp only[h1,h2,h3,h4]
theorem qcs{l r:List EH}:∀{m},m≤l.length→prs (l++r) m=prs l m
 |0,_=>rfl
 |m+1,h=>by rw[q3c,q3c,qcs Y6,qU Y6]
theorem qiw{l:List EH}{m:Nat}{p:Nat×Int}(h:p∈prs l m):p.1<m∧knd l p.1≠3:=by
 unfold prs at h;obtain⟨y,hy,h⟩:=y7.1 h
 split at h
 ·cases h
 ·rename_i h3;obtain⟨w,_,rfl⟩:=zK.1 h;exact⟨Zd.1 hy,h3⟩
theorem q2G{β γ:Type}{f g:β→Option γ}:∀{l:List β},(∀x∈l,f x=g x)→l.findSome? f=l.findSome? g
 | [],_=>rfl
 |a::r,h=>by
  rw[yt,yt,h a (zm ..),q2G fun x hx=>h x (zp _ hx)]
theorem q6g{l:List EH}{e:EH}{n:Nat}(hw:Wf l n)(h:(q1K l).2.1≥0):q1K (l++ [e])=q1K l:=by
 have e1:(prs l l.length).findSome? (fun p=>(rcL (l++ [e]) p.1 p.2 p.1).getLast?)=(prs l l.length).findSome? (fun p=>(rcL l p.1 p.2 p.1).getLast?):=q2G fun p hp=>by
  obtain⟨h1,h2⟩:=qiw hp;rw[q8y hw h1 h2 p.1 (zu _)]
 have e2:∃z,prs (l++ [e]) (l++ [e]).length=prs l l.length++z:=by
  refine⟨if knd (l++ [e]) l.length=3 then [] else(List.range 64).map fun(w:Nat)=>(l.length,(w:Int)),?_⟩;rw[z8];show prs (l++ [e]) (l.length+1)=_;rw[q3c,qcs (zu _)]
 obtain⟨z,e2⟩:=e2;unfold q1K at h ⊢;rw[e2,yf,e1];cases hf:(prs l l.length).findSome? (fun p=>(rcL l p.1 p.2 p.1).getLast?) with
 |none=>rw[hf] at h;exact absurd h Y7
 |some r=>rfl
theorem q0Q{l:List EH}{e:EH}:knd (l++ [e]) l.length=e.k:=by unfold knd;rw[q13]
theorem q25{l:List EH}{e:EH}:thr (l++ [e]) l.length=e.t:=by unfold thr;rw[q13]
theorem q8e{l:List EH}{e:EH}{n:Nat}(hw:Wf (l++ [e]) n)(hw0:Wf l n)(h0:rcA l l.length= [])(hn:e.k≠3→∀w∈q5T e,rcL (l++ [e]) l.length w l.length= []):q1K (l++ [e])=(-1, -1, -1):=by
 refine q2i ?_;rw[z8];show rcA (l++ [e]) (l.length+1)= []
 rw[q6t,q8x hw0 l.length (zu _),h0,zi]
 split
 ·rfl
 ·rename_i h3;rw[qiz hw Y8 h3,q13,List.flatMap_eq_nil_iff];exact hn (by rwa[q0Q] at h3)
theorem qgI{l:List EH}{e:EH}{n i:Nat}{w:Int}{r:q0a}(hw:Wf (l++ [e]) n)(hw0:Wf l n)(h0:rcA l l.length= [])(h3:e.k≠3)(hi:(q5T e)[i]? =some w)
  (hpre:∀j w',j<i→(q5T e)[j]? =some w'→rcL (l++ [e]) l.length w' l.length= []) (hr:(rcL (l++ [e]) l.length w l.length).getLast? =some r):q1K (l++ [e])=r:=by
 have hy:l.length<(l++ [e]).length:=Y8;have h3':knd (l++ [e]) l.length≠3:=by rwa[q0Q]
 have hrng:=q6J hw hy w (by rw[q13];exact zg hi);refine qhW (y:=l.length) (w:=w) hy h3' (by rw[q8x hw0 l.length (zu _)];exact h0) hrng hr fun w' h1 h2=> ?_
 by_cases hm:w'∈q5T e
 ·obtain⟨j,hj⟩:=ZY hm;refine hpre j w' ?_ hj;obtain⟨hs,_,_⟩:=q1S e;obtain⟨hjl,ej⟩:=z7.1 hj;obtain⟨hil,ei⟩:=z7.1 hi
  rcases Nat.lt_trichotomy j i with h|h|h
  ·exact h
  ·subst h;rw[hj] at hi;have:=Option.some.inj hi;omega
  ·have:=Zr.1 hs i j hil hjl h;rw[ei,ej] at this;omega
 ·exact q8z hw hy h3' (by rw[q13];exact hm) _
theorem qeE{l:List EH}{n y:Nat}(hw:Wf l n)(hy:y<l.length)(hp:knd l y=1∨knd l y=2):∀x,x<y→knd l x≠3→thr l x≠thr l y→(HB l x (toP l y)↔(q03 l (thr l x) x:Int)+1≤(q4I l (thr l y) y (((thr l x).toNat:Nat):Int):Int)):=fun x hx h3 ht=>by
 have e:toP l y=y:=by unfold toP;rw[if_neg Y6]
 have h0:=(hw.kd x Y6).2.2.1;rw[e,Z6 h0,qeG (t:=thr l x) ⟨Y6, .inl h3⟩ hy hx rfl ht hp];omega
theorem qkU{l:List EH}{n y:Nat}(hw:Wf l n)(hy:y<l.length)(h4:knd l y=4):∀x,x<y→knd l x≠3→thr l x≠thr l y→(HB l x (toP l y)↔(q03 l (thr l x) x:Int)+1≤(qeb l (thr l y) y (((thr l x).toNat:Nat):Int):Int)):=fun x hx h3 ht=>by
 obtain⟨p,hp,hpy,hp3,hpt⟩:=qgz hw hy h4;have hc:=(qdQ hw hy Y6).1;have e:toP l y=p:=by unfold toP;rw[if_pos h4,hp,zB]
 have h0:=(hw.kd x Y6).2.2.1;rw[e] at hc;unfold qeb;rw[e,Z6 h0,hp,zB,qeF (t:=thr l x) ⟨Y6, .inl h3⟩ hc hp3 rfl (by rw[hpt];exact ht)];omega
theorem q5H{l:List EH}{u t:Int}{m:Nat}:q4I l u (m+1) t=if q6a l u m=true then q03 l t (m+1) else q4I l u m t:=by
 unfold q4I;have e:lst (q6a l u) (m+1)=if q6a l u m=true then m+1 else lst (q6a l u) m:=rfl
 rw[e]
 split <;>rfl
theorem q6U{l:List EH}{u t:Int}{m:Nat}:qeb l u (m+1) t=if thr l m=u then q03 l t m else qeb l u m t:=by
 unfold qeb;have e:bgL l u (m+1)=if thr l m=u then(m:Int) else bgL l u m:=rfl
 rw[e]
 split
 ·rw[zB]
 ·rfl
def qZ(l:List EH)(n:Nat):List Int:=q2e n fun t=>(q03 l t l.length:Int)
def q3F(l:List EH)(n:Nat)(u:Int):List Int:=q2e n fun t=>(q4I l u l.length t:Int)
def qam(l:List EH)(n:Nat)(u:Int):List Int:=q2e n fun t=>(qeb l u l.length t:Int)
def q5n(l:List EH)(n:Nat)(Q:List EH→Int→Nat→Bool)(w:Int):List (Int×Int):=q2e n fun t=>q31 l (Q l w) t l.length
theorem q9g{l:List EH}{e:EH}{t:Int}:q03 (l++ [e]) t (l.length+1)=q03 l t l.length+if e.k=4∧e.t=t then 1 else 0:=by
 show q03 (l++ [e]) t l.length+(if q6a (l++ [e]) t l.length=true then 1 else 0)=_;rw[q1w (zu _)]
 congr 1
 unfold q6a;rw[q0Q,q25];simp only[decide_eq_true_eq]
theorem qb6{l:List EH}{e:EH}:(l++ [e]).length=l.length+1:=Y8
theorem qbH{l:List EH}{e:EH}{n u:Nat}(hu:e.t=u)(h4:e.k=4):(qZ l n).set u ((q03 l u l.length:Int)+1)=qZ (l++ [e]) n:=by
 unfold qZ;refine q2R fun t _=> ?_
 rw[qb6,q9g,hu]
 by_cases h:t=u
 ·subst h;rw[if_pos rfl,if_pos ⟨h4,rfl⟩];omega
 ·rw[if_neg h,if_neg (fun x=>h Y6)];omega
theorem qas{l:List EH}{e:EH}{n:Nat}(h4:e.k≠4):qZ (l++ [e]) n=qZ l n:=by
 unfold qZ;refine q04 fun t _=> ?_
 rw[qb6,q9g,if_neg (fun x=>h4 x.1)];rfl
theorem qcF{l:List EH}{e:EH}{n:Nat}(h4:e.k=4):q3F (l++ [e]) n e.t=qZ (l++ [e]) n:=by
 unfold q3F qZ;refine q04 fun t _=> ?_
 rw[qb6,q5H,if_pos (q1x.2 ⟨q0Q.trans h4,q25⟩)]
theorem q5I{l:List EH}{e:EH}{n:Nat}{u:Int}(h:e.k≠4∨e.t≠u):q3F (l++ [e]) n u=q3F l n u:=by
 unfold q3F;refine q04 fun t _=> ?_
 rw[qb6,q5H,if_neg (fun x=>by
  obtain⟨a,b⟩:=q1x.1 x;rw[q0Q] at a;rw[q25] at b
  rcases h with h|h <;>contradiction),q7l (zu _)]
theorem qan{l:List EH}{e:EH}{n:Nat}:qam (l++ [e]) n e.t=qZ l n:=by
 unfold qam qZ;refine q04 fun t _=> ?_
 rw[qb6,q6U,if_pos q25,q1w (zu _)]
theorem qbn{l:List EH}{u:Int}:∀{m},m≤l.length→(bgL l u m).toNat≤l.length:=fun{m} h=>by
 have:=qgy l u m;omega
theorem q6V{l:List EH}{e:EH}{n:Nat}{u:Int}(h:e.t≠u):qam (l++ [e]) n u=qam l n u:=by
 unfold qam;refine q04 fun t _=> ?_
 rw[qb6,q6U,if_neg (by rw[q25];exact h)];unfold qeb;rw[q63 l.length (zu _),q1w (qbn (zu _))]
theorem qe7{l:List EH}{e:EH}{n u:Nat}{Q:List EH→Int→Nat→Bool}{w:Int}(hQ:∀i,i<l.length→Q (l++ [e]) w i=Q l w i)(hu:e.t=u)(h:Q (l++ [e]) w l.length=true):(q5n l n Q w).set u ((l.length:Int),(q03 l u l.length:Int)+1)=q5n (l++ [e]) n Q w:=by
 unfold q5n;refine q2R fun t _=> ?_
 rw[qb6,q32,q25,hu,q1w (zu _)]
 by_cases ht:t=u
 ·subst ht;rw[if_pos rfl,if_pos ⟨h,rfl⟩]
 ·rw[if_neg ht,if_neg (fun x=>ht Y6),q1X (zu _) hQ]
theorem q6P{l:List EH}{e:EH}{n:Nat}{Q:List EH→Int→Nat→Bool}{w:Int}(hQ:∀i,i<l.length→Q (l++ [e]) w i=Q l w i)(h:Q (l++ [e]) w l.length=false):q5n (l++ [e]) n Q w=q5n l n Q w:=by
 unfold q5n;refine q04 fun t _=> ?_
 rw[qb6,q32,if_neg (by rw[h];simp),q1X (zu _) hQ]
def gtC(C:List Int)(t:Int):Int:=if 0≤t∧t<C.length then C[t.toNat]?.getD 0 else 0
theorem qbY{C:List Int}{t:Nat}{x:Int}(h:C[t]? =some x):gtC C t=x:=by
 unfold gtC;have:=(z7.1 h).1;rw[if_pos ⟨Y6,Y6⟩,zB,h];rfl
abbrev q0S(x:Int×Int):List Value:= [.int .i64 x.1, .int .i64 x.2]
def fAc(A:List (Int×Int))(t:Nat):Int×Int:=A[t]?.getD (0,0)
theorem qbO{A:List (Int×Int)}{t:Nat}{x:Int×Int}(h:A[t]? =some x):fAc A t=x:=by unfold fAc;rw[h];rfl
section
variable{W0:World}{own:Own}{a c:Option Addr}{cap cc:Nat}
theorem qjk{C:List Int}(hC:RdE qx 1 W0 own c C)(t:Int):qE Tryz.prog W0 153 [.slice c C.length cc, .int .i64 t] own (.int .i64 (gtC C t)):=by
 refine qg (sH [] ?_)
 by_cases h:0≤t∧t<C.length
 ·obtain⟨k,rfl⟩:∃k:Nat,t=k:=⟨t.toNat,Y6⟩
  obtain⟨x,hx⟩:∃x,C[k]? =some x:=⟨_,z6 Y6⟩
  have h1:¬(k:Int)<0:=Y6;have h2:¬(k:Int)≥C.length:=Y6;rw[qbY hx]
  repeat'((try(conv=>whnf));first|(refine fH ?_)|(refine fG ?_)|((apply gLd);first|(refine q0r hC hx rfl ?_))|((apply qJ);first|((refine ixE hC hx ?_ ?_;(first|rfl|omega)))))
  exact⟨rfl,(eC)⟩
 ·have e:gtC C t=0:=by unfold gtC;rw[if_neg h]
  rw[e]
  by_cases h1:t<0
  ·repeat'((try(conv=>whnf));first|(refine fI ?_)|(refine fE ?_)|(refine fJ ?_))
   exact⟨rfl,(eC)⟩
  ·have h2:t≥C.length:=Y6
   repeat'((try(conv=>whnf));first|(refine fH ?_)|(refine fF ?_)|(refine fK ?_))
   exact⟨rfl,(eC)⟩
theorem qd7{C:List Int}{A:List (Int×Int)}(hC:RdE qx 1 W0 own c C)(hA:RdE q0S 2 W0 own a A)(hl:A.length≤65536)(pl o:Int):
  qE Tryz.prog W0 105 [.int .i64 pl, .slice a A.length cap, .int .i64 o, .slice c C.length cc] own (.int .i64 (ltM o (fun t=>gtC C t) (fAc A) pl A.length)):=by
 refine qg (sH [3,5,7,9,11,13,15,17,19,21,23,25,27,29,31,33,35,0] ?_);have hg:=fun(own':Own) [qv own' own] (t:Int)=>qjk (W0:=W0) (own:=own') (cc:=cc) hC.up t
 refine q1O (σ:=Nat) (fun i=> [(0, .int .i64 (ltM o (fun t=>gtC C t) (fAc A) pl i)),(13, .int .i64 i)]) (fun i=>i≤A.length) (fun i=>A.length-i) 0 Y6 (eF) rfl ?_;intro i junk hi
 by_cases hlt:i<A.length
 ·have hlt':(i:Int)<A.length:=Y6;obtain⟨x,hx⟩:∃x,A[i]? =some x:=⟨_,z6 hlt⟩
  have hs:ltM o (fun t=>gtC C t) (fAc A) pl (i+1)=if(i:Int)≠o∧x.2>gtC C i∧x.1>ltM o (fun t=>gtC C t) (fAc A) pl i then x.1 else ltM o (fun t=>gtC C t) (fAc A) pl i:=by
   show(if(i:Int)≠o∧(fAc A i).2>gtC C i∧(fAc A i).1>_ then(fAc A i).1 else _)=_;rw[qbO hx]
  obtain⟨x1,x2⟩:=x;dsimp only at hs;generalize hp:ltM o (fun t=>gtC C t) (fAc A) pl i=p at*
  by_cases h1:(i:Int)=o
  ·rw[if_neg (fun h=>h.1 h1)] at hs;have h1':¬(i:Int)≠o:=fun h=>h h1
   repeat'((try(conv=>whnf));first|(refine fI ?_)|(refine fD ?_)|(refine fF ?_)|(refine fK ?_)|((apply qJ);first|((refine ixE hA hx ?_ ?_;(first|rfl|omega))))|((apply q2H);first|(refine q1h hA hx rfl ?_))|(refine fB ?_)|(refine fM ?_)|(refine qf (fun bk hbk=> ?_)))
   exact⟨i+1,Y6,Y6,by rw[hs];exact(eF),(eC)⟩
  ·by_cases h2:x2>gtC C i
   ·by_cases h3:x1>p
    ·rw[if_pos ⟨h1,h2,h3⟩] at hs
     repeat'((try(conv=>whnf));first|(refine fH ?_)|(refine fF ?_)|(refine fJ ?_)|((apply qJ);first|((refine ixE hA hx ?_ ?_;(first|rfl|omega))))|((apply q2H);first|(refine q1h hA hx rfl ?_))|((apply qz);first|(((refine qj (fun ex=>hg (ex++_) i) ?_))))|(refine fB ?_)|(refine fA ?_)|(refine fM ?_)|(refine qf (fun bk hbk=> ?_)))
     exact⟨i+1,Y6,Y6,by rw[hs];exact(eF),(eC)⟩
    ·rw[if_neg (fun h=>h3 h.2.2)] at hs
     repeat'((try(conv=>whnf));first|(refine fH ?_)|(refine fF ?_)|(refine fG ?_)|(refine fJ ?_)|((apply qJ);first|((refine ixE hA hx ?_ ?_;(first|rfl|omega))))|((apply q2H);first|(refine q1h hA hx rfl ?_))|((apply qz);first|(((refine qj (fun ex=>hg (ex++_) i) ?_))))|(refine fB ?_)|(refine fA ?_)|(refine fM ?_)|(refine qf (fun bk hbk=> ?_)))
     exact⟨i+1,Y6,Y6,by rw[hs];exact(eF),(eC)⟩
   ·rw[if_neg (fun h=>h2 h.2.1)] at hs
    repeat'((try(conv=>whnf));first|(refine fH ?_)|(refine fI ?_)|(refine fD ?_)|(refine fF ?_)|(refine fJ ?_)|(refine fK ?_)|((apply qJ);first|((refine ixE hA hx ?_ ?_;(first|rfl|omega))))|((apply q2H);first|(refine q1h hA hx rfl ?_))|((apply qz);first|(((refine qj (fun ex=>hg (ex++_) i) ?_))))|(refine fB ?_)|(refine fA ?_)|(refine fM ?_)|(refine qf (fun bk hbk=> ?_)))
    exact⟨i+1,Y6,Y6,by rw[hs];exact(eF),(eC)⟩
 ·have hlt':¬(i:Int)<A.length:=Y6;have hi2:i=A.length:=Y6;subst hi2
  repeat'((try(conv=>whnf));first|(refine fG ?_))
  exact⟨rfl,(eC)⟩
end
def q2A(bs:Nat→Nat)(H:Nat→List (Int×Int)):Nat→Own
 |0=> []
 |k+1=>q2A bs H k++ [q0K q0S 196 (bs k) (H k)]
theorem q0H{bs bs':Nat→Nat}{H H':Nat→List (Int×Int)}:∀{k},(∀j,j<k→bs j=bs' j∧H j=H' j)→q2A bs H k=q2A bs' H' k
 |0,_=>rfl
 |k+1,h=>by unfold q2A;rw[q0H fun j hj=>h j Y6,(h k Y6).1,(h k Y6).2]
theorem q5Y{bs:Nat→Nat}{H:Nat→List (Int×Int)}{i:Nat}:∀{k},i<k→∃C,At [q0K q0S 196 (bs i) (H i)] (q2A bs H k) C∧∀h,C [q0K q0S 196 (bs i) h]=q2A bs (fun j=>if j=i then h else H j) k
 |0,h=>by omega
 |k+1,h=>by
  by_cases e:i=k
  ·subst e;refine⟨fun X=>q2A bs H i++(X++ []),At.skip (A:=q2A bs H i) (At.head (D:= [q0K q0S 196 (bs i) (H i)]) (r:= [])),fun h=> ?_⟩;show q2A bs H i++ [q0K q0S 196 (bs i) h]=q2A bs (fun j=>if j=i then h else H j) i++ [q0K q0S 196 (bs i) (if i=i then h else H i)]
   rw[if_pos rfl,q0H (H:=fun j=>if j=i then h else H j) (H':=H) (bs':=bs) fun j hj=>⟨rfl,if_neg Y6⟩]
  ·obtain⟨C,hC,hh⟩:=q5Y (bs:=bs) (H:=H) (i:=i) (k:=k) Y6;refine⟨fun X=>C X++ [q0K q0S 196 (bs k) (H k)],hC.left,fun h=> ?_⟩;show C _++_=q2A bs (fun j=>if j=i then h else H j) k++ [q0K q0S 196 (bs k) (if k=i then h else H k)]
   rw[hh,if_neg (fun x:k=i=>e x.symm)]
theorem q93{bs:Nat→Nat}{H:Nat→List (Int×Int)}{i:Nat}:∀{k},i<k→q0K q0S 196 (bs i) (H i)∈q2A bs H k
 |0,h=>by omega
 |k+1,h=>by
  unfold q2A
  by_cases e:i=k
  ·subst e;simp
  ·exact zN _ (q93 Y6)
section
variable{W0:World}{own:Own}
theorem qhn{bs:Nat→Nat}{H:Nat→List (Int×Int)}{i k:Nat}(h:i<k):RdE q0S 2 W0 (q2A bs H k) (some ⟨bs i,0,none⟩) (H i):=q1A (q93 h) (fun _ _=>rfl) rfl
theorem qiW{tb n:Nat} [m:qy tb (fun o=>o=Obj.cells #[.int .i64 n] 3) own](hn:n≤65536):
  qt Tryz.prog W0 42 [.pointer (some ⟨tb,0,none⟩)] own fun v own'=>∃b:Nat,v= .slice (some ⟨b,0,none⟩) n n∧Ent W0 own' (q0K q0S 196 b (List.replicate n (0,0))::own):=by
 refine sH [] ?_
 repeat'((try(conv=>whnf));first|(refine mkC (enc:=q0S) n (0,0) rfl rfl rfl Y6 (fun b6=> ?_))|(refine fA ?_))
 exact⟨b6,rfl,Ent.refl⟩
end
end Ord
end Go.Proofs.YtbhbldllneadeaaGreatDoor
