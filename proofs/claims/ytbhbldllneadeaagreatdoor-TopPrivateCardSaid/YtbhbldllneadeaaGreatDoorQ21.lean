/- What the laws share, part 21. No condition. -/
import Derived.Test.YtbhbldllneadeaaGreatDoorQ20
set_option maxHeartbeats 16000000
set_option maxRecDepth 10000
namespace Go.Proofs.YtbhbldllneadeaaGreatDoor
open Go
structure OB where
 a:Option Addr
 c:Nat
 l:List ObM
 D:Own
abbrev OB.enc(o:OB):List Value:= [.slice o.a o.l.length o.c]
abbrev OB.ok(o:OB):Prop:=qu ObM.enc 78 3 o.a o.c o.l o.D
def qe4(l:List OB):Own:=(l.map OB.D).flatten
theorem qcj{l:List OB}{o:OB}:qe4 (l++ [o])=qe4 l++o.D:=by simp[qe4]
theorem q0x{c:Cfg}{n:Nat}{L:List TW}{t:Nat}{y:TW}(h:L[t]? =some y):(y.h.b,thP c t n y.p y.h y.x)∈TsO c n 0 L:=by
 rw[q3N L 0 t y h,zD];exact zR _ (zN _ zm)
theorem qhj{W0:World}{c:Cfg}{n:Nat}{L:List TW}{t:Nat}{y:TW}(h:L[t]? =some y):Ent W0 (TsO c n 0 L) y.h.oD:=by
 rw[q3N L 0 t y h,zD,ThO];exact Ent.right.trans (Ent.left.trans (Ent.of_sub ((List.sublist_append_left _ _).trans ((ZD _ _).trans ((ZD _ _).trans (zT _ _))))))
structure RS4 where
 cs:List Value
 ta:Option Addr
 tc:Nat
 tD:Own
 sa:Option Addr
 sc:Nat
 sD:Own
 ea:Option Addr
 ec:Nat
 oa:Option Addr
 oc:Nat
 oD:Own
 ol:List OB
 da:Own
 el:List EH
 eD:Own
 gD:Own
abbrev RS4.O(r:RS4)(Q:Own):Own:=r.tD++(r.sD++(r.oD++(qe4 r.ol++(r.da++(r.eD++(r.gD++Q))))))
structure RS4.ok(W0:World)(r:RS4)(L:List TW)(m:MS)(S:List StM)(es:List EvM):Prop where
 sh:Sh8 r.cs
 dd:DaA W0 r.da m.d (r.cs.getD 0 (.bool false))
 ht:qu Thr.enc 89 11 r.ta r.tc (L.map fun y=>y.x.th) r.tD
 hs:qu StM.enc 113 9 r.sa r.sc S r.sD
 ho:qu OB.enc 76 1 r.oa r.oc r.ol r.oD
 ob:r.ol.map OB.l=L.map fun y=>y.x.obs
 hv:∀o∈r.ol,o.ok
 he:qu EH.enc 84 6 r.ea r.ec r.el r.eD
 ev:∀e∈r.el,RdE qx 1 W0 r.gD e.ra e.rl∧RdE qx 1 W0 r.gD e.wa e.wl
 em:r.el.map EH.m=es
abbrev RS4.vs(r:RS4)(L:List TW)(S:List StM):List Value:=r.cs++ [.slice r.ta (L.map fun y=>y.x.th).length r.tc, .slice r.sa S.length r.sc, .slice r.ea r.el.length r.ec, .slice r.oa r.ol.length r.oc]
section
variable{W0:World}{own Q:Own}{c:Cfg}{n:Nat}{M:MQ}{m:MS}{S:List StM}{ev:List EvM}
theorem q7B(hk:M.ok W0 c n m S ev)(hn:M.L.length≤16)(hS:S.length≤1000)(hob:∀y∈M.L,y.x.obs.length≤100000)(Q:Own):qt Tryz.prog W0 20 [ptr M.b] (M.O c n m S Q) fun v own'=>
  ∃r:RS4,(v= .agg (r.vs M.L S).toArray∧r.ok W0 M.L m S ev)∧Ent W0 own' (r.O (M.O c n m S Q)):=by
 refine sH [3,5,7,9,13,15,17,1,12,19,1,22,23,26,28,0,26,22,23,28,0,1,19,1,12,1,22,23,26,28,0,26,22,23,28,0,26,12,22,23,28,0,26,1,12,19,22,23,28,0,19,12,22,23,28,0,3,5,7,9,12,14,15,18,0,3,7,1,5,10,12,14,15,18,0,10,5,12,14,15,18,0,3,5,9,1,8,11,15,14,18,19,22,0,11,8,15,14,18,19,22,0] ?_;have hgn:∀g,g=2∨g=3∨g=4→0<M.mh.n g:=fun g hg=>by
  rw[←hk.hM.ln g Y6]
  rcases hg with rfl|rfl|rfl <;>exact Nat.zero_lt_one
 have him:=fun Q=>qft (W0:=W0) hk.hM hgn Q
 have hcs:=fun(own':Own) (m:qv own' M.sD)=>q6z (W0:=W0) (own:=own') (cap:=M.sc) ((hk.hs.rd (W0:=W0)).up) Y6
 have htR:=hk.ht;have hle:=hk.le
 repeat'((try(conv=>whnf));first|(refine fD ?_)|((apply qe);first|((refine q45 (D:=M.mh.O m) (him _) (fun cs v hv=> ?_);(obtain⟨cs,daD⟩:=cs;obtain⟨rfl,⟨a1,a2,a3,a4,a5,n1,c1,n2,c2,n3,c3,n4,c4,n5,c5,x1,x2,x3,rfl⟩,hda⟩:=hv;dsimp only at hda)))|((refine qi (hcs _ Y9) (fun y v hv=> ?_);(obtain⟨sa,sc,sD⟩:=y;obtain⟨rfl,hB⟩:=hv;dsimp only at hB))))|(refine fA ?_)|(refine fM ?_)|(refine qf (fun bk hbk=> ?_))|(refine q1c.mk ?_ ?_))
 all_goals
  rename_i b2 hb2;refine qX (σ:=Nat×(Option Addr×Nat×Own)×(Option Addr×Nat×Own)×List OB) (fun s=> [(27, .int .i64 s.1)]) (fun s=>(b2,fun z=>z=Obj.cells #[.slice none 0 0, .slice none 0 0, .int .u64 0, .int .u64 0, .int .u64 0, .slice none 0 0, .slice none 0 0, .slice none 0 0, .slice none 0 0, .slice none 0 0, .slice none 0 0, .slice none 0 0] 57 (0,0))::
    (bk,fun z=>z=Obj.cells #[.slice a1 n1 c1, .slice a2 n2 c2,uv x1,uv x2,uv x3, .slice a3 n3 c3, .slice a4 n4 c4, .slice a5 n5 c5, .slice s.2.1.1 ((M.L.take s.1).map fun y=>y.x.th).length s.2.1.2.1, .slice sa S.length sc, .slice none 0 0, .slice s.2.2.1.1 s.2.2.2.length s.2.2.1.2.1] 57 (0,0))::
    (sD++(s.2.1.2.2++(s.2.2.1.2.2++(qe4 s.2.2.2++(daD++M.O c n m S Q))))))
   (fun s=>s.1≤M.L.length∧qu Thr.enc 89 11 s.2.1.1 s.2.1.2.1 ((M.L.take s.1).map fun y=>y.x.th) s.2.1.2.2∧qu OB.enc 76 1 s.2.2.1.1 s.2.2.1.2.1 s.2.2.2 s.2.2.1.2.2∧s.2.2.2.map OB.l=((M.L.take s.1).map fun y=>y.x.obs)∧∀o∈s.2.2.2,o.ok)
   (fun s=>M.L.length-s.1) (0,(none,0,[]),(none,0,[]),[]) ⟨zq _,qu.nil,qu.nil,rfl,fun _ h=>(by cases h)⟩ (eF) (by dsimp only[qe4,List.map_nil,List.flatten_nil];simp only[Zi,yJ,zi,zd];exact sbE) rfl ?_
  rintro⟨i,⟨tha,thc,thD⟩,⟨oa,oc,oD⟩,ol⟩ junk ⟨hi,hBt,hBo,hom,hov⟩;dsimp only at hi hBt hBo hom hov ⊢;have hll:(M.L.map fun y=>y.h.b).length=M.L.length:=zk ..;have htl:((M.L.take i).map fun y=>y.x.th).length=i:=by rw[zk,zU];omega
  have hol:ol.length=i:=by have:=congrArg List.length hom;rw[zk,zk,zU] at this;omega
  by_cases hlt:i<M.L.length
  ·obtain⟨y,hy⟩:∃y,M.L[i]? =some y:=⟨_,z6 hlt⟩
   have hlt':(i:Int)<(M.L.map fun y=>y.h.b).length:=Y6;have hb:=qgf hy;have hym:=zg hy;have hyo:=(hk.hL i y hy).ok;have hyl:=hob y hym;have hm1:qy y.h.b (thP c i n y.p y.h y.x) (TsO c n 0 M.L):=⟨q0x hy⟩
   have hm2:qv (TsO c n 0 M.L) y.h.oD:=⟨fun W=>qhj hy⟩
   have hst:=fun(own':Own) (mm:qy y.h.b (thP c i n y.p y.h y.x) own')=>qdt (W0:=W0) (own:=own') (c:=c) (t:=i) (n:=n) (p:=y.p) (h:=y.h) (x:=y.x)
   have hso:=fun(own':Own) (mm:qy y.h.b (thP c i n y.p y.h y.x) own') (me:qv own' y.h.oD)=>qje (W0:=W0) (own:=own') (c:=c) (t:=i) (n:=n) (p:=y.p) (h:=y.h) (x:=y.x) hyo.ho Y6
   have htk:(M.L.take (i+1)).map (fun y=>y.x.th)=((M.L.take i).map fun y=>y.x.th)++ [y.x.th]:=by rw[zZ,hy,zH];rfl
   have htk2:(M.L.take (i+1)).map (fun y=>y.x.obs)=((M.L.take i).map fun y=>y.x.obs)++ [y.x.obs]:=by rw[zZ,hy,zH];rfl
   repeat'((try(conv=>whnf));first|(refine fF ?_)|(refine qf (fun be hbe=> ?_))|(apply q0p (enc:=Thr.enc) (T:=89) y.x.th hBt;(exact rfl);(exact rfl);(omega);(exact rfl);(exact rfl);(omega);intro a6 c6 D6 hb6)|(apply q0p (enc:=OB.enc) (T:=76) (⟨a8,c8,y.x.obs,D8⟩:OB) hBo;(exact rfl);(exact rfl);(omega);(exact rfl);(exact rfl);(omega);intro a7 c7 D7 hb7)|((apply gLd);first|(refine q0r htR hb rfl ?_))|((apply qJ);first|((refine ixE htR hb ?_ ?_;(first|rfl|omega))))|((apply qe);first|((refine qi (hso _ Y9 Y9) (fun y v hv=> ?_);(obtain⟨a8,c8,D8⟩:=y;obtain⟨rfl,hB8⟩:=hv;dsimp only at hB8))))|((apply qz);first|((refine qj (fun ex=>hst _ Y9) ?_)))|(refine fB ?_)|(refine fA ?_)|(refine fN ?_)|(refine q1c.mk ?_ ?_))
   all_goals
    refine⟨(i+1,(a6,c6,D6),(a7,c7,D7),ol++ [⟨a8,c8,y.x.obs,D8⟩]),⟨hlt,by dsimp only;rw[htk];exact hb6,hb7,by dsimp only;rw[zH,hom,htk2];rfl,fun o ho=> ?_⟩,by simp only;omega,(eF),?_⟩
    ·rcases zz.1 ho with ho|ho
     ·exact hov o ho
     ·rw[zf] at ho;subst ho;exact hB8
    ·dsimp only;rw[htk,z8,qcj,z8];simp only[zd];exact sbE
  ·obtain rfl:i=M.L.length:=Y6;have hlt':¬(M.L.length:Int)<(M.L.map fun y=>y.h.b).length:=Y6;rw[Z4] at hBt hom htl ⊢
   repeat'((try(conv=>whnf));first|(refine fG ?_)|(refine fA ?_))
   refine qX (σ:=Nat×Option Addr×Nat×Own×List EH×Own) (fun s=> [(51, .int .i64 s.1)]) (fun s=>(b2,fun z=>z=Obj.cells #[.slice none 0 0, .slice none 0 0, .int .u64 0, .int .u64 0, .int .u64 0, .slice none 0 0, .slice none 0 0, .slice none 0 0, .slice none 0 0, .slice none 0 0, .slice none 0 0, .slice none 0 0] 57 (0,0))::
     (bk,fun z=>z=Obj.cells #[.slice a1 n1 c1, .slice a2 n2 c2,uv x1,uv x2,uv x3, .slice a3 n3 c3, .slice a4 n4 c4, .slice a5 n5 c5, .slice tha (M.L.map fun y=>y.x.th).length thc, .slice sa S.length sc, .slice s.2.1 s.2.2.2.2.1.length s.2.2.1, .slice oa ol.length oc] 57 (0,0))::
     (sD++(thD++(oD++(qe4 ol++(daD++(s.2.2.2.1++(s.2.2.2.2.2++M.O c n m S Q))))))))
    (fun s=>s.1≤M.el.length∧qu EH.enc 84 6 s.2.1 s.2.2.1 s.2.2.2.2.1 s.2.2.2.1∧s.2.2.2.2.1.map EH.m=(M.el.take s.1).map EH.m∧∀e∈s.2.2.2.2.1,RdE qx 1 W0 s.2.2.2.2.2 e.ra e.rl∧RdE qx 1 W0 s.2.2.2.2.2 e.wa e.wl) (fun s=>M.el.length-s.1) (0,none,0,[],[],[]) ⟨zq _,qu.nil,rfl,fun _ h=>(by cases h)⟩ (eF) (by simp only[zi];exact sbE) rfl ?_
   rintro⟨j,ea,ec,eD,el,gD⟩ junk2 ⟨hj,hBe,hell0,hevs⟩;dsimp only at hj hBe hell0 hevs ⊢;have hell:el.length=j:=by have:=congrArg List.length hell0;rw[zk,zk,zU] at this;omega
   by_cases hjt:j<M.el.length
   ·obtain⟨e,he⟩:∃e,M.el[j]? =some e:=⟨_,z6 hjt⟩
    have hjt':(j:Int)<M.el.length:=Y6;have hev:=hk.hv e (zg he);have heR:=hk.he.rd (W0:=W0);have hcr:=fun(own':Own) (mm:qv own' M.gD)=>qI (W0:=W0) (own:=own') (cap:=e.rc) (hev.1.1.up) Y6
    have hcw:=fun(own':Own) (mm:qv own' M.gD)=>qI (W0:=W0) (own:=own') (cap:=e.wc) (hev.1.2.up) Y6
    repeat'((try(conv=>whnf));first|(refine fF ?_)|(refine qf (fun be hbe=> ?_))|(apply q0p (enc:=EH.enc) (T:=84) {e with ra:=ra,rc:=rc,wa:=wa,wc:=wc} hBe;(exact rfl);(exact rfl);(omega);(exact rfl);(exact rfl);(omega);intro a6 c6 D6 hb6)|((apply qJ);first|((refine ixE heR he ?_ ?_;(first|rfl|omega))))|((apply q2H);first|(refine q1h heR he rfl ?_))|((apply qe);first|((refine qi (hcr _ Y9) (fun y v hv=> ?_);(obtain⟨ra,rc,rD⟩:=y;obtain⟨rfl,hBr⟩:=hv;dsimp only at hBr)))|((refine qi (hcw _ Y9) (fun y v hv=> ?_);(obtain⟨wa,wc,wD⟩:=y;obtain⟨rfl,hBw⟩:=hv;dsimp only at hBw))))|(refine fB ?_)|(refine fA ?_)|(refine fL ?_)|(refine fN ?_)|(refine fM ?_)|(refine q1c.mk ?_ ?_))
    all_goals
     have htk:M.el.take (j+1)=M.el.take j++ [e]:=by rw[zZ,he];rfl
     refine⟨(j+1,a6,c6,D6,el++ [{e with ra:=ra,rc:=rc,wa:=wa,wc:=wc}],rD++(wD++gD)),⟨hjt,hb6,by dsimp only;rw[zH,hell0,htk,zH];rfl,fun z hz=> ?_⟩,by simp only;omega,(eF),by dsimp only;rw[z8];simp only[zd];exact sbE⟩
     rcases zz.1 hz with hz|hz
     ·exact⟨(hevs z hz).1.ent (Ent.right.trans Ent.right),(hevs z hz).2.ent (Ent.right.trans Ent.right)⟩
     ·rw[zf] at hz;subst hz;exact⟨(hBr.rd (W0:=W0)).ent Ent.left,(hBw.rd (W0:=W0)).ent (Ent.right.trans Ent.left)⟩
   ·obtain rfl:j=M.el.length:=Y6;have hjt':¬(M.el.length:Int)<M.el.length:=Y6
    repeat'((try(conv=>whnf));first|(refine fG ?_)|(refine fL ?_)|(refine fM ?_))
    all_goals exact⟨⟨[.slice a1 n1 c1, .slice a2 n2 c2,uv x1,uv x2,uv x3, .slice a3 n3 c3, .slice a4 n4 c4, .slice a5 n5 c5],tha,thc,thD,sa,sc,sD,ea,ec,oa,oc,oD,ol,daD,el,eD,gD⟩,⟨rfl,⟨⟨_,_,_,_,_,_,_,_,_,_,_,_,_,_,_,_,_,_,rfl⟩,hda,hBt,hB,hBo,hom,hov,hBe,hevs,by rw[hell0,Z4];exact hk.em⟩⟩,by unfold RS4.O;exact sbE⟩
end
open Go
structure StG(c:Cfg)(ps:List (List Ins))(n:Nat)(r:RM)(t:Nat):Prop where
 go:∀x p,r.xs[t]? =some x→ps[t]? =some p→x.th.dn=false→GoC c p∧∃i,GoT c p n t r.m x i
 S:r.S.length≤1000
theorem MQ.b_eq{M:MQ}{b:Nat}(e:M.b=b):∃M':MQ,M={M' with b:=b}:=⟨M,by cases M;cases e;rfl⟩
structure MK(W0:World)(c:Cfg)(n:Nat)(ps:List (List Ins))(M:MQ)(r:RM):Prop where
 ok:M.ok W0 c n r.m r.S r.E
 x:M.L.map TW.x=r.xs
 p:M.L.map TW.p=ps
def KpT(M M':MQ)(t:Nat):Prop:=∀y,M.L[t]? =some y→∃y',M'.L[t]? =some y'∧y'.h.b=y.h.b∧(y.h.ap≠ .pointer none→y'.x.at'≠none→y'.h.ap=y.h.ap)
section
variable{W0:World}{own:Own}{c:Cfg}{n:Nat}{ps:List (List Ins)}{M:MQ}{r:RM}{t:Nat}
theorem MK.at(hk:MK W0 c n ps M r)(ht:t<ps.length):∃y,M.L[t]? =some y∧r.xs[t]? =some y.x∧ps[t]? =some y.p:=by
 have hl:t<M.L.length:=by have:=congrArg List.length hk.p;rw[zk] at this;omega
 refine⟨_,z6 hl,?_,?_⟩
 ·rw[←hk.x,zI,z6 hl];rfl
 ·rw[←hk.p,zI,z6 hl];rfl
theorem MK.len(hk:MK W0 c n ps M r):M.L.length=ps.length:=by rw[←hk.p,zk]
theorem qa5(hF:qC W0)(hk:MK W0 c n ps M r)(ht:t<ps.length)(hn:ps.length≤16)(hg:StG c ps n r t)(Q:Own):qt Tryz.prog W0 26 [ptr M.b, .int .i64 t] (M.O c n r.m r.S Q) fun v own'=>
  ∃M':MQ,(v= .bool (goM r t)∧M'.b=M.b∧MK W0 c n ps M' (q0R c ps n r t)∧KpT M M' t)∧Ent W0 own' (M'.O c n (q0R c ps n r t).m (q0R c ps n r t).S Q):=by
 obtain⟨y,hy,hx,hp⟩:=hk.at ht;have hl:=hk.len;have hgo:goM r t= !y.x.th.dn:=by unfold goM;rw[hx]
 unfold q0R;simp only[hx,hp,hgo];cases hd:y.x.th.dn with
 |true=>
  have h0:=qfC (W0:=W0) (n:=n) hk.ok hy hd Y6 Q;rw[if_pos rfl];intro w hw;refine(h0 w hw).mono ?_;rintro e w' ⟨v,own',he,hs,_,rfl,hE⟩;exact⟨_,own',he,hs,M,⟨rfl,rfl,hk,fun z hz=>⟨z,hz,rfl,fun _ _=>rfl⟩⟩,hE⟩
 |false=>
  obtain⟨hG,i,hT⟩:=hg.go _ _ hx hp hd;have h0:=qfD (W0:=W0) (n:=n) hF hG hk.ok hy hT Y6 hg.S Q;rw[if_neg Y7];intro w hw;refine(h0 w hw).mono ?_;rintro e w' ⟨v,own',he,hs,M',⟨rfl,h1,h2,y',h3,h4,h5,h6,h7⟩,hE⟩;have hlt:t<M.L.length:=Y6;refine⟨_,own',he,hs,M',⟨rfl,h1,⟨h2,?_,?_⟩,fun z hz=> ?_⟩,hE⟩
  ·rw[h7,yW,hk.x,h3]
  ·rw[h7,yW,hk.p,h4];refine Zf fun j=> ?_
   rw[zv]
   split
   ·rename_i e;subst e;exact hp.symm
   ·rfl
  ·rw[hy] at hz;cases hz;exact⟨y',by rw[h7,zv,if_pos rfl,if_pos hlt],h5,h6⟩
theorem qnt{ia pa ka:Option Addr}{il ks:List Int}{ic pc kc O:Nat}{ps:List PH}(hF:qC W0)(hcs:csM c il.length ps ks=(0,0,0))(hc:qH c=0)(h0:c.c0=0∧c.c1=0∧c.c2=0∧c.c3=0)(hb:qA c=0)(hI:RdE q09 1 W0 own ia il)(hil:(il.length:Int)=c.words)(hi1:il≠ [])(hi2:il.length≤1000)(hO:c.orecs=(O:Int))(hO2:O≤1000)
  (hP:RdE PH.enc 1 W0 own pa ps) (hQ:∀h∈ps,RdE Ins.enc 5 W0 own h.a h.p) (hK:RdE qx 1 W0 own ka ks) (hn1:1≤ps.length) (hn:ps.length≤16) (hck:∀h∈ps,qw h.p=(0,0)) (hpl:∀h∈ps,h.p.length≤100000):
  qt Tryz.prog W0 25 [qaG c ia il.length ic pa ps.length pc ka ks.length kc] own fun v own'=>∃M:MQ,(v= .tuple #[ptr M.b, .int .i64 0, .int .i64 0, .int .i64 0]∧MK W0 c ps.length (ps.map PH.p) M ⟨ms0 il O ps.length,ps.map fun h=>q2J h.p,[],[]⟩)∧Ent W0 own' (M.O c ps.length (ms0 il O ps.length) [] own):=by
 have h1:=qiV (W0:=W0) (own:=own) (c:=c) (ic:=ic) (pc:=pc) (kc:=kc) hF hcs hc h0 hb hI hil hi1 hi2 hO hO2 hP hQ hK hn1 hn hck hpl;intro w hw;refine(h1 w hw).mono ?_;rintro e w' ⟨v,own',he,hs,M,⟨rfl,h2,h3,h4⟩,hE⟩;exact⟨_,own',he,hs,M,⟨rfl,h2,h4,h3⟩,hE⟩
theorem qh9{ia pa ka:Option Addr}{il ks:List Int}{ic pc kc O:Nat}{ps:List PH}{l:List Nat}(hF:qC W0)(hcs:csM c il.length ps ks=(0,0,0))(hc:qH c=0)(h0:c.c0=0∧c.c1=0∧c.c2=0∧c.c3=0)(hb:qA c=0)(hI:RdE q09 1 W0 own ia il)(hil:(il.length:Int)=c.words)(hi1:il≠ [])(hi2:il.length≤1000)(hO:c.orecs=(O:Int))(hO2:O≤1000)
  (hP:RdE PH.enc 1 W0 own pa ps) (hQ:∀h∈ps,RdE Ins.enc 5 W0 own h.a h.p) (hK:RdE qx 1 W0 own ka ks) (hn1:1≤ps.length) (hn:ps.length≤16) (hck:∀h∈ps,qw h.p=(0,0)) (hpl:∀h∈ps,h.p.length≤100000)
  (hkl:ks=l.map fun t=>((t:Nat):Int)) (hkb:l.length≤1000) (hkr:∀t∈l,t<ps.length) (hg:∀k t,l[k]? =some t→StG c (ps.map PH.p) ps.length (q10 c il O (ps.map PH.p) (l.take k)) t) (hS:(q10 c il O (ps.map PH.p) l).S.length≤1000) (hob:∀x∈(q10 c il O (ps.map PH.p) l).xs,x.obs.length≤100000):
  qt Tryz.prog W0 14 [qaG c ia il.length ic pa ps.length pc ka ks.length kc] own fun v own'=>
   ∃y:RS4×List TW,(v= .tuple #[.agg (y.1.vs y.2 (q10 c il O (ps.map PH.p) l).S).toArray, .int .i64 0, .int .i64 0, .int .i64 0]∧y.1.ok W0 y.2 (q10 c il O (ps.map PH.p) l).m (q10 c il O (ps.map PH.p) l).S (q10 c il O (ps.map PH.p) l).E∧y.2.map TW.x=(q10 c il O (ps.map PH.p) l).xs)∧Ent W0 own' (y.1.O own):=by
 refine sH [] ?_;have hnw:=fun(own':Own) (m:qv own' own)=>qnt (W0:=W0) (own:=own') (c:=c) (ic:=ic) (pc:=pc) (kc:=kc) hF hcs hc h0 hb hI.up hil hi1 hi2 hO hO2 hP.up (fun h hh=>(hQ h hh).up) hK.up hn1 hn hck hpl
 have hrl:q10 c il O (ps.map PH.p) []=⟨ms0 il O ps.length,ps.map fun h=>q2J h.p,[],[]⟩:=by
  show(⟨ms0 il O (ps.map PH.p).length,(ps.map PH.p).map q2J,[],[]⟩:RM)=_;rw[zk,yE];rfl
 have hlen:(ps.map PH.p).length=ps.length:=zk ..;have hrs:∀k t,l[k]? =some t→q10 c il O (ps.map PH.p) (l.take (k+1))=q0R c (ps.map PH.p) ps.length (q10 c il O (ps.map PH.p) (l.take k)) t:=fun k t hk=>by
  rw[zZ,hk];show qfc _ _ _ _ _=_;rw[show(some t).toList= [t] from rfl,q4F];show q0R _ _ (ps.map PH.p).length _ _=_
  congr 1
 generalize hR:(fun k=>q10 c il O (ps.map PH.p) (l.take k))=R;have hR':∀k,q10 c il O (ps.map PH.p) (l.take k)=R k:=fun k=>congrFun hR k
 have hRl:q10 c il O (ps.map PH.p) l=R l.length:=by rw[←hR',Z4]
 rw[hRl] at hS hob ⊢;simp only[hR'] at hg hrs;have hR0:R 0=⟨ms0 il O ps.length,ps.map fun h=>q2J h.p,[],[]⟩:=by rw[←hR',yZ];exact hrl
 rw[←hR0] at hnw;have hkl2:ks.length=l.length:=by rw[hkl,zk]
 rw[show ms0 il O ps.length=(R 0).m by rw[hR0]] at hnw;rw[show([]:List StM)=(R 0).S by rw[hR0]] at hnw;clear hrl hR hR' hRl hR0
 repeat'((try(conv=>whnf));first|(refine fD ?_)|(refine qf (fun bk hbk=> ?_))|((apply qe);first|((refine qi (hnw _ Y9) (fun M v hv=> ?_);(obtain⟨rfl,hMo⟩:=hv))))|(refine fO ?_)|(refine fA ?_)|(refine fL ?_))
 refine qX (σ:=Nat×MQ) (fun s=> [(25, .int .i64 s.1)]) (fun s=>(bk,fun z=>z=Obj.cells #[.slice none 0 0, .slice none 0 0, .int .u64 0, .int .u64 0, .int .u64 0, .slice none 0 0, .slice none 0 0, .slice none 0 0, .slice none 0 0, .slice none 0 0, .slice none 0 0, .slice none 0 0] 57 (0,0))::s.2.O c ps.length (R s.1).m (R s.1).S own)
  (fun s=>s.1≤l.length∧s.2.b=M.b∧MK W0 c ps.length (ps.map PH.p) s.2 (R s.1)) (fun s=>l.length-s.1) (0,M)
  ⟨zq _,rfl,hMo⟩ (eF) sbE rfl ?_
 rintro⟨i,M1⟩ junk ⟨hi,hb1,hk⟩;dsimp only at hi hb1 hk ⊢;obtain⟨M2,rfl⟩:=MQ.b_eq hb1;have hln:M2.L.length=ps.length:=by have:=hk.len;rw[hlen] at this;exact this
 by_cases hlt:i<l.length
 ·obtain⟨t,ht⟩:∃t,l[i]? =some t:=⟨_,z6 hlt⟩
  have hz:ks[i]? =some ((t:Nat):Int):=by rw[hkl,zI,ht];rfl
  have hlt':(i:Int)<ks.length:=Y6;have htl:=hkr t (zg ht);have hpk:=fun Q=>qa5 (W0:=W0) (n:=ps.length) hF hk (by rw[hlen];exact htl) (by rw[hlen];exact hn) (hg i t ht) Q
  rw[←hrs i t ht] at hpk
  repeat'((try(conv=>whnf));first|(refine fF ?_)|((apply gLd);first|(refine q0r hK hz rfl ?_))|((apply qJ);first|((refine ixE hK hz ?_ ?_;(first|rfl|omega))))|((apply qe);first|((refine qo (b:=M.b) (D:=M2.mh.O (R i).m++(M2.tD++(M2.sD++(M2.eD++(M2.gD++(TsO c ps.length 0 M2.L++ [])))))) hpk (fun Q=>sbE) (fun M3 v hv=> ?_);(obtain⟨rfl,h3b,h3o, -⟩:=hv))))|(refine fB ?_))
  all_goals exact⟨(i+1,M3),⟨hlt,h3b,h3o⟩,by simp only;omega,(eF),sbE⟩
 ·obtain rfl:i=l.length:=Y6;have hlt':¬(l.length:Int)<ks.length:=Y6;have hrs:=fun Q=>q7B (W0:=W0) (n:=ps.length) hk.ok (by dsimp only;omega) hS (fun y hy=>hob y.x (by rw[←hk.x];exact zK.2 ⟨y,hy,rfl⟩)) Q
  repeat'((try(conv=>whnf));first|(refine fG ?_)|((apply qe);first|((refine qo (b:=M.b) (D:=M2.mh.O (R l.length).m++(M2.tD++(M2.sD++(M2.eD++(M2.gD++(TsO c ps.length 0 M2.L++ [])))))) hrs (fun Q=>sbE) (fun r v hv=> ?_);(obtain⟨rfl,hr⟩:=hv;obtain⟨cs,ta,tc,tD,sa,sc,sD,ea,ec,oa,oc,oD,ol,da,el,eD,gD⟩:=r;have hsh:=hr.sh;obtain⟨a1,a2,a3,a4,a5,n1,c1,n2,c2,n3,c3,n4,c4,n5,c5,x1,x2,x3,hcs2⟩:=hsh;dsimp only at hcs2;subst hcs2))))|(refine fL ?_)|(refine fM ?_))
  all_goals exact⟨(⟨_,ta,tc,tD,sa,sc,sD,ea,ec,oa,oc,oD,ol,da,el,eD,gD⟩,M2.L),⟨rfl,hr,hk.x⟩,sbE⟩
end
open Go
theorem qgr{c:Cfg}{p:List Ins}{t:Int}{m:MS}{x:GT}{a:AT}{i:Ins}(h:(q0M c p t m x a i).2.2.1.ph=16):∃a',(q0M c p t m x a i).2.1.at'=some a':=by
 have hb:=q7K (c:=c) (t:=t) (m:=m) (x:=a) (.inr h);unfold q0M;dsimp only;rw[if_pos hb];exact⟨_,rfl⟩
theorem qkI{c:Cfg}{p:List Ins}{t:Int}{m:MS}{x:GT}{i:Ins}(h:(q15 c p t m x i).2.2.1.ph=16):(∃a,x.at'=some a)∧∃a',(q15 c p t m x i).2.1.at'=some a':=by
 unfold q15 at h ⊢
 split
 ·rename_i h7;rw[if_pos h7] at h;exact absurd h (by show(2:Int)≠16;decide)
 ·rename_i h7;rw[if_neg h7] at h
  split
  ·rename_i hr;rw[if_pos hr] at h;cases ha:x.at' with
   |none=>rw[ha] at h;exact absurd h (by show(0:Int)≠16;decide)
   |some a=>
    rw[ha] at h;exact⟨⟨a,rfl⟩,qgr h⟩
  ·rename_i hr;rw[if_neg hr] at h;exact absurd h (by show(0:Int)≠16;decide)
theorem qgd{c:Cfg}{p:List Ins}{n:Nat}{t:Int}{m:MS}{x:GT}(h:(qN c p n t m x).2.2.1.ph=16):(∃a,x.at'=some a)∧∃a',(qN c p n t m x).2.1.at'=some a':=by
 have hw:∀f,(q0n n p t m x f).2.2.1.ph≠16:=fun f=>by
  show(q2Q t m f).2.2≠16;unfold q2Q
  split
  ·show(25:Int)≠16;decide
  ·show(26:Int)≠16;decide
 have he:∀i,(q2d c p n t m x i).2.2.1.ph=16→(∃a,x.at'=some a)∧∃a',(q2d c p n t m x i).2.1.at'=some a':=fun i h=>by
  unfold q2d at h ⊢
  split at h
  ·exfalso;unfold q01 at h
   split at h
   ·exact absurd h (by show(0:Int)≠16;decide)
   ·split at h
    ·exact absurd h (by show(1:Int)≠16;decide)
    ·exact absurd h (by show(1:Int)≠16;decide)
  ·rename_i h1;rw[if_neg h1]
   split at h
   ·exact absurd h (hw _)
   ·rename_i h2;rw[if_neg h2];exact qkI h
 unfold qN at h ⊢;cases hp:p[x.th.pc]? with
 |none=>rw[hp] at h;exact absurd h (by show(0:Int)≠16;decide)
 |some i=>
  rw[hp] at h;dsimp only at h ⊢;cases hf:x.fn with
  |some f=>rw[hf] at h;exact absurd h (hw f)
  |none=>
   rw[hf] at h;dsimp only at h ⊢;cases ha:x.at' with
   |none=>rw[ha] at h;dsimp only at h ⊢;have:=he i h;rw[ha] at this;exact this
   |some a=>
    rw[ha] at h;dsimp only at h ⊢
    split at h
    ·rename_i hb;rw[if_pos hb];exact⟨⟨a,rfl⟩,qgr h⟩
    ·rename_i hb;rw[if_neg hb];have:=he i h;rw[ha] at this;exact this
abbrev q9G(x:ChM):CH:=⟨x.t,x.f,none,[],0⟩
abbrev xP(b:Nat)(ca:Option Addr)(k cc:Nat):Obj→Prop:=fun z=>z=Obj.cells #[ptr b, .slice ca k cc] 74 (0,0)
section
variable{W0:World}{own:Own}{c:Cfg}{n:Nat}{ps:List (List Ins)}{M:MQ}{m:MS}{S:List StM}{ev:List EvM}{r:RM}{t:Nat}{y:TW}{p:List Ins}{h:TH}{x:GT}{b:Nat}
theorem q5L(ht:RdE qmb 1 W0 M.tD M.ta (M.L.map fun y=>y.h.b))(hy:M.L[t]? =some y)(hn:M.L.length≤16) [m1:qy M.b (maP M S) own] [m2:qv own M.tD]:qE Tryz.prog W0 39 [ptr M.b, .int .i64 t] own (ptr y.h.b):=by
 refine qg (sH [] ?_);have htb:=qgf hy;have hlt:=(z7.1 hy).1;have hti:(t:Int)<(M.L.map fun y=>y.h.b).length:=by rw[zk];omega
 have hn2:(M.L.map fun y=>y.h.b).length≤16:=by rw[zk];exact hn
 have h1:Cl W0 own M.b 1 (.slice M.ta (M.L.map fun y=>y.h.b).length M.tc):=qk m1 rfl
 repeat'((try(conv=>whnf));first|(refine fH ?_)|(refine fG ?_)|(refine q0d h1 ?_)|((apply gLd);first|(refine q0r ht htb rfl ?_))|((apply qJ);first|((refine ixE ht htb ?_ ?_;(first|rfl|omega)))))
 all_goals exact⟨rfl,(eC)⟩
theorem q4U{o:Option Addr}(ho:h.ap= .pointer o) [m1:qy b (thP c t n p h x) own]:qE Tryz.prog W0 40 [ptr b] own (.tuple #[.pointer o, .bool false]):=by
 refine qg (sH [3,5,7,9,11,13,15,17,19,21,23,25,0] ?_);have h0:Cl W0 own b 0 h.ap:=qk m1 rfl;have h1:Cl W0 own b 12 (.bool false):=qk m1 rfl;rw[ho] at h0
 repeat'((try(conv=>whnf));first|(refine fD ?_)|(refine q0d h0 ?_)|(refine q0d h1 ?_))
 all_goals exact⟨rfl,(eC)⟩
theorem qg0{A:Own} [m1:qy b (thP c t n p h x) own](ha:AtO W0 c t h x A){F:Own}(hf:FeO h.lb t n x.fn F):qE Tryz.prog W0 59 [ptr b] own (.bool x.rest):=by
 refine qg (sH [] ?_);have h0:Cl W0 own b 0 h.ap:=qk m1 rfl;have h1:Cl W0 own b 14 h.lb.fp:=qk m1 rfl;have h2:Cl W0 own b 10 (.int .i64 x.tr):=qk m1 rfl;unfold GT.rest;rw[show decide (x.tr=0)=decide ((x.tr:Int)=0) from decide_eq_decide.2 Y6];unfold AtO at ha;unfold FeO at hf;cases hx:x.at' with
 |some a=>
  rw[hx] at ha;obtain⟨ah,E,hap, -⟩:=ha;rw[hap] at h0;rw[show((some a:Option AT).isNone&&x.fn.isNone&&decide ((x.tr:Int)=0))=false from rfl]
  repeat'((try(conv=>whnf));first|(refine fH ?_)|(refine fI ?_)|(refine q0d h0 ?_))
  all_goals exact⟨rfl,(eC)⟩
 |none=>
  rw[hx] at ha;rw[ha.1] at h0;cases hfn:x.fn with
  |some f=>
   rw[hfn] at hf;obtain⟨fb,hfp, -⟩:=hf;rw[hfp] at h1;rw[show((none:Option AT).isNone&&(some f:Option FT).isNone&&decide ((x.tr:Int)=0))=false from rfl]
   repeat'((try(conv=>whnf));first|(refine fH ?_)|(refine fI ?_)|(refine q0d h0 ?_)|(refine q0d h1 ?_))
   all_goals exact⟨rfl,(eC)⟩
  |none=>
   rw[hfn] at hf;rw[hf.1] at h1;rw[show((none:Option AT).isNone&&(none:Option FT).isNone&&decide ((x.tr:Int)=0))=decide ((x.tr:Int)=0) from rfl]
   repeat'((try(conv=>whnf));first|(refine fH ?_)|(refine q0d h0 ?_)|(refine q0d h1 ?_)|(refine q0d h2 ?_))
   all_goals exact⟨rfl,(eC)⟩
theorem qfB{s:StM}(hs:qu StM.enc 113 9 M.sa M.sc (S++ [s]) M.sD)(hS:S.length≤1000) [m1:qy M.b (maP M (S++ [s])) own] [m2:qv own M.sD]:qE Tryz.prog W0 56 [ptr M.b] own (stV s):=by
 refine qg (sH [3,5,7,9,11,13,15,17,19,21,23,25,28,0] ?_);have hl:(S++ [s]).length=S.length+1:=Y8;have hx:(S++ [s])[S.length]? =some s:=Y8;have hR:=hs.rd (W0:=W0);have h1':Cl W0 own M.b 2 (.slice M.sa (S++ [s]).length M.sc):=qk m1 rfl
 repeat'((try(conv=>whnf));first|(refine fH ?_)|(refine fG ?_)|(refine q0d h1' ?_)|((apply qJ);first|((refine ixE hR hx ?_ ?_;(first|rfl|omega))))|((apply q2H);first|(refine q1h hR hx rfl ?_))|(refine fB ?_)|(refine fL ?_)|(refine fM ?_)|(refine qf (fun bk hbk=> ?_)))
 all_goals exact⟨rfl,(eC)⟩
theorem qaI(h3:Cl W0 own b 3 (.slice none 0 0)):qt Tryz.prog W0 57 [ptr b] own fun v own'=>∃s:Option Addr×Nat,v= .slice s.1 0 s.2∧Ent W0 own' own:=by
 refine sH [] ?_;have hcl:=qI (W0:=W0) (own:=own) (a:=none) (l:= []) (cap:=0) RdE.nil Y7
 repeat'((try(conv=>whnf));first|(refine q0d h3 ?_)|((apply qe);first|((refine qi hcl (fun y v hv=> ?_);(obtain⟨a2,c2,D2⟩:=y;obtain⟨rfl,hB2⟩:=hv;dsimp only at hB2)))))
 exact⟨(a2,c2),rfl,sbE⟩
end
open Go
section
variable{W0:World}{own:Own}{c:Cfg}{n:Nat}{ps:List (List Ins)}{M:MQ}{m:MS}{S:List StM}{ev:List EvM}{r:RM}{t:Nat}{y:TW}{p:List Ins}{h:TH}{x:GT}{b:Nat}{L:List TW}
theorem MK.x_at{xs:List GT}{E:List EvM}(hk:MK W0 c n ps M ⟨m,xs.set t x,S,E⟩)(hy:M.L[t]? =some y):y.x=x:=by
 have h1:(M.L.map TW.x)[t]? =some y.x:=by rw[zI,hy];rfl
 rw[hk.x] at h1;dsimp only at h1;rw[zv,if_pos rfl] at h1
 split at h1
 ·exact(Option.some.inj h1).symm
 ·cases h1
theorem qjv{t:Int}:(qN c p n t m x).2.2.1.t=t:=by
 have he:∀i,(q2d c p n t m x i).2.2.1.t=t:=fun i=>by
  unfold q2d
  split
  ·exact q9Q.1
  ·split
   ·rfl
   ·exact qbK.1
 unfold qN
 split
 ·rfl
 ·split
  ·rfl
  ·split
   ·split
    ·rfl
    ·exact he _
   ·exact he _
theorem qaY [mm:qy b (thP c t n p h x) own]:qE Tryz.prog W0 36 [ptr b] own (.agg x.th.enc.toArray):=by
 refine qg (sH [] ?_);have hL:∀{own':Own} {K:Array Value→Prop},Ent W0 own' own→K x.th.enc.toArray→LdN W0 own' ⟨b,0+32,none⟩ 11 K:=fun he hK=>by
  obtain⟨vs,h1,h2,h3⟩:=q1n (W0:=W0) (own:=own) (n:=11) (off:=0+32) (K:=fun v=>v=x.th.enc.toArray) x.th.enc mm.h rfl rfl rfl;subst h3;exact⟨_,h1,fun w hw=>h2 w (he w hw),hK⟩
 repeat'((try(conv=>whnf));first|(refine fD ?_)|(refine hL ?_ ?_;exact sbE)|(refine fL ?_)|(refine fM ?_)|(refine qf (fun bk hbk=> ?_)))
 all_goals exact⟨rfl,(eC)⟩
theorem q7S(hy:L[t]? =some y){ah:AH}{a:AT}{E:Own}(hA:y.A=ah.O c t a a.ph.no a.ph.en E):qy ah.b (atP c t ah a a.ph.no) (TsO c n 0 L):=by
 refine⟨?_⟩;rw[q3N L 0 t y hy,zD,ThO,hA];exact zR _ (zN _ (zp _ (zN _ zm)))
theorem qgN{y3:TW}{x':GT}{a':AT}{ah:AH}(hap:y.h.ap=ptr ah.b)(hap3:y.h.ap≠ .pointer none→y3.x.at'≠none→y3.h.ap=y.h.ap)(hx3:y3.x=x')(ha':x'.at'=some a')(hyo3:y3.ok W0 c n t)(hy3:L[t]? =some y3):∃ah3:AH,qy ah.b (atP c t ah3 a' a'.ph.no) (TsO c n 0 L):=by
 subst hx3;have hpp:=hap3 (by rw[hap];exact fun e=>by cases e) (by rw[ha'];exact fun e=>by cases e);have h3a:=hyo3.at';unfold AtO at h3a;rw[ha'] at h3a;obtain⟨ah3,E3,h3p, -, -,h3A⟩:=h3a;have h3e:ah3.b=ah.b:=by rw[hpp,hap] at h3p;simpa using h3p.symm
 exact⟨ah3,⟨by rw[←h3e];exact(q7S hy3 h3A).h⟩⟩
theorem qg9{xb:Nat}{cl:List CH}{ca:Option Addr}{cc:Nat}{cD:Own}(hF:qC W0)(hk:MK W0 c n ps M r)(ht:t<ps.length)(hn:ps.length≤16)(hg:StG c ps n r t)(hB:qu CH.enc 101 3 ca cc cl cD)(hcl:cl.length≤5000)(Q:Own):
  qt Tryz.prog W0 30 [ptr xb,c.v, .int .i64 t] ((xb,xP M.b ca cl.length cc)::(cD++M.O c n r.m r.S Q)) fun v own'=>
   ∃s:MQ×Option Addr×Nat×Own,(v= .tuple #[]∧s.1.b=M.b∧MK W0 c n ps s.1 (q0R c ps n r t)∧qu CH.enc 101 3 s.2.1 s.2.2.1 (cl++(chR c ps n r t).map q9G) s.2.2.2)∧
    Ent W0 own' ((xb,xP M.b s.2.1 (cl++(chR c ps n r t).map q9G).length s.2.2.1)::(s.2.2.2++s.1.O c n (q0R c ps n r t).m (q0R c ps n r t).S Q)):=by
 refine sH [3,5,7,9,11,14,16,17,20,0,3,5,7,9,11,13,16,18,19,21,24,0] ?_;obtain⟨y,hy,hx,hp⟩:=hk.at ht;have hML:=hk.len;have hyo:=hk.ok.hL t y hy;have hm1:qy y.h.b (thP c t n y.p y.h y.x) (TsO c n 0 M.L):=⟨q0x hy⟩
 have hth:=fun(own':Own) (m1:qy M.b (maP M r.S) own') (m2:qv own' M.tD)=>q5L (W0:=W0) (own:=own') (S:=r.S) hk.ok.ht hy Y6
 have hat:=fun(o:Option Addr) (ho:y.h.ap= .pointer o) (own':Own) (m1:qy y.h.b (thP c t n y.p y.h y.x) own')=>q4U (W0:=W0) (own:=own') (c:=c) (t:=t) (n:=n) (p:=y.p) (h:=y.h) (x:=y.x) (b:=y.h.b) ho
 have hpk:=fun Q=>qa5 (W0:=W0) (n:=n) hF hk ht hn hg Q
 have hgo:goM r t= !y.x.th.dn:=by unfold goM;rw[hx]
 have hch:chR c ps n r t=if y.x.th.dn then [] else chN y.x (qN c y.p n t r.m y.x).2.1 (qN c y.p n t r.m y.x).2.2.1:=by unfold chR;simp only[hx,hp]
 have hpm:q0R c ps n r t=if y.x.th.dn then r else⟨(qN c y.p n t r.m y.x).1,r.xs.set t (qN c y.p n t r.m y.x).2.1,r.S++ [(qN c y.p n t r.m y.x).2.2.1],r.E++(qN c y.p n t r.m y.x).2.2.2.map (qmc r.S.length)⟩:=by unfold q0R;simp only[hx,hp]
 --what was decided before
 have hwas:y.h.ap= .pointer none∧y.x.dec=false∨∃(ah:AH) (a:AT),y.h.ap=ptr ah.b∧y.x.at'=some a∧y.x.dec=a.dn∧qy ah.b (atP c t ah a a.ph.no) (TsO c n 0 M.L):=by
  have:=hyo.at';unfold AtO at this;unfold GT.dec;cases e:y.x.at' with
  |none=>rw[e] at this;exact .inl ⟨this.1,rfl⟩
  |some a=>
   rw[e] at this;obtain⟨ah,E,h1,_,_,h2⟩:=this;exact .inr ⟨ah,a,h1,rfl,rfl,q7S hy h2⟩
 rw[hgo] at hpk;cases hd:y.x.th.dn with
 |true=>
  rw[hd] at hpk hch hpm;rw[if_pos rfl] at hch hpm;rw[hch,hpm];rw[hpm] at hpk;rw[Zi,zC]
  rcases hwas with ⟨hap, -⟩|⟨ah,a,hap, -, -,hma⟩
  ·have hat:=hat _ hap
   repeat'((try(conv=>whnf));first|(refine fI ?_)|(refine fE ?_)|((apply qe);first|((refine qd (hth _ Y9 Y9) ?_))|((refine qd (hat _ Y9) ?_))|((refine qo (b:=M.b) (D:=M.mh.O r.m++(M.tD++(M.sD++(M.eD++(M.gD++(TsO c n 0 M.L++ [])))))) hpk (fun Q=>sbE) (fun M3 v hv=> ?_);(obtain⟨rfl,h3b,h3k, -⟩:=hv))))|(refine fO ?_)|(refine fA ?_)|(refine qf (fun bk hbk=> ?_)))
   all_goals exact⟨(M3,ca,cc,cD),⟨rfl,h3b,h3k,hB⟩,sbE⟩
  ·have hat:=hat _ hap;have hdc:=fun(own':Own) (m1:qy ah.b (atP c t ah a a.ph.no) own')=>q0F (W0:=W0) (own:=own') (b:=ah.b) (d:=a.dn) (qk m1 rfl)
   repeat'((try(conv=>whnf));first|(refine fH ?_)|(refine fE ?_)|((apply qe);first|((refine qd (hth _ Y9 Y9) ?_))|((refine qd (hat _ Y9) ?_))|((refine qd (hdc _ Y9) ?_))|((refine qo (b:=M.b) (D:=M.mh.O r.m++(M.tD++(M.sD++(M.eD++(M.gD++(TsO c n 0 M.L++ [])))))) hpk (fun Q=>sbE) (fun M3 v hv=> ?_);(obtain⟨rfl,h3b,h3k, -⟩:=hv))))|(refine fO ?_)|(refine fA ?_)|(refine qf (fun bk hbk=> ?_)))
   all_goals exact⟨(M3,ca,cc,cD),⟨rfl,h3b,h3k,hB⟩,sbE⟩
 |false=>
  rw[hd] at hpk hch hpm;rw[if_neg Y7] at hch hpm;rw[hpm] at hpk ⊢;rw[hch];have h16:=qgd (c:=c) (p:=y.p) (n:=n) (t:=t) (m:=r.m) (x:=y.x);have hst:=qjv (c:=c) (p:=y.p) (n:=n) (t:=t) (m:=r.m) (x:=y.x);have hS:=hg.S;clear hch hpm hgo hg;generalize qN c y.p n t r.m y.x=z at*;obtain⟨m',x',⟨st,sph,sat,sac⟩,evs⟩:=z;dsimp only at h16 hst hpk ⊢;subst hst;have hl0:=fun(M3:MQ) (hs:qu StM.enc 113 9 M3.sa M3.sc (r.S++ [⟨t,sph,sat,sac⟩]) M3.sD) (own':Own) (m1:qy M3.b (maP M3 (r.S++ [⟨t,sph,sat,sac⟩])) own') (m2:qv own' M3.sD)=>qfB (W0:=W0) (own:=own') hs hS
  have hr0:=fun(y3:TW) (h1:AtO W0 c t y3.h x' y3.A) (h2:FeO y3.h.lb t n x'.fn y3.F) (own':Own) (m1:qy y.h.b (thP c t n y3.p y3.h x') own')=>qg0 (W0:=W0) (own:=own') (n:=n) (p:=y3.p) (h:=y3.h) (x:=x') (b:=y.h.b) h1 h2
  have hs0:=fun(y3:TW) (own':Own) (m1:qy y.h.b (thP c t n y3.p y3.h x') own')=>qaY (W0:=W0) (own:=own') (c:=c) (t:=t) (n:=n) (p:=y3.p) (h:=y3.h) (x:=x') (b:=y.h.b)
  unfold chN;dsimp only
  by_cases hp16:sph=16
  ·rw[if_pos hp16];obtain⟨⟨a0,ha0⟩,⟨a',ha'⟩⟩:=h16 hp16;have hdec:x'.dec=a'.dn:=by unfold GT.dec;rw[ha']
   rw[hdec]
   rcases hwas with ⟨hap,hw⟩|⟨ah,a,hap,haa, -,hma⟩
   ·exfalso;have:=hyo.at';unfold AtO at this;rw[ha0] at this;obtain⟨ah,E,h1,_⟩:=this;rw[hap] at h1;cases h1
   have hat:=hat _ hap;have hdc:=fun(own':Own) (m1:qy ah.b (atP c t ah a a.ph.no) own')=>q0F (W0:=W0) (own:=own') (b:=ah.b) (d:=a.dn) (qk m1 rfl)
   have hd3:=fun(ah3:AH) (own':Own) (m1:qy ah.b (atP c t ah3 a' a'.ph.no) own')=>q0F (W0:=W0) (own:=own') (b:=ah.b) (d:=a'.dn) (qk m1 rfl)
   have ha3:=fun(ah3:AH) (own':Own) (m1:qy ah.b (atP c t ah3 a' a'.ph.no) own')=>qaI (W0:=W0) (own:=own') (b:=ah.b) (qk m1 rfl)
   cases hdn:a'.dn with
   |false=>
    rw[hdn] at hd3;rw[if_neg Y7,Zi,zC]
    repeat'((try(conv=>whnf));first|(refine fH ?_)|(refine fE ?_)|(refine fD ?_)|(refine fF ?_)|((apply qe);first|((refine qd (hth _ Y9 Y9) ?_))|((refine qd (hat _ Y9) ?_))|((refine qd (hdc _ Y9) ?_))|((refine qd (hls _ Y9 Y9) ?_))|((refine qd (hdc3 _ Y9) ?_))|((refine qo (b:=M.b) (D:=M.mh.O r.m++(M.tD++(M.sD++(M.eD++(M.gD++(TsO c n 0 M.L++ [])))))) hpk (fun Q=>sbE) (fun M3 v hv=> ?_);(obtain⟨rfl,h3b,h3k,hkp⟩:=hv;obtain⟨M4,rfl⟩:=MQ.b_eq h3b;obtain⟨y3,hy3,hb3,hap3⟩:=hkp y hy;have hx3:=h3k.x_at hy3;have hyo3:=h3k.ok.hL t y3 hy3;have hm3:qy y.h.b (thP c t n y3.p y3.h x') (TsO c n 0 M4.L):=⟨by rw[←hb3,←hx3];exact q0x hy3⟩;have hls:=hl0 {M4 with b:=M.b} h3k.ok.hs;have hrs:=hr0 y3 (hx3 ▸ hyo3.at') (hx3 ▸ hyo3.fe);have hsT:=hs0 y3;obtain⟨ah3,hm4⟩:=qgN hap hap3 hx3 ha' hyo3 hy3;have hdc3:=hd3 ah3;have hal:=ha3 ah3))))|(refine fO ?_)|(refine fA ?_)|(refine fM ?_)|(refine qf (fun bk hbk=> ?_)))
    all_goals exact⟨({M4 with b:=M.b},ca,cc,cD),⟨rfl,rfl,h3k,hB⟩,sbE⟩
   |true=>
    rw[hdn] at hd3;rw[if_pos rfl]
    repeat'((try(conv=>whnf));first|(refine fH ?_)|(refine fD ?_)|(refine fF ?_)|(refine q1P 1 ?_)|(refine qf (fun bk hbk=> ?_))|(apply q0p (enc:=CH.enc) (T:=101) (⟨t,0,none,[],0⟩:CH) hB;(exact rfl);(exact rfl);(omega);(exact rfl);(exact rfl);(omega);intro a5 c5 D5 hb5)|((apply qe);first|((refine qd (hth _ Y9 Y9) ?_))|((refine qd (hat _ Y9) ?_))|((refine qd (hdc _ Y9) ?_))|((refine qd (hls _ Y9 Y9) ?_))|((refine qd (hdc3 _ Y9) ?_))|((refine qi (hal _ Y9) (fun y v hv=> ?_);(obtain⟨a9,c9⟩:=y;subst hv)))|((refine qo (b:=M.b) (D:=M.mh.O r.m++(M.tD++(M.sD++(M.eD++(M.gD++(TsO c n 0 M.L++ [])))))) hpk (fun Q=>sbE) (fun M3 v hv=> ?_);(obtain⟨rfl,h3b,h3k,hkp⟩:=hv;obtain⟨M4,rfl⟩:=MQ.b_eq h3b;obtain⟨y3,hy3,hb3,hap3⟩:=hkp y hy;have hx3:=h3k.x_at hy3;have hyo3:=h3k.ok.hL t y3 hy3;have hm3:qy y.h.b (thP c t n y3.p y3.h x') (TsO c n 0 M4.L):=⟨by rw[←hb3,←hx3];exact q0x hy3⟩;have hls:=hl0 {M4 with b:=M.b} h3k.ok.hs;have hrs:=hr0 y3 (hx3 ▸ hyo3.at') (hx3 ▸ hyo3.fe);have hsT:=hs0 y3;obtain⟨ah3,hm4⟩:=qgN hap hap3 hx3 ha' hyo3 hy3;have hdc3:=hd3 ah3;have hal:=ha3 ah3))))|(refine fO ?_)|(refine fA ?_)|(refine fL ?_)|(refine fN ?_)|(refine fM ?_))
    all_goals exact⟨({M4 with b:=M.b},a5,c5,D5),⟨rfl,rfl,h3k,hb5⟩,by dsimp only;rw[z8];exact sbE⟩
  ·rw[if_neg hp16];have hdec:y.h.ap= .pointer none∧y.x.dec=false∨∃(ah:AH) (a:AT),y.h.ap=ptr ah.b∧y.x.dec=a.dn∧qy ah.b (atP c t ah a a.ph.no) (TsO c n 0 M.L):=hwas.imp id fun⟨ah,a,h1,_,h2,h3⟩=>⟨ah,a,h1,h2,h3⟩
   have hdC:=fun(ah:AH) (a:AT) (own':Own) (m1:qy ah.b (atP c t ah a a.ph.no) own')=>q0F (W0:=W0) (own:=own') (b:=ah.b) (d:=a.dn) (qk m1 rfl)
   by_cases hp24:sph=24
   ·rw[if_pos hp24];cases hdc0:y.x.dec with
    |true=>
     rw[if_pos (.inl rfl),Zi,zC];rw[hdc0] at hdec
     rcases hdec with ⟨_,h⟩|⟨ah,a,hap,hdn,hma⟩
     ·cases h
     have hat:=hat _ hap;have hdc:=hdC ah a;rw[←hdn] at hdc
     repeat'((try(conv=>whnf));first|(refine fH ?_)|(refine fI ?_)|(refine fE ?_)|(refine fD ?_)|(refine fF ?_)|(refine fG ?_)|((apply qe);first|((refine qd (hth _ Y9 Y9) ?_))|((refine qd (hat _ Y9) ?_))|((refine qd (hdc _ Y9) ?_))|((refine qd (hls _ Y9 Y9) ?_))|((refine qo (b:=M.b) (D:=M.mh.O r.m++(M.tD++(M.sD++(M.eD++(M.gD++(TsO c n 0 M.L++ [])))))) hpk (fun Q=>sbE) (fun M3 v hv=> ?_);(obtain⟨rfl,h3b,h3k,hkp⟩:=hv;obtain⟨M4,rfl⟩:=MQ.b_eq h3b;obtain⟨y3,hy3,hb3,hap3⟩:=hkp y hy;have hx3:=h3k.x_at hy3;have hyo3:=h3k.ok.hL t y3 hy3;have hm3:qy y.h.b (thP c t n y3.p y3.h x') (TsO c n 0 M4.L):=⟨by rw[←hb3,←hx3];exact q0x hy3⟩;have hls:=hl0 {M4 with b:=M.b} h3k.ok.hs;have hrs:=hr0 y3 (hx3 ▸ hyo3.at') (hx3 ▸ hyo3.fe);have hsT:=hs0 y3))))|(refine fO ?_)|(refine fA ?_)|(refine fM ?_)|(refine qf (fun bk hbk=> ?_)))
     all_goals exact⟨({M4 with b:=M.b},ca,cc,cD),⟨rfl,rfl,h3k,hB⟩,sbE⟩
    |false=>
     rw[hdc0] at hdec;cases hrs0:x'.rest with
     |false=>
      rw[hrs0] at hr0;rw[if_pos (.inr rfl),Zi,zC]
      rcases hdec with ⟨hap,_⟩|⟨ah,a,hap,hdn,hma⟩
      ·have hat:=hat _ hap
       repeat'((try(conv=>whnf));first|(refine fH ?_)|(refine fI ?_)|(refine fE ?_)|(refine fD ?_)|(refine fF ?_)|(refine fG ?_)|((apply qe);first|((refine qd (hth _ Y9 Y9) ?_))|((refine qd (hat _ Y9) ?_))|((refine qd (hls _ Y9 Y9) ?_))|((refine qd (hrs _ Y9) ?_))|((refine qo (b:=M.b) (D:=M.mh.O r.m++(M.tD++(M.sD++(M.eD++(M.gD++(TsO c n 0 M.L++ [])))))) hpk (fun Q=>sbE) (fun M3 v hv=> ?_);(obtain⟨rfl,h3b,h3k,hkp⟩:=hv;obtain⟨M4,rfl⟩:=MQ.b_eq h3b;obtain⟨y3,hy3,hb3,hap3⟩:=hkp y hy;have hx3:=h3k.x_at hy3;have hyo3:=h3k.ok.hL t y3 hy3;have hm3:qy y.h.b (thP c t n y3.p y3.h x') (TsO c n 0 M4.L):=⟨by rw[←hb3,←hx3];exact q0x hy3⟩;have hls:=hl0 {M4 with b:=M.b} h3k.ok.hs;have hrs:=hr0 y3 (hx3 ▸ hyo3.at') (hx3 ▸ hyo3.fe);have hsT:=hs0 y3))))|(refine fO ?_)|(refine fA ?_)|(refine fM ?_)|(refine qf (fun bk hbk=> ?_)))
       all_goals exact⟨({M4 with b:=M.b},ca,cc,cD),⟨rfl,rfl,h3k,hB⟩,sbE⟩
      ·have hat:=hat _ hap;have hdc:=hdC ah a;rw[←hdn] at hdc
       repeat'((try(conv=>whnf));first|(refine fH ?_)|(refine fI ?_)|(refine fE ?_)|(refine fD ?_)|(refine fF ?_)|(refine fG ?_)|((apply qe);first|((refine qd (hth _ Y9 Y9) ?_))|((refine qd (hat _ Y9) ?_))|((refine qd (hdc _ Y9) ?_))|((refine qd (hls _ Y9 Y9) ?_))|((refine qd (hrs _ Y9) ?_))|((refine qo (b:=M.b) (D:=M.mh.O r.m++(M.tD++(M.sD++(M.eD++(M.gD++(TsO c n 0 M.L++ [])))))) hpk (fun Q=>sbE) (fun M3 v hv=> ?_);(obtain⟨rfl,h3b,h3k,hkp⟩:=hv;obtain⟨M4,rfl⟩:=MQ.b_eq h3b;obtain⟨y3,hy3,hb3,hap3⟩:=hkp y hy;have hx3:=h3k.x_at hy3;have hyo3:=h3k.ok.hL t y3 hy3;have hm3:qy y.h.b (thP c t n y3.p y3.h x') (TsO c n 0 M4.L):=⟨by rw[←hb3,←hx3];exact q0x hy3⟩;have hls:=hl0 {M4 with b:=M.b} h3k.ok.hs;have hrs:=hr0 y3 (hx3 ▸ hyo3.at') (hx3 ▸ hyo3.fe);have hsT:=hs0 y3))))|(refine fO ?_)|(refine fA ?_)|(refine fM ?_)|(refine qf (fun bk hbk=> ?_)))
       all_goals exact⟨({M4 with b:=M.b},ca,cc,cD),⟨rfl,rfl,h3k,hB⟩,sbE⟩
     |true=>
      rw[hrs0] at hr0;rw[if_neg Y8]
      rcases hdec with ⟨hap,_⟩|⟨ah,a,hap,hdn,hma⟩
      ·have hat:=hat _ hap
       repeat'((try(conv=>whnf));first|(refine fH ?_)|(refine fI ?_)|(refine fD ?_)|(refine fF ?_)|(refine fG ?_)|(refine qf (fun bk hbk=> ?_))|(apply q0p (enc:=CH.enc) (T:=101) (⟨t,x'.th.oc,none,[],0⟩:CH) hB;(exact rfl);(exact rfl);(omega);(exact rfl);(exact rfl);(omega);intro a5 c5 D5 hb5)|((apply qe);first|((refine qd (hth _ Y9 Y9) ?_))|((refine qd (hat _ Y9) ?_))|((refine qd (hls _ Y9 Y9) ?_))|((refine qd (hrs _ Y9) ?_))|((refine qd (hsT _ Y9) ?_))|((refine qo (b:=M.b) (D:=M.mh.O r.m++(M.tD++(M.sD++(M.eD++(M.gD++(TsO c n 0 M.L++ [])))))) hpk (fun Q=>sbE) (fun M3 v hv=> ?_);(obtain⟨rfl,h3b,h3k,hkp⟩:=hv;obtain⟨M4,rfl⟩:=MQ.b_eq h3b;obtain⟨y3,hy3,hb3,hap3⟩:=hkp y hy;have hx3:=h3k.x_at hy3;have hyo3:=h3k.ok.hL t y3 hy3;have hm3:qy y.h.b (thP c t n y3.p y3.h x') (TsO c n 0 M4.L):=⟨by rw[←hb3,←hx3];exact q0x hy3⟩;have hls:=hl0 {M4 with b:=M.b} h3k.ok.hs;have hrs:=hr0 y3 (hx3 ▸ hyo3.at') (hx3 ▸ hyo3.fe);have hsT:=hs0 y3))))|(refine fO ?_)|(refine fA ?_)|(refine fL ?_)|(refine fN ?_)|(refine fM ?_))
       all_goals exact⟨({M4 with b:=M.b},a5,c5,D5),⟨rfl,rfl,h3k,hb5⟩,by dsimp only;rw[z8];exact sbE⟩
      ·have hat:=hat _ hap;have hdc:=hdC ah a;rw[←hdn] at hdc
       repeat'((try(conv=>whnf));first|(refine fH ?_)|(refine fI ?_)|(refine fD ?_)|(refine fF ?_)|(refine fG ?_)|(refine qf (fun bk hbk=> ?_))|(apply q0p (enc:=CH.enc) (T:=101) (⟨t,x'.th.oc,none,[],0⟩:CH) hB;(exact rfl);(exact rfl);(omega);(exact rfl);(exact rfl);(omega);intro a5 c5 D5 hb5)|((apply qe);first|((refine qd (hth _ Y9 Y9) ?_))|((refine qd (hat _ Y9) ?_))|((refine qd (hdc _ Y9) ?_))|((refine qd (hls _ Y9 Y9) ?_))|((refine qd (hrs _ Y9) ?_))|((refine qd (hsT _ Y9) ?_))|((refine qo (b:=M.b) (D:=M.mh.O r.m++(M.tD++(M.sD++(M.eD++(M.gD++(TsO c n 0 M.L++ [])))))) hpk (fun Q=>sbE) (fun M3 v hv=> ?_);(obtain⟨rfl,h3b,h3k,hkp⟩:=hv;obtain⟨M4,rfl⟩:=MQ.b_eq h3b;obtain⟨y3,hy3,hb3,hap3⟩:=hkp y hy;have hx3:=h3k.x_at hy3;have hyo3:=h3k.ok.hL t y3 hy3;have hm3:qy y.h.b (thP c t n y3.p y3.h x') (TsO c n 0 M4.L):=⟨by rw[←hb3,←hx3];exact q0x hy3⟩;have hls:=hl0 {M4 with b:=M.b} h3k.ok.hs;have hrs:=hr0 y3 (hx3 ▸ hyo3.at') (hx3 ▸ hyo3.fe);have hsT:=hs0 y3))))|(refine fO ?_)|(refine fA ?_)|(refine fL ?_)|(refine fN ?_)|(refine fM ?_))
       all_goals exact⟨({M4 with b:=M.b},a5,c5,D5),⟨rfl,rfl,h3k,hb5⟩,by dsimp only;rw[z8];exact sbE⟩
   ·rw[if_neg hp24]
    by_cases hat0:sat=0
    ·have hat1:¬sat≠0:=fun h=>h hat0
     cases hrs0:x'.rest with
     |false=>
      rw[hrs0] at hr0;rw[if_pos (.inr rfl),Zi,zC]
      rcases hdec with ⟨hap,_⟩|⟨ah,a,hap,hdn,hma⟩
      ·have hat:=hat _ hap
       repeat'((try(conv=>whnf));first|(refine fH ?_)|(refine fI ?_)|(refine fE ?_)|(refine fD ?_)|(refine fG ?_)|(refine fK ?_)|((apply qe);first|((refine qd (hth _ Y9 Y9) ?_))|((refine qd (hat _ Y9) ?_))|((refine qd (hls _ Y9 Y9) ?_))|((refine qd (hrs _ Y9) ?_))|((refine qo (b:=M.b) (D:=M.mh.O r.m++(M.tD++(M.sD++(M.eD++(M.gD++(TsO c n 0 M.L++ [])))))) hpk (fun Q=>sbE) (fun M3 v hv=> ?_);(obtain⟨rfl,h3b,h3k,hkp⟩:=hv;obtain⟨M4,rfl⟩:=MQ.b_eq h3b;obtain⟨y3,hy3,hb3,hap3⟩:=hkp y hy;have hx3:=h3k.x_at hy3;have hyo3:=h3k.ok.hL t y3 hy3;have hm3:qy y.h.b (thP c t n y3.p y3.h x') (TsO c n 0 M4.L):=⟨by rw[←hb3,←hx3];exact q0x hy3⟩;have hls:=hl0 {M4 with b:=M.b} h3k.ok.hs;have hrs:=hr0 y3 (hx3 ▸ hyo3.at') (hx3 ▸ hyo3.fe);have hsT:=hs0 y3))))|(refine fO ?_)|(refine fA ?_)|(refine fM ?_)|(refine qf (fun bk hbk=> ?_)))
       all_goals exact⟨({M4 with b:=M.b},ca,cc,cD),⟨rfl,rfl,h3k,hB⟩,sbE⟩
      ·have hat:=hat _ hap;have hdc:=hdC ah a
       repeat'((try(conv=>whnf));first|(refine fH ?_)|(refine fE ?_)|(refine fD ?_)|(refine fG ?_)|(refine fK ?_)|((apply qe);first|((refine qd (hth _ Y9 Y9) ?_))|((refine qd (hat _ Y9) ?_))|((refine qd (hdc _ Y9) ?_))|((refine qd (hls _ Y9 Y9) ?_))|((refine qd (hrs _ Y9) ?_))|((refine qo (b:=M.b) (D:=M.mh.O r.m++(M.tD++(M.sD++(M.eD++(M.gD++(TsO c n 0 M.L++ [])))))) hpk (fun Q=>sbE) (fun M3 v hv=> ?_);(obtain⟨rfl,h3b,h3k,hkp⟩:=hv;obtain⟨M4,rfl⟩:=MQ.b_eq h3b;obtain⟨y3,hy3,hb3,hap3⟩:=hkp y hy;have hx3:=h3k.x_at hy3;have hyo3:=h3k.ok.hL t y3 hy3;have hm3:qy y.h.b (thP c t n y3.p y3.h x') (TsO c n 0 M4.L):=⟨by rw[←hb3,←hx3];exact q0x hy3⟩;have hls:=hl0 {M4 with b:=M.b} h3k.ok.hs;have hrs:=hr0 y3 (hx3 ▸ hyo3.at') (hx3 ▸ hyo3.fe);have hsT:=hs0 y3))))|(refine fO ?_)|(refine fA ?_)|(refine fM ?_)|(refine qf (fun bk hbk=> ?_)))
       all_goals exact⟨({M4 with b:=M.b},ca,cc,cD),⟨rfl,rfl,h3k,hB⟩,sbE⟩
     |true=>
      rw[hrs0] at hr0;rw[if_neg (by simp[hat0])]
      rcases hdec with ⟨hap,_⟩|⟨ah,a,hap,hdn,hma⟩
      ·have hat:=hat _ hap
       repeat'((try(conv=>whnf));first|(refine fH ?_)|(refine fI ?_)|(refine fD ?_)|(refine fG ?_)|(refine fK ?_)|(refine qf (fun bk hbk=> ?_))|(apply q0p (enc:=CH.enc) (T:=101) (⟨t,0,none,[],0⟩:CH) hB;(exact rfl);(exact rfl);(omega);(exact rfl);(exact rfl);(omega);intro a5 c5 D5 hb5)|((apply qe);first|((refine qd (hth _ Y9 Y9) ?_))|((refine qd (hat _ Y9) ?_))|((refine qd (hls _ Y9 Y9) ?_))|((refine qd (hrs _ Y9) ?_))|((refine qo (b:=M.b) (D:=M.mh.O r.m++(M.tD++(M.sD++(M.eD++(M.gD++(TsO c n 0 M.L++ [])))))) hpk (fun Q=>sbE) (fun M3 v hv=> ?_);(obtain⟨rfl,h3b,h3k,hkp⟩:=hv;obtain⟨M4,rfl⟩:=MQ.b_eq h3b;obtain⟨y3,hy3,hb3,hap3⟩:=hkp y hy;have hx3:=h3k.x_at hy3;have hyo3:=h3k.ok.hL t y3 hy3;have hm3:qy y.h.b (thP c t n y3.p y3.h x') (TsO c n 0 M4.L):=⟨by rw[←hb3,←hx3];exact q0x hy3⟩;have hls:=hl0 {M4 with b:=M.b} h3k.ok.hs;have hrs:=hr0 y3 (hx3 ▸ hyo3.at') (hx3 ▸ hyo3.fe);have hsT:=hs0 y3))))|(refine fO ?_)|(refine fA ?_)|(refine fL ?_)|(refine fN ?_)|(refine fM ?_))
       all_goals exact⟨({M4 with b:=M.b},a5,c5,D5),⟨rfl,rfl,h3k,hb5⟩,by dsimp only;rw[z8];exact sbE⟩
      ·have hat:=hat _ hap;have hdc:=hdC ah a
       repeat'((try(conv=>whnf));first|(refine fH ?_)|(refine fD ?_)|(refine fG ?_)|(refine fK ?_)|(refine qf (fun bk hbk=> ?_))|(apply q0p (enc:=CH.enc) (T:=101) (⟨t,0,none,[],0⟩:CH) hB;(exact rfl);(exact rfl);(omega);(exact rfl);(exact rfl);(omega);intro a5 c5 D5 hb5)|((apply qe);first|((refine qd (hth _ Y9 Y9) ?_))|((refine qd (hat _ Y9) ?_))|((refine qd (hdc _ Y9) ?_))|((refine qd (hls _ Y9 Y9) ?_))|((refine qd (hrs _ Y9) ?_))|((refine qo (b:=M.b) (D:=M.mh.O r.m++(M.tD++(M.sD++(M.eD++(M.gD++(TsO c n 0 M.L++ [])))))) hpk (fun Q=>sbE) (fun M3 v hv=> ?_);(obtain⟨rfl,h3b,h3k,hkp⟩:=hv;obtain⟨M4,rfl⟩:=MQ.b_eq h3b;obtain⟨y3,hy3,hb3,hap3⟩:=hkp y hy;have hx3:=h3k.x_at hy3;have hyo3:=h3k.ok.hL t y3 hy3;have hm3:qy y.h.b (thP c t n y3.p y3.h x') (TsO c n 0 M4.L):=⟨by rw[←hb3,←hx3];exact q0x hy3⟩;have hls:=hl0 {M4 with b:=M.b} h3k.ok.hs;have hrs:=hr0 y3 (hx3 ▸ hyo3.at') (hx3 ▸ hyo3.fe);have hsT:=hs0 y3))))|(refine fO ?_)|(refine fA ?_)|(refine fL ?_)|(refine fN ?_)|(refine fM ?_))
       all_goals exact⟨({M4 with b:=M.b},a5,c5,D5),⟨rfl,rfl,h3k,hb5⟩,by dsimp only;rw[z8];exact sbE⟩
    ·have hat1:sat≠0:=hat0;rw[if_pos (.inl hat0),Zi,zC]
     rcases hdec with ⟨hap,_⟩|⟨ah,a,hap,hdn,hma⟩
     ·have hat:=hat _ hap
      repeat'((try(conv=>whnf));first|(refine fI ?_)|(refine fE ?_)|(refine fD ?_)|(refine fG ?_)|(refine fJ ?_)|((apply qe);first|((refine qd (hth _ Y9 Y9) ?_))|((refine qd (hat _ Y9) ?_))|((refine qd (hls _ Y9 Y9) ?_))|((refine qo (b:=M.b) (D:=M.mh.O r.m++(M.tD++(M.sD++(M.eD++(M.gD++(TsO c n 0 M.L++ [])))))) hpk (fun Q=>sbE) (fun M3 v hv=> ?_);(obtain⟨rfl,h3b,h3k,hkp⟩:=hv;obtain⟨M4,rfl⟩:=MQ.b_eq h3b;obtain⟨y3,hy3,hb3,hap3⟩:=hkp y hy;have hx3:=h3k.x_at hy3;have hyo3:=h3k.ok.hL t y3 hy3;have hm3:qy y.h.b (thP c t n y3.p y3.h x') (TsO c n 0 M4.L):=⟨by rw[←hb3,←hx3];exact q0x hy3⟩;have hls:=hl0 {M4 with b:=M.b} h3k.ok.hs;have hrs:=hr0 y3 (hx3 ▸ hyo3.at') (hx3 ▸ hyo3.fe);have hsT:=hs0 y3))))|(refine fO ?_)|(refine fA ?_)|(refine fM ?_)|(refine qf (fun bk hbk=> ?_)))
      all_goals exact⟨({M4 with b:=M.b},ca,cc,cD),⟨rfl,rfl,h3k,hB⟩,sbE⟩
     ·have hat:=hat _ hap;have hdc:=hdC ah a
      repeat'((try(conv=>whnf));first|(refine fH ?_)|(refine fI ?_)|(refine fE ?_)|(refine fD ?_)|(refine fG ?_)|(refine fJ ?_)|((apply qe);first|((refine qd (hth _ Y9 Y9) ?_))|((refine qd (hat _ Y9) ?_))|((refine qd (hdc _ Y9) ?_))|((refine qd (hls _ Y9 Y9) ?_))|((refine qo (b:=M.b) (D:=M.mh.O r.m++(M.tD++(M.sD++(M.eD++(M.gD++(TsO c n 0 M.L++ [])))))) hpk (fun Q=>sbE) (fun M3 v hv=> ?_);(obtain⟨rfl,h3b,h3k,hkp⟩:=hv;obtain⟨M4,rfl⟩:=MQ.b_eq h3b;obtain⟨y3,hy3,hb3,hap3⟩:=hkp y hy;have hx3:=h3k.x_at hy3;have hyo3:=h3k.ok.hL t y3 hy3;have hm3:qy y.h.b (thP c t n y3.p y3.h x') (TsO c n 0 M4.L):=⟨by rw[←hb3,←hx3];exact q0x hy3⟩;have hls:=hl0 {M4 with b:=M.b} h3k.ok.hs;have hrs:=hr0 y3 (hx3 ▸ hyo3.at') (hx3 ▸ hyo3.fe);have hsT:=hs0 y3))))|(refine fO ?_)|(refine fA ?_)|(refine fM ?_)|(refine qf (fun bk hbk=> ?_)))
      all_goals exact⟨({M4 with b:=M.b},ca,cc,cD),⟨rfl,rfl,h3k,hB⟩,sbE⟩
end
open Go
instance qv.blk{own:Own}{b:Nat}{q:Obj→Prop} [m:qy b q own]:qv own [(b,q)]:=⟨fun _=>Ent.of_sub (List.singleton_sublist.2 m.h)⟩
section
variable{W0:World}{own:Own}{c:Cfg}{n t:Nat}{p:List Ins}{h:TH}{x:GT}{a:AT}{ah:AH}{b:Nat}{L:List TW}{y:TW}
def AT.stor(a:AT):Bool:=a.dn&&a.sto&&(match a.ph with
  | .wr _ _=>true
  | .rl _ _=>true
  | .sp=>true
  |_=>false)
theorem q8I(hck:0≤a.ck∧a.ck≤1099511627776) [m1:qy ah.b (atP c t ah a a.ph.no) own] [m2:qy ah.g.b (lgP c.writes ah.g.aa a.ad.length ah.g.ca ah.g.va a.vl.length ah.g.cv ah.g.ib ah.g.P) own]:
  qE Tryz.prog W0 41 [ptr ah.b] own (.bool a.stor):=by
 refine qg (sH [] ?_);have hv:=q2S (W0:=W0) (own:=own) (b:=ah.b) (d:=a.dn) (ck:=a.ck) (k:=a.code) (qk m1 rfl) (qk m1 rfl) hck (qk m1 rfl) (qk m1 rfl) (qk m2 rfl);have h31:Cl W0 own ah.b 31 (.int .i64 a.ph.no):=qk m1 rfl;have hst:=q8T (x:=a);unfold AT.stor
 by_cases hs:a.dn=true∧a.sto=true
 ·rw[if_pos (hst.1 hs)] at hv;rw[hs.1,hs.2];clear m1 m2 hst hs;generalize a.ph=z at h31 ⊢;cases z
  all_goals
   dsimp only[AP.no] at h31
   repeat'((try(conv=>whnf));first|(refine fH ?_)|(refine fI ?_)|(refine fJ ?_)|(refine q0d h31 ?_)|((apply qe);first|((refine qd (hv) ?_))))
  all_goals exact⟨rfl,(eC)⟩
 ·rw[if_neg (fun e=>hs (hst.2 e))] at hv;have e:(a.dn&&a.sto)=false:=by
   cases h1:a.dn with
   |false=>rfl
   |true=>cases h2:a.sto with
    |false=>rfl
    |true=>exact absurd ⟨h1,h2⟩ hs
  rw[e,yX]
  repeat'((try(conv=>whnf));first|(refine fI ?_)|((apply qe);first|((refine qd (hv) ?_))))
  all_goals exact⟨rfl,(eC)⟩
theorem qhl(hy:L[t]? =some y):qy y.h.b (thP c t n y.p y.h y.x) (TsO c n 0 L):=⟨q0x hy⟩
theorem qhi(hy:L[t]? =some y){E:Own}(hA:y.A=ah.O c t a a.ph.no a.ph.en E):qy ah.g.b (lgP c.writes ah.g.aa a.ad.length ah.g.ca ah.g.va a.vl.length ah.g.cv ah.g.ib ah.g.P) (TsO c n 0 L):=by
 refine⟨?_⟩;rw[q3N L 0 t y hy,zD,ThO,hA];refine zR _ (zN _ (zp _ (zN _ (zp _ ?_))));refine zp _ (zp _ (zR _ (zR _ (zR _ ?_))));exact zm
theorem qea{l:List GT}{f:GT→Bool}{i:Nat}{z:GT}(hz:l[i]? =some z):(l.take (i+1)).any f=((l.take i).any f||f z):=by
 rw[zZ,hz,List.any_append];simp
variable{ps:List (List Ins)}{M:MQ}{r:RM}
theorem qdL:x.stor=match x.at' with
  |some a=>a.stor
  |none=>false:=rfl
theorem qaV{xb:Nat}{ca:Option Addr}{k cc:Nat}(hk:MK W0 c n ps M r)(hn:ps.length≤16)(hck:∀(u:Nat) x a,r.xs[u]? =some x→x.at'=some a→0≤a.ck∧a.ck≤1099511627776)(Q:Own) [m1:qv Q [(xb,xP M.b ca k cc)]]:
  qt Tryz.prog W0 21 [ptr xb, .int .i64 ps.length] (M.O c n r.m r.S Q) fun v own'=>∃_:Unit,v= .bool (r.xs.any GT.stor)∧Ent W0 own' (M.O c n r.m r.S Q):=by
 refine qD (sH [] ?_);have hML:=hk.len;have hxl:r.xs.length=ps.length:=by rw[←hk.x,zk];exact hML
 have h0:Cl W0 Q xb 0 (ptr M.b):=(qk (own:= [(xb,xP M.b ca k cc)]) ⟨zm⟩ rfl).ent (m1.h W0);refine qX (σ:=Nat) (fun s=> [(9, .int .i64 s)]) (fun _=>M.O c n r.m r.S Q) (fun s=>s≤ps.length∧(r.xs.take s).any GT.stor=false) (fun s=>ps.length-s) 0 ⟨zq _,rfl⟩ (eF) sbE rfl ?_;rintro i junk ⟨hi,hany⟩
 by_cases hlt:i<ps.length
 ·have hlt':(i:Int)<ps.length:=Y6;obtain⟨y,hy,hx,hp⟩:=hk.at hlt;have hyo:=hk.ok.hL i y hy;have hm1:=qhl (c:=c) (n:=n) hy;have hth:=fun(own':Own) (m1:qy M.b (maP M r.S) own') (m2:qv own' M.tD)=>q5L (W0:=W0) (own:=own') (S:=r.S) hk.ok.ht hy Y6
  have hat:=fun(o:Option Addr) (ho:y.h.ap= .pointer o) (own':Own) (m1:qy y.h.b (thP c i n y.p y.h y.x) own')=>q4U (W0:=W0) (own:=own') (c:=c) (t:=i) (n:=n) (p:=y.p) (h:=y.h) (x:=y.x) (b:=y.h.b) ho
  have htk:=qea (f:=GT.stor) hx;rw[hany,yN] at htk;have hA:=hyo.at';unfold AtO at hA;cases ha:y.x.at' with
  |none=>
   rw[ha] at hA;have hat:=hat _ hA.1;have hs:y.x.stor=false:=by rw[qdL,ha]
   rw[hs] at htk
   repeat'((try(conv=>whnf));first|(refine fI ?_)|(refine fD ?_)|(refine fF ?_)|(refine q0d h0 ?_)|((apply qe);first|((refine qd (hth _ Y9 Y9) ?_))|((refine qd (hat _ Y9) ?_)))|(refine fB ?_)|(refine fO ?_))
   all_goals exact⟨i+1,⟨hlt,htk⟩,Y6,(eF),sbE⟩
  |some a=>
   rw[ha] at hA;obtain⟨ah,E,hap,hok,hP,hAA⟩:=hA;have hat:=hat _ hap;have hm2:=q7S (c:=c) (n:=n) hy hAA;have hm3:=qhi (c:=c) (n:=n) hy hAA;have hst:=fun(own':Own) (m1:qy ah.b (atP c i ah a a.ph.no) own') (m2:qy ah.g.b (lgP c.writes ah.g.aa a.ad.length ah.g.ca ah.g.va a.vl.length ah.g.cv ah.g.ib ah.g.P) own')=>q8I (W0:=W0) (own:=own') (c:=c) (t:=i) (ah:=ah) (hck i y.x a hx ha)
   have hs:y.x.stor=a.stor:=by rw[qdL,ha]
   rw[hs] at htk;cases hsv:a.stor with
   |false=>
    rw[hsv] at htk hst
    repeat'((try(conv=>whnf));first|(refine fH ?_)|(refine fD ?_)|(refine fF ?_)|(refine q0d h0 ?_)|((apply qe);first|((refine qd (hth _ Y9 Y9) ?_))|((refine qd (hat _ Y9) ?_))|((refine qd (hst _ Y9 Y9) ?_)))|(refine fB ?_)|(refine fO ?_))
    all_goals exact⟨i+1,⟨hlt,htk⟩,Y6,(eF),sbE⟩
   |true=>
    rw[hsv] at hst hs;have hall:r.xs.any GT.stor=true:=yL.2 ⟨y.x,zg hx,hs⟩;rw[hall]
    repeat'((try(conv=>whnf));first|(refine fH ?_)|(refine fE ?_)|(refine fF ?_)|(refine q0d h0 ?_)|((apply qe);first|((refine qd (hth _ Y9 Y9) ?_))|((refine qd (hat _ Y9) ?_))|((refine qd (hst _ Y9 Y9) ?_)))|(refine fO ?_))
    all_goals exact⟨rfl,sbE⟩
 ·obtain rfl:i=ps.length:=Y6;have hlt':¬(ps.length:Int)<ps.length:=Y6;rw[←hxl,Z4] at hany;rw[hany]
  repeat'((try(conv=>whnf));first|(refine fG ?_))
  all_goals exact⟨rfl,sbE⟩
theorem qjn{ia pa ka:Option Addr}{il ks:List Int}{ic pc kc O:Nat}{ps:List PH}{l:List Nat}(hF:qC W0)(hcs:csM c il.length ps ks=(0,0,0))(hc:qH c=0)(h0:c.c0=0∧c.c1=0∧c.c2=0∧c.c3=0)(hb:qA c=0)(hI:RdE q09 1 W0 own ia il)(hil:(il.length:Int)=c.words)(hi1:il≠ [])(hi2:il.length≤1000)(hO:c.orecs=(O:Int))(hO2:O≤1000)
  (hP:RdE PH.enc 1 W0 own pa ps) (hQ:∀h∈ps,RdE Ins.enc 5 W0 own h.a h.p) (hK:RdE qx 1 W0 own ka ks) (hn1:1≤ps.length) (hn:ps.length≤16) (hck:∀h∈ps,qw h.p=(0,0)) (hpl:∀h∈ps,h.p.length≤100000)
  (hkl:ks=l.map fun t=>((t:Nat):Int)) (hkb:l.length≤1000) (hkr:∀t∈l,t<ps.length) (hg:∀k t,l[k]? =some t→StG c (ps.map PH.p) ps.length (q10 c il O (ps.map PH.p) (l.take k)) t) (hch:∀k,((q55 c (ps.map PH.p) (ps.map PH.p).length ⟨ms0 il O (ps.map PH.p).length,(ps.map PH.p).map q2J,[],[]⟩ (l.take k)).length)≤k):
  qt Tryz.prog W0 18 [qaG c ia il.length ic pa ps.length pc ka ks.length kc] own fun v own'=>
   ∃y:Nat×MQ×Option Addr×Nat×Own,(v= .tuple #[ptr y.1, .int .i64 0, .int .i64 0, .int .i64 0]∧MK W0 c ps.length (ps.map PH.p) y.2.1 (q10 c il O (ps.map PH.p) l)∧qu CH.enc 101 3 y.2.2.1 y.2.2.2.1 ((q55 c (ps.map PH.p) (ps.map PH.p).length ⟨ms0 il O (ps.map PH.p).length,(ps.map PH.p).map q2J,[],[]⟩ l).map q9G) y.2.2.2.2)∧
    Ent W0 own' ((y.1,xP y.2.1.b y.2.2.1 ((q55 c (ps.map PH.p) (ps.map PH.p).length ⟨ms0 il O (ps.map PH.p).length,(ps.map PH.p).map q2J,[],[]⟩ l).map q9G).length y.2.2.2.1)::(y.2.2.2.2++y.2.1.O c ps.length (q10 c il O (ps.map PH.p) l).m (q10 c il O (ps.map PH.p) l).S own)):=by
 refine sH [] ?_;have hnw:=fun(own':Own) (m:qv own' own)=>qnt (W0:=W0) (own:=own') (c:=c) (ic:=ic) (pc:=pc) (kc:=kc) hF hcs hc h0 hb hI.up hil hi1 hi2 hO hO2 hP.up (fun h hh=>(hQ h hh).up) hK.up hn1 hn hck hpl
 have hrl:q10 c il O (ps.map PH.p) []=⟨ms0 il O ps.length,ps.map fun h=>q2J h.p,[],[]⟩:=by
  show(⟨ms0 il O (ps.map PH.p).length,(ps.map PH.p).map q2J,[],[]⟩:RM)=_;rw[zk,yE];rfl
 have hlen:(ps.map PH.p).length=ps.length:=zk ..;have hrs:∀k t,l[k]? =some t→q10 c il O (ps.map PH.p) (l.take (k+1))=q0R c (ps.map PH.p) ps.length (q10 c il O (ps.map PH.p) (l.take k)) t:=fun k t hk=>by
  rw[zZ,hk];show qfc _ _ _ _ _=_;rw[show(some t).toList= [t] from rfl,q4F];show q0R _ _ (ps.map PH.p).length _ _=_
  congr 1
 have hcsn:∀k t,l[k]? =some t→q55 c (ps.map PH.p) (ps.map PH.p).length ⟨ms0 il O (ps.map PH.p).length,(ps.map PH.p).map q2J,[],[]⟩ (l.take (k+1))=q55 c (ps.map PH.p) (ps.map PH.p).length ⟨ms0 il O (ps.map PH.p).length,(ps.map PH.p).map q2J,[],[]⟩ (l.take k)++chR c (ps.map PH.p) ps.length (q10 c il O (ps.map PH.p) (l.take k)) t:=fun k t hk=>by
  rw[zZ,hk,show(some t).toList= [t] from rfl,q6Z]
  congr 1
  show chR _ _ (ps.map PH.p).length _ _=_
  congr 1
 generalize hR:(fun k=>q10 c il O (ps.map PH.p) (l.take k))=R;have hR':∀k,q10 c il O (ps.map PH.p) (l.take k)=R k:=fun k=>congrFun hR k
 have hRl:q10 c il O (ps.map PH.p) l=R l.length:=by rw[←hR',Z4]
 generalize hC:(fun k=>q55 c (ps.map PH.p) (ps.map PH.p).length ⟨ms0 il O (ps.map PH.p).length,(ps.map PH.p).map q2J,[],[]⟩ (l.take k))=C at*;have hC':∀k,q55 c (ps.map PH.p) (ps.map PH.p).length ⟨ms0 il O (ps.map PH.p).length,(ps.map PH.p).map q2J,[],[]⟩ (l.take k)=C k:=fun k=>congrFun hC k
 have hCl:q55 c (ps.map PH.p) (ps.map PH.p).length ⟨ms0 il O (ps.map PH.p).length,(ps.map PH.p).map q2J,[],[]⟩ l=C l.length:=by rw[←hC',Z4]
 rw[hRl,hCl];simp only[hR'] at hg hrs hcsn;simp only[hC'] at hcsn hch;have hR0:R 0=⟨ms0 il O ps.length,ps.map fun h=>q2J h.p,[],[]⟩:=by rw[←hR',yZ];exact hrl
 have hC0:C 0= []:=by rw[←hC',yZ];rfl
 rw[←hR0] at hnw;have hkl2:ks.length=l.length:=by rw[hkl,zk]
 rw[show ms0 il O ps.length=(R 0).m by rw[hR0]] at hnw;rw[show([]:List StM)=(R 0).S by rw[hR0]] at hnw;clear hrl hR hR' hRl hR0 hC hC' hCl
 repeat'((try(conv=>whnf));first|(refine fD ?_)|(refine qf (fun bk hbk=> ?_))|((apply qe);first|((refine qi (hnw _ Y9) (fun M v hv=> ?_);(obtain⟨rfl,hMo⟩:=hv))))|(refine fO ?_)|(refine fA ?_)|(refine fL ?_)|(refine fN ?_))
 rename_i b1 hb1;refine qX (σ:=Nat×MQ×Option Addr×Nat×Own) (fun s=> [(28, .int .i64 s.1)]) (fun s=>(bk,xP M.b s.2.2.1 ((C s.1).map q9G).length s.2.2.2.1)::(s.2.2.2.2++s.2.1.O c ps.length (R s.1).m (R s.1).S ((b1,fun o=>o=Obj.cells (qh8 c (.slice ia il.length ic) (.slice pa ps.length pc) (.slice ka ks.length kc)) 31 (0,0))::own)))
  (fun s=>s.1≤l.length∧s.2.1.b=M.b∧MK W0 c ps.length (ps.map PH.p) s.2.1 (R s.1)∧qu CH.enc 101 3 s.2.2.1 s.2.2.2.1 ((C s.1).map q9G) s.2.2.2.2) (fun s=>l.length-s.1) (0,M,none,0,[])
  ⟨zq _,rfl,hMo,by dsimp only;rw[hC0];exact qu.nil⟩ (eF) (by dsimp only;rw[hC0];simp only[zi];exact sbE) rfl ?_
 rintro⟨i,M1,ca,cc,cD⟩ junk ⟨hi,hb2,hk,hB⟩;dsimp only at hi hb2 hk hB ⊢;obtain⟨M2,rfl⟩:=MQ.b_eq hb2;have hCi:=hch i
 by_cases hlt:i<l.length
 ·obtain⟨t,ht⟩:∃t,l[i]? =some t:=⟨_,z6 hlt⟩
  have hz:ks[i]? =some ((t:Nat):Int):=by rw[hkl,zI,ht];rfl
  have hlt':(i:Int)<ks.length:=Y6;have htl:=hkr t (zg ht);have hpk:=fun Q=>qg9 (W0:=W0) (n:=ps.length) (xb:=bk) hF hk (by rw[hlen];exact htl) (by rw[hlen];exact hn) (hg i t ht) hB (by rw[zk];omega) Q
  rw[←hrs i t ht,←zH,←hcsn i t ht] at hpk;clear hC0 hrs hcsn hg hnw;dsimp only[Cfg.v,Cfg.cs] at hpk
  repeat'((try(conv=>whnf));first|(refine fF ?_)|((apply gLd);first|(refine q0r hK hz rfl ?_))|((apply qJ);first|((refine ixE hK hz ?_ ?_;(first|rfl|omega))))|((apply qe);first|((refine qo (b:=bk) (D:=cD++((M.b,maP {M2 with b:=M.b} (R i).S)::(M2.mh.O (R i).m++(M2.tD++(M2.sD++(M2.eD++(M2.gD++(TsO c ps.length 0 M2.L++ [])))))))) hpk (fun Q=>sbE) (fun s v hv=> ?_);(obtain⟨M3,a5,c5,D5⟩:=s;obtain⟨rfl,h3b,h3k,h3B⟩:=hv;dsimp only at h3b h3k h3B))))|(refine fB ?_)|(refine fQ ?_))
  all_goals exact⟨(i+1,M3,a5,c5,D5),⟨hlt,h3b,h3k,h3B⟩,by simp only;omega,(eF),sbE⟩
 ·obtain rfl:i=l.length:=Y6;have hlt':¬(l.length:Int)<ks.length:=Y6
  repeat'((try(conv=>whnf));first|(refine fG ?_))
  all_goals exact⟨(bk,{M2 with b:=M.b},ca,cc,cD),⟨rfl,hk,hB⟩,sbE⟩
end
end Go.Proofs.YtbhbldllneadeaaGreatDoor
