/- What the laws share, part 20. No condition. -/
import Derived.Test.YtbhbldllneadeaaGreatDoorQ19
set_option maxHeartbeats 8000000
set_option maxRecDepth 10000
namespace Go.Proofs.YtbhbldllneadeaaGreatDoor
open Go
structure TW where
 h:TH
 A:Own
 F:Own
 cD:Own
 x:GT
 p:List Ins
structure TW.ok(W0:World)(c:Cfg)(n t:Nat)(y:TW):Prop where
 ok:y.h.ok y.x
 at':AtO W0 c t y.h y.x y.A
 fe:FeO y.h.lb t n y.x.fn y.F
 C:RdE Ins.enc 5 W0 y.cD y.h.ca y.p
def ThO(c:Cfg)(n t:Nat)(y:TW):Own:=(y.h.b,thP c t n y.p y.h y.x)::(y.A++(y.h.sD++(y.h.oD++(y.F++((y.h.lb.l,lmP c)::y.cD)))))
def TsO(c:Cfg)(n:Nat):Nat→List TW→Own
 |_,[]=> []
 |k,y::l=>ThO c n k y++TsO c n (k+1) l
theorem q3N{c:Cfg}{n:Nat}:∀(L:List TW) (k t:Nat) (y:TW),L[t]? =some y→TsO c n k L=TsO c n k (L.take t)++(ThO c n (k+t) y++TsO c n (k+t+1) (L.drop (t+1)))
 | [],_,_,_,h=>by simp at h
 |z::L,k,0,y,h=>by
  simp only[Zw,Option.some.injEq] at h;subst h;rfl
 |z::L,k,t+1,y,h=>by
  rw[List.getElem?_cons_succ] at h;rw[yU,y1,TsO,TsO,q3N L (k+1) t y h,zd,show k+1+t=k+(t+1) by omega]
theorem qhk{c:Cfg}{n:Nat}{L:List TW}{t:Nat}{y y':TW}(h:L[t]? =some y):TsO c n 0 (L.set t y')=TsO c n 0 (L.take t)++(ThO c n t y'++TsO c n (t+1) (L.drop (t+1))):=by
 have hlt:=(z7.1 h).1;have h1:(L.set t y')[t]? =some y':=by rw[zv];simp[hlt]
 rw[q3N _ 0 t y' h1,List.take_set_of_le (zu _),yT Y6,zD]
abbrev qmb(b:Nat):List Value:= [ptr b]
structure MQ where
 b:Nat
 mh:MH
 ta:Option Addr
 tc:Nat
 tD:Own
 sa:Option Addr
 sc:Nat
 sD:Own
 ea:Option Addr
 ec:Nat
 eD:Own
 el:List EH
 gD:Own
 L:List TW
abbrev maP(M:MQ)(S:List StM):Obj→Prop:=fun z=>z=Obj.cells #[ptr M.mh.mb, .slice M.ta (M.L.map fun y=>y.h.b).length M.tc, .slice M.sa S.length M.sc, .slice M.ea M.el.length M.ec] 107 (0,0)
abbrev MQ.O(M:MQ)(c:Cfg)(n:Nat)(m:MS)(S:List StM)(Q:Own):Own:=(M.b,maP M S)::(M.mh.O m++(M.tD++(M.sD++(M.eD++(M.gD++(TsO c n 0 M.L++Q))))))
structure MQ.ok(W0:World)(c:Cfg)(n:Nat)(M:MQ)(m:MS)(S:List StM)(ev:List EvM):Prop where
 hM:M.mh.ok m.L
 ht:RdE qmb 1 W0 M.tD M.ta (M.L.map fun y=>y.h.b)
 hs:qu StM.enc 113 9 M.sa M.sc S M.sD
 he:qu EH.enc 84 6 M.ea M.ec M.el M.eD
 hv:∀e∈M.el,(RdE qx 1 W0 M.gD e.ra e.rl∧RdE qx 1 W0 M.gD e.wa e.wl)∧e.rl.length≤100000∧e.wl.length≤100000
 hL:∀(t:Nat) (y:TW),M.L[t]? =some y→y.ok W0 c n t
 le:M.el.length≤S.length
 em:M.el.map EH.m=ev
theorem qeN{L:List TW}{t:Nat}{y y':TW}(h:L[t]? =some y)(e:y'.h.b=y.h.b):((L.set t y').map fun y=>y.h.b)=L.map fun y=>y.h.b:=by
 rw[yW,e];refine Zf fun j=> ?_
 rw[zv]
 split
 ·rename_i hj;subst hj;have:=(z7.1 h).1;rw[if_pos (by simpa using this),zI,h];rfl
 ·rfl
structure SaL(m m':MS):Prop where
 d:m'.d.length=m.d.length
 o:m'.o.length=m.o.length
 sl:m'.sl.length=m.sl.length
 hd:m'.hd=m.hd
 nx:m'.nx=m.nx
theorem SaL.refl{m:MS}:SaL m m:=⟨rfl,rfl,rfl,rfl,rfl⟩
theorem MH.ok.to{h:MH}{m m':MS}(k:h.ok m.L)(s:SaL m m'):h.ok m'.L:=by
 refine⟨k.fd,fun j hj=> ?_,rfl,k.bd⟩;rw[←k.ln j hj];have h8:j=0∨j=1∨j=2∨j=3∨j=4∨j=5∨j=6∨j=7:=Y6
 rcases h8 with rfl|rfl|rfl|rfl|rfl|rfl|rfl|rfl
 ·exact s.d
 ·exact s.o
 ·rfl
 ·rfl
 ·rfl
 ·exact s.sl
 ·exact congrArg List.length s.hd
 ·exact congrArg List.length s.nx
theorem qdG(c:Cfg)(t:Int)(m:MS)(x:AT):SaL m (qh c t m x).1:=by
 cases hp:x.ph with
 |ent k=>
  unfold qh;simp only[hp]
  (repeat' split) <;>exact⟨rfl,rfl,Y8,rfl,rfl⟩
 |rd k b v=>
  unfold qh;simp only[hp]
  (repeat' split) <;>exact SaL.refl
 |lk s ld=>
  rw[q5R hp]
  (repeat' split) <;>exact⟨rfl,Y8,rfl,rfl,rfl⟩
 |tn b=>cases b <;>(unfold qh;simp only[hp];exact⟨rfl,rfl,rfl,rfl,rfl⟩)
 |wr a v=>unfold qh;simp only[hp];exact⟨Y8,rfl,rfl,rfl,rfl⟩
 |rl a v=>unfold qh;simp only[hp];exact⟨rfl,Y8,rfl,rfl,rfl⟩
 |lv=>unfold qh;simp only[hp];exact⟨rfl,rfl,Y8,rfl,rfl⟩
 |_=>unfold qh;simp only[hp];exact⟨rfl,rfl,rfl,rfl,rfl⟩
theorem q60(c:Cfg)(p:List Ins)(t:Int)(m:MS)(x:GT)(a:AT)(i:Ins):SaL m (q0M c p t m x a i).1:=by
 unfold q0M;exact qdG _ _ _ _
theorem qer(c:Cfg)(p:List Ins)(t:Int)(m:MS)(x:GT)(i:Ins):SaL m (q15 c p t m x i).1:=by
 unfold q15
 split
 ·exact q60 _ _ _ _ _ _ _
 ·split
  ·split
   ·exact q60 _ _ _ _ _ _ _
   ·exact SaL.refl
  ·exact SaL.refl
theorem qdH(c:Cfg)(p:List Ins)(n:Nat)(t:Int)(m:MS)(x:GT):SaL m (qN c p n t m x).1:=by
 have hw:∀f,SaL m (q0n n p t m x f).1:=fun f=>SaL.refl
 have hp:∀i,SaL m (q01 c p t m x i).1:=fun i=>by
  unfold q01
  split
  ·exact SaL.refl
  ·split
   ·exact SaL.refl
   ·exact⟨Y8,rfl,rfl,rfl,rfl⟩
 have he:∀i,SaL m (q2d c p n t m x i).1:=fun i=>by
  unfold q2d
  split
  ·exact hp i
  ·split
   ·exact hw _
   ·exact qer _ _ _ _ _ _
 unfold qN
 split
 ·exact SaL.refl
 ·split
  ·exact hw _
  ·split
   ·split
    ·exact q60 _ _ _ _ _ _ _
    ·exact he _
   ·exact he _
section
variable{W0:World}{own Q:Own}{c:Cfg}{n t:Nat}{p:List Ins}{M:MQ}{ev:List EvM}{m:MS}{S:List StM}{y:TW}{i:Ins}
theorem qgf(hy:M.L[t]? =some y):(M.L.map fun y=>y.h.b)[t]? =some y.h.b:=by rw[zI,hy];rfl
theorem qfV{h:TH}{x:GT}{mb:Nat} [mm:qy h.b (thP c t n p h x) own](hdn:x.th.dn=true):qt Tryz.prog W0 49 [ptr h.b,ptr mb] own fun v own'=>∃_:Unit,v= .tuple #[stV ⟨0,0,0,acz⟩, .slice none 0 0, .bool false]∧Ent W0 own' own:=by
 refine qD (sH [3,5,7,9,11,13,15,17,19,21,23,26,28,0] ?_);have hc:Cl W0 own h.b 42 (.bool true):=by have:=qk (W0:=W0) (off:=42) mm rfl;rw[hdn] at this;exact this
 repeat'((try(conv=>whnf));first|(refine fH ?_)|(refine fE ?_)|(refine q0d hc ?_)|(refine fL ?_)|(refine fM ?_)|(refine qf (fun bk hbk=> ?_)))
 all_goals exact⟨rfl,sbE⟩
theorem qfC(hk:M.ok W0 c n m S ev)(hy:M.L[t]? =some y)(hdn:y.x.th.dn=true)(hn:M.L.length≤16)(Q:Own):qt Tryz.prog W0 26 [ptr M.b, .int .i64 t] (M.O c n m S Q) fun v own'=>∃_:Unit,v= .bool false∧Ent W0 own' (M.O c n m S Q):=by
 refine qD (sH [3,5,7,9,11,13,15,17,19,21,23,1,26,27,29,31,33,36,38,39,41,0,36,26,27,29,31,33,38,39,41,0,3,5,7,9,11,13,16,18,19,21,24,0,3,5,7,9,11,13,16,18,19,21,24,0] ?_);have htb:=qgf hy;have hlt:=(z7.1 hy).1;have hti:(t:Int)<(M.L.map fun y=>y.h.b).length:=by rw[zk];omega
 have hn2:(M.L.map fun y=>y.h.b).length≤16:=by rw[zk];exact hn
 have htR:=hk.ht;have hst:=fun(own':Own) (m1:qy y.h.b (thP c t n y.p y.h y.x) own')=>qfV (W0:=W0) (own:=own') (c:=c) (t:=t) (n:=n) (p:=y.p) (h:=y.h) (x:=y.x) (mb:=M.mh.mb) hdn
 unfold MQ.O;rw[q3N M.L 0 t y hy,zD,ThO];simp only[zd,zl]
 repeat'((try(conv=>whnf));first|(refine fH ?_)|(refine fE ?_)|(refine fG ?_)|((apply gLd);first|(refine q0r htR htb rfl ?_))|((apply qJ);first|((refine ixE htR htb ?_ ?_;(first|rfl|omega))))|((apply qe);first|((refine qi (hst _ Y9) (fun _ v hv=> ?_);(subst hv))))|(refine fO ?_)|(refine fA ?_)|(refine fM ?_)|(refine qf (fun bk hbk=> ?_))|(refine q1c.mk ?_ ?_))
 all_goals exact⟨rfl,sbE⟩
theorem qfD(hF:qC W0)(hG:GoC c y.p)(hk:M.ok W0 c n m S ev)(hy:M.L[t]? =some y)(hT:GoT c y.p n t m y.x i)(hn:M.L.length≤16)(hS:S.length≤1000)(Q:Own):qt Tryz.prog W0 26 [ptr M.b, .int .i64 t] (M.O c n m S Q) fun v own'=>
  ∃M':MQ,(v= .bool true∧M'.b=M.b∧M'.ok W0 c n (qN c y.p n t m y.x).1 (S++ [(qN c y.p n t m y.x).2.2.1]) (ev++(qN c y.p n t m y.x).2.2.2.map (qmc S.length))∧∃y':TW,y'.x=(qN c y.p n t m y.x).2.1∧y'.p=y.p∧y'.h.b=y.h.b∧(y.h.ap≠ .pointer none→y'.x.at'≠none→y'.h.ap=y.h.ap)∧M'.L=M.L.set t y')∧Ent W0 own' (M'.O c n (qN c y.p n t m y.x).1 (S++ [(qN c y.p n t m y.x).2.2.1]) Q):=by
 refine sH [3,5,7,9,11,13,15,17,19,21,23,1,26,27,29,31,33,36,38,39,41,0,36,26,27,29,31,33,38,39,41,0,3,5,7,9,11,13,16,18,19,21,24,0,3,5,7,9,11,13,16,18,19,21,24,0] ?_;have htb:=qgf hy;have hlt:=(z7.1 hy).1;have hto:=hk.hL t y hy;unfold MQ.O;rw[q3N M.L 0 t y hy,zD,ThO];simp only[zd,zl];have hst:=fun(Q:Own) (eq:qv Q y.cD)=>qg1 (W0:=W0) (n:=n) hF hG hT hto.ok hto.at' hto.fe hk.hM hto.C Q
 have hsl0:=qdH c y.p n t m y.x;generalize qN c y.p n t m y.x=z at hst hsl0 ⊢;obtain⟨m',x',s,evs⟩:=z;dsimp only at hst hsl0 ⊢;have hti:(t:Int)<(M.L.map fun y=>y.h.b).length:=by rw[zk];omega
 have hn2:(M.L.map fun y=>y.h.b).length≤16:=by rw[zk];exact hn
 have htR:=hk.ht;have hhe:=hk.he;have hhs:=hk.hs;have hle:=hk.le
 repeat'((try(conv=>whnf));first|(refine fH ?_)|(refine fD ?_)|(refine fG ?_)|((apply gLd);first|(refine q0r htR htb rfl ?_))|((apply qJ);first|((refine ixE htR htb ?_ ?_;(first|rfl|omega))))|((apply qe);first|((refine q1f (F:=y.cD) (b:=y.h.b) (D:=y.A++(M.mh.O m++(y.h.sD++(y.h.oD++(y.F++((y.h.lb.l,lmP c):: [])))))) hst (fun Q=>sbE) (fun r v hv=> ?_);(obtain⟨⟨h1,A1,ea1,ec1,el1,eD1⟩,F1⟩:=r;obtain⟨rfl,hr1,hr2,hr3,hr4,hr5,hr6,hr7,hr8,hr9⟩:=hv;dsimp only at hr1 hr2 hr3 hr4 hr5 hr6 hr7 hr8 hr9;subst hr6))))|(refine fO ?_)|(refine fA ?_)|(refine fM ?_)|(refine qf (fun bk hbk=> ?_))|(refine q1c.mk ?_ ?_))
 all_goals
  have hmap:=qeN (y':=⟨h1,A1,F1,y.cD,x',y.p⟩) hy hr1;have hset:=qhk (c:=c) (n:=n) (y':=⟨h1,A1,F1,y.cD,x',y.p⟩) hy;have hLo:∀(u:Nat) (z:TW),(M.L.set t ⟨h1,A1,F1,y.cD,x',y.p⟩)[u]? =some z→z.ok W0 c n u:=by
   intro u z hz;rw[zv] at hz
   split at hz
   ·rename_i hu;subst hu;cases hz;exact⟨hr3,hr4,hr7,by dsimp only;rw[hr2];exact hto.C⟩
   ·exact hk.hL u z hz
  have hcs:el1= []∨∃e,el1= [e]:=by
   have:=hr5.n
   match el1,this with
   | [],_=>exact .inl rfl
   | [e],_=>exact .inr ⟨e,rfl⟩
  rcases hcs with rfl|⟨e,rfl⟩
  ·repeat'((try(conv=>whnf));first|(refine fD ?_)|(refine q1P 2 ?_)|(refine qf (fun bk hbk=> ?_))|(apply q0p (enc:=StM.enc) (T:=113) s hhs;(exact rfl);(exact rfl);(omega);(exact rfl);(exact rfl);(omega);intro a5 c5 D5 hb5)|(refine fA ?_)|(refine fL ?_)|(refine fN ?_))
   all_goals
    refine⟨⟨M.b,M.mh,M.ta,M.tc,M.tD,a5,c5,D5,M.ea,M.ec,M.eD,M.el,M.gD,M.L.set t ⟨h1,A1,F1,y.cD,x',y.p⟩⟩,⟨rfl,rfl,⟨hk.hM.to hsl0,by dsimp only;rw[hmap];exact hk.ht,hb5,hk.he,hk.hv,hLo,by rw[z8];exact Zs hle,by dsimp only;rw[Zi,Zi,zC];exact hk.em⟩,⟨h1,A1,F1,y.cD,x',y.p⟩,rfl,rfl,hr1,hr9,rfl⟩,?_⟩
    try unfold maP
    dsimp only;rw[hmap,hset,z8];simp only[ThO,zd,zl,zi];exact sbE
  ·have hee:=(hr5.v e (zf.2 rfl)).1;have hev:∀z∈M.el++ [{e with ev:=(S.length:Int)}],(RdE qx 1 W0 (eD1++M.gD) z.ra z.rl∧RdE qx 1 W0 (eD1++M.gD) z.wa z.wl)∧z.rl.length≤100000∧z.wl.length≤100000:=by
    intro z hz
    rcases zz.1 hz with hz|hz
    ·have:=hk.hv z hz;exact⟨⟨this.1.1.ent Ent.right,this.1.2.ent Ent.right⟩,this.2⟩
    ·rw[zf] at hz;subst hz;exact⟨⟨hee.1.ent Ent.left,hee.2.ent Ent.left⟩,(hr5.v e (zf.2 rfl)).2⟩
   have heR:=hr5.r;have he0:([e]:List EH)[0]? =some e:=rfl
   repeat'((try(conv=>whnf));first|(refine fE ?_)|(refine fD ?_)|(refine q1P 2 ?_)|(refine qf (fun bk hbk=> ?_))|(apply q0p (enc:=StM.enc) (T:=113) s hhs;(exact rfl);(exact rfl);(omega);(exact rfl);(exact rfl);(omega);intro a5 c5 D5 hb5)|(apply q0p (enc:=EH.enc) (T:=84) {e with ev:=(S.length:Int)} hhe;(exact rfl);(exact rfl);(omega);(exact rfl);(exact rfl);(omega);intro a6 c6 D6 hb6)|((apply qJ);first|((refine ixE heR he0 ?_ ?_;(first|rfl|omega))))|((apply q2H);first|(refine q1h heR he0 rfl ?_))|(refine fB ?_)|(refine fA ?_)|(refine fL ?_)|(refine fN ?_)|(refine fM ?_))
   all_goals
    refine⟨⟨M.b,M.mh,M.ta,M.tc,M.tD,a5,c5,D5,a6,c6,D6,M.el++ [{e with ev:=(S.length:Int)}],eD1++M.gD,M.L.set t ⟨h1,A1,F1,y.cD,x',y.p⟩⟩,⟨rfl,rfl,⟨hk.hM.to hsl0,by dsimp only;rw[hmap];exact hk.ht,hb5,hb6,hev,hLo,by rw[z8,z8];exact Nat.succ_le_succ hle,by dsimp only;rw[zH,hk.em];rfl⟩,⟨h1,A1,F1,y.cD,x',y.p⟩,rfl,rfl,hr1,hr9,rfl⟩,?_⟩
    try unfold maP
    dsimp only;rw[hmap,hset,z8,z8];simp only[ThO,zd,zl,zi];exact sbE
end
open Go
section
variable{W0:World}{own Q:Own}{c:Cfg}{n t:Nat}{p:List Ins}
theorem qjd{a:Option Addr}{cap:Nat}(hF:qC W0)(hc:qH c=0)(hck:qw p=(0,0))(ht:t<n)(hn:n≤16)(hR:RdE Ins.enc 5 W0 own a p)(hp:p.length≤100000):
  qt Tryz.prog W0 48 [c.v, .int .i64 t, .int .i64 n, .slice a p.length cap] own fun v own'=>∃y:TW,(v= .tuple #[ptr y.h.b, .int .i64 0]∧y.ok W0 c n t∧y.x=q2J p∧y.p=p)∧Ent W0 own' (ThO c n t y++own):=by
 refine sH [5,7,9,1,3,1,12,13,16,17,20,21,0,13,12,16,17,20,21,0,1,12,13,1,3,16,17,20,21,0,16,3,17,20,21,0,13,1,3,12,16,17,20,21,0,12,1,3,16,17,20,21,0,16,3,17,20,21,0] ?_;have hc1:=fun own=>q1i W0 own c
 rw[hc] at hc1;have hp1:=fun(own':Own) (m:qv own' own)=>q4R (own:=own') (cap:=cap) hF hR.up
 rw[hck] at hp1;have hcl:=fun(own':Own) (m:qv own' own)=>q2K (own:=own') (cap:=cap) hR.up Y6
 have hlm:=fun(own':Own)=>q8J (W0:=W0) (c:=c) own'
 dsimp only[Cfg.v,Cfg.cs] at hc1 hlm ⊢
 repeat'((try(conv=>whnf));first|(refine fH ?_)|(refine fD ?_)|(refine fG ?_)|(refine fK ?_)|(refine qf (fun tb htb=> ?_))|((apply qe);first|((refine qd (hc1 _) ?_))|((refine qd (hp1 _ Y9) ?_))|((refine qi (hcl _ Y9) (fun y v hv=> ?_);(obtain⟨a3,c3,D3⟩:=y;obtain⟨rfl,hB3⟩:=hv;dsimp only at hB3)))|((refine qi (hlm _) (fun lb v hv=> ?_);(subst hv)))|((refine qG (q4V (c:=c) (t:=t) (n:=n) (p:=p) (h:=⟨tb, .pointer none,⟨lb, .pointer none⟩,a3,c3,none,0,[],none,0,[]⟩) (x:=⟨⟨0,⟨0,0,0,0,0,0,0,0⟩,0,false⟩,none,0,⟨0,0,0,0,0,0,0,0⟩,0,[],none,[],0⟩) 0 rfl _) (fun _ v hv=> ?_);(subst hv))))|(refine fO ?_)|(refine fL ?_)|(refine q1c.mk ?_ ?_))
 all_goals exact⟨⟨⟨tb, .pointer none,⟨lb, .pointer none⟩,a3,c3,none,0,[],none,0,[]⟩,[],[],D3,q2J p,p⟩,⟨rfl,⟨⟨qu.nil,qu.nil⟩,⟨rfl,rfl⟩,⟨rfl,rfl⟩,hB3.rd⟩,rfl,rfl⟩,by unfold ThO;simp only[zl,zi];exact sbE⟩
end
open Go
def qjF(P:Program)(W0:World)(J:(Nat→Bool)→Fr→Own→Prop):Nat→List (q3Z×List Nat)→Prop
 |_,[]=>True
 |k,(⟨d,op,_⟩,ds)::r=>(∀(l:Nat→Bool) (f:Fr) (own:Own),l k=false→(∀j∈ds,l j=true)→J l f own→XO P W0 f own op fun v own'=>J (fun n=>bif Nat.beq n k then true else l n) (updO f d v) own')∧qjF P W0 J (k+1) r
theorem qjF.at{P:Program}{W0:World}{J:(Nat→Bool)→Fr→Own→Prop}:∀(ops:List (q3Z×List Nat)) (k:Nat),qjF P W0 J k ops→∀(i:Nat) (d:Option Nat) (op:IOp) (gd:Option (Nat×Bool)) (ds:List Nat),ops[i]? =some (⟨d,op,gd⟩,ds)→
  ∀(l:Nat→Bool) (f:Fr) (own:Own),l (k+i)=false→(∀j∈ds,l j=true)→J l f own→XO P W0 f own op fun v own'=>J (fun n=>bif Nat.beq n (k+i) then true else l n) (updO f d v) own'
 | [],_,_,i,d,op,gd,ds,hi=>by simp at hi
 |(⟨d0,op0,gd0⟩,ds0)::r,k,h,0,d,op,gd,ds,hi=>by
  simp only[Zw,Option.some.injEq,Prod.mk.injEq,q3Z.mk.injEq] at hi;obtain⟨⟨rfl,rfl,rfl⟩,rfl⟩:=hi;exact h.1
 |_::r,k,h,i+1,d,op,gd,ds,hi=>by
  rw[List.getElem?_cons_succ] at hi;have:=qjF.at r (k+1) h.2 i d op gd ds hi;rw[show k+1+i=k+(i+1) by omega] at this;exact this
theorem qh1{P:Program}{W0:World}{ops:List (q3Z×List Nat)}{K:Fr→Own→Prop}{f:Fr}{own:Own}(J:(Nat→Bool)→Fr→Own→Prop)(h0:J (fun _=>false) f own)(h1:∀l f own,J l f own→(∀i,i<ops.length→l i=true)→K f own)(h:qjF P W0 J 0 ops):qng P W0 ops K f own:=
 ⟨J,h0,h1,fun i d op gd ds l f own hi hl hd hJ=>by
  have:=qjF.at ops 0 h i d op gd ds hi l f own (by rw[zD];exact hl) hd hJ;rw[zD] at this;exact this⟩
theorem q7L{f:Fr}{d:Nat}{v:Value}:updO f (some d) v d=v:=by unfold updO upd;dsimp only;rw[Nat.beq_refl];rfl
theorem q26{f:Fr}{d k:Nat}{v:Value}(h:k≠d):updO f (some d) v k=f k:=by
 unfold updO upd;dsimp only;cases hb:Nat.beq k d with
 |false=>rfl
 |true=>exact absurd (Zt hb) h
theorem q7h:∀{l vs:List Value},l.length=vs.length→q1D l 0 vs vs
 | [],[],_=> .done .nil
 |_::_,_::_,h=> .put (q7h (by simpa using h))
 | [],_::_,h=>by simp at h
 |_::_,[],h=>by simp at h
def Sh8(cs:List Value):Prop:=∃(a1 a2 a3 a4 a5:Option Addr) (n1 c1 n2 c2 n3 c3 n4 c4 n5 c5:Nat) (x1 x2 x3:Int),cs= [.slice a1 n1 c1, .slice a2 n2 c2,uv x1,uv x2,uv x3, .slice a3 n3 c3, .slice a4 n4 c4, .slice a5 n5 c5]
theorem Sh8.len{cs:List Value}(h:Sh8 cs):cs.length=8:=by obtain⟨_,_,_,_,_,_,_,_,_,_,_,_,_,_,_,_,_,_,rfl⟩:=h;rfl
theorem Sh8.one{cs:List Value}(h:Sh8 cs):∀v∈cs,q2D v=true:=by obtain⟨_,_,_,_,_,_,_,_,_,_,_,_,_,_,_,_,_,_,rfl⟩:=h;simp[q2D]
inductive KI
 |p|c|s (g:Nat)|d (g:Nat)|x (g:Nat)|u|z
def DaA(W0:World)(D0:Own)(l:List Int)(v:Value):Prop:=∃a c,v= .slice a l.length c∧RdE q09 1 W0 D0 a l
theorem DaA.up{W0:World}{D D0:Own}{l:List Int}{v:Value}(h:DaA W0 D0 l v):DaA W0 (D++D0) l v:=by
 obtain⟨a,c,h1,h2⟩:=h;exact⟨a,c,h1,h2.ent Ent.right⟩
def KI.P(W0:World)(D0:Own)(h:MH)(L:List (List Int)):KI→Value→Prop
 | .p,v=>v= .pointer (some ⟨h.mb,0,none⟩)
 | .c,v=>v= .map (some h.mp)
 | .s g,v=>v= .slice (some ⟨h.b g,0,none⟩) (h.n g) (h.n g+(h.r g).length)
 | .d g,v=>DaA W0 D0 (L.getD g []) v
 | .x g,v=>v= .pointer (some ⟨h.b g,0+0*1,none⟩)
 | .u,v=>∃x,v=uv x
 | .z,v=>∃cs:List Value,v= .agg cs.toArray∧Sh8 cs∧DaA W0 D0 (L.getD 0 []) (cs.getD 0 (.bool false))
theorem KI.P.up{W0:World}{D D0:Own}{h:MH}{L:List (List Int)}:∀{k:KI} {v:Value},KI.P W0 D0 h L k v→KI.P W0 (D++D0) h L k v
 | .p,_,e=>e
 | .c,_,e=>e
 | .s _,_,e=>e
 | .d _,_,e=>DaA.up e
 | .x _,_,e=>e
 | .u,_,e=>e
 | .z,_,⟨cs,h1,h2,h3⟩=>⟨cs,h1,h2,h3.up⟩
def kI:List KI:= [.p, .p, .p, .c, .s 0, .d 0, .p, .p, .p, .c, .s 1, .d 1, .p, .p, .p, .c, .s 2, .x 2, .u, .p, .p, .p, .c, .s 3, .x 3, .u, .p, .p, .p, .c, .s 4, .x 4, .u, .p, .p, .p, .c, .s 5, .d 5, .p, .p, .p, .c, .s 6, .d 6, .p, .p, .p, .c, .s 7, .d 7, .z]
abbrev PvI(W0:World)(D0:Own)(h:MH)(L:List (List Int))(j:Nat):Value→Prop:=(kI.getD j .z).P W0 D0 h L
structure JI(W0:World)(D0:Own)(h:MH)(L:List (List Int))(Q:Own)(b2:Nat)(l:Nat→Bool)(f:Fr)(own:Own):Prop where
 v:∀j,j<52→l j=true→PvI W0 D0 h L j (f (6+j))
 f0:f 0= .pointer (some ⟨h.mb,0,none⟩)
 f2:f 2= .pointer (some ⟨b2,0,none⟩)
 o:∃cs:List Value,Sh8 cs∧(l 52=true→DaA W0 D0 (L.getD 0 []) (cs.getD 0 (.bool false)))∧own.Perm ((b2,fun z=>z=Obj.cells cs.toArray 51 (0,0))::(D0++(h.OL L++Q)))
abbrev JIe(W0:World)(h:MH)(L:List (List Int))(Q:Own)(b2:Nat)(l:Nat→Bool)(f:Fr)(own:Own):Prop:=∃D0,JI W0 D0 h L Q b2 l f own
section
variable{W0:World}{D0:Own}{h:MH}{L:List (List Int)}{Q own:Own}{b2:Nat}{l:Nat→Bool}{f:Fr}
theorem JI.step(hJ:JI W0 D0 h L Q b2 l f own)(i:Nat){v:Value}(D:Own)(hv:PvI W0 (D++D0) h L i v)(h52:Nat.beq 52 i=false):JIe W0 h L Q b2 (fun n=>bif Nat.beq n i then true else l n) (updO f (some (6+i)) v) (D++own):=by
 refine⟨D++D0,fun j hj hl=> ?_,by rw[q26 Y6];exact hJ.f0,by rw[q26 Y6];exact hJ.f2,?_⟩
 ·by_cases e:j=i
  ·subst e;rw[q7L];exact hv
  ·rw[q26 Y6];refine(hJ.v j hj ?_).up;cases hb:Nat.beq j i with
   |false=>simpa only[hb,cond_false] using hl
   |true=>exact absurd (Zt hb) e
 ·obtain⟨cs,h1,h2,hp⟩:=hJ.o;refine⟨cs,h1,fun h=>(h2 (by simpa only[h52,cond_false] using h)).up,(hp.append_left D).trans ?_⟩;rw[zd];exact Zb
theorem JI.mem(hJ:JI W0 D0 h L Q b2 l f own){e:Nat×(Obj→Prop)}(he:e∈h.OL L):e∈own:=by
 obtain⟨cs, -, -,hp⟩:=hJ.o;exact hp.mem_iff.2 (zp _ (zR _ (zN _ he)))
theorem qmG{j:Nat}(hj:j<8):h.e L j∈h.OL L:=zp _ (zp _ (zK.2 ⟨j,Zd.2 hj,rfl⟩))
theorem JI.rd(hJ:JI W0 D0 h L Q b2 l f own){j:Nat}(hj:j<8):RdE q09 1 W0 own (some ⟨h.b j,0,none⟩) (L.getD j []):=by
 refine⟨fun _=>rfl,fun _ _=>rfl,fun{i k x v} hx hv=> ?_⟩;obtain rfl:k=0:=by
  rcases Nat.eq_zero_or_pos k with e|e
  ·exact e
  ·rw[zX (by simp only[zG,zM];omega)] at hv;cases hv
 have hv':uv x=v:=by simpa using hv
 subst hv';show Kn W0 own (fun w=>w.cell? ⟨h.b j,0+i*1+0,none⟩=some (uv x));refine q0E (hJ.mem (qmG hj)) ?_;have hlt:=(z7.1 hx).1;rw[zL,zD,yl,Zy,zy (by simpa using hlt),zI,hx];rfl
variable(hJ:JI W0 D0 h L Q b2 l f own)
include hJ
theorem JI.mov(i:Nat)(hi:kI.getD i .z= .p)(h52:Nat.beq 52 i=false:=by rfl):XO Tryz.prog W0 f own (.mov (.tmp 0)) fun v own'=>JIe W0 h L Q b2 (fun n=>bif Nat.beq n i then true else l n) (updO f (some (6+i)) v) own':=by
 unfold XO;dsimp only[ev];rw[hJ.f0];exact hJ.step i [] (by unfold PvI;rw[hi];rfl) h52
theorem JI.nilc(i t:Nat)(hi:kI.getD i .z= .p)(ht:KI.P W0 D0 h L .p (f t))(h52:Nat.beq 52 i=false:=by rfl):XO Tryz.prog W0 f own (.nilc (.tmp t)) fun v own'=>JIe W0 h L Q b2 (fun n=>bif Nat.beq n i then true else l n) (updO f (some (6+i)) v) own':=by
 have ht':f t= .pointer (some ⟨h.mb,0,none⟩):=ht;unfold XO;dsimp only[ev];rw[ht'];exact hJ.step i [] (by unfold PvI;rw[hi];rfl) h52
theorem JI.fad(i t:Nat)(hi:kI.getD i .z= .p)(ht:KI.P W0 D0 h L .p (f t))(h52:Nat.beq 52 i=false:=by rfl):XO Tryz.prog W0 f own (.fad 0 (.tmp t)) fun v own'=>JIe W0 h L Q b2 (fun n=>bif Nat.beq n i then true else l n) (updO f (some (6+i)) v) own':=by
 have ht':f t= .pointer (some ⟨h.mb,0,none⟩):=ht;unfold XO;dsimp only[ev];rw[ht'];exact hJ.step i [] (by unfold PvI;rw[hi];rfl) h52
theorem JI.ldm(i t:Nat)(hi:kI.getD i .z= .c)(ht:KI.P W0 D0 h L .p (f t))(h52:Nat.beq 52 i=false:=by rfl):XO Tryz.prog W0 f own (.ld (.tmp t)) fun v own'=>JIe W0 h L Q b2 (fun n=>bif Nat.beq n i then true else l n) (updO f (some (6+i)) v) own':=by
 have ht':f t= .pointer (some ⟨h.mb,0,none⟩):=ht;unfold XO;dsimp only[ev];rw[ht'];exact⟨_,q0E (hJ.mem zm) rfl,hJ.step i [] (by unfold PvI;rw[hi];rfl) h52⟩
theorem JI.mlk(hM:h.ok L)(i t g:Nat)(hg:g<8)(kv:Int)(hk:kv=(g:Int)+1)(hi:kI.getD i .z=(.s g))(ht:KI.P W0 D0 h L .c (f t))(h52:Nat.beq 52 i=false:=by rfl):XO Tryz.prog W0 f own (.mlk 0 (.slice none 0 0) false (.tmp t) (.const (.int .i64 kv))) fun v own'=>JIe W0 h L Q b2 (fun n=>bif Nat.beq n i then true else l n) (updO f (some (6+i)) v) own':=by
 have ht':f t= .map (some h.mp):=ht;subst hk;unfold XO;dsimp only[ev];rw[ht'];exact⟨h.ml,_,hJ.mem (zp _ zm),hM.fd g hg,hJ.step i [] (by unfold PvI;rw[hi];rfl) h52⟩
theorem JI.cln(hM:h.ok L)(i t g:Nat)(hg:g<8)(hi:kI.getD i .z= .d g)(ht:KI.P W0 D0 h L (.s g) (f t))(h52:Nat.beq 52 i=false:=by rfl):XO Tryz.prog W0 f own (.call 61 [.tmp t]) fun v own'=>JIe W0 h L Q b2 (fun n=>bif Nat.beq n i then true else l n) (updO f (some (6+i)) v) own':=by
 have ht':f t= .slice (some ⟨h.b g,0,none⟩) (h.n g) (h.n g+(h.r g).length):=ht;have hcl:=qK (W0:=W0) (own:=own) (cap:=h.n g+(h.r g).length) (hJ.rd hg) (by rw[hM.ln g hg];have:=hM.bd g hg;omega);rw[hM.ln g hg] at hcl
 change q0w Tryz.prog W0 own _ [f t] _
 rw[ht'];refine q99 hcl rfl rfl fun y v hv=> ?_
 obtain⟨a1,c1,D1⟩:=y;obtain⟨rfl,hB⟩:=hv;exact hJ.step i D1 (by unfold PvI;rw[hi];exact⟨a1,c1,by rw[hM.ln g hg],(hB.rd (W0:=W0)).ent Ent.left⟩) h52
theorem JI.ixs(i t g:Nat)(hn:0<h.n g)(hi:kI.getD i .z=(.x g))(ht:KI.P W0 D0 h L (.s g) (f t))(h52:Nat.beq 52 i=false:=by rfl):XO Tryz.prog W0 f own (.ixs 1 (.tmp t) (.const (.int .i64 0))) fun v own'=>JIe W0 h L Q b2 (fun n=>bif Nat.beq n i then true else l n) (updO f (some (6+i)) v) own':=by
 have ht':f t= .slice (some ⟨h.b g,0,none⟩) (h.n g) (h.n g+(h.r g).length):=ht;unfold XO;dsimp only[ev];rw[ht'];exact⟨0,h.b g,0,rfl,hn,rfl,hJ.step i [] (by unfold PvI;rw[hi];rfl) h52⟩
theorem JI.ldu(hM:h.ok L)(i t g:Nat)(hg:g<8)(hn:0<h.n g)(hi:kI.getD i .z= .u)(ht:KI.P W0 D0 h L (.x g) (f t))(h52:Nat.beq 52 i=false:=by rfl):XO Tryz.prog W0 f own (.ld (.tmp t)) fun v own'=>JIe W0 h L Q b2 (fun n=>bif Nat.beq n i then true else l n) (updO f (some (6+i)) v) own':=by
 have ht':f t= .pointer (some ⟨h.b g,0+0*1,none⟩):=ht;unfold XO;dsimp only[ev];rw[ht'];have hlt:0<(L.getD g []).length:=by rw[hM.ln g hg];exact hn
 have hx:(L.getD g [])[0]? =some ((L.getD g [])[0]):=z6 hlt;exact⟨_,(hJ.rd hg).cell (k:=0) hx rfl,hJ.step i [] (by unfold PvI;rw[hi];exact⟨_,rfl⟩) h52⟩
theorem JI.bld(h1:KI.P W0 D0 h L (.d 0) (f 11))(h2:KI.P W0 D0 h L (.d 1) (f 17))(h3:KI.P W0 D0 h L (.d 5) (f 44))(h4:KI.P W0 D0 h L (.d 6) (f 50))(h5:KI.P W0 D0 h L (.d 7) (f 56))(k1:KI.P W0 D0 h L .u (f 24))(k2:KI.P W0 D0 h L .u (f 31))(k3:KI.P W0 D0 h L .u (f 38)):XO Tryz.prog W0 f own (.bld [.slice none 0 0, .slice none 0 0, .int .u64 0, .int .u64 0, .int .u64 0, .slice none 0 0, .slice none 0 0, .slice none 0 0] [(0,1, .tmp 11),(1,1, .tmp 17),(2,1, .tmp 24),(3,1, .tmp 31),(4,1, .tmp 38),(5,1, .tmp 44),(6,1, .tmp 50),(7,1, .tmp 56)]) fun v own'=>JIe W0 h L Q b2 (fun n=>bif Nat.beq n 51 then true else l n) (updO f (some 57) v) own':=by
 obtain⟨a1,c1,e1,hr⟩:=h1;obtain⟨a2,c2,e2, -⟩:=h2;obtain⟨a3,c3,e3, -⟩:=h3;obtain⟨a4,c4,e4, -⟩:=h4;obtain⟨a5,c5,e5, -⟩:=h5;obtain⟨x1,g1⟩:=k1;obtain⟨x2,g2⟩:=k2;obtain⟨x3,g3⟩:=k3;unfold XO;dsimp only;simp only[q1T,qba,ev,e1,e2,e3,e4,e5,g1,g2,g3];exact hJ.step 51 [] ⟨[.slice a1 (L.getD 0 []).length c1, .slice a2 (L.getD 1 []).length c2,uv x1,uv x2,uv x3, .slice a3 (L.getD 5 []).length c3, .slice a4 (L.getD 6 []).length c4, .slice a5 (L.getD 7 []).length c5],rfl,⟨_,_,_,_,_,_,_,_,_,_,_,_,_,_,_,_,_,_,rfl⟩,a1,c1,rfl,hr⟩ rfl
theorem JI.stn(ht:KI.P W0 D0 h L .z (f 57)):XO Tryz.prog W0 f own (.stN 8 (.tmp 2) (.tmp 57)) fun v own'=>JIe W0 h L Q b2 (fun n=>bif Nat.beq n 52 then true else l n) (updO f none v) own':=by
 obtain⟨cs,hv,hs,hda⟩:=ht;have hl:=hs.len;have h1:=hs.one;obtain⟨cs0,hs0, -,hp⟩:=hJ.o;have hl0:=hs0.len;have hm:=hp.mem_iff.2 zm;obtain⟨A,B,rfl⟩:=ZS hm;unfold XO;dsimp only[ev];rw[hJ.f2,hv];refine⟨by simpa using hl,?_⟩;refine q51 (cs':=cs) (own':=A++(b2,fun z=>z=Obj.cells cs.toArray 51 (0,0))::B) (Up.head.app A) ?_ (by simpa using h1) ?_
 ·rw[zL,zL];exact q7h Y6
 ·refine⟨D0,fun j hj hl=>hJ.v j hj ?_,hJ.f0,hJ.f2,cs,hs,fun _=>hda,?_⟩
  ·cases hb:Nat.beq j 52 with
   |false=>simpa only[hb,cond_false] using hl
   |true=>exact absurd (Zt hb) Y6
  ·exact Zb.trans (((Zb.symm.trans hp).cons_inv).cons _)
end
section
variable{W0:World}{h:MH}{L:List (List Int)}
theorem qkM{f:Fr}{own:Own}{b2:Nat}{K:Value→Own→Prop}(h2:f 2= .pointer (some ⟨b2,0,none⟩))(hk:LdN W0 own ⟨b2,0,none⟩ 8 fun v=>K (.agg v) own):qak W0 f own [.cellN 2 8] fun vs=>K (qh7 vs) own:=by
 unfold qak;dsimp only;rw[h2];exact hk
theorem qft(hM:h.ok L)(hn:∀g,g=2∨g=3∨g=4→0<h.n g)(Q:Own):qt Tryz.prog W0 34 [.pointer (some ⟨h.mb,0,none⟩)] (h.OL L++Q) fun v own'=>∃s:List Value×Own,(v= .agg s.1.toArray∧Sh8 s.1∧DaA W0 s.2 (L.getD 0 []) (s.1.getD 0 (.bool false)))∧Ent W0 own' ((s.2++h.OL L)++Q):=by
 refine sH [2] ?_
 repeat'((try(conv=>whnf));first|(refine fD ?_)|(refine qf (fun bk hbk=> ?_)))
 refine qh1 (JIe W0 h L Q bk) ⟨[],fun _ _ hl=>(by cases hl),rfl,rfl,_,⟨_,_,_,_,_,_,_,_,_,_,_,_,_,_,_,_,_,_,rfl⟩,fun hl=>(by cases hl),List.Perm.refl _⟩ ?_ ?_
 ·rintro l f own ⟨D0,hJ⟩ hl;obtain⟨cs,hs,hda,hp⟩:=hJ.o;have hda:=hda (hl 52 Y7);clear hl;have hl8:=hs.len;have hm:=hp.mem_iff.2 zm;refine qkM (K:=fun v own'=>∃s:List Value×Own,(v= .agg s.1.toArray∧Sh8 s.1∧DaA W0 s.2 (L.getD 0 []) (s.1.getD 0 (.bool false)))∧Ent W0 own' ((s.2++h.OL L)++Q)) hJ.f2 (q0e hm (by simpa using hl8) ?_);exact⟨(cs,D0),⟨rfl,hs,hda⟩,by rw[zd];exact(Ent.of_perm hp).trans (Ent.of_sub (zT _ _))⟩
 ·exact⟨fun l f own _ _ ⟨D0,hJ⟩=>JI.mov hJ 0 rfl,
  fun l f own _ hd ⟨D0,hJ⟩=>JI.nilc hJ 1 6 rfl (hJ.v 0 Y7 (hd 0 Y8)),
  fun l f own _ hd ⟨D0,hJ⟩=>JI.fad hJ 2 7 rfl (hJ.v 1 Y7 (hd 1 Y8)),
  fun l f own _ hd ⟨D0,hJ⟩=>JI.ldm hJ 3 8 rfl (hJ.v 2 Y7 (hd 2 Y8)),
  fun l f own _ hd ⟨D0,hJ⟩=>JI.mlk hJ hM 4 9 0 Y7 1 Y7 rfl (hJ.v 3 Y7 (hd 3 Y8)),
  fun l f own _ hd ⟨D0,hJ⟩=>JI.cln hJ hM 5 10 0 Y7 rfl (hJ.v 4 Y7 (hd 4 Y8)),
  fun l f own _ _ ⟨D0,hJ⟩=>JI.mov hJ 6 rfl,
  fun l f own _ hd ⟨D0,hJ⟩=>JI.nilc hJ 7 12 rfl (hJ.v 6 Y7 (hd 6 Y8)),
  fun l f own _ hd ⟨D0,hJ⟩=>JI.fad hJ 8 13 rfl (hJ.v 7 Y7 (hd 7 Y8)),
  fun l f own _ hd ⟨D0,hJ⟩=>JI.ldm hJ 9 14 rfl (hJ.v 8 Y7 (hd 8 Y8)),
  fun l f own _ hd ⟨D0,hJ⟩=>JI.mlk hJ hM 10 15 1 Y7 2 Y7 rfl (hJ.v 9 Y7 (hd 9 Y8)),
  fun l f own _ hd ⟨D0,hJ⟩=>JI.cln hJ hM 11 16 1 Y7 rfl (hJ.v 10 Y7 (hd 10 Y8)),
  fun l f own _ _ ⟨D0,hJ⟩=>JI.mov hJ 12 rfl,
  fun l f own _ hd ⟨D0,hJ⟩=>JI.nilc hJ 13 18 rfl (hJ.v 12 Y7 (hd 12 Y8)),
  fun l f own _ hd ⟨D0,hJ⟩=>JI.fad hJ 14 19 rfl (hJ.v 13 Y7 (hd 13 Y8)),
  fun l f own _ hd ⟨D0,hJ⟩=>JI.ldm hJ 15 20 rfl (hJ.v 14 Y7 (hd 14 Y8)),
  fun l f own _ hd ⟨D0,hJ⟩=>JI.mlk hJ hM 16 21 2 Y7 3 Y7 rfl (hJ.v 15 Y7 (hd 15 Y8)),
  fun l f own _ hd ⟨D0,hJ⟩=>JI.ixs hJ 17 22 2 (hn 2 Y7) rfl (hJ.v 16 Y7 (hd 16 Y8)),
  fun l f own _ hd ⟨D0,hJ⟩=>JI.ldu hJ hM 18 23 2 Y7 (hn 2 Y7) rfl (hJ.v 17 Y7 (hd 17 Y8)),
  fun l f own _ _ ⟨D0,hJ⟩=>JI.mov hJ 19 rfl,
  fun l f own _ hd ⟨D0,hJ⟩=>JI.nilc hJ 20 25 rfl (hJ.v 19 Y7 (hd 19 Y8)),
  fun l f own _ hd ⟨D0,hJ⟩=>JI.fad hJ 21 26 rfl (hJ.v 20 Y7 (hd 20 Y8)),
  fun l f own _ hd ⟨D0,hJ⟩=>JI.ldm hJ 22 27 rfl (hJ.v 21 Y7 (hd 21 Y8)),
  fun l f own _ hd ⟨D0,hJ⟩=>JI.mlk hJ hM 23 28 3 Y7 4 Y7 rfl (hJ.v 22 Y7 (hd 22 Y8)),
  fun l f own _ hd ⟨D0,hJ⟩=>JI.ixs hJ 24 29 3 (hn 3 Y7) rfl (hJ.v 23 Y7 (hd 23 Y8)),
  fun l f own _ hd ⟨D0,hJ⟩=>JI.ldu hJ hM 25 30 3 Y7 (hn 3 Y7) rfl (hJ.v 24 Y7 (hd 24 Y8)),
  fun l f own _ _ ⟨D0,hJ⟩=>JI.mov hJ 26 rfl,
  fun l f own _ hd ⟨D0,hJ⟩=>JI.nilc hJ 27 32 rfl (hJ.v 26 Y7 (hd 26 Y8)),
  fun l f own _ hd ⟨D0,hJ⟩=>JI.fad hJ 28 33 rfl (hJ.v 27 Y7 (hd 27 Y8)),
  fun l f own _ hd ⟨D0,hJ⟩=>JI.ldm hJ 29 34 rfl (hJ.v 28 Y7 (hd 28 Y8)),
  fun l f own _ hd ⟨D0,hJ⟩=>JI.mlk hJ hM 30 35 4 Y7 5 Y7 rfl (hJ.v 29 Y7 (hd 29 Y8)),
  fun l f own _ hd ⟨D0,hJ⟩=>JI.ixs hJ 31 36 4 (hn 4 Y7) rfl (hJ.v 30 Y7 (hd 30 Y8)),
  fun l f own _ hd ⟨D0,hJ⟩=>JI.ldu hJ hM 32 37 4 Y7 (hn 4 Y7) rfl (hJ.v 31 Y7 (hd 31 Y8)),
  fun l f own _ _ ⟨D0,hJ⟩=>JI.mov hJ 33 rfl,
  fun l f own _ hd ⟨D0,hJ⟩=>JI.nilc hJ 34 39 rfl (hJ.v 33 Y7 (hd 33 Y8)),
  fun l f own _ hd ⟨D0,hJ⟩=>JI.fad hJ 35 40 rfl (hJ.v 34 Y7 (hd 34 Y8)),
  fun l f own _ hd ⟨D0,hJ⟩=>JI.ldm hJ 36 41 rfl (hJ.v 35 Y7 (hd 35 Y8)),
  fun l f own _ hd ⟨D0,hJ⟩=>JI.mlk hJ hM 37 42 5 Y7 6 Y7 rfl (hJ.v 36 Y7 (hd 36 Y8)),
  fun l f own _ hd ⟨D0,hJ⟩=>JI.cln hJ hM 38 43 5 Y7 rfl (hJ.v 37 Y7 (hd 37 Y8)),
  fun l f own _ _ ⟨D0,hJ⟩=>JI.mov hJ 39 rfl,
  fun l f own _ hd ⟨D0,hJ⟩=>JI.nilc hJ 40 45 rfl (hJ.v 39 Y7 (hd 39 Y8)),
  fun l f own _ hd ⟨D0,hJ⟩=>JI.fad hJ 41 46 rfl (hJ.v 40 Y7 (hd 40 Y8)),
  fun l f own _ hd ⟨D0,hJ⟩=>JI.ldm hJ 42 47 rfl (hJ.v 41 Y7 (hd 41 Y8)),
  fun l f own _ hd ⟨D0,hJ⟩=>JI.mlk hJ hM 43 48 6 Y7 7 Y7 rfl (hJ.v 42 Y7 (hd 42 Y8)),
  fun l f own _ hd ⟨D0,hJ⟩=>JI.cln hJ hM 44 49 6 Y7 rfl (hJ.v 43 Y7 (hd 43 Y8)),
  fun l f own _ _ ⟨D0,hJ⟩=>JI.mov hJ 45 rfl,
  fun l f own _ hd ⟨D0,hJ⟩=>JI.nilc hJ 46 51 rfl (hJ.v 45 Y7 (hd 45 Y8)),
  fun l f own _ hd ⟨D0,hJ⟩=>JI.fad hJ 47 52 rfl (hJ.v 46 Y7 (hd 46 Y8)),
  fun l f own _ hd ⟨D0,hJ⟩=>JI.ldm hJ 48 53 rfl (hJ.v 47 Y7 (hd 47 Y8)),
  fun l f own _ hd ⟨D0,hJ⟩=>JI.mlk hJ hM 49 54 7 Y7 8 Y7 rfl (hJ.v 48 Y7 (hd 48 Y8)),
  fun l f own _ hd ⟨D0,hJ⟩=>JI.cln hJ hM 50 55 7 Y7 rfl (hJ.v 49 Y7 (hd 49 Y8)),
  fun l f own _ hd ⟨D0,hJ⟩=>JI.bld hJ (hJ.v 5 Y7 (hd 5 Y8)) (hJ.v 11 Y7 (hd 11 Y8)) (hJ.v 38 Y7 (hd 38 Y8)) (hJ.v 44 Y7 (hd 44 Y8)) (hJ.v 50 Y7 (hd 50 Y8)) (hJ.v 18 Y7 (hd 18 Y8)) (hJ.v 25 Y7 (hd 25 Y8)) (hJ.v 32 Y7 (hd 32 Y8)),
  fun l f own _ hd ⟨D0,hJ⟩=>JI.stn hJ (hJ.v 51 Y7 (hd 51 Y8)),
  trivial⟩
end
open Go
section
variable{W0:World}{own:Own}
theorem qfr(own:Own):qE Tryz.prog W0 110 [.int .i64 0, .int .i64 (-1)] own (.tuple #[uv 0, .int .i64 0]):=by
 refine qg (sH [] ?_)
 repeat'((try(conv=>whnf));first|(refine fH ?_)|(refine fD ?_)|(refine arw (k:= .u64) ?_)|(refine fB ?_))
 all_goals exact⟨rfl,(eC)⟩
theorem qfw{c:Cfg}(h:c.c0=0∧c.c1=0∧c.c2=0∧c.c3=0)(hb:qA c=0):qt Tryz.prog W0 78 [c.v] own fun v own'=>
  ∃s:Nat×Nat,v= .tuple #[.slice (some ⟨s.1,0,none⟩) 4 4, .slice (some ⟨s.2,0,none⟩) 0 0]∧Ent W0 own' (q0K q09 49 s.1 [0,0,0,0]::q0K q09 49 s.2 []::own):=by
 refine sH [] ?_;have hbl:=fun own=>q3k W0 own c
 rw[hb] at hbl;have hhd:=fun own=>qfr (W0:=W0) own
 obtain⟨w,o,b,c0,c1,c2,c3,r,wr,al,fr,ck,st⟩:=c;obtain⟨rfl,rfl,rfl,rfl⟩:=h;dsimp only[Cfg.v,Cfg.cs] at hbl ⊢;have hw:∀z∈([0,0,0,0]:List Int),(q09 z).length=1:=fun _ _=>rfl
 have hx:∀i,i<4→([0,0,0,0]:List Int)[i]? =some 0:=by intro i hi;match i,hi with|0,_=>rfl|1,_=>rfl|2,_=>rfl|3,_=>rfl
 have hx0:=hx 0 Y7;have hx1:=hx 1 Y7;have hx2:=hx 2 Y7;have hx3:=hx 3 Y7
 repeat'((try(conv=>whnf));first|(refine mkC (enc:=q09) 4 0 rfl rfl rfl Y6 (fun b1=> ?_);(apply Stop.h))|(refine qf (fun bk hbk=> ?_)))
 refine Stop.mk ?_
 repeat'((try(conv=>whnf));first|(refine mkC (enc:=q09) 0 0 rfl rfl rfl Y6 (fun b2=> ?_))|((apply qe);first|((refine qd (hbl _) ?_)))|(refine fL ?_)|(refine fQ ?_))
 refine qX (σ:=Nat) (fun i=> [(15, .int .i64 i),(4, .int .i64 0)]) (fun _=>q0K q09 49 b1 [0,0,0,0]::q0K q09 49 b2 []::own) (fun i=>i≤4) (fun i=>4-i) 0 (zq _) (eF) sbE rfl ?_;rintro i junk hi;have hc5:i=0∨i=1∨i=2∨i=3∨i=4:=Y6;have hln:(4:Nat)=([0,0,0,0]:List Int).length:=rfl
 rcases hc5 with rfl|rfl|rfl|rfl|rfl
 ·repeat'((try(conv=>whnf));first|(refine fE ?_)|(refine fD ?_)|(refine q1P 1 ?_)|((apply qJ);first|((refine ixC hx0 hln ?_ ?_;(first|rfl|omega))))|((apply qe);first|((refine qd (hhd _) ?_)))|((with_reducible show StT _ _ _ _ _);first|((refine stC (T:=49) (k:=0) (0) hw hx0 ?_ ?_ ?_ ?_ ?_;(exact rfl);(omega);(exact rfl);(exact rfl))))|(refine fB ?_)|(refine fO ?_)|(refine ix0 rfl ?_))
  all_goals exact⟨1,Y6,Y6,(eF),sbE⟩
 ·repeat'((try(conv=>whnf));first|(refine fE ?_)|(refine fD ?_)|(refine q1P 1 ?_)|((apply qJ);first|((refine ixC hx1 hln ?_ ?_;(first|rfl|omega))))|((apply qe);first|((refine qd (hhd _) ?_)))|((with_reducible show StT _ _ _ _ _);first|((refine stC (T:=49) (k:=0) (0) hw hx1 ?_ ?_ ?_ ?_ ?_;(exact rfl);(omega);(exact rfl);(exact rfl))))|(refine fB ?_)|(refine fO ?_)|(refine ix1 rfl ?_))
  all_goals exact⟨2,Y6,Y6,(eF),sbE⟩
 ·repeat'((try(conv=>whnf));first|(refine fE ?_)|(refine fD ?_)|(refine q1P 1 ?_)|((apply qJ);first|((refine ixC hx2 hln ?_ ?_;(first|rfl|omega))))|((apply qe);first|((refine qd (hhd _) ?_)))|((with_reducible show StT _ _ _ _ _);first|((refine stC (T:=49) (k:=0) (0) hw hx2 ?_ ?_ ?_ ?_ ?_;(exact rfl);(omega);(exact rfl);(exact rfl))))|(refine fB ?_)|(refine fO ?_)|(refine ix2 rfl ?_))
  all_goals exact⟨3,Y6,Y6,(eF),sbE⟩
 ·repeat'((try(conv=>whnf));first|(refine fE ?_)|(refine fD ?_)|(refine q1P 1 ?_)|((apply qJ);first|((refine ixC hx3 hln ?_ ?_;(first|rfl|omega))))|((apply qe);first|((refine qd (hhd _) ?_)))|((with_reducible show StT _ _ _ _ _);first|((refine stC (T:=49) (k:=0) (0) hw hx3 ?_ ?_ ?_ ?_ ?_;(exact rfl);(omega);(exact rfl);(exact rfl))))|(refine fB ?_)|(refine fO ?_)|(refine ix3 rfl ?_))
  all_goals exact⟨4,Y6,Y6,(eF),sbE⟩
 ·repeat'((try(conv=>whnf));first|(refine fD ?_))
  all_goals exact⟨(b1,b2),rfl,sbE⟩
end
open Go
theorem qbT{a b:Int}{v:Value}:∀{ml:List (Value×Value)},(∀e∈ml,∃z,e.1= .int .i64 z)→q1J 0 (.int .i64 a) (q52 0 (.int .i64 b) v ml)=if a=b then some (some v) else q1J 0 (.int .i64 a) ml
 | [],_=>by
  show(match some (decide (a=b)) with|some true=>some (some v)|some false=>some none|none=>none)=_
  by_cases h:a=b
  ·rw[if_pos h,decide_eq_true h]
  ·rw[if_neg h,decide_eq_false h];rfl
 |(k,w)::r,hk=>by
  obtain⟨z,rfl⟩:∃z,k= .int .i64 z:=hk _ zm
  have ih:=qbT (a:=a) (b:=b) (v:=v) (ml:=r) fun e he=>hk e (zp _ he)
  have e1:q52 0 (.int .i64 b) v ((.int .i64 z,w)::r)=(match some (decide (b=z)) with|some true=>(.int .i64 b,v)::r|_=>(.int .i64 z,w)::q52 0 (.int .i64 b) v r):=rfl;have e2:∀(q:Value) (s:List (Value×Value)) (y:Int),q1J 0 (.int .i64 a) ((.int .i64 y,q)::s)=(match some (decide (a=y)) with|some true=>some (some q)|some false=>q1J 0 (.int .i64 a) s|none=>none):=fun _ _ _=>rfl
  rw[e1,e2]
  by_cases hb:b=z
  ·subst hb;simp only[decide_true];rw[e2]
   by_cases h:a=b
   ·rw[if_pos h,decide_eq_true h]
   ·rw[if_neg h,decide_eq_false h]
  ·simp only[decide_eq_false hb];rw[e2,ih]
   by_cases h:a=b
   ·subst h;simp only[decide_eq_false hb,if_true]
   ·simp only[if_neg h]
theorem qag{b:Int}{v:Value}:∀{ml:List (Value×Value)},(∀e∈ml,∃z,e.1= .int .i64 z)→∀e∈q52 0 (.int .i64 b) v ml,∃z,e.1= .int .i64 z
 | [],_,e,he=>by rw[show q52 0 (.int .i64 b) v []= [(.int .i64 b,v)] from rfl,zf] at he;subst he;exact⟨b,rfl⟩
 |(k,w)::r,hk,e,he=>by
  obtain⟨z,rfl⟩:∃z,k= .int .i64 z:=hk _ zm
  have e1:q52 0 (.int .i64 b) v ((.int .i64 z,w)::r)=(match some (decide (b=z)) with|some true=>(.int .i64 b,v)::r|_=>(.int .i64 z,w)::q52 0 (.int .i64 b) v r):=rfl;rw[e1] at he
  by_cases hb:b=z
  ·simp only[decide_eq_true hb] at he
   rcases zQ.1 he with rfl|he
   ·exact⟨b,rfl⟩
   ·exact hk e (zp _ he)
  ·simp only[decide_eq_false hb] at he
   rcases zQ.1 he with rfl|he
   ·exact⟨z,rfl⟩
   ·exact qag (fun e he=>hk e (zp _ he)) e he
structure NX where
 mp:Nat
 ml:List (Value×Value)
 a1:Option Addr
 c1:Nat
 D1:Own
 e:Nat→Nat
structure NB where
 ia:Option Addr
 il:List Int
 ic:Nat
 b3:Nat
 hb:Nat
 nb:Nat
 O:Nat
 n:Nat
abbrev zsl(b k:Nat):Value:= .slice (some ⟨b,0,none⟩) k k
def vN(B:NB)(X:NX):Nat→Value
 |0=> .map (some X.mp)|1=> .slice B.ia B.il.length B.ic|2=> .slice X.a1 B.il.length X.c1|3=>zsl B.nb 0|4=> .int .i64 ((0:Nat):Int)|5=> .slice X.a1 B.il.length X.c1
 |7=> .pointer (some ⟨B.b3,0+1,none⟩)|8=> .int .i64 B.O|9=>zsl (X.e 9) B.O|11=>zsl (X.e 11) 1|13=>zsl (X.e 13) 1|15=>zsl (X.e 15) 1|17=> .int .i64 B.n|18=>zsl (X.e 18) B.n
 |20=>zsl B.hb 4|22=>zsl B.nb 0|24=> .map (some X.mp)|25=> .agg #[.map (some X.mp)]|26=>ptr (X.e 26)|27=>ptr (X.e 26)|_=> .int .i64 0
def dN(j:Nat):Nat:=([32,33,34,35,36,37,100,38,39,40,101,41,102,42,103,43,104,44,45,105,46,106,47,107,48,49,50,6,7]:List Nat).getD j 200
def muN(k:Nat):Nat:=([6,10,12,14,16,19,21,23]:List Nat).getD k 200
def crN(k:Nat):Nat:=([5,9,11,13,15,18,20,22]:List Nat).getD k 200
def clN:List (Nat×Nat):= [(5,2),(6,0),(6,5),(10,0),(10,9),(12,0),(12,11),(14,0),(14,13),(16,0),(16,15),(19,0),(19,18),(21,0),(21,20),(23,0),(23,22),(24,0),(25,24),(26,25),(27,26)]
theorem qgC:∀k,k<8→(muN k,crN k)∈clN:=Y7
theorem qke:∀j,j<29→∀i,i<29→j≠i→dN j≠dN i:=Y7
abbrev rpP(k:Nat):Obj→Prop:=fun o=>o=Obj.cells (List.replicate k [uv 0]).flatten.toArray 49
abbrev mmP(mp:Nat):Obj→Prop:=fun o=>o=Obj.cells #[.map (some mp)] 162
def pq(b:Bool)(D:Own):Own:=bif b then D else []
def pcN(B:NB)(X:NX)(l:Nat→Bool):Own:=pq (l 0) [(X.mp,q2C X.ml)]++(pq (l 2) X.D1++(pq (l 9) [(X.e 9,rpP B.O)]++(pq (l 11) [(X.e 11,rpP 1)]++(pq (l 13) [(X.e 13,rpP 1)]++(pq (l 15) [(X.e 15,rpP 1)]++(pq (l 18) [(X.e 18,rpP B.n)]++pq (l 26) [(X.e 26,mmP X.mp)]))))))
abbrev q7Q(l:Nat→Bool)(i:Nat):Nat→Bool:=fun n=>bif Nat.beq n i then true else l n
theorem q00{l:Nat→Bool}{i n:Nat}(h:n≠i):q7Q l i n=l n:=by
 show(bif Nat.beq n i then true else l n)=l n;cases hb:Nat.beq n i with
 |false=>rfl
 |true=>exact absurd (Zt hb) h
theorem q8F{l:Nat→Bool}{i:Nat}:q7Q l i i=true:=by
 show(bif Nat.beq i i then true else l i)=true;rw[Nat.beq_refl];rfl
theorem Ins.here{e:Nat×(Obj→Prop)}{Y:Own}:(e::(pq false [e]++Y)).Perm (pq true [e]++Y):=List.Perm.refl _
theorem Ins.skip{e:Nat×(Obj→Prop)}{A Y Y':Own}(h:(e::Y).Perm Y'):(e::(A++Y)).Perm (A++Y'):=Zb.symm.trans (h.append_left A)
theorem Ins.base{e:Nat×(Obj→Prop)}{A Y Y':Own}(h:(e::Y).Perm Y'):(e::(Y++A)).Perm (Y'++A):=h.append_right A
structure JN(B:NB)(base:Own)(X:NX)(l:Nat→Bool)(f:Fr)(own:Own):Prop where
 v:∀j,j<29→dN j<100→l j=true→f (dN j)=vN B X j
 f1:f 1= .int .i64 B.n
 f2:f 2= .slice B.ia B.il.length B.ic
 f3:f 3=ptr B.b3
 f9:f 9=zsl B.hb 4
 f10:f 10=zsl B.nb 0
 cl:∀q∈clN,l q.1=true→l q.2=true
 m:l 0=true→(∀e∈X.ml,∃z,e.1= .int .i64 z)∧∀k:Nat,k<8→q1J 0 (.int .i64 ((k:Int)+1)) X.ml=some (if l (muN k)=true then some (vN B X (crN k)) else none)
 b:l 2=true→qu q09 49 1 X.a1 X.c1 B.il X.D1
 o:own.Perm (pcN B X l++base)
section
variable{W0:World}{B:NB}{base own own':Own}{X X':NX}{l:Nat→Bool}{f:Fr}{i:Nat}{v:Value}
theorem JN.next(hJ:JN B base X l f own)(hi:i<29)(hdi:dN i<100)(h10:dN i=6∨dN i=7∨10<dN i)(hX:∀j,l j=true→vN B X' j=vN B X j)(hv:v=vN B X' i)(hc:∀q∈clN,q.1=i→l q.2=true)(hmu:∀k:Nat,k<8→muN k≠i)
  (hm:q7Q l i 0=true→(∀e∈X'.ml,∃z,e.1= .int .i64 z)∧∀k:Nat,k<8→q1J 0 (.int .i64 ((k:Int)+1)) X'.ml=some (if l (muN k)=true then some (vN B X' (crN k)) else none))
  (hb:q7Q l i 2=true→qu q09 49 1 X'.a1 X'.c1 B.il X'.D1) (ho:own'.Perm (pcN B X' (q7Q l i)++base)):JN B base X' (q7Q l i) (updO f (some (dN i)) v) own':=by
 refine⟨fun j hj hd hl=> ?_,by rw[q26 Y6];exact hJ.f1,by rw[q26 Y6];exact hJ.f2,by rw[q26 Y6];exact hJ.f3,by rw[q26 Y6];exact hJ.f9,by rw[q26 Y6];exact hJ.f10,fun q hq hl=> ?_,fun h0=> ?_,hb,ho⟩
 ·by_cases e:j=i
  ·subst e;rw[q7L];exact hv
  ·rw[q00 e] at hl;rw[q26 (qke j hj i hi e),hX j hl];exact hJ.v j hj hd hl
 ·by_cases e2:q.2=i
  ·rw[e2];exact q8F
  ·rw[q00 e2]
   by_cases e1:q.1=i
   ·exact hc q hq e1
   ·rw[q00 e1] at hl;exact hJ.cl q hq hl
 ·obtain⟨h1,h2⟩:=hm h0;refine⟨h1,fun k hk=> ?_⟩;rw[q00 (hmu k hk)];exact h2 k hk
theorem JN.keep(hJ:JN B base X l f own)(hi:i<29)(hdi:dN i<100)(h10:dN i=6∨dN i=7∨10<dN i)(hv:v=vN B X i)(hc:∀q∈clN,q.1=i→l q.2=true)(hmu:∀k:Nat,k<8→muN k≠i)(hk:∀k:Nat,k∈([0,2,9,11,13,15,18,26]:List Nat)→k≠i):JN B base X (q7Q l i) (updO f (some (dN i)) v) own:=by
 refine hJ.next hi hdi h10 (fun _ _=>rfl) hv hc hmu (fun h=>hJ.m (by rwa[q00 (hk 0 Y7)] at h)) (fun h=>hJ.b (by rwa[q00 (hk 2 Y7)] at h)) ?_;have:pcN B X (q7Q l i)=pcN B X l:=by unfold pcN;rw[q00 (hk 0 Y7),q00 (hk 2 Y7),q00 (hk 9 Y7),q00 (hk 11 Y7),q00 (hk 13 Y7),q00 (hk 15 Y7),q00 (hk 18 Y7),q00 (hk 26 Y7)]
 rw[this];exact hJ.o
theorem JN.make(hJ:JN B base X l f own)(b:Nat)(p:Obj→Prop)(hl:l i=false)(hs:i=9∨i=11∨i=13∨i=15∨i=18∨i=26)(hv:v=vN B {X with e:=fun k=>if k=i then b else X.e k} i)(hc:∀q∈clN,q.1=i→l q.2=true)(hp:(i=9→p=rpP B.O)∧(i=11∨i=13∨i=15→p=rpP 1)∧(i=18→p=rpP B.n)∧(i=26→p=mmP X.mp)):JN B base {X with e:=fun k=>if k=i then b else X.e k} (q7Q l i) (updO f (some (dN i)) v) ((b,p)::own):=by
 have hX:∀j,l j=true→vN B {X with e:=fun k=>if k=i then b else X.e k} j=vN B X j:=by
  intro j hj;have hne:j≠i:=fun e=>by rw[e,hl] at hj;cases hj
  have h27:j=27→i≠26:=fun e e2=>by
   subst e;subst e2;have:=hJ.cl (27,26) Y7 hj;rw[hl] at this;cases this
  unfold vN
  split <;>first|rfl|(dsimp only;rw[if_neg Y6])
 have hmu:∀k:Nat,k<8→muN k≠i:=by
  intro k hk;have:∀k:Nat,k<8→∀j,(j=9∨j=11∨j=13∨j=15∨j=18∨j=26)→muN k≠j:=by
   intro k hk j hj
   rcases hj with rfl|rfl|rfl|rfl|rfl|rfl <;>(revert k;decide)
  exact this k hk i hs
 have h29:i<29∧dN i<100∧10<dN i:=by rcases hs with rfl|rfl|rfl|rfl|rfl|rfl <;>decide
 refine hJ.next h29.1 h29.2.1 (.inr (.inr h29.2.2)) hX hv hc hmu (fun h=> ?_) (fun h=>hJ.b (by rwa[q00 Y6] at h)) ?_
 ·rw[q00 Y6] at h;obtain⟨h1,h2⟩:=hJ.m h;refine⟨h1,fun k hk=> ?_⟩;rw[h2 k hk]
  by_cases hmk:l (muN k)=true
  ·rw[if_pos hmk,if_pos hmk];refine congrArg (fun z=>some (some z)) (hX (crN k) ?_).symm;exact hJ.cl _ (qgC k hk) hmk
  ·rw[if_neg hmk,if_neg hmk]
 ·refine(hJ.o.cons _).trans ?_;unfold pcN
  rcases hs with rfl|rfl|rfl|rfl|rfl|rfl
  ·rw[hl,hp.1 rfl];exact Ins.base (Ins.skip (Ins.skip Ins.here))
  ·rw[hl,hp.2.1 (.inl rfl)];exact Ins.base (Ins.skip (Ins.skip (Ins.skip Ins.here)))
  ·rw[hl,hp.2.1 (.inr (.inl rfl))];exact Ins.base (Ins.skip (Ins.skip (Ins.skip (Ins.skip Ins.here))))
  ·rw[hl,hp.2.1 (.inr (.inr rfl))];exact Ins.base (Ins.skip (Ins.skip (Ins.skip (Ins.skip (Ins.skip Ins.here)))))
  ·rw[hl,hp.2.2.1 rfl];exact Ins.base (Ins.skip (Ins.skip (Ins.skip (Ins.skip (Ins.skip (Ins.skip Ins.here))))))
  ·rw[hl,hp.2.2.2 rfl];exact Ins.base (Ins.skip (Ins.skip (Ins.skip (Ins.skip (Ins.skip (Ins.skip (Ins.skip (List.Perm.refl _))))))))
end
open Go
theorem qk9:∀k,k<8→∀q∈clN,q.1=muN k→q.2=0∨q.2=crN k:=Y7
theorem qil:∀k,k<8→∀j,j<8→k≠j→muN k≠muN j:=Y7
theorem qik:∀k,k<8→100≤dN (muN k):=Y7
theorem qgW:∀k,k<8→∀j,j∈([0,2,9,11,13,15,18,26]:List Nat)→j≠muN k:=Y7
theorem Ins.app{D A Y Y':Own}(h:(D++Y).Perm Y'):(D++(A++Y)).Perm (A++Y'):=by
 rw[←zd];refine(Z5.append_right Y).trans ?_;rw[zd];exact h.append_left A
section
variable{W0:World}{B:NB}{base own own':Own}{X X':NX}{l:Nat→Bool}{f:Fr}{i:Nat}{v:Value}
theorem JN.ent(hJ:JN B base X l f own):Ent W0 own base:=(Ent.of_perm hJ.o).trans Ent.right
theorem JN.mkm(hJ:JN B base X l f own)(hl:l 0=false)(b:Nat):JN B base {X with mp:=b,ml:= []} (q7Q l 0) (updO f (some 32) (.map (some b))) ((b,q2C [])::own):=by
 have c0:∀j,(j,0)∈clN→l j=false:=fun j hj=>by
  cases h:l j with
  |false=>rfl
  |true=>have:=hJ.cl _ hj h;rw[hl] at this;cases this
 have h24:=c0 24 Y7;have h25:l 25=false:=by
  cases h:l 25 with
  |false=>rfl
  |true=>have:=hJ.cl (25,24) Y7 h;rw[h24] at this;cases this
 have h26:l 26=false:=by
  cases h:l 26 with
  |false=>rfl
  |true=>have:=hJ.cl (26,25) Y7 h;rw[h25] at this;cases this
 refine hJ.next (i:=0) Y7 Y7 Y7 (fun j hj=> ?_) rfl (fun q hq e=>absurd e ((by decide:∀q∈clN,q.1≠0) q hq)) Y7 (fun _=>⟨fun _ h=>(by cases h),fun k hk=> ?_⟩) (fun h=>hJ.b h) ?_
 ·unfold vN
  split <;>first|rfl|(rw[hl] at hj;cases hj)|(rw[h24] at hj;cases hj)|(rw[h25] at hj;cases hj)
 ·have hm:l (muN k)=false:=c0 _ (by revert k;decide);rw[hm];rfl
 ·refine(hJ.o.cons _).trans ?_;unfold pcN;rw[hl,h26];show((b,q2C [])::(([]++_)++base)).Perm (([(b,q2C [])]++(pq (l 2) _++(pq (l 9) _++(pq (l 11) _++(pq (l 13) _++(pq (l 15) _++(pq (l 18) _++pq (l 26) _)))))))++base);rw[h26];exact List.Perm.refl _
theorem JN.cln(hJ:JN B base X l f own)(hl:l 2=false){a:Option Addr}{c:Nat}{D:Own}(hB:qu q09 49 1 a c B.il D):JN B base {X with a1:=a,c1:=c,D1:=D} (q7Q l 2) (updO f (some 34) (.slice a B.il.length c)) (D++own):=by
 have h5:l 5=false:=by
  cases h:l 5 with
  |false=>rfl
  |true=>have:=hJ.cl (5,2) Y7 h;rw[hl] at this;cases this
 have h6:l 6=false:=by
  cases h:l 6 with
  |false=>rfl
  |true=>have:=hJ.cl (6,5) Y7 h;rw[h5] at this;cases this
 have hX:∀j,l j=true→vN B {X with a1:=a,c1:=c,D1:=D} j=vN B X j:=by
  intro j hj;unfold vN
  split <;>first|rfl|(rw[hl] at hj;cases hj)|(rw[h5] at hj;cases hj)
 refine hJ.next (i:=2) Y7 Y7 Y7 hX rfl (fun q hq e=>absurd e ((by decide:∀q∈clN,q.1≠2) q hq)) Y7 (fun h=> ?_) (fun _=>hB) ?_
 ·obtain⟨h1,h2⟩:=hJ.m h;refine⟨h1,fun k hk=> ?_⟩;rw[h2 k hk]
  by_cases hm:l (muN k)=true
  ·rw[if_pos hm,if_pos hm,hX _ (hJ.cl _ (qgC k hk) hm)]
  ·rw[if_neg hm,if_neg hm]
 ·refine(hJ.o.append_left D).trans ?_;rw[←zd];refine List.Perm.append_right base ?_;unfold pcN;rw[hl];exact Ins.app (List.Perm.refl _)
theorem JN.mup(hJ:JN B base X l f own)(k:Nat)(hk:k<8)(h0:l 0=true)(hcr:l (crN k)=true):∃own',Up X.mp (q2C X.ml) (q2C (q52 0 (.int .i64 ((k:Int)+1)) (vN B X (crN k)) X.ml)) own own'∧(q1J 0 (.int .i64 ((k:Int)+1)) X.ml).isSome=true∧JN B base {X with ml:=q52 0 (.int .i64 ((k:Int)+1)) (vN B X (crN k)) X.ml} (q7Q l (muN k)) f own':=by
 obtain⟨hm1,hm2⟩:=hJ.m h0;obtain⟨R,hR,hR2⟩:∃R,pcN B X l=(X.mp,q2C X.ml)::R∧pcN B {X with ml:=q52 0 (.int .i64 ((k:Int)+1)) (vN B X (crN k)) X.ml} (q7Q l (muN k))=(X.mp,q2C (q52 0 (.int .i64 ((k:Int)+1)) (vN B X (crN k)) X.ml))::R:=by
  have hs:=fun j hj=>q00 (l:=l) (qgW k hk j hj)
  unfold pcN;rw[hs 0 Y7,hs 2 Y7,hs 9 Y7,hs 11 Y7,hs 13 Y7,hs 15 Y7,hs 18 Y7,hs 26 Y7,h0];exact⟨_,rfl,rfl⟩
 have ho:=hJ.o;rw[hR] at ho;obtain⟨A,C,rfl⟩:=ZS (ho.mem_iff.2 zm);refine⟨A++(X.mp,q2C (q52 0 (.int .i64 ((k:Int)+1)) (vN B X (crN k)) X.ml))::C,Up.head.app A,by rw[hm2 k hk];rfl,?_⟩;refine⟨fun j hj hd hl=> ?_,hJ.f1,hJ.f2,hJ.f3,hJ.f9,hJ.f10,fun q hq hl=> ?_,fun _=>⟨qag hm1,fun j hj=> ?_⟩,fun h=>hJ.b (by rwa[q00 (qgW k hk 2 Y7)] at h),?_⟩
 ·have hne:j≠muN k:=fun e=>by have:=qik k hk;rw[←e] at this;omega
  rw[q00 hne] at hl;exact hJ.v j hj hd hl
 ·by_cases e2:q.2=muN k
  ·rw[e2];exact q8F
  ·rw[q00 e2]
   by_cases e1:q.1=muN k
   ·rcases qk9 k hk q hq e1 with e|e
    ·rw[e];exact h0
    ·rw[e];exact hcr
   ·rw[q00 e1] at hl;exact hJ.cl q hq hl
 ·show q1J 0 _ (q52 0 _ _ X.ml)=_;rw[qbT hm1]
  by_cases e:j=k
  ·subst e;rw[if_pos rfl,q8F,if_pos rfl];rfl
  ·rw[if_neg Y6,hm2 j hj,q00 (qil j hj k hk e)];rfl
 ·rw[hR2];exact Zb.trans (((Zb.symm.trans ho).cons_inv).cons _)
abbrev JE(B:NB)(base:Own)(l:Nat→Bool)(f:Fr)(own:Own):Prop:=∃X,JN B base X l f own
variable(hJ:JN B base X l f own)
include hJ
theorem JN.xmov(i t:Nat){w:Value}(hf:f t=w)(hi:i<29∧dN i<100∧(dN i=6∨dN i=7∨10<dN i)∧(∀k:Nat,k<8→muN k≠i)∧∀k:Nat,k∈([0,2,9,11,13,15,18,26]:List Nat)→k≠i)(hv:w=vN B X i)(hc:∀q∈clN,q.1=i→l q.2=true):XO Tryz.prog W0 f own (.mov (.tmp t)) fun v own'=>JE B base (q7Q l i) (updO f (some (dN i)) v) own':=by
 unfold XO;dsimp only[ev];refine Mv.mk ?_;rw[hf];exact⟨X,hJ.keep hi.1 hi.2.1 hi.2.2.1 hv hc hi.2.2.2.1 hi.2.2.2.2⟩
theorem JN.xmk(i:Nat)(n:Nat)(x y:Operand)(hx:ev f x= .int .i64 n)(hy:ev f y= .int .i64 n)(hn:n≤1000000)(hl:l i=false)(hs:i=9∨i=11∨i=13∨i=15∨i=18)(hp:(i=9→n=B.O)∧(i=11∨i=13∨i=15→n=1)∧(i=18→n=B.n))(hc:∀q∈clN,q.1=i→l q.2=true):XO Tryz.prog W0 f own (.mk 49 1 8 [.int .u64 0] x y) fun v own'=>JE B base (q7Q l i) (updO f (some (dN i)) v) own':=by
 unfold XO;dsimp only;rw[hx,hy];refine⟨n,n,rfl,rfl,zu _,Y6,fun b _=>⟨_,hJ.make b (rpP n) hl Y6 ?_ hc ⟨fun h=>by rw[hp.1 h],fun h=>by rw[hp.2.1 h],fun h=>by rw[hp.2.2 h],fun h=>by omega⟩⟩⟩
 rcases hs with rfl|rfl|rfl|rfl|rfl
 ·rw[hp.1 rfl];rfl
 ·rw[hp.2.1 (.inl rfl)];rfl
 ·rw[hp.2.1 (.inr (.inl rfl))];rfl
 ·rw[hp.2.1 (.inr (.inr rfl))];rfl
 ·rw[hp.2.2 rfl];rfl
theorem JN.xmup(k:Nat)(t:Nat)(kv:Int)(hk:k<8)(hkv:kv=(k:Int)+1)(ht:f t=vN B X (crN k))(h32:f 32= .map (some X.mp))(h0:l 0=true)(hcr:l (crN k)=true):XO Tryz.prog W0 f own (.mup 0 (.tmp 32) (.const (.int .i64 kv)) (.tmp t)) fun v own'=>JE B base (q7Q l (muN k)) (updO f none v) own':=by
 subst hkv;obtain⟨own',h1,h2,h3⟩:=hJ.mup k hk h0 hcr;unfold XO;dsimp only[ev];rw[h32,ht];exact⟨_,own',h1,h2,_,h3⟩
end
open Go
theorem q8D(n:Nat):(List.replicate n [uv 0]).flatten=(List.replicate n (0:Int)).map uv++ []:=by
 rw[zC,ZR]
 induction n with
 |zero=>rfl
 |succ n ih=>rw[yr,Z2,ih,yr];rfl
theorem qkO(l:List Int):(l.map q09).flatten=l.map uv:=by
 induction l with
 |nil=>rfl
 |cons x l ih=>rw[zF,Z2,ih,zF];rfl
theorem qkL{W0:World}{own:Own}{f:Fr}{b:Nat}{K:Value→Own→Prop}(h6:f 6=ptr b)(h7:f 7= .int .i64 0)(hk:K (.tuple #[ptr b, .int .i64 0]) own):qak W0 f own [.tmp 6, .tmp 7] fun vs=>K (qh7 vs) own:=by
 unfold qak;dsimp only;rw[h6];refine Mv.mk ?_;rw[h7];exact Mv.mk hk
section
variable{W0:World}{own:Own}{c:Cfg}
theorem qiO{ia:Option Addr}{il:List Int}{ic O n:Nat}(hc:qH c=0)(h0:c.c0=0∧c.c1=0∧c.c2=0∧c.c3=0)(hb:qA c=0)(hI:RdE q09 1 W0 own ia il)(hil:(il.length:Int)=c.words)(hi1:il≠ [])(hi2:il.length≤1000)(hO:c.orecs=(O:Int))(hO2:O≤1000)(hn1:1≤n)(hn:n≤16):
  qt Tryz.prog W0 47 [c.v, .int .i64 n, .slice ia il.length ic] own fun v own'=>∃mh:MH,(v= .tuple #[ptr mh.mb, .int .i64 0]∧mh.ok (ms0 il O n).L)∧Ent W0 own' (mh.O (ms0 il O n)++own):=by
 refine sH [2] ?_;have hc1:=fun own=>q1i W0 own c
 rw[hc] at hc1;have hls:=fun(own':Own)=>qfw (W0:=W0) (own:=own') h0 hb
 obtain⟨w,o,bs,c0,c1,c2,c3,r,wr,al,fr,ck,st⟩:=c;dsimp only at hil hO;dsimp only[Cfg.v,Cfg.cs] at hc1 hls ⊢;subst hO
 repeat'((try(conv=>whnf));first|(refine fH ?_)|(refine fD ?_)|(refine fG ?_)|(refine fK ?_)|(refine qf (fun b3 hb3=> ?_))|((apply qe);first|((refine qd (hc1 _) ?_))|((refine qi (hls _) (fun y v hv=> ?_);(obtain⟨hb,nb⟩:=y;subst hv))))|(refine fO ?_)|(refine fA ?_)|(refine fL ?_))
 refine qh1 (JE ⟨ia,il,ic,b3,hb,nb,O,n⟩ (q0K q09 49 hb [0,0,0,0]::q0K q09 49 nb []::(b3,fun z=>z=Obj.cells #[.int .i64 w, .int .i64 O, .int .i64 bs, .int .i64 c0, .int .i64 c1, .int .i64 c2, .int .i64 c3, .int .i64 r, .int .i64 wr, .int .i64 al, .int .i64 fr, .int .i64 ck, .bool st] 27)::own))
  ⟨⟨0,[],none,0,[],fun _=>0⟩,⟨fun _ _ _ h=>(by cases h),rfl,rfl,rfl,rfl,rfl,fun _ _ h=>(by cases h),fun h=>(by cases h),fun h=>(by cases h),List.Perm.refl _⟩⟩ ?_ ?_
 ·rintro l f own' ⟨X,hJ⟩ hl;have hL:∀j,j<29→l j=true:=hl
  clear hl;have hB:=hJ.b (hL 2 Y7);obtain⟨hm1,hm2⟩:=hJ.m (hL 0 Y7)
  rcases hB.how with ⟨e, -⟩|⟨b0,rest,ha,hD,hlen,hle⟩
  ·exact absurd e hi1
  have hlen':il.length*1+rest.length=X.c1*1:=hlen;have hf6:=hJ.v 27 Y7 Y7 (hL 27 Y7);have hf7:=hJ.v 28 Y7 Y7 (hL 28 Y7);have hT:pcN ⟨ia,il,ic,b3,hb,nb,O,n⟩ X l= [(X.mp,q2C X.ml)]++(X.D1++([(X.e 9,rpP O)]++([(X.e 11,rpP 1)]++([(X.e 13,rpP 1)]++([(X.e 15,rpP 1)]++([(X.e 18,rpP n)]++ [(X.e 26,mmP X.mp)])))))):=by
   unfold pcN;rw[hL 0 Y7,hL 2 Y7,hL 9 Y7,hL 11 Y7,hL 13 Y7,hL 15 Y7,hL 18 Y7,hL 26 Y7];rfl
  have hE:=Ent.of_perm (W0:=W0) hJ.o;rw[hT,hD] at hE;refine qkL (W0:=W0) (K:=fun v own'=>∃mh:MH,(v= .tuple #[ptr mh.mb, .int .i64 0]∧mh.ok (ms0 il O n).L)∧Ent W0 own' (mh.O (ms0 il O n)++own)) hf6 hf7 ?_;refine⟨⟨X.e 26,X.mp,fun k=>([b0,X.e 9,X.e 11,X.e 13,X.e 15,X.e 18,hb,nb]:List Nat).getD k 0,fun k=>if k=0 then rest else [],fun k=>([il.length,O,1,1,1,n,4,0]:List Nat).getD k 0,X.ml⟩,⟨rfl,?_⟩,?_⟩
  ·refine⟨fun k hk=> ?_,fun k hk=> ?_,rfl,fun k hk=> ?_⟩
   ·rw[hm2 k hk,if_pos (hL _ (by revert k;decide))];have h8:k=0∨k=1∨k=2∨k=3∨k=4∨k=5∨k=6∨k=7:=Y6
    rcases h8 with rfl|rfl|rfl|rfl|rfl|rfl|rfl|rfl
    ·show some (some (Value.slice X.a1 il.length X.c1))=some (some (Value.slice (some ⟨b0,0,none⟩) il.length (il.length+rest.length)));rw[ha,show X.c1=il.length+rest.length by omega]
    all_goals rfl
   ·have h8:k=0∨k=1∨k=2∨k=3∨k=4∨k=5∨k=6∨k=7:=Y6
    rcases h8 with rfl|rfl|rfl|rfl|rfl|rfl|rfl|rfl <;>first|rfl|exact zJ
   ·have h8:k=0∨k=1∨k=2∨k=3∨k=4∨k=5∨k=6∨k=7:=Y6
    rcases h8 with rfl|rfl|rfl|rfl|rfl|rfl|rfl|rfl
    ·show il.length≤1000000;omega
    ·show O≤1000000;omega
    ·show 1≤1000000;decide
    ·show 1≤1000000;decide
    ·show 1≤1000000;decide
    ·show n≤1000000;omega
    ·show 4≤1000000;decide
    ·show 0≤1000000;decide
  ·refine hE.trans ?_;unfold rpP;rw[q8D,q8D,q8D,qkO];show Ent W0 _ ((X.e 26,mmP X.mp)::(X.mp,q2C X.ml)::(b0,fun o=>o=Obj.cells (il.map uv++rest).toArray 49)::(X.e 9,fun o=>o=Obj.cells ((List.replicate O (0:Int)).map uv++ []).toArray 49)::(X.e 11,fun o=>o=Obj.cells ((List.replicate 1 (0:Int)).map uv++ []).toArray 49)::(X.e 13,fun o=>o=Obj.cells ((List.replicate 1 (0:Int)).map uv++ []).toArray 49)::(X.e 15,fun o=>o=Obj.cells ((List.replicate 1 (0:Int)).map uv++ []).toArray 49)::(X.e 18,fun o=>o=Obj.cells ((List.replicate n (0:Int)).map uv++ []).toArray 49)::(q0K q09 49 hb [0,0,0,0])::(q0K q09 49 nb [])::own);simp only[zl,zi];exact sbE
 ·exact⟨fun l f own' hl _ ⟨X,hJ⟩=>⟨fun b _=>⟨_,hJ.mkm hl b⟩⟩,
  fun l f own' _ _ ⟨X,hJ⟩=>hJ.xmov 1 2 hJ.f2 Y7 rfl (fun q hq e=>absurd e ((by decide:∀q∈clN,q.1≠1) q hq)),
  fun l f own' hl hd ⟨X,hJ⟩=>by
   change q0w Tryz.prog W0 own' _ [f 33] _
   rw[show f 33= .slice ia il.length ic from (hJ.v 1 Y7 Y7 (hd 1 Y7))];refine q99 (qK (W0:=W0) (own:=own') (cap:=ic) (hI.ent (hJ.ent.trans (Ent.of_sub ((zT _ _).trans ((zT _ _).trans (zT _ _)))))) Y6) rfl rfl fun y v hv=> ?_
   obtain⟨a,c,D⟩:=y;obtain⟨rfl,hB⟩:=hv;exact⟨_,hJ.cln hl hB⟩,
  fun l f own' _ _ ⟨X,hJ⟩=>hJ.xmov 3 10 hJ.f10 Y7 rfl (fun q hq e=>absurd e ((by decide:∀q∈clN,q.1≠3) q hq)),
  fun l f own' _ hd ⟨X,hJ⟩=>by
   unfold XO;dsimp only[ev];rw[show f 35=zsl nb 0 from (hJ.v 3 Y7 Y7 (hd 3 Y7))];exact⟨X,hJ.keep (i:=4) Y7 Y7 Y7 rfl (fun q hq e=>absurd e ((by decide:∀q∈clN,q.1≠4) q hq)) Y7 Y7⟩,
  fun l f own' _ hd ⟨X,hJ⟩=>by
   unfold XO;dsimp only[ev];rw[show f 34= .slice X.a1 il.length X.c1 from (hJ.v 2 Y7 Y7 (hd 2 Y7)),show f 36= .int .i64 ((0:Nat):Int) from (hJ.v 4 Y7 Y7 (hd 4 Y7))];exact⟨.inl ⟨rfl,(hJ.b (hd 2 Y7)).le,X,hJ.keep (i:=5) Y7 Y7 Y7 rfl (fun q hq e=>by have:=(by decide:∀q∈clN,q.1=5→q.2=2) q hq e;rw[this];exact hd _ Y7) Y7 Y7⟩⟩,
  fun l f own' _ hd ⟨X,hJ⟩=>hJ.xmup 0 37 1 Y7 Y7 (hJ.v 5 Y7 Y7 (hd 5 Y7)) (hJ.v 0 Y7 Y7 (hd 0 Y7)) (hd 0 Y7) (hd 5 Y7),
  fun l f own' _ _ ⟨X,hJ⟩=>by
   unfold XO;dsimp only[ev];rw[hJ.f3];exact⟨X,hJ.keep (i:=7) Y7 Y7 Y7 rfl (fun q hq e=>absurd e ((by decide:∀q∈clN,q.1≠7) q hq)) Y7 Y7⟩,
  fun l f own' _ hd ⟨X,hJ⟩=>by
   unfold XO;dsimp only[ev];rw[show f 38= .pointer (some ⟨b3,0+1,none⟩) from (hJ.v 7 Y7 Y7 (hd 7 Y7))];exact⟨.int .i64 O,q0E (hJ.o.mem_iff.2 (zR _ (zp _ (zp _ zm)))) rfl,X,hJ.keep (i:=8) Y7 Y7 Y7 rfl (fun q hq e=>absurd e ((by decide:∀q∈clN,q.1≠8) q hq)) Y7 Y7⟩,
  fun l f own' hl hd ⟨X,hJ⟩=>hJ.xmk 9 O _ _ (hJ.v 8 Y7 Y7 (hd 8 Y7)) (hJ.v 8 Y7 Y7 (hd 8 Y7)) Y6 hl Y7 ⟨fun _=>rfl,fun h=>by omega,fun h=>by omega⟩ (fun q hq e=>absurd e ((by decide:∀q∈clN,q.1≠9) q hq)),
  fun l f own' _ hd ⟨X,hJ⟩=>hJ.xmup 1 40 2 Y7 Y7 (hJ.v 9 Y7 Y7 (hd 9 Y7)) (hJ.v 0 Y7 Y7 (hd 0 Y7)) (hd 0 Y7) (hd 9 Y7),
  fun l f own' hl _ ⟨X,hJ⟩=>hJ.xmk 11 1 _ _ rfl rfl Y7 hl Y7 ⟨fun h=>by omega,fun _=>rfl,fun h=>by omega⟩ (fun q hq e=>absurd e ((by decide:∀q∈clN,q.1≠11) q hq)),
  fun l f own' _ hd ⟨X,hJ⟩=>hJ.xmup 2 41 3 Y7 Y7 (hJ.v 11 Y7 Y7 (hd 11 Y7)) (hJ.v 0 Y7 Y7 (hd 0 Y7)) (hd 0 Y7) (hd 11 Y7),
  fun l f own' hl _ ⟨X,hJ⟩=>hJ.xmk 13 1 _ _ rfl rfl Y7 hl Y7 ⟨fun h=>by omega,fun _=>rfl,fun h=>by omega⟩ (fun q hq e=>absurd e ((by decide:∀q∈clN,q.1≠13) q hq)),
  fun l f own' _ hd ⟨X,hJ⟩=>hJ.xmup 3 42 4 Y7 Y7 (hJ.v 13 Y7 Y7 (hd 13 Y7)) (hJ.v 0 Y7 Y7 (hd 0 Y7)) (hd 0 Y7) (hd 13 Y7),
  fun l f own' hl _ ⟨X,hJ⟩=>hJ.xmk 15 1 _ _ rfl rfl Y7 hl Y7 ⟨fun h=>by omega,fun _=>rfl,fun h=>by omega⟩ (fun q hq e=>absurd e ((by decide:∀q∈clN,q.1≠15) q hq)),
  fun l f own' _ hd ⟨X,hJ⟩=>hJ.xmup 4 43 5 Y7 Y7 (hJ.v 15 Y7 Y7 (hd 15 Y7)) (hJ.v 0 Y7 Y7 (hd 0 Y7)) (hd 0 Y7) (hd 15 Y7),
  fun l f own' _ _ ⟨X,hJ⟩=>hJ.xmov 17 1 hJ.f1 Y7 rfl (fun q hq e=>absurd e ((by decide:∀q∈clN,q.1≠17) q hq)),
  fun l f own' hl hd ⟨X,hJ⟩=>hJ.xmk 18 n _ _ (hJ.v 17 Y7 Y7 (hd 17 Y7)) (hJ.v 17 Y7 Y7 (hd 17 Y7)) Y6 hl Y7 ⟨fun h=>by omega,fun h=>by omega,fun _=>rfl⟩ (fun q hq e=>absurd e ((by decide:∀q∈clN,q.1≠18) q hq)),
  fun l f own' _ hd ⟨X,hJ⟩=>hJ.xmup 5 45 6 Y7 Y7 (hJ.v 18 Y7 Y7 (hd 18 Y7)) (hJ.v 0 Y7 Y7 (hd 0 Y7)) (hd 0 Y7) (hd 18 Y7),
  fun l f own' _ _ ⟨X,hJ⟩=>hJ.xmov 20 9 hJ.f9 Y7 rfl (fun q hq e=>absurd e ((by decide:∀q∈clN,q.1≠20) q hq)),
  fun l f own' _ hd ⟨X,hJ⟩=>hJ.xmup 6 46 7 Y7 Y7 (hJ.v 20 Y7 Y7 (hd 20 Y7)) (hJ.v 0 Y7 Y7 (hd 0 Y7)) (hd 0 Y7) (hd 20 Y7),
  fun l f own' _ _ ⟨X,hJ⟩=>hJ.xmov 22 10 hJ.f10 Y7 rfl (fun q hq e=>absurd e ((by decide:∀q∈clN,q.1≠22) q hq)),
  fun l f own' _ hd ⟨X,hJ⟩=>hJ.xmup 7 47 8 Y7 Y7 (hJ.v 22 Y7 Y7 (hd 22 Y7)) (hJ.v 0 Y7 Y7 (hd 0 Y7)) (hd 0 Y7) (hd 22 Y7),
  fun l f own' _ hd ⟨X,hJ⟩=>hJ.xmov 24 32 (hJ.v 0 Y7 Y7 (hd 0 Y7)) Y7 rfl (fun q hq e=>by have:=(by decide:∀q∈clN,q.1=24→q.2=0) q hq e;rw[this];exact hd _ Y7),
  fun l f own' _ hd ⟨X,hJ⟩=>by
   unfold XO;dsimp only;simp only[q1T,qba,ev,show f 48= .map (some X.mp) from (hJ.v 24 Y7 Y7 (hd 24 Y7))];exact⟨X,hJ.keep (i:=25) Y7 Y7 Y7 rfl (fun q hq e=>by have:=(by decide:∀q∈clN,q.1=25→q.2=24) q hq e;rw[this];exact hd _ Y7) Y7 Y7⟩,
  fun l f own' hl hd ⟨X,hJ⟩=>by
   unfold XO;dsimp only[ev];rw[show f 49= .agg #[.map (some X.mp)] from (hJ.v 25 Y7 Y7 (hd 25 Y7))];exact⟨fun b _ _=>⟨_,hJ.make (i:=26) b (mmP X.mp) hl Y7 rfl (fun q hq e=>by have:=(by decide:∀q∈clN,q.1=26→q.2=25) q hq e;rw[this];exact hd _ Y7) ⟨fun h=>by omega,fun h=>by omega,fun h=>by omega,fun _=>rfl⟩⟩⟩,
  fun l f own' _ hd ⟨X,hJ⟩=>hJ.xmov 27 50 (hJ.v 26 Y7 Y7 (hd 26 Y7)) Y7 rfl (fun q hq e=>by have:=(by decide:∀q∈clN,q.1=27→q.2=26) q hq e;rw[this];exact hd _ Y7),
  fun l f own' _ _ ⟨X,hJ⟩=>by
   unfold XO;dsimp only[ev];exact⟨X,hJ.keep (i:=28) Y7 Y7 Y7 rfl (fun q hq e=>absurd e ((by decide:∀q∈clN,q.1≠28) q hq)) Y7 Y7⟩,
  trivial⟩
end
open Go
theorem q8X{c:Cfg}{n:Nat}{y:TW}:∀(L:List TW) (k:Nat),TsO c n k (L++ [y])=TsO c n k L++ThO c n (k+L.length) y
 | [],k=>by
  show ThO c n k y++ []= []++ThO c n (k+0) y;rw[zC,zi,Zy]
 |z::L,k=>by
  rw[zl,TsO,TsO,q8X L (k+1),zd,zG,show k+1+L.length=k+(L.length+1) by omega]
theorem qgQ{α β γ:Type}{L:List α}{l:List β}{f:α→γ}{g:β→γ}(hl:L.length=l.length)(h:∀(t:Nat) (y:α),L[t]? =some y→∃z,l[t]? =some z∧f y=g z):L.map f=l.map g:=by
 refine Zf fun j=> ?_
 rw[zI,zI];cases e:L[j]? with
 |none=>rw[zX (by rw[←hl];exact List.getElem?_eq_none_iff.1 e)];rfl
 |some y=>obtain⟨z,h1,h2⟩:=h j y e;rw[h1];exact congrArg some h2
section
variable{W0:World}{own:Own}{c:Cfg}
theorem qiV{ia pa ka:Option Addr}{il ks:List Int}{ic pc kc O:Nat}{ps:List PH}(hF:qC W0)(hcs:csM c il.length ps ks=(0,0,0))(hc:qH c=0)(h0:c.c0=0∧c.c1=0∧c.c2=0∧c.c3=0)(hb:qA c=0)(hI:RdE q09 1 W0 own ia il)(hil:(il.length:Int)=c.words)(hi1:il≠ [])(hi2:il.length≤1000)(hO:c.orecs=(O:Int))(hO2:O≤1000)
  (hP:RdE PH.enc 1 W0 own pa ps) (hQ:∀h∈ps,RdE Ins.enc 5 W0 own h.a h.p) (hK:RdE qx 1 W0 own ka ks) (hn1:1≤ps.length) (hn:ps.length≤16) (hck:∀h∈ps,qw h.p=(0,0)) (hpl:∀h∈ps,h.p.length≤100000):
  qt Tryz.prog W0 25 [qaG c ia il.length ic pa ps.length pc ka ks.length kc] own fun v own'=>∃M:MQ,(v= .tuple #[ptr M.b, .int .i64 0, .int .i64 0, .int .i64 0]∧M.ok W0 c ps.length (ms0 il O ps.length) [] []∧M.L.map TW.p=ps.map PH.p∧M.L.map TW.x=ps.map fun h=>q2J h.p)∧Ent W0 own' (M.O c ps.length (ms0 il O ps.length) [] own):=by
 refine sH [] ?_;have hc1:=fun(own':Own) (m:qv own' own)=>qln (c:=c) (ia:=ia) (il:=il.length) (ic:=ic) (pc:=pc) (kc:=kc) (own:=own') hF hP.up (fun h hh=>(hQ h hh).up) hK.up
 rw[hcs] at hc1;have hcn:=fun(own':Own) (m:qv own' own)=>qiO (W0:=W0) (own:=own') (ic:=ic) hc h0 hb hI.up hil hi1 hi2 hO hO2 hn1 hn
 have htn:=fun(own':Own) (t:Nat) (a:Option Addr) (cap:Nat) (p:List Ins) (hck:qw p=(0,0)) (hpl:p.length≤100000) (ht:t<ps.length) (hR:RdE Ins.enc 5 W0 own' a p)=>qjd (W0:=W0) (own:=own') (t:=t) (n:=ps.length) (cap:=cap) hF hc hck ht hn hR hpl
 dsimp only[Cfg.v,Cfg.cs] at hcn htn;dsimp only[qnz] at hc1
 repeat'((try(conv=>whnf));first|(refine fD ?_)|(refine qf (fun bk hbk=> ?_))|((apply qe);first|((refine qd (hc1 _ Y9) ?_))|((refine qi (hcn _ Y9) (fun mh v hv=> ?_);(obtain⟨rfl,hmh⟩:=hv))))|(refine fO ?_)|(refine fA ?_)|(refine fL ?_)|(refine fQ ?_)|(refine fN ?_))
 rename_i b1 hb1;refine qX (σ:=Nat×List TW×Option Addr×Nat×Own) (fun s=> [(40, .int .i64 s.1)]) (fun s=>(bk,fun z=>z=Obj.cells #[ptr mh.mb, .slice s.2.2.1 (s.2.1.map fun y=>y.h.b).length s.2.2.2.1, .slice none 0 0, .slice none 0 0] 107 (0,0))::
   (b1,fun z=>z=Obj.cells #[.int .i64 c.words, .int .i64 c.orecs, .int .i64 c.base, .int .i64 c.c0, .int .i64 c.c1, .int .i64 c.c2, .int .i64 c.c3, .int .i64 c.reads, .int .i64 c.writes, .int .i64 c.allocs, .int .i64 c.frees, .int .i64 c.clock, .bool c.strong, .slice ia il.length ic, .slice pa ps.length pc, .slice ka ks.length kc] 31 (0,0))::
   (mh.O (ms0 il O ps.length)++(s.2.2.2.2++(TsO c ps.length 0 s.2.1++own))))
  (fun s=>s.1≤ps.length∧s.2.1.length=s.1∧qu qmb 114 1 s.2.2.1 s.2.2.2.1 (s.2.1.map fun y=>y.h.b) s.2.2.2.2∧∀(t:Nat) (y:TW),s.2.1[t]? =some y→y.ok W0 c ps.length t∧∃h,ps[t]? =some h∧y.x=q2J h.p∧y.p=h.p) (fun s=>ps.length-s.1) (0,[],none,0,[]) ⟨zq _,rfl,qu.nil,fun _ _ h=>(by simp at h)⟩ (eF) (by dsimp only[TsO];simp only[zi];exact sbE) rfl ?_
 rintro⟨i,L,ta,tc,tD⟩ junk ⟨hi,hLl,hBt,hLo⟩;dsimp only at hi hLl hBt hLo ⊢
 by_cases hlt:i<ps.length
 ·obtain⟨x,hx⟩:∃x,ps[i]? =some x:=⟨_,z6 hlt⟩
  have hlt':(i:Int)<ps.length:=Y6;have hxm:=zg hx;have hxQ:=hQ x hxm;have hxk:=hck x hxm;have hxl:=hpl x hxm;obtain⟨xa,xc,xp⟩:=x;dsimp only at hxQ hxk hxl;have hth:=fun(own':Own) (m:qv own' own)=>htn own' i xa xc xp hxk hxl hlt hxQ.up
  have hml:(L.map fun y=>y.h.b).length≤16:=by rw[zk];omega
  repeat'((try(conv=>whnf));first|(refine fF ?_)|(refine qf (fun be hbe=> ?_))|(apply q0p (enc:=qmb) (T:=114) y.h.b hBt;(exact rfl);(exact rfl);(omega);(exact rfl);(exact rfl);(omega);intro a5 c5 D5 hb5)|((apply gLd);first|(refine q0r hP hx rfl ?_))|((apply qJ);first|((refine ixE hP hx ?_ ?_;(first|rfl|omega))))|((apply qe);first|((refine qi (hth _ Y9) (fun y v hv=> ?_);(obtain⟨rfl,hyo,hyx,hyp⟩:=hv))))|(refine fB ?_)|(refine fO ?_)|(refine fA ?_)|(refine fQ ?_)|(refine fN ?_))
  all_goals
   have hmp:(L.map fun y=>y.h.b)++ [y.h.b]=(L++ [y]).map fun y=>y.h.b:=by rw[zH];rfl
   refine⟨(i+1,L++ [y],a5,c5,D5),⟨hlt,by dsimp only;rw[z8,hLl];rfl,by dsimp only;rw[←hmp];exact hb5,fun t z hz=> ?_⟩,by simp only;omega,(eF),?_⟩
   ·dsimp only at hz
    by_cases ht:t<L.length
    ·rw[zy ht] at hz;exact hLo t z hz
    ·have ht2:t=L.length:=by
      have:=(z7.1 hz).1;rw[z8,zE] at this;omega
     subst ht2;rw[zP (zu _),y0] at hz;cases hz;rw[hLl];exact⟨hyo,_,hx,hyx,hyp⟩
   ·dsimp only;rw[q8X,hLl,zD i,←hmp,z8];simp only[zd];exact sbE
 ·obtain rfl:i=ps.length:=Y6;have hlt':¬(ps.length:Int)<ps.length:=Y6
  repeat'((try(conv=>whnf));first|(refine fG ?_))
  all_goals exact⟨⟨bk,mh,ta,tc,tD,none,0,[],none,0,[],[],[],L⟩,⟨rfl,⟨hmh,hBt.rd,qu.nil,qu.nil,fun _ h=>(by cases h),fun t y hy=>(hLo t y hy).1,zu _,rfl⟩,qgQ hLl fun t y hy=>by obtain⟨_,h,h1,_,h2⟩:=hLo t y hy;exact⟨h,h1,h2⟩,qgQ hLl fun t y hy=>by obtain⟨_,h,h1,h2,_⟩:=hLo t y hy;exact⟨h,h1,h2⟩⟩,by dsimp only[MQ.O];simp only[zi];exact sbE⟩
end
open Go
section
variable{W0:World}{own:Own}{c:Cfg}{t n:Nat}{p:List Ins}{h:TH}{x:GT}
theorem q6z{a:Option Addr}{l:List StM}{cap:Nat}(hR:RdE StM.enc 9 W0 own a l)(hl:l.length≤1000000000):
  qt Tryz.prog W0 35 [.slice a l.length cap] own fun v own'=>∃s:Option Addr×Nat×Own,(v= .slice s.1 l.length s.2.1∧qu StM.enc 113 9 s.1 s.2.1 l s.2.2)∧Ent W0 own' (s.2.2++own):=by
 refine sH [] ?_;cases a with
 |none=>
  have hn:l= []:=by
   by_cases h:l= []
   ·exact h
   ·have:=hR.isS h;cases this
  subst hn
  repeat'((try(conv=>whnf));first|(refine fE ?_))
  exact⟨(none,0,[]),⟨rfl,qu.nil⟩,(eC)⟩
 |some a=>
  repeat'((try(conv=>whnf));first|(refine fD ?_)|(refine q62 (enc:=StM.enc) (l:= []) (l2:=l) qu.nil (At.head (D:= []) (r:=_)) hR.up rfl rfl Y6 (fun _ _=>rfl) (fun _=>by simp;omega) (fun a1 c1 D1 hB1=> ?_);(rw[zM,zD l.length]);(apply Stop.h))|(refine qf (fun bk hbk=> ?_)))
  refine Stop.mk ?_;rw[zi] at hB1;exact⟨(a1,c1,D1),⟨rfl,hB1⟩,Ent.of_sub ((zT _ own).append_left D1)⟩
theorem qdt [mm:qy h.b (thP c t n p h x) own]:qE Tryz.prog W0 36 [ptr h.b] own (.agg x.th.enc.toArray):=by
 refine qg (sH [] ?_);have hL:∀{own':Own} {K:Array Value→Prop},Ent W0 own' own→K x.th.enc.toArray→LdN W0 own' ⟨h.b,0+32,none⟩ 11 K:=fun he hK=>by
  obtain⟨vs,h1,h2,h3⟩:=q1n (W0:=W0) (own:=own) (n:=11) (off:=0+32) (K:=fun v=>v=x.th.enc.toArray) x.th.enc mm.h rfl rfl rfl;subst h3;exact⟨_,h1,fun w hw=>h2 w (he w hw),hK⟩
 repeat'((try(conv=>whnf));first|(refine fD ?_)|(refine hL ?_ ?_;exact sbE)|(refine fL ?_)|(refine fM ?_)|(refine qf (fun bk hbk=> ?_)))
 all_goals exact⟨rfl,(eC)⟩
theorem qje [mm:qy h.b (thP c t n p h x) own] [me:qv own h.oD](hh:qu ObM.enc 78 3 h.oa h.oc x.obs h.oD)(hl:x.obs.length≤1000000):qt Tryz.prog W0 37 [ptr h.b] own fun v own'=>
  ∃s:Option Addr×Nat×Own,(v= .slice s.1 x.obs.length s.2.1∧qu ObM.enc 78 3 s.1 s.2.1 x.obs s.2.2)∧Ent W0 own' (s.2.2++own):=by
 refine sH [] ?_;have hc:Cl W0 own h.b 44 (.slice h.oa x.obs.length h.oc):=qk mm rfl;have hcl:=q3X (W0:=W0) (own:=own) (cap:=h.oc) ((hh.rd (W0:=W0)).up) Y6
 repeat'((try(conv=>whnf));first|(refine fD ?_)|(refine q0d hc ?_)|((apply qe);first|((refine qi hcl (fun y v hv=> ?_);(obtain⟨a3,c3,D3⟩:=y;obtain⟨rfl,hB3⟩:=hv;dsimp only at hB3)))))
 all_goals exact⟨(a3,c3,D3),⟨rfl,hB3⟩,sbE⟩
end
end Go.Proofs.YtbhbldllneadeaaGreatDoor
