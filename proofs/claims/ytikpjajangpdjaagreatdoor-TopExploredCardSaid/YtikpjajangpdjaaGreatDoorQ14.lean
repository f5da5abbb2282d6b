/- What the laws share, part 14. No condition. -/
import Derived.Test.YtikpjajangpdjaaGreatDoorQ13
set_option maxHeartbeats 16000000
set_option maxRecDepth 10000
namespace Go.Proofs.YtikpjajangpdjaaGreatDoor
open Go
theorem qea{α:Type}{W0:World}{own:Own}{enc:α->jf}{sz:Nat}{a:j9}{l:List α}{T T2:TypeId}{bytes cap q k:Nat}{zs:jf}{D:Own}{C:Own->Own}{ys:jh}{fz:Nat×Nat}{K:Value->Own->Prop}(x:α)(u:qo enc T sz a cap l D)(z:k=l.length) [m:AtC D own C] [m2:qy q (j8 ys T2 fz) own](H:ys.toList=enc x)
  (I:zs.length=sz) (G:0<sz) (hw:(enc x).length=sz) (s:(enc x).all q2G=true) (hb:(k+1)*bytes<=140737488355328)
  (w:∀j d g,qo enc T sz j d (l++ [x]) g->K (.slice j (k+1) d) (C g)):qb3 W0 own T sz bytes zs a k cap (some ⟨q,0,none⟩) 1 K:=by
 subst z;exact q0z x u H I G hw s hb w
section
variable{W0:World}{own Q:Own}{c:Cfg}{t n:Nat}{p:jg}{h:TH}{x:GT}{k:Int}{b e:Nat}
theorem qnM{a:AT}{ah:AH}{kd:Int}{bi:Ins}{R:Own}(hF:qz W0)(hh:h.ok x)(hl:x.seen.length<=100000)(hl2:x.obs.length<=100000)(I:h.ap=ptr ah.b)(H:RdE Ins.enc 5 W0 R h.ca p)(hp:p.length<=100000)(d:p[x.bg]? =some bi)(af:bi.op=7)(W:(qw p).2=0)(hend:q0v p x.bg<=100000)(hcode:0<=a.code/\a.code<=100)(Q:Own) [eq:qr Q R]:
  jn W0 220 [ptr h.b] ((h.b,thP c t n p h x)::(ah.b,atP c t ah a kd)::(h.sD++(h.oD++Q))) fun v own'=>
  ∃s:TH,(v= .tuple #[]/\s.b=h.b/\s.ap= .pointer none/\s.ca=h.ca/\s.lb=h.lb/\s.ok (x.endG p a))/\Ent W0 own' ((s.b,thP c t n p s (x.endG p a))::(s.sD++(s.oD++Q))):=by
 refine sH (jq 13 3 (0::(jq 10 3 (24::25::27::30::0::(jq 7 3 (18::0::(jq 18 3 (0::(jq 13 3 (30::32::33::35::38::0::(jq 12 3 [28,0]))))))))))) ?_;obtain⟨hb,ap,lb,ca,cc,sa,sc,sD,oa,oc,oD⟩:=h;obtain⟨j,q⟩:=hh;dsimp only at I H j q ⊢;subst I;have g:=fun(own':Own) (m1:qy ah.b (atP c t ah a kd) own')=>q8q (W0:=W0) (k:=a.code) (qk m1 rfl)
 have Y:=fun(own':Own) (m1:qy ah.b (atP c t ah a kd) own')=>qg9 (W0:=W0) (own:=own') (b:=ah.b) (qk m1 rfl)
 have u:=fun(own':Own) (m:qr own' R)=>q9p (W0:=W0) (own:=own') (cap:=cc) hF (H.up) Yu (x.bg:Int)
 rw[q4s d,if_pos ⟨W,af⟩] at u;have aj:=j.rd (W0:=W0);have hlen:(x.obs++x.seen).length=x.obs.length+x.seen.length:=z8;have U:a.code=1\/a.code=9\/(a.code≠1/\a.code≠9):=Yu
 rcases U with K|G|⟨Z,ae⟩
 ·rw[qlT K];rw[K] at g
  repeat'((try conv=>whnf);first|refine fE ?_|refine fD ?_|refine qhM q aj rfl rfl Yu (fun _ _=>rfl) (fun _=>by omega) fun a2 c2 D2 V=>?_|refine qf fun bk J=>?_|apply qea (enc:=ObM.enc) (T:=94) (⟨x.bg,3,1⟩:ObM) V hlen.symm;exact rfl;exact rfl;omega;exact rfl;exact rfl;omega;intro a5 C z o|(apply qe;first|refine qi (Y _ Yx) fun y v w=>?_;subst w|refine q1G (q6o (c:=c) (t:=t) (n:=n) (p:=p) (h:=⟨hb, .pointer none,lb,ca,cc,sa,sc,sD,a5,C,z⟩) (x:={x with at':=none,obs:=x.obs++x.seen++ [⟨x.bg,3,1⟩],tr:=0,th:={x.th with oc:=1}}) (q0v p x.bg+1) rfl _) ?_ ?_ ?_ fun _ v w=>?_;(solve|exact rfl|(unfold thP;simp only[z8];rfl));exact rfl;exact rfl;subst w)|(apply qC;first|refine qj (fun ex=>g _ Yx) ?_|refine qj (fun ex=>u _ Yx) ?_)|refine fB ?_|refine fC ?_|refine fA ?_|refine fN ?_)
  all_goals exact⟨⟨hb, .pointer none,lb,ca,cc,sa,sc,sD,a5,C,z⟩,⟨rfl,rfl,rfl,rfl,rfl,⟨j,o⟩⟩,sbE⟩
 ·rw[G] at g;have N:((p[x.bg]?).map (·.imm)).getD 0=bi.imm:=by rw[d];rfl
  by_cases O:(x.tr:Int)<bi.imm
  ·rw[qi5 G (by rw[N];exact O)]
   repeat'((try conv=>whnf);first|refine fE ?_|refine fD ?_|refine fF ?_|apply gLd;refine qpR H d rfl ?_|(apply qF;first|refine ixE H d ?_ ?_;(first|rfl|omega))|(apply qe;first|refine q1G (q6o (c:=c) (t:=t) (n:=n) (p:=p) (h:=⟨hb, .pointer none,lb,ca,cc,sa,sc,sD,oa,oc,oD⟩) (x:={x with at':=none,th:={x.th with rg:=x.sv}}) x.bg rfl _) ?_ ?_ ?_ fun _ v w=>?_;(solve|exact rfl|(unfold thP;simp only[z8];rfl));exact rfl;exact rfl;subst w)|apply qC;refine qj (fun ex=>g _ Yx) ?_|refine fA ?_|refine fQ ?_|refine fN ?_|refine fM ?_)
   all_goals exact⟨⟨hb, .pointer none,lb,ca,cc,sa,sc,sD,oa,oc,oD⟩,⟨rfl,rfl,rfl,rfl,rfl,⟨j,q⟩⟩,sbE⟩
  ·rw[qp2 G (by rw[N];exact O)]
   repeat'((try conv=>whnf);first|refine fE ?_|refine fD ?_|refine fG ?_|refine qf fun bk J=>?_|apply qea (enc:=ObM.enc) (T:=94) (⟨x.bg,3,5⟩:ObM) q rfl;exact rfl;exact rfl;omega;exact rfl;exact rfl;omega;intro a5 C z o|apply gLd;refine qpR H d rfl ?_|(apply qF;first|refine ixE H d ?_ ?_;(first|rfl|omega))|(apply qe;first|refine q1G (q6o (c:=c) (t:=t) (n:=n) (p:=p) (h:=⟨hb, .pointer none,lb,ca,cc,sa,sc,sD,a5,C,z⟩) (x:={x with at':=none,th:={x.th with rg:=x.sv,oc:=5},tr:=0,obs:=x.obs++ [⟨x.bg,3,5⟩]}) (q0v p x.bg+1) rfl _) ?_ ?_ ?_ fun _ v w=>?_;(solve|exact rfl|(unfold thP;simp only[z8];rfl));exact rfl;exact rfl;subst w)|(apply qC;first|refine qj (fun ex=>g _ Yx) ?_|refine qj (fun ex=>u _ Yx) ?_)|refine fB ?_|refine fC ?_|refine fA ?_|refine fQ ?_|refine fN ?_|refine fM ?_)
   all_goals exact⟨⟨hb, .pointer none,lb,ca,cc,sa,sc,sD,a5,C,z⟩,⟨rfl,rfl,rfl,rfl,rfl,⟨j,o⟩⟩,sbE⟩
 ·rw[qkp Z ae];generalize a.code=kc at*
  repeat'((try conv=>whnf);first|refine fG ?_|refine qf fun bk J=>?_|apply qea (enc:=ObM.enc) (T:=94) (⟨x.bg,3,kc⟩:ObM) q rfl;exact rfl;exact rfl;omega;exact rfl;exact rfl;omega;intro a5 C z o|(apply qe;first|refine q1G (q6o (c:=c) (t:=t) (n:=n) (p:=p) (h:=⟨hb, .pointer none,lb,ca,cc,sa,sc,sD,a5,C,z⟩) (x:={x with at':=none,th:={x.th with rg:=x.sv,oc:=kc},tr:=0,obs:=x.obs++ [⟨x.bg,3,kc⟩]}) (q0v p x.bg+1) rfl _) ?_ ?_ ?_ fun _ v w=>?_;(solve|exact rfl|(unfold thP;simp only[z8];rfl));exact rfl;exact rfl;subst w)|(apply qC;first|refine qj (fun ex=>g _ Yx) ?_|refine qj (fun ex=>u _ Yx) ?_)|refine fB ?_|refine fC ?_|refine fA ?_|refine fQ ?_|refine fN ?_|refine fM ?_)
  all_goals exact⟨⟨hb, .pointer none,lb,ca,cc,sa,sc,sD,a5,C,z⟩,⟨rfl,rfl,rfl,rfl,rfl,⟨j,o⟩⟩,sbE⟩
end
open Go
def AtO(W0:World)(c:Cfg)(t:Nat)(h:TH)(x:GT)(A:Own):Prop:=
 match x.at' with
 |none=>h.ap= .pointer none/\A= []
 |some a=>∃(ah:AH) (E:Own),h.ap=ptr ah.b/\ah.ok c a/\PhO W0 c t ah a E/\A=ah.O c t a a.ph.no a.ph.en E
structure EvO(W0:World)(ea:j9)(ec:Nat)(el:ji)(eD:Own):Prop where
 r:RdE EH.enc 6 W0 eD ea el
 c:el.length<=ec
 n:el.length<=1
 v:∀e∈el,(RdE qv 1 W0 eD e.ra e.rl/\RdE qv 1 W0 eD e.wa e.wl)/\e.rl.length<=100000/\e.wl.length<=100000
theorem EvO.nil{W0:World}:EvO W0 none 0 [] []:=⟨RdE.nil,zq _,zv _,fun _ h=>(by cases h)⟩
structure TR where
 h:TH
 A:Own
 ea:j9
 ec:Nat
 el:ji
 eD:Own
abbrev stV(s:StM):Value:= .agg #[j5 s.t,j5 s.ph,j5 s.at',j5 s.ac.k,j5 s.ac.c,j5 s.ac.i,j6 s.ac.got,j6 s.ac.put, .bool s.ac.dn]
abbrev TR.O(s:TR)(c:Cfg)(t n:Nat)(p:jg)(x:GT)(Q:Own):Own:=(s.h.b,thP c t n p s.h x)::(s.A++(s.h.sD++(s.h.oD++(s.eD++Q))))
structure TR.ok(W0:World)(s:TR)(c:Cfg)(t:Nat)(h:TH)(x:GT)(es:jl):Prop where
 b:s.h.b=h.b
 ca:s.h.ca=h.ca
 ok:s.h.ok x
 at':AtO W0 c t s.h x s.A
 ev:EvO W0 s.ea s.ec s.el s.eD
 em:s.el.map EH.m=es
 lb:s.h.lb=h.lb
 ap:h.ap≠ .pointer none->x.at'≠none->s.h.ap=h.ap
theorem AH.b_eq{h:AH}{b:Nat}(e:h.b=b):∃d:AH,h={d with b:=b}:=⟨h,by cases h;cases e;rfl⟩
section
variable{W0:World}{own Q E:Own}{c:Cfg}{t n:Nat}{p:jg}{h:TH}{x:GT}{k:Int}{b e:Nat}{a:AT}{ah:AH}{mh:MH}{m:MS}
theorem q2p(hb:Cl W0 own ah.b 31 (j5 a.ph.no)):jo W0 118 [ptr ah.b] own (.bool a.busy):=by
 have:=qgc hb;rw[show decide (a.ph.no≠0)=a.busy by unfold AT.busy;cases a.ph <;>rfl] at this;exact this
theorem qjy{m':MS}{g:AT}{ac:AcM}{ph:Int}(hh:h.ok x)(G:h.ap=ptr ah.b)(U:ah.ok c a)(hM:mh.ok m.L)(hP:PhO W0 c t ah a E)(Z:okA c t m a)(hz:qh c t m a=(m',g,ac,ph))(h3:ph≠3)(O:ph≠16\/g.dn=false)(hb:g.busy=true)(Q:Own):
  jn W0 119 [ptr h.b,ptr mh.mb] ((h.b,thP c t n p h x)::ah.O c t a a.ph.no a.ph.en (E++(mh.O m++(h.sD++(h.oD++Q))))) fun v own'=>
  ∃s:TR,(v= .tuple #[stV ⟨0,ph,x.ct,ac⟩, .slice s.ea s.el.length s.ec]/\s.ok W0 c t h {x with at':=some g} [])/\Ent W0 own' (s.O c t n p {x with at':=some g} (mh.O m'++Q)):=by
 refine sH (jq 12 3 [28,0]) ?_;have K:=fun Q=>q3f U hM hP Z Q
 unfold StQ AtQ at K;rw[hz] at K;dsimp only at K;obtain⟨H,ap,lb,ca,cc,sa,sc,sD,oa,oc,oD⟩:=h;obtain⟨w,u⟩:=hh;dsimp only at G w u ⊢;subst G;have q:=fun(y:AH) (own':Own) (W:qy y.b (atP c t y g g.ph.no) own')=>q2p (W0:=W0) (own:=own') (a:=g) (ah:=y) (qk W rfl)
 have I:=fun(y:AH) (own':Own) (W:qy y.b (atP c t y g g.ph.no) own')=>q0P (W0:=W0) (own:=own') (b:=y.b) (d:=g.dn) (qk W rfl)
 rw[hb] at q
 by_cases J:ph=16
 ·subst J;rw[O.resolve_left (fun h=>h rfl)] at I
  repeat'((try conv=>whnf);first|refine fH ?_|refine fD ?_|(apply qe;first|refine qd (T _ Yx) ?_|refine qd (o _ Yx) ?_|refine qx (b:=ah.b) (D:=AH.R ah c t a a.ph.en (E++(mh.O m++ []))) K (fun Q=>sbE) fun y v V=>?_;(obtain⟨N,E1⟩:=y;obtain⟨rfl,z,C,hyp⟩:=V;obtain⟨j,rfl⟩:=AH.b_eq z;have o:=q {j with b:=ah.b};have T:=I {j with b:=ah.b}))|refine fO ?_|refine fA ?_|refine fL ?_|refine fN ?_|refine fM ?_|refine qf fun Y R=>?_)
  all_goals exact⟨⟨⟨H,ptr ah.b,lb,ca,cc,sa,sc,sD,oa,oc,oD⟩,AH.O {j with b:=ah.b} c t g g.ph.no g.ph.en E1,none,0,[],[]⟩,⟨rfl,⟨rfl,rfl,⟨w,u⟩,⟨{j with b:=ah.b},E1,rfl,C,hyp,rfl⟩,EvO.nil,rfl,rfl,fun _ _=>rfl⟩⟩,by unfold TR.O;dsimp only;simp only[zd,zp,zk];exact sbE⟩
 ·repeat'((try conv=>whnf);first|refine fI ?_|refine fD ?_|refine fG ?_|refine fK ?_|(apply qe;first|refine qd (o _ Yx) ?_|refine qx (b:=ah.b) (D:=AH.R ah c t a a.ph.en (E++(mh.O m++ []))) K (fun Q=>sbE) fun y v V=>?_;(obtain⟨N,E1⟩:=y;obtain⟨rfl,z,C,hyp⟩:=V;obtain⟨j,rfl⟩:=AH.b_eq z;have o:=q {j with b:=ah.b}))|refine fO ?_|refine fA ?_|refine fL ?_|refine fN ?_|refine fM ?_|refine qf fun Y R=>?_)
  all_goals exact⟨⟨⟨H,ptr ah.b,lb,ca,cc,sa,sc,sD,oa,oc,oD⟩,AH.O {j with b:=ah.b} c t g g.ph.no g.ph.en E1,none,0,[],[]⟩,⟨rfl,⟨rfl,rfl,⟨w,u⟩,⟨{j with b:=ah.b},E1,rfl,C,hyp,rfl⟩,EvO.nil,rfl,rfl,fun _ _=>rfl⟩⟩,by unfold TR.O;dsimp only;simp only[zd,zp,zk];exact sbE⟩
end
open Go
section
variable{W0:World}{own Q E:Own}{c:Cfg}{t n:Nat}{p:jg}{h:TH}{x:GT}{k:Int}{b e:Nat}{a:AT}{ah:AH}
theorem qjC{kd:Int}{bi i:Ins}{H:Own}(J:qz W0)(K:h.ok x)(N:x.seen.length<=100000)(z:x.obs.length<=100000)(g:h.ap=ptr ah.b)(I:RdE Ins.enc 5 W0 H h.ca p)(O:p.length<=100000)(u:p[x.bg]? =some bi)(C:bi.op=7)(w:(qw p).2=0)(o:q0v p x.bg<=100000)(j:0<=a.code/\a.code<=100)(s:a.st=2)(Q:Own) [eq:qr Q H]:
  jn W0 159 [ptr h.b,i.v] ((h.b,thP c t n p h x)::(ah.b,atP c t ah a kd)::(h.sD++(h.oD++Q))) fun v own'=>
  ∃d:TH,(v= .tuple #[]/\d.b=h.b/\d.ap= .pointer none/\d.ca=h.ca/\d.lb=h.lb/\d.ok (x.ans p a i))/\Ent W0 own' ((d.b,thP c t n p d (x.ans p a i))::(d.sD++(d.oD++Q))):=by
 refine sH [] ?_;rw[qlv s];have he:=qnM (c:=c) (t:=t) (n:=n) (kd:=kd) J K N z g I O u C w o j Q;have q:=fun(own':Own) (R:qy ah.b (atP c t ah a kd) own')=>q9o (W0:=W0) (own:=own') (b:=ah.b) (k:=a.st) (qk R rfl)
 rw[s] at q;obtain⟨hb,ap,lb,ca,cc,sa,sc,sD,oa,oc,oD⟩:=h;dsimp only at g ⊢ he;subst g;obtain⟨op,ia,ib,ic,imm⟩:=i;dsimp only[Ins.v]
 repeat'((try conv=>whnf);first|refine fH ?_|refine fE ?_|refine fD ?_|(apply qe;first|refine qd (q _ Yx) ?_|refine ql he sbE ?_ ?_ fun y v G=>?_;exact rfl;exact rfl;obtain⟨rfl,G⟩:=G)|refine fA ?_|refine qf fun bk hbk=>?_)
 all_goals exact⟨y,⟨rfl,G⟩,Ent.refl⟩
theorem qjD{kd:Int}{i:Ins}(O:h.ok x)(U:x.seen.length<=100000)(o:h.ap=ptr ah.b)(w:x.th.pc<=1000000)(T:(i.op=10/\0<=i.a/\i.a<8)\/(i.op≠10/\i.op≠14))(C:a.st≠2)(Q:Own):
  jn W0 159 [ptr h.b,i.v] ((h.b,thP c t n p h x)::(ah.b,atP c t ah a kd)::(h.sD++(h.oD++Q))) fun v own'=>
  ∃g:TH,(v= .tuple #[]/\g.b=h.b/\g.ap=h.ap/\g.ca=h.ca/\g.lb=h.lb/\g.ok (x.ans p a i))/\Ent W0 own' ((g.b,thP c t n p g (x.ans p a i))::(ah.b,atP c t ah a kd)::(g.sD++(g.oD++Q))):=by
 refine sH [] ?_;have z:=fun(own':Own) (V:qy ah.b (atP c t ah a kd) own')=>q9o (W0:=W0) (own:=own') (b:=ah.b) (k:=a.st) (qk V rfl)
 have j:=fun(r:Int) H Q=>qnN (c:=c) (t:=t) (n:=n) (p:=p) (kd:=kd) (a:=a) (r:=r) H O U o Q (W0:=W0)
 obtain⟨hb,ap,lb,ca,cc,sa,sc,sD,oa,oc,oD⟩:=h;dsimp only at o ⊢ j;subst o;obtain⟨u,q⟩:=O;dsimp only at u q
 rcases T with ⟨d,H⟩|⟨d,I⟩
 ·rw[qlx C d];obtain⟨op,ia,ib,ic,imm⟩:=i;dsimp only[Ins.v] at d H ⊢;subst d;have j:=j ia H
  repeat'((try conv=>whnf);first|refine fI ?_|refine fE ?_|refine fD ?_|refine fG ?_|refine fK ?_|(apply qe;first|refine qd (z _ Yx) ?_|refine qx (b:=hb) (D:=(ah.b,atP c t ah a kd)::(sD++ [])) j (fun Q=>by simp only[zp,zd,zk];exact sbE) fun y v G=>?_;obtain⟨a5,N,K⟩:=y;obtain⟨rfl,s⟩:=G;dsimp only at s|refine qI (q2s (c:=c) (t:=t) (n:=n) (p:=p) (h:=⟨hb,ptr ah.b,lb,ca,cc,a5,N,K,oa,oc,oD⟩) (x:={x with th:={x.th with rg:=x.th.rg.set ia.toNat a.val},seen:=x.seen++ [⟨x.th.pc,1,a.val⟩]}) w _) fun _ v G=>?_;subst G)|refine fA ?_|refine qf fun R J=>?_)
  all_goals exact⟨⟨hb,ptr ah.b,lb,ca,cc,a5,N,K,oa,oc,oD⟩,⟨rfl,rfl,rfl,rfl,rfl,⟨s,q⟩⟩,sbE⟩
 ·rw[qlw C d];obtain⟨op,ia,ib,ic,imm⟩:=i;dsimp only[Ins.v] at d I ⊢
  repeat'((try conv=>whnf);first|refine fI ?_|refine fD ?_|refine fG ?_|refine fK ?_|(apply qe;first|refine qd (z _ Yx) ?_|refine qI (q2s (c:=c) (t:=t) (n:=n) (p:=p) (h:=⟨hb,ptr ah.b,lb,ca,cc,sa,sc,sD,oa,oc,oD⟩) (x:=x) w _) fun _ v G=>?_;subst G)|refine fA ?_|refine qf fun R J=>?_)
  all_goals exact⟨⟨hb,ptr ah.b,lb,ca,cc,sa,sc,sD,oa,oc,oD⟩,⟨rfl,rfl,rfl,rfl,rfl,⟨u,q⟩⟩,sbE⟩
end
open Go
abbrev evP(e:EH):Obj->Prop:=fun z=>z=Obj.cells #[j5 e.ev,j5 e.t,j5 e.k,j5 e.w, .slice e.ra e.rl.length e.rc, .slice e.wa e.wl.length e.wc] 100 (0,0)
theorem qe9{p:jg}{x:GT}{a:AT}{i:Ins}(h:a.st=2):(x.ans p a i).at'=none:=by
 rw[qlv h];unfold GT.endG GT.to;dsimp only
 (repeat' split) <;>rfl
theorem qlu{p:jg}{x:GT}{a:AT}{i:Ins}(h:a.st≠2):(x.ans p a i).at'=some a:=by
 unfold GT.ans;rw[if_neg h]
 split <;>rfl
section
variable{P:Program}{W0:World}{own D r r1 F:Own}{f f0:FuncId}{args args0:jf}{b:Nat}{p p':Obj->Prop}
theorem qlH{σ:Type}{R:σ->Value->Prop}{O:σ->Own->Own}{d:Own->Own}{K:Value->Own->Prop} [G:q1J b p own r1] [H:q2y D r1 r] [I:qr r F](h:∀Q,qr Q F->qq P W0 f0 args0 (d Q) fun v own'=>∃s,R s v/\Ent W0 own' (O s Q))(o:∀Q,Ent W0 ((b,p')::(D++Q)) (d Q))
  (j:p=p') (g:f=f0) (ea:args=args0) (z:∀s v,R s v->K v (O s r)):q0k P W0 own f args K:=by
 subst g;subst ea;subst j;exact⟨fun w hw=>(h r I w (o r w (Ent.of_perm (G.h.trans (H.h.cons _)) w hw))).mono fun _ _ ⟨_,_,he,C,s,u,q⟩=>⟨_,O s r,he,q _ C,z s _ u⟩⟩
theorem q1B{σ:Type}{R:σ->Value->Prop}{O:σ->Own->Own}{d:Own->Own}{K:Value->Own->Prop} [m1:q1J b p own r1] [m2:q2y D r1 r] [m3:qr r F](h:∀Q,qr Q F->qq P W0 f0 args0 (d Q) fun v own'=>∃s,R s v/\Ent W0 own' (O s Q))(o:∀Q,Ent W0 ((b,p')::(D++Q)) (d Q))(q:∀s v,R s v->K v (O s r))(j:p=p':=by exact rfl)(g:f=f0:=by exact rfl)(ea:args=args0:=by exact rfl):q0k P W0 own f args K:=qlH h o j g ea q
end
theorem ev1{W0:World}{b:Nat}{e:EH}{D:Own}(h:RdE qv 1 W0 ((b,evP e)::D) e.ra e.rl/\RdE qv 1 W0 ((b,evP e)::D) e.wa e.wl)(g:e.rl.length<=100000)(j:e.wl.length<=100000):EvO W0 (some ⟨b,0,none⟩) 1 [e] ((b,evP e)::D):=
 ⟨q1V zj (fun y d=>by rw[zf.1 d];rfl) Yw,zq _,zq _,fun y d=>by rw[zf.1 d];exact⟨h,g,j⟩⟩
section
variable{W0:World}{own Q E:Own}{c:Cfg}{t n:Nat}{p:jg}{h:TH}{x:GT}{k:Int}{b e:Nat}{a:AT}{ah:AH}{mh:MH}{m:MS}
theorem qjz{m':MS}{d:AT}{ac:AcM}(R:h.ok x)(j:h.ap=ptr ah.b)(G:ah.ok c a)(N:mh.ok m.L)(O:PhO W0 c t ah a E)(K:okA c t m a)(U:qh c t m a=(m',d,ac,3))(hb:d.busy=true)(Q:Own):
  jn W0 119 [ptr h.b,ptr mh.mb] ((h.b,thP c t n p h x)::ah.O c t a a.ph.no a.ph.en (E++(mh.O m++(h.sD++(h.oD++Q))))) fun v own'=>
  ∃s:TR,(v= .tuple #[stV ⟨0,3,x.ct,ac⟩, .slice s.ea s.el.length s.ec]/\s.ok W0 c t h {x with at':=some d} [⟨0,t,3,0,[],[]⟩])/\Ent W0 own' (s.O c t n p {x with at':=some d} (mh.O m'++Q)):=by
 refine sH (jq 12 3 [28,0]) ?_;have w:=fun Q=>q3f G N O K Q
 unfold StQ AtQ at w;rw[U] at w;dsimp only at w;obtain⟨z,ap,lb,ca,cc,sa,sc,sD,oa,oc,oD⟩:=h;obtain⟨u,q⟩:=R;dsimp only at j u q ⊢;subst j;have o:=fun(y:AH) (own':Own) (V:qy y.b (atP c t y d d.ph.no) own')=>q2p (W0:=W0) (own:=own') (a:=d) (ah:=y) (qk V rfl)
 rw[hb] at o
 repeat'((try conv=>whnf);first|refine fE ?_|refine fD ?_|refine qf fun J hbk=>?_|(apply qe;first|refine qd (C _ Yx) ?_|refine qx (b:=ah.b) (D:=AH.R ah c t a a.ph.en (E++(mh.O m++ []))) w (fun Q=>sbE) fun y v T=>?_;(obtain⟨ah1,E1⟩:=y;obtain⟨rfl,H,I,hyp⟩:=T;obtain⟨g,rfl⟩:=AH.b_eq H;have C:=o {g with b:=ah.b}))|refine fO ?_|refine fA ?_|refine fL ?_|refine fN ?_|refine fM ?_)
 all_goals exact⟨⟨⟨z,ptr ah.b,lb,ca,cc,sa,sc,sD,oa,oc,oD⟩,AH.O {g with b:=ah.b} c t d d.ph.no d.ph.en E1,some ⟨J,0,none⟩,1,[⟨0,t,3,0,none,[],0,none,[],0⟩],[(J,evP ⟨0,t,3,0,none,[],0,none,[],0⟩)]⟩,⟨rfl,⟨rfl,rfl,⟨u,q⟩,⟨{g with b:=ah.b},E1,rfl,I,hyp,rfl⟩,ev1 ⟨RdE.nil,RdE.nil⟩ (zv _) (zv _),rfl,rfl,fun _ _=>rfl⟩⟩,by unfold TR.O;dsimp only;simp only[zd,zp,zk];exact sbE⟩
theorem qdG{m':MS}{g:AT}{ac:AcM}(hh:h.ok x)(C:h.ap=ptr ah.b)(Y:ah.ok c a)(hM:mh.ok m.L)(hP:PhO W0 c t ah a E)(hA:okA c t m a)(hz:qh c t m a=(m',g,ac,16))(hd:g.dn=true)(U:g.code=1)(hb:g.busy=true)(Q:Own):
  jn W0 119 [ptr h.b,ptr mh.mb] ((h.b,thP c t n p h x)::ah.O c t a a.ph.no a.ph.en (E++(mh.O m++(h.sD++(h.oD++Q))))) fun v own'=>
  ∃s:TR,(v= .tuple #[stV ⟨0,16,x.ct,ac⟩, .slice s.ea s.el.length s.ec]/\s.ok W0 c t h {x with at':=some g} [⟨0,t,4,0,g.seen,g.ad.filter fun x=>decide (x<c.words)⟩])/\Ent W0 own' (s.O c t n p {x with at':=some g} (mh.O m'++Q)):=by
 refine sH (jq 12 3 [28,0]) ?_;have O:=fun Q=>q3f Y hM hP hA Q
 unfold StQ AtQ at O;rw[hz] at O;dsimp only at O;obtain⟨R,ap,lb,ca,cc,sa,sc,sD,oa,oc,oD⟩:=h;obtain⟨K,J⟩:=hh;dsimp only at C K J ⊢;subst C;have G:=fun(y:AH) (own':Own) (q:qy y.b (atP c t y g g.ph.no) own')=>q2p (W0:=W0) (own:=own') (a:=g) (ah:=y) (qk q rfl)
 rw[hb] at G;have I:=fun(y:AH) (own':Own) (q:qy y.b (atP c t y g g.ph.no) own')=>q0P (W0:=W0) (own:=own') (b:=y.b) (d:=g.dn) (qk q rfl)
 rw[hd] at I;have H:=fun(y:AH) (own':Own) (q:qy y.b (atP c t y g g.ph.no) own')=>q8q (W0:=W0) (own:=own') (b:=y.b) (k:=g.code) (qk q rfl)
 rw[U] at H;have ae:=fun(y:AH) (N:y.ok c g) (own':Own) (q:qy y.b (atP c t y g g.ph.no) own') (m2:qy y.g.b (lgP c.writes y.g.aa g.ad.length y.g.ca y.g.va g.vl.length y.g.cv y.g.ib y.g.P) own') (m3:qr own' y.g.aD) (m4:qr own' y.nD)=>
  q9n (W0:=W0) (own:=own') (b:=y.b) (gb:=y.g.b) (w:=c.words) (qk q rfl) (qk q rfl) (qk q rfl) (qk m2 rfl) ((N.hg.hA.rd (W0:=W0)).up) ((N.hn.rd (W0:=W0)).up) (by have h1:=N.hg.hm;have h2:=N.wr;omega) (by have:=N.ln;omega)
 repeat'((try conv=>whnf);first|refine fH ?_|refine fE ?_|refine fD ?_|refine qf fun bk hbk=>?_|(apply qe;first|refine qd (T _ Yx) ?_|refine qd (W _ Yx) ?_|refine qd (V _ Yx) ?_|refine qx (b:=ah.b) (D:=AH.R ah c t a a.ph.en (E++(mh.O m++ []))) O (fun Q=>sbE) fun y v Z=>?_;(obtain⟨ah1,E1⟩:=y;obtain⟨rfl,aj,o,hyp⟩:=Z;obtain⟨j,rfl⟩:=AH.b_eq aj;have T:=G {j with b:=ah.b};have W:=I {j with b:=ah.b};have V:=H {j with b:=ah.b};have af:=ae {j with b:=ah.b} o)|refine qi (af _ Yx Yx Yx Yx) fun y v Z=>?_;obtain⟨⟨a1,c1,D1⟩,⟨a2,c2,D2⟩⟩:=y;obtain⟨rfl,u,z⟩:=Z;dsimp only at u z)|refine fO ?_|refine fA ?_|refine fL ?_|refine fN ?_|refine fM ?_)
 all_goals exact⟨⟨⟨R,ptr ah.b,lb,ca,cc,sa,sc,sD,oa,oc,oD⟩,AH.O {j with b:=ah.b} c t g g.ph.no g.ph.en E1,some ⟨bk,0,none⟩,1,[⟨0,t,4,0,a1,g.seen,c1,a2,g.ad.filter fun x=>decide (x<c.words),c2⟩],(bk,evP ⟨0,t,4,0,a1,g.seen,c1,a2,g.ad.filter fun x=>decide (x<c.words),c2⟩)::(D1++D2)⟩,⟨rfl,⟨rfl,rfl,⟨K,J⟩,⟨{j with b:=ah.b},E1,rfl,o,hyp,rfl⟩,ev1 ⟨(u.rd (W0:=W0)).up,(z.rd (W0:=W0)).up⟩ o.ln (Zc (Y3 _ _) (by have h1:=o.hg.hm;have h2:=o.wr;omega)),rfl,rfl,fun _ _=>rfl⟩⟩,by unfold TR.O;dsimp only;simp only[zd,zp,zk];exact sbE⟩
theorem qdH{m':MS}{g:AT}{ac:AcM}(hh:h.ok x)(z:h.ap=ptr ah.b)(W:ah.ok c a)(hM:mh.ok m.L)(hP:PhO W0 c t ah a E)(hA:okA c t m a)(hz:qh c t m a=(m',g,ac,16))(hd:g.dn=true)(hcd:g.code≠1)(hb:g.busy=true)(Q:Own):
  jn W0 119 [ptr h.b,ptr mh.mb] ((h.b,thP c t n p h x)::ah.O c t a a.ph.no a.ph.en (E++(mh.O m++(h.sD++(h.oD++Q))))) fun v own'=>
  ∃s:TR,(v= .tuple #[stV ⟨0,16,x.ct,ac⟩, .slice s.ea s.el.length s.ec]/\s.ok W0 c t h {x with at':=some g} [⟨0,t,4,0,g.seen,[]⟩])/\Ent W0 own' (s.O c t n p {x with at':=some g} (mh.O m'++Q)):=by
 refine sH (jq 12 3 [28,0]) ?_;have K:=fun Q=>q3f W hM hP hA Q
 unfold StQ AtQ at K;rw[hz] at K;dsimp only at K;obtain⟨O,ap,lb,ca,cc,sa,sc,sD,oa,oc,oD⟩:=h;obtain⟨I,H⟩:=hh;dsimp only at z I H ⊢;subst z;have C:=fun(y:AH) (own':Own) (o:qy y.b (atP c t y g g.ph.no) own')=>q2p (W0:=W0) (own:=own') (a:=g) (ah:=y) (qk o rfl)
 rw[hb] at C;have G:=fun(y:AH) (own':Own) (o:qy y.b (atP c t y g g.ph.no) own')=>q0P (W0:=W0) (own:=own') (b:=y.b) (d:=g.dn) (qk o rfl)
 rw[hd] at G;have U:=fun(y:AH) (own':Own) (o:qy y.b (atP c t y g g.ph.no) own')=>q8q (W0:=W0) (own:=own') (b:=y.b) (k:=g.code) (qk o rfl)
 have Z:=fun(y:AH) (J:y.ok c g) (own':Own) (o:qy y.b (atP c t y g g.ph.no) own') (m2:qy y.g.b (lgP c.writes y.g.aa g.ad.length y.g.ca y.g.va g.vl.length y.g.cv y.g.ib y.g.P) own') (m3:qr own' y.g.aD) (m4:qr own' y.nD)=>
  q9n (W0:=W0) (own:=own') (b:=y.b) (gb:=y.g.b) (w:=c.words) (qk o rfl) (qk o rfl) (qk o rfl) (qk m2 rfl) ((J.hg.hA.rd (W0:=W0)).up) ((J.hn.rd (W0:=W0)).up) (by have h1:=J.hg.hm;have h2:=J.wr;omega) (by have:=J.ln;omega)
 repeat'((try conv=>whnf);first|refine fH ?_|refine fE ?_|refine fD ?_|refine fF ?_|refine qf fun bk hbk=>?_|(apply qe;first|refine qd (R _ Yx) ?_|refine qd (V _ Yx) ?_|refine qd (T _ Yx) ?_|refine qx (b:=ah.b) (D:=AH.R ah c t a a.ph.en (E++(mh.O m++ []))) K (fun Q=>sbE) fun y v Y=>?_;(obtain⟨ah1,E1⟩:=y;obtain⟨rfl,af,q,hyp⟩:=Y;obtain⟨j,rfl⟩:=AH.b_eq af;have R:=C {j with b:=ah.b};have V:=G {j with b:=ah.b};have T:=U {j with b:=ah.b};have ae:=Z {j with b:=ah.b} q)|refine qi (ae _ Yx Yx Yx Yx) fun y v Y=>?_;obtain⟨⟨a1,c1,D1⟩,⟨a2,c2,D2⟩⟩:=y;obtain⟨rfl,u,N⟩:=Y;dsimp only at u N)|refine fO ?_|refine fA ?_|refine fL ?_|refine fN ?_|refine fM ?_)
 all_goals exact⟨⟨⟨O,ptr ah.b,lb,ca,cc,sa,sc,sD,oa,oc,oD⟩,AH.O {j with b:=ah.b} c t g g.ph.no g.ph.en E1,some ⟨bk,0,none⟩,1,[⟨0,t,4,0,a1,g.seen,c1,none,[],0⟩],(bk,evP ⟨0,t,4,0,a1,g.seen,c1,none,[],0⟩)::(D1++D2)⟩,⟨rfl,⟨rfl,rfl,⟨I,H⟩,⟨{j with b:=ah.b},E1,rfl,q,hyp,rfl⟩,ev1 ⟨(u.rd (W0:=W0)).up,RdE.nil⟩ q.ln (zv _),rfl,rfl,fun _ _=>rfl⟩⟩,by unfold TR.O;dsimp only;simp only[zd,zp,zk];exact sbE⟩
theorem qjA{m':MS}{d:AT}{ac:AcM}{ph:Int}{bi i:Ins}{C:Own}(hF:qz W0)(hh:h.ok x)(g:h.ap=ptr ah.b)(V:ah.ok c a)(hM:mh.ok m.L)(hP:PhO W0 c t ah a E)(hA:okA c t m a)(hl:x.seen.length<=100000)(U:x.obs.length<=100000)(G:RdE Ins.enc 5 W0 C h.ca p)(hp:p.length<=100000)(K:p[x.bg]? =some bi)(W:bi.op=7)(O:(qw p).2=0)(z:q0v p x.bg<=100000)(o:0<=d.code/\d.code<=100)(q:d.st=2)(hi:p[x.th.pc]? =some i)(hz:qh c t m a=(m',d,ac,ph))(h3:ph≠3)(h16:ph≠16)(hb:d.busy=false)(Q:Own) [eq:qr Q C]:
  jn W0 119 [ptr h.b,ptr mh.mb] ((h.b,thP c t n p h x)::ah.O c t a a.ph.no a.ph.en (E++(mh.O m++(h.sD++(h.oD++Q))))) fun v own'=>
  ∃s:TR,(v= .tuple #[stV ⟨0,ph,x.ct,ac⟩, .slice s.ea s.el.length s.ec]/\s.ok W0 c t h (x.ans p d i) [])/\Ent W0 own' (s.O c t n p (x.ans p d i) (mh.O m'++Q)):=by
 refine sH (jq 12 3 [28,0]) ?_;have H:=fun Q=>q3f V hM hP hA Q
 unfold StQ AtQ at H;rw[hz] at H;dsimp only at H;have u:=fun(y:AH) (g:h.ap=ptr y.b) (Q:Own) (eq:qr Q C)=>qjC (c:=c) (t:=t) (n:=n) (kd:=d.ph.no) (i:=i) (a:=d) (ah:=y) hF hh hl U g G hp K W O z o q Q
 obtain⟨J,ap,lb,ca,cc,sa,sc,sD,oa,oc,oD⟩:=h;obtain⟨T,R⟩:=hh;dsimp only at g T R ⊢;subst g;have w:=fun(y:AH) (own':Own) (m1:qy y.b (atP c t y d d.ph.no) own')=>q2p (W0:=W0) (own:=own') (a:=d) (ah:=y) (qk m1 rfl)
 rw[hb] at w;dsimp only at G u
 repeat'((try conv=>whnf);first|refine fI ?_|refine fE ?_|refine fD ?_|refine fG ?_|refine fK ?_|(apply qF;first|refine ixE G hi ?_ ?_;(first|rfl|omega))|apply q24;refine q0C G hi rfl ?_|(apply qe;first|refine qd (N _ Yx) ?_|refine qx (b:=ah.b) (D:=AH.R ah c t a a.ph.en (E++(mh.O m++ []))) H (fun Q=>sbE) fun y v Y=>?_;(obtain⟨ah1,E1⟩:=y;obtain⟨rfl,au,hyo,hyp⟩:=Y;obtain⟨j,rfl⟩:=AH.b_eq au;have N:=w {j with b:=ah.b};have I:=u {j with b:=ah.b})|refine q1B (F:=C) (b:=J) (D:=(ah.b,atP c t {j with b:=ah.b} d d.ph.no)::(sD++(oD++ []))) (I rfl) (fun Q=>by simp only[zp,zd,zk];exact sbE) fun h1 v Y=>?_;obtain⟨rfl,Z,ae,af,aq,aj⟩:=Y)|refine fO ?_|refine fA ?_|refine fL ?_|refine fN ?_|refine fM ?_|refine qf fun bk hbk=>?_)
 all_goals exact⟨⟨h1,[],none,0,[],[]⟩,⟨rfl,⟨Z,af,aj,by unfold AtO;rw[qe9 q];exact⟨ae,rfl⟩,EvO.nil,rfl,aq,fun _ h=>absurd (qe9 q) h⟩⟩,by unfold TR.O;dsimp only;simp only[zd,zp,zk];exact sbE⟩
end
open Go
section
variable{W0:World}{own Q E:Own}{c:Cfg}{t n:Nat}{p:jg}{h:TH}{x:GT}{k:Int}{b e:Nat}{a:AT}{ah:AH}{mh:MH}{m:MS}
theorem qjB{m':MS}{d:AT}{ac:AcM}{ph:Int}{i:Ins}{cD:Own}(hh:h.ok x)(j:h.ap=ptr ah.b)(O:ah.ok c a)(hM:mh.ok m.L)(hP:PhO W0 c t ah a E)(hA:okA c t m a)(hl:x.seen.length<=100000)(C:RdE Ins.enc 5 W0 cD h.ca p)(R:x.th.pc<=1000000)(N:(i.op=10/\0<=i.a/\i.a<8)\/(i.op≠10/\i.op≠14))(u:d.st≠2)(hi:p[x.th.pc]? =some i)(hz:qh c t m a=(m',d,ac,ph))(h3:ph≠3)(h16:ph≠16)(hb:d.busy=false)(Q:Own) [eq:qr Q cD]:
  jn W0 119 [ptr h.b,ptr mh.mb] ((h.b,thP c t n p h x)::ah.O c t a a.ph.no a.ph.en (E++(mh.O m++(h.sD++(h.oD++Q))))) fun v own'=>
  ∃s:TR,(v= .tuple #[stV ⟨0,ph,x.ct,ac⟩, .slice s.ea s.el.length s.ec]/\s.ok W0 c t h (x.ans p d i) [])/\Ent W0 own' (s.O c t n p (x.ans p d i) (mh.O m'++Q)):=by
 refine sH (jq 12 3 [28,0]) ?_;have z:=fun Q=>q3f O hM hP hA Q
 unfold StQ AtQ at z;rw[hz] at z;dsimp only at z;have o:=fun(y:AH) (j:h.ap=ptr y.b) (Q:Own)=>qjD (W0:=W0) (c:=c) (t:=t) (n:=n) (p:=p) (kd:=d.ph.no) (i:=i) (a:=d) (ah:=y) hh hl j R N u Q
 obtain⟨H,ap,lb,ca,cc,sa,sc,sD,oa,oc,oD⟩:=h;obtain⟨K,J⟩:=hh;dsimp only at j K J ⊢;subst j;have q:=fun(y:AH) (own':Own) (m1:qy y.b (atP c t y d d.ph.no) own')=>q2p (W0:=W0) (own:=own') (a:=d) (ah:=y) (qk m1 rfl)
 rw[hb] at q;dsimp only at C o
 repeat'((try conv=>whnf);first|refine fI ?_|refine fE ?_|refine fD ?_|refine fG ?_|refine fK ?_|(apply qF;first|refine ixE C hi ?_ ?_;(first|rfl|omega))|apply q24;refine q0C C hi rfl ?_|(apply qe;first|refine qd (I _ Yx) ?_|refine qx (b:=ah.b) (D:=AH.R ah c t a a.ph.en (E++(mh.O m++ []))) z (fun Q=>sbE) fun y v T=>?_;(obtain⟨ah1,E1⟩:=y;obtain⟨rfl,Z,ae,hyp⟩:=T;obtain⟨g,rfl⟩:=AH.b_eq Z;have I:=q {g with b:=ah.b};have G:=o {g with b:=ah.b})|refine qx (b:=H) (D:=(ah.b,atP c t {g with b:=ah.b} d d.ph.no)::(sD++(oD++ []))) (G rfl) (fun Q=>by simp only[zp,zd,zk];exact sbE) fun h1 v T=>?_;obtain⟨rfl,U,w,V,Y,W⟩:=T)|refine fO ?_|refine fA ?_|refine fL ?_|refine fN ?_|refine fM ?_|refine qf fun bk hbk=>?_)
 all_goals exact⟨⟨h1,AH.O {g with b:=ah.b} c t d d.ph.no d.ph.en E1,none,0,[],[]⟩,⟨rfl,⟨U,V,W,by unfold AtO;rw[qlu u];exact⟨{g with b:=ah.b},E1,w,ae,hyp,rfl⟩,EvO.nil,rfl,Y,fun _ _=>w⟩⟩,by unfold TR.O;dsimp only;simp only[zd,zp,zk];exact sbE⟩
theorem q9e(x:AT):x.rest.busy=true:=by unfold AT.rest;split <;>rfl
theorem q9M{c:Cfg}{t:Int}{m:MS}{x:AT}(h:(qh c t m x).2.2.2=3\/(qh c t m x).2.2.2=16):(qh c t m x).2.1.busy=true:=by
 cases d:x.ph with
 |ent k=>
  unfold qh at h ⊢;simp only[d] at h ⊢
  split at h
  ·rcases h with h|h <;>(dsimp only at h;omega)
  ·rename_i g;rw[if_neg g]
   split at h
   ·rename_i j;rw[if_pos j];rfl
   ·rcases h with h|h <;>(dsimp only at h;omega)
 |dc=>
  rw[q3u d];dsimp only
  split
  ·exact q9e _
  ·split
   ·rfl
   ·exact q9e _
 |rd k b v=>
  exfalso;unfold qh at h;simp only[d] at h
  (repeat' split at h) <;>(rcases h with h|h <;>(dsimp only at h;omega))
 |lk s ld=>
  exfalso;rw[q7w d] at h
  (repeat' split at h) <;>(rcases h with h|h <;>(dsimp only at h;omega))
 |tn b=>
  exfalso;cases b with
  |false=>rw[qaU d] at h;rcases h with h|h <;>(dsimp only at h;omega)
  |true=>rw[q8u d] at h;rcases h with h|h <;>(dsimp only at h;omega)
 |_=>exact absurd h (by unfold qh;simp only[d];decide)
theorem qaS{i bi:Ins}{cD:Own}(hF:qz W0)(K:h.ok x)(j:h.ap=ptr ah.b)(o:ah.ok c a)(I:mh.ok m.L)(J:PhO W0 c t ah a E)(H:okA c t m a)(hl:x.seen.length<=100000)(W:x.obs.length<=100000)(hC:RdE Ins.enc 5 W0 cD h.ca p)(hp:p.length<=100000)(Z:x.th.pc<=1000000)(hi:p[x.th.pc]? =some i)(V:(i.op=10/\0<=i.a/\i.a<8)\/(i.op≠10/\i.op≠14))
  (T:p[x.bg]? =some bi) (Y:bi.op=7) (U:(qw p).2=0) (R:q0v p x.bg<=100000) (g:(qh c t m a).2.1.st=2->0<=(qh c t m a).2.1.code/\(qh c t m a).2.1.code<=100) (Q:Own) [eq:qr Q cD]:
  jn W0 119 [ptr h.b,ptr mh.mb] ((h.b,thP c t n p h x)::ah.O c t a a.ph.no a.ph.en (E++(mh.O m++(h.sD++(h.oD++Q))))) fun v own'=>
  ∃s:TR,(v= .tuple #[stV {(q0H c p t m x a i).2.2.1 with t:=0}, .slice s.ea s.el.length s.ec]/\s.ok W0 c t h (q0H c p t m x a i).2.1 (q0H c p t m x a i).2.2.2)/\Ent W0 own' (s.O c t n p (q0H c p t m x a i).2.1 (mh.O (q0H c p t m x a i).1++Q)):=by
 have u:=q9M (c:=c) (t:=t) (m:=m) (x:=a);unfold q0H;generalize N:qh c t m a=z at g u ⊢;obtain⟨m',G,ac,ph⟩:=z;dsimp only at g u ⊢
 by_cases hb:G.busy=true
 ·simp only[if_pos hb]
  by_cases w:ph=3
  ·subst w;exact qjz K j o I J H N hb Q
  ·unfold evA;rw[if_neg w]
   by_cases d:ph=16/\G.dn=true
   ·rw[if_pos d];obtain⟨rfl,hd⟩:=d
    by_cases q:G.code=1
    ·rw[if_pos q];exact qdG K j o I J H N hd q hb Q
    ·rw[if_neg q];exact qdH K j o I J H N hd q hb Q
   ·rw[if_neg d];refine qjy K j o I J H N w ?_ hb Q
    by_cases h:ph=16
    ·exact .inr (by cases hd:G.dn with|false=>rfl|true=>exact absurd ⟨h,hd⟩ d)
    ·exact .inl h
 ·have w:ph≠3:=fun h=>hb (u (.inl h))
  have d:ph≠16:=fun h=>hb (u (.inr h))
  simp only[if_neg hb];unfold evA;rw[if_neg w,if_neg (fun h=>d h.1)];have O:G.busy=false:=by simpa using hb
  by_cases C:G.st=2
  ·exact qjA hF K j o I J H hl W hC hp T Y U R (g C) C hi N w d O Q
  ·exact qjB K j o I J H hl hC Z V C hi N w d O Q
end
open Go
abbrev feP(t n:Nat)(f:FT):Obj->Prop:=fun o=>o=Obj.cells #[j5 t,j5 n, .bool f.ld,uv f.lim,j5 f.nx] 302 (0,0)
abbrev lmP(c:Cfg):Obj->Prop:=fun o=>o=Obj.cells #[j5 c.words,j5 c.orecs,j5 c.base,j5 c.c0,j5 c.c1,j5 c.c2,j5 c.c3,j5 c.reads,j5 c.writes,j5 c.allocs,j5 c.frees,j5 c.clock, .bool c.strong,j7] 264 (0,0)
section
variable{W0:World}{own Q:Own}{c:Cfg}{t n:Nat}{b:Nat}{f:FT}{mh:MH}{m:MS}
theorem qaO(t n:Nat)(Q:Own):jn W0 167 [j5 t,j5 n] Q fun v own'=>∃b:Nat,v=ptr b/\Ent W0 own' ((b,feP t n ⟨false,0,0⟩)::Q):=by
 refine sH [] ?_
 repeat'((try conv=>whnf);first|refine qf fun bk hbk=>?_)
 all_goals exact⟨_,rfl,Ent.refl⟩
theorem q9r(hn:f.nx<=1000)(Q:Own):jn W0 197 [ptr b] ((b,feP t n f)::Q) fun v own'=>∃_:Unit,v= .tuple #[]/\Ent W0 own' ((b,feP t n {f with nx:=qg5 t f.nx})::Q):=by
 refine qE (sH (jq 9 3 [0]) ?_);unfold qg5
 by_cases h:(f.nx:Int)=t
 ·rw[if_pos h]
  repeat'((try conv=>whnf);first|refine fF ?_|refine fB ?_|refine fA ?_|refine fN ?_)
  all_goals exact⟨rfl,sbE⟩
 ·rw[if_neg h]
  repeat'((try conv=>whnf);first|refine fG ?_|refine fA ?_)
  all_goals exact⟨rfl,sbE⟩
theorem qgX(s:Int):jo W0 253 [uv s] own (j5 (if s=0 then 0 else if s=1 then 1 else 2)):=by
 refine qg (sH [] ?_)
 by_cases d:s=0
 ·rw[if_pos d]
  repeat'((try conv=>whnf);first|refine fF ?_)
  all_goals exact⟨rfl,(eC)⟩
 ·rw[if_neg d]
  by_cases g:s=1
  ·rw[if_pos g]
   repeat'((try conv=>whnf);first|refine fF ?_|refine fG ?_)
   all_goals exact⟨rfl,(eC)⟩
  ·rw[if_neg g]
   repeat'((try conv=>whnf);first|refine fG ?_)
   all_goals exact⟨rfl,(eC)⟩
theorem qgm{lim:Int}(s:Int)(j:Cl W0 own b 3 (uv lim)):jo W0 198 [ptr b,uv s] own (.bool (qfJ lim s)):=by
 refine qg (sH [] ?_);have hw:=fun own=>qgX (W0:=W0) (own:=own) s
 unfold qfJ
 by_cases d:s=0
 ·simp only[if_pos d] at hw ⊢
  repeat'((try conv=>whnf);first|refine fE ?_|apply qe;refine qd (hw _) ?_)
  all_goals exact⟨rfl,(eC)⟩
 ·simp only[if_neg d] at hw ⊢
  by_cases g:s=1
  ·simp only[if_pos g] at hw ⊢
   repeat'((try conv=>whnf);first|refine fE ?_|refine fD ?_|apply qe;refine qd (hw _) ?_)
   all_goals exact⟨rfl,(eC)⟩
  ·simp only[if_neg g] at hw ⊢
   repeat'((try conv=>whnf);first|refine fD ?_|refine q0m j ?_|refine arw (k:= .u64) ?_|apply qe;refine qd (hw _) ?_)
   all_goals exact⟨rfl,(eC)⟩
theorem q6g{ld:Bool}{nx:Nat}(g:Cl W0 own b 1 (j5 n))(d:Cl W0 own b 2 (.bool ld))(j:Cl W0 own b 4 (j5 nx)):jo W0 149 [ptr b] own (.bool (ld&&decide (n<=nx))):=by
 refine qg (sH (jq 16 3 [0]) ?_);rw[show decide (n<=nx)=decide ((nx:Int)>=n) from decide_eq_decide.2 Yu];cases ld with
 |false=>
  repeat'((try conv=>whnf);first|refine fI ?_|refine q0m d ?_)
  all_goals exact⟨rfl,(eC)⟩
 |true=>
  repeat'((try conv=>whnf);first|refine fH ?_|refine q0m d ?_|refine q0m j ?_|refine q0m g ?_)
  all_goals exact⟨rfl,(eC)⟩
theorem qdq{lim:Int}(d:Cl W0 own b 2 (.bool true))(g:Cl W0 own b 3 (uv lim))(hl:0<=lim/\lim<=1099511627776):jo W0 151 [ptr b] own (j5 lim):=by
 refine qg (sH [] ?_)
 repeat'((try conv=>whnf);first|refine fD ?_|refine q0m d ?_|refine q0m g ?_|refine fB ?_)
 all_goals exact⟨rfl,(eC)⟩
theorem qdr(j:mh.ok m.L)(Q:Own):jn W0 148 [ptr b,ptr mh.mb] ((b,feP t n ⟨false,0,0⟩)::(mh.O m++Q)) fun v own'=>
  ∃_:Unit,v=(q3q t m ⟨false,0,0⟩).2.1.v/\Ent W0 own' ((b,feP t n (q3q t m ⟨false,0,0⟩).1)::(mh.O m++Q)):=by
 refine qE (sH [3,5,7,11,13,1,9,16,17,19,22,0,16,9,17,19,22,0] ?_);have hd:=fun(own':Own) (d:qy b (feP t n ⟨false,0,0⟩) own')=>q6g (W0:=W0) (own:=own') (b:=b) (n:=n) (ld:=false) (nx:=0) (qk d rfl) (qk d rfl) (qk d rfl)
 have g:=fun Q=>q9r (W0:=W0) (b:=b) (t:=t) (n:=n) (f:=⟨true,m.ck,0⟩) (zv _) Q
 rw[show(q3q t m ⟨false,0,0⟩)=(⟨true,m.ck,qg5 t 0⟩,acL 3 0 m.ck,25) from rfl];dsimp only at g ⊢
 repeat'((try conv=>whnf);first|refine fE ?_|refine fD ?_|(apply qe;first|refine qd (hd _ Yx) ?_|refine q0Z 2 0 j Yv rfl ?_ ?_ ?_;exact rfl;exact rfl|refine qI (g _) fun _ v o=>?_;subst o)|refine fO ?_|refine fA ?_|refine fL ?_|refine fN ?_|refine fM ?_|refine qf fun bk hbk=>?_|refine q1a.mk ?_ ?_)
 all_goals exact⟨rfl,sbE⟩
theorem qds(w:mh.ok m.L)(g:f.ld=true)(s:f.nx<n)(hn2:n<=16)(hsl:m.sl.length=n)(Q:Own):jn W0 148 [ptr b,ptr mh.mb] ((b,feP t n f)::(mh.O m++Q)) fun v own'=>
  ∃_:Unit,v=(q3q t m f).2.1.v/\Ent W0 own' ((b,feP t n (q3q t m f).1)::(mh.O m++Q)):=by
 refine qE (sH [3,5,7,11,13,1,9,16,17,19,22,0,16,9,17,19,22,0] ?_);obtain⟨ld,lim,nx⟩:=f;have hn0:=s;dsimp only at g s ⊢;subst g;have hd:=fun(own':Own) (j:qy b (feP t n ⟨true,lim,nx⟩) own')=>q6g (W0:=W0) (own:=own') (b:=b) (n:=n) (ld:=true) (nx:=nx) (qk j rfl) (qk j rfl) (qk j rfl)
 rw[show(true&&decide (n<=nx))=false by simpa using s] at hd;have G:=fun Q=>q9r (W0:=W0) (b:=b) (t:=t) (n:=n) (f:=⟨true,lim,nx+1⟩) (by dsimp only;omega) Q
 have C:=q0N (l:=m.sl) (i:=nx) Yu;have o:=fun(own':Own) (j:qy b (feP t n ⟨true,lim,nx⟩) own')=>qgm (W0:=W0) (own:=own') (b:=b) (lim:=lim) (m.sl.getD nx 0) (qk j rfl)
 unfold q3q;dsimp only at G ⊢;rw[if_neg Yv];generalize m.sl.getD nx 0=z at*;dsimp only
 by_cases d:qfJ lim z=true
 ·rw[if_pos d];rw[d] at o
  repeat'((try conv=>whnf);first|refine fE ?_|refine fD ?_|(apply qe;first|refine qd (hd _ Yx) ?_|refine qd (o _ Yx) ?_|refine q0Z 5 nx w Yv C ?_ ?_ ?_;exact rfl;exact rfl|refine qI (G _) fun _ v I=>?_;subst I)|refine fB ?_|refine fO ?_|refine fA ?_|refine fL ?_|refine fN ?_|refine fM ?_|refine qf fun H q=>?_)
  all_goals exact⟨rfl,sbE⟩
 ·have u:qfJ lim z=false:=by simpa using d
  rw[u] at o;rw[if_neg d]
  repeat'((try conv=>whnf);first|refine fD ?_|(apply qe;first|refine qd (hd _ Yx) ?_|refine qd (o _ Yx) ?_|refine q0Z 5 nx w Yv C ?_ ?_ ?_;exact rfl;exact rfl)|refine fO ?_|refine fA ?_|refine fL ?_|refine fM ?_|refine qf fun H q=>?_)
  all_goals exact⟨rfl,sbE⟩
theorem qaL(own:Own):jn W0 115 [c.v] own fun v own'=>∃b:Nat,v=ptr b/\Ent W0 own' ((b,lmP c)::own):=by
 refine sH [] ?_;dsimp only[Cfg.v,Cfg.cs]
 repeat'((try conv=>whnf);first|refine fL ?_|refine qf fun bk hbk=>?_)
 all_goals exact⟨_,rfl,sbE⟩
theorem qj6(k:Int)(Q:Own):jn W0 150 [ptr b,j5 k] ((b,lmP c)::Q) fun v own'=>∃d:Nat,v=ptr d/\Ent W0 own' ((d,j8 #[j7] 308 (0,0))::(b,lmP c)::Q):=by
 refine sH (3::5::7::9::(jq 9 13 [1,11,32,34,36,37,39,42,0,32,11,34,36,37,39,42,0])) ?_
 repeat'((try conv=>whnf);first|refine fD ?_|refine q1y 1 ?_|refine fA ?_|refine fN ?_|refine qf fun bk hbk=>?_)
 all_goals exact⟨_,rfl,sbE⟩
theorem qgg(d:Cl W0 own b 0 (j7)):jo W0 154 [ptr b] own (.bool true):=by
 refine qg (sH [] ?_)
 repeat'((try conv=>whnf);first|refine q0m d ?_)
 all_goals exact⟨rfl,(eC)⟩
end
open Go
theorem qn5(c:Cfg)(x:AT)(a:Int):(x.read c a).ph.en=3:=by
 unfold AT.read
 split
 ·rfl
 ·split <;>rfl
def rqI(i:Ins):Prop:=i.op=10\/i.op=11\/i.op=8\/i.op=9
section
variable{W0:World}{own Q E:Own}{c:Cfg}{t n:Nat}{p:jg}{h:TH}{x:GT}{k:Int}{b e:Nat}{a:AT}{ah:AH}{mh:MH}{m:MS}
theorem qqf{i:Ins}{r:Rg}:(q1D c r a i).ph.en=3:=by
 unfold q1D
 (repeat' split) <;>first|exact qn5 c a _|rfl
theorem qnQ{i:Ins}(z:h.ap=ptr ah.b)(j:ah.ok c a)(o:a.st=1)(I:0<=c.words/\c.words<=1099511627776)(J:rqI i)(O:qdX i)(Q:Own):
  jn W0 165 [ptr h.b,i.v] ((h.b,thP c t n p h x)::ah.O c t a 0 3 Q) fun v own'=>
  ∃s:AH×Own,(v= .tuple #[]/\s.1.b=ah.b/\s.1.ok c (q1D c x.th.rg a i)/\PhO W0 c t s.1 (q1D c x.th.rg a i) s.2)/\Ent W0 own' ((h.b,thP c t n p h x)::s.1.O c t (q1D c x.th.rg a i) (q1D c x.th.rg a i).ph.no 3 (s.2++Q)):=by
 refine sH (jq 11 3 (26::0::(jq 19 3 (42::0::(jq 7 3 (18::0::(jq 13 3 [30,0]))))))) ?_;obtain⟨hb,ap,lb,ca,cc,sa,sc,sD,oa,oc,oD⟩:=h;dsimp only at z ⊢;subst z;have w:=fun(r imm:Int) (N:0<=r/\r<8) (own':Own) (m1:qy hb (thP c t n p ⟨hb,ptr ah.b,lb,ca,cc,sa,sc,sD,oa,oc,oD⟩ x) own')=>qcu (W0:=W0) (own:=own') (b:=hb) (x:=x) (imm:=imm) N
 have hw:∀(r:Rg) b k,0<=adr r b k:=fun r b k=>(q0u _).1
 obtain⟨_,K,G,_,_⟩:=O;unfold rqI at J;obtain⟨op,ia,ib,ic,imm⟩:=i;dsimp only at J K G
 rcases J with rfl|rfl|rfl|rfl
 ·have q:=fun Q=>qj2 (W0:=W0) (t:=t) j o (adr x.th.rg ib imm) (hw _ _ _) I Q
  have g:=w ib imm (G rfl);dsimp only[Ins.v]
  repeat'((try conv=>whnf);first|refine fE ?_|(apply qe;first|refine qx (b:=ah.b) (D:=AH.R ah c t a 3 []) q (fun Q=>sbE) fun y v d=>?_;obtain⟨rfl,d⟩:=d)|apply qC;refine qj (fun ex=>g _ Yx) ?_|refine fA ?_|refine qf fun C u=>?_)
  all_goals exact⟨y,⟨rfl,d⟩,sbE⟩
 ·have q:=fun Q=>qga (W0:=W0) (t:=t) j o (adr x.th.rg ia imm) (x.th.rg.get ib.toNat) Q
  have g:=w ia imm (K rfl);have hb7:=G rfl;have H:ib.toNat<8:=Yu;dsimp only[Ins.v]
  repeat'((try conv=>whnf);first|refine fE ?_|refine fD ?_|refine qas (c:=c) (t:=t) (n:=n) (p:=p) (h:=⟨hb,ptr ah.b,lb,ca,cc,sa,sc,sD,oa,oc,oD⟩) (x:=x) H ?_ ?_;omega|(apply qe;first|refine qx (b:=ah.b) (D:=AH.R ah c t a 3 []) q (fun Q=>sbE) fun y v d=>?_;obtain⟨rfl,d⟩:=d)|apply qC;refine qj (fun ex=>g _ Yx) ?_|refine fP ?_|refine fA ?_|refine qf fun C u=>?_)
  all_goals exact⟨y,⟨rfl,d⟩,sbE⟩
 ·have q:=fun Q=>qg8 (W0:=W0) (t:=t) j o 1 (.inl rfl) Q
  dsimp only[Ins.v]
  repeat'((try conv=>whnf);first|refine fE ?_|refine fD ?_|(apply qe;first|refine qx (b:=ah.b) (D:=AH.R ah c t a 3 []) q (fun Q=>sbE) fun y v d=>?_;obtain⟨rfl,d⟩:=d)|refine fA ?_|refine qf fun C u=>?_)
  all_goals exact⟨y,⟨rfl,d⟩,sbE⟩
 ·have q:=fun Q=>qg8 (W0:=W0) (t:=t) j o 2 (.inr rfl) Q
  dsimp only[Ins.v]
  repeat'((try conv=>whnf);first|refine fE ?_|refine fD ?_|(apply qe;first|refine qx (b:=ah.b) (D:=AH.R ah c t a 3 []) q (fun Q=>sbE) fun y v d=>?_;obtain⟨rfl,d⟩:=d)|refine fA ?_|refine qf fun C u=>?_)
  all_goals exact⟨y,⟨rfl,d⟩,sbE⟩
theorem qeQ{i:Ins}(h:i.op=7):q1f c p t m x i=q0H c p t m {x with bg:=x.th.pc,sv:=x.th.rg,tr:=x.tr+1,seen:= [],ct:=x.ct+1} a0T i:=by
 unfold q1f;rw[if_pos h]
theorem qml{i:Ins}(g:rqI i)(d:x.at'=some a):q1f c p t m x i=q0H c p t m x (q1D c x.th.rg a i) i:=by
 unfold rqI at g;unfold q1f;rw[d,if_neg Yu,if_pos Yu]
theorem qeR{i:Ins}(hi:(0<=i.op/\i.op<=6)\/i.op=17):q1f c p t m x i=(m,{x with th:={q1h x.th i with dn:=decide ((q1h x.th i).pc=p.length)}},⟨t,0,if x.at'.isSome then x.ct else 0,acz⟩,[]):=by
 unfold q1f;rw[if_neg Yu,if_neg Yu]
theorem qgP{i:Ins}(C:(0<=i.op/\i.op<=6)\/i.op=17)(G:qdX i)(w:x.th.rg.ok)(H:h.ok x)(q:x.at'=none)(g:h.ap= .pointer none)(u:x.th.pc<=1000)(Q:Own):
  jn W0 121 [ptr h.b,ptr mh.mb,i.v] ((h.b,thP c t n p h x)::(mh.O m++(h.sD++(h.oD++Q)))) fun v own'=>
  ∃s:TR,(v= .tuple #[stV {(q1f c p t m x i).2.2.1 with t:=0}, .slice s.ea s.el.length s.ec]/\s.ok W0 c t h (q1f c p t m x i).2.1 (q1f c p t m x i).2.2.2)/\Ent W0 own' (s.O c t n p (q1f c p t m x i).2.1 (mh.O (q1f c p t m x i).1++Q)):=by
 refine sH (jq 15 3 (34::35::37::39::42::0::(jq 9 3 [22,23,25,27,30,0]))) ?_;rw[qeR C];have d:=fun Q=>q9G (W0:=W0) (c:=c) (t:=t) (n:=n) (p:=p) (h:=h) G w u Q
 obtain⟨hb,ap,lb,ca,cc,sa,sc,sD,oa,oc,oD⟩:=h;dsimp only at g d ⊢;subst g;obtain⟨o,j⟩:=H;dsimp only at o j;clear G;generalize q1h x.th i=z at*;obtain⟨op,ia,ib,ic,imm⟩:=i;dsimp only[Ins.v] at C d ⊢;rw[q]
 repeat'((try conv=>whnf);first|refine fE ?_|refine fG ?_|(apply qe;first|refine qI (d _) fun _ v I=>?_;subst I)|refine fA ?_|refine fL ?_|refine fM ?_|refine qf fun bk hbk=>?_)
 all_goals exact⟨⟨⟨hb, .pointer none,lb,ca,cc,sa,sc,sD,oa,oc,oD⟩,[],none,0,[],[]⟩,⟨rfl,⟨rfl,rfl,⟨o,j⟩,by unfold AtO;exact⟨rfl,rfl⟩,EvO.nil,rfl,rfl,fun _ _=>rfl⟩⟩,by unfold TR.O;dsimp only;simp only[zd,zp,zk];exact sbE⟩
theorem qgQ{i:Ins}(H:(0<=i.op/\i.op<=6)\/i.op=17)(I:qdX i)(G:x.th.rg.ok)(J:h.ok x)(u:x.at'=some a)(q:a.ph= .idle)(g:h.ap=ptr ah.b)(w:ah.ok c a)(C:x.th.pc<=1000)(Q:Own):
  jn W0 121 [ptr h.b,ptr mh.mb,i.v] ((h.b,thP c t n p h x)::ah.O c t a 0 3 (mh.O m++(h.sD++(h.oD++Q)))) fun v own'=>
  ∃s:TR,(v= .tuple #[stV {(q1f c p t m x i).2.2.1 with t:=0}, .slice s.ea s.el.length s.ec]/\s.ok W0 c t h (q1f c p t m x i).2.1 (q1f c p t m x i).2.2.2)/\Ent W0 own' (s.O c t n p (q1f c p t m x i).2.1 (mh.O (q1f c p t m x i).1++Q)):=by
 refine sH (jq 15 3 (34::35::37::39::42::0::(jq 9 3 [22,23,25,27,30,0]))) ?_;rw[qeR H];have d:=fun Q=>q9G (W0:=W0) (c:=c) (t:=t) (n:=n) (p:=p) (h:=h) I G C Q
 obtain⟨hb,ap,lb,ca,cc,sa,sc,sD,oa,oc,oD⟩:=h;dsimp only at g d ⊢;subst g;obtain⟨o,j⟩:=J;dsimp only at o j;clear I;generalize q1h x.th i=z at*;obtain⟨op,ia,ib,ic,imm⟩:=i;dsimp only[Ins.v] at H d ⊢;rw[u]
 repeat'((try conv=>whnf);first|refine fD ?_|refine fG ?_|(apply qe;first|refine qI (d _) fun _ v K=>?_;subst K)|refine fA ?_|refine fL ?_|refine fM ?_|refine qf fun bk hbk=>?_)
 all_goals exact⟨⟨⟨hb,ptr ah.b,lb,ca,cc,sa,sc,sD,oa,oc,oD⟩,AH.O ah c t a 0 3 [],none,0,[],[]⟩,⟨rfl,⟨rfl,rfl,⟨o,j⟩,by unfold AtO;exact⟨ah,[],rfl,w,by unfold PhO;rw[q],by rw[q];rfl⟩,EvO.nil,rfl,rfl,fun _ _=>rfl⟩⟩,by unfold TR.O;dsimp only;simp only[zd,zp,zk];exact sbE⟩
theorem qjF{i:Ins}{o:Own}(g:i.op=7)(d:h.ap= .pointer none)(Z:qz W0)(N:h.ok x)(hr:0<=c.reads/\c.reads<=32)(hw:1<=c.writes/\c.writes<=32)(u:x.ct<=100000)(htr:x.tr<=100000)(hM:mh.ok m.L)(Y:okA c t m a0T)(R:x.obs.length<=100000)(G:RdE Ins.enc 5 W0 o h.ca p)(hp:p.length<=100000)(U:x.th.pc<=1000000)(q:p[x.th.pc]? =some i)(K:(qw p).2=0)(w:q0v p x.th.pc<=100000)(Q:Own) [eq:qr Q o]:
  jn W0 121 [ptr h.b,ptr mh.mb,i.v] ((h.b,thP c t n p h x)::(mh.O m++(h.sD++(h.oD++Q)))) fun v own'=>
  ∃s:TR,(v= .tuple #[stV {(q1f c p t m x i).2.2.1 with t:=0}, .slice s.ea s.el.length s.ec]/\s.ok W0 c t h (q1f c p t m x i).2.1 (q1f c p t m x i).2.2.2)/\Ent W0 own' (s.O c t n p (q1f c p t m x i).2.1 (mh.O (q1f c p t m x i).1++Q)):=by
 refine sH (jq 15 3 (34::35::37::39::42::0::(jq 9 3 [22,23,25,27,30,0]))) ?_;rw[qeQ g];have hS:=fun(X:GT) (u:X.ct<=1000000) Q=>qgS (W0:=W0) (c:=c) (t:=t) (n:=n) (p:=p) (h:=h) (x:=X) hr hw u Q
 have W:=fun(h:TH) (N:h.ok {x with bg:=x.th.pc,sv:=x.th.rg,tr:=x.tr+1,seen:= [],ct:=x.ct+1}) (ah:AH) (d:h.ap=ptr ah.b) (T:ah.ok c a0T) (G:RdE Ins.enc 5 W0 o h.ca p) (Q:Own) (eq:qr Q o)=>
  qaS (t:=t) (n:=n) (x:={x with bg:=x.th.pc,sv:=x.th.rg,tr:=x.tr+1,seen:= [],ct:=x.ct+1}) (E:= []) (i:=i) (bi:=i) Z N d T hM rfl Y (zv _) R G hp U q (.inr ⟨Yu,Yu⟩) q g K w (fun h=>by cases h) Q
 obtain⟨hb,ap,lb,ca,cc,sa,sc,sD,oa,oc,oD⟩:=h;obtain⟨O,C⟩:=N;dsimp only at O C G d ⊢;generalize q0H c p t m {x with bg:=x.th.pc,sv:=x.th.rg,tr:=x.tr+1,seen:= [],ct:=x.ct+1} a0T i=z at W ⊢;obtain⟨op,ia,ib,ic,imm⟩:=i;dsimp only at g;subst g;dsimp only[Ins.v];have H:=fun Q=>hS {x with bg:=x.th.pc,sv:=x.th.rg,tr:=x.tr+1} (by dsimp only;omega) Q
 repeat'((try conv=>whnf);first|refine fE ?_|(apply qe;first|refine qI (H _) fun ah v V=>?_;(obtain⟨rfl,J⟩:=V;have I:=W ⟨hb,ptr ah.b,lb,ca,cc,none,0,[],oa,oc,oD⟩ ⟨qo.nil,C⟩ ah rfl J G)|refine q1B (F:=o) (b:=hb) (D:=AH.O ah c t a0T 2 0 (mh.O m++(oD++ []))) I (fun Q=>by simp only[zk];exact sbE) fun s v V=>?_;obtain⟨rfl,j⟩:=V)|refine fB ?_|refine fO ?_|refine fA ?_|refine fL ?_|refine fQ ?_|refine fN ?_|refine fM ?_|refine qf fun bk hbk=>?_)
 all_goals exact⟨s,⟨rfl,⟨j.b,j.ca,j.ok,j.at',j.ev,j.em,j.lb,fun h=>absurd d h⟩⟩,sbE⟩
theorem qjI{i bi:Ins}{K:Own}(hF:qz W0)(hh:h.ok x)(R:x.at'=some a)(d:h.ap=ptr ah.b)(q:ah.ok c a)(Z:a.st=1)(V:0<=c.words/\c.words<=1099511627776)(g:rqI i)(hx:qdX i)(hM:mh.ok m.L)(hA:okA c t m (q1D c x.th.rg a i))(hl:x.seen.length<=100000)(W:x.obs.length<=100000)(hC:RdE Ins.enc 5 W0 K h.ca p)(hp:p.length<=100000)(Y:x.th.pc<=1000000)(hi:p[x.th.pc]? =some i)
  (T:p[x.bg]? =some bi) (h7:bi.op=7) (U:(qw p).2=0) (C:q0v p x.bg<=100000) (o:(qh c t m (q1D c x.th.rg a i)).2.1.st=2->0<=(qh c t m (q1D c x.th.rg a i)).2.1.code/\(qh c t m (q1D c x.th.rg a i)).2.1.code<=100) (Q:Own) [eq:qr Q K]:
  jn W0 121 [ptr h.b,ptr mh.mb,i.v] ((h.b,thP c t n p h x)::ah.O c t a 0 3 (mh.O m++(h.sD++(h.oD++Q)))) fun v own'=>
  ∃s:TR,(v= .tuple #[stV {(q1f c p t m x i).2.2.1 with t:=0}, .slice s.ea s.el.length s.ec]/\s.ok W0 c t h (q1f c p t m x i).2.1 (q1f c p t m x i).2.2.2)/\Ent W0 own' (s.O c t n p (q1f c p t m x i).2.1 (mh.O (q1f c p t m x i).1++Q)):=by
 refine sH (jq 15 3 (34::35::37::39::42::0::(jq 9 3 [22,23,25,27,30,0]))) ?_;rw[qml g R];have H:(i.op=10/\0<=i.a/\i.a<8)\/(i.op≠10/\i.op≠14):=by
  by_cases j:i.op=10
  ·exact .inl ⟨j,hx.a (by rw[j];rfl)⟩
  ·exact .inr ⟨j,by unfold rqI at g;omega⟩
 have w:=fun(y:AH) (E:Own) (d:h.ap=ptr y.b) (q:y.ok c (q1D c x.th.rg a i)) (hP:PhO W0 c t y (q1D c x.th.rg a i) E) (Q:Own) (eq:qr Q K)=>
  qaS (t:=t) (n:=n) (i:=i) (bi:=bi) hF hh d q hM hP hA hl W hC hp Y hi H T h7 U C o Q
 simp only[qqf] at w;have N:=fun Q=>qnQ (W0:=W0) (c:=c) (t:=t) (n:=n) (p:=p) (x:=x) d q Z V g hx Q
 have G:i.op=10\/i.op=11\/i.op=8\/i.op=9:=g;generalize q0H c p t m x (q1D c x.th.rg a i) i=z at w ⊢;generalize q1D c x.th.rg a i=a' at*;obtain⟨hb,ap,lb,ca,cc,sa,sc,sD,oa,oc,oD⟩:=h;dsimp only at d hC w N ⊢;subst d;clear hi g H hx;obtain⟨op,ja,jb,jc,jm⟩:=i;dsimp only[Ins.v] at G N w ⊢
 rcases G with rfl|rfl|rfl|rfl
 all_goals
  repeat'((try conv=>whnf);first|refine fE ?_|refine fD ?_|(apply qe;first|refine qx (b:=hb) (D:=AH.O ah c t a 0 3 []) N (fun Q=>sbE) fun y v hv=>?_;(obtain⟨u,E1⟩:=y;obtain⟨rfl,I,J,hyp⟩:=hv;dsimp only at I J hyp;have O:=w u E1 (by rw[I]) J hyp)|refine q1B (F:=K) (b:=hb) (D:=AH.O u c t a' a'.ph.no 3 (E1++(mh.O m++(sD++(oD++ []))))) O (fun Q=>sbE) fun s v hv=>?_;obtain⟨rfl,hs⟩:=hv)|refine fO ?_|refine fA ?_|refine fL ?_|refine fM ?_|refine qf fun bk hbk=>?_)
 all_goals exact⟨s,⟨rfl,hs⟩,sbE⟩
end
open Go
def FeO(lb:LB)(t n:Nat)(fn:Option FT)(F:Own):Prop:=
 match fn with
 |none=>lb.fp= .pointer none/\F= []
 |some f=>∃fb:Nat,lb.fp=ptr fb/\F= [(fb,feP t n f)]
def qiD(n:Nat)(m:MS)(f:FT):Prop:=(f=⟨false,0,0⟩\/(f.ld=true/\f.nx<n/\0<=f.lim/\f.lim<=1099511627776))/\0<=m.ck/\m.ck<=1099511627776/\n<=16/\m.sl.length=n
section
variable{W0:World}{own Q E:Own}{c:Cfg}{t n:Nat}{p:jg}{h:TH}{x:GT}{k:Int}{b e:Nat}{a:AT}{ah:AH}{mh:MH}{m:MS}{i:Ins}
theorem q3F(kd v:Int)(g:qo ObM.enc 94 3 h.oa h.oc x.obs h.oD)(hl:x.obs.length<=100000)(Q:Own):jn W0 155 [ptr h.b,j5 kd,uv v] ((h.b,thP c t n p h x)::(h.oD++Q)) fun r own'=>
  ∃y:j9×Nat×Own,(r= .tuple #[]/\qo ObM.enc 94 3 y.1 y.2.1 (x.obs++ [⟨x.th.pc,kd,v⟩]) y.2.2)/\Ent W0 own' ((h.b,thP c t n p {h with oa:=y.1,oc:=y.2.1,oD:=y.2.2} {x with obs:=x.obs++ [⟨x.th.pc,kd,v⟩]})::(y.2.2++Q)):=by
 refine sH (jq 13 3 [30,32,33,35,38,0]) ?_;obtain⟨hb,ap,lb,ca,cc,sa,sc,sD,oa,oc,oD⟩:=h;dsimp only at g ⊢
 repeat'((try conv=>whnf);first|refine qf fun bk hbk=>?_|apply q0z (enc:=ObM.enc) (T:=94) (⟨x.th.pc,kd,v⟩:ObM) g;exact rfl;exact rfl;omega;exact rfl;exact rfl;omega;intro a5 o j d|refine fA ?_|refine fN ?_)
 all_goals exact⟨(a5,o,j),⟨rfl,d⟩,by unfold thP;simp only[z8];exact sbE⟩
theorem qdJ [mm:qy b (thP c t n p h x) own](s:i.op=12\/i.op=13)(z:qdX i):jo W0 162 [ptr b,i.v] own (uv (q0V x i)):=by
 refine qg (sH [] ?_);have g:=fun(r imm:Int) (w:0<=r/\r<8) (own':Own) (m1:qy b (thP c t n p h x) own')=>qcu (W0:=W0) (own:=own') (b:=b) (x:=x) (imm:=imm) w
 obtain⟨_,o,q,_,_⟩:=z;obtain⟨op,ia,ib,ic,imm⟩:=i;dsimp only[Ins.v] at s o q ⊢
 rcases s with rfl|rfl
 ·have d:=g ib imm (q rfl)
  repeat'((try conv=>whnf);first|refine fE ?_|apply qe;refine qd (d _ Yx) ?_|refine fA ?_|refine qf fun u j=>?_)
  all_goals exact⟨rfl,(eC)⟩
 ·have d:=g ia imm (o rfl)
  repeat'((try conv=>whnf);first|refine fD ?_|apply qe;refine qd (d _ Yx) ?_|refine fA ?_|refine qf fun u j=>?_)
  all_goals exact⟨rfl,(eC)⟩
theorem qnL(v:Int)(H:i.op=12\/i.op=13)(K:qdX i)(hpc:x.th.pc<=100000)(G:qo ObM.enc 94 3 h.oa h.oc x.obs h.oD)(J:x.obs.length<=100000)(Q:Own):jn W0 239 [ptr h.b,i.v,uv v] ((h.b,thP c t n p h x)::(h.oD++Q)) fun r own'=>
  ∃y:j9×Nat×Own,(r= .tuple #[]/\qo ObM.enc 94 3 y.1 y.2.1 (x.obs++ [⟨x.th.pc,if i.op=12 then 4 else 5,v⟩]) y.2.2)/\
   Ent W0 own' ((h.b,thP c t n p {h with oa:=y.1,oc:=y.2.1,oD:=y.2.2} (({x with th:={x.th with rg:=if i.op=12 then x.th.rg.set i.a.toNat v else x.th.rg},obs:=x.obs++ [⟨x.th.pc,if i.op=12 then 4 else 5,v⟩]}:GT).to p.length (x.th.pc+1)))::(y.2.2++Q)):=by
 refine sH (jq 8 3 [20,0]) ?_;have j:=fun(X:GT) (C:X.obs=x.obs) (kd:Int) Q=>q3F (W0:=W0) (c:=c) (t:=t) (n:=n) (p:=p) (h:=h) (x:=X) kd v (by rw[C];exact G) (by rw[C];exact J) Q
 obtain⟨hb,ap,lb,ca,cc,sa,sc,sD,oa,oc,oD⟩:=h;obtain⟨_,z,_,_,_⟩:=K;obtain⟨op,ia,ib,ic,imm⟩:=i;dsimp only[Ins.v] at H z j G ⊢
 rcases H with rfl|rfl
 ·have ha7:=z rfl;have u:ia.toNat<8:=Yu;rw[if_pos rfl,if_pos rfl];have g:=j {x with th:={x.th with rg:=x.th.rg.set ia.toNat v}} rfl 4
  repeat'((try conv=>whnf);first|refine fE ?_|refine qaV (c:=c) (t:=t) (n:=n) (p:=p) (h:=⟨hb,ap,lb,ca,cc,sa,sc,sD,oa,oc,oD⟩) (x:=x) u ?_ ?_;omega|(apply qe;first|refine qx (b:=hb) (D:=oD++ []) g (fun Q=>sbE) fun y v o=>?_;obtain⟨a5,s,q⟩:=y;obtain⟨rfl,d⟩:=o;dsimp only at d|refine qI (q2s (c:=c) (t:=t) (n:=n) (p:=p) (h:=⟨hb,ap,lb,ca,cc,sa,sc,sD,a5,s,q⟩) (x:={x with th:={x.th with rg:=x.th.rg.set ia.toNat v},obs:=x.obs++ [⟨x.th.pc,4,v⟩]}) (by dsimp only;omega) _) fun _ v o=>?_;subst o)|refine fP ?_|refine fA ?_|refine qf fun I w=>?_)
  all_goals exact⟨(a5,s,q),⟨rfl,d⟩,sbE⟩
 ·rw[if_neg Yv,if_neg Yv];have g:=j x rfl 5
  repeat'((try conv=>whnf);first|refine fD ?_|(apply qe;first|refine qx (b:=hb) (D:=oD++ []) g (fun Q=>sbE) fun y v o=>?_;obtain⟨a5,s,q⟩:=y;obtain⟨rfl,d⟩:=o;dsimp only at d|refine qI (q2s (c:=c) (t:=t) (n:=n) (p:=p) (h:=⟨hb,ap,lb,ca,cc,sa,sc,sD,a5,s,q⟩) (x:={x with obs:=x.obs++ [⟨x.th.pc,5,v⟩]}) (by dsimp only;omega) _) fun _ v o=>?_;subst o)|refine fA ?_|refine qf fun I w=>?_)
  all_goals exact⟨(a5,s,q),⟨rfl,d⟩,sbE⟩
theorem qgR(V:c.strong=false)(hcw:0<=c.words/\c.words<=1099511627776)(hdl:(m.d.length:Int)=c.words)(hM:mh.ok m.L)(U:i.op=12\/i.op=13)(hx:qdX i)(aj:x.th.pc<=100000)(Y:h.ok x)(K:x.at'=none)(J:h.ap= .pointer none)(hl:x.obs.length<=100000)(Q:Own):
  jn W0 166 [ptr h.b,ptr mh.mb,i.v] ((h.b,thP c t n p h x)::(mh.O m++(h.sD++(h.oD++Q)))) fun v own'=>
  ∃s:TR,(v= .tuple #[stV {(q04 c p t m x i).2.2.1 with t:=0}, .slice s.ea s.el.length s.ec]/\s.ok W0 c t h (q04 c p t m x i).2.1 (q04 c p t m x i).2.2.2)/\Ent W0 own' (s.O c t n p (q04 c p t m x i).2.1 (mh.O (q04 c p t m x i).1++Q)):=by
 refine sH (jq 7 3 (18::0::(jq 11 3 [26,27,29,31,33,36,0,3,1,5,1,8,10,11,0,10,8,11,0,10,5,8,11,0]))) ?_;have j:=fun(own':Own) (m1:qy h.b (thP c t n p h x) own')=>qdJ (W0:=W0) (own:=own') (b:=h.b) (c:=c) (t:=t) (n:=n) (p:=p) (h:=h) (x:=x) U hx
 have T:=fun(X:GT) (hX:X.obs=x.obs) Q=>q3F (W0:=W0) (c:=c) (t:=t) (n:=n) (p:=p) (h:=h) (x:=X) 7 7 (by rw[hX];exact Y.ho) (by rw[hX];exact hl) Q
 have I:=fun v Q=>qnL (W0:=W0) (c:=c) (t:=t) (n:=n) (p:=p) v U hx aj Y.ho hl Q
 have h0:0<=q0V x i:=(q0u _).1;obtain⟨_,Z,hB,_,_⟩:=hx;unfold q04
 by_cases hw:c.words<=q0V x i
 ·rw[if_pos hw];obtain⟨hb,ap,lb,ca,cc,sa,sc,sD,oa,oc,oD⟩:=h;obtain⟨q,R⟩:=Y;dsimp only at J q R T j ⊢;subst J;generalize q0V x i=w at*;obtain⟨op,ia,ib,ic,imm⟩:=i;dsimp only[Ins.v] at U j Z ⊢;have aq:w>=c.words:=hw
  rcases U with rfl|rfl
  ·have ha7:=Z rfl;have ae:ia.toNat<8:=Yu;rw[if_pos rfl];have u:=T {x with th:={x.th with rg:=x.th.rg.set ia.toNat 0}} rfl
   repeat'((try conv=>whnf);first|refine fE ?_|refine fF ?_|refine qaV (c:=c) (t:=t) (n:=n) (p:=p) (h:=⟨hb, .pointer none,lb,ca,cc,sa,sc,sD,oa,oc,oD⟩) (x:=x) ae ?_ ?_;omega|(apply qe;first|refine qd (j _ Yx) ?_|refine qx (b:=hb) (D:=oD++ []) u (fun Q=>sbE) fun y v C=>?_;obtain⟨a5,H,G⟩:=y;obtain⟨rfl,g⟩:=C;dsimp only at g|refine qI (q2s (c:=c) (t:=t) (n:=n) (p:=p) (h:=⟨hb, .pointer none,lb,ca,cc,sa,sc,sD,a5,H,G⟩) (x:={x with th:={x.th with rg:=x.th.rg.set ia.toNat 0},obs:=x.obs++ [⟨x.th.pc,7,7⟩]}) (by dsimp only;omega) _) fun _ v C=>?_;subst C)|refine fC ?_|refine fP ?_|refine fA ?_|refine fL ?_|refine fM ?_|refine qf fun N O=>?_)
   all_goals exact⟨⟨⟨hb, .pointer none,lb,ca,cc,sa,sc,sD,a5,H,G⟩,[],none,0,[],[]⟩,⟨rfl,⟨rfl,rfl,⟨q,g⟩,by unfold AtO GT.to;dsimp only;rw[K];exact⟨rfl,rfl⟩,EvO.nil,rfl,rfl,fun _ _=>rfl⟩⟩,by unfold TR.O;dsimp only;simp only[zd,zp,zk];exact sbE⟩
  ·rw[if_neg Yv];have u:=T x rfl
   repeat'((try conv=>whnf);first|refine fD ?_|refine fF ?_|(apply qe;first|refine qd (j _ Yx) ?_|refine qx (b:=hb) (D:=oD++ []) u (fun Q=>sbE) fun y v C=>?_;obtain⟨a5,H,G⟩:=y;obtain⟨rfl,g⟩:=C;dsimp only at g|refine qI (q2s (c:=c) (t:=t) (n:=n) (p:=p) (h:=⟨hb, .pointer none,lb,ca,cc,sa,sc,sD,a5,H,G⟩) (x:={x with obs:=x.obs++ [⟨x.th.pc,7,7⟩]}) (by dsimp only;omega) _) fun _ v C=>?_;subst C)|refine fC ?_|refine fA ?_|refine fL ?_|refine fM ?_|refine qf fun N O=>?_)
   all_goals exact⟨⟨⟨hb, .pointer none,lb,ca,cc,sa,sc,sD,a5,H,G⟩,[],none,0,[],[]⟩,⟨rfl,⟨rfl,rfl,⟨q,g⟩,by unfold AtO GT.to;dsimp only;rw[K];exact⟨rfl,rfl⟩,EvO.nil,rfl,rfl,fun _ _=>rfl⟩⟩,by unfold TR.O;dsimp only;simp only[zd,zp,zk];exact sbE⟩
 ·rw[if_neg hw];obtain⟨w,W⟩:=Zp h0;rw[W] at j hw ⊢;have hj:=q0N (l:=m.d) (i:=w) Yu;rw[zD];generalize m.d.getD w 0=z at*;obtain⟨hb,ap,lb,ca,cc,sa,sc,sD,oa,oc,oD⟩:=h;obtain⟨q,R⟩:=Y;dsimp only at J q R j I ⊢;subst J;obtain⟨op,ia,ib,ic,imm⟩:=i;dsimp only[Ins.v] at U j Z hB I ⊢;have aq:¬(w:Int)>=c.words:=hw;clear W
  rcases U with rfl|rfl
  ·rw[if_pos rfl];have o:=I z;rw[if_pos rfl,if_pos rfl] at o
   repeat'((try conv=>whnf);first|refine fE ?_|refine fG ?_|refine qlz V ?_|refine qf fun N O=>?_|(apply qe;first|refine qd (j _ Yx) ?_|refine q0Z 0 w hM Yv hj ?_ ?_ ?_;exact rfl;exact rfl|refine qx (b:=hb) (D:=oD++ []) o (fun Q=>sbE) fun y v C=>?_;obtain⟨a5,H,G⟩:=y;obtain⟨rfl,g⟩:=C;dsimp only at g)|refine fB ?_|refine fC ?_|refine fO ?_|refine fA ?_|refine fL ?_|refine fN ?_|refine fM ?_|refine q1a.mk ?_ ?_)
   all_goals exact⟨⟨⟨hb, .pointer none,lb,ca,cc,sa,sc,sD,a5,H,G⟩,[],some ⟨N,0,none⟩,1,[⟨0,t,1,w,none,[],0,none,[],0⟩],[(N,evP ⟨0,t,1,w,none,[],0,none,[],0⟩)]⟩,⟨rfl,⟨rfl,rfl,⟨q,g⟩,by unfold AtO GT.to;dsimp only;rw[K];exact⟨rfl,rfl⟩,ev1 ⟨RdE.nil,RdE.nil⟩ (zv _) (zv _),rfl,rfl,fun _ _=>rfl⟩⟩,by unfold TR.O;dsimp only;simp only[zd,zp,zk];exact sbE⟩
  ·rw[if_neg Yv];have hb7:=hB rfl;have af:ib.toNat<8:=Yu;have o:=I (x.th.rg.get ib.toNat);rw[if_neg Yv,if_neg Yv] at o
   repeat'((try conv=>whnf);first|refine fD ?_|refine fG ?_|refine qlz V ?_|refine qas (c:=c) (t:=t) (n:=n) (p:=p) (h:=⟨hb, .pointer none,lb,ca,cc,sa,sc,sD,oa,oc,oD⟩) (x:=x) af ?_ ?_;omega|refine qf fun N O=>?_|(apply qe;first|refine qd (j _ Yx) ?_|refine q2N 0 w (x.th.rg.get ib.toNat) {m with d:=m.d.set w (x.th.rg.get ib.toNat)} hM Yv hj rfl ?_ ?_ ?_;exact rfl;exact rfl|refine qx (b:=hb) (D:=oD++ []) o (fun Q=>sbE) fun y v C=>?_;obtain⟨a5,H,G⟩:=y;obtain⟨rfl,g⟩:=C;dsimp only at g)|refine fB ?_|refine fC ?_|refine fO ?_|refine fP ?_|refine fA ?_|refine fL ?_|refine fM ?_|refine q1a.mk ?_ ?_)
   all_goals exact⟨⟨⟨hb, .pointer none,lb,ca,cc,sa,sc,sD,a5,H,G⟩,[],some ⟨N,0,none⟩,1,[⟨0,t,2,w,none,[],0,none,[],0⟩],[(N,evP ⟨0,t,2,w,none,[],0,none,[],0⟩)]⟩,⟨rfl,⟨rfl,rfl,⟨q,g⟩,by unfold AtO GT.to;dsimp only;rw[K];exact⟨rfl,rfl⟩,ev1 ⟨RdE.nil,RdE.nil⟩ (zv _) (zv _),rfl,rfl,fun _ _=>rfl⟩⟩,by unfold TR.O;dsimp only;simp only[zd,zp,zk];exact sbE⟩
end
open Go
section
variable{W0:World}{own Q E:Own}{c:Cfg}{t n:Nat}{p:jg}{h:TH}{x:GT}{k:Int}{b e:Nat}{a:AT}{ah:AH}{mh:MH}{m:MS}{i:Ins}{f:FT}
theorem qia(s:qiD n m f):(q3q t m f).1.ld=true/\(0<=(q3q t m f).1.lim/\(q3q t m f).1.lim<=1099511627776)/\(((q3q t m f).2.1.c=3/\(q3q t m f).2.2=25)\/((q3q t m f).2.1.c=6/\(q3q t m f).2.2=26)):=by
 obtain⟨d,o,q,_⟩:=s;unfold q3q
 rcases d with rfl|⟨d,h4,g,j⟩
 ·rw[if_pos rfl];exact⟨rfl,⟨o,q⟩, .inl ⟨rfl,rfl⟩⟩
 ·rw[if_neg (by rw[d];decide)];dsimp only;refine⟨?_,?_, .inr ⟨rfl,rfl⟩⟩
  ·split
   ·exact d
   ·exact d
  ·split
   ·exact⟨g,j⟩
   ·exact⟨g,j⟩
theorem qgn(g:mh.ok m.L)(s:qiD n m f)(Q:Own):jn W0 148 [ptr b,ptr mh.mb] ((b,feP t n f)::(mh.O m++Q)) fun v own'=>
  ∃_:Unit,v=(q3q t m f).2.1.v/\Ent W0 own' ((b,feP t n (q3q t m f).1)::(mh.O m++Q)):=by
 obtain⟨d,h2,h3,j,o⟩:=s
 rcases d with rfl|⟨d,q,_,_⟩
 ·exact qdr g Q
 ·exact qds g d q j o Q
abbrev WtQ(t n:Nat)(h:TH)(x':GT)(s:TH×Own):Prop:=s.1.b=h.b/\s.1.ap=h.ap/\s.1.ca=h.ca/\s.1.lb.l=h.lb.l/\s.1.ok x'/\FeO s.1.lb t n x'.fn s.2
theorem qcv{fb:Nat}(hM:mh.ok m.L)(hf:qiD n m f)(K:h.lb.fp=ptr fb)(W:h.ok x)(hl:x.obs.length<=100000)(hpc:x.th.pc<=100000)(Q:Own):
  jn W0 117 [ptr h.b,ptr mh.mb] ((h.b,thP c t n p h x)::(mh.O m++(h.sD++(h.oD++((fb,feP t n f)::(h.lb.l,lmP c)::Q))))) fun v own'=>
  ∃s:TH×Own,(v=stV {(q0x n p t m x f).2.2.1 with t:=0}/\WtQ t n h (q0x n p t m x f).2.1 s)/\Ent W0 own' ((s.1.b,thP c t n p s.1 (q0x n p t m x f).2.1)::(mh.O m++(s.1.sD++(s.1.oD++(s.2++((s.1.lb.l,lmP c)::Q)))))):=by
 refine sH (jq 11 3 [26,27,29,31,34,0]) ?_;have u:=fun Q=>qgn (W0:=W0) (b:=fb) (t:=t) hM hf Q
 obtain⟨O,R,C⟩:=qia (t:=t) hf;unfold q0x;generalize q3q t m f=z at*;obtain⟨⟨ld,lim,nx⟩,ac,ph⟩:=z;dsimp only at u O R C ⊢;subst O;have N:=fun(h:TH) (W:h.ok x) Q=>q3F (W0:=W0) (c:=c) (t:=t) (n:=n) (p:=p) (h:=h) (x:=x) 6 0 W.ho hl Q
 obtain⟨hb,ap,⟨g,fp⟩,ca,cc,sa,sc,sD,oa,oc,oD⟩:=h;obtain⟨q,I⟩:=W;dsimp only at K q I N ⊢;subst K;have j:=fun(own':Own) (H:qy fb (feP t n ⟨true,lim,nx⟩) own')=>q6g (W0:=W0) (own:=own') (b:=fb) (n:=n) (ld:=true) (nx:=nx) (qk H rfl) (qk H rfl) (qk H rfl)
 have Y:=fun(own':Own) (H:qy fb (feP t n ⟨true,lim,nx⟩) own')=>qdq (W0:=W0) (own:=own') (b:=fb) (lim:=lim) (qk H rfl) (qk H rfl) R
 have V:=fun(d:Nat) (own':Own) (H:qy d (j8 #[j7] 308 (0,0)) own')=>qgg (W0:=W0) (own:=own') (b:=d) (qk H rfl)
 obtain⟨ak,acc,ai,ag,apt,adn⟩:=ac;dsimp only at C u ⊢
 by_cases hd:n<=nx
 ·rw[if_pos hd];rw[show(true&&decide (n<=nx))=true by simpa using hd] at j;have G:=N ⟨hb,ap,⟨g, .pointer none⟩,ca,cc,sa,sc,sD,oa,oc,oD⟩ ⟨q,I⟩;dsimp only at G
  rcases C with ⟨rfl,rfl⟩|⟨rfl,rfl⟩
  all_goals
   repeat'((try conv=>whnf);first|refine fH ?_|refine fE ?_|refine fD ?_|(apply qe;first|refine qd (j _ Yx) ?_|refine qd (U _ Yx) ?_|refine qx (b:=fb) (D:=mh.O m++ []) u (fun Q=>sbE) fun _ v w=>?_;subst w|refine qI (qj6 (b:=g) (c:=c) lim _) fun d v w=>?_;(subst w;have U:=V d)|refine qx (b:=hb) (D:=oD++ []) G (fun Q=>sbE) fun y v w=>?_;obtain⟨a5,c5,Z⟩:=y;obtain⟨rfl,J⟩:=w;dsimp only at J|refine qI (q2s (c:=c) (t:=t) (n:=n) (p:=p) (h:=⟨hb,ap,⟨g, .pointer none⟩,ca,cc,sa,sc,sD,a5,c5,Z⟩) (x:={x with obs:=x.obs++ [⟨x.th.pc,6,0⟩]}) (by dsimp only;omega) _) fun _ v w=>?_;subst w)|apply qC;refine qj (fun ex=>Y _ Yx) ?_|refine fA ?_|refine fL ?_|refine fN ?_|refine fM ?_|refine qf fun bk T=>?_)
  all_goals exact⟨(⟨hb,ap,⟨g, .pointer none⟩,ca,cc,sa,sc,sD,a5,c5,Z⟩,[]),⟨rfl,rfl,rfl,rfl,rfl,⟨q,J⟩,rfl,rfl⟩,by dsimp only;simp only[zk];exact sbE⟩
 ·rw[if_neg hd];rw[show(true&&decide (n<=nx))=false by simpa using hd] at j
  rcases C with ⟨rfl,rfl⟩|⟨rfl,rfl⟩
  all_goals
   repeat'((try conv=>whnf);first|refine fI ?_|refine fE ?_|refine fD ?_|(apply qe;first|refine qd (j _ Yx) ?_|refine qx (b:=fb) (D:=mh.O m++ []) u (fun Q=>sbE) fun _ v w=>?_;subst w)|refine fA ?_|refine fL ?_|refine fN ?_|refine fM ?_|refine qf fun bk T=>?_)
  all_goals exact⟨(⟨hb,ap,⟨g,ptr fb⟩,ca,cc,sa,sc,sD,oa,oc,oD⟩,[(fb,feP t n ⟨true,lim,nx⟩)]),⟨rfl,rfl,rfl,rfl,rfl,⟨q,I⟩,fb,rfl,rfl⟩,sbE⟩
theorem qjG(H:i.op=16)(I:mh.ok m.L)(J:qiD n m ⟨false,0,0⟩)(d:h.lb.fp= .pointer none)(u:h.ok x)(K:x.obs.length<=100000)(w:x.th.pc<=100000)(Q:Own):
  jn W0 121 [ptr h.b,ptr mh.mb,i.v] ((h.b,thP c t n p h x)::(mh.O m++(h.sD++(h.oD++((h.lb.l,lmP c)::Q))))) fun v own'=>
  ∃s:TH×Own,(v= .tuple #[stV {(q0x n p t m x ⟨false,0,0⟩).2.2.1 with t:=0},j7]/\WtQ t n h (q0x n p t m x ⟨false,0,0⟩).2.1 s)/\Ent W0 own' ((s.1.b,thP c t n p s.1 (q0x n p t m x ⟨false,0,0⟩).2.1)::(mh.O m++(s.1.sD++(s.1.oD++(s.2++((s.1.lb.l,lmP c)::Q)))))):=by
 refine sH (jq 15 3 (34::35::37::39::42::0::(jq 9 3 [22,23,25,27,30,0]))) ?_;have G:=fun(fb:Nat) (h:TH) (d:h.lb.fp=ptr fb) (u:h.ok x) Q=>qcv (W0:=W0) (c:=c) (t:=t) (n:=n) (p:=p) (fb:=fb) I J d u K w Q
 generalize q0x n p t m x ⟨false,0,0⟩=z at*;obtain⟨hb,ap,⟨q,fp⟩,ca,cc,sa,sc,sD,oa,oc,oD⟩:=h;obtain⟨o,j⟩:=u;dsimp only at d o j ⊢;subst d;obtain⟨op,ia,ib,ic,imm⟩:=i;dsimp only[Ins.v] at H ⊢;subst H
 repeat'((try conv=>whnf);first|refine fE ?_|refine fD ?_|(apply qe;first|refine qi (qaO t n _) fun fb v C=>?_;(subst C;have g:=G fb ⟨hb,ap,⟨q,ptr fb⟩,ca,cc,sa,sc,sD,oa,oc,oD⟩ rfl ⟨o,j⟩;dsimp only at g)|refine qx (b:=hb) (D:=mh.O m++(sD++(oD++((fb,feP t n ⟨false,0,0⟩)::(q,lmP c):: [])))) g (fun Q=>sbE) fun s v C=>?_;obtain⟨rfl,N⟩:=C)|refine fA ?_|refine fL ?_|refine fN ?_|refine fM ?_|refine qf fun bk hbk=>?_)
 all_goals exact⟨s,⟨rfl,N⟩,sbE⟩
theorem qjH(C:c.strong=false)(o:0<=c.words/\c.words<=1099511627776)(q:(m.d.length:Int)=c.words)(H:mh.ok m.L)(u:i.op=12\/i.op=13)(G:qdX i)(w:x.th.pc<=100000)(I:h.ok x)(j:x.at'=none)(g:h.ap= .pointer none)(J:x.obs.length<=100000)(Q:Own):
  jn W0 121 [ptr h.b,ptr mh.mb,i.v] ((h.b,thP c t n p h x)::(mh.O m++(h.sD++(h.oD++Q)))) fun v own'=>
  ∃s:TR,(v= .tuple #[stV {(q04 c p t m x i).2.2.1 with t:=0}, .slice s.ea s.el.length s.ec]/\s.ok W0 c t h (q04 c p t m x i).2.1 (q04 c p t m x i).2.2.2)/\Ent W0 own' (s.O c t n p (q04 c p t m x i).2.1 (mh.O (q04 c p t m x i).1++Q)):=by
 refine sH (jq 15 3 (34::35::37::39::42::0::(jq 9 3 [22,23,25,27,30,0]))) ?_;have d:=fun Q=>qgR (W0:=W0) (c:=c) (t:=t) (n:=n) (p:=p) C o q H u G w I j g J Q
 generalize q04 c p t m x i=z at*;obtain⟨hb,ap,lb,ca,cc,sa,sc,sD,oa,oc,oD⟩:=h;clear G;obtain⟨op,ia,ib,ic,imm⟩:=i;dsimp only[Ins.v] at u d ⊢
 rcases u with rfl|rfl
 all_goals
  repeat'((try conv=>whnf);first|refine fE ?_|refine fD ?_|(apply qe;first|refine qx (b:=hb) (D:=mh.O m++(sD++(oD++ []))) d (fun Q=>sbE) fun s v N=>?_;obtain⟨rfl,K⟩:=N)|refine fO ?_|refine fA ?_|refine fL ?_|refine fM ?_|refine qf fun bk hbk=>?_)
 all_goals exact⟨s,⟨rfl,K⟩,sbE⟩
end
open Go
structure GoC(c:Cfg)(p:jg):Prop where
 hr:0<=c.reads/\c.reads<=32
 hw:1<=c.writes/\c.writes<=32
 hcw:0<=c.words/\c.words<=1099511627776
 str:c.strong=false
 hp:p.length<=100000
 hck:(qw p).2=0
 hend:∀b i,p[b]? =some i->i.op=7->q0v p b<=100000
def qoV(c:Cfg)(t:Int)(m:MS)(a:AT):Prop:=(qh c t m a).2.1.st=2->0<=(qh c t m a).2.1.code/\(qh c t m a).2.1.code<=100
def locI(i:Ins):Prop:=(0<=i.op/\i.op<=6)\/i.op=17
structure GoT(c:Cfg)(p:jg)(n t:Nat)(m:MS)(x:GT)(i:Ins):Prop where
 hi:p[x.th.pc]? =some i
 ic:qdX i
 rg:x.th.rg.ok
 hpc:x.th.pc<=1000
 dn:x.th.dn=false
 hl:x.seen.length<=100000
 hl2:x.obs.length<=100000
 ct:x.ct<=100000
 tr:x.tr<=100000
 dl:(m.d.length:Int)=c.words
 at':match x.at' with
  |none=>(match x.fn with
   |some f=>qiD n m f
   |none=>locI i\/(i.op=7/\okA c t m a0T)\/(i.op=12\/i.op=13)\/(i.op=16/\qiD n m ⟨false,0,0⟩))
  |some a=>x.fn=none/\(∃bi,p[x.bg]? =some bi/\bi.op=7)/\((a.busy=true/\okA c t m a/\qoV c t m a/\((i.op=10/\0<=i.a/\i.a<8)\/(i.op≠10/\i.op≠14)))\/
   (a.ph= .idle/\a.st=1/\(locI i\/(rqI i/\okA c t m (q1D c x.th.rg a i)/\qoV c t m (q1D c x.th.rg a i)))))
theorem GT.dn_eq{x:GT}(e:x.th.dn=false):∃x':GT,x={x' with th:={x'.th with dn:=false}}:=⟨x,by obtain⟨⟨_,_,_,_⟩,_,_,_,_,_,_,_,_⟩:=x;cases e;rfl⟩
structure qoo(W0:World)(c:Cfg)(t n:Nat)(h:TH)(s:TR×Own)(x:GT)(es:jl):Prop where
 b:s.1.h.b=h.b
 ca:s.1.h.ca=h.ca
 ok:s.1.h.ok x
 at':AtO W0 c t s.1.h x s.1.A
 ev:EvO W0 s.1.ea s.1.ec s.1.el s.1.eD
 em:s.1.el.map EH.m=es
 fe:FeO s.1.h.lb t n x.fn s.2
 ll:s.1.h.lb.l=h.lb.l
 ap:h.ap≠ .pointer none->x.at'≠none->s.1.h.ap=h.ap
section
variable{W0:World}{own Q E A F:Own}{c:Cfg}{t n:Nat}{p:jg}{h:TH}{x:GT}{k:Int}{b e:Nat}{a:AT}{ah:AH}{mh:MH}{m:MS}{i:Ins}
theorem qe5{t:Int}:(q0H c p t m x a i).2.2.1.t=t/\(q0H c p t m x a i).2.1.fn=x.fn:=by
 refine⟨rfl,?_⟩;unfold q0H GT.ans GT.endG GT.to;dsimp only
 (repeat' split) <;>rfl
theorem qeO{t:Int}:(q1f c p t m x i).2.2.1.t=t/\(q1f c p t m x i).2.1.fn=x.fn:=by
 unfold q1f
 split
 ·exact qe5
 ·split
  ·split
   ·exact qe5
   ·exact⟨rfl,rfl⟩
  ·exact⟨rfl,rfl⟩
theorem qc9{t:Int}:(q04 c p t m x i).2.2.1.t=t/\(q04 c p t m x i).2.1.fn=x.fn:=by
 unfold q04
 split
 ·exact⟨rfl,rfl⟩
 ·split <;>exact⟨rfl,rfl⟩
theorem qeP(d:¬(i.op=12\/i.op=13))(g:i.op≠16){t:Int}:q2I c p n t m x i=q1f c p t m x i:=by
 unfold q2I;rw[if_neg d,if_neg g]
theorem qoo.of{s:TR}{x':GT}{ev:jl}(d:s.ok W0 c t h x' ev)(j:x'.fn=none)(g:h.lb.fp= .pointer none):qoo W0 c t n h (s,[]) x' ev:=
 ⟨d.b,d.ca,d.ok,d.at',d.ev,d.em,by unfold FeO;rw[j];exact⟨by rw[d.lb];exact g,rfl⟩,by rw[d.lb],d.ap⟩
theorem qjK{cD:Own}(hF:qz W0)(hG:GoC c p)(hT:GoT c p n t m x i)(hh:h.ok x)(ay:AtO W0 c t h x A)(ae:FeO h.lb t n x.fn F)(hM:mh.ok m.L)(T:RdE Ins.enc 5 W0 cD h.ca p)(Q:Own) [eq:qr Q cD]:
  jn W0 84 [ptr h.b,ptr mh.mb] ((h.b,thP c t n p h x)::(A++(mh.O m++(h.sD++(h.oD++(F++((h.lb.l,lmP c)::Q))))))) fun v own'=>
  ∃s:TR×Own,(v= .tuple #[stV (qH c p n t m x).2.2.1, .slice s.1.ea s.1.el.length s.1.ec, .bool true]/\qoo W0 c t n h s (qH c p n t m x).2.1 (qH c p n t m x).2.2.2)/\Ent W0 own' (s.1.O c t n p (qH c p n t m x).2.1 (mh.O (qH c p n t m x).1++(s.2++((s.1.h.lb.l,lmP c)::Q)))):=by
 refine sH (jq 11 3 [26,28,0]) ?_;obtain⟨Y,aR,bh,aZ,aB,hl,af,bm,bu,bo,d⟩:=hT;unfold qH;rw[Y];dsimp only;unfold AtO at ay;cases hx:x.at' with
 |none=>
  rw[hx] at d ay;obtain⟨g,rfl⟩:=ay;dsimp only at d ⊢;cases W:x.fn with
  |some f=>
   rw[W] at d ae;dsimp only at d ⊢;obtain⟨fb,q,rfl⟩:=ae;have H:=fun Q=>qcv (W0:=W0) (c:=c) (t:=t) (n:=n) (p:=p) (fb:=fb) hM d q hh af Yu Q
   have Z:(q0x n p t m x f).1=m/\(q0x n p t m x f).2.2.1.t=t/\(q0x n p t m x f).2.2.2= []/\(q0x n p t m x f).2.1.at'=none:=⟨rfl,rfl,rfl,by unfold q0x;dsimp only;split <;>exact hx⟩
   generalize q0x n p t m x f=z at H Z ⊢;obtain⟨m',x',⟨st,aT,sat,aS⟩,ev⟩:=z;dsimp only at Z H ⊢;obtain⟨rfl,rfl,rfl,aY⟩:=Z;obtain⟨x0,rfl⟩:=GT.dn_eq aB;obtain⟨o,ap,⟨u,fp⟩,ca,cc,sa,sc,sD,oa,oc,oD⟩:=h;dsimp only at g q T H ⊢;subst g;subst q
   repeat'((try conv=>whnf);first|refine fH ?_|refine fE ?_|refine fD ?_|(apply qF;first|refine ixE T Y ?_ ?_;(first|rfl|omega))|apply q24;refine q0C T Y rfl ?_|(apply qe;first|refine qx (b:=o) (D:=mh.O m'++(sD++(oD++((fb,feP t n f)::(u,lmP c):: [])))) H (fun Q=>sbE) fun s v hv=>?_;obtain⟨⟨G,U,⟨aO,aU⟩,w,C,O,R,N,J,K,I⟩,F1⟩:=s;obtain⟨rfl,aH,aI,aJ,aK,aL,aM⟩:=hv;dsimp only at aH aI aJ aK aL aM;subst aH;subst aI;subst aJ;subst aK)|refine fA ?_|refine fL ?_|refine fN ?_|refine fM ?_|refine qf fun bk aQ=>?_)
   all_goals exact⟨(⟨⟨G, .pointer none,⟨aO,aU⟩,w,C,O,R,N,J,K,I⟩,[],none,0,[],[]⟩,F1),⟨rfl,⟨rfl,rfl,aL,by unfold AtO;rw[aY];exact⟨rfl,rfl⟩,EvO.nil,rfl,aM,rfl,fun _ _=>rfl⟩⟩,by unfold TR.O;dsimp only;simp only[zd,zp,zk];exact sbE⟩
  |none=>
   rw[W] at d ae;dsimp only at d ⊢;obtain⟨q,rfl⟩:=ae
   by_cases ax:i.op=16
   ·have aF:qiD n m ⟨false,0,0⟩:=by
     unfold locI at d
     rcases d with h|h|h|h
     ·omega
     ·omega
     ·omega
     ·exact h.2
    have H:=fun Q=>qjG (W0:=W0) (c:=c) (t:=t) (n:=n) (p:=p) (i:=i) ax hM aF q hh af Yu Q
    have V:q2I c p n t m x i=q0x n p t m x ⟨false,0,0⟩:=by unfold q2I;rw[if_neg Yu,if_pos ax]
    rw[V];have Z:(q0x n p t m x ⟨false,0,0⟩).1=m/\(q0x n p t m x ⟨false,0,0⟩).2.2.1.t=t/\(q0x n p t m x ⟨false,0,0⟩).2.2.2= []/\(q0x n p t m x ⟨false,0,0⟩).2.1.at'=none:=⟨rfl,rfl,rfl,by unfold q0x;dsimp only;split <;>exact hx⟩
    generalize q0x n p t m x ⟨false,0,0⟩=z at H Z ⊢;obtain⟨m',x',⟨st,aT,sat,aS⟩,ev⟩:=z;dsimp only at Z H ⊢;obtain⟨rfl,rfl,rfl,aY⟩:=Z;obtain⟨x0,rfl⟩:=GT.dn_eq aB;obtain⟨o,ap,⟨u,fp⟩,ca,cc,sa,sc,sD,oa,oc,oD⟩:=h;dsimp only at g q T H ⊢;subst g;subst q
    repeat'((try conv=>whnf);first|refine fH ?_|refine fI ?_|refine fD ?_|(apply qF;first|refine ixE T Y ?_ ?_;(first|rfl|omega))|apply q24;refine q0C T Y rfl ?_|(apply qe;first|refine qx (b:=o) (D:=mh.O m'++(sD++(oD++((u,lmP c):: [])))) H (fun Q=>sbE) fun s v hv=>?_;obtain⟨⟨G,U,⟨aO,aU⟩,w,C,O,R,N,J,K,I⟩,F1⟩:=s;obtain⟨rfl,aH,aI,aJ,aK,aL,aM⟩:=hv;dsimp only at aH aI aJ aK aL aM;subst aH;subst aI;subst aJ;subst aK)|refine fO ?_|refine fA ?_|refine fL ?_|refine fN ?_|refine fM ?_|refine qf fun bk aQ=>?_)
    all_goals exact⟨(⟨⟨G, .pointer none,⟨aO,aU⟩,w,C,O,R,N,J,K,I⟩,[],none,0,[],[]⟩,F1),⟨rfl,⟨rfl,rfl,aL,by unfold AtO;rw[aY];exact⟨rfl,rfl⟩,EvO.nil,rfl,aM,rfl,fun _ _=>rfl⟩⟩,by unfold TR.O;dsimp only;simp only[zd,zp,zk];exact sbE⟩
   ·have hV:∀(Q:Own),qr Q cD->jn W0 121 [ptr h.b,ptr mh.mb,i.v] ((h.b,thP c t n p h x)::(mh.O m++(h.sD++(h.oD++Q)))) fun v own'=>
      ∃s:TR,(v= .tuple #[stV {(q2I c p n t m x i).2.2.1 with t:=0}, .slice s.ea s.el.length s.ec]/\s.ok W0 c t h (q2I c p n t m x i).2.1 (q2I c p n t m x i).2.2.2)/\Ent W0 own' (s.O c t n p (q2I c p n t m x i).2.1 (mh.O (q2I c p n t m x i).1++Q)):=by
     intro Q _
     by_cases j:i.op=12\/i.op=13
     ·have V:q2I c p n t m x i=q04 c p t m x i:=by unfold q2I;rw[if_pos j]
      rw[V];exact qjH hG.str hG.hcw bo hM j aR Yu hh hx g af Q
     ·rw[qeP j ax]
      rcases d with aX|⟨h7,hA⟩|h|h
      ·exact qgP aX aR bh hh hx g aZ Q
      ·exact qjF h7 g hF hh hG.hr hG.hw bm bu hM hA af T hG.hp Yu Y hG.hck (hG.hend _ _ Y h7) Q
      ·exact absurd h j
      ·exact absurd h.1 ax
    have het:(q2I c p n t m x i).2.2.1.t=t/\(q2I c p n t m x i).2.1.fn=x.fn:=by
     by_cases j:i.op=12\/i.op=13
     ·have V:q2I c p n t m x i=q04 c p t m x i:=by unfold q2I;rw[if_pos j]
      rw[V];exact qc9
     ·rw[qeP j ax];exact qeO
    rw[W] at het;generalize q2I c p n t m x i=z at hV het ⊢;obtain⟨m',x',⟨st,aT,sat,aS⟩,ev⟩:=z;dsimp only at het hV ⊢;obtain⟨rfl,aC⟩:=het;obtain⟨x0,rfl⟩:=GT.dn_eq aB;obtain⟨o,ap,⟨u,fp⟩,ca,cc,sa,sc,sD,oa,oc,oD⟩:=h;dsimp only at g q T hV ⊢;subst g;subst q;simp only[zk]
    repeat'((try conv=>whnf);first|refine fH ?_|refine fI ?_|refine fD ?_|(apply qF;first|refine ixE T Y ?_ ?_;(first|rfl|omega))|apply q24;refine q0C T Y rfl ?_|(apply qe;first|refine q1B (F:=cD) (b:=o) (D:=mh.O m++(sD++(oD++ []))) hV (fun Q=>sbE) fun s v hv=>?_;(obtain⟨⟨G,U,aN,w,C,O,R,N,J,K,I⟩,A1,aq,au,aw,aj⟩:=s;obtain⟨rfl,hs⟩:=hv;have az:o=G:=hs.b.symm;subst az;have aE:aN=⟨u, .pointer none⟩:=hs.lb;subst aE))|refine fO ?_|refine fA ?_|refine fL ?_|refine fN ?_|refine fM ?_|refine qf fun bk aQ=>?_)
    all_goals exact⟨(⟨⟨o,U,⟨u, .pointer none⟩,w,C,O,R,N,J,K,I⟩,A1,aq,au,aw,aj⟩,[]),⟨rfl,qoo.of hs aC rfl⟩,by dsimp only;simp only[zk];exact sbE⟩
 |some a=>
  rw[hx] at d ay;obtain⟨ah,E,g,aF,hP,rfl⟩:=ay;dsimp only at d ⊢;obtain⟨W,⟨bi,aP,h7⟩,d⟩:=d;rw[W] at ae ⊢;obtain⟨q,rfl⟩:=ae;dsimp only;have aA:=fun(own':Own) (m1:qy ah.b (atP c t ah a a.ph.no) own')=>q2p (W0:=W0) (own:=own') (a:=a) (ah:=ah) (qk m1 rfl)
  rcases d with ⟨hb,hA,aV,aW⟩|⟨aG,br,d⟩
  ·rw[if_pos hb];rw[hb] at aA;have hV:=fun(Q:Own) (eq:qr Q cD)=>qaS (t:=t) (n:=n) (i:=i) (bi:=bi) hF hh g aF hM hP hA hl af T hG.hp Yu Y aW aP h7 hG.hck (hG.hend _ _ aP h7) aV Q
   have het:=qe5 (c:=c) (p:=p) (t:=t) (m:=m) (x:=x) (a:=a) (i:=i);rw[W] at het;generalize q0H c p t m x a i=z at hV het ⊢;obtain⟨m',x',⟨st,aT,sat,aS⟩,ev⟩:=z;dsimp only at het hV ⊢;obtain⟨rfl,aC⟩:=het;obtain⟨x0,rfl⟩:=GT.dn_eq aB;obtain⟨o,ap,⟨u,fp⟩,ca,cc,sa,sc,sD,oa,oc,oD⟩:=h;dsimp only at g q T hV ⊢;subst g;subst q;simp only[zd,zp,zk]
   repeat'((try conv=>whnf);first|refine fH ?_|refine fE ?_|refine fD ?_|(apply qF;first|refine ixE T Y ?_ ?_;(first|rfl|omega))|apply q24;refine q0C T Y rfl ?_|(apply qe;first|refine qd (aA _ Yx) ?_|refine q1B (F:=cD) (b:=o) (D:=AH.O ah c t a a.ph.no a.ph.en (E++(mh.O m++(sD++(oD++ []))))) hV (fun Q=>sbE) fun s v hv=>?_;(obtain⟨⟨G,U,aN,w,C,O,R,N,J,K,I⟩,A1,aq,au,aw,aj⟩:=s;obtain⟨rfl,hs⟩:=hv;have az:o=G:=hs.b.symm;subst az;have aE:aN=⟨u, .pointer none⟩:=hs.lb;subst aE))|refine fO ?_|refine fA ?_|refine fL ?_|refine fN ?_|refine fM ?_|refine qf fun bk aQ=>?_)
   all_goals exact⟨(⟨⟨o,U,⟨u, .pointer none⟩,w,C,O,R,N,J,K,I⟩,A1,aq,au,aw,aj⟩,[]),⟨rfl,qoo.of hs aC rfl⟩,by dsimp only;simp only[zk];exact sbE⟩
  ·have hb:a.busy=false:=by unfold AT.busy;rw[aG]
   have hE:E= []:=by unfold PhO at hP;rw[aG] at hP;exact hP
   subst hE;rw[hb] at aA;rw[if_neg (by rw[hb];decide)];rw[show a.ph.no=0 by rw[aG];rfl] at aA ⊢;rw[show a.ph.en=3 by rw[aG];rfl];have V:q2I c p n t m x i=q1f c p t m x i:=by
    have:locI i\/rqI i:=d.imp id fun h=>h.1
    unfold locI rqI at this;exact qeP Yu Yu
   rw[V];have hV:∀(Q:Own),qr Q cD->jn W0 121 [ptr h.b,ptr mh.mb,i.v] ((h.b,thP c t n p h x)::ah.O c t a 0 3 (mh.O m++(h.sD++(h.oD++Q)))) fun v own'=>
     ∃s:TR,(v= .tuple #[stV {(q1f c p t m x i).2.2.1 with t:=0}, .slice s.ea s.el.length s.ec]/\s.ok W0 c t h (q1f c p t m x i).2.1 (q1f c p t m x i).2.2.2)/\Ent W0 own' (s.O c t n p (q1f c p t m x i).2.1 (mh.O (q1f c p t m x i).1++Q)):=by
    intro Q _
    rcases d with aX|⟨aW,hA,aV⟩
    ·exact qgQ aX aR bh hh hx aG g aF aZ Q
    ·exact qjI hF hh hx g aF br hG.hcw aW aR hM hA hl af T hG.hp Yu Y aP h7 hG.hck (hG.hend _ _ aP h7) aV Q
   have het:=qeO (c:=c) (p:=p) (t:=t) (m:=m) (x:=x) (i:=i);rw[W] at het;generalize q1f c p t m x i=z at hV het ⊢;obtain⟨m',x',⟨st,aT,sat,aS⟩,ev⟩:=z;dsimp only at het hV ⊢;obtain⟨rfl,aC⟩:=het;obtain⟨x0,rfl⟩:=GT.dn_eq aB;obtain⟨o,ap,⟨u,fp⟩,ca,cc,sa,sc,sD,oa,oc,oD⟩:=h;dsimp only at g q T hV ⊢;subst g;subst q;simp only[zd,zp,zk]
   repeat'((try conv=>whnf);first|refine fH ?_|refine fD ?_|(apply qF;first|refine ixE T Y ?_ ?_;(first|rfl|omega))|apply q24;refine q0C T Y rfl ?_|(apply qe;first|refine qd (aA _ Yx) ?_|refine q1B (F:=cD) (b:=o) (D:=AH.O ah c t a 0 3 (mh.O m++(sD++(oD++ [])))) hV (fun Q=>sbE) fun s v hv=>?_;(obtain⟨⟨G,U,aN,w,C,O,R,N,J,K,I⟩,A1,aq,au,aw,aj⟩:=s;obtain⟨rfl,hs⟩:=hv;have az:o=G:=hs.b.symm;subst az;have aE:aN=⟨u, .pointer none⟩:=hs.lb;subst aE))|refine fO ?_|refine fA ?_|refine fL ?_|refine fN ?_|refine fM ?_|refine qf fun bk aQ=>?_)
   all_goals exact⟨(⟨⟨o,U,⟨u, .pointer none⟩,w,C,O,R,N,J,K,I⟩,A1,aq,au,aw,aj⟩,[]),⟨rfl,qoo.of hs aC rfl⟩,by dsimp only;simp only[zk];exact sbE⟩
end
open Go
structure TW where
 h:TH
 A:Own
 F:Own
 cD:Own
 x:GT
 p:jg
structure TW.ok(W0:World)(c:Cfg)(n t:Nat)(y:TW):Prop where
 ok:y.h.ok y.x
 at':AtO W0 c t y.h y.x y.A
 fe:FeO y.h.lb t n y.x.fn y.F
 C:RdE Ins.enc 5 W0 y.cD y.h.ca y.p
def ThO(c:Cfg)(n t:Nat)(y:TW):Own:=(y.h.b,thP c t n y.p y.h y.x)::(y.A++(y.h.sD++(y.h.oD++(y.F++((y.h.lb.l,lmP c)::y.cD)))))
def TsO(c:Cfg)(n:Nat):Nat->List TW->Own
 |_,[]=> []
 |k,y::l=>ThO c n k y++TsO c n (k+1) l
theorem q4L{c:Cfg}{n:Nat}:∀(L:List TW) (k t:Nat) (y:TW),L[t]? =some y->TsO c n k L=TsO c n k (L.take t)++(ThO c n (k+t) y++TsO c n (k+t+1) (L.drop (t+1)))
 | [],_,_,_,h=>by simp at h
 |z::L,k,0,y,h=>by
  simp only[Zo,Option.some.injEq] at h;subst h;rfl
 |z::L,k,t+1,y,h=>by
  rw[List.getElem?_cons_succ] at h;rw[Yj,yf,TsO,TsO,q4L L (k+1) t y h,zd,show k+1+t=k+(t+1) by omega]
theorem qlm{c:Cfg}{n:Nat}{L:List TW}{t:Nat}{y y':TW}(h:L[t]? =some y):TsO c n 0 (L.set t y')=TsO c n 0 (L.take t)++(ThO c n t y'++TsO c n (t+1) (L.drop (t+1))):=by
 have d:=(z7.1 h).1;have g:(L.set t y')[t]? =some y':=by rw[zx];simp[d]
 rw[q4L _ 0 t y' g,List.take_set_of_le (zq _),Yi Yu,zA]
abbrev qrg(b:Nat):jf:= [ptr b]
structure MQ where
 b:Nat
 mh:MH
 ta:j9
 tc:Nat
 tD:Own
 sa:j9
 sc:Nat
 sD:Own
 ea:j9
 ec:Nat
 eD:Own
 el:ji
 gD:Own
 L:List TW
abbrev maP(M:MQ)(S:List StM):Obj->Prop:=fun z=>z=Obj.cells #[ptr M.mh.mb, .slice M.ta (M.L.map fun y=>y.h.b).length M.tc, .slice M.sa S.length M.sc, .slice M.ea M.el.length M.ec] 132 (0,0)
abbrev MQ.O(M:MQ)(c:Cfg)(n:Nat)(m:MS)(S:List StM)(Q:Own):Own:=(M.b,maP M S)::(M.mh.O m++(M.tD++(M.sD++(M.eD++(M.gD++(TsO c n 0 M.L++Q))))))
structure MQ.ok(W0:World)(c:Cfg)(n:Nat)(M:MQ)(m:MS)(S:List StM)(ev:jl):Prop where
 hM:M.mh.ok m.L
 ht:RdE qrg 1 W0 M.tD M.ta (M.L.map fun y=>y.h.b)
 hs:qo StM.enc 138 9 M.sa M.sc S M.sD
 he:qo EH.enc 100 6 M.ea M.ec M.el M.eD
 hv:∀e∈M.el,(RdE qv 1 W0 M.gD e.ra e.rl/\RdE qv 1 W0 M.gD e.wa e.wl)/\e.rl.length<=100000/\e.wl.length<=100000
 hL:∀(t:Nat) (y:TW),M.L[t]? =some y->y.ok W0 c n t
 le:M.el.length<=S.length
 em:M.el.map EH.m=ev
theorem qix{L:List TW}{t:Nat}{y y':TW}(h:L[t]? =some y)(e:y'.h.b=y.h.b):((L.set t y').map fun y=>y.h.b)=L.map fun y=>y.h.b:=by
 rw[Yn,e];refine Zm fun j=>?_
 rw[zx]
 split
 ·rename_i d;subst d;have:=(z7.1 h).1;rw[if_pos (by simpa using this),zI,h];rfl
 ·rfl
structure SaL(m m':MS):Prop where
 d:m'.d.length=m.d.length
 o:m'.o.length=m.o.length
 sl:m'.sl.length=m.sl.length
 hd:m'.hd=m.hd
 nx:m'.nx=m.nx
theorem SaL.refl{m:MS}:SaL m m:=⟨rfl,rfl,rfl,rfl,rfl⟩
theorem MH.ok.to{h:MH}{m m':MS}(k:h.ok m.L)(s:SaL m m'):h.ok m'.L:=by
 refine⟨k.fd,fun j g=>?_,rfl,k.bd⟩;rw[<-k.ln j g];have d:j=0\/j=1\/j=2\/j=3\/j=4\/j=5\/j=6\/j=7:=Yu
 rcases d with rfl|rfl|rfl|rfl|rfl|rfl|rfl|rfl
 ·exact s.d
 ·exact s.o
 ·rfl
 ·rfl
 ·rfl
 ·exact s.sl
 ·exact congrArg List.length s.hd
 ·exact congrArg List.length s.nx
theorem qh6(c:Cfg)(t:Int)(m:MS)(x:AT):SaL m (qh c t m x).1:=by
 cases d:x.ph with
 |ent k=>
  unfold qh;simp only[d]
  (repeat' split) <;>exact⟨rfl,rfl,Yw,rfl,rfl⟩
 |rd k b v=>
  unfold qh;simp only[d]
  (repeat' split) <;>exact SaL.refl
 |lk s ld=>
  rw[q7w d]
  (repeat' split) <;>exact⟨rfl,Yw,rfl,rfl,rfl⟩
 |tn b=>cases b <;>(unfold qh;simp only[d];exact⟨rfl,rfl,rfl,rfl,rfl⟩)
 |wr a v=>unfold qh;simp only[d];exact⟨Yw,rfl,rfl,rfl,rfl⟩
 |rl a v=>unfold qh;simp only[d];exact⟨rfl,Yw,rfl,rfl,rfl⟩
 |lv=>unfold qh;simp only[d];exact⟨rfl,rfl,Yw,rfl,rfl⟩
 |_=>unfold qh;simp only[d];exact⟨rfl,rfl,rfl,rfl,rfl⟩
theorem q7G(c:Cfg)(p:jg)(t:Int)(m:MS)(x:GT)(a:AT)(i:Ins):SaL m (q0H c p t m x a i).1:=by
 unfold q0H;exact qh6 _ _ _ _
theorem qi8(c:Cfg)(p:jg)(t:Int)(m:MS)(x:GT)(i:Ins):SaL m (q1f c p t m x i).1:=by
 unfold q1f
 split
 ·exact q7G _ _ _ _ _ _ _
 ·split
  ·split
   ·exact q7G _ _ _ _ _ _ _
   ·exact SaL.refl
  ·exact SaL.refl
theorem qh8(c:Cfg)(p:jg)(n:Nat)(t:Int)(m:MS)(x:GT):SaL m (qH c p n t m x).1:=by
 have hw:∀f,SaL m (q0x n p t m x f).1:=fun f=>SaL.refl
 have d:∀i,SaL m (q04 c p t m x i).1:=fun i=>by
  unfold q04
  split
  ·exact SaL.refl
  ·split
   ·exact SaL.refl
   ·exact⟨Yw,rfl,rfl,rfl,rfl⟩
 have he:∀i,SaL m (q2I c p n t m x i).1:=fun i=>by
  unfold q2I
  split
  ·exact d i
  ·split
   ·exact hw _
   ·exact qi8 _ _ _ _ _ _
 unfold qH
 split
 ·exact SaL.refl
 ·split
  ·exact hw _
  ·split
   ·split
    ·exact q7G _ _ _ _ _ _ _
    ·exact he _
   ·exact he _
section
variable{W0:World}{own Q:Own}{c:Cfg}{n t:Nat}{p:jg}{M:MQ}{ev:jl}{m:MS}{S:List StM}{y:TW}{i:Ins}
theorem qk0(d:M.L[t]? =some y):(M.L.map fun y=>y.h.b)[t]? =some y.h.b:=by rw[zI,d];rfl
theorem qjE{h:TH}{x:GT}{mb:Nat} [mm:qy h.b (thP c t n p h x) own](d:x.th.dn=true):jn W0 84 [ptr h.b,ptr mb] own fun v own'=>∃_:Unit,v= .tuple #[stV ⟨0,0,0,acz⟩,j7, .bool false]/\Ent W0 own' own:=by
 refine qE (sH (jq 11 3 [26,28,0]) ?_);have g:Cl W0 own h.b 42 (.bool true):=by have:=qk (W0:=W0) (off:=42) mm rfl;rw[d] at this;exact this
 repeat'((try conv=>whnf);first|refine fH ?_|refine fE ?_|refine q0m g ?_|refine fL ?_|refine fM ?_|refine qf fun bk hbk=>?_)
 all_goals exact⟨rfl,sbE⟩
theorem qjl(s:M.ok W0 c n m S ev)(q:M.L[t]? =some y)(j:y.x.th.dn=true)(u:M.L.length<=16)(Q:Own):jn W0 52 [ptr M.b,j5 t] (M.O c n m S Q) fun v own'=>∃_:Unit,v= .bool false/\Ent W0 own' (M.O c n m S Q):=by
 refine qE (sH [3,5,7,9,11,13,15,17,19,21,23,1,26,27,29,31,33,36,38,39,41,0,36,26,27,29,31,33,38,39,41,0,3,5,7,9,11,13,16,18,19,21,24,0,3,5,7,9,11,13,16,18,19,21,24,0] ?_);have g:=qk0 q;have hlt:=(z7.1 q).1;have hti:(t:Int)<(M.L.map fun y=>y.h.b).length:=by rw[zi];omega
 have hn2:(M.L.map fun y=>y.h.b).length<=16:=by rw[zi];exact u
 have d:=s.ht;have o:=fun(own':Own) (m1:qy y.h.b (thP c t n y.p y.h y.x) own')=>qjE (W0:=W0) (own:=own') (c:=c) (t:=t) (n:=n) (p:=y.p) (h:=y.h) (x:=y.x) (mb:=M.mh.mb) j
 unfold MQ.O;rw[q4L M.L 0 t y q,zA,ThO];simp only[zd,zp]
 repeat'((try conv=>whnf);first|refine fH ?_|refine fE ?_|refine fG ?_|apply gLd;refine q0l d g rfl ?_|(apply qF;first|refine ixE d g ?_ ?_;(first|rfl|omega))|(apply qe;first|refine qi (o _ Yx) fun _ v w=>?_;subst w)|refine fO ?_|refine fA ?_|refine fM ?_|refine qf fun bk hbk=>?_|refine q1a.mk ?_ ?_)
 all_goals exact⟨rfl,sbE⟩
theorem qjm(hF:qz W0)(hG:GoC c y.p)(d:M.ok W0 c n m S ev)(V:M.L[t]? =some y)(hT:GoT c y.p n t m y.x i)(hn:M.L.length<=16)(hS:S.length<=1000)(Q:Own):jn W0 52 [ptr M.b,j5 t] (M.O c n m S Q) fun v own'=>
  ∃M':MQ,(v= .bool true/\M'.b=M.b/\M'.ok W0 c n (qH c y.p n t m y.x).1 (S++ [(qH c y.p n t m y.x).2.2.1]) (ev++(qH c y.p n t m y.x).2.2.2.map (q77 S.length))/\∃y':TW,y'.x=(qH c y.p n t m y.x).2.1/\y'.p=y.p/\y'.h.b=y.h.b/\(y.h.ap≠ .pointer none->y'.x.at'≠none->y'.h.ap=y.h.ap)/\M'.L=M.L.set t y')/\Ent W0 own' (M'.O c n (qH c y.p n t m y.x).1 (S++ [(qH c y.p n t m y.x).2.2.1]) Q):=by
 refine sH [3,5,7,9,11,13,15,17,19,21,23,1,26,27,29,31,33,36,38,39,41,0,36,26,27,29,31,33,38,39,41,0,3,5,7,9,11,13,16,18,19,21,24,0,3,5,7,9,11,13,16,18,19,21,24,0] ?_;have aA:=qk0 V;have hlt:=(z7.1 V).1;have q:=d.hL t y V;unfold MQ.O;rw[q4L M.L 0 t y V,zA,ThO];simp only[zd,zp];have U:=fun(Q:Own) (eq:qr Q y.cD)=>qjK (W0:=W0) (n:=n) hF hG hT q.ok q.at' q.fe d.hM q.C Q
 have j:=qh8 c y.p n t m y.x;generalize qH c y.p n t m y.x=z at U j ⊢;obtain⟨m',x',s,evs⟩:=z;dsimp only at U j ⊢;have hti:(t:Int)<(M.L.map fun y=>y.h.b).length:=by rw[zi];omega
 have hn2:(M.L.map fun y=>y.h.b).length<=16:=by rw[zi];exact hn
 have az:=d.ht;have aF:=d.he;have aj:=d.hs;have hle:=d.le
 repeat'((try conv=>whnf);first|refine fH ?_|refine fD ?_|refine fG ?_|apply gLd;refine q0l az aA rfl ?_|(apply qF;first|refine ixE az aA ?_ ?_;(first|rfl|omega))|(apply qe;first|refine q1B (F:=y.cD) (b:=y.h.b) (D:=y.A++(M.mh.O m++(y.h.sD++(y.h.oD++(y.F++((y.h.lb.l,lmP c):: [])))))) U (fun Q=>sbE) fun r v hv=>?_;obtain⟨⟨N,H,ea1,ec1,K,J⟩,I⟩:=r;obtain⟨rfl,C,aq,au,aw,o,ax,ay,aG,R⟩:=hv;dsimp only at C aq au aw o ax ay aG R;subst ax)|refine fO ?_|refine fA ?_|refine fM ?_|refine qf fun bk Y=>?_|refine q1a.mk ?_ ?_)
 all_goals
  have g:=qix (y':=⟨N,H,I,y.cD,x',y.p⟩) V C;have G:=qlm (c:=c) (n:=n) (y':=⟨N,H,I,y.cD,x',y.p⟩) V;have W:∀(u:Nat) (z:TW),(M.L.set t ⟨N,H,I,y.cD,x',y.p⟩)[u]? =some z->z.ok W0 c n u:=by
   intro u z w;rw[zx] at w
   split at w
   ·rename_i hu;subst hu;cases w;exact⟨au,aw,ay,by dsimp only;rw[aq];exact q.C⟩
   ·exact d.hL u z w
  have aC:K= []\/∃e,K= [e]:=by
   have:=o.n
   match K,this with
   | [],_=>exact .inl rfl
   | [e],_=>exact .inr ⟨e,rfl⟩
  rcases aC with rfl|⟨e,rfl⟩
  ·repeat'((try conv=>whnf);first|refine fD ?_|refine q1y 2 ?_|refine qf fun bk Y=>?_|apply q0z (enc:=StM.enc) (T:=138) s aj;exact rfl;exact rfl;omega;exact rfl;exact rfl;omega;intro a5 c5 D5 O|refine fA ?_|refine fL ?_|refine fN ?_)
   all_goals
    refine⟨⟨M.b,M.mh,M.ta,M.tc,M.tD,a5,c5,D5,M.ea,M.ec,M.eD,M.el,M.gD,M.L.set t ⟨N,H,I,y.cD,x',y.p⟩⟩,⟨rfl,rfl,⟨d.hM.to j,by dsimp only;rw[g];exact d.ht,O,d.he,d.hv,W,by rw[z8];exact ZH hle,by dsimp only;rw[Z5,Z5,zz];exact d.em⟩,⟨N,H,I,y.cD,x',y.p⟩,rfl,rfl,C,R,rfl⟩,?_⟩
    try unfold maP
    dsimp only;rw[g,G,z8];simp only[ThO,zd,zp,zk];exact sbE
  ·have af:=(o.v e (zf.2 rfl)).1;have aE:∀z∈M.el++ [{e with ev:=(S.length:Int)}],(RdE qv 1 W0 (J++M.gD) z.ra z.rl/\RdE qv 1 W0 (J++M.gD) z.wa z.wl)/\z.rl.length<=100000/\z.wl.length<=100000:=by
    intro z w
    rcases zy.1 w with w|w
    ·have:=d.hv z w;exact⟨⟨this.1.1.ent Ent.right,this.1.2.ent Ent.right⟩,this.2⟩
    ·rw[zf] at w;subst w;exact⟨⟨af.1.ent Ent.left,af.2.ent Ent.left⟩,(o.v e (zf.2 rfl)).2⟩
   have ae:=o.r;have Z:([e]:ji)[0]? =some e:=rfl
   repeat'((try conv=>whnf);first|refine fE ?_|refine fD ?_|refine q1y 2 ?_|refine qf fun bk Y=>?_|apply q0z (enc:=StM.enc) (T:=138) s aj;exact rfl;exact rfl;omega;exact rfl;exact rfl;omega;intro a5 c5 D5 O|apply q0z (enc:=EH.enc) (T:=100) {e with ev:=(S.length:Int)} aF;exact rfl;exact rfl;omega;exact rfl;exact rfl;omega;intro a6 c6 D6 aB|(apply qF;first|refine ixE ae Z ?_ ?_;(first|rfl|omega))|apply q24;refine q0C ae Z rfl ?_|refine fB ?_|refine fA ?_|refine fL ?_|refine fN ?_|refine fM ?_)
   all_goals
    refine⟨⟨M.b,M.mh,M.ta,M.tc,M.tD,a5,c5,D5,a6,c6,D6,M.el++ [{e with ev:=(S.length:Int)}],J++M.gD,M.L.set t ⟨N,H,I,y.cD,x',y.p⟩⟩,⟨rfl,rfl,⟨d.hM.to j,by dsimp only;rw[g];exact d.ht,O,aB,aE,W,by rw[z8,z8];exact Nat.succ_le_succ hle,by dsimp only;rw[zB,d.em];rfl⟩,⟨N,H,I,y.cD,x',y.p⟩,rfl,rfl,C,R,rfl⟩,?_⟩
    try unfold maP
    dsimp only;rw[g,G,z8,z8];simp only[ThO,zd,zp,zk];exact sbE
end
open Go
section
variable{W0:World}{own Q:Own}{c:Cfg}{n t:Nat}{p:jg}
theorem qnO{a:j9}{cap:Nat}(G:qz W0)(H:qG c=0)(s:qw p=(0,0))(ht:t<n)(hn:n<=16)(z:RdE Ins.enc 5 W0 own a p)(hp:p.length<=100000):
  jn W0 83 [c.v,j5 t,j5 n, .slice a p.length cap] own fun v own'=>∃y:TW,(v= .tuple #[ptr y.h.b,j5 0]/\y.ok W0 c n t/\y.x=q3c p/\y.p=p)/\Ent W0 own' (ThO c n t y++own):=by
 refine sH [5,7,9,1,3,1,12,13,16,17,20,21,0,13,12,16,17,20,21,0,1,12,13,1,3,16,17,20,21,0,16,3,17,20,21,0,13,1,3,12,16,17,20,21,0,12,1,3,16,17,20,21,0,16,3,17,20,21,0] ?_;have d:=fun own=>q2q W0 own c
 rw[H] at d;have o:=fun(own':Own) (m:qr own' own)=>q6j (own:=own') (cap:=cap) G z.up
 rw[s] at o;have u:=fun(own':Own) (m:qr own' own)=>q3t (own:=own') (cap:=cap) z.up Yu
 have j:=fun(own':Own)=>qaL (W0:=W0) (c:=c) own'
 dsimp only[Cfg.v,Cfg.cs] at d j ⊢
 repeat'((try conv=>whnf);first|refine fH ?_|refine fD ?_|refine fG ?_|refine fK ?_|refine qf fun tb htb=>?_|(apply qe;first|refine qd (d _) ?_|refine qd (o _ Yx) ?_|refine qi (u _ Yx) fun y v q=>?_;obtain⟨a3,w,C⟩:=y;obtain⟨rfl,g⟩:=q;dsimp only at g|refine qi (j _) fun lb v q=>?_;subst q|refine qI (q6o (c:=c) (t:=t) (n:=n) (p:=p) (h:=⟨tb, .pointer none,⟨lb, .pointer none⟩,a3,w,none,0,[],none,0,[]⟩) (x:=⟨⟨0,⟨0,0,0,0,0,0,0,0⟩,0,false⟩,none,0,⟨0,0,0,0,0,0,0,0⟩,0,[],none,[],0⟩) 0 rfl _) fun _ v q=>?_;subst q)|refine fO ?_|refine fL ?_|refine q1a.mk ?_ ?_)
 all_goals exact⟨⟨⟨tb, .pointer none,⟨lb, .pointer none⟩,a3,w,none,0,[],none,0,[]⟩,[],[],C,q3c p,p⟩,⟨rfl,⟨⟨qo.nil,qo.nil⟩,⟨rfl,rfl⟩,⟨rfl,rfl⟩,g.rd⟩,rfl,rfl⟩,by unfold ThO;simp only[zp,zk];exact sbE⟩
end
open Go
def qom(P:Program)(W0:World)(J:(Nat->Bool)->Fr->Own->Prop):Nat->List (q51×jj)->Prop
 |_,[]=>True
 |k,(⟨d,op,_⟩,ds)::r=>(∀(l:Nat->Bool) (f:Fr) (own:Own),l k=false->(∀j∈ds,l j=true)->J l f own->XO P W0 f own op fun v own'=>J (fun n=>bif Nat.beq n k then true else l n) (updO f d v) own')/\qom P W0 J (k+1) r
theorem qom.at{P:Program}{W0:World}{J:(Nat->Bool)->Fr->Own->Prop}:∀(ops:List (q51×jj)) (k:Nat),qom P W0 J k ops->∀(i:Nat) (d:Option Nat) (op:IOp) (o:Option (Nat×Bool)) (ds:jj),ops[i]? =some (⟨d,op,o⟩,ds)->
  ∀(l:Nat->Bool) (f:Fr) (own:Own),l (k+i)=false->(∀j∈ds,l j=true)->J l f own->XO P W0 f own op fun v own'=>J (fun n=>bif Nat.beq n (k+i) then true else l n) (updO f d v) own'
 | [],_,_,i,d,op,o,ds,g=>by simp at g
 |(⟨d0,op0,gd0⟩,ds0)::r,k,h,0,d,op,o,ds,g=>by
  simp only[Zo,Option.some.injEq,Prod.mk.injEq,q51.mk.injEq] at g;obtain⟨⟨rfl,rfl,rfl⟩,rfl⟩:=g;exact h.1
 |_::r,k,h,i+1,d,op,o,ds,g=>by
  rw[List.getElem?_cons_succ] at g;have:=qom.at r (k+1) h.2 i d op o ds g;rw[show k+1+i=k+(i+1) by omega] at this;exact this
theorem qkP{P:Program}{W0:World}{ops:List (q51×jj)}{K:Fr->Own->Prop}{f:Fr}{own:Own}(J:(Nat->Bool)->Fr->Own->Prop)(j:J (fun _=>false) f own)(o:∀l f own,J l f own->(∀i,i<ops.length->l i=true)->K f own)(h:qom P W0 J 0 ops):qsu P W0 ops K f own:=
 ⟨J,j,o,fun i d op g ds l f own q s hd hJ=>by
  have:=qom.at ops 0 h i d op g ds q l f own (by rw[zA];exact s) hd hJ;rw[zA] at this;exact this⟩
theorem q9O{f:Fr}{d:Nat}{v:Value}:updO f (some d) v d=v:=by unfold updO upd;dsimp only;rw[Nat.beq_refl];rfl
theorem q2w{f:Fr}{d k:Nat}{v:Value}(h:k≠d):updO f (some d) v k=f k:=by
 unfold updO upd;dsimp only;cases hb:Nat.beq k d with
 |false=>rfl
 |true=>exact absurd (ZI hb) h
theorem q9b:∀{l vs:jf},l.length=vs.length->q0e l 0 vs vs
 | [],[],_=> .done .nil
 |_::_,_::_,h=> .put (q9b (by simpa using h))
 | [],_::_,h=>by simp at h
 |_::_,[],h=>by simp at h
def Sh8(cs:jf):Prop:=∃(a1 a2 a3 a4 a5:j9) (o c1 q c2 s d u g n5 j:Nat) (w z C:Int),cs= [.slice a1 o c1, .slice a2 q c2,uv w,uv z,uv C, .slice a3 s d, .slice a4 u g, .slice a5 n5 j]
theorem Sh8.len{cs:jf}(h:Sh8 cs):cs.length=8:=by obtain⟨_,_,_,_,_,_,_,_,_,_,_,_,_,_,_,_,_,_,rfl⟩:=h;rfl
theorem Sh8.one{cs:jf}(h:Sh8 cs):∀v∈cs,q2G v=true:=by obtain⟨_,_,_,_,_,_,_,_,_,_,_,_,_,_,_,_,_,_,rfl⟩:=h;simp[q2G]
inductive KI
 |p|c|s (g:Nat)|d (g:Nat)|x (g:Nat)|u|z
def DaA(W0:World)(D0:Own)(l:je)(v:Value):Prop:=∃a c,v= .slice a l.length c/\RdE q05 1 W0 D0 a l
theorem DaA.up{W0:World}{D D0:Own}{l:je}{v:Value}(h:DaA W0 D0 l v):DaA W0 (D++D0) l v:=by
 obtain⟨a,c,d,g⟩:=h;exact⟨a,c,d,g.ent Ent.right⟩
def KI.P(W0:World)(D0:Own)(h:MH)(L:List (je)):KI->Value->Prop
 | .p,v=>v= jp h.mb
 | .c,v=>v= .map (some h.mp)
 | .s g,v=>v= .slice (some ⟨h.b g,0,none⟩) (h.n g) (h.n g+(h.r g).length)
 | .d g,v=>DaA W0 D0 (L.getD g []) v
 | .x g,v=>v= .pointer (some ⟨h.b g,0+0*1,none⟩)
 | .u,v=>∃x,v=uv x
 | .z,v=>∃cs:jf,v= .agg cs.toArray/\Sh8 cs/\DaA W0 D0 (L.getD 0 []) (cs.getD 0 (.bool false))
theorem KI.P.up{W0:World}{D D0:Own}{h:MH}{L:List (je)}:∀{k:KI} {v:Value},KI.P W0 D0 h L k v->KI.P W0 (D++D0) h L k v
 | .p,_,e=>e
 | .c,_,e=>e
 | .s _,_,e=>e
 | .d _,_,e=>DaA.up e
 | .x _,_,e=>e
 | .u,_,e=>e
 | .z,_,⟨cs,h,g,j⟩=>⟨cs,h,g,j.up⟩
def kI:List KI:= [.p, .p, .p, .c, .s 0, .d 0, .p, .p, .p, .c, .s 1, .d 1, .p, .p, .p, .c, .s 2, .x 2, .u, .p, .p, .p, .c, .s 3, .x 3, .u, .p, .p, .p, .c, .s 4, .x 4, .u, .p, .p, .p, .c, .s 5, .d 5, .p, .p, .p, .c, .s 6, .d 6, .p, .p, .p, .c, .s 7, .d 7, .z]
abbrev PvI(W0:World)(D0:Own)(h:MH)(L:List (je))(j:Nat):Value->Prop:=(kI.getD j .z).P W0 D0 h L
structure JI(W0:World)(D0:Own)(h:MH)(L:List (je))(Q:Own)(b2:Nat)(l:Nat->Bool)(f:Fr)(own:Own):Prop where
 v:∀j,j<52->l j=true->PvI W0 D0 h L j (f (6+j))
 f0:f 0= jp h.mb
 f2:f 2= jp b2
 o:∃cs:jf,Sh8 cs/\(l 52=true->DaA W0 D0 (L.getD 0 []) (cs.getD 0 (.bool false)))/\own.Perm ((b2,fun z=>z=Obj.cells cs.toArray 74 (0,0))::(D0++(h.OL L++Q)))
abbrev JIe(W0:World)(h:MH)(L:List (je))(Q:Own)(b2:Nat)(l:Nat->Bool)(f:Fr)(own:Own):Prop:=∃D0,JI W0 D0 h L Q b2 l f own
section
variable{W0:World}{D0:Own}{h:MH}{L:List (je)}{Q own:Own}{b2:Nat}{l:Nat->Bool}{f:Fr}
theorem JI.step(hJ:JI W0 D0 h L Q b2 l f own)(i:Nat){v:Value}(D:Own)(w:PvI W0 (D++D0) h L i v)(d:Nat.beq 52 i=false):JIe W0 h L Q b2 (fun n=>bif Nat.beq n i then true else l n) (updO f (some (6+i)) v) (D++own):=by
 refine⟨D++D0,fun j q s=>?_,by rw[q2w Yu];exact hJ.f0,by rw[q2w Yu];exact hJ.f2,?_⟩
 ·by_cases e:j=i
  ·subst e;rw[q9O];exact w
  ·rw[q2w Yu];refine(hJ.v j q ?_).up;cases hb:Nat.beq j i with
   |false=>simpa only[hb,cond_false] using s
   |true=>exact absurd (ZI hb) e
 ·obtain⟨cs,g,o,u⟩:=hJ.o;refine⟨cs,g,fun h=>(o (by simpa only[d,cond_false] using h)).up,(u.append_left D).trans ?_⟩;rw[zd];exact Zf
theorem JI.mem(hJ:JI W0 D0 h L Q b2 l f own){e:jd}(he:e∈h.OL L):e∈own:=by
 obtain⟨cs, -, -,d⟩:=hJ.o;exact d.mem_iff.2 (zl _ (zJ _ (zP _ he)))
theorem qrS{j:Nat}(d:j<8):h.e L j∈h.OL L:=zl _ (zl _ (zM.2 ⟨j,Z9.2 d,rfl⟩))
theorem JI.rd(hJ:JI W0 D0 h L Q b2 l f own){j:Nat}(s:j<8):RdE q05 1 W0 own (some ⟨h.b j,0,none⟩) (L.getD j []):=by
 refine⟨fun _=>rfl,fun _ _=>rfl,fun{i k x v} q g=>?_⟩;obtain rfl:k=0:=by
  rcases Nat.eq_zero_or_pos k with e|e
  ·exact e
  ·rw[zV (by simp only[zm,zE];omega)] at g;cases g
 have o:uv x=v:=by simpa using g
 subst o;show Kn W0 own (fun w=>w.cell? ⟨h.b j,0+i*1+0,none⟩=some (uv x));refine q0O (hJ.mem (qrS s)) ?_;have d:=(z7.1 q).1;rw[zU,zA,yG,ZV,zG (by simpa using d),zI,q];rfl
variable(hJ:JI W0 D0 h L Q b2 l f own)
include hJ
theorem JI.mov(i:Nat)(g:kI.getD i .z= .p)(d:Nat.beq 52 i=false:=by rfl):XO Tryz.prog W0 f own (.mov (.tmp 0)) fun v own'=>JIe W0 h L Q b2 (fun n=>bif Nat.beq n i then true else l n) (updO f (some (6+i)) v) own':=by
 unfold XO;dsimp only[ev];rw[hJ.f0];exact hJ.step i [] (by unfold PvI;rw[g];rfl) d
theorem JI.nilc(i t:Nat)(j:kI.getD i .z= .p)(o:KI.P W0 D0 h L .p (f t))(d:Nat.beq 52 i=false:=by rfl):XO Tryz.prog W0 f own (.nilc (.tmp t)) fun v own'=>JIe W0 h L Q b2 (fun n=>bif Nat.beq n i then true else l n) (updO f (some (6+i)) v) own':=by
 have g:f t= jp h.mb:=o;unfold XO;dsimp only[ev];rw[g];exact hJ.step i [] (by unfold PvI;rw[j];rfl) d
theorem JI.fad(i t:Nat)(j:kI.getD i .z= .p)(o:KI.P W0 D0 h L .p (f t))(d:Nat.beq 52 i=false:=by rfl):XO Tryz.prog W0 f own (.fad 0 (.tmp t)) fun v own'=>JIe W0 h L Q b2 (fun n=>bif Nat.beq n i then true else l n) (updO f (some (6+i)) v) own':=by
 have g:f t= jp h.mb:=o;unfold XO;dsimp only[ev];rw[g];exact hJ.step i [] (by unfold PvI;rw[j];rfl) d
theorem JI.ldm(i t:Nat)(j:kI.getD i .z= .c)(o:KI.P W0 D0 h L .p (f t))(d:Nat.beq 52 i=false:=by rfl):XO Tryz.prog W0 f own (.ld (.tmp t)) fun v own'=>JIe W0 h L Q b2 (fun n=>bif Nat.beq n i then true else l n) (updO f (some (6+i)) v) own':=by
 have g:f t= jp h.mb:=o;unfold XO;dsimp only[ev];rw[g];exact⟨_,q0O (hJ.mem zj) rfl,hJ.step i [] (by unfold PvI;rw[j];rfl) d⟩
theorem JI.mlk(q:h.ok L)(i t g:Nat)(s:g<8)(o:Int)(w:o=(g:Int)+1)(u:kI.getD i .z=(.s g))(z:KI.P W0 D0 h L .c (f t))(d:Nat.beq 52 i=false:=by rfl):XO Tryz.prog W0 f own (.mlk 0 (j7) false (.tmp t) (.const (j5 o))) fun v own'=>JIe W0 h L Q b2 (fun n=>bif Nat.beq n i then true else l n) (updO f (some (6+i)) v) own':=by
 have j:f t= .map (some h.mp):=z;subst w;unfold XO;dsimp only[ev];rw[j];exact⟨h.ml,_,hJ.mem (zl _ zj),q.fd g s,hJ.step i [] (by unfold PvI;rw[u];rfl) d⟩
theorem JI.cln(o:h.ok L)(i t g:Nat)(j:g<8)(w:kI.getD i .z= .d g)(z:KI.P W0 D0 h L (.s g) (f t))(q:Nat.beq 52 i=false:=by rfl):XO Tryz.prog W0 f own (.call 40 [.tmp t]) fun v own'=>JIe W0 h L Q b2 (fun n=>bif Nat.beq n i then true else l n) (updO f (some (6+i)) v) own':=by
 have s:f t= .slice (some ⟨h.b g,0,none⟩) (h.n g) (h.n g+(h.r g).length):=z;have d:=qN (W0:=W0) (own:=own) (cap:=h.n g+(h.r g).length) (hJ.rd j) (by rw[o.ln g j];have:=o.bd g j;omega);rw[o.ln g j] at d
 change q0k Tryz.prog W0 own _ [f t] _
 rw[s];refine qbh d rfl rfl fun y v C=>?_
 obtain⟨a1,c1,D1⟩:=y;obtain⟨rfl,u⟩:=C;exact hJ.step i D1 (by unfold PvI;rw[w];exact⟨a1,c1,by rw[o.ln g j],(u.rd (W0:=W0)).ent Ent.left⟩) q
theorem JI.ixs(i t g:Nat)(q:0<h.n g)(o:kI.getD i .z=(.x g))(s:KI.P W0 D0 h L (.s g) (f t))(d:Nat.beq 52 i=false:=by rfl):XO Tryz.prog W0 f own (.ixs 1 (.tmp t) (.const (j5 0))) fun v own'=>JIe W0 h L Q b2 (fun n=>bif Nat.beq n i then true else l n) (updO f (some (6+i)) v) own':=by
 have j:f t= .slice (some ⟨h.b g,0,none⟩) (h.n g) (h.n g+(h.r g).length):=s;unfold XO;dsimp only[ev];rw[j];exact⟨0,h.b g,0,rfl,q,rfl,hJ.step i [] (by unfold PvI;rw[o];rfl) d⟩
theorem JI.ldu(s:h.ok L)(i t g:Nat)(q:g<8)(w:0<h.n g)(u:kI.getD i .z= .u)(z:KI.P W0 D0 h L (.x g) (f t))(d:Nat.beq 52 i=false:=by rfl):XO Tryz.prog W0 f own (.ld (.tmp t)) fun v own'=>JIe W0 h L Q b2 (fun n=>bif Nat.beq n i then true else l n) (updO f (some (6+i)) v) own':=by
 have o:f t= .pointer (some ⟨h.b g,0+0*1,none⟩):=z;unfold XO;dsimp only[ev];rw[o];have j:0<(L.getD g []).length:=by rw[s.ln g q];exact w
 have C:(L.getD g [])[0]? =some ((L.getD g [])[0]):=z6 j;exact⟨_,(hJ.rd q).cell (k:=0) C rfl,hJ.step i [] (by unfold PvI;rw[u];exact⟨_,rfl⟩) d⟩
theorem JI.bld(z:KI.P W0 D0 h L (.d 0) (f 11))(C:KI.P W0 D0 h L (.d 1) (f 17))(G:KI.P W0 D0 h L (.d 5) (f 44))(H:KI.P W0 D0 h L (.d 6) (f 50))(I:KI.P W0 D0 h L (.d 7) (f 56))(K:KI.P W0 D0 h L .u (f 24))(N:KI.P W0 D0 h L .u (f 31))(O:KI.P W0 D0 h L .u (f 38)):XO Tryz.prog W0 f own (.bld [j7,j7,j6 0,j6 0,j6 0,j7,j7,j7] [(0,1, .tmp 11),(1,1, .tmp 17),(2,1, .tmp 24),(3,1, .tmp 31),(4,1, .tmp 38),(5,1, .tmp 44),(6,1, .tmp 50),(7,1, .tmp 56)]) fun v own'=>JIe W0 h L Q b2 (fun n=>bif Nat.beq n 51 then true else l n) (updO f (some 57) v) own':=by
 obtain⟨a1,c1,o,J⟩:=z;obtain⟨a2,c2,q, -⟩:=C;obtain⟨a3,d,s, -⟩:=G;obtain⟨a4,g,u, -⟩:=H;obtain⟨a5,j,w, -⟩:=I;obtain⟨R,g1⟩:=K;obtain⟨T,g2⟩:=N;obtain⟨U,g3⟩:=O;unfold XO;dsimp only;simp only[q2d,qdW,ev,o,q,s,u,w,g1,g2,g3];exact hJ.step 51 [] ⟨[.slice a1 (L.getD 0 []).length c1, .slice a2 (L.getD 1 []).length c2,uv R,uv T,uv U, .slice a3 (L.getD 5 []).length d, .slice a4 (L.getD 6 []).length g, .slice a5 (L.getD 7 []).length j],rfl,⟨_,_,_,_,_,_,_,_,_,_,_,_,_,_,_,_,_,_,rfl⟩,a1,c1,rfl,J⟩ rfl
theorem JI.stn(C:KI.P W0 D0 h L .z (f 57)):XO Tryz.prog W0 f own (.stN 8 (.tmp 2) (.tmp 57)) fun v own'=>JIe W0 h L Q b2 (fun n=>bif Nat.beq n 52 then true else l n) (updO f none v) own':=by
 obtain⟨cs,G,o,d⟩:=C;have g:=o.len;have u:=o.one;obtain⟨cs0,q, -,s⟩:=hJ.o;have hl0:=q.len;have hm:=s.mem_iff.2 zj;obtain⟨A,B,rfl⟩:=ZB hm;unfold XO;dsimp only[ev];rw[hJ.f2,G];refine⟨by simpa using g,?_⟩;refine q3G (cs':=cs) (own':=A++(b2,fun z=>z=Obj.cells cs.toArray 74 (0,0))::B) (Up.head.app A) ?_ (by simpa using u) ?_
 ·rw[zU,zU];exact q9b Yu
 ·refine⟨D0,fun j w g=>hJ.v j w ?_,hJ.f0,hJ.f2,cs,o,fun _=>d,?_⟩
  ·cases hb:Nat.beq j 52 with
   |false=>simpa only[hb,cond_false] using g
   |true=>exact absurd (ZI hb) Yu
  ·exact Zf.trans (((Zf.symm.trans s).cons_inv).cons _)
end
section
variable{W0:World}{h:MH}{L:List (je)}
theorem qpx{f:Fr}{own:Own}{b2:Nat}{K:Value->Own->Prop}(d:f 2= jp b2)(g:LdN W0 own ⟨b2,0,none⟩ 8 fun v=>K (.agg v) own):qcP W0 f own [.cellN 2 8] fun vs=>K (qkY vs) own:=by
 unfold qcP;dsimp only;rw[d];exact g
theorem qjb(d:h.ok L)(q:∀g,g=2\/g=3\/g=4->0<h.n g)(Q:Own):jn W0 54 [jp h.mb] (h.OL L++Q) fun v own'=>∃s:jf×Own,(v= .agg s.1.toArray/\Sh8 s.1/\DaA W0 s.2 (L.getD 0 []) (s.1.getD 0 (.bool false)))/\Ent W0 own' ((s.2++h.OL L)++Q):=by
 refine sH [2] ?_
 repeat'((try conv=>whnf);first|refine fD ?_|refine qf fun C hbk=>?_)
 refine qkP (JIe W0 h L Q C) ⟨[],fun _ _ o=>(by cases o),rfl,rfl,_,⟨_,_,_,_,_,_,_,_,_,_,_,_,_,_,_,_,_,_,rfl⟩,fun o=>(by cases o),List.Perm.refl _⟩ ?_ ?_
 ·rintro l f own ⟨D0,hJ⟩ o;obtain⟨cs,z,j,w⟩:=hJ.o;have j:=j (o 52 Yv);clear o;have u:=z.len;have hm:=w.mem_iff.2 zj;refine qpx (K:=fun v own'=>∃s:jf×Own,(v= .agg s.1.toArray/\Sh8 s.1/\DaA W0 s.2 (L.getD 0 []) (s.1.getD 0 (.bool false)))/\Ent W0 own' ((s.2++h.OL L)++Q)) hJ.f2 (q07 hm (by simpa using u) ?_);exact⟨(cs,D0),⟨rfl,z,j⟩,by rw[zd];exact(Ent.of_perm w).trans (Ent.of_sub (zR _ _))⟩
 ·exact⟨fun l f own _ _ ⟨D0,hJ⟩=>JI.mov hJ 0 rfl,
  fun l f own _ hd ⟨D0,hJ⟩=>JI.nilc hJ 1 6 rfl (hJ.v 0 Yv (hd 0 Yw)),
  fun l f own _ hd ⟨D0,hJ⟩=>JI.fad hJ 2 7 rfl (hJ.v 1 Yv (hd 1 Yw)),
  fun l f own _ hd ⟨D0,hJ⟩=>JI.ldm hJ 3 8 rfl (hJ.v 2 Yv (hd 2 Yw)),
  fun l f own _ hd ⟨D0,hJ⟩=>JI.mlk hJ d 4 9 0 Yv 1 Yv rfl (hJ.v 3 Yv (hd 3 Yw)),
  fun l f own _ hd ⟨D0,hJ⟩=>JI.cln hJ d 5 10 0 Yv rfl (hJ.v 4 Yv (hd 4 Yw)),
  fun l f own _ _ ⟨D0,hJ⟩=>JI.mov hJ 6 rfl,
  fun l f own _ hd ⟨D0,hJ⟩=>JI.nilc hJ 7 12 rfl (hJ.v 6 Yv (hd 6 Yw)),
  fun l f own _ hd ⟨D0,hJ⟩=>JI.fad hJ 8 13 rfl (hJ.v 7 Yv (hd 7 Yw)),
  fun l f own _ hd ⟨D0,hJ⟩=>JI.ldm hJ 9 14 rfl (hJ.v 8 Yv (hd 8 Yw)),
  fun l f own _ hd ⟨D0,hJ⟩=>JI.mlk hJ d 10 15 1 Yv 2 Yv rfl (hJ.v 9 Yv (hd 9 Yw)),
  fun l f own _ hd ⟨D0,hJ⟩=>JI.cln hJ d 11 16 1 Yv rfl (hJ.v 10 Yv (hd 10 Yw)),
  fun l f own _ _ ⟨D0,hJ⟩=>JI.mov hJ 12 rfl,
  fun l f own _ hd ⟨D0,hJ⟩=>JI.nilc hJ 13 18 rfl (hJ.v 12 Yv (hd 12 Yw)),
  fun l f own _ hd ⟨D0,hJ⟩=>JI.fad hJ 14 19 rfl (hJ.v 13 Yv (hd 13 Yw)),
  fun l f own _ hd ⟨D0,hJ⟩=>JI.ldm hJ 15 20 rfl (hJ.v 14 Yv (hd 14 Yw)),
  fun l f own _ hd ⟨D0,hJ⟩=>JI.mlk hJ d 16 21 2 Yv 3 Yv rfl (hJ.v 15 Yv (hd 15 Yw)),
  fun l f own _ hd ⟨D0,hJ⟩=>JI.ixs hJ 17 22 2 (q 2 Yv) rfl (hJ.v 16 Yv (hd 16 Yw)),
  fun l f own _ hd ⟨D0,hJ⟩=>JI.ldu hJ d 18 23 2 Yv (q 2 Yv) rfl (hJ.v 17 Yv (hd 17 Yw)),
  fun l f own _ _ ⟨D0,hJ⟩=>JI.mov hJ 19 rfl,
  fun l f own _ hd ⟨D0,hJ⟩=>JI.nilc hJ 20 25 rfl (hJ.v 19 Yv (hd 19 Yw)),
  fun l f own _ hd ⟨D0,hJ⟩=>JI.fad hJ 21 26 rfl (hJ.v 20 Yv (hd 20 Yw)),
  fun l f own _ hd ⟨D0,hJ⟩=>JI.ldm hJ 22 27 rfl (hJ.v 21 Yv (hd 21 Yw)),
  fun l f own _ hd ⟨D0,hJ⟩=>JI.mlk hJ d 23 28 3 Yv 4 Yv rfl (hJ.v 22 Yv (hd 22 Yw)),
  fun l f own _ hd ⟨D0,hJ⟩=>JI.ixs hJ 24 29 3 (q 3 Yv) rfl (hJ.v 23 Yv (hd 23 Yw)),
  fun l f own _ hd ⟨D0,hJ⟩=>JI.ldu hJ d 25 30 3 Yv (q 3 Yv) rfl (hJ.v 24 Yv (hd 24 Yw)),
  fun l f own _ _ ⟨D0,hJ⟩=>JI.mov hJ 26 rfl,
  fun l f own _ hd ⟨D0,hJ⟩=>JI.nilc hJ 27 32 rfl (hJ.v 26 Yv (hd 26 Yw)),
  fun l f own _ hd ⟨D0,hJ⟩=>JI.fad hJ 28 33 rfl (hJ.v 27 Yv (hd 27 Yw)),
  fun l f own _ hd ⟨D0,hJ⟩=>JI.ldm hJ 29 34 rfl (hJ.v 28 Yv (hd 28 Yw)),
  fun l f own _ hd ⟨D0,hJ⟩=>JI.mlk hJ d 30 35 4 Yv 5 Yv rfl (hJ.v 29 Yv (hd 29 Yw)),
  fun l f own _ hd ⟨D0,hJ⟩=>JI.ixs hJ 31 36 4 (q 4 Yv) rfl (hJ.v 30 Yv (hd 30 Yw)),
  fun l f own _ hd ⟨D0,hJ⟩=>JI.ldu hJ d 32 37 4 Yv (q 4 Yv) rfl (hJ.v 31 Yv (hd 31 Yw)),
  fun l f own _ _ ⟨D0,hJ⟩=>JI.mov hJ 33 rfl,
  fun l f own _ hd ⟨D0,hJ⟩=>JI.nilc hJ 34 39 rfl (hJ.v 33 Yv (hd 33 Yw)),
  fun l f own _ hd ⟨D0,hJ⟩=>JI.fad hJ 35 40 rfl (hJ.v 34 Yv (hd 34 Yw)),
  fun l f own _ hd ⟨D0,hJ⟩=>JI.ldm hJ 36 41 rfl (hJ.v 35 Yv (hd 35 Yw)),
  fun l f own _ hd ⟨D0,hJ⟩=>JI.mlk hJ d 37 42 5 Yv 6 Yv rfl (hJ.v 36 Yv (hd 36 Yw)),
  fun l f own _ hd ⟨D0,hJ⟩=>JI.cln hJ d 38 43 5 Yv rfl (hJ.v 37 Yv (hd 37 Yw)),
  fun l f own _ _ ⟨D0,hJ⟩=>JI.mov hJ 39 rfl,
  fun l f own _ hd ⟨D0,hJ⟩=>JI.nilc hJ 40 45 rfl (hJ.v 39 Yv (hd 39 Yw)),
  fun l f own _ hd ⟨D0,hJ⟩=>JI.fad hJ 41 46 rfl (hJ.v 40 Yv (hd 40 Yw)),
  fun l f own _ hd ⟨D0,hJ⟩=>JI.ldm hJ 42 47 rfl (hJ.v 41 Yv (hd 41 Yw)),
  fun l f own _ hd ⟨D0,hJ⟩=>JI.mlk hJ d 43 48 6 Yv 7 Yv rfl (hJ.v 42 Yv (hd 42 Yw)),
  fun l f own _ hd ⟨D0,hJ⟩=>JI.cln hJ d 44 49 6 Yv rfl (hJ.v 43 Yv (hd 43 Yw)),
  fun l f own _ _ ⟨D0,hJ⟩=>JI.mov hJ 45 rfl,
  fun l f own _ hd ⟨D0,hJ⟩=>JI.nilc hJ 46 51 rfl (hJ.v 45 Yv (hd 45 Yw)),
  fun l f own _ hd ⟨D0,hJ⟩=>JI.fad hJ 47 52 rfl (hJ.v 46 Yv (hd 46 Yw)),
  fun l f own _ hd ⟨D0,hJ⟩=>JI.ldm hJ 48 53 rfl (hJ.v 47 Yv (hd 47 Yw)),
  fun l f own _ hd ⟨D0,hJ⟩=>JI.mlk hJ d 49 54 7 Yv 8 Yv rfl (hJ.v 48 Yv (hd 48 Yw)),
  fun l f own _ hd ⟨D0,hJ⟩=>JI.cln hJ d 50 55 7 Yv rfl (hJ.v 49 Yv (hd 49 Yw)),
  fun l f own _ hd ⟨D0,hJ⟩=>JI.bld hJ (hJ.v 5 Yv (hd 5 Yw)) (hJ.v 11 Yv (hd 11 Yw)) (hJ.v 38 Yv (hd 38 Yw)) (hJ.v 44 Yv (hd 44 Yw)) (hJ.v 50 Yv (hd 50 Yw)) (hJ.v 18 Yv (hd 18 Yw)) (hJ.v 25 Yv (hd 25 Yw)) (hJ.v 32 Yv (hd 32 Yw)),
  fun l f own _ hd ⟨D0,hJ⟩=>JI.stn hJ (hJ.v 51 Yv (hd 51 Yw)),
  trivial⟩
end
open Go
section
variable{W0:World}{own:Own}
theorem qj9(own:Own):jo W0 147 [j5 0,j5 (-1)] own (.tuple #[uv 0,j5 0]):=by
 refine qg (sH [] ?_)
 repeat'((try conv=>whnf);first|refine fH ?_|refine fD ?_|refine arw (k:= .u64) ?_|refine fB ?_)
 all_goals exact⟨rfl,(eC)⟩
theorem qje{c:Cfg}(h:c.c0=0/\c.c1=0/\c.c2=0/\c.c3=0)(hb:qT c=0):jn W0 114 [c.v] own fun v own'=>
  ∃s:Nat×Nat,v= .tuple #[.slice (some ⟨s.1,0,none⟩) 4 4, .slice (some ⟨s.2,0,none⟩) 0 0]/\Ent W0 own' (q0U q05 72 s.1 [0,0,0,0]::q0U q05 72 s.2 []::own):=by
 refine sH [] ?_;have j:=fun own=>q6d W0 own c
 rw[hb] at j;have d:=fun own=>qj9 (W0:=W0) own
 obtain⟨w,o,b,c0,c1,c2,c3,r,wr,al,fr,ck,st⟩:=c;obtain⟨rfl,rfl,rfl,rfl⟩:=h;dsimp only[Cfg.v,Cfg.cs] at j ⊢;have hw:∀z∈([0,0,0,0]:je),(q05 z).length=1:=fun _ _=>rfl
 have H:∀i,i<4->([0,0,0,0]:je)[i]? =some 0:=by intro i J;match i,J with|0,_=>rfl|1,_=>rfl|2,_=>rfl|3,_=>rfl
 have q:=H 0 Yv;have u:=H 1 Yv;have C:=H 2 Yv;have G:=H 3 Yv
 repeat'((try conv=>whnf);first|refine mkC (enc:=q05) 4 0 rfl rfl rfl Yu fun b1=>?_;apply Stop.h|refine qf fun bk hbk=>?_)
 refine Stop.mk ?_
 repeat'((try conv=>whnf);first|refine mkC (enc:=q05) 0 0 rfl rfl rfl Yu fun b2=>?_|apply qe;refine qd (j _) ?_|refine fL ?_|refine fQ ?_)
 refine qK (σ:=Nat) (fun i=> [(15,j5 i),(4,j5 0)]) (fun _=>q0U q05 72 b1 [0,0,0,0]::q0U q05 72 b2 []::own) (fun i=>i<=4) (fun i=>4-i) 0 (zv _) (eF) sbE rfl ?_;rintro i junk J;have I:i=0\/i=1\/i=2\/i=3\/i=4:=Yu;have g:(4:Nat)=([0,0,0,0]:je).length:=rfl
 rcases I with rfl|rfl|rfl|rfl|rfl
 ·repeat'((try conv=>whnf);first|refine fE ?_|refine fD ?_|refine q1y 1 ?_|(apply qF;first|refine ixC q g ?_ ?_;(first|rfl|omega))|apply qe;refine qd (d _) ?_|((with_reducible show StT _ _ _ _ _);first|refine stC (T:=72) (k:=0) (0) hw q ?_ ?_ ?_ ?_ ?_;exact rfl;omega;exact rfl;exact rfl)|refine fB ?_|refine fO ?_|refine ix0 rfl ?_)
  all_goals exact⟨1,Yu,Yu,(eF),sbE⟩
 ·repeat'((try conv=>whnf);first|refine fE ?_|refine fD ?_|refine q1y 1 ?_|(apply qF;first|refine ixC u g ?_ ?_;(first|rfl|omega))|apply qe;refine qd (d _) ?_|((with_reducible show StT _ _ _ _ _);first|refine stC (T:=72) (k:=0) (0) hw u ?_ ?_ ?_ ?_ ?_;exact rfl;omega;exact rfl;exact rfl)|refine fB ?_|refine fO ?_|refine ix1 rfl ?_)
  all_goals exact⟨2,Yu,Yu,(eF),sbE⟩
 ·repeat'((try conv=>whnf);first|refine fE ?_|refine fD ?_|refine q1y 1 ?_|(apply qF;first|refine ixC C g ?_ ?_;(first|rfl|omega))|apply qe;refine qd (d _) ?_|((with_reducible show StT _ _ _ _ _);first|refine stC (T:=72) (k:=0) (0) hw C ?_ ?_ ?_ ?_ ?_;exact rfl;omega;exact rfl;exact rfl)|refine fB ?_|refine fO ?_|refine ix2 rfl ?_)
  all_goals exact⟨3,Yu,Yu,(eF),sbE⟩
 ·repeat'((try conv=>whnf);first|refine fE ?_|refine fD ?_|refine q1y 1 ?_|(apply qF;first|refine ixC G g ?_ ?_;(first|rfl|omega))|apply qe;refine qd (d _) ?_|((with_reducible show StT _ _ _ _ _);first|refine stC (T:=72) (k:=0) (0) hw G ?_ ?_ ?_ ?_ ?_;exact rfl;omega;exact rfl;exact rfl)|refine fB ?_|refine fO ?_|refine ix3 rfl ?_)
  all_goals exact⟨4,Yu,Yu,(eF),sbE⟩
 ·repeat'((try conv=>whnf);first|refine fD ?_)
  all_goals exact⟨(b1,b2),rfl,sbE⟩
end
open Go
theorem qeZ{a b:Int}{v:Value}:∀{ml:List (Value×Value)},(∀e∈ml,∃z,e.1= j5 z)->q2F 0 (j5 a) (q6T 0 (j5 b) v ml)=if a=b then some (some v) else q2F 0 (j5 a) ml
 | [],_=>by
  show(match some (decide (a=b)) with|some true=>some (some v)|some false=>some none|none=>none)=_
  by_cases h:a=b
  ·rw[if_pos h,decide_eq_true h]
  ·rw[if_neg h,decide_eq_false h];rfl
 |(k,w)::r,g=>by
  obtain⟨z,rfl⟩:∃z,k= j5 z:=g _ zj
  have o:=qeZ (a:=a) (b:=b) (v:=v) (ml:=r) fun e he=>g e (zl _ he)
  have j:q6T 0 (j5 b) v ((j5 z,w)::r)=(match some (decide (b=z)) with|some true=>(j5 b,v)::r|_=>(j5 z,w)::q6T 0 (j5 b) v r):=rfl;have d:∀(q:Value) (s:List (Value×Value)) (y:Int),q2F 0 (j5 a) ((j5 y,q)::s)=(match some (decide (a=y)) with|some true=>some (some q)|some false=>q2F 0 (j5 a) s|none=>none):=fun _ _ _=>rfl
  rw[j,d]
  by_cases hb:b=z
  ·subst hb;simp only[decide_true];rw[d]
   by_cases h:a=b
   ·rw[if_pos h,decide_eq_true h]
   ·rw[if_neg h,decide_eq_false h]
  ·simp only[decide_eq_false hb];rw[d,o]
   by_cases h:a=b
   ·subst h;simp only[decide_eq_false hb,if_true]
   ·simp only[if_neg h]
theorem qcK{b:Int}{v:Value}:∀{ml:List (Value×Value)},(∀e∈ml,∃z,e.1= j5 z)->∀e∈q6T 0 (j5 b) v ml,∃z,e.1= j5 z
 | [],_,e,he=>by rw[show q6T 0 (j5 b) v []= [(j5 b,v)] from rfl,zf] at he;subst he;exact⟨b,rfl⟩
 |(k,w)::r,d,e,he=>by
  obtain⟨z,rfl⟩:∃z,k= j5 z:=d _ zj
  have g:q6T 0 (j5 b) v ((j5 z,w)::r)=(match some (decide (b=z)) with|some true=>(j5 b,v)::r|_=>(j5 z,w)::q6T 0 (j5 b) v r):=rfl;rw[g] at he
  by_cases hb:b=z
  ·simp only[decide_eq_true hb] at he
   rcases zN.1 he with rfl|he
   ·exact⟨b,rfl⟩
   ·exact d e (zl _ he)
  ·simp only[decide_eq_false hb] at he
   rcases zN.1 he with rfl|he
   ·exact⟨z,rfl⟩
   ·exact qcK (fun e he=>d e (zl _ he)) e he
structure NX where
 mp:Nat
 ml:List (Value×Value)
 a1:j9
 c1:Nat
 D1:Own
 e:Nat->Nat
structure NB where
 ia:j9
 il:je
 ic:Nat
 b3:Nat
 hb:Nat
 nb:Nat
 O:Nat
 n:Nat
abbrev zsl(b k:Nat):Value:= .slice (some ⟨b,0,none⟩) k k
def vN(B:NB)(X:NX):Nat->Value
 |0=> .map (some X.mp)|1=> .slice B.ia B.il.length B.ic|2=> .slice X.a1 B.il.length X.c1|3=>zsl B.nb 0|4=> j5 ((0:Nat):Int)|5=> .slice X.a1 B.il.length X.c1
 |7=> .pointer (some ⟨B.b3,0+1,none⟩)|8=> j5 B.O|9=>zsl (X.e 9) B.O|11=>zsl (X.e 11) 1|13=>zsl (X.e 13) 1|15=>zsl (X.e 15) 1|17=> j5 B.n|18=>zsl (X.e 18) B.n
 |20=>zsl B.hb 4|22=>zsl B.nb 0|24=> .map (some X.mp)|25=> .agg #[.map (some X.mp)]|26=>ptr (X.e 26)|27=>ptr (X.e 26)|_=> j5 0
def dN(j:Nat):Nat:=([32,33,34,35,36,37,100,38,39,40,101,41,102,42,103,43,104,44,45,105,46,106,47,107,48,49,50,6,7]:jj).getD j 200
def muN(k:Nat):Nat:=([6,10,12,14,16,19,21,23]:jj).getD k 200
def crN(k:Nat):Nat:=([5,9,11,13,15,18,20,22]:jj).getD k 200
def clN:List (Nat×Nat):= [(5,2),(6,0),(6,5),(10,0),(10,9),(12,0),(12,11),(14,0),(14,13),(16,0),(16,15),(19,0),(19,18),(21,0),(21,20),(23,0),(23,22),(24,0),(25,24),(26,25),(27,26)]
theorem qkk:∀k,k<8->(muN k,crN k)∈clN:=Yv
theorem qoY:∀j,j<29->∀i,i<29->j≠i->dN j≠dN i:=Yv
abbrev rpP(k:Nat):Obj->Prop:=fun o=>o=Obj.cells (List.replicate k [uv 0]).flatten.toArray 72
abbrev mmP(mp:Nat):Obj->Prop:=fun o=>o=Obj.cells #[.map (some mp)] 184
def pq(b:Bool)(D:Own):Own:=bif b then D else []
def pcN(B:NB)(X:NX)(l:Nat->Bool):Own:=pq (l 0) [(X.mp,q3r X.ml)]++(pq (l 2) X.D1++(pq (l 9) [(X.e 9,rpP B.O)]++(pq (l 11) [(X.e 11,rpP 1)]++(pq (l 13) [(X.e 13,rpP 1)]++(pq (l 15) [(X.e 15,rpP 1)]++(pq (l 18) [(X.e 18,rpP B.n)]++pq (l 26) [(X.e 26,mmP X.mp)]))))))
abbrev q9T(l:Nat->Bool)(i:Nat):Nat->Bool:=fun n=>bif Nat.beq n i then true else l n
theorem q02{l:Nat->Bool}{i n:Nat}(h:n≠i):q9T l i n=l n:=by
 show(bif Nat.beq n i then true else l n)=l n;cases hb:Nat.beq n i with
 |false=>rfl
 |true=>exact absurd (ZI hb) h
theorem qaH{l:Nat->Bool}{i:Nat}:q9T l i i=true:=by
 show(bif Nat.beq i i then true else l i)=true;rw[Nat.beq_refl];rfl
theorem Ins.here{e:jd}{Y:Own}:(e::(pq false [e]++Y)).Perm (pq true [e]++Y):=List.Perm.refl _
theorem Ins.skip{e:jd}{A Y d:Own}(h:(e::Y).Perm d):(e::(A++Y)).Perm (A++d):=Zf.symm.trans (h.append_left A)
theorem Ins.base{e:jd}{A Y d:Own}(h:(e::Y).Perm d):(e::(Y++A)).Perm (d++A):=h.append_right A
structure JN(B:NB)(base:Own)(X:NX)(l:Nat->Bool)(f:Fr)(own:Own):Prop where
 v:∀j,j<29->dN j<100->l j=true->f (dN j)=vN B X j
 f1:f 1= j5 B.n
 f2:f 2= .slice B.ia B.il.length B.ic
 f3:f 3=ptr B.b3
 f9:f 9=zsl B.hb 4
 f10:f 10=zsl B.nb 0
 cl:∀q∈clN,l q.1=true->l q.2=true
 m:l 0=true->(∀e∈X.ml,∃z,e.1= j5 z)/\∀k:Nat,k<8->q2F 0 (j5 ((k:Int)+1)) X.ml=some (if l (muN k)=true then some (vN B X (crN k)) else none)
 b:l 2=true->qo q05 72 1 X.a1 X.c1 B.il X.D1
 o:own.Perm (pcN B X l++base)
section
variable{W0:World}{B:NB}{base own own':Own}{X X':NX}{l:Nat->Bool}{f:Fr}{i:Nat}{v:Value}
theorem JN.next(hJ:JN B base X l f own)(N:i<29)(hdi:dN i<100)(h10:dN i=6\/dN i=7\/10<dN i)(J:∀j,l j=true->vN B X' j=vN B X j)(R:v=vN B X' i)(K:∀q∈clN,q.1=i->l q.2=true)(g:∀k:Nat,k<8->muN k≠i)
  (hm:q9T l i 0=true->(∀e∈X'.ml,∃z,e.1= j5 z)/\∀k:Nat,k<8->q2F 0 (j5 ((k:Int)+1)) X'.ml=some (if l (muN k)=true then some (vN B X' (crN k)) else none))
  (hb:q9T l i 2=true->qo q05 72 1 X'.a1 X'.c1 B.il X'.D1) (O:own'.Perm (pcN B X' (q9T l i)++base)):JN B base X' (q9T l i) (updO f (some (dN i)) v) own':=by
 refine⟨fun j u hd d=>?_,by rw[q2w Yu];exact hJ.f1,by rw[q2w Yu];exact hJ.f2,by rw[q2w Yu];exact hJ.f3,by rw[q2w Yu];exact hJ.f9,by rw[q2w Yu];exact hJ.f10,fun q C d=>?_,fun G=>?_,hb,O⟩
 ·by_cases e:j=i
  ·subst e;rw[q9O];exact R
  ·rw[q02 e] at d;rw[q2w (qoY j u i N e),J j d];exact hJ.v j u hd d
 ·by_cases s:q.2=i
  ·rw[s];exact qaH
  ·rw[q02 s]
   by_cases o:q.1=i
   ·exact K q C o
   ·rw[q02 o] at d;exact hJ.cl q C d
 ·obtain⟨H,I⟩:=hm G;refine⟨H,fun k w=>?_⟩;rw[q02 (g k w)];exact I k w
theorem JN.keep(hJ:JN B base X l f own)(w:i<29)(j:dN i<100)(g:dN i=6\/dN i=7\/10<dN i)(z:v=vN B X i)(u:∀q∈clN,q.1=i->l q.2=true)(o:∀k:Nat,k<8->muN k≠i)(d:∀k:Nat,k∈([0,2,9,11,13,15,18,26]:jj)->k≠i):JN B base X (q9T l i) (updO f (some (dN i)) v) own:=by
 refine hJ.next w j g (fun _ _=>rfl) z u o (fun h=>hJ.m (by rwa[q02 (d 0 Yv)] at h)) (fun h=>hJ.b (by rwa[q02 (d 2 Yv)] at h)) ?_;have:pcN B X (q9T l i)=pcN B X l:=by unfold pcN;rw[q02 (d 0 Yv),q02 (d 2 Yv),q02 (d 9 Yv),q02 (d 11 Yv),q02 (d 13 Yv),q02 (d 15 Yv),q02 (d 18 Yv),q02 (d 26 Yv)]
 rw[this];exact hJ.o
theorem JN.make(hJ:JN B base X l f own)(b:Nat)(p:Obj->Prop)(g:l i=false)(G:i=9\/i=11\/i=13\/i=15\/i=18\/i=26)(O:v=vN B {X with e:=fun k=>if k=i then b else X.e k} i)(N:∀q∈clN,q.1=i->l q.2=true)(s:(i=9->p=rpP B.O)/\(i=11\/i=13\/i=15->p=rpP 1)/\(i=18->p=rpP B.n)/\(i=26->p=mmP X.mp)):JN B base {X with e:=fun k=>if k=i then b else X.e k} (q9T l i) (updO f (some (dN i)) v) ((b,p)::own):=by
 have H:∀j,l j=true->vN B {X with e:=fun k=>if k=i then b else X.e k} j=vN B X j:=by
  intro j u;have hne:j≠i:=fun e=>by rw[e,g] at u;cases u
  have h27:j=27->i≠26:=fun e I=>by
   subst e;subst I;have:=hJ.cl (27,26) Yv u;rw[g] at this;cases this
  unfold vN
  split <;>first|rfl|dsimp only;rw[if_neg Yu]
 have C:∀k:Nat,k<8->muN k≠i:=by
  intro k w;have:∀k:Nat,k<8->∀j,(j=9\/j=11\/j=13\/j=15\/j=18\/j=26)->muN k≠j:=by
   intro k w j u
   rcases u with rfl|rfl|rfl|rfl|rfl|rfl <;>(revert k;decide)
  exact this k w i G
 have o:i<29/\dN i<100/\10<dN i:=by rcases G with rfl|rfl|rfl|rfl|rfl|rfl <;>decide
 refine hJ.next o.1 o.2.1 (.inr (.inr o.2.2)) H O N C (fun h=>?_) (fun h=>hJ.b (by rwa[q02 Yu] at h)) ?_
 ·rw[q02 Yu] at h;obtain⟨J,K⟩:=hJ.m h;refine⟨J,fun k w=>?_⟩;rw[K k w]
  by_cases d:l (muN k)=true
  ·rw[if_pos d,if_pos d];refine congrArg (fun z=>some (some z)) (H (crN k) ?_).symm;exact hJ.cl _ (qkk k w) d
  ·rw[if_neg d,if_neg d]
 ·refine(hJ.o.cons _).trans ?_;unfold pcN
  rcases G with rfl|rfl|rfl|rfl|rfl|rfl
  ·rw[g,s.1 rfl];exact Ins.base (Ins.skip (Ins.skip Ins.here))
  ·rw[g,s.2.1 (.inl rfl)];exact Ins.base (Ins.skip (Ins.skip (Ins.skip Ins.here)))
  ·rw[g,s.2.1 (.inr (.inl rfl))];exact Ins.base (Ins.skip (Ins.skip (Ins.skip (Ins.skip Ins.here))))
  ·rw[g,s.2.1 (.inr (.inr rfl))];exact Ins.base (Ins.skip (Ins.skip (Ins.skip (Ins.skip (Ins.skip Ins.here)))))
  ·rw[g,s.2.2.1 rfl];exact Ins.base (Ins.skip (Ins.skip (Ins.skip (Ins.skip (Ins.skip (Ins.skip Ins.here))))))
  ·rw[g,s.2.2.2 rfl];exact Ins.base (Ins.skip (Ins.skip (Ins.skip (Ins.skip (Ins.skip (Ins.skip (Ins.skip (List.Perm.refl _))))))))
end
open Go
theorem qoS:∀k,k<8->∀q∈clN,q.1=muN k->q.2=0\/q.2=crN k:=Yv
theorem qmO:∀k,k<8->∀j,j<8->k≠j->muN k≠muN j:=Yv
theorem qmN:∀k,k<8->100<=dN (muN k):=Yv
theorem qkI:∀k,k<8->∀j,j∈([0,2,9,11,13,15,18,26]:jj)->j≠muN k:=Yv
theorem Ins.app{D A Y d:Own}(h:(D++Y).Perm d):(D++(A++Y)).Perm (A++d):=by
 rw[<-zd];refine(Zh.append_right Y).trans ?_;rw[zd];exact h.append_left A
section
variable{W0:World}{B:NB}{base own own':Own}{X X':NX}{l:Nat->Bool}{f:Fr}{i:Nat}{v:Value}
theorem JN.ent(hJ:JN B base X l f own):Ent W0 own base:=(Ent.of_perm hJ.o).trans Ent.right
theorem JN.mkm(hJ:JN B base X l f own)(u:l 0=false)(b:Nat):JN B base {X with mp:=b,ml:= []} (q9T l 0) (updO f (some 32) (.map (some b))) ((b,q3r [])::own):=by
 have w:∀j,(j,0)∈clN->l j=false:=fun j d=>by
  cases h:l j with
  |false=>rfl
  |true=>have:=hJ.cl _ d h;rw[u] at this;cases this
 have g:=w 24 Yv;have o:l 25=false:=by
  cases h:l 25 with
  |false=>rfl
  |true=>have:=hJ.cl (25,24) Yv h;rw[g] at this;cases this
 have s:l 26=false:=by
  cases h:l 26 with
  |false=>rfl
  |true=>have:=hJ.cl (26,25) Yv h;rw[o] at this;cases this
 refine hJ.next (i:=0) Yv Yv Yv (fun j d=>?_) rfl (fun q z e=>absurd e ((by decide:∀q∈clN,q.1≠0) q z)) Yv (fun _=>⟨fun _ h=>(by cases h),fun k hk=>?_⟩) (fun h=>hJ.b h) ?_
 ·unfold vN
  split <;>first|rfl|rw[u] at d;cases d|rw[g] at d;cases d|rw[o] at d;cases d
 ·have hm:l (muN k)=false:=w _ (by revert k;decide);rw[hm];rfl
 ·refine(hJ.o.cons _).trans ?_;unfold pcN;rw[u,s];show((b,q3r [])::(([]++_)++base)).Perm (([(b,q3r [])]++(pq (l 2) _++(pq (l 9) _++(pq (l 11) _++(pq (l 13) _++(pq (l 15) _++(pq (l 18) _++pq (l 26) _)))))))++base);rw[s];exact List.Perm.refl _
theorem JN.cln(hJ:JN B base X l f own)(g:l 2=false){a:j9}{c:Nat}{D:Own}(C:qo q05 72 1 a c B.il D):JN B base {X with a1:=a,c1:=c,D1:=D} (q9T l 2) (updO f (some 34) (.slice a B.il.length c)) (D++own):=by
 have o:l 5=false:=by
  cases h:l 5 with
  |false=>rfl
  |true=>have:=hJ.cl (5,2) Yv h;rw[g] at this;cases this
 have h6:l 6=false:=by
  cases h:l 6 with
  |false=>rfl
  |true=>have:=hJ.cl (6,5) Yv h;rw[o] at this;cases this
 have s:∀j,l j=true->vN B {X with a1:=a,c1:=c,D1:=D} j=vN B X j:=by
  intro j d;unfold vN
  split <;>first|rfl|rw[g] at d;cases d|rw[o] at d;cases d
 refine hJ.next (i:=2) Yv Yv Yv s rfl (fun q G e=>absurd e ((by decide:∀q∈clN,q.1≠2) q G)) Yv (fun h=>?_) (fun _=>C) ?_
 ·obtain⟨w,z⟩:=hJ.m h;refine⟨w,fun k u=>?_⟩;rw[z k u]
  by_cases hm:l (muN k)=true
  ·rw[if_pos hm,if_pos hm,s _ (hJ.cl _ (qkk k u) hm)]
  ·rw[if_neg hm,if_neg hm]
 ·refine(hJ.o.append_left D).trans ?_;rw[<-zd];refine List.Perm.append_right base ?_;unfold pcN;rw[g];exact Ins.app (List.Perm.refl _)
theorem JN.mup(hJ:JN B base X l f own)(k:Nat)(o:k<8)(z:l 0=true)(H:l (crN k)=true):∃own',Up X.mp (q3r X.ml) (q3r (q6T 0 (j5 ((k:Int)+1)) (vN B X (crN k)) X.ml)) own own'/\(q2F 0 (j5 ((k:Int)+1)) X.ml).isSome=true/\JN B base {X with ml:=q6T 0 (j5 ((k:Int)+1)) (vN B X (crN k)) X.ml} (q9T l (muN k)) f own':=by
 obtain⟨u,w⟩:=hJ.m z;obtain⟨R,T,G⟩:∃R,pcN B X l=(X.mp,q3r X.ml)::R/\pcN B {X with ml:=q6T 0 (j5 ((k:Int)+1)) (vN B X (crN k)) X.ml} (q9T l (muN k))=(X.mp,q3r (q6T 0 (j5 ((k:Int)+1)) (vN B X (crN k)) X.ml))::R:=by
  have d:=fun j g=>q02 (l:=l) (qkI k o j g)
  unfold pcN;rw[d 0 Yv,d 2 Yv,d 9 Yv,d 11 Yv,d 13 Yv,d 15 Yv,d 18 Yv,d 26 Yv,z];exact⟨_,rfl,rfl⟩
 have J:=hJ.o;rw[T] at J;obtain⟨A,C,rfl⟩:=ZB (J.mem_iff.2 zj);refine⟨A++(X.mp,q3r (q6T 0 (j5 ((k:Int)+1)) (vN B X (crN k)) X.ml))::C,Up.head.app A,by rw[w k o];rfl,?_⟩;refine⟨fun j g hd s=>?_,hJ.f1,hJ.f2,hJ.f3,hJ.f9,hJ.f10,fun q O s=>?_,fun _=>⟨qcK u,fun j g=>?_⟩,fun h=>hJ.b (by rwa[q02 (qkI k o 2 Yv)] at h),?_⟩
 ·have I:j≠muN k:=fun e=>by have:=qmN k o;rw[<-e] at this;omega
  rw[q02 I] at s;exact hJ.v j g hd s
 ·by_cases N:q.2=muN k
  ·rw[N];exact qaH
  ·rw[q02 N]
   by_cases K:q.1=muN k
   ·rcases qoS k o q O K with e|e
    ·rw[e];exact z
    ·rw[e];exact H
   ·rw[q02 K] at s;exact hJ.cl q O s
 ·show q2F 0 _ (q6T 0 _ _ X.ml)=_;rw[qeZ u]
  by_cases e:j=k
  ·subst e;rw[if_pos rfl,qaH,if_pos rfl];rfl
  ·rw[if_neg Yu,w j g,q02 (qmO j g k o e)];rfl
 ·rw[G];exact Zf.trans (((Zf.symm.trans J).cons_inv).cons _)
abbrev JE(B:NB)(base:Own)(l:Nat->Bool)(f:Fr)(own:Own):Prop:=∃X,JN B base X l f own
variable(hJ:JN B base X l f own)
include hJ
theorem JN.xmov(i t:Nat){w:Value}(j:f t=w)(d:i<29/\dN i<100/\(dN i=6\/dN i=7\/10<dN i)/\(∀k:Nat,k<8->muN k≠i)/\∀k:Nat,k∈([0,2,9,11,13,15,18,26]:jj)->k≠i)(o:w=vN B X i)(g:∀q∈clN,q.1=i->l q.2=true):XO Tryz.prog W0 f own (.mov (.tmp t)) fun v own'=>JE B base (q9T l i) (updO f (some (dN i)) v) own':=by
 unfold XO;dsimp only[ev];refine Mv.mk ?_;rw[j];exact⟨X,hJ.keep d.1 d.2.1 d.2.2.1 o g d.2.2.2.1 d.2.2.2.2⟩
theorem JN.xmk(i:Nat)(n:Nat)(x y:Operand)(s:ev f x= j5 n)(u:ev f y= j5 n)(hn:n<=1000000)(j:l i=false)(o:i=9\/i=11\/i=13\/i=15\/i=18)(d:(i=9->n=B.O)/\(i=11\/i=13\/i=15->n=1)/\(i=18->n=B.n))(g:∀q∈clN,q.1=i->l q.2=true):XO Tryz.prog W0 f own (.mk 72 1 8 [j6 0] x y) fun v own'=>JE B base (q9T l i) (updO f (some (dN i)) v) own':=by
 unfold XO;dsimp only;rw[s,u];refine⟨n,n,rfl,rfl,zq _,Yu,fun b _=>⟨_,hJ.make b (rpP n) j Yu ?_ g ⟨fun h=>by rw[d.1 h],fun h=>by rw[d.2.1 h],fun h=>by rw[d.2.2 h],fun h=>by omega⟩⟩⟩
 rcases o with rfl|rfl|rfl|rfl|rfl
 ·rw[d.1 rfl];rfl
 ·rw[d.2.1 (.inl rfl)];rfl
 ·rw[d.2.1 (.inr (.inl rfl))];rfl
 ·rw[d.2.1 (.inr (.inr rfl))];rfl
 ·rw[d.2.2 rfl];rfl
theorem JN.xmup(k:Nat)(t:Nat)(o:Int)(z:k<8)(j:o=(k:Int)+1)(C:f t=vN B X (crN k))(d:f 32= .map (some X.mp))(q:l 0=true)(g:l (crN k)=true):XO Tryz.prog W0 f own (.mup 0 (.tmp 32) (.const (j5 o)) (.tmp t)) fun v own'=>JE B base (q9T l (muN k)) (updO f none v) own':=by
 subst j;obtain⟨own',s,u,w⟩:=hJ.mup k z q g;unfold XO;dsimp only[ev];rw[d,C];exact⟨_,own',s,u,_,w⟩
end
open Go
theorem qaF(n:Nat):(List.replicate n [uv 0]).flatten=(List.replicate n (0:Int)).map uv++ []:=by
 rw[zz,ZU]
 induction n with
 |zero=>rfl
 |succ n d=>rw[ZY,Z8,d,ZY];rfl
theorem qpA(l:je):(l.map q05).flatten=l.map uv:=by
 induction l with
 |nil=>rfl
 |cons x l d=>rw[zF,Z8,d,zF];rfl
theorem qpw{W0:World}{own:Own}{f:Fr}{b:Nat}{K:Value->Own->Prop}(d:f 6=ptr b)(g:f 7= j5 0)(j:K (.tuple #[ptr b,j5 0]) own):qcP W0 f own [.tmp 6, .tmp 7] fun vs=>K (qkY vs) own:=by
 unfold qcP;dsimp only;rw[d];refine Mv.mk ?_;rw[g];exact Mv.mk j
section
variable{W0:World}{own:Own}{c:Cfg}
theorem qno{ia:j9}{il:je}{ic O n:Nat}(hc:qG c=0)(h0:c.c0=0/\c.c1=0/\c.c2=0/\c.c3=0)(hb:qT c=0)(hI:RdE q05 1 W0 own ia il)(T:(il.length:Int)=c.words)(R:il≠ [])(hi2:il.length<=1000)(Z:c.orecs=(O:Int))(hO2:O<=1000)(hn1:1<=n)(hn:n<=16):
  jn W0 82 [c.v,j5 n, .slice ia il.length ic] own fun v own'=>∃mh:MH,(v= .tuple #[ptr mh.mb,j5 0]/\mh.ok (ms0 il O n).L)/\Ent W0 own' (mh.O (ms0 il O n)++own):=by
 refine sH [2] ?_;have u:=fun own=>q2q W0 own c
 rw[hc] at u;have H:=fun(own':Own)=>qje (W0:=W0) (own:=own') h0 hb
 obtain⟨w,o,bs,c0,c1,c2,c3,r,wr,al,fr,ck,st⟩:=c;dsimp only at T Z;dsimp only[Cfg.v,Cfg.cs] at u H ⊢;subst Z
 repeat'((try conv=>whnf);first|refine fH ?_|refine fD ?_|refine fG ?_|refine fK ?_|refine qf fun b3 hb3=>?_|(apply qe;first|refine qd (u _) ?_|refine qi (H _) fun y v W=>?_;obtain⟨hb,C⟩:=y;subst W)|refine fO ?_|refine fA ?_|refine fL ?_)
 refine qkP (JE ⟨ia,il,ic,b3,hb,C,O,n⟩ (q0U q05 72 hb [0,0,0,0]::q0U q05 72 C []::(b3,fun z=>z=Obj.cells #[j5 w,j5 O,j5 bs,j5 c0,j5 c1,j5 c2,j5 c3,j5 r,j5 wr,j5 al,j5 fr,j5 ck, .bool st] 28)::own))
  ⟨⟨0,[],none,0,[],fun _=>0⟩,⟨fun _ _ _ h=>(by cases h),rfl,rfl,rfl,rfl,rfl,fun _ _ h=>(by cases h),fun h=>(by cases h),fun h=>(by cases h),List.Perm.refl _⟩⟩ ?_ ?_
 ·rintro l f own' ⟨X,hJ⟩ g;have s:∀j,j<29->l j=true:=g
  clear g;have I:=hJ.b (s 2 Yv);obtain⟨hm1,V⟩:=hJ.m (s 0 Yv)
  rcases I.how with ⟨e, -⟩|⟨b0,rest,ha,hD,hlen,hle⟩
  ·exact absurd e R
  have hlen':il.length*1+rest.length=X.c1*1:=hlen;have J:=hJ.v 27 Yv Yv (s 27 Yv);have N:=hJ.v 28 Yv Yv (s 28 Yv);have hT:pcN ⟨ia,il,ic,b3,hb,C,O,n⟩ X l= [(X.mp,q3r X.ml)]++(X.D1++([(X.e 9,rpP O)]++([(X.e 11,rpP 1)]++([(X.e 13,rpP 1)]++([(X.e 15,rpP 1)]++([(X.e 18,rpP n)]++ [(X.e 26,mmP X.mp)])))))):=by
   unfold pcN;rw[s 0 Yv,s 2 Yv,s 9 Yv,s 11 Yv,s 13 Yv,s 15 Yv,s 18 Yv,s 26 Yv];rfl
  have Y:=Ent.of_perm (W0:=W0) hJ.o;rw[hT,hD] at Y;refine qpw (W0:=W0) (K:=fun v own'=>∃mh:MH,(v= .tuple #[ptr mh.mb,j5 0]/\mh.ok (ms0 il O n).L)/\Ent W0 own' (mh.O (ms0 il O n)++own)) J N ?_;refine⟨⟨X.e 26,X.mp,fun k=>([b0,X.e 9,X.e 11,X.e 13,X.e 15,X.e 18,hb,C]:jj).getD k 0,fun k=>if k=0 then rest else [],fun k=>([il.length,O,1,1,1,n,4,0]:jj).getD k 0,X.ml⟩,⟨rfl,?_⟩,?_⟩
  ·refine⟨fun k U=>?_,fun k U=>?_,rfl,fun k U=>?_⟩
   ·rw[V k U,if_pos (s _ (by revert k;decide))];have G:k=0\/k=1\/k=2\/k=3\/k=4\/k=5\/k=6\/k=7:=Yu
    rcases G with rfl|rfl|rfl|rfl|rfl|rfl|rfl|rfl
    ·show some (some (Value.slice X.a1 il.length X.c1))=some (some (Value.slice (some ⟨b0,0,none⟩) il.length (il.length+rest.length)));rw[ha,show X.c1=il.length+rest.length by omega]
    all_goals rfl
   ·have G:k=0\/k=1\/k=2\/k=3\/k=4\/k=5\/k=6\/k=7:=Yu
    rcases G with rfl|rfl|rfl|rfl|rfl|rfl|rfl|rfl <;>first|rfl|exact zO
   ·have G:k=0\/k=1\/k=2\/k=3\/k=4\/k=5\/k=6\/k=7:=Yu
    rcases G with rfl|rfl|rfl|rfl|rfl|rfl|rfl|rfl
    ·show il.length<=1000000;omega
    ·show O<=1000000;omega
    ·show 1<=1000000;decide
    ·show 1<=1000000;decide
    ·show 1<=1000000;decide
    ·show n<=1000000;omega
    ·show 4<=1000000;decide
    ·show 0<=1000000;decide
  ·refine Y.trans ?_;unfold rpP;rw[qaF,qaF,qaF,qpA];show Ent W0 _ ((X.e 26,mmP X.mp)::(X.mp,q3r X.ml)::(b0,j8 (il.map uv++rest).toArray 72)::(X.e 9,j8 ((List.replicate O (0:Int)).map uv++ []).toArray 72)::(X.e 11,j8 ((List.replicate 1 (0:Int)).map uv++ []).toArray 72)::(X.e 13,j8 ((List.replicate 1 (0:Int)).map uv++ []).toArray 72)::(X.e 15,j8 ((List.replicate 1 (0:Int)).map uv++ []).toArray 72)::(X.e 18,j8 ((List.replicate n (0:Int)).map uv++ []).toArray 72)::(q0U q05 72 hb [0,0,0,0])::(q0U q05 72 C [])::own);simp only[zp,zk];exact sbE
 ·exact⟨fun l f own' g _ ⟨X,hJ⟩=>⟨fun b _=>⟨_,hJ.mkm g b⟩⟩,
  fun l f own' _ _ ⟨X,hJ⟩=>hJ.xmov 1 2 hJ.f2 Yv rfl (fun q d e=>absurd e ((by decide:∀q∈clN,q.1≠1) q d)),
  fun l f own' g hd ⟨X,hJ⟩=>by
   change q0k Tryz.prog W0 own' _ [f 33] _
   rw[show f 33= .slice ia il.length ic from (hJ.v 1 Yv Yv (hd 1 Yv))];refine qbh (qN (W0:=W0) (own:=own') (cap:=ic) (hI.ent (hJ.ent.trans (Ent.of_sub ((zR _ _).trans ((zR _ _).trans (zR _ _)))))) Yu) rfl rfl fun y v W=>?_
   obtain⟨a,c,D⟩:=y;obtain⟨rfl,I⟩:=W;exact⟨_,hJ.cln g I⟩,
  fun l f own' _ _ ⟨X,hJ⟩=>hJ.xmov 3 10 hJ.f10 Yv rfl (fun q d e=>absurd e ((by decide:∀q∈clN,q.1≠3) q d)),
  fun l f own' _ hd ⟨X,hJ⟩=>by
   unfold XO;dsimp only[ev];rw[show f 35=zsl C 0 from (hJ.v 3 Yv Yv (hd 3 Yv))];exact⟨X,hJ.keep (i:=4) Yv Yv Yv rfl (fun q d e=>absurd e ((by decide:∀q∈clN,q.1≠4) q d)) Yv Yv⟩,
  fun l f own' _ hd ⟨X,hJ⟩=>by
   unfold XO;dsimp only[ev];rw[show f 34= .slice X.a1 il.length X.c1 from (hJ.v 2 Yv Yv (hd 2 Yv)),show f 36= j5 ((0:Nat):Int) from (hJ.v 4 Yv Yv (hd 4 Yv))];exact⟨.inl ⟨rfl,(hJ.b (hd 2 Yv)).le,X,hJ.keep (i:=5) Yv Yv Yv rfl (fun q d e=>by have:=(by decide:∀q∈clN,q.1=5->q.2=2) q d e;rw[this];exact hd _ Yv) Yv Yv⟩⟩,
  fun l f own' _ hd ⟨X,hJ⟩=>hJ.xmup 0 37 1 Yv Yv (hJ.v 5 Yv Yv (hd 5 Yv)) (hJ.v 0 Yv Yv (hd 0 Yv)) (hd 0 Yv) (hd 5 Yv),
  fun l f own' _ _ ⟨X,hJ⟩=>by
   unfold XO;dsimp only[ev];rw[hJ.f3];exact⟨X,hJ.keep (i:=7) Yv Yv Yv rfl (fun q d e=>absurd e ((by decide:∀q∈clN,q.1≠7) q d)) Yv Yv⟩,
  fun l f own' _ hd ⟨X,hJ⟩=>by
   unfold XO;dsimp only[ev];rw[show f 38= .pointer (some ⟨b3,0+1,none⟩) from (hJ.v 7 Yv Yv (hd 7 Yv))];exact⟨j5 O,q0O (hJ.o.mem_iff.2 (zJ _ (zl _ (zl _ zj)))) rfl,X,hJ.keep (i:=8) Yv Yv Yv rfl (fun q d e=>absurd e ((by decide:∀q∈clN,q.1≠8) q d)) Yv Yv⟩,
  fun l f own' g hd ⟨X,hJ⟩=>hJ.xmk 9 O _ _ (hJ.v 8 Yv Yv (hd 8 Yv)) (hJ.v 8 Yv Yv (hd 8 Yv)) Yu g Yv ⟨fun _=>rfl,fun h=>by omega,fun h=>by omega⟩ (fun q d e=>absurd e ((by decide:∀q∈clN,q.1≠9) q d)),
  fun l f own' _ hd ⟨X,hJ⟩=>hJ.xmup 1 40 2 Yv Yv (hJ.v 9 Yv Yv (hd 9 Yv)) (hJ.v 0 Yv Yv (hd 0 Yv)) (hd 0 Yv) (hd 9 Yv),
  fun l f own' g _ ⟨X,hJ⟩=>hJ.xmk 11 1 _ _ rfl rfl Yv g Yv ⟨fun h=>by omega,fun _=>rfl,fun h=>by omega⟩ (fun q d e=>absurd e ((by decide:∀q∈clN,q.1≠11) q d)),
  fun l f own' _ hd ⟨X,hJ⟩=>hJ.xmup 2 41 3 Yv Yv (hJ.v 11 Yv Yv (hd 11 Yv)) (hJ.v 0 Yv Yv (hd 0 Yv)) (hd 0 Yv) (hd 11 Yv),
  fun l f own' g _ ⟨X,hJ⟩=>hJ.xmk 13 1 _ _ rfl rfl Yv g Yv ⟨fun h=>by omega,fun _=>rfl,fun h=>by omega⟩ (fun q d e=>absurd e ((by decide:∀q∈clN,q.1≠13) q d)),
  fun l f own' _ hd ⟨X,hJ⟩=>hJ.xmup 3 42 4 Yv Yv (hJ.v 13 Yv Yv (hd 13 Yv)) (hJ.v 0 Yv Yv (hd 0 Yv)) (hd 0 Yv) (hd 13 Yv),
  fun l f own' g _ ⟨X,hJ⟩=>hJ.xmk 15 1 _ _ rfl rfl Yv g Yv ⟨fun h=>by omega,fun _=>rfl,fun h=>by omega⟩ (fun q d e=>absurd e ((by decide:∀q∈clN,q.1≠15) q d)),
  fun l f own' _ hd ⟨X,hJ⟩=>hJ.xmup 4 43 5 Yv Yv (hJ.v 15 Yv Yv (hd 15 Yv)) (hJ.v 0 Yv Yv (hd 0 Yv)) (hd 0 Yv) (hd 15 Yv),
  fun l f own' _ _ ⟨X,hJ⟩=>hJ.xmov 17 1 hJ.f1 Yv rfl (fun q d e=>absurd e ((by decide:∀q∈clN,q.1≠17) q d)),
  fun l f own' g hd ⟨X,hJ⟩=>hJ.xmk 18 n _ _ (hJ.v 17 Yv Yv (hd 17 Yv)) (hJ.v 17 Yv Yv (hd 17 Yv)) Yu g Yv ⟨fun h=>by omega,fun h=>by omega,fun _=>rfl⟩ (fun q d e=>absurd e ((by decide:∀q∈clN,q.1≠18) q d)),
  fun l f own' _ hd ⟨X,hJ⟩=>hJ.xmup 5 45 6 Yv Yv (hJ.v 18 Yv Yv (hd 18 Yv)) (hJ.v 0 Yv Yv (hd 0 Yv)) (hd 0 Yv) (hd 18 Yv),
  fun l f own' _ _ ⟨X,hJ⟩=>hJ.xmov 20 9 hJ.f9 Yv rfl (fun q d e=>absurd e ((by decide:∀q∈clN,q.1≠20) q d)),
  fun l f own' _ hd ⟨X,hJ⟩=>hJ.xmup 6 46 7 Yv Yv (hJ.v 20 Yv Yv (hd 20 Yv)) (hJ.v 0 Yv Yv (hd 0 Yv)) (hd 0 Yv) (hd 20 Yv),
  fun l f own' _ _ ⟨X,hJ⟩=>hJ.xmov 22 10 hJ.f10 Yv rfl (fun q d e=>absurd e ((by decide:∀q∈clN,q.1≠22) q d)),
  fun l f own' _ hd ⟨X,hJ⟩=>hJ.xmup 7 47 8 Yv Yv (hJ.v 22 Yv Yv (hd 22 Yv)) (hJ.v 0 Yv Yv (hd 0 Yv)) (hd 0 Yv) (hd 22 Yv),
  fun l f own' _ hd ⟨X,hJ⟩=>hJ.xmov 24 32 (hJ.v 0 Yv Yv (hd 0 Yv)) Yv rfl (fun q d e=>by have:=(by decide:∀q∈clN,q.1=24->q.2=0) q d e;rw[this];exact hd _ Yv),
  fun l f own' _ hd ⟨X,hJ⟩=>by
   unfold XO;dsimp only;simp only[q2d,qdW,ev,show f 48= .map (some X.mp) from (hJ.v 24 Yv Yv (hd 24 Yv))];exact⟨X,hJ.keep (i:=25) Yv Yv Yv rfl (fun q d e=>by have:=(by decide:∀q∈clN,q.1=25->q.2=24) q d e;rw[this];exact hd _ Yv) Yv Yv⟩,
  fun l f own' g hd ⟨X,hJ⟩=>by
   unfold XO;dsimp only[ev];rw[show f 49= .agg #[.map (some X.mp)] from (hJ.v 25 Yv Yv (hd 25 Yv))];exact⟨fun b _ _=>⟨_,hJ.make (i:=26) b (mmP X.mp) g Yv rfl (fun q d e=>by have:=(by decide:∀q∈clN,q.1=26->q.2=25) q d e;rw[this];exact hd _ Yv) ⟨fun h=>by omega,fun h=>by omega,fun h=>by omega,fun _=>rfl⟩⟩⟩,
  fun l f own' _ hd ⟨X,hJ⟩=>hJ.xmov 27 50 (hJ.v 26 Yv Yv (hd 26 Yv)) Yv rfl (fun q d e=>by have:=(by decide:∀q∈clN,q.1=27->q.2=26) q d e;rw[this];exact hd _ Yv),
  fun l f own' _ _ ⟨X,hJ⟩=>by
   unfold XO;dsimp only[ev];exact⟨X,hJ.keep (i:=28) Yv Yv Yv rfl (fun q d e=>absurd e ((by decide:∀q∈clN,q.1≠28) q d)) Yv Yv⟩,
  trivial⟩
end
open Go
theorem qb5{c:Cfg}{n:Nat}{y:TW}:∀(L:List TW) (k:Nat),TsO c n k (L++ [y])=TsO c n k L++ThO c n (k+L.length) y
 | [],k=>by
  show ThO c n k y++ []= []++ThO c n (k+0) y;rw[zz,zk,ZV]
 |z::L,k=>by
  rw[zp,TsO,TsO,qb5 L (k+1),zd,zm,show k+1+L.length=k+(L.length+1) by omega]
theorem qkE{α β γ:Type}{L:List α}{l:List β}{f:α->γ}{g:β->γ}(q:L.length=l.length)(h:∀(t:Nat) (y:α),L[t]? =some y->∃z,l[t]? =some z/\f y=g z):L.map f=l.map g:=by
 refine Zm fun j=>?_
 rw[zI,zI];cases e:L[j]? with
 |none=>rw[zV (by rw[<-q];exact List.getElem?_eq_none_iff.1 e)];rfl
 |some y=>obtain⟨z,d,o⟩:=h j y e;rw[d];exact congrArg some o
section
variable{W0:World}{own:Own}{c:Cfg}
theorem qnu{ia pa ka:j9}{il ks:je}{ic pc kc O:Nat}{ps:jk}(hF:qz W0)(aj:csM c il.length ps ks=(0,0,0))(hc:qG c=0)(h0:c.c0=0/\c.c1=0/\c.c2=0/\c.c3=0)(hb:qT c=0)(hI:RdE q05 1 W0 own ia il)(aw:(il.length:Int)=c.words)(aq:il≠ [])(au:il.length<=1000)(hO:c.orecs=(O:Int))(ae:O<=1000)
  (hP:RdE PH.enc 1 W0 own pa ps) (hQ:∀h∈ps,RdE Ins.enc 5 W0 own h.a h.p) (hK:RdE qv 1 W0 own ka ks) (ay:1<=ps.length) (hn:ps.length<=16) (q:∀h∈ps,qw h.p=(0,0)) (w:∀h∈ps,h.p.length<=100000):
  jn W0 51 [q9i c ia il.length ic pa ps.length pc ka ks.length kc] own fun v own'=>∃M:MQ,(v= .tuple #[ptr M.b,j5 0,j5 0,j5 0]/\M.ok W0 c ps.length (ms0 il O ps.length) [] []/\M.L.map TW.p=ps.map PH.p/\M.L.map TW.x=ps.map fun h=>q3c h.p)/\Ent W0 own' (M.O c ps.length (ms0 il O ps.length) [] own):=by
 refine sH [] ?_;have o:=fun(own':Own) (m:qr own' own)=>qqq (c:=c) (ia:=ia) (il:=il.length) (ic:=ic) (pc:=pc) (kc:=kc) (own:=own') hF hP.up (fun h hh=>(hQ h hh).up) hK.up
 rw[aj] at o;have H:=fun(own':Own) (m:qr own' own)=>qno (W0:=W0) (own:=own') (ic:=ic) hc h0 hb hI.up aw aq au hO ae ay hn
 have K:=fun(own':Own) (t:Nat) (a:j9) (cap:Nat) (p:jg) (q:qw p=(0,0)) (w:p.length<=100000) (ht:t<ps.length) (hR:RdE Ins.enc 5 W0 own' a p)=>qnO (W0:=W0) (own:=own') (t:=t) (n:=ps.length) (cap:=cap) hF hc q ht hn hR w
 dsimp only[Cfg.v,Cfg.cs] at H K;dsimp only[qsM] at o
 repeat'((try conv=>whnf);first|refine fD ?_|refine qf fun bk hbk=>?_|(apply qe;first|refine qd (o _ Yx) ?_|refine qi (H _ Yx) fun mh v hv=>?_;obtain⟨rfl,ax⟩:=hv)|refine fO ?_|refine fA ?_|refine fL ?_|refine fQ ?_|refine fN ?_)
 rename_i b1 hb1;refine qK (σ:=Nat×List TW×j9×Nat×Own) (fun s=> [(40,j5 s.1)]) (fun s=>(bk,fun z=>z=Obj.cells #[ptr mh.mb, .slice s.2.2.1 (s.2.1.map fun y=>y.h.b).length s.2.2.2.1,j7,j7] 132 (0,0))::
   (b1,fun z=>z=Obj.cells #[j5 c.words,j5 c.orecs,j5 c.base,j5 c.c0,j5 c.c1,j5 c.c2,j5 c.c3,j5 c.reads,j5 c.writes,j5 c.allocs,j5 c.frees,j5 c.clock, .bool c.strong, .slice ia il.length ic, .slice pa ps.length pc, .slice ka ks.length kc] 32 (0,0))::
   (mh.O (ms0 il O ps.length)++(s.2.2.2.2++(TsO c ps.length 0 s.2.1++own))))
  (fun s=>s.1<=ps.length/\s.2.1.length=s.1/\qo qrg 139 1 s.2.2.1 s.2.2.2.1 (s.2.1.map fun y=>y.h.b) s.2.2.2.2/\∀(t:Nat) (y:TW),s.2.1[t]? =some y->y.ok W0 c ps.length t/\∃h,ps[t]? =some h/\y.x=q3c h.p/\y.p=h.p) (fun s=>ps.length-s.1) (0,[],none,0,[]) ⟨zv _,rfl,qo.nil,fun _ _ h=>(by simp at h)⟩ (eF) (by dsimp only[TsO];simp only[zk];exact sbE) rfl ?_
 rintro⟨i,L,ta,tc,tD⟩ junk ⟨hi,d,j,g⟩;dsimp only at hi d j g ⊢
 by_cases u:i<ps.length
 ·obtain⟨x,W⟩:∃x,ps[i]? =some x:=⟨_,z6 u⟩
  have I:(i:Int)<ps.length:=Yu;have C:=zg W;have N:=hQ x C;have R:=q x C;have U:=w x C;obtain⟨xa,xc,xp⟩:=x;dsimp only at N R U;have aA:=fun(own':Own) (m:qr own' own)=>K own' i xa xc xp R U u N.up
  have hml:(L.map fun y=>y.h.b).length<=16:=by rw[zi];omega
  repeat'((try conv=>whnf);first|refine fF ?_|refine qf fun be hbe=>?_|apply q0z (enc:=qrg) (T:=139) y.h.b j;exact rfl;exact rfl;omega;exact rfl;exact rfl;omega;intro a5 c5 D5 af|apply gLd;refine q0l hP W rfl ?_|(apply qF;first|refine ixE hP W ?_ ?_;(first|rfl|omega))|(apply qe;first|refine qi (aA _ Yx) fun y v hv=>?_;obtain⟨rfl,aB,aC,hyp⟩:=hv)|refine fB ?_|refine fO ?_|refine fA ?_|refine fQ ?_|refine fN ?_)
  all_goals
   have J:(L.map fun y=>y.h.b)++ [y.h.b]=(L++ [y]).map fun y=>y.h.b:=by rw[zB];rfl
   refine⟨(i+1,L++ [y],a5,c5,D5),⟨u,by dsimp only;rw[z8,d];rfl,by dsimp only;rw[<-J];exact af,fun t z G=>?_⟩,by simp only;omega,(eF),?_⟩
   ·dsimp only at G
    by_cases ht:t<L.length
    ·rw[zG ht] at G;exact g t z G
    ·have az:t=L.length:=by
      have:=(z7.1 G).1;rw[z8,zH] at this;omega
     subst az;rw[zT (zq _),yd] at G;cases G;rw[d];exact⟨aB,_,W,aC,hyp⟩
   ·dsimp only;rw[qb5,d,zA i,<-J,z8];simp only[zd];exact sbE
 ·obtain rfl:i=ps.length:=Yu;have I:¬(ps.length:Int)<ps.length:=Yu
  repeat'((try conv=>whnf);first|refine fG ?_)
  all_goals exact⟨⟨bk,mh,ta,tc,tD,none,0,[],none,0,[],[],[],L⟩,⟨rfl,⟨ax,j.rd,qo.nil,qo.nil,fun _ h=>(by cases h),fun t y V=>(g t y V).1,zq _,rfl⟩,qkE d fun t y V=>by obtain⟨_,h,Y,_,Z⟩:=g t y V;exact⟨h,Y,Z⟩,qkE d fun t y V=>by obtain⟨_,h,Y,Z,_⟩:=g t y V;exact⟨h,Y,Z⟩⟩,by dsimp only[MQ.O];simp only[zk];exact sbE⟩
end
open Go
section
variable{W0:World}{own:Own}{c:Cfg}{t n:Nat}{p:jg}{h:TH}{x:GT}
theorem q8r{a:j9}{l:List StM}{cap:Nat}(g:RdE StM.enc 9 W0 own a l)(hl:l.length<=1000000000):
  jn W0 55 [.slice a l.length cap] own fun v own'=>∃s:j9×Nat×Own,(v= .slice s.1 l.length s.2.1/\qo StM.enc 138 9 s.1 s.2.1 l s.2.2)/\Ent W0 own' (s.2.2++own):=by
 refine sH [] ?_;cases a with
 |none=>
  have j:l= []:=by
   by_cases h:l= []
   ·exact h
   ·have:=g.isS h;cases this
  subst j
  repeat'((try conv=>whnf);first|refine fE ?_)
  exact⟨(none,0,[]),⟨rfl,qo.nil⟩,(eC)⟩
 |some a=>
  repeat'((try conv=>whnf);first|refine fD ?_|refine q5v (enc:=StM.enc) (l:= []) (l2:=l) qo.nil (At.head (D:= []) (r:=_)) g.up rfl rfl Yu (fun _ _=>rfl) (fun _=>by simp;omega) fun a1 c1 D1 d=>?_;rw[zE,zA l.length];apply Stop.h|refine qf fun bk hbk=>?_)
  refine Stop.mk ?_;rw[zk] at d;exact⟨(a1,c1,D1),⟨rfl,d⟩,Ent.of_sub ((zR _ own).append_left D1)⟩
theorem qgT [mm:qy h.b (thP c t n p h x) own]:jo W0 56 [ptr h.b] own (.agg x.th.enc.toArray):=by
 refine qg (sH [] ?_);have q:∀{own':Own} {K:jh->Prop},Ent W0 own' own->K x.th.enc.toArray->LdN W0 own' ⟨h.b,0+32,none⟩ 11 K:=fun he o=>by
  obtain⟨vs,d,g,j⟩:=q2m (W0:=W0) (own:=own) (n:=11) (off:=0+32) (K:=fun v=>v=x.th.enc.toArray) x.th.enc mm.h rfl rfl rfl;subst j;exact⟨_,d,fun w hw=>g w (he w hw),o⟩
 repeat'((try conv=>whnf);first|refine fD ?_|refine q ?_ ?_;exact sbE|refine fL ?_|refine fM ?_|refine qf fun bk hbk=>?_)
 all_goals exact⟨rfl,(eC)⟩
theorem qnP [mm:qy h.b (thP c t n p h x) own] [me:qr own h.oD](u:qo ObM.enc 94 3 h.oa h.oc x.obs h.oD)(hl:x.obs.length<=1000000):jn W0 57 [ptr h.b] own fun v own'=>
  ∃s:j9×Nat×Own,(v= .slice s.1 x.obs.length s.2.1/\qo ObM.enc 94 3 s.1 s.2.1 x.obs s.2.2)/\Ent W0 own' (s.2.2++own):=by
 refine sH [] ?_;have q:Cl W0 own h.b 44 (.slice h.oa x.obs.length h.oc):=qk mm rfl;have g:=q2X (W0:=W0) (own:=own) (cap:=h.oc) ((u.rd (W0:=W0)).up) Yu
 repeat'((try conv=>whnf);first|refine fD ?_|refine q0m q ?_|(apply qe;first|refine qi g fun y v w=>?_;obtain⟨a3,o,j⟩:=y;obtain⟨rfl,d⟩:=w;dsimp only at d))
 all_goals exact⟨(a3,o,j),⟨rfl,d⟩,sbE⟩
end
open Go
structure OB where
 a:j9
 c:Nat
 l:List ObM
 D:Own
abbrev OB.enc(o:OB):jf:= [.slice o.a o.l.length o.c]
abbrev OB.ok(o:OB):Prop:=qo ObM.enc 94 3 o.a o.c o.l o.D
def qhz(l:List OB):Own:=(l.map OB.D).flatten
theorem qfF{l:List OB}{o:OB}:qhz (l++ [o])=qhz l++o.D:=by simp[qhz]
theorem q5s{c:Cfg}{n:Nat}{L:List TW}{t:Nat}{y:TW}(h:L[t]? =some y):(y.h.b,thP c t n y.p y.h y.x)∈TsO c n 0 L:=by
 rw[q4L L 0 t y h,zA];exact zJ _ (zP _ zj)
theorem qll{W0:World}{c:Cfg}{n:Nat}{L:List TW}{t:Nat}{y:TW}(h:L[t]? =some y):Ent W0 (TsO c n 0 L) y.h.oD:=by
 rw[q4L L 0 t y h,zA,ThO];exact Ent.right.trans (Ent.left.trans (Ent.of_sub ((List.sublist_append_left _ _).trans ((ZF _ _).trans ((ZF _ _).trans (zR _ _))))))
structure RS4 where
 cs:jf
 ta:j9
 tc:Nat
 tD:Own
 sa:j9
 sc:Nat
 sD:Own
 ea:j9
 ec:Nat
 oa:j9
 oc:Nat
 oD:Own
 ol:List OB
 da:Own
 el:ji
 eD:Own
 gD:Own
abbrev RS4.O(r:RS4)(Q:Own):Own:=r.tD++(r.sD++(r.oD++(qhz r.ol++(r.da++(r.eD++(r.gD++Q))))))
structure RS4.ok(W0:World)(r:RS4)(L:List TW)(m:MS)(S:List StM)(es:jl):Prop where
 sh:Sh8 r.cs
 dd:DaA W0 r.da m.d (r.cs.getD 0 (.bool false))
 ht:qo Thr.enc 105 11 r.ta r.tc (L.map fun y=>y.x.th) r.tD
 hs:qo StM.enc 138 9 r.sa r.sc S r.sD
 ho:qo OB.enc 92 1 r.oa r.oc r.ol r.oD
 ob:r.ol.map OB.l=L.map fun y=>y.x.obs
 hv:∀o∈r.ol,o.ok
 he:qo EH.enc 100 6 r.ea r.ec r.el r.eD
 ev:∀e∈r.el,RdE qv 1 W0 r.gD e.ra e.rl/\RdE qv 1 W0 r.gD e.wa e.wl
 em:r.el.map EH.m=es
abbrev RS4.vs(r:RS4)(L:List TW)(S:List StM):jf:=r.cs++ [.slice r.ta (L.map fun y=>y.x.th).length r.tc, .slice r.sa S.length r.sc, .slice r.ea r.el.length r.ec, .slice r.oa r.ol.length r.oc]
section
variable{W0:World}{own Q:Own}{c:Cfg}{n:Nat}{M:MQ}{m:MS}{S:List StM}{ev:jl}
theorem q9C(C:M.ok W0 c n m S ev)(hn:M.L.length<=16)(hS:S.length<=1000)(aM:∀y∈M.L,y.x.obs.length<=100000)(Q:Own):jn W0 31 [ptr M.b] (M.O c n m S Q) fun v own'=>
  ∃r:RS4,(v= .agg (r.vs M.L S).toArray/\r.ok W0 M.L m S ev)/\Ent W0 own' (r.O (M.O c n m S Q)):=by
 refine sH [3,5,7,9,13,15,17,1,12,19,1,22,23,26,28,0,26,22,23,28,0,1,19,1,12,1,22,23,26,28,0,26,22,23,28,0,26,12,22,23,28,0,26,1,12,19,22,23,28,0,19,12,22,23,28,0,3,5,7,9,12,14,15,18,0,3,7,1,5,10,12,14,15,18,0,10,5,12,14,15,18,0,3,5,9,1,8,11,15,14,18,19,22,0,11,8,15,14,18,19,22,0] ?_;have aK:∀g,g=2\/g=3\/g=4->0<M.mh.n g:=fun g hg=>by
  rw[<-C.hM.ln g Yu]
  rcases hg with rfl|rfl|rfl <;>exact Nat.zero_lt_one
 have aL:=fun Q=>qjb (W0:=W0) C.hM aK Q
 have aI:=fun(own':Own) (m:qr own' M.sD)=>q8r (W0:=W0) (own:=own') (cap:=M.sc) ((C.hs.rd (W0:=W0)).up) Yu
 have az:=C.ht;have hle:=C.le
 repeat'((try conv=>whnf);first|refine fD ?_|(apply qe;first|refine q5a (D:=M.mh.O m) (aL _) fun cs v H=>?_;obtain⟨cs,I⟩:=cs;obtain⟨rfl,⟨a1,a2,a3,a4,a5,n1,c1,n2,c2,n3,c3,n4,c4,n5,c5,x1,x2,x3,rfl⟩,af⟩:=H;dsimp only at af|refine qi (aI _ Yx) fun y v H=>?_;obtain⟨sa,sc,sD⟩:=y;obtain⟨rfl,hB⟩:=H;dsimp only at hB)|refine fA ?_|refine fM ?_|refine qf fun bk hbk=>?_|refine q1a.mk ?_ ?_)
 all_goals
  rename_i b2 hb2;refine qK (σ:=Nat×(j9×Nat×Own)×(j9×Nat×Own)×List OB) (fun s=> [(27,j5 s.1)]) (fun s=>(b2,fun z=>z=Obj.cells #[j7,j7,j6 0,j6 0,j6 0,j7,j7,j7,j7,j7,j7,j7] 77 (0,0))::
    (bk,fun z=>z=Obj.cells #[.slice a1 n1 c1, .slice a2 n2 c2,uv x1,uv x2,uv x3, .slice a3 n3 c3, .slice a4 n4 c4, .slice a5 n5 c5, .slice s.2.1.1 ((M.L.take s.1).map fun y=>y.x.th).length s.2.1.2.1, .slice sa S.length sc,j7, .slice s.2.2.1.1 s.2.2.2.length s.2.2.1.2.1] 77 (0,0))::
    (sD++(s.2.1.2.2++(s.2.2.1.2.2++(qhz s.2.2.2++(I++M.O c n m S Q))))))
   (fun s=>s.1<=M.L.length/\qo Thr.enc 105 11 s.2.1.1 s.2.1.2.1 ((M.L.take s.1).map fun y=>y.x.th) s.2.1.2.2/\qo OB.enc 92 1 s.2.2.1.1 s.2.2.1.2.1 s.2.2.2 s.2.2.1.2.2/\s.2.2.2.map OB.l=((M.L.take s.1).map fun y=>y.x.obs)/\∀o∈s.2.2.2,o.ok)
   (fun s=>M.L.length-s.1) (0,(none,0,[]),(none,0,[]),[]) ⟨zv _,qo.nil,qo.nil,rfl,fun _ h=>(by cases h)⟩ (eF) (by dsimp only[qhz,List.map_nil,List.flatten_nil];simp only[Z5,Y4,zk,zd];exact sbE) rfl ?_
  rintro⟨i,⟨aC,aE,aB⟩,⟨oa,oc,oD⟩,ol⟩ junk ⟨hi,w,K,u,O⟩;dsimp only at hi w K u O ⊢;have hll:(M.L.map fun y=>y.h.b).length=M.L.length:=zi ..;have aP:((M.L.take i).map fun y=>y.x.th).length=i:=by rw[zi,zQ];omega
  have hol:ol.length=i:=by have:=congrArg List.length u;rw[zi,zi,zQ] at this;omega
  by_cases ax:i<M.L.length
  ·obtain⟨y,R⟩:∃y,M.L[i]? =some y:=⟨_,z6 ax⟩
   have ay:(i:Int)<(M.L.map fun y=>y.h.b).length:=Yu;have hb:=qk0 R;have aQ:=zg R;have aR:=(C.hL i y R).ok;have hyl:=aM y aQ;have hm1:qy y.h.b (thP c i n y.p y.h y.x) (TsO c n 0 M.L):=⟨q5s R⟩
   have hm2:qr (TsO c n 0 M.L) y.h.oD:=⟨fun W=>qll R⟩
   have aO:=fun(own':Own) (mm:qy y.h.b (thP c i n y.p y.h y.x) own')=>qgT (W0:=W0) (own:=own') (c:=c) (t:=i) (n:=n) (p:=y.p) (h:=y.h) (x:=y.x)
   have aN:=fun(own':Own) (mm:qy y.h.b (thP c i n y.p y.h y.x) own') (me:qr own' y.h.oD)=>qnP (W0:=W0) (own:=own') (c:=c) (t:=i) (n:=n) (p:=y.p) (h:=y.h) (x:=y.x) aR.ho Yu
   have G:(M.L.take (i+1)).map (fun y=>y.x.th)=((M.L.take i).map fun y=>y.x.th)++ [y.x.th]:=by rw[zZ,R,zB];rfl
   have aA:(M.L.take (i+1)).map (fun y=>y.x.obs)=((M.L.take i).map fun y=>y.x.obs)++ [y.x.obs]:=by rw[zZ,R,zB];rfl
   repeat'((try conv=>whnf);first|refine fF ?_|refine qf fun be aG=>?_|apply q0z (enc:=Thr.enc) (T:=105) y.x.th w;exact rfl;exact rfl;omega;exact rfl;exact rfl;omega;intro a6 c6 D6 N|apply q0z (enc:=OB.enc) (T:=92) (⟨a8,c8,y.x.obs,D8⟩:OB) K;exact rfl;exact rfl;omega;exact rfl;exact rfl;omega;intro a7 c7 D7 aF|apply gLd;refine q0l az hb rfl ?_|(apply qF;first|refine ixE az hb ?_ ?_;(first|rfl|omega))|(apply qe;first|refine qi (aN _ Yx Yx) fun y v H=>?_;obtain⟨a8,c8,D8⟩:=y;obtain⟨rfl,Y⟩:=H;dsimp only at Y)|apply qC;refine qj (fun ex=>aO _ Yx) ?_|refine fB ?_|refine fA ?_|refine fN ?_|refine q1a.mk ?_ ?_)
   all_goals
    refine⟨(i+1,(a6,c6,D6),(a7,c7,D7),ol++ [⟨a8,c8,y.x.obs,D8⟩]),⟨ax,by dsimp only;rw[G];exact N,aF,by dsimp only;rw[zB,u,aA];rfl,fun o V=>?_⟩,by simp only;omega,(eF),?_⟩
    ·rcases zy.1 V with V|V
     ·exact O o V
     ·rw[zf] at V;subst V;exact Y
    ·dsimp only;rw[G,z8,qfF,z8];simp only[zd];exact sbE
  ·obtain rfl:i=M.L.length:=Yu;have ay:¬(M.L.length:Int)<(M.L.map fun y=>y.h.b).length:=Yu;rw[Z4] at w u aP ⊢
   repeat'((try conv=>whnf);first|refine fG ?_|refine fA ?_)
   refine qK (σ:=Nat×j9×Nat×Own×ji×Own) (fun s=> [(51,j5 s.1)]) (fun s=>(b2,fun z=>z=Obj.cells #[j7,j7,j6 0,j6 0,j6 0,j7,j7,j7,j7,j7,j7,j7] 77 (0,0))::
     (bk,fun z=>z=Obj.cells #[.slice a1 n1 c1, .slice a2 n2 c2,uv x1,uv x2,uv x3, .slice a3 n3 c3, .slice a4 n4 c4, .slice a5 n5 c5, .slice aC (M.L.map fun y=>y.x.th).length aE, .slice sa S.length sc, .slice s.2.1 s.2.2.2.2.1.length s.2.2.1, .slice oa ol.length oc] 77 (0,0))::
     (sD++(aB++(oD++(qhz ol++(I++(s.2.2.2.1++(s.2.2.2.2.2++M.O c n m S Q))))))))
    (fun s=>s.1<=M.el.length/\qo EH.enc 100 6 s.2.1 s.2.2.1 s.2.2.2.2.1 s.2.2.2.1/\s.2.2.2.2.1.map EH.m=(M.el.take s.1).map EH.m/\∀e∈s.2.2.2.2.1,RdE qv 1 W0 s.2.2.2.2.2 e.ra e.rl/\RdE qv 1 W0 s.2.2.2.2.2 e.wa e.wl) (fun s=>M.el.length-s.1) (0,none,0,[],[],[]) ⟨zv _,qo.nil,rfl,fun _ h=>(by cases h)⟩ (eF) (by simp only[zk];exact sbE) rfl ?_
   rintro⟨j,ea,ec,eD,el,gD⟩ junk2 ⟨hj,J,d,q⟩;dsimp only at hj J d q ⊢;have hell:el.length=j:=by have:=congrArg List.length d;rw[zi,zi,zQ] at this;omega
   by_cases au:j<M.el.length
   ·obtain⟨e,he⟩:∃e,M.el[j]? =some e:=⟨_,z6 au⟩
    have aw:(j:Int)<M.el.length:=Yu;have aq:=C.hv e (zg he);have aj:=C.he.rd (W0:=W0);have aH:=fun(own':Own) (mm:qr own' M.gD)=>qL (W0:=W0) (own:=own') (cap:=e.rc) (aq.1.1.up) Yu
    have aJ:=fun(own':Own) (mm:qr own' M.gD)=>qL (W0:=W0) (own:=own') (cap:=e.wc) (aq.1.2.up) Yu
    repeat'((try conv=>whnf);first|refine fF ?_|refine qf fun be aG=>?_|apply q0z (enc:=EH.enc) (T:=100) {e with ra:=ra,rc:=rc,wa:=wa,wc:=wc} J;exact rfl;exact rfl;omega;exact rfl;exact rfl;omega;intro a6 c6 D6 N|(apply qF;first|refine ixE aj he ?_ ?_;(first|rfl|omega))|apply q24;refine q0C aj he rfl ?_|(apply qe;first|refine qi (aH _ Yx) fun y v H=>?_;obtain⟨ra,rc,rD⟩:=y;obtain⟨rfl,Z⟩:=H;dsimp only at Z|refine qi (aJ _ Yx) fun y v H=>?_;obtain⟨wa,wc,wD⟩:=y;obtain⟨rfl,ae⟩:=H;dsimp only at ae)|refine fB ?_|refine fA ?_|refine fL ?_|refine fN ?_|refine fM ?_|refine q1a.mk ?_ ?_)
    all_goals
     have G:M.el.take (j+1)=M.el.take j++ [e]:=by rw[zZ,he];rfl
     refine⟨(j+1,a6,c6,D6,el++ [{e with ra:=ra,rc:=rc,wa:=wa,wc:=wc}],rD++(wD++gD)),⟨au,N,by dsimp only;rw[zB,d,G,zB];rfl,fun z U=>?_⟩,by simp only;omega,(eF),by dsimp only;rw[z8];simp only[zd];exact sbE⟩
     rcases zy.1 U with U|U
     ·exact⟨(q z U).1.ent (Ent.right.trans Ent.right),(q z U).2.ent (Ent.right.trans Ent.right)⟩
     ·rw[zf] at U;subst U;exact⟨(Z.rd (W0:=W0)).ent Ent.left,(ae.rd (W0:=W0)).ent (Ent.right.trans Ent.left)⟩
   ·obtain rfl:j=M.el.length:=Yu;have aw:¬(M.el.length:Int)<M.el.length:=Yu
    repeat'((try conv=>whnf);first|refine fG ?_|refine fL ?_|refine fM ?_)
    all_goals exact⟨⟨[.slice a1 n1 c1, .slice a2 n2 c2,uv x1,uv x2,uv x3, .slice a3 n3 c3, .slice a4 n4 c4, .slice a5 n5 c5],aC,aE,aB,sa,sc,sD,ea,ec,oa,oc,oD,ol,I,el,eD,gD⟩,⟨rfl,⟨⟨_,_,_,_,_,_,_,_,_,_,_,_,_,_,_,_,_,_,rfl⟩,af,w,hB,K,u,O,J,q,by rw[d,Z4];exact C.em⟩⟩,by unfold RS4.O;exact sbE⟩
end
open Go
structure StG(c:Cfg)(ps:List (jg))(n:Nat)(r:RM)(t:Nat):Prop where
 go:∀x p,r.xs[t]? =some x->ps[t]? =some p->x.th.dn=false->GoC c p/\∃i,GoT c p n t r.m x i
 S:r.S.length<=1000
theorem MQ.b_eq{M:MQ}{b:Nat}(e:M.b=b):∃d:MQ,M={d with b:=b}:=⟨M,by cases M;cases e;rfl⟩
structure MK(W0:World)(c:Cfg)(n:Nat)(ps:List (jg))(M:MQ)(r:RM):Prop where
 ok:M.ok W0 c n r.m r.S r.E
 x:M.L.map TW.x=r.xs
 p:M.L.map TW.p=ps
def KpT(M d:MQ)(t:Nat):Prop:=∀y,M.L[t]? =some y->∃y',d.L[t]? =some y'/\y'.h.b=y.h.b/\(y.h.ap≠ .pointer none->y'.x.at'≠none->y'.h.ap=y.h.ap)
section
variable{W0:World}{own:Own}{c:Cfg}{n:Nat}{ps:List (jg)}{M:MQ}{r:RM}{t:Nat}
theorem MK.at(d:MK W0 c n ps M r)(ht:t<ps.length):∃y,M.L[t]? =some y/\r.xs[t]? =some y.x/\ps[t]? =some y.p:=by
 have g:t<M.L.length:=by have:=congrArg List.length d.p;rw[zi] at this;omega
 refine⟨_,z6 g,?_,?_⟩
 ·rw[<-d.x,zI,z6 g];rfl
 ·rw[<-d.p,zI,z6 g];rfl
theorem MK.len(d:MK W0 c n ps M r):M.L.length=ps.length:=by rw[<-d.p,zi]
theorem qcr(Y:qz W0)(d:MK W0 c n ps M r)(ht:t<ps.length)(hn:ps.length<=16)(N:StG c ps n r t)(Q:Own):jn W0 52 [ptr M.b,j5 t] (M.O c n r.m r.S Q) fun v own'=>
  ∃g:MQ,(v= .bool (goM r t)/\g.b=M.b/\MK W0 c n ps g (q0E c ps n r t)/\KpT M g t)/\Ent W0 own' (g.O c n (q0E c ps n r t).m (q0E c ps n r t).S Q):=by
 obtain⟨y,K,J,H⟩:=d.at ht;have hl:=d.len;have C:goM r t= !y.x.th.dn:=by unfold goM;rw[J]
 unfold q0E;simp only[J,H,C];cases hd:y.x.th.dn with
 |true=>
  have q:=qjl (W0:=W0) (n:=n) d.ok K hd Yu Q;rw[if_pos rfl];intro w hw;refine(q w hw).mono ?_;rintro e w' ⟨v,own',he,I,_,rfl,u⟩;exact⟨_,own',he,I,M,⟨rfl,rfl,d,fun z o=>⟨z,o,rfl,fun _ _=>rfl⟩⟩,u⟩
 |false=>
  obtain⟨Z,i,hT⟩:=N.go _ _ J H hd;have q:=qjm (W0:=W0) (n:=n) Y Z d.ok K hT Yu N.S Q;rw[if_neg Yv];intro w hw;refine(q w hw).mono ?_;rintro e w' ⟨v,own',he,I,g,⟨rfl,O,R,y',T,U,V,W,s⟩,u⟩;have G:t<M.L.length:=Yu;refine⟨_,own',he,I,g,⟨rfl,O,⟨R,?_,?_⟩,fun z o=>?_⟩,u⟩
  ·rw[s,Yn,d.x,T]
  ·rw[s,Yn,d.p,U];refine Zm fun j=>?_
   rw[zx]
   split
   ·rename_i e;subst e;exact H.symm
   ·rfl
  ·rw[K] at o;cases o;exact⟨y',by rw[s,zx,if_pos rfl,if_pos G],V,W⟩
theorem qsG{ia pa ka:j9}{il ks:je}{ic pc kc O:Nat}{ps:jk}(N:qz W0)(j:csM c il.length ps ks=(0,0,0))(Y:qG c=0)(C:c.c0=0/\c.c1=0/\c.c2=0/\c.c3=0)(hb:qT c=0)(R:RdE q05 1 W0 own ia il)(s:(il.length:Int)=c.words)(o:il≠ [])(q:il.length<=1000)(U:c.orecs=(O:Int))(d:O<=1000)
  (V:RdE PH.enc 1 W0 own pa ps) (W:∀h∈ps,RdE Ins.enc 5 W0 own h.a h.p) (T:RdE qv 1 W0 own ka ks) (u:1<=ps.length) (Z:ps.length<=16) (g:∀h∈ps,qw h.p=(0,0)) (z:∀h∈ps,h.p.length<=100000):
  jn W0 51 [q9i c ia il.length ic pa ps.length pc ka ks.length kc] own fun v own'=>∃M:MQ,(v= .tuple #[ptr M.b,j5 0,j5 0,j5 0]/\MK W0 c ps.length (ps.map PH.p) M ⟨ms0 il O ps.length,ps.map fun h=>q3c h.p,[],[]⟩)/\Ent W0 own' (M.O c ps.length (ms0 il O ps.length) [] own):=by
 have G:=qnu (W0:=W0) (own:=own) (c:=c) (ic:=ic) (pc:=pc) (kc:=kc) N j Y C hb R s o q U d V W T u Z g z;intro w hw;refine(G w hw).mono ?_;rintro e w' ⟨v,own',he,hs,M,⟨rfl,H,I,J⟩,K⟩;exact⟨_,own',he,hs,M,⟨rfl,H,J,I⟩,K⟩
theorem ql3{ia pa ka:j9}{il ks:je}{ic pc kc O:Nat}{ps:jk}{l:jj}(hF:qz W0)(aj:csM c il.length ps ks=(0,0,0))(hc:qG c=0)(h0:c.c0=0/\c.c1=0/\c.c2=0/\c.c3=0)(hb:qT c=0)(hI:RdE q05 1 W0 own ia il)(aw:(il.length:Int)=c.words)(aq:il≠ [])(au:il.length<=1000)(hO:c.orecs=(O:Int))(ae:O<=1000)
  (hP:RdE PH.enc 1 W0 own pa ps) (hQ:∀h∈ps,RdE Ins.enc 5 W0 own h.a h.p) (Y:RdE qv 1 W0 own ka ks) (ay:1<=ps.length) (hn:ps.length<=16) (af:∀h∈ps,qw h.p=(0,0)) (az:∀h∈ps,h.p.length<=100000)
  (G:ks=l.map fun t=>((t:Nat):Int)) (hkb:l.length<=1000) (ax:∀t∈l,t<ps.length) (hg:∀k t,l[k]? =some t->StG c (ps.map PH.p) ps.length (q16 c il O (ps.map PH.p) (l.take k)) t) (hS:(q16 c il O (ps.map PH.p) l).S.length<=1000) (J:∀x∈(q16 c il O (ps.map PH.p) l).xs,x.obs.length<=100000):
  jn W0 26 [q9i c ia il.length ic pa ps.length pc ka ks.length kc] own fun v own'=>
   ∃y:RS4×List TW,(v= .tuple #[.agg (y.1.vs y.2 (q16 c il O (ps.map PH.p) l).S).toArray,j5 0,j5 0,j5 0]/\y.1.ok W0 y.2 (q16 c il O (ps.map PH.p) l).m (q16 c il O (ps.map PH.p) l).S (q16 c il O (ps.map PH.p) l).E/\y.2.map TW.x=(q16 c il O (ps.map PH.p) l).xs)/\Ent W0 own' (y.1.O own):=by
 refine sH [] ?_;have j:=fun(own':Own) (m:qr own' own)=>qsG (W0:=W0) (own:=own') (c:=c) (ic:=ic) (pc:=pc) (kc:=kc) hF aj hc h0 hb hI.up aw aq au hO ae hP.up (fun h hh=>(hQ h hh).up) Y.up ay hn af az
 have N:q16 c il O (ps.map PH.p) []=⟨ms0 il O ps.length,ps.map fun h=>q3c h.p,[],[]⟩:=by
  show(⟨ms0 il O (ps.map PH.p).length,(ps.map PH.p).map q3c,[],[]⟩:RM)=_;rw[zi,ya];rfl
 have hlen:(ps.map PH.p).length=ps.length:=zi ..;have o:∀k t,l[k]? =some t->q16 c il O (ps.map PH.p) (l.take (k+1))=q0E c (ps.map PH.p) ps.length (q16 c il O (ps.map PH.p) (l.take k)) t:=fun k t u=>by
  rw[zZ,u];show qiU _ _ _ _ _=_;rw[show(some t).toList= [t] from rfl,q65];show q0E _ _ (ps.map PH.p).length _ _=_
  congr 1
 generalize hR:(fun k=>q16 c il O (ps.map PH.p) (l.take k))=R;have d:∀k,q16 c il O (ps.map PH.p) (l.take k)=R k:=fun k=>congrFun hR k
 have w:q16 c il O (ps.map PH.p) l=R l.length:=by rw[<-d,Z4]
 rw[w] at hS J ⊢;simp only[d] at hg o;have g:R 0=⟨ms0 il O ps.length,ps.map fun h=>q3c h.p,[],[]⟩:=by rw[<-d,Yp];exact N
 rw[<-g] at j;have hkl2:ks.length=l.length:=by rw[G,zi]
 rw[show ms0 il O ps.length=(R 0).m by rw[g]] at j;rw[show([]:List StM)=(R 0).S by rw[g]] at j;clear N hR d w g
 repeat'((try conv=>whnf);first|refine fD ?_|refine qf fun bk hbk=>?_|(apply qe;first|refine qi (j _ Yx) fun M v T=>?_;obtain⟨rfl,Z⟩:=T)|refine fO ?_|refine fA ?_|refine fL ?_)
 refine qK (σ:=Nat×MQ) (fun s=> [(25,j5 s.1)]) (fun s=>(bk,fun z=>z=Obj.cells #[j7,j7,j6 0,j6 0,j6 0,j7,j7,j7,j7,j7,j7,j7] 77 (0,0))::s.2.O c ps.length (R s.1).m (R s.1).S own)
  (fun s=>s.1<=l.length/\s.2.b=M.b/\MK W0 c ps.length (ps.map PH.p) s.2 (R s.1)) (fun s=>l.length-s.1) (0,M)
  ⟨zv _,rfl,Z⟩ (eF) sbE rfl ?_
 rintro⟨i,M1⟩ junk ⟨hi,C,u⟩;dsimp only at hi C u ⊢;obtain⟨M2,rfl⟩:=MQ.b_eq C;have hln:M2.L.length=ps.length:=by have:=u.len;rw[hlen] at this;exact this
 by_cases H:i<l.length
 ·obtain⟨t,U⟩:∃t,l[i]? =some t:=⟨_,z6 H⟩
  have hz:ks[i]? =some ((t:Nat):Int):=by rw[G,zI,U];rfl
  have I:(i:Int)<ks.length:=Yu;have aB:=ax t (zg U);have K:=fun Q=>qcr (W0:=W0) (n:=ps.length) hF u (by rw[hlen];exact aB) (by rw[hlen];exact hn) (hg i t U) Q
  rw[<-o i t U] at K
  repeat'((try conv=>whnf);first|refine fF ?_|apply gLd;refine q0l Y hz rfl ?_|(apply qF;first|refine ixE Y hz ?_ ?_;(first|rfl|omega))|(apply qe;first|refine qx (b:=M.b) (D:=M2.mh.O (R i).m++(M2.tD++(M2.sD++(M2.eD++(M2.gD++(TsO c ps.length 0 M2.L++ [])))))) K (fun Q=>sbE) fun M3 v T=>?_;obtain⟨rfl,V,W, -⟩:=T)|refine fB ?_)
  all_goals exact⟨(i+1,M3),⟨H,V,W⟩,by simp only;omega,(eF),sbE⟩
 ·obtain rfl:i=l.length:=Yu;have I:¬(l.length:Int)<ks.length:=Yu;have o:=fun Q=>q9C (W0:=W0) (n:=ps.length) u.ok (by dsimp only;omega) hS (fun y hy=>J y.x (by rw[<-u.x];exact zM.2 ⟨y,hy,rfl⟩)) Q
  repeat'((try conv=>whnf);first|refine fG ?_|(apply qe;first|refine qx (b:=M.b) (D:=M2.mh.O (R l.length).m++(M2.tD++(M2.sD++(M2.eD++(M2.gD++(TsO c ps.length 0 M2.L++ [])))))) o (fun Q=>sbE) fun r v T=>?_;(obtain⟨rfl,hr⟩:=T;obtain⟨cs,ta,tc,tD,sa,sc,sD,ea,ec,oa,oc,oD,ol,da,el,eD,gD⟩:=r;have aA:=hr.sh;obtain⟨a1,a2,a3,a4,a5,n1,c1,n2,c2,n3,c3,n4,c4,n5,c5,x1,x2,x3,q⟩:=aA;dsimp only at q;subst q))|refine fL ?_|refine fM ?_)
  all_goals exact⟨(⟨_,ta,tc,tD,sa,sc,sD,ea,ec,oa,oc,oD,ol,da,el,eD,gD⟩,M2.L),⟨rfl,hr,u.x⟩,sbE⟩
end
end Go.Proofs.YtikpjajangpdjaaGreatDoor
