/- What the laws share, part 18. No condition. -/
import Derived.Test.YtfnghamklcdgnaaGreatDoorQ17
set_option maxHeartbeats 16000000
set_option maxRecDepth 10000
namespace Go.Proofs.YtfnghamklcdgnaaGreatDoor
open Go
structure StG(c:Cfg)(ps:List (jf))(n:Nat)(r:RM)(t:Nat):Prop where
 go:∀x p,r.xs[t]? =some x->ps[t]? =some p->x.th.dn=false->GoC c p/\∃i,GoT c p n t r.m x i
 S:r.S.length<=1000
theorem MQ.b_eq{M:MQ}{b:Nat}(e:M.b=b):∃d:MQ,M={d with b:=b}:=⟨M,by cases M;cases e;rfl⟩
structure MK(W0:World)(c:Cfg)(n:Nat)(ps:List (jf))(M:MQ)(r:RM):Prop where
 ok:M.ok W0 c n r.m r.S r.E
 x:M.L.map TW.x=r.xs
 p:M.L.map TW.p=ps
def KpT(c:Cfg)(m:MS)(M d:MQ)(t:Nat):Prop:=∀y,M.L[t]? =some y->∃y',d.L[t]? =some y'/\y'.h.b=y.h.b/\(y.h.ap≠ .pointer none->y'.x.at'≠none->y'.h.ap=y.h.ap)/\
 ∀b0:Nat,y.h.ap=ptr b0->y'.x.at'=none->∃(ah:AH) (a:AT) (k:Int),(b0,atP c t ah a k)∈y'.A/\∀i,y.p[y.x.th.pc]? =some i->a.code=y.x.codZ c t m i
section
variable{W0:World}{own:Own}{c:Cfg}{n:Nat}{ps:List (jf)}{M:MQ}{r:RM}{t:Nat}
theorem MK.at(d:MK W0 c n ps M r)(ht:t<ps.length):∃y,M.L[t]? =some y/\r.xs[t]? =some y.x/\ps[t]? =some y.p:=by
 have f:t<M.L.length:=by have:=congrArg List.length d.p;rw[zi] at this;omega
 refine⟨_,z6 f,?_,?_⟩
 ·rw[<-d.x,zI,z6 f];rfl
 ·rw[<-d.p,zI,z6 f];rfl
theorem MK.len(d:MK W0 c n ps M r):M.L.length=ps.length:=by rw[<-d.p,zi]
theorem qaO(hF:qE W0)(d:MK W0 c n ps M r)(ht:t<ps.length)(hn:ps.length<=16)(Y:StG c ps n r t)(Q:Own):jk W0 25 [ptr M.b,j4 t] (M.O c n r.m r.S Q) fun v own'=>
  ∃f:MQ,(v= .bool (goM r t)/\f.b=M.b/\MK W0 c n ps f (q1j c ps n r t)/\KpT c r.m M f t)/\Ent W0 own' (f.O c n (q1j c ps n r t).m (q1j c ps n r t).S Q):=by
 obtain⟨y,U,R,N⟩:=d.at ht;have hl:=d.len;have I:goM r t= !y.x.th.dn:=by unfold goM;rw[R]
 unfold q1j;simp only[R,N,I];cases hd:y.x.th.dn with
 |true=>
  have C:=qgy (W0:=W0) (n:=n) d.ok U hd Yb Q;rw[if_pos rfl];intro w hw;refine(C w hw).mono ?_;rintro e w' ⟨v,own',he,P,_,rfl,G⟩;exact⟨_,own',he,P,M,⟨rfl,rfl,d,fun z o=>⟨z,o,rfl,fun _ _=>rfl,fun b0 s A=>by
   have h:=(d.ok.hL t z o).at';unfold AtO at h;rw[A] at h;rw[show z.h.ap= .pointer none from h] at s;cases s⟩⟩,G⟩
 |false=>
  obtain⟨hG,i,W⟩:=Y.go _ _ R N hd;have C:=qgz (W0:=W0) (n:=n) hF hG d.ok U W Yb Y.S Q;rw[if_neg Yc];intro w hw;refine(C w hw).mono ?_;rintro e w' ⟨v,own',he,P,f,⟨rfl,h1,h2,y',h3,h4,h5,h6,K,F⟩,G⟩;have J:t<M.L.length:=Yb;refine⟨_,own',he,P,f,⟨rfl,h1,⟨h2,?_,?_⟩,fun z o=>?_⟩,G⟩
  ·rw[F,Y6,d.x,h3]
  ·rw[F,Y6,d.p,h4];refine Z8 fun j=>?_
   rw[zx]
   split
   ·rename_i e;subst e;exact N.symm
   ·rfl
  ·rw[U] at o;cases o;refine⟨y',by rw[F,zx,if_pos rfl,if_pos J],h5,h6,fun b0 s A=>?_⟩;obtain⟨ah,a,k,g1,g2⟩:=K b0 s A;refine⟨ah,a,k,g1,fun j Z=>?_⟩;rw[W.hi] at Z;cases Z;exact g2
theorem qoB{ia pa ka:j8}{il ks:jd}{ic pc kc O:Nat}{ps:ji}(N:qE W0)(j:csM c il.length ps ks=(0,0,0))(Y:qI c=0)(P:RdE q06 1 W0 own ia il)(z:(il.length:Int)=c.words)(o:il≠ [])(s:il.length<=1000)(R:c.orecs=(O:Int))(d:O<=1000)
  (U:RdE PH.enc 1 W0 own pa ps) (W:∀h∈ps,RdE Ins.enc 5 W0 own h.a h.p) (Q:RdE qw 1 W0 own ka ks) (A:1<=ps.length) (Z:ps.length<=16) (f:∀h∈ps,qB h.p=(0,0)) (C:∀h∈ps,h.p.length<=100000):
  jk W0 24 [q9e c ia il.length ic pa ps.length pc ka ks.length kc] own fun v own'=>∃M:MQ,(v= .tuple #[ptr M.b,j4 0,j4 0,j4 0]/\MK W0 c ps.length (ps.map PH.p) M ⟨ms0 c il O ps.length,ps.map fun h=>q3f h.p,[],[]⟩)/\Ent W0 own' (M.O c ps.length (ms0 c il O ps.length) [] own):=by
 have F:=qjX (W0:=W0) (own:=own) (c:=c) (ic:=ic) (pc:=pc) (kc:=kc) N j Y P z o s R d U W Q A Z f C;intro w hw;refine(F w hw).mono ?_;rintro e w' ⟨v,own',he,hs,M,⟨rfl,G,I,J⟩,K⟩;exact⟨_,own',he,hs,M,⟨rfl,G,J,I⟩,K⟩
theorem qid{ia pa ka:j8}{il ks:jd}{ic pc kc O:Nat}{ps:ji}{l:jh}(hF:qE W0)(aq:csM c il.length ps ks=(0,0,0))(hc:qI c=0)(hI:RdE q06 1 W0 own ia il)(aw:(il.length:Int)=c.words)(au:il≠ [])(av:il.length<=1000)(hO:c.orecs=(O:Int))(af:O<=1000)
  (hP:RdE PH.enc 1 W0 own pa ps) (hQ:∀h∈ps,RdE Ins.enc 5 W0 own h.a h.p) (hK:RdE qw 1 W0 own ka ks) (az:1<=ps.length) (hn:ps.length<=16) (aj:∀h∈ps,qB h.p=(0,0)) (aA:∀h∈ps,h.p.length<=100000)
  (G:ks=l.map fun t=>((t:Nat):Int)) (hkb:l.length<=1000) (ay:∀t∈l,t<ps.length) (hg:∀k t,l[k]? =some t->StG c (ps.map PH.p) ps.length (q0Y c il O (ps.map PH.p) (l.take k)) t) (hS:(q0Y c il O (ps.map PH.p) l).S.length<=1000) (K:∀x∈(q0Y c il O (ps.map PH.p) l).xs,x.obs.length<=100000):
  jk W0 12 [q9e c ia il.length ic pa ps.length pc ka ks.length kc] own fun v own'=>
   ∃y:RS4×List TW,(v= .tuple #[.agg (y.1.vs y.2 (q0Y c il O (ps.map PH.p) l).S).toArray,j4 0,j4 0,j4 0]/\y.1.ok W0 y.2 (q0Y c il O (ps.map PH.p) l).m (q0Y c il O (ps.map PH.p) l).S (q0Y c il O (ps.map PH.p) l).E/\y.2.map TW.x=(q0Y c il O (ps.map PH.p) l).xs)/\Ent W0 own' (y.1.O own):=by
 refine sH [] ?_;have j:=fun(own':Own) (m:qx own' own)=>qoB (W0:=W0) (own:=own') (c:=c) (ic:=ic) (pc:=pc) (kc:=kc) hF aq hc hI.up aw au av hO af hP.up (fun h hh=>(hQ h hh).up) hK.up az hn aj aA
 have P:q0Y c il O (ps.map PH.p) []=⟨ms0 c il O ps.length,ps.map fun h=>q3f h.p,[],[]⟩:=by
  show(⟨ms0 c il O (ps.map PH.p).length,(ps.map PH.p).map q3f,[],[]⟩:RM)=_;rw[zi,ZV];rfl
 have hlen:(ps.map PH.p).length=ps.length:=zi ..;have o:∀k t,l[k]? =some t->q0Y c il O (ps.map PH.p) (l.take (k+1))=q1j c (ps.map PH.p) ps.length (q0Y c il O (ps.map PH.p) (l.take k)) t:=fun k t A=>by
  rw[zY,A];show qg7 _ _ _ _ _=_;rw[show(some t).toList= [t] from rfl,q5i];show q1j _ _ (ps.map PH.p).length _ _=_
  congr 1
 generalize hR:(fun k=>q0Y c il O (ps.map PH.p) (l.take k))=R;have d:∀k,q0Y c il O (ps.map PH.p) (l.take k)=R k:=fun k=>congrFun hR k
 have C:q0Y c il O (ps.map PH.p) l=R l.length:=by rw[<-d,Z3]
 rw[C] at hS K ⊢;simp only[d] at hg o;have f:R 0=⟨ms0 c il O ps.length,ps.map fun h=>q3f h.p,[],[]⟩:=by rw[<-d,yT];exact P
 rw[<-f] at j;have hkl2:ks.length=l.length:=by rw[G,zi]
 rw[show ms0 c il O ps.length=(R 0).m by rw[f]] at j;rw[show([]:List StM)=(R 0).S by rw[f]] at j;clear P hR d C f
 repeat'((try conv=>whnf);first|refine fD ?_|refine qg fun bk hbk=>?_|(apply qe;first|refine qk (j _ Ye) fun M v U=>?_;obtain⟨rfl,ae⟩:=U)|refine fO ?_|refine fA ?_|refine fL ?_)
 refine qQ (σ:=Nat×MQ) (fun s=> [(25,j4 s.1)]) (fun s=>(bk,fun z=>z=Obj.cells #[j6,j6,j5 0,j5 0,j5 0,j6,j6,j6,j6,j6,j6,j6] 53 (0,0))::s.2.O c ps.length (R s.1).m (R s.1).S own)
  (fun s=>s.1<=l.length/\s.2.b=M.b/\MK W0 c ps.length (ps.map PH.p) s.2 (R s.1)) (fun s=>l.length-s.1) (0,M)
  ⟨zl _,rfl,ae⟩ (eF) sbE rfl ?_
 rintro⟨i,M1⟩ junk ⟨hi,F,A⟩;dsimp only at hi F A ⊢;obtain⟨M2,rfl⟩:=MQ.b_eq F;have hln:M2.L.length=ps.length:=by have:=A.len;rw[hlen] at this;exact this
 by_cases I:i<l.length
 ·obtain⟨t,W⟩:∃t,l[i]? =some t:=⟨_,z6 I⟩
  have hz:ks[i]? =some ((t:Nat):Int):=by rw[G,zI,W];rfl
  have J:(i:Int)<ks.length:=Yb;have aC:=ay t (zh W);have N:=fun Q=>qaO (W0:=W0) (n:=ps.length) hF A (by rw[hlen];exact aC) (by rw[hlen];exact hn) (hg i t W) Q
  rw[<-o i t W] at N
  repeat'((try conv=>whnf);first|refine fF ?_|apply gLd;refine q0n hK hz rfl ?_|(apply qL;first|refine ixE hK hz ?_ ?_;(first|rfl|omega))|(apply qe;first|refine qn (b:=M.b) (D:=M2.mh.O (R i).m++(M2.tD++(M2.sD++(M2.eD++(M2.gD++(TsO c ps.length 0 M2.L++ [])))))) N (fun Q=>sbE) fun M3 v U=>?_;obtain⟨rfl,Y,Z, -⟩:=U)|refine fB ?_)
  all_goals exact⟨(i+1,M3),⟨I,Y,Z⟩,by simp only;omega,(eF),sbE⟩
 ·obtain rfl:i=l.length:=Yb;have J:¬(l.length:Int)<ks.length:=Yb;have o:=fun Q=>q8c (W0:=W0) (n:=ps.length) A.ok (by dsimp only;omega) hS (fun y hy=>K y.x (by rw[<-A.x];exact zO.2 ⟨y,hy,rfl⟩)) Q
  repeat'((try conv=>whnf);first|refine fG ?_|(apply qe;first|refine qn (b:=M.b) (D:=M2.mh.O (R l.length).m++(M2.tD++(M2.sD++(M2.eD++(M2.gD++(TsO c ps.length 0 M2.L++ [])))))) o (fun Q=>sbE) fun r v U=>?_;(obtain⟨rfl,hr⟩:=U;obtain⟨cs,ta,tc,tD,sa,sc,sD,ea,ec,oa,oc,oD,ol,da,el,eD,gD⟩:=r;have aB:=hr.sh;obtain⟨a1,a2,a3,a4,a5,n1,c1,n2,c2,n3,c3,n4,c4,n5,c5,x1,x2,x3,w⟩:=aB;dsimp only at w;subst w))|refine fL ?_|refine fM ?_)
  all_goals exact⟨(⟨_,ta,tc,tD,sa,sc,sD,ea,ec,oa,oc,oD,ol,da,el,eD,gD⟩,M2.L),⟨rfl,hr,A.x⟩,sbE⟩
end
open Go
def AP.fst:AP->Bool
 | .loc _=>true
 | .ent n=>decide (n=0)
 | .rd n _ _=>decide (n=0)
 | .pp n _ _ _=>decide (n=0)
 |_=>false
theorem qmR{c:Cfg}{t:Int}{m:MS}{x:AT}(h:x.ph.fst=true):(qf c t m x).2.2.2≠16/\(qf c t m x).2.2.2≠24:=by
 unfold qf;unfold AP.fst at h;cases e:x.ph <;>rw[e] at h <;>dsimp only at h
 case loc=>exact⟨by show(0:Int)≠16;decide,by show(0:Int)≠24;decide⟩
 case ent=>dsimp only;rw[if_pos (of_decide_eq_true h)];exact⟨by show(2:Int)≠16;decide,by show(2:Int)≠24;decide⟩
 case rd=>dsimp only;rw[if_pos (of_decide_eq_true h)];exact⟨by show(5:Int)≠16;decide,by show(5:Int)≠24;decide⟩
 case pp=>dsimp only;rw[if_pos (of_decide_eq_true h)];exact⟨by show(8:Int)≠16;decide,by show(8:Int)≠24;decide⟩
 all_goals cases h
theorem qjB{c:Cfg}{rg:Rg}{a:AT}{i:Ins}:(q11 c rg a i).ph.fst=true:=by
 unfold q11 AT.read AT.alloc AT.free
 (repeat' split) <;>rfl
theorem qiz{c:Cfg}{x:GT}{a:AT}{i:Ins}:(q1i c x a i).ph.fst=true:=by
 unfold q1i AT.read
 (repeat' split) <;>rfl
theorem qb1{c:Cfg}{p:jf}{n:Nat}{t:Int}{m:MS}{x:GT}(h:(qY c p n t m x).2.2.1.ph=16\/(qY c p n t m x).2.2.1.ph=24):∃a i,x.at'=some a/\p[x.th.pc]? =some i/\a.busy=true/\qY c p n t m x=q0A c p t m x a i:=by
 have o:∀(y:GT) (a:AT) i,a.ph.fst=true->¬((q0A c p t m y a i).2.2.1.ph=16\/(q0A c p t m y a i).2.2.1.ph=24):=fun y a i h e=>by
  obtain⟨C,F⟩:=qmR (c:=c) (t:=t) (m:=m) h;exact e.elim C F
 have s:¬((0:Int)=16\/(0:Int)=24):=Yc;have hw:∀f,¬((qM c n p t m x f).2.2.1.ph=16\/(qM c n p t m x f).2.2.1.ph=24):=fun f=>by
  unfold qM;cases f.dr with
  |none=>
   dsimp only;unfold q1c
   split
   ·dsimp only;omega
   ·dsimp only;omega
  |some z=>
   obtain⟨l,q,v⟩:=z;have d:(q0p c m q (l.headD 0) v).2.2.2≠16/\(q0p c m q (l.headD 0) v).2.2.2≠24:=by
    unfold q0p
    (repeat' split) <;>exact⟨by dsimp only;omega,by dsimp only;omega⟩
   dsimp only
   revert d
   generalize q0p c m q (l.headD 0) v=q;obtain⟨m',z,ac,ph⟩:=q;intro d e;cases z with
   |none=>exact e.elim d.1 d.2
   |some z=>exact e.elim d.1 d.2
 have he:∀i,¬((q2l c p n t m x i).2.2.1.ph=16\/(q2l c p n t m x i).2.2.1.ph=24):=fun i=>by
  unfold q2l
  split
  ·unfold q0c
   split
   ·exact s
   ·exact o _ _ _ rfl
  ·split
   ·exact hw _
   ·unfold q1m
    split
    ·exact o _ _ _ rfl
    ·split
     ·split
      ·exact o _ _ _ qjB
      ·exact s
     ·exact s
 unfold qY at h ⊢;cases A:p[x.th.pc]? with
 |none=>rw[A] at h;exact absurd h s
 |some i=>
  rw[A] at h;dsimp only at h ⊢;cases w:x.fn with
  |some f=>rw[w] at h;exact absurd h (hw f)
  |none=>
   rw[w] at h;dsimp only at h ⊢;cases j:x.at' with
   |none=>rw[j] at h;exact absurd h (he i)
   |some a=>
    rw[j] at h;dsimp only at h ⊢;cases hb:a.busy with
    |true=>exact⟨a,i,rfl,rfl,hb,by rw[if_pos rfl]⟩
    |false=>
     rw[hb,if_neg Yc] at h
     split at h
     ·exact absurd h (o _ _ _ qiz)
     ·exact absurd h (he i)
theorem qhh{c:Cfg}{p:jf}{n:Nat}{t:Int}{m:MS}{x:GT}(h:(qY c p n t m x).2.2.1.ph=16):(∃a,x.at'=some a)/\∃f,(qY c p n t m x).2.1.at'=some f:=by
 obtain⟨a,i,j,hi,hb,e⟩:=qb1 (.inl h);rw[e] at h ⊢;refine⟨⟨a,j⟩,?_⟩;have d:=q8o (c:=c) (t:=t) (m:=m) (x:=a) (.inr h);unfold q0A;dsimp only;rw[if_pos d];exact⟨_,rfl⟩
theorem ql8{p:jf}{x:GT}{a:AT}{i:Ins}(h:a.st=2):(x.ans p a i).at'=none:=by
 unfold GT.ans GT.endS GT.accG GT.endG;rw[if_pos h];dsimp only
 (repeat' split) <;>rfl
theorem qhi{c:Cfg}{p:jf}{n:Nat}{t:Int}{m:MS}{x:GT}(h:(qY c p n t m x).2.2.1.ph=24):∃a i,x.at'=some a/\p[x.th.pc]? =some i/\(qY c p n t m x).2.1.at'=none/\x.codZ c t m i=x.cod:=by
 obtain⟨a,i,w,hi,hb,e⟩:=qb1 (.inr h);rw[e] at h ⊢;have o:a.ph= .lv:=by
  have d:(qf c t m a).2.2.2=24:=h;unfold qf at d;cases A:a.ph <;>rw[A] at d
  case ph j b v=>
   exfalso;have s:(q0p c m j b v).2.2.2≠24:=by unfold q0p;(repeat' split) <;>(dsimp only;omega)
   revert d s
   dsimp only;generalize q0p c m j b v=q;obtain⟨m',z,ac,ph⟩:=q;intro d s;cases z <;>exact s d
  all_goals
   exfalso
   revert d
   dsimp only
   (repeat' split) <;>first|omega|dsimp only;omega
 have f:qf c t m a=({m with sl:=m.sl.set t.toNat 0},{a with ph:= .idle,st:=2},acS 6 t (m.sl.getD t.toNat 0) 0,24):=by unfold qf;rw[o]
 refine⟨a,i,w,hi,?_,?_⟩
 ·unfold q0A;rw[f];dsimp only;rw[if_neg (show ¬({a with ph:= .idle,st:=2}:AT).busy=true from fun h=>by cases h)];exact ql8 rfl
 ·unfold GT.codZ GT.cod;rw[w];dsimp only;rw[if_pos hb,f]
structure CW where
 h:CH
 D:Own
abbrev CW.ok(x:CW):Prop:=qq qw 3 1 x.h.a x.h.ac x.h.ad x.D
def qbn(l:List CW):Own:=(l.map CW.D).flatten
theorem q3y{l:List CW}{x:CW}:qbn (l++ [x])=qbn l++x.D:=by simp[qbn]
theorem qjs{W0:World}{l:List CW}{x:CW}(h:x∈l):Ent W0 (qbn l) x.D:=by
 obtain⟨l1,l2,rfl⟩:=Zz h;unfold qbn;rw[zv,zG,zP,Z1];exact Ent.right.trans Ent.left
abbrev xP(b:Nat)(ca:j8)(k cc:Nat):Obj->Prop:=fun z=>z=Obj.cells #[ptr b, .slice ca k cc] 73 (0,0)
section
variable{W0:World}{own:Own}{c:Cfg}{n:Nat}{ps:List (jf)}{M:MQ}{m:MS}{S:List StM}{ev:jj}{r:RM}{t:Nat}{y:TW}{p:jf}{h:TH}{x:GT}{b:Nat}
theorem q6h(f:RdE qf9 1 W0 M.tD M.ta (M.L.map fun y=>y.h.b))(j:M.L[t]? =some y)(s:M.L.length<=16) [v:qy M.b (maP M S) own] [m2:qx own M.tD]:jl W0 37 [ptr M.b,j4 t] own (ptr y.h.b):=by
 refine qi (sH [] ?_);have d:=qhl j;have hlt:=(z7.1 j).1;have hti:(t:Int)<(M.L.map fun y=>y.h.b).length:=by rw[zi];omega
 have hn2:(M.L.map fun y=>y.h.b).length<=16:=by rw[zi];exact s
 have o:Cl W0 own M.b 1 (.slice M.ta (M.L.map fun y=>y.h.b).length M.tc):=qj v rfl
 repeat'((try conv=>whnf);first|refine fH ?_|refine fG ?_|refine q0k o ?_|apply gLd;refine q0n f d rfl ?_|(apply qL;first|refine ixE f d ?_ ?_;(first|rfl|omega)))
 all_goals exact⟨rfl,(eC)⟩
theorem q5x{o:j8}(s:h.ap= .pointer o) [f:qy b (thP c t n p h x) own]:jl W0 38 [ptr b] own (.tuple #[.pointer o, .bool x.stg]):=by
 refine qi (sH (jo 12 3 [0]) ?_);have d:Cl W0 own b 0 h.ap:=qj f rfl;have j:Cl W0 own b 12 (.bool x.stg):=qj f rfl;rw[s] at d
 repeat'((try conv=>whnf);first|refine fD ?_|refine q0k d ?_|refine q0k j ?_)
 all_goals exact⟨rfl,(eC)⟩
theorem qgY{A:Own} [C:qy b (thP c t n p h x) own](j:AtO W0 c t h x A){F:Own}(o:FeO W0 c h.lb t n x.fn F):jl W0 55 [ptr b] own (.bool x.rest):=by
 refine qi (sH [] ?_);have d:Cl W0 own b 0 h.ap:=qj C rfl;have v:Cl W0 own b 14 h.lb.fp:=qj C rfl;have I:Cl W0 own b 10 (j4 x.tr):=qj C rfl;unfold GT.rest;rw[show decide (x.tr=0)=decide ((x.tr:Int)=0) from decide_eq_decide.2 Yb];unfold AtO at j;unfold FeO at o;cases G:x.at' with
 |some a=>
  rw[G] at j;obtain⟨ah,E,w, -⟩:=j;rw[w] at d;rw[show((some a:Option AT).isNone&&x.fn.isNone&&decide ((x.tr:Int)=0))=false from rfl]
  repeat'((try conv=>whnf);first|refine fH ?_|refine fI ?_|refine q0k d ?_)
  all_goals exact⟨rfl,(eC)⟩
 |none=>
  rw[G] at j;rw[show h.ap= .pointer none from j] at d;cases s:x.fn with
  |some f=>
   rw[s] at o;obtain⟨fb,z, -⟩:=o;rw[z] at v;rw[show((none:Option AT).isNone&&(some f:Option FT).isNone&&decide ((x.tr:Int)=0))=false from rfl]
   repeat'((try conv=>whnf);first|refine fH ?_|refine fI ?_|refine q0k d ?_|refine q0k v ?_)
   all_goals exact⟨rfl,(eC)⟩
  |none=>
   rw[s] at o;rw[o.1] at v;rw[show((none:Option AT).isNone&&(none:Option FT).isNone&&decide ((x.tr:Int)=0))=decide ((x.tr:Int)=0) from rfl]
   repeat'((try conv=>whnf);first|refine fH ?_|refine q0k d ?_|refine q0k v ?_|refine q0k I ?_)
   all_goals exact⟨rfl,(eC)⟩
theorem qgx{s:StM}(o:qq StM.enc 111 9 M.sa M.sc (S++ [s]) M.sD)(hS:S.length<=1000) [v:qy M.b (maP M (S++ [s])) own] [m2:qx own M.sD]:jl W0 52 [ptr M.b] own (stV s):=by
 refine qi (sH (jo 12 3 [28,0]) ?_);have hl:(S++ [s]).length=S.length+1:=Yd;have j:(S++ [s])[S.length]? =some s:=Yd;have f:=o.rd (W0:=W0);have d:Cl W0 own M.b 2 (.slice M.sa (S++ [s]).length M.sc):=qj v rfl
 repeat'((try conv=>whnf);first|refine fH ?_|refine fG ?_|refine q0k d ?_|(apply qL;first|refine ixE f j ?_ ?_;(first|rfl|omega))|apply q27;refine q0O f j rfl ?_|refine fB ?_|refine fL ?_|refine fM ?_|refine qg fun bk hbk=>?_)
 all_goals exact⟨rfl,(eC)⟩
end
open Go
section
variable{W0:World}{own:Own}{c:Cfg}{n:Nat}{ps:List (jf)}{M:MQ}{m:MS}{S:List StM}{ev:jj}{r:RM}{t:Nat}{y:TW}{p:jf}{h:TH}{x:GT}{b:Nat}{L:List TW}
theorem MK.x_at{xs:List GT}{E:jj}(f:MK W0 c n ps M ⟨m,xs.set t x,S,E⟩)(j:M.L[t]? =some y):y.x=x:=by
 have d:(M.L.map TW.x)[t]? =some y.x:=by rw[zI,j];rfl
 rw[f.x] at d;dsimp only at d;rw[zx,if_pos rfl] at d
 split at d
 ·exact(Option.some.inj d).symm
 ·cases d
theorem qkB{t:Int}:(qY c p n t m x).2.2.1.t=t:=by
 have he:∀i,(q2l c p n t m x i).2.2.1.t=t:=fun i=>by
  unfold q2l
  split
  ·exact qat.1
  ·split
   ·exact q7e.1
   ·exact qcL.1
 unfold qY
 split
 ·rfl
 ·split
  ·exact q7e.1
  ·split
   ·split
    ·rfl
    ·split
     ·rfl
     ·exact he _
   ·exact he _
theorem qbQ [mm:qy b (thP c t n p h x) own]:jl W0 34 [ptr b] own (.agg x.th.enc.toArray):=by
 refine qi (sH [] ?_);have s:∀{own':Own} {K:jg->Prop},Ent W0 own' own->K x.th.enc.toArray->LdN W0 own' ⟨b,0+32,none⟩ 11 K:=fun he o=>by
  obtain⟨vs,d,f,j⟩:=q1A (W0:=W0) (own:=own) (n:=11) (off:=0+32) (K:=fun v=>v=x.th.enc.toArray) x.th.enc mm.h rfl rfl rfl;subst j;exact⟨_,d,fun w hw=>f w (he w hw),o⟩
 repeat'((try conv=>whnf);first|refine fD ?_|refine s ?_ ?_;exact sbE|refine fL ?_|refine fM ?_|refine qg fun bk hbk=>?_)
 all_goals exact⟨rfl,(eC)⟩
theorem q8x(f:L[t]? =some y){ah:AH}{a:AT}{E:Own}(d:y.A=ah.O c t a a.ph.no a.ph.en E):qy ah.b (atP c t ah a a.ph.no) (TsO c n 0 L):=by
 refine⟨?_⟩;rw[q2T L 0 t y f,zy,ThO,d];exact zz _ (zq _ (zr _ (zq _ zp)))
theorem qiq(f:L[t]? =some y){ah:AH}{a:AT}{E:Own}(d:y.A=ah.O c t a a.ph.no a.ph.en E):Ent W0 (TsO c n 0 L) ah.lD:=by
 rw[q2T L 0 t y f,zy,ThO,d];unfold AH.O AH.R AH.R0;refine Ent.right.trans (Ent.left.trans (Ent.drop.trans (Ent.left.trans (Ent.drop.trans (Ent.drop.trans (Ent.drop.trans ?_))))));exact Ent.right.trans (Ent.right.trans (Ent.right.trans Ent.left))
structure qoo(W0:World)(c:Cfg)(n t b:Nat)(L:List TW)(a':AT)(h:AH):Prop where
 m:qy b (atP c t h a' a'.ph.no) (TsO c n 0 L)
 r:RdE qw 1 W0 (TsO c n 0 L) h.la a'.al
 l:a'.al.length<=1000
 b:∀b∈a'.al,0<=b/\b<64
theorem qhP{F:TW}{x':GT}{K:AT}{ah:AH}(w:y.h.ap=ptr ah.b)(z:y.h.ap≠ .pointer none->F.x.at'≠none->F.h.ap=y.h.ap)(J:F.x=x')(v:x'.at'=some K)(C:F.ok W0 c n t)(A:L[t]? =some F):∃d:AH,qoo W0 c n t ah.b L K d:=by
 subst J;have I:=z (by rw[w];exact fun e=>by cases e) (by rw[v];exact fun e=>by cases e);have f:=C.at';unfold AtO at f;rw[v] at f;obtain⟨d,E3,s,j, -,o⟩:=f;have G:d.b=ah.b:=by rw[I,w] at s;simpa using s.symm
 exact⟨d,⟨by rw[<-G];exact(q8x A o).h⟩,(j.hl.rd (W0:=W0)).ent (qiq A o),j.ll,j.lb⟩
theorem qm4{f:TW}{b0:Nat}{j:Obj->Prop}(d:L[t]? =some f)(h:(b0,j)∈f.A):qy b0 j (TsO c n 0 L):=by
 refine⟨?_⟩;rw[q2T L 0 t f d,zy,ThO];exact zz _ (zq _ (zr _ (zq _ h)))
theorem qhb{xb:Nat}{cl:List CW}{ca:j8}{cc:Nat}{cD:Own}(hF:qE W0)(hk:MK W0 c n ps M r)(ht:t<ps.length)(hn:ps.length<=16)(hg:StG c ps n r t)(hB:qq CH.enc 99 3 ca cc (cl.map CW.h) cD)(bI:cl.length<=5000)(Q:Own):
  jk W0 28 [ptr xb,c.v,j4 t] ((xb,xP M.b ca (cl.map CW.h).length cc)::(cD++(qbn cl++M.O c n r.m r.S Q))) fun v own'=>
   ∃s:MQ×(j8×Nat×Own)×List CW,(v= .tuple #[]/\s.1.b=M.b/\MK W0 c n ps s.1 (q1j c ps n r t)/\qq CH.enc 99 3 s.2.1.1 s.2.1.2.1 ((cl++s.2.2).map CW.h) s.2.1.2.2/\(∀z∈s.2.2,z.ok)/\s.2.2.map (fun z=>z.h.m)=chR c ps n r t)/\
    Ent W0 own' ((xb,xP M.b s.2.1.1 ((cl++s.2.2).map CW.h).length s.2.1.2.1)::(s.2.1.2.2++(qbn (cl++s.2.2)++s.1.O c n (q1j c ps n r t).m (q1j c ps n r t).S Q))):=by
 refine sH [3,5,7,9,11,14,16,17,20,0,3,5,7,9,11,13,16,18,19,21,24,0] ?_;obtain⟨y,hy,hx,hp⟩:=hk.at ht;have hML:=hk.len;have bL:=hk.ok.hL t y hy;have hcl2:(cl.map CW.h).length<=5000:=by rw[zi];exact bI
 have hm1:qy y.h.b (thP c t n y.p y.h y.x) (TsO c n 0 M.L):=⟨q35 hy⟩
 have aH:=fun(own':Own) (m1:qy M.b (maP M r.S) own') (m2:qx own' M.tD)=>q6h (W0:=W0) (own:=own') (S:=r.S) hk.ok.ht hy Yb
 have G:=fun(o:j8) (ho:y.h.ap= .pointer o) (own':Own) (m1:qy y.h.b (thP c t n y.p y.h y.x) own')=>q5x (W0:=W0) (own:=own') (c:=c) (t:=t) (n:=n) (p:=y.p) (h:=y.h) (x:=y.x) (b:=y.h.b) ho
 have N:=fun Q=>qaO (W0:=W0) (n:=n) hF hk ht hn hg Q
 have bm:goM r t= !y.x.th.dn:=by unfold goM;rw[hx]
 have aj:chR c ps n r t=if y.x.th.dn then [] else chN c y.x (qY c y.p n t r.m y.x).2.1 (qY c y.p n t r.m y.x).2.2.1:=by unfold chR;simp only[hx,hp]
 have Z:q1j c ps n r t=if y.x.th.dn then r else⟨(qY c y.p n t r.m y.x).1,r.xs.set t (qY c y.p n t r.m y.x).2.1,r.S++ [(qY c y.p n t r.m y.x).2.2.1],r.E++(qY c y.p n t r.m y.x).2.2.2.map (qnf r.S.length)⟩:=by unfold q1j;simp only[hx,hp]
 --what was decided before
 have av:(y.h.ap= .pointer none/\y.x.at'=none/\y.x.dec=false)\/∃(ah:AH) (a:AT),y.h.ap=ptr ah.b/\y.x.at'=some a/\y.x.dec=a.dn/\qy ah.b (atP c t ah a a.ph.no) (TsO c n 0 M.L):=by
  have:=bL.at';unfold AtO at this;unfold GT.dec;cases e:y.x.at' with
  |none=>rw[e] at this;exact .inl ⟨this,rfl,rfl⟩
  |some a=>
   rw[e] at this;obtain⟨ah,E,h1,_,_,h2⟩:=this;exact .inr ⟨ah,a,h1,rfl,rfl,q8x hy h2⟩
 rw[bm] at N;cases hd:y.x.th.dn with
 |true=>
  rw[hd] at N aj Z;rw[if_pos rfl] at aj Z;rw[aj,Z];rw[Z] at N
  rcases av with ⟨J, -, -⟩|⟨ah,a,J, -, -,aV⟩
  rotate_left
  focus have W:=fun(own':Own) (m1:qy ah.b (atP c t ah a a.ph.no) own')=>q16 (W0:=W0) (own:=own') (b:=ah.b) (d:=a.dn) (qj m1 rfl)
  all_goals
   have G:=G _ J
   repeat'((try conv=>whnf);first|refine fH ?_|refine fI ?_|refine fE ?_|(apply qe;first|refine qd (aH _ Ye Ye) ?_|refine qd (G _ Ye) ?_|refine qd (W _ Ye) ?_|refine qn (b:=M.b) (D:=M.mh.O r.m++(M.tD++(M.sD++(M.eD++(M.gD++(TsO c n 0 M.L++ [])))))) N (fun Q=>sbE) fun M3 v hv=>?_;obtain⟨rfl,U,f, -⟩:=hv)|refine fO ?_|refine fA ?_|refine qg fun bk aK=>?_)
   all_goals exact⟨(M3,(ca,cc,cD),[]),⟨rfl,U,f,by rw[zC];exact hB,fun _ h=>(by cases h),rfl⟩,by dsimp only;rw[zC];exact sbE⟩
 |false=>
  rw[hd] at N aj Z;rw[if_neg Yc] at aj Z;rw[Z] at N ⊢;rw[aj];have az:=qhh (c:=c) (p:=y.p) (n:=n) (t:=t) (m:=r.m) (x:=y.x);have aA:=qhi (c:=c) (p:=y.p) (n:=n) (t:=t) (m:=r.m) (x:=y.x);have bz:=qkB (c:=c) (p:=y.p) (n:=n) (t:=t) (m:=r.m) (x:=y.x);have hS:=hg.S;clear aj Z bm hg;generalize qY c y.p n t r.m y.x=z at*;obtain⟨m',x',⟨st,aI,sat,aX⟩,evs⟩:=z;dsimp only at az aA bz N ⊢;subst bz;have aN:=fun(M3:MQ) (hs:qq StM.enc 111 9 M3.sa M3.sc (r.S++ [⟨t,aI,sat,aX⟩]) M3.sD) (own':Own) (m1:qy M3.b (maP M3 (r.S++ [⟨t,aI,sat,aX⟩])) own') (m2:qx own' M3.sD)=>qgx (W0:=W0) (own:=own') hs hS
  have ay:=fun(C:TW) (h1:AtO W0 c t C.h x' C.A) (h2:FeO W0 c C.h.lb t n x'.fn C.F) (own':Own) (m1:qy y.h.b (thP c t n C.p C.h x') own')=>qgY (W0:=W0) (own:=own') (n:=n) (p:=C.p) (h:=C.h) (x:=x') (b:=y.h.b) h1 h2
  have aO:=fun(C:TW) (own':Own) (m1:qy y.h.b (thP c t n C.p C.h x') own')=>qbQ (W0:=W0) (own:=own') (c:=c) (t:=t) (n:=n) (p:=C.p) (h:=C.h) (x:=x') (b:=y.h.b)
  have hdC:=fun(ah:AH) (a:AT) (own':Own) (m1:qy ah.b (atP c t ah a a.ph.no) own')=>q16 (W0:=W0) (own:=own') (b:=ah.b) (d:=a.dn) (qj m1 rfl)
  unfold chN;dsimp only
  by_cases aE:aI=16
  ·rw[if_pos aE];obtain⟨⟨a0,aB⟩,⟨P,aT⟩⟩:=az aE;clear az aA;rw[aT];dsimp only
   rcases av with ⟨_,aW,_⟩|⟨ah,a,J,bC, -,aV⟩
   ·rw[aW] at aB;cases aB
   have G:=G _ J;have W:=hdC ah a;have aL:=fun(F:AH) (own':Own) (m1:qy ah.b (atP c t F P P.ph.no) own')=>q16 (W0:=W0) (own:=own') (b:=ah.b) (d:=P.dn) (qj m1 rfl)
   have bB:=fun(K:MQ) (F:AH) (R:qoo W0 c n t ah.b K.L P F) (own':Own) (m1:qy ah.b (atP c t F P P.ph.no) own') (m2:qx own' (TsO c n 0 K.L))=>qbs (W0:=W0) (own:=own') (b:=ah.b) (qj m1 rfl) (R.r.ent (m2.h W0)) (by have:=R.l;omega)
   cases aM:P.dn with
   |false=>
    rw[aM] at aL;rw[if_neg Yc]
    repeat'((try conv=>whnf);first|refine fH ?_|refine fE ?_|refine fD ?_|refine fF ?_|(apply qe;first|refine qd (aH _ Ye Ye) ?_|refine qd (G _ Ye) ?_|refine qd (W _ Ye) ?_|refine qd (aq _ Ye Ye) ?_|refine qd (aC _ Ye) ?_|refine qn (b:=M.b) (D:=M.mh.O r.m++(M.tD++(M.sD++(M.eD++(M.gD++(TsO c n 0 M.L++ [])))))) N (fun Q=>sbE) fun M3 v hv=>?_;(obtain⟨rfl,U,f,R⟩:=hv;obtain⟨K,rfl⟩:=MQ.b_eq U;obtain⟨C,A,ae,Y,au⟩:=R y hy;have w:=f.x_at A;have j:=f.ok.hL t C A;have aU:qy y.h.b (thP c t n C.p C.h x') (TsO c n 0 K.L):=⟨by rw[<-ae,<-w];exact q35 A⟩;have aq:=aN {K with b:=M.b} f.ok.hs;have aG:=ay C (w ▸ j.at') (w ▸ j.fe);have aP:=aO C;obtain⟨F,aw⟩:=qhP J Y w aT j A;have bu:=aw.m;have aC:=aL F))|refine fO ?_|refine fA ?_|refine fM ?_|refine qg fun bk aK=>?_)
    all_goals exact⟨({K with b:=M.b},(ca,cc,cD),[]),⟨rfl,rfl,f,by rw[zC];exact hB,fun _ h=>(by cases h),rfl⟩,by dsimp only;rw[zC];exact sbE⟩
   |true=>
    rw[aM] at aL;rw[if_pos rfl]
    repeat'((try conv=>whnf);first|refine fH ?_|refine fD ?_|refine fF ?_|(apply qe;first|refine qd (aH _ Ye Ye) ?_|refine qd (G _ Ye) ?_|refine qd (W _ Ye) ?_|refine qd (aq _ Ye Ye) ?_|refine qd (aC _ Ye) ?_|refine qk (bh _ Ye Ye) fun y v hv=>?_;obtain⟨a9,c9,D9⟩:=y;obtain⟨rfl,aY⟩:=hv;dsimp only at aY|refine qn (b:=M.b) (D:=M.mh.O r.m++(M.tD++(M.sD++(M.eD++(M.gD++(TsO c n 0 M.L++ [])))))) N (fun Q=>sbE) fun M3 v hv=>?_;(obtain⟨rfl,U,f,R⟩:=hv;obtain⟨K,rfl⟩:=MQ.b_eq U;obtain⟨C,A,ae,Y,au⟩:=R y hy;have w:=f.x_at A;have j:=f.ok.hL t C A;have aU:qy y.h.b (thP c t n C.p C.h x') (TsO c n 0 K.L):=⟨by rw[<-ae,<-w];exact q35 A⟩;have aq:=aN {K with b:=M.b} f.ok.hs;have aG:=ay C (w ▸ j.at') (w ▸ j.fe);have aP:=aO C;obtain⟨F,aw⟩:=qhP J Y w aT j A;have bu:=aw.m;have aC:=aL F;have bh:=bB K F aw))|refine fO ?_|refine fA ?_|refine fM ?_|refine qg fun bk aK=>?_)
    rename_i b4 hb4 b10 hb10;have aZ:=aY.rd (W0:=W0);refine qQ (σ:=Nat×j8×Nat×Own) (fun s=> [(55,j4 s.1)]) (fun s=>(bk,fun z=>z=Obj.cells #[j4 t,j4 0, .slice s.2.1 ((P.al.take s.1).map (qs c)).length s.2.2.1] 99 (0,0))::
      (b4,fun z=>z=Obj.cells #[j4 c.words,j4 c.orecs,j4 c.base,j4 c.c0,j4 c.c1,j4 c.c2,j4 c.c3,j4 c.reads,j4 c.writes,j4 c.allocs,j4 c.frees,j4 c.clock, .bool c.strong] 30 (0,0))::
      (D9++(s.2.2.2++((xb,xP M.b ca (cl.map CW.h).length cc)::(cD++(qbn cl++MQ.O {K with b:=M.b} c n m' (r.S++ [⟨t,aI,sat,aX⟩]) Q))))))
     (fun s=>s.1<=P.al.length/\qq qw 3 1 s.2.1 s.2.2.1 ((P.al.take s.1).map (qs c)) s.2.2.2) (fun s=>P.al.length-s.1) (0,none,0,[]) ⟨zl _,qq.nil⟩ (eF) (by simp only[zj];exact sbE) rfl ?_
    rintro⟨i,aa,ac,Da⟩ junk ⟨hi,aJ⟩;dsimp only at hi aJ ⊢;have bh:=aw.l;have hll:((P.al.take i).map (qs c)).length=i:=by rw[zi,zM];omega
    by_cases bo:i<P.al.length
    ·obtain⟨b,hz⟩:∃b,P.al[i]? =some b:=⟨_,z6 bo⟩
     have hb:=aw.b b (zh hz);have br:(i:Int)<P.al.length:=Yb;have aS:=fun own'=>q4K W0 own' c b Yb
     dsimp only[Cfg.v,Cfg.cs] at aS;have bA:(P.al.take (i+1)).map (qs c)=(P.al.take i).map (qs c)++ [qs c b]:=by rw[zY,hz,zv];rfl
     repeat'((try conv=>whnf);first|refine fF ?_|refine qg fun be bE=>?_|apply q0f (enc:=qw) (T:=3) (qs c b) aJ;exact rfl;exact rfl;omega;exact rfl;exact rfl;omega;intro a6 c6 D6 bD|apply gLd;refine q0n aZ hz rfl ?_|(apply qL;first|refine ixE aZ hz ?_ ?_;(first|rfl|omega))|apply qz;refine qm (fun ex=>aS _) ?_|refine fB ?_|refine fA ?_|refine fL ?_|refine fN ?_)
     all_goals exact⟨(i+1,a6,c6,D6),⟨bo,by dsimp only;rw[bA];exact bD⟩,by simp only;omega,(eF),by dsimp only;rw[bA,z8];exact sbE⟩
    ·obtain rfl:i=P.al.length:=Yb;have br:¬(P.al.length:Int)<P.al.length:=Yb;rw[Z3] at aJ ⊢
     repeat'((try conv=>whnf);first|refine fG ?_|refine qg fun be bE=>?_|apply q0f (enc:=CH.enc) (T:=99) (⟨t,0,aa,P.al.map (qs c),ac⟩:CH) hB;exact rfl;exact rfl;omega;exact rfl;exact rfl;omega;intro a5 c5 D5 af|refine fA ?_|refine fL ?_|refine fN ?_)
     all_goals exact⟨({K with b:=M.b},(a5,c5,D5),[⟨⟨t,0,aa,P.al.map (qs c),ac⟩,Da⟩]),⟨rfl,rfl,f,by rw[zv];exact af,fun z hz=>by rw[zf.1 hz];exact aJ,rfl⟩,by dsimp only;rw[zv,z8,q3y];simp only[zd];exact sbE⟩
  ·rw[if_neg aE]
   by_cases aF:aI=24
   ·rw[if_pos aF];obtain⟨a0,i,aB,hi,aW,bJ⟩:=aA aF;clear az aA
    rcases av with ⟨_,bw,_⟩|⟨ah,a,J,bC,aM,aV⟩
    ·rw[bw] at aB;cases aB
    have G:=G _ J;have W:=hdC ah a;rw[<-aM] at W;obtain⟨L,hL⟩:∃L,L=(if y.x.dec=true\/x'.rest=false\/y.x.stg=true/\y.x.cod≠6 then [] else [(⟨t,if y.x.stg=true then 6 else x'.th.oc,[]⟩:ChM)]):=⟨_,rfl⟩
    rw[<-hL];generalize y.x.dec=dd at*;generalize y.x.stg=sg at*;have bH:=fun(F:AH) (a3:AT) (k3:Int) (own':Own) (m1:qy ah.b (atP c t F a3 k3) own')=>q3E (W0:=W0) (own:=own') (b:=ah.b) (k:=a3.code) (qj m1 rfl)
    cases dd;rotate_left
    focus cases I:x'.rest
    rotate_left 2;cases I:x'.rest;rotate_left;cases sg;rotate_left
    by_cases bF:y.x.cod=6
    all_goals
     first|simp[I,bF] at hL|simp[I] at hL
     subst hL
     try rw[I] at ay
     repeat'((try conv=>whnf);first|refine fH ?_|refine fI ?_|refine fE ?_|refine fD ?_|refine fF ?_|refine fG ?_|refine qg fun bk aK=>?_|apply q0f (enc:=CH.enc) (T:=99) (⟨t,6,none,[],0⟩:CH) hB;exact rfl;exact rfl;omega;exact rfl;exact rfl;omega;intro a5 c5 D5 af|apply q0f (enc:=CH.enc) (T:=99) (⟨t,x'.th.oc,none,[],0⟩:CH) hB;exact rfl;exact rfl;omega;exact rfl;exact rfl;omega;intro a5 c5 D5 af|(apply qe;first|refine qd (aH _ Ye Ye) ?_|refine qd (G _ Ye) ?_|refine qd (W _ Ye) ?_|refine qd (aq _ Ye Ye) ?_|refine qd (aG _ Ye) ?_|refine qd (aP _ Ye) ?_|refine qd (aR _ Ye) ?_|refine qn (b:=M.b) (D:=M.mh.O r.m++(M.tD++(M.sD++(M.eD++(M.gD++(TsO c n 0 M.L++ [])))))) N (fun Q=>sbE) fun M3 v hv=>?_;(obtain⟨rfl,U,f,R⟩:=hv;obtain⟨K,rfl⟩:=MQ.b_eq U;obtain⟨C,A,ae,Y,au⟩:=R y hy;have w:=f.x_at A;have j:=f.ok.hL t C A;have aU:qy y.h.b (thP c t n C.p C.h x') (TsO c n 0 K.L):=⟨by rw[<-ae,<-w];exact q35 A⟩;have aq:=aN {K with b:=M.b} f.ok.hs;have aG:=ay C (w ▸ j.at') (w ▸ j.fe);have aP:=aO C;obtain⟨F,a3,k3,bK,bG⟩:=au ah.b J (by rw[w];exact aW);have bu:=qm4 (c:=c) (n:=n) A bK;have aR:=bH F a3 k3;rw[bG i hi,bJ] at aR))|refine fO ?_|refine fA ?_|refine fL ?_|refine fN ?_|refine fM ?_)
     all_goals first|exact⟨({K with b:=M.b},(ca,cc,cD),[]),⟨rfl,rfl,f,by rw[zC];exact hB,fun _ h=>(by cases h),rfl⟩,by dsimp only;rw[zC];exact sbE⟩|exact⟨({K with b:=M.b},(a5,c5,D5),[⟨⟨t,6,none,[],0⟩,[]⟩]),⟨rfl,rfl,f,by rw[zv];exact af,fun z hz=>by rw[zf.1 hz];exact qq.nil,rfl⟩,by dsimp only;rw[zv,z8,q3y];simp only[zd];exact sbE⟩|exact⟨({K with b:=M.b},(a5,c5,D5),[⟨⟨t,x'.th.oc,none,[],0⟩,[]⟩]),⟨rfl,rfl,f,by rw[zv];exact af,fun z hz=>by rw[zf.1 hz];exact qq.nil,rfl⟩,by dsimp only;rw[zv,z8,q3y];simp only[zd];exact sbE⟩
   ·rw[if_neg aF];clear az aA;obtain⟨L,hL⟩:∃L,L=(if sat≠0\/x'.rest=false then [] else [(⟨t,0,[]⟩:ChM)]):=⟨_,rfl⟩
    rw[<-hL]
    rcases av with ⟨J, -, -⟩|⟨ah,a,J, -, -,aV⟩
    rotate_left
    focus have W:=hdC ah a
    all_goals
     have G:=G _ J
     by_cases aQ:sat=0
     rotate_left
     focus cases I:x'.rest
     rotate_left 2;have hat1:¬sat≠0:=fun h=>h aQ
     cases I:x'.rest
    all_goals
     simp[I,aQ] at hL;subst hL;rw[I] at ay
     repeat'((try conv=>whnf);first|refine fH ?_|refine fI ?_|refine fE ?_|refine fD ?_|refine fG ?_|refine fJ ?_|refine fK ?_|refine qg fun bk aK=>?_|apply q0f (enc:=CH.enc) (T:=99) (⟨t,0,none,[],0⟩:CH) hB;exact rfl;exact rfl;omega;exact rfl;exact rfl;omega;intro a5 c5 D5 af|(apply qe;first|refine qd (aH _ Ye Ye) ?_|refine qd (G _ Ye) ?_|refine qd (W _ Ye) ?_|refine qd (aq _ Ye Ye) ?_|refine qd (aG _ Ye) ?_|refine qn (b:=M.b) (D:=M.mh.O r.m++(M.tD++(M.sD++(M.eD++(M.gD++(TsO c n 0 M.L++ [])))))) N (fun Q=>sbE) fun M3 v hv=>?_;(obtain⟨rfl,U,f,R⟩:=hv;obtain⟨K,rfl⟩:=MQ.b_eq U;obtain⟨C,A,ae,Y,au⟩:=R y hy;have w:=f.x_at A;have j:=f.ok.hL t C A;have aU:qy y.h.b (thP c t n C.p C.h x') (TsO c n 0 K.L):=⟨by rw[<-ae,<-w];exact q35 A⟩;have aq:=aN {K with b:=M.b} f.ok.hs;have aG:=ay C (w ▸ j.at') (w ▸ j.fe);have aP:=aO C))|refine fO ?_|refine fA ?_|refine fL ?_|refine fN ?_|refine fM ?_)
     all_goals first|exact⟨({K with b:=M.b},(ca,cc,cD),[]),⟨rfl,rfl,f,by rw[zC];exact hB,fun _ h=>(by cases h),rfl⟩,by dsimp only;rw[zC];exact sbE⟩|exact⟨({K with b:=M.b},(a5,c5,D5),[⟨⟨t,0,none,[],0⟩,[]⟩]),⟨rfl,rfl,f,by rw[zv];exact af,fun z hz=>by rw[zf.1 hz];exact qq.nil,rfl⟩,by dsimp only;rw[zv,z8,q3y];simp only[zd];exact sbE⟩
end
open Go
instance qx.blk{own:Own}{b:Nat}{q:Obj->Prop} [m:qy b q own]:qx own [(b,q)]:=⟨fun _=>Ent.of_sub (List.singleton_sublist.2 m.h)⟩
section
variable{W0:World}{own:Own}{c:Cfg}{n t:Nat}{p:jf}{h:TH}{x:GT}{a:AT}{ah:AH}{b:Nat}{L:List TW}{y:TW}
def AT.stor(a:AT):Bool:=a.dn&&a.sto&&(match a.ph with
  | .wr _ _=>true
  | .rl _ _=>true
  | .sp=>true
  |_=>false)
theorem q9i(w:0<=a.ck/\a.ck<=1099511627776) [s:qy ah.b (atP c t ah a a.ph.no) own] [A:qy ah.g.b (lgP c.writes ah.g.aa a.ad.length ah.g.ca ah.g.va a.vl.length ah.g.cv ah.g.ib ah.g.P) own]:
  jl W0 39 [ptr ah.b] own (.bool a.stor):=by
 refine qi (sH [] ?_);have v:=q2a (W0:=W0) (own:=own) (b:=ah.b) (d:=a.dn) (ck:=a.ck) (k:=a.code) (qj s rfl) (qj s rfl) w (qj s rfl) (qj s rfl) (qj A rfl);have f:Cl W0 own ah.b 31 (j4 a.ph.no):=qj s rfl;have j:=q5B (x:=a);unfold AT.stor
 by_cases o:a.dn=true/\a.sto=true
 ·rw[if_pos (j.1 o)] at v;rw[o.1,o.2];clear s A j o;generalize a.ph=z at f ⊢;cases z
  all_goals
   dsimp only[AP.no] at f
   repeat'((try conv=>whnf);first|refine fH ?_|refine fI ?_|refine fJ ?_|refine q0k f ?_|apply qe;refine qd (v) ?_)
  all_goals exact⟨rfl,(eC)⟩
 ·rw[if_neg (fun e=>o (j.2 e))] at v;have e:(a.dn&&a.sto)=false:=by
   cases C:a.dn with
   |false=>rfl
   |true=>cases F:a.sto with
    |false=>rfl
    |true=>exact absurd ⟨C,F⟩ o
  rw[e,yS]
  repeat'((try conv=>whnf);first|refine fI ?_|apply qe;refine qd (v) ?_)
  all_goals exact⟨rfl,(eC)⟩
theorem qiu(d:L[t]? =some y):qy y.h.b (thP c t n y.p y.h y.x) (TsO c n 0 L):=⟨q35 d⟩
theorem qir(f:L[t]? =some y){E:Own}(d:y.A=ah.O c t a a.ph.no a.ph.en E):qy ah.g.b (lgP c.writes ah.g.aa a.ad.length ah.g.ca ah.g.va a.vl.length ah.g.cv ah.g.ib ah.g.P) (TsO c n 0 L):=by
 refine⟨?_⟩;rw[q2T L 0 t y f,zy,ThO,d];refine zz _ (zq _ (zr _ (zq _ (zr _ ?_))));refine zr _ (zr _ (zz _ (zz _ (zz _ (zz _ (zz _ ?_))))));exact zp
theorem qfk{l:List GT}{f:GT->Bool}{i:Nat}{z:GT}(d:l[i]? =some z):(l.take (i+1)).any f=((l.take i).any f||f z):=by
 rw[zY,d,List.any_append];simp
variable{ps:List (jf)}{M:MQ}{r:RM}
theorem qeU:x.stor=match x.at' with
  |some a=>a.stor
  |none=>false:=rfl
theorem qbN{xb:Nat}{ca:j8}{k cc:Nat}(K:MK W0 c n ps M r)(hn:ps.length<=16)(af:∀(u:Nat) x a,r.xs[u]? =some x->x.at'=some a->0<=a.ck/\a.ck<=1099511627776)(Q:Own) [W:qx Q [(xb,xP M.b ca k cc)]]:
  jk W0 20 [ptr xb,j4 ps.length] (M.O c n r.m r.S Q) fun v own'=>∃_:Unit,v= .bool (r.xs.any GT.stor)/\Ent W0 own' (M.O c n r.m r.S Q):=by
 refine qG (sH [] ?_);have Z:=K.len;have aj:r.xs.length=ps.length:=by rw[<-K.x,zi];exact Z
 have Y:Cl W0 Q xb 0 (ptr M.b):=(qj (own:= [(xb,xP M.b ca k cc)]) ⟨zp⟩ rfl).ent (W.h W0);refine qQ (σ:=Nat) (fun s=> [(9,j4 s)]) (fun _=>M.O c n r.m r.S Q) (fun s=>s<=ps.length/\(r.xs.take s).any GT.stor=false) (fun s=>ps.length-s) 0 ⟨zl _,rfl⟩ (eF) sbE rfl ?_;rintro i junk ⟨hi,w⟩
 by_cases A:i<ps.length
 ·have N:(i:Int)<ps.length:=Yb;obtain⟨y,U,hx,hp⟩:=K.at A;have aq:=K.ok.hL i y U;have hm1:=qiu (c:=c) (n:=n) U;have C:=fun(own':Own) (W:qy M.b (maP M r.S) own') (m2:qx own' M.tD)=>q6h (W0:=W0) (own:=own') (S:=r.S) K.ok.ht U Yb
  have d:=fun(o:j8) (ho:y.h.ap= .pointer o) (own':Own) (W:qy y.h.b (thP c i n y.p y.h y.x) own')=>q5x (W0:=W0) (own:=own') (c:=c) (t:=i) (n:=n) (p:=y.p) (h:=y.h) (x:=y.x) (b:=y.h.b) ho
  have j:=qfk (f:=GT.stor) hx;rw[w,yX] at j;have F:=aq.at';unfold AtO at F;cases I:y.x.at' with
  |none=>
   rw[I] at F;have d:=d _ (show y.h.ap= .pointer none from F);have P:y.x.stor=false:=by rw[qeU,I]
   rw[P] at j
   repeat'((try conv=>whnf);first|refine fI ?_|refine fD ?_|refine fF ?_|refine q0k Y ?_|(apply qe;first|refine qd (C _ Ye Ye) ?_|refine qd (d _ Ye) ?_)|refine fB ?_|refine fO ?_)
   all_goals exact⟨i+1,⟨A,j⟩,Yb,(eF),sbE⟩
  |some a=>
   rw[I] at F;obtain⟨ah,E,ae,hok,hP,G⟩:=F;have d:=d _ ae;have hm2:=q8x (c:=c) (n:=n) U G;have hm3:=qir (c:=c) (n:=n) U G;have z:=fun(own':Own) (W:qy ah.b (atP c i ah a a.ph.no) own') (m2:qy ah.g.b (lgP c.writes ah.g.aa a.ad.length ah.g.ca ah.g.va a.vl.length ah.g.cv ah.g.ib ah.g.P) own')=>q9i (W0:=W0) (own:=own') (c:=c) (t:=i) (ah:=ah) (af i y.x a hx I)
   have P:y.x.stor=a.stor:=by rw[qeU,I]
   rw[P] at j;cases R:a.stor with
   |false=>
    rw[R] at j z
    repeat'((try conv=>whnf);first|refine fH ?_|refine fD ?_|refine fF ?_|refine q0k Y ?_|(apply qe;first|refine qd (C _ Ye Ye) ?_|refine qd (d _ Ye) ?_|refine qd (z _ Ye Ye) ?_)|refine fB ?_|refine fO ?_)
    all_goals exact⟨i+1,⟨A,j⟩,Yb,(eF),sbE⟩
   |true=>
    rw[R] at z P;have J:r.xs.any GT.stor=true:=yW.2 ⟨y.x,zh hx,P⟩;rw[J]
    repeat'((try conv=>whnf);first|refine fH ?_|refine fE ?_|refine fF ?_|refine q0k Y ?_|(apply qe;first|refine qd (C _ Ye Ye) ?_|refine qd (d _ Ye) ?_|refine qd (z _ Ye Ye) ?_)|refine fO ?_)
    all_goals exact⟨rfl,sbE⟩
 ·obtain rfl:i=ps.length:=Yb;have N:¬(ps.length:Int)<ps.length:=Yb;rw[<-aj,Z3] at w;rw[w]
  repeat'((try conv=>whnf);first|refine fG ?_)
  all_goals exact⟨rfl,sbE⟩
theorem qkr{ia pa ka:j8}{il ks:jd}{ic pc kc O:Nat}{ps:ji}{l:jh}(hF:qE W0)(aE:csM c il.length ps ks=(0,0,0))(hc:qI c=0)(hI:RdE q06 1 W0 own ia il)(aH:(il.length:Int)=c.words)(aF:il≠ [])(aG:il.length<=1000)(hO:c.orecs=(O:Int))(aA:O<=1000)
  (hP:RdE PH.enc 1 W0 own pa ps) (hQ:∀h∈ps,RdE Ins.enc 5 W0 own h.a h.p) (hK:RdE qw 1 W0 own ka ks) (aJ:1<=ps.length) (hn:ps.length<=16) (aB:∀h∈ps,qB h.p=(0,0)) (aK:∀h∈ps,h.p.length<=100000)
  (au:ks=l.map fun t=>((t:Nat):Int)) (hkb:l.length<=1000) (aI:∀t∈l,t<ps.length) (hg:∀k t,l[k]? =some t->StG c (ps.map PH.p) ps.length (q0Y c il O (ps.map PH.p) (l.take k)) t) (aq:∀k,((q5Q c (ps.map PH.p) (ps.map PH.p).length ⟨ms0 c il O (ps.map PH.p).length,(ps.map PH.p).map q3f,[],[]⟩ (l.take k)).length)<=k):
  jk W0 17 [q9e c ia il.length ic pa ps.length pc ka ks.length kc] own fun v own'=>
   ∃y:Nat×MQ×(j8×Nat×Own)×List CW,(v= .tuple #[ptr y.1,j4 0,j4 0,j4 0]/\MK W0 c ps.length (ps.map PH.p) y.2.1 (q0Y c il O (ps.map PH.p) l)/\qq CH.enc 99 3 y.2.2.1.1 y.2.2.1.2.1 (y.2.2.2.map CW.h) y.2.2.1.2.2/\(∀z∈y.2.2.2,z.ok)/\y.2.2.2.map (fun z=>z.h.m)=q5Q c (ps.map PH.p) (ps.map PH.p).length ⟨ms0 c il O (ps.map PH.p).length,(ps.map PH.p).map q3f,[],[]⟩ l)/\
    Ent W0 own' ((y.1,xP y.2.1.b y.2.2.1.1 (y.2.2.2.map CW.h).length y.2.2.1.2.1)::(y.2.2.1.2.2++(qbn y.2.2.2++y.2.1.O c ps.length (q0Y c il O (ps.map PH.p) l).m (q0Y c il O (ps.map PH.p) l).S own))):=by
 refine sH [] ?_;have f:=fun(own':Own) (m:qx own' own)=>qoB (W0:=W0) (own:=own') (c:=c) (ic:=ic) (pc:=pc) (kc:=kc) hF aE hc hI.up aH aF aG hO aA hP.up (fun h hh=>(hQ h hh).up) hK.up aJ hn aB aK
 have ay:q0Y c il O (ps.map PH.p) []=⟨ms0 c il O ps.length,ps.map fun h=>q3f h.p,[],[]⟩:=by
  show(⟨ms0 c il O (ps.map PH.p).length,(ps.map PH.p).map q3f,[],[]⟩:RM)=_;rw[zi,ZV];rfl
 have hlen:(ps.map PH.p).length=ps.length:=zi ..;have K:∀k t,l[k]? =some t->q0Y c il O (ps.map PH.p) (l.take (k+1))=q1j c (ps.map PH.p) ps.length (q0Y c il O (ps.map PH.p) (l.take k)) t:=fun k t G=>by
  rw[zY,G];show qg7 _ _ _ _ _=_;rw[show(some t).toList= [t] from rfl,q5i];show q1j _ _ (ps.map PH.p).length _ _=_
  congr 1
 have d:∀k t,l[k]? =some t->q5Q c (ps.map PH.p) (ps.map PH.p).length ⟨ms0 c il O (ps.map PH.p).length,(ps.map PH.p).map q3f,[],[]⟩ (l.take (k+1))=q5Q c (ps.map PH.p) (ps.map PH.p).length ⟨ms0 c il O (ps.map PH.p).length,(ps.map PH.p).map q3f,[],[]⟩ (l.take k)++chR c (ps.map PH.p) ps.length (q0Y c il O (ps.map PH.p) (l.take k)) t:=fun k t G=>by
  rw[zY,G,show(some t).toList= [t] from rfl,q7s]
  congr 1
  show chR _ _ (ps.map PH.p).length _ _=_
  congr 1
 generalize hR:(fun k=>q0Y c il O (ps.map PH.p) (l.take k))=R;have w:∀k,q0Y c il O (ps.map PH.p) (l.take k)=R k:=fun k=>congrFun hR k
 have af:q0Y c il O (ps.map PH.p) l=R l.length:=by rw[<-w,Z3]
 generalize hC:(fun k=>q5Q c (ps.map PH.p) (ps.map PH.p).length ⟨ms0 c il O (ps.map PH.p).length,(ps.map PH.p).map q3f,[],[]⟩ (l.take k))=C at*;have j:∀k,q5Q c (ps.map PH.p) (ps.map PH.p).length ⟨ms0 c il O (ps.map PH.p).length,(ps.map PH.p).map q3f,[],[]⟩ (l.take k)=C k:=fun k=>congrFun hC k
 have ae:q5Q c (ps.map PH.p) (ps.map PH.p).length ⟨ms0 c il O (ps.map PH.p).length,(ps.map PH.p).map q3f,[],[]⟩ l=C l.length:=by rw[<-j,Z3]
 rw[af,ae];simp only[w] at hg K d;simp only[j] at d aq;have A:R 0=⟨ms0 c il O ps.length,ps.map fun h=>q3f h.p,[],[]⟩:=by rw[<-w,yT];exact ay
 have Z:C 0= []:=by rw[<-j,yT];rfl
 rw[<-A] at f;have hkl2:ks.length=l.length:=by rw[au,zi]
 rw[show ms0 c il O ps.length=(R 0).m by rw[A]] at f;rw[show([]:List StM)=(R 0).S by rw[A]] at f;clear ay hR w af A hC j ae
 repeat'((try conv=>whnf);first|refine fD ?_|refine qg fun bk hbk=>?_|(apply qe;first|refine qk (f _ Ye) fun M v hv=>?_;obtain⟨rfl,az⟩:=hv)|refine fO ?_|refine fA ?_|refine fL ?_|refine fN ?_)
 rename_i b1 hb1;refine qQ (σ:=Nat×MQ×(j8×Nat×Own)×List CW) (fun s=> [(28,j4 s.1)]) (fun s=>(bk,xP M.b s.2.2.1.1 (s.2.2.2.map CW.h).length s.2.2.1.2.1)::(s.2.2.1.2.2++(qbn s.2.2.2++s.2.1.O c ps.length (R s.1).m (R s.1).S ((b1,j7 (qc3 c (.slice ia il.length ic) (.slice pa ps.length pc) (.slice ka ks.length kc)) 34 (0,0))::own))))
  (fun s=>s.1<=l.length/\s.2.1.b=M.b/\MK W0 c ps.length (ps.map PH.p) s.2.1 (R s.1)/\qq CH.enc 99 3 s.2.2.1.1 s.2.2.1.2.1 (s.2.2.2.map CW.h) s.2.2.1.2.2/\(∀z∈s.2.2.2,z.ok)/\s.2.2.2.map (fun z=>z.h.m)=C s.1) (fun s=>l.length-s.1) (0,M,(none,0,[]),[])
  ⟨zl _,rfl,az,qq.nil,fun _ h=>(by cases h),Z.symm⟩ (eF) (by dsimp only[qbn,List.map_nil,List.flatten_nil];simp only[zj];exact sbE) rfl ?_
 rintro⟨i,M1,⟨ca,cc,cD⟩,cl⟩ junk ⟨hi,aj,G,hB,I,F⟩;dsimp only at hi aj G hB I F ⊢;obtain⟨M2,rfl⟩:=MQ.b_eq aj;have hCi:=aq i;have hcl:cl.length=(C i).length:=by rw[<-F,zi]
 by_cases av:i<l.length
 ·obtain⟨t,ht⟩:∃t,l[i]? =some t:=⟨_,z6 av⟩
  have hz:ks[i]? =some ((t:Nat):Int):=by rw[au,zI,ht];rfl
  have aw:(i:Int)<ks.length:=Yb;have aL:=aI t (zh ht);have J:=fun Q=>qhb (W0:=W0) (n:=ps.length) (xb:=bk) hF G (by rw[hlen];exact aL) (by rw[hlen];exact hn) (hg i t ht) hB Yb Q
  have aC:=d i t ht;rw[<-K i t ht] at J;clear Z K d hg f;dsimp only[Cfg.v,Cfg.cs] at J
  repeat'((try conv=>whnf);first|refine fF ?_|apply gLd;refine q0n hK hz rfl ?_|(apply qL;first|refine ixE hK hz ?_ ?_;(first|rfl|omega))|(apply qe;first|refine qn (b:=bk) (D:=cD++(qbn cl++((M.b,maP {M2 with b:=M.b} (R i).S)::(M2.mh.O (R i).m++(M2.tD++(M2.sD++(M2.eD++(M2.gD++(TsO c ps.length 0 M2.L++ []))))))))) J (fun Q=>sbE) fun s v hv=>?_;obtain⟨M3,⟨a5,c5,D5⟩,cn⟩:=s;obtain⟨rfl,P,U,N,Y,W⟩:=hv;dsimp only at P U N Y W)|refine fB ?_|refine fQ ?_)
  all_goals exact⟨(i+1,M3,(a5,c5,D5),cl++cn),⟨av,P,U,N,fun z hz=>(zw.1 hz).elim (I z) (Y z),by dsimp only;rw[zv,F,W,aC]⟩,by simp only;omega,(eF),sbE⟩
 ·obtain rfl:i=l.length:=Yb;have aw:¬(l.length:Int)<ks.length:=Yb
  repeat'((try conv=>whnf);first|refine fG ?_)
  all_goals exact⟨(bk,{M2 with b:=M.b},(ca,cc,cD),cl),⟨rfl,G,hB,I,F⟩,sbE⟩
end
open Go
def lkE:jj->Int->Int
 | [],_=>0
 |e::l,u=>if lkE l u=0 then(if e.t=u then e.k else 0) else lkE l u
theorem q4B{e:EvM}{u:Int}(f:e.k≠0):∀{l:jj},lkE (l++ [e]) u=if e.t=u then e.k else lkE l u
 | []=>by
  show(if(0:Int)=0 then(if e.t=u then e.k else 0) else 0)=_;rw[if_pos rfl];rfl
 |d::l=>by
  rw[zk,lkE,lkE,q4B f]
  by_cases h:e.t=u
  ·rw[if_pos h,if_pos h,if_neg f]
  ·rw[if_neg h,if_neg h]
def q8Y(E:jj):Int:=match E.getLast? with
 |some e=>e.ev
 |none=>0
structure qn7(n:Nat)(E:jj)(e:EvM):Prop where
 t:0<=e.t/\e.t<n
 k:1<=e.k/\e.k<=4
 w:0<=e.w/\e.w<64
 r:∀w∈e.r,0<=w/\w<64
 wl:∀w∈e.wl,0<=w/\w<64
 en:e.k=4->lkE E e.t=3
 pl:e.k≠4->e.r= []/\e.wl= []
 ev:q8Y E<=e.ev
 lb:e.r.length<=1000/\e.wl.length<=64
inductive TrW (n:Nat):jj->Prop
 |nil:TrW n []
 |snoc {E:jj} {e:EvM}:TrW n E->qn7 n E e->TrW n (E++ [e])
structure qhu(n:Nat)(q:RM):Prop where
 tr:TrW n q.E
 ev:q8Y q.E<=q.S.length
 el:q.E.length<=q.S.length
 lk:∀(u:Nat) y b,q.xs[u]? =some y->y.at'=some b->b.dn=false->b.ph.past=true->lkE q.E u=3
 ko:∀e∈q.E,e.k=3\/e.k=4
inductive qio (c:Cfg) (p:jf) (t:Nat) (x x':GT):jj->Prop
 |no:(∀b,x'.at'=some b->b.dn=false->b.ph.past=true->∃a,x.at'=some a/\a.dn=false/\a.ph.past=true)->qio c p t x x' []
 |bg (a a':AT):x.at'=some a->a.ph= .ent 1->a.dn=false->x'.at'=some a'->a'.ph= .ent 2->qio c p t x x' [⟨0,t,3,0,[],[]⟩]
 |en (a a':AT):x.at'=some a->a.ph= .dc->a.dn=false->x'.at'=some a'->a'.dn=true->qio c p t x x' [⟨0,t,4,0,a.seen,if a.code=1 then a.ad.filter fun x=>decide (x<c.words) else []⟩]
section
variable{c:Cfg}{ps:List (jf)}{n k:Nat}{q:RM}{m:MS}{g g':GS}{r r':Nat->List (Int×Int)}{t u:Nat}{x:GT}{a:AT}{p:jf}{i:Ins}
theorem q4F(a:AT):a.rest.dn=a.dn/\a.rest.ph.past=true:=by unfold AT.rest;split <;>exact⟨rfl,rfl⟩
theorem q6H(a:AT)(q:Int):(a.endA c q).dn=a.dn:=by unfold AT.endA;split <;>rfl
theorem q1g(a:AT)(q:Int):(a.undo q).dn=a.dn:=(AT.fin_al {a with code:=q}).2.2.2.1
theorem qcW(a:AT)(b v:Int):(a.frd c b v).dn=a.dn:=by
 unfold AT.frd
 split
 ·exact q6H a 8
 ·split
  ·exact q1g a 3
  ·split
   ·rfl
   ·exact q1g a 3
theorem q9L(a:AT)(kc b:Int):(a.allo c kc b).dn=a.dn:=by
 unfold AT.allo
 split
 ·exact q1g a 4
 ·split
  ·exact q1g {a with al:=a.al++ [b]} 3
  ·split
   ·rfl
   ·exact q1g {a with al:=a.al++ [b],ad:=_,vl:=_} 3
theorem qfJ(a:AT)(q:Ko):(a.kont c q).dn=a.dn:=by
 cases q with
 |en q=>exact q6H a q
 |tk v=>rfl
 |wr w v=>
  unfold AT.kont;dsimp only
  split
  ·exact q6H a 7
  ·split
   ·rfl
   ·exact q1g a 3
 |ud q=>exact q1g a q
 |fd b v=>exact qcW a b v
theorem qhj:((qf c t m a).2.1.dn=false->a.dn=false)/\((qf c t m a).2.1.ph.past=true->a.ph.past=true\/(a.ph= .ent 1/\(qf c t m a).2.1.ph= .ent 2)):=by
 unfold qf;cases e:a.ph with
 |idle=>exact⟨fun h=>h,fun _=> .inl rfl⟩
 |loc q=>exact⟨fun h=>by rw[qfJ] at h;exact h,fun _=> .inl rfl⟩
 |ent j=>
  dsimp only
  split
  ·rename_i d;exact⟨fun h=>h,(fun h=>by cases h)⟩
  ·split
   ·rename_i f;exact⟨fun h=>h,fun _=> .inr ⟨by rw[f],rfl⟩⟩
   ·rename_i d f;exact⟨fun h=>h,fun _=> .inl (by show decide (2<=j)=true;exact decide_eq_true Yb)⟩
 |rd j b v=>
  dsimp only;refine⟨fun h=>?_,fun _=> .inl rfl⟩
  split at h
  ·dsimp only at h
   split at h
   ·rw[q1g] at h;exact h
   ·exact h
  ·split at h
   ·exact h
   ·dsimp only at h
    split at h
    ·rw[q1g] at h;exact h
    ·split at h
     ·rw[q1g] at h;exact h
     ·unfold AT.got at h
      split at h
      ·exact h
      ·rw[qcW] at h;exact h
 |pp j kc d v=>
  dsimp only;refine⟨fun h=>?_,fun _=> .inl rfl⟩
  split at h
  ·dsimp only at h
   split at h
   ·rw[q9L] at h;exact h
   ·exact h
  ·split at h
   ·exact h
   ·split at h
    ·rw[q9L] at h;exact h
    ·exact h
 |ph j b d=>
  dsimp only;refine⟨fun h=>?_,fun _=> .inl rfl⟩
  revert h
  generalize q0p c m j b d=q;obtain⟨m',z,ac,p⟩:=q;cases z with
  |none=>exact fun h=>(AT.fin_al {a with pu:=a.pu+1}).2.2.2.1.symm.trans h
  |some z=>exact fun h=>h
 |lk s ld=>
  dsimp only;refine⟨fun h=>?_,fun _=> .inl rfl⟩
  split at h
  ·exact h
  ·split at h <;>exact h
 |tn b=>
  dsimp only;refine⟨fun h=>?_,fun _=> .inl rfl⟩
  split at h
  ·exact h
  ·dsimp only at h
   split at h
   ·split at h <;>exact h
   ·exact h
 |ck l=>
  dsimp only;refine⟨fun h=>?_,fun _=> .inl rfl⟩
  split at h
  ·rw[(q4F _).1] at h;exact h
  ·split at h <;>exact h
 |dc=>
  dsimp only;refine⟨fun h=>?_,fun _=> .inl rfl⟩
  split at h
  ·rw[(q4F _).1] at h;exact h
  ·split at h
   ·cases h
   ·rw[(q4F _).1] at h;cases h
 |wr A V=>
  dsimp only;refine⟨fun h=>?_,fun _=> .inl rfl⟩
  split at h <;>exact h
 |rl A V=>
  dsimp only;refine⟨fun h=>?_,fun _=> .inl rfl⟩
  split at h <;>exact h
 |sp=>exact⟨fun h=>h,fun _=> .inl rfl⟩
 |ps=>exact⟨fun h=>(AT.fin_al a).2.2.2.1.symm.trans h,fun _=> .inl rfl⟩
 |lv=>exact⟨fun h=>h,fun _=> .inl rfl⟩
theorem qhk(h:(qf c t m a).2.2.2=3):a.ph= .ent 1/\(qf c t m a).2.1.ph= .ent 2:=by
 unfold qf at h ⊢;cases e:a.ph with
 |ent j=>
  rw[e] at h;dsimp only at h ⊢
  split at h
  ·exact absurd h (by show(2:Int)≠3;decide)
  ·split at h
   ·rename_i d o;rw[if_neg d,if_pos o];exact⟨by rw[o],rfl⟩
   ·exact absurd h (by show(4:Int)≠3;decide)
 |rd j b v=>
  rw[e] at h;dsimp only at h;exfalso
  split at h
  ·exact absurd h (by show(5:Int)≠3;decide)
  ·split at h
   ·exact absurd h (by show(6:Int)≠3;decide)
   ·exact absurd h (by show(7:Int)≠3;decide)
 |pp j kc d v=>
  rw[e] at h;dsimp only at h;exfalso
  split at h
  ·exact absurd h (by show(8:Int)≠3;decide)
  ·split at h
   ·exact absurd h (by show(9:Int)≠3;decide)
   ·split at h
    ·exact absurd h (by show(10:Int)≠3;decide)
    ·exact absurd h (by show(10:Int)≠3;decide)
 |ph j b d=>
  rw[e] at h;exfalso;have f:(q0p c m j b d).2.2.2≠3:=by
   unfold q0p
   split
   ·show(21:Int)≠3;decide
   ·split
    ·show(22:Int)≠3;decide
    ·split
     ·show(23:Int)≠3;decide
     ·show(23:Int)≠3;decide
  revert h f
  dsimp only;generalize q0p c m j b d=q;obtain⟨m',z,ac,p⟩:=q;intro h f;cases z with
  |none=>exact f h
  |some z=>exact f h
 |lk s ld=>
  rw[e] at h;dsimp only at h;exfalso
  split at h
  ·exact absurd h (by show(11:Int)≠3;decide)
  ·split at h
   ·exact absurd h (by show(12:Int)≠3;decide)
   ·exact absurd h (by show(12:Int)≠3;decide)
 |tn b=>
  rw[e] at h;dsimp only at h;exfalso
  split at h
  ·exact absurd h (by show(13:Int)≠3;decide)
  ·exact absurd h (by show(14:Int)≠3;decide)
 |idle=>rw[e] at h;exact absurd h (by show(0:Int)≠3;decide)
 |loc q=>rw[e] at h;exact absurd h (by show(0:Int)≠3;decide)
 |ck l=>rw[e] at h;exact absurd h (by show(15:Int)≠3;decide)
 |dc=>rw[e] at h;exact absurd h (by show(16:Int)≠3;decide)
 |wr A V=>rw[e] at h;exact absurd h (by show(17:Int)≠3;decide)
 |rl A V=>rw[e] at h;exact absurd h (by show(18:Int)≠3;decide)
 |sp=>rw[e] at h;exact absurd h (by show(19:Int)≠3;decide)
 |ps=>rw[e] at h;exact absurd h (by show(20:Int)≠3;decide)
 |lv=>rw[e] at h;exact absurd h (by show(24:Int)≠3;decide)
theorem qci{b:AT}(h:(q0A c p t m x a i).2.1.at'=some b):b=(qf c t m a).2.1:=by
 rw[q37] at h
 split at h
 ·exact(Option.some.inj h).symm
 ·unfold GT.ans at h
  split at h
  ·split at h
   ·rw[q7w.1] at h;cases h
   ·rw[q7v.1] at h;cases h
  ·split at h
   ·exact(Option.some.inj h).symm
   ·split at h <;>exact(Option.some.inj h).symm
theorem q7m(I:AI c t m a){x0:GT}(d:x0.at'=some a\/(a.ph≠ .ent 1/\a.ph≠ .dc/\(a.ph.past=true->∃a0,x0.at'=some a0/\(a.dn=false->a0.dn=false)/\a0.ph.past=true))):qio c p t x0 (q0A c p t m x a i).2.1 (q0A c p t m x a i).2.2.2:=by
 obtain⟨d1,d2⟩:=qhj (c:=c) (t:=t) (m:=m) (a:=a);have N:=qhk (c:=c) (t:=t) (m:=m) (a:=a);have P:=qeT (c:=c) (t:=t) (m:=m) (a:=a);have F:(q0A c p t m x a i).2.2.2=evA c t (qf c t m a).2.1 (qf c t m a).2.2.2:=rfl;rw[F];unfold evA
 by_cases w:(qf c t m a).2.2.2=3
 ·rw[if_pos w];obtain⟨j,v⟩:=N w
  rcases d with d|⟨d,_⟩
  ·have hb:(qf c t m a).2.1.busy=true:=by unfold AT.busy;rw[v]
   refine .bg a (qf c t m a).2.1 d j ?_ ?_ v
   ·have:=I.ph;unfold PhA at this;rw[j] at this;exact this.1.1
   ·unfold q0A;dsimp only;rw[if_pos hb]
  ·exact absurd j d
 ·rw[if_neg w]
  by_cases f:(qf c t m a).2.2.2=16/\(qf c t m a).2.1.dn=true
  ·rw[if_pos f];have j:=P f.1
   rcases d with d|⟨_,d,_⟩
   ·have s:a.dn=false:=by
     have:=I.ph;unfold PhA at this;rw[j] at this;exact this.1
    have G:=q33 (c:=c) (t:=t) (m:=m) j;have z:(qf c t m a).2.1.seen=a.seen/\(qf c t m a).2.1.ad=a.ad/\(qf c t m a).2.1.code=a.code/\(qf c t m a).2.1.busy=true:=by
     have hd:=f.2;rw[G] at hd ⊢;dsimp only at hd ⊢;have K:∀y:AT,y.rest.seen=y.seen/\y.rest.ad=y.ad/\y.rest.code=y.code/\y.rest.busy=true:=fun y=>by unfold AT.rest;split <;>exact⟨rfl,rfl,rfl,rfl⟩
     split
     ·rename_i C;rw[if_pos C,(q4F _).1] at hd;rw[show({a with ck:=m.ck,code:=6}:AT).dn=a.dn from rfl,s] at hd;cases hd
     ·split
      ·exact⟨rfl,rfl,rfl,rfl⟩
      ·exact K _
    rw[z.1,z.2.1,z.2.2.1];refine .en a (qf c t m a).2.1 d j s ?_ f.2;unfold q0A;dsimp only;rw[if_pos z.2.2.2]
   ·exact absurd j d
  ·rw[if_neg f];refine .no fun b hb o A=>?_
   obtain rfl:=qci hb
   rcases d2 A with h|⟨h,h'⟩
   ·rcases d with d|⟨_,_,d⟩
    ·exact⟨a,d,d1 o,h⟩
    ·obtain⟨a0,j,v,J⟩:=d h;exact⟨a0,j,v (d1 o),J⟩
   ·exfalso;apply w;unfold qf;rw[h];rfl
theorem qmq{rg:Rg}:(q11 c rg a i).ph≠ .ent 1/\(q11 c rg a i).ph≠ .dc/\(q11 c rg a i).dn=a.dn:=by
 unfold q11 AT.read AT.alloc AT.free
 (repeat' split) <;>exact⟨(fun h=>by cases h),(fun h=>by cases h),rfl⟩
theorem qld:(q1i c x a i).ph≠ .ent 1/\(q1i c x a i).ph≠ .dc/\(q1i c x a i).dn=a.dn:=by
 unfold q1i AT.read
 (repeat' split) <;>exact⟨(fun h=>by cases h),(fun h=>by cases h),rfl⟩
theorem qkC(hC:COk c)(h:q5L c ps n k q g r)(Q:q.xs[t]? =some x)(Y:ps[t]? =some p)(N:PrO p)(hd:x.th.dn=false):qio c p t x (qY c p n t q.m x).2.1 (qY c p n t q.m x).2.2.2:=by
 obtain⟨f1,f2⟩:=h.fn Q Y N;obtain⟨i,hi,f3⟩:=f2 hd;have v:∀x',x'.at'=none->qio c p t x x' []:=fun x' e=> .no fun b hb=>by rw[e] at hb;cases hb
 have hw:x.at'=none->∀f,qio c p t x (qM c n p t q.m x f).2.1 (qM c n p t q.m x f).2.2.2:=fun d f=>by
  have e:(qM c n p t q.m x f).2.2.2= []:=by
   unfold qM;cases f.dr with
   |none=>rfl
   |some z=>
    obtain⟨l,q0,h0⟩:=z;dsimp only;generalize q0p c q.m q0 (l.headD 0) h0=F;obtain⟨m',z,ac,ph⟩:=F;cases z <;>rfl
  rw[e];refine v _ ?_;obtain⟨_,_,⟨X,w0,_,W,_⟩|⟨_,W,_⟩⟩:=qij (c:=c) (n:=n) (p:=p) (t:=t) (m:=q.m) (x:=x) f
  ·rw[w0];exact W.trans d
  ·exact W.trans d
 unfold qY;rw[hi];dsimp only;cases hf:x.fn with
 |some f=>exact hw (f1 (by rw[hf];exact fun e=>by cases e)) f
 |none=>
  dsimp only;cases d:x.at' with
  |some a=>
   dsimp only;have G:=h.gi.ai t x a Q d
   split
   ·exact q7m G (.inl d)
   ·rename_i hb;have s:a.busy=false:=by simpa using hb
    have o:a.ph= .idle:=by
     unfold AT.busy at s;cases e:a.ph <;>rw[e] at s <;>first|rfl|cases s
    have A:=h.gi.th t x p Q Y;have C:a.dn=false:=by
     have:=G.ph;unfold PhA at this;rw[o] at this;exact this.1
    unfold ThR at A;rw[d] at A;dsimp only at A;rw[if_neg (by rw[C];decide)] at A
    split
    ·rename_i j;have I:=A.2.2.resolve_left fun e=>by rw[e.sg] at j;cases j
     obtain⟨_,w,_⟩:=I.ask G o hi;obtain⟨F,R,U⟩:=qld (c:=c) (x:=x) (a:=a) (i:=i);exact q7m w (.inr ⟨F,R,fun _=>⟨a,d,fun e=>by rw[U] at e;exact e,by rw[o];rfl⟩⟩)
    ·rename_i j;obtain⟨b1,b2,b3,Z⟩:=f3 a d s (by simpa using j);unfold q2l;rw[if_neg Yb,if_neg Z];unfold q1m;rw[if_neg b1]
     by_cases P:(8<=i.op/\i.op<=11)\/i.op=14\/i.op=15
     ·rw[if_pos P,d];dsimp only;have I:=A.2.2.resolve_right fun e=>by rw[e.sg] at j;exact j rfl
      obtain⟨_,w,_⟩:=qaC hC I G o hi P;obtain⟨F,R,U⟩:=qmq (c:=c) (a:=a) (i:=i) (rg:=x.th.rg);exact q7m w (.inr ⟨F,R,fun _=>⟨a,d,fun e=>by rw[U] at e;exact e,by rw[o];rfl⟩⟩)
     ·rw[if_neg P];refine .no fun b hb J K=>?_
      have e:x.at'=some b:=hb;exact⟨b,e,J,K⟩
  |none=>
   dsimp only;unfold q2l
   split
   ·unfold q0c
    split
    ·exact v _ d
    ·exact q7m AI.start (.inr ⟨(fun e=>by cases e),(fun e=>by cases e),(fun e=>by cases e)⟩)
   ·split
    ·exact hw d _
    ·unfold q1m
     split
     ·exact q7m AI.start (.inr ⟨(fun e=>by cases e),(fun e=>by cases e),(fun e=>by cases e)⟩)
     ·split
      ·rw[d];exact v _ d
      ·exact v _ d
theorem q40{E:jj}{e:EvM}:q8Y (E++ [e])=e.ev:=by unfold q8Y;rw[List.getLast?_concat]
theorem qhu.zero{m:MS}{xs:List GT}(h:∀(u:Nat) y,xs[u]? =some y->y.at'=none):qhu n ⟨m,xs,[],[]⟩:=⟨.nil,zK _,zN _,fun u y b d hb=>(by rw[h u y d] at hb;cases hb),fun e he=>(by cases he)⟩
theorem qhu.step(hC:COk c)(hk:k<=1000)(h:q5L c ps n k q g r)(j:qhu n q)(ht:t<n)(W:∀p∈ps,PrO p):qhu n (q1j c ps n q t):=by
 have hw:=(qK hC.ck).1.2.1;obtain⟨x,C⟩:∃x,q.xs[t]? =some x:=⟨_,z6 (by rw[h.gi.xl];exact ht)⟩
 obtain⟨p,R⟩:∃p,ps[t]? =some p:=⟨_,z6 (by rw[h.gi.pl];exact ht)⟩
 have U:=W p (zh R);cases hd:x.th.dn with
 |true=>
  rw[(q95 (c:=c) (ps:=ps) (n:=n) C hd).1];exact j
 |false=>
  rw[(q96 (c:=c) (ps:=ps) (n:=n) C R hd).1];have I:=qkC hC h C R U hd;generalize qY c p n t q.m x=z at I ⊢;obtain⟨m',x',s,es⟩:=z;dsimp only at I ⊢;have hlen:(q.S++ [s]).length=q.S.length+1:=by rw[z8,zA]
  have J:=j.ev;have hel:=j.el;have A:∀(u:Nat) y,u≠t->(q.xs.set t x')[u]? =some y->q.xs[u]? =some y:=fun u y hu v=>by rw[q0R hu] at v;exact v
  have F:∀y,(q.xs.set t x')[t]? =some y->y=x':=fun y v=>by rw[q0H C] at v;cases v;rfl
  ·cases I with
   |no Q=>
    rw[Zx,zC];refine⟨j.tr,?_,?_,fun u y b v hb d o=>?_,j.ko⟩
    ·dsimp only;omega
    ·dsimp only;omega
    ·by_cases hu:u=t
     ·subst hu;obtain rfl:=F y v;obtain⟨a,G,K,N⟩:=Q b hb d o;exact j.lk u x a C G K N
     ·exact j.lk u y b (A u y hu v) hb d o
   |bg a a' G K N Y Z=>
    refine⟨.snoc j.tr ⟨⟨?_,?_⟩,?_,?_,?_,?_,?_,?_,?_,?_⟩,?_,?_,fun u y b v hb d o=>?_,fun e he=>(zw.1 he).elim (j.ko e) fun h=> .inl (by rw[zf.1 h];rfl)⟩
    ·show(0:Int)<=t;omega
    ·show(t:Int)<n;omega
    ·exact⟨by show(1:Int)<=3;decide,by show(3:Int)<=4;decide⟩
    ·exact⟨by show(0:Int)<=0;decide,by show(0:Int)<64;decide⟩
    ·intro w hw;cases hw
    ·intro w hw;cases hw
    ·intro e;exact absurd e (by show ¬(3:Int)=4;decide)
    ·intro _;exact⟨rfl,rfl⟩
    ·exact J
    ·exact⟨zl _,zl _⟩
    ·show q8Y (q.E++ [_])<=_;rw[q40,hlen];show(q.S.length:Int)<=_;omega
    ·show(q.E++ [_]).length<=_;rw[hlen,z8,zA];omega
    ·show lkE (q.E++ [_]) u=3;rw[q4B (by show(3:Int)≠0;decide)]
     by_cases hu:u=t
     ·subst hu;exact if_pos rfl
     ·rw[if_neg (by show ¬(t:Int)=u;omega)];exact j.lk u y b (A u y hu v) hb d o
   |en a a' G K N Y Z=>
    have P:=h.gi.ai t x a C G;have h3:=j.lk t x a C G N (by rw[K];rfl);refine⟨.snoc j.tr ⟨⟨?_,?_⟩,?_,?_,?_,?_,?_,?_,?_,?_⟩,?_,?_,fun u y b v hb d o=>?_,fun e he=>(zw.1 he).elim (j.ko e) fun h=> .inr (by rw[zf.1 h];rfl)⟩
    ·show(0:Int)<=t;omega
    ·show(t:Int)<n;omega
    ·exact⟨by show(1:Int)<=4;decide,by show(4:Int)<=4;decide⟩
    ·exact⟨by show(0:Int)<=0;decide,by show(0:Int)<64;decide⟩
    ·intro w hw;exact((h.xt t x C).at' a G).sw w hw
    ·intro w hw;have f:w∈(if a.code=1 then a.ad.filter fun x=>decide (x<c.words) else []):=hw
     split at f
     ·have:=P.ar w (ZO.1 f).1;have:=of_decide_eq_true (ZO.1 f).2;omega
     ·cases f
    ·intro _;exact h3
    ·intro e;exact absurd rfl e
    ·exact J
    ·refine⟨Zq ((h.xt t x C).at' a G).ln hk,?_⟩;show(if a.code=1 then a.ad.filter fun x=>decide (x<c.words) else []).length<=64
     split
     ·exact qfR 64 _ (P.an.sublist List.filter_sublist) fun w f=>by
       have:=P.ar w (ZO.1 f).1;have:=of_decide_eq_true (ZO.1 f).2;omega
     ·exact zl _
    ·show q8Y (q.E++ [_])<=_;rw[q40,hlen];show(q.S.length:Int)<=_;omega
    ·show(q.E++ [_]).length<=_;rw[hlen,z8,zA];omega
    ·show lkE (q.E++ [_]) u=3;rw[q4B (by show(4:Int)≠0;decide)]
     by_cases hu:u=t
     ·subst hu;obtain rfl:=F y v;rw[Y] at hb;cases hb;rw[Z] at d;cases d
     ·rw[if_neg (by show ¬(t:Int)=u;omega)];exact j.lk u y b (A u y hu v) hb d o
end
open Go
section
variable{c:Cfg}{ps:List (jf)}{n k:Nat}{q:RM}{g:GS}{r:Nat->List (Int×Int)}
theorem qkL{x:GT}{a:AT}{A V:jd}{m:MS}{t:Nat}(s:AI c t m a)(v:x.at'=some a)(h:a.ph= .wr A V):x.stor=true:=by
 have d:=s.ph;unfold PhA at d;rw[h] at d;unfold GT.stor;rw[v];dsimp only;rw[h];dsimp only;obtain⟨f,j,o,h4,_⟩:=d;rw[f,Bool.and_true,Bool.true_and];unfold AT.sto;simp[j,o]
theorem q5L.obs(h:q5L c ps n k q g r)(t:Nat)(x:GT)(j:q.xs[t]? =some x):∃s,g.O.getD t []=x.obs++s:=by
 obtain⟨p,o⟩:∃p,ps[t]? =some p:=⟨_,z6 (by have:=(z7.1 j).1;rw[h.gi.pl,<-h.gi.xl];exact this)⟩
 have d:=h.gi.th t x p j o;unfold ThR at d;cases f:x.at' with
 |none=>rw[f] at d;exact⟨[],by rw[zC];exact d.2.1⟩
 |some a=>
  rw[f] at d;dsimp only at d
  split at d
  ·exact⟨_,d.2.1⟩
  ·exact⟨[],by rw[zC];exact d.2.1⟩
theorem q5L.dat(h:q5L c ps n k q g r):q.xs.any GT.stor=true\/∃s,q.m.d=g.d++s:=by
 rcases h.gi.mr with ⟨u,y,b,A,V,d,hb,f,_⟩|⟨_,e⟩
 ·exact .inl (yW.2 ⟨y,zh d,qkL (h.gi.ai u y b d hb) hb f⟩)
 ·exact .inr ⟨_,e.symm⟩
theorem qlg{x x':GT}{s:StM}:∀z∈chN c x x' s,z.ad= []\/∃a,x'.at'=some a/\z.ad=a.al.map (qs c):=by
 unfold chN;intro z d
 split at d
 ·split at d
  ·rename_i a f
   split at d
   ·rw[zf.1 d];exact .inr ⟨a,f,rfl⟩
   ·cases d
  ·cases d
 ·(repeat' split at d) <;>first|cases d;done|(rw[zf.1 d];exact .inl rfl)
theorem qiM{x x':GT}{s:StM}:(chN c x x' s).length<=1:=by
 unfold chN
 (repeat' split) <;>simp
end
open Go
theorem q6c{c:Cfg}{P:List (jf)}:∀(l:List ChM) (s s':GS) (k:Nat),q70 c P s l=some s'->q7P c P l k s= .inl s'
 | [],s,s',k,h=>by cases h;rfl
 |ch::l,s,s',k,h=>by
  unfold q70 at h;unfold q7P doM;cases e:chM c P s ch with
  |none=>rw[e] at h;cases h
  |some s1=>
   rw[e] at h;dsimp only at h ⊢;rw[if_pos rfl];exact q6c l _ s' (k+1) h
theorem qfC{b:Int}(c:Cfg):qs c b<=9223372036854775807:=by
 unfold qs
 split
 ·rename_i h;obtain⟨d,f,_⟩:=qK h.1;unfold okW at d;unfold okH okC nB nW at f
  (repeat' split) <;>omega
 ·decide
theorem qlh{c:Cfg}{ps:List (jf)}{n:Nat}{r:RM}{t:Nat}:(∀z∈chR c ps n r t,∀a∈z.ad,a<=9223372036854775807)/\(chR c ps n r t).length<=1:=by
 unfold chR
 split
 ·split
  ·exact⟨fun _ h=>(by cases h),zl _⟩
  ·refine⟨fun z f a d=>?_,qiM⟩
   rcases qlg z f with e|⟨b,_,e⟩
   ·rw[e] at d;cases d
   ·rw[e] at d;obtain⟨w,_,rfl⟩:=zO.1 d;exact qfC c
 ·exact⟨fun _ h=>(by cases h),zl _⟩
theorem q8I{c:Cfg}{ps:List (jf)}{n:Nat}:∀(l:jh) (r:RM),(∀z∈q5Q c ps n r l,∀a∈z.ad,a<=9223372036854775807)/\(q5Q c ps n r l).length<=l.length
 | [],_=>⟨fun _ h=>(by cases h),zN _⟩
 |t::l,r=>by
  obtain⟨d,h2⟩:=qlh (c:=c) (ps:=ps) (n:=n) (r:=r) (t:=t);obtain⟨f,h4⟩:=q8I l (q1j c ps n r t);refine⟨fun z j=>?_,?_⟩
  ·rcases zw.1 j with h|h
   ·exact d z h
   ·exact f z h
  ·show(chR c ps n r t++_).length<=_;rw[z8,zu];omega
theorem qfT{l:List OB}{o:OB}{W0:World}(h:o∈l):Ent W0 (qfe l) o.D:=by
 obtain⟨a,b,rfl⟩:=Zz h;unfold qfe;rw[zv,zG,zP,Z1];exact Ent.right.trans Ent.left
theorem qfW{l:List ObS}{o:ObS}{W0:World}(h:o∈l):Ent W0 (q5W l) o.D:=by
 obtain⟨a,b,rfl⟩:=Zz h;unfold q5W;rw[zv,zG,zP,Z1];exact Ent.right.trans Ent.left
section
variable{W0:World}{own:Own}{c:Cfg}
theorem qgf{ia pa ka:j8}{il ks:jd}{ic pc kc:Nat}{ps:ji}{ca:j8}{cc:Nat}{f:List CW}{d:List ChM}{g:GS}(U:qE W0)(W:RdE q06 1 W0 own ia il)(hil:il.length<=1000)(hw:∀x∈il,okU x)(Y:RdE PH.enc 1 W0 own pa ps)(Z:∀h∈ps,RdE Ins.enc 5 W0 own h.a h.p)
  (Q:RdE CH.enc 3 W0 own ca (f.map CW.h)) (R:∀z∈f,z.ok/\Ent W0 own z.D) (hm:f.map (fun z=>z.h.m)=d) (G:∀z∈d,∀a∈z.ad,a<=9223372036854775807) (hcl:d.length<=5000) (F:csM c il.length ps []=(0,0,0)) (o:q70 c (ps.map PH.p) (q4j c il (ps.map PH.p)) d=some g):
  jk W0 18 [q9e c ia il.length ic pa ps.length pc ka ks.length kc, .slice ca (f.map CW.h).length cc] own fun v own'=>∃y:RG,(v= .tuple #[y.v g,j4 0,j4 0]/\y.ok W0 g)/\Ent W0 own' (y.dD++(y.tD++(y.eD++(y.X++(y.oD++(q5W y.S++own)))))):=by
 have hml:f.length=d.length:=by rw[<-hm,zi]
 have J:=qmx (W0:=W0) (own:=own) (c:=c) (ic:=ic) (pc:=pc) (ka:=ka) (ks:=ks) (kc:=kc) (cc:=cc) U W Yb hw Y Z Q (fun x hx=>by
  obtain⟨z,N,rfl⟩:=zO.1 hx;obtain⟨A,C⟩:=R z N;exact⟨(A.rd (W0:=W0)).ent C,A.le,G z.h.m (by rw[<-hm];exact zO.2 ⟨z,N,rfl⟩)⟩) (by rw[zi];omega)
 have A:=q6c d _ _ 0 o;rw[show(f.map CW.h).map CH.m=d by rw[<-hm,ZV];rfl,A] at J;intro w hw;refine(J w hw).mono ?_;rintro e w' ⟨v,own',he,hs,⟨⟨k,e',rfl,I⟩,_⟩|⟨⟨y,s⟩,⟨rfl,_,C,P⟩,K⟩⟩
 ·exfalso
  rcases I with ⟨h,_⟩|⟨_,_,j,_,h⟩
  ·exact h (by rw[F])
  ·cases h
 ·cases C;exact⟨_,own',he,hs,y,⟨rfl,P⟩,by simp only[RG.D,zd] at K;exact K⟩
theorem qeJ{ia pa ka:j8}{il ks:jd}{ic pc kc O:Nat}{ps:ji}{l:jh}{g:GS}(hF:qE W0)(aN:csM c il.length ps ks=(0,0,0))(av:csM c il.length ps []=(0,0,0))(hc:qI c=0)(hI:RdE q06 1 W0 own ia il)(aS:(il.length:Int)=c.words)(aR:il≠ [])(az:il.length<=1000)(aT:∀x∈il,okU x)(hO:c.orecs=(O:Int))(aK:O<=1000)
  (hP:RdE PH.enc 1 W0 own pa ps) (hQ:∀h∈ps,RdE Ins.enc 5 W0 own h.a h.p) (hK:RdE qw 1 W0 own ka ks) (aW:1<=ps.length) (hn:ps.length<=16) (aM:∀h∈ps,qB h.p=(0,0)) (aZ:∀h∈ps,h.p.length<=100000)
  (d:ks=l.map fun t=>((t:Nat):Int)) (aU:l.length<=1000) (aV:∀t∈l,t<ps.length) (hg:∀k t,l[k]? =some t->StG c (ps.map PH.p) ps.length (q0Y c il O (ps.map PH.p) (l.take k)) t) (hS:(q0Y c il O (ps.map PH.p) l).S.length<=1000) (aC:∀x∈(q0Y c il O (ps.map PH.p) l).xs,x.obs.length<=100000)
  (bw:∀(u:Nat) x a,(q0Y c il O (ps.map PH.p) l).xs[u]? =some x->x.at'=some a->0<=a.ck/\a.ck<=1099511627776)
  (aF:q70 c (ps.map PH.p) (q4j c il (ps.map PH.p)) (q5Q c (ps.map PH.p) (ps.map PH.p).length ⟨ms0 c il O (ps.map PH.p).length,(ps.map PH.p).map q3f,[],[]⟩ l)=some g)
  (hgol:g.O.length=(q0Y c il O (ps.map PH.p) l).xs.length) (aQ:∀(t:Nat) x,(q0Y c il O (ps.map PH.p) l).xs[t]? =some x->∃s,g.O.getD t []=x.obs++s) (aP:(q0Y c il O (ps.map PH.p) l).xs.any GT.stor=true\/∃s,(q0Y c il O (ps.map PH.p) l).m.d=g.d++s) (hgl:g.d.length<=1000):
  jk W0 9 [q9e c ia il.length ic pa ps.length pc ka ks.length kc] own fun v own'=>∃_:Unit,v= .tuple #[j4 0,j4 0,j4 0]/\Ent W0 own' own:=by
 refine qG (sH (3::5::7::9::11::1::14::15::17::19::21::24::26::27::29::0::24::14::15::17::19::21::26::27::29::0::(jo 20 3 [0])) ?_);have bu:=fun(own':Own) (m:qx own' own)=>qkr (W0:=W0) (own:=own') (c:=c) (ic:=ic) (pc:=pc) (kc:=kc) hF aN hc hI.up aS aR az hO aK hP.up (fun h hh=>(hQ h hh).up) hK.up aW hn aM aZ d aU aV hg fun k=>Zq (q8I _ _).2 (by rw[zM];omega)
 obtain⟨aX,hcl⟩:=q8I (c:=c) (ps:=ps.map PH.p) (n:=(ps.map PH.p).length) l ⟨ms0 c il O (ps.map PH.p).length,(ps.map PH.p).map q3f,[],[]⟩;have hlen:(ps.map PH.p).length=ps.length:=zi ..;generalize q5Q c (ps.map PH.p) (ps.map PH.p).length ⟨ms0 c il O (ps.map PH.p).length,(ps.map PH.p).map q3f,[],[]⟩ l=cl at*;generalize q0Y c il O (ps.map PH.p) l=R at*;have bm:=fun(own':Own) (m:qx own' own) (ca:j8) (cc:Nat) (J:List CW) (hC:RdE CH.enc 3 W0 own' ca (J.map CW.h)) (hD:∀z∈J,z.ok/\Ent W0 own' z.D) (hm:J.map (fun z=>z.h.m)=cl)=>qgf (W0:=W0) (own:=own') (c:=c) (ia:=ia) (ic:=ic) (pc:=pc) (ka:=ka) (ks:=ks) (kc:=kc) (cc:=cc) hF hI.up az aT hP.up (fun h hh=>(hQ h hh).up) hC hD hm aX Yb av aF
 repeat'((try conv=>whnf);first|refine fD ?_|refine qg fun bk aL=>?_|(apply qe;first|refine qk (bu _ Ye) fun y v N=>?_;(obtain⟨xb,M,⟨ca,cc,cD⟩,J⟩:=y;obtain⟨rfl,f,hB,aE,au⟩:=N;dsimp only at f hB aE au;have bh:=fun(own':Own) (m:qx own' own) (m2:qx own' cD) (m3:qx own' (qbn J))=>bm own' m ca cc J ((hB.rd (W0:=W0)).up) (fun z Y=>⟨aE z Y,(m3.h W0).trans (qjs Y)⟩) au)|refine qk (bh _ Ye Ye Ye) fun y v N=>?_;(obtain⟨rfl,K⟩:=N;have bo:=fun Q=>q8c (W0:=W0) (n:=ps.length) f.ok (by have:=f.len;rw[hlen] at this;omega) hS (fun y hy=>aC y.x (by rw[<-f.x];exact zO.2 ⟨y,hy,rfl⟩)) Q)|refine qn (b:=M.b) (D:=M.mh.O R.m++(M.tD++(M.sD++(M.eD++(M.gD++(TsO c ps.length 0 M.L++ [])))))) bo (fun Q=>sbE) fun r v N=>?_;(obtain⟨rfl,hr⟩:=N;obtain⟨cs,ta,tc,tD,sa,sc,sD,ea,ec,oa,oc,oD,ol,da,el,eD,gD⟩:=r;have br:=hr.sh;obtain⟨a1,a2,a3,a4,a5,n1,c1,n2,c2,n3,c3,n4,c4,n5,c5,x1,x2,x3,P⟩:=br;dsimp only at P;subst P))|refine fO ?_|refine fA ?_|refine fL ?_|refine fM ?_|refine q1k.mk ?_ ?_)
 all_goals
  have ae:=hr.ho.rd (W0:=W0);have aq:=K.o.rd (W0:=W0);have j:=hr.ob;have G:=K.ol;dsimp only at ae j;have bz:(M.L.map fun y=>y.x.obs)=R.xs.map GT.obs:=by rw[<-f.x,ZV];rfl
  rw[bz] at j;have holl:ol.length=y.S.length:=by
   have h1:=congrArg List.length j;have h2:=congrArg List.length G;rw[zi,zi] at h1;rw[zi] at h2;omega
  have holn:ol.length<=16:=by
   have h1:=congrArg List.length j;have h2:=congrArg List.length G;have h4:=congrArg List.length f.x;have h5:=f.len;rw[zi,zi] at h1;rw[zi] at h2 h4;rw[hlen] at h5;omega
  refine qQ (σ:=Nat) (fun s=> [(48,j4 s)]) (fun _=>_) (fun s=>s<=ol.length) (fun s=>ol.length-s) 0 (zl _) (eF) Ent.refl rfl ?_;rintro i junk hi
  by_cases aA:i<ol.length
  ·obtain⟨o,ho⟩:∃o,ol[i]? =some o:=⟨_,z6 aA⟩
   obtain⟨z,Y⟩:∃z,y.S[i]? =some z:=⟨_,z6 Yb⟩
   obtain⟨x,hx,aG⟩:∃x,R.xs[i]? =some x/\o.l=x.obs:=by
    have:=congrArg (fun l=>l[i]?) j;simp only[zI,ho,Zm] at this;obtain⟨x,hx,h2⟩:=Zf.1 this.symm;exact⟨x,hx,h2.symm⟩
   obtain⟨s,aH⟩:∃s,z.l=o.l++s:=by
    have:=congrArg (fun l=>l[i]?) G;simp only[zI,Y,Zm] at this;obtain⟨s,hs⟩:=aQ i x hx;rw[zg,<-this] at hs;exact⟨s,by rw[aG];exact hs⟩
   have aB:(i:Int)<ol.length:=Yb;have aY:=hr.hv o (zh ho);have bA:=K.os z (zh Y);have W:RdE ObM.enc 3 W0 (qfe ol) o.a o.l:=(aY.rd (W0:=W0)).ent (qfT (zh ho));have Z:RdE ObM.enc 3 W0 (q5W y.S) z.a z.l:=(bA.rd (W0:=W0)).ent (qfW (zh Y));have hol5:o.l.length<=100000:=by
    rw[aG];exact aC x (zh hx)
   repeat'((try conv=>whnf);first|refine fF ?_|apply gLd;refine q0n ae ho rfl ?_|(apply qL;first|refine ixE ae ho ?_ ?_;(first|rfl|omega)))
   refine qQ (σ:=Nat) (fun s=> [(55,j4 s)]) (fun _=>_) (fun s=>s<=o.l.length) (fun s=>o.l.length-s) 0 (zl _) (eF) Ent.refl rfl ?_;rintro k aj hk
   by_cases d:k<o.l.length
   ·obtain⟨e,he⟩:∃e,o.l[k]? =some e:=⟨_,z6 d⟩
    have A:z.l[k]? =some e:=by rw[aH,zB d];exact he
    have C:(k:Int)<o.l.length:=Yb;have hkz:¬(k:Int)>=z.l.length:=by rw[aH,z8];omega
    repeat'((try conv=>whnf);first|refine fH ?_|refine fD ?_|refine fF ?_|refine fK ?_|refine qhG (by simp[eqC,q1u]) ?_|apply gLd;refine q0n aq Y rfl ?_|(apply qL;first|refine ixE W he ?_ ?_;(first|rfl|omega)|refine ixE aq Y ?_ ?_;(first|rfl|omega)|refine ixE Z A ?_ ?_;(first|rfl|omega))|(apply q27;first|refine q0O W he rfl ?_|refine q0O Z A rfl ?_)|refine fB ?_|refine fA ?_|refine fL ?_|refine fM ?_|refine qg fun bk aL=>?_)
    all_goals exact⟨k+1,d,Yb,(eF),sbE⟩
   ·obtain rfl:k=o.l.length:=Yb;have C:¬(o.l.length:Int)<o.l.length:=Yb
    repeat'((try conv=>whnf);first|refine fG ?_|refine fB ?_)
    all_goals exact⟨i+1,aA,Yb,(eF),sbE⟩
  ·obtain rfl:i=ol.length:=Yb;have aB:¬(ol.length:Int)<ol.length:=Yb;have I:=fun(Q:Own) (m:qx Q [(xb,xP M.b ca (J.map CW.h).length cc)])=>qbN (W0:=W0) (n:=ps.length) (xb:=xb) (ca:=ca) (k:=(J.map CW.h).length) (cc:=cc) f (by rw[hlen];exact hn) bw Q
   rw[hlen] at I;cases af:R.xs.any GT.stor with
   |true=>
    rw[af] at I
    repeat'((try conv=>whnf);first|refine fE ?_|refine fG ?_|(apply qe;first|refine q0e (F:= [(xb,xP M.b ca (J.map CW.h).length cc)]) (b:=M.b) (D:=M.mh.O R.m++(M.tD++(M.sD++(M.eD++(M.gD++(TsO c ps.length 0 M.L++ [])))))) I (fun Q=>sbE) fun _ v N=>?_;subst N)|refine fA ?_)
    all_goals exact⟨rfl,sbE⟩
   |false=>
    rw[af] at I
    repeat'((try conv=>whnf);first|refine fD ?_|refine fG ?_|(apply qe;first|refine q0e (F:= [(xb,xP M.b ca (J.map CW.h).length cc)]) (b:=M.b) (D:=M.mh.O R.m++(M.tD++(M.sD++(M.eD++(M.gD++(TsO c ps.length 0 M.L++ [])))))) I (fun Q=>sbE) fun _ v N=>?_;subst N)|refine fA ?_)
    obtain⟨ds,aO⟩:∃s,R.m.d=g.d++s:=aP.resolve_left (by rw[af];decide)
    obtain⟨aI,aJ,aw,w⟩:=hr.dd;have U:Value.slice a1 n1 c1= .slice aI R.m.d.length aJ:=aw;dsimp only at w;rw[aO] at w U;cases U;have ay:=K.d.rd (W0:=W0);refine qQ (σ:=Nat) (fun s=> [(92,j4 s)]) (fun _=>_) (fun s=>s<=g.d.length) (fun s=>g.d.length-s) 0 (zl _) (eF) Ent.refl rfl ?_;rintro k aj hk
    by_cases d:k<g.d.length
    ·obtain⟨e,he⟩:∃e,g.d[k]? =some e:=⟨_,z6 d⟩
     have C:(k:Int)<g.d.length:=Yb;have A:(g.d++ds)[k]? =some e:=by rw[zB d];exact he
     repeat'((try conv=>whnf);first|refine fF ?_|refine fG ?_|(apply gLd;first|refine q0n ay he rfl ?_|refine q0n w A rfl ?_)|(apply qL;first|refine ixE ay he ?_ ?_;(first|rfl|omega)|refine ixE w A ?_ ?_;(first|rfl|omega))|refine fB ?_|refine fA ?_)
     all_goals exact⟨k+1,d,Yb,(eF),sbE⟩
    ·obtain rfl:k=g.d.length:=Yb;have C:¬(g.d.length:Int)<g.d.length:=Yb
     repeat'((try conv=>whnf);first|refine fG ?_)
     all_goals exact⟨rfl,sbE⟩
end
open Go
def PhY:AP->Prop
 | .pp _ _ h _=>okU h
 | .ph _ _ h=>okU h
 |_=>True
structure AtY(c:Cfg)(a:AT):Prop where
 fb:∀b∈a.fr,0<=b/\b<qh c
 hd:PhY a.ph
structure ThY(c:Cfg)(x:GT):Prop where
 at':∀a,x.at'=some a->AtY c a
 fn:∀f l k h,x.fn=some f->f.dr=some (l,k,h)->okU h
section
variable{c:Cfg}{ps:List (jf)}{t n k:Nat}{m:MS}{a b:AT}{x:GT}{p:jf}{i:Ins}{q:RM}{g:GS}{r:Nat->List (Int×Int)}
theorem AtY.endA(h:AtY c a){q:Int}:AtY c (a.endA c q):=by unfold AT.endA;split <;>exact⟨h.fb,trivial⟩
theorem AtY.fin(h:∀b∈a.fr,0<=b/\b<qh c):AtY c a.fin:=by
 unfold AT.fin
 split
 ·exact⟨h,trivial⟩
 ·exact⟨h,qbW⟩
theorem AtY.undo(h:∀b∈a.fr,0<=b/\b<qh c){q:Int}:AtY c (a.undo q):=AtY.fin (a:={a with code:=q}) h
theorem AtY.rest(h:∀b∈a.fr,0<=b/\b<qh c):AtY c a.rest:=by unfold AT.rest;split <;>exact⟨h,trivial⟩
theorem AtY.frd(h:AtY c a){b v:Int}(hb:0<=b/\b<qh c):AtY c (a.frd c b v):=by
 unfold AT.frd
 split
 ·exact h.endA
 ·split
  ·exact AtY.undo h.fb
  ·split
   ·refine⟨fun z d=>?_,h.hd⟩
    rcases zw.1 d with d|d
    ·exact h.fb z d
    ·rw[zf.1 d];exact hb
   ·exact AtY.undo h.fb
theorem AtY.allo(h:AtY c a){kc b:Int}:AtY c (a.allo c kc b):=by
 unfold AT.allo
 split
 ·exact AtY.undo h.fb
 ·split
  ·exact AtY.undo (a:={a with al:=a.al++ [b]}) h.fb
  ·split
   ·exact⟨h.fb,h.hd⟩
   ·exact AtY.undo (a:={a with al:=a.al++ [b],ad:=_,vl:=_}) h.fb
theorem AtY.kont(h:AtY c a){q:Ko}(d:∀b v,q= .fd b v->0<=b/\b<qh c):AtY c (a.kont c q):=by
 cases q with
 |en q=>exact h.endA
 |tk v=>exact⟨h.fb,h.hd⟩
 |wr w v=>
  unfold AT.kont;dsimp only
  split
  ·exact h.endA
  ·split
   ·exact⟨h.fb,h.hd⟩
   ·exact AtY.undo h.fb
 |ud q=>exact AtY.undo h.fb
 |fd b v=>exact h.frd (d b v rfl)
theorem qmo{j:Nat}{b h:Int}(d:okU h)(hd:∀j,okU (m.hd.getD j 0)):∀z,(q0p c m j b h).2.1=some z->okU z.2:=by
 intro z e;unfold q0p at e
 split at e
 ·cases e;exact hd _
 ·split at e
  ·cases e;exact d
  ·split at e
   ·cases e
   ·cases e;exact d
theorem AtY.step(h:AtY c a)(G:AI c t m a)(hd:∀j,okU (m.hd.getD j 0)):AtY c (qf c t m a).2.1:=by
 have f:=G.ph;have w:=h.hd;have d:AtY c {a with ph:= .idle}:=⟨h.fb,trivial⟩
 unfold PhA at f;unfold qf;cases e:a.ph with
 |idle=>exact h
 |loc q=>
  rw[e] at f;exact AtY.kont (a:={a with ph:= .idle}) d f.2.2
 |ent j=>
  dsimp only
  split
  ·exact⟨h.fb,trivial⟩
  ·split <;>exact⟨h.fb,trivial⟩
 |rd j bf v=>
  rw[e] at f;dsimp only
  split
  ·dsimp only
   split
   ·exact AtY.undo h.fb
   ·exact⟨h.fb,trivial⟩
  ·split
   ·exact⟨h.fb,trivial⟩
   ·dsimp only
    split
    ·exact AtY.undo h.fb
    ·split
     ·exact AtY.undo (a:={a with seen:=a.saw c}) h.fb
     ·unfold AT.got
      split
      ·exact⟨h.fb,trivial⟩
      ·rename_i s _ o;exact AtY.frd (a:={a with seen:=a.saw c,set:=s,ph:= .idle}) ⟨h.fb,trivial⟩ ⟨by dsimp only at o ⊢;omega,f.2.2.2.2 (by dsimp only at o ⊢;omega)⟩
 |pp j kc C v=>
  rw[e] at w;dsimp only
  split
  ·dsimp only
   split
   ·exact d.allo
   ·exact⟨h.fb,hd _⟩
  ·split
   ·exact⟨h.fb,w⟩
   ·split
    ·exact d.allo
    ·exact⟨h.fb,w⟩
 |lk s ld=>
  dsimp only
  split
  ·exact⟨h.fb,trivial⟩
  ·split
   ·refine⟨h.fb,?_⟩;dsimp only
    split <;>trivial
   ·exact⟨h.fb,trivial⟩
 |tn q=>
  dsimp only
  split
  ·exact⟨h.fb,trivial⟩
  ·dsimp only
   split
   ·split <;>exact⟨h.fb,trivial⟩
   ·exact h
 |ck l=>
  dsimp only
  split
  ·exact AtY.rest (a:={a with code:=9}) h.fb
  ·split <;>exact⟨h.fb,trivial⟩
 |dc=>
  dsimp only
  split
  ·exact AtY.rest (a:={a with ck:=m.ck,code:=6}) h.fb
  ·split
   ·exact⟨h.fb,trivial⟩
   ·exact AtY.rest (a:={a with ck:=m.ck,dn:=true}) h.fb
 |wr A V=>
  dsimp only
  split <;>exact⟨h.fb,trivial⟩
 |rl A V=>
  dsimp only
  split
  ·refine⟨h.fb,?_⟩;dsimp only
   split <;>trivial
  ·exact⟨h.fb,trivial⟩
 |sp=>exact⟨h.fb,trivial⟩
 |ps=>exact AtY.fin h.fb
 |ph j b C=>
  rw[e] at w;have F:=qmo (c:=c) (m:=m) (j:=j) (b:=b) (h:=C) w hd;dsimp only
  revert F
  generalize q0p c m j b C=q;obtain⟨m',z,ac,p⟩:=q;intro F;cases z with
  |none=>exact AtY.fin (a:={a with pu:=a.pu+1}) h.fb
  |some z=>exact⟨h.fb,F z rfl⟩
 |lv=>exact⟨h.fb,trivial⟩
theorem AtY.new:AtY c {AT.new with st:=1,ph:= .ent 0}:=⟨fun _ h=>(by cases h),trivial⟩
theorem AtY.read(h:AtY c a){w:Int}:AtY c (a.read c w):=by
 unfold AT.read
 split
 ·exact⟨h.fb,trivial⟩
 ·split <;>exact⟨h.fb,trivial⟩
theorem AtY.req(h:AtY c a){rg:Rg}:AtY c (q11 c rg a i):=by
 unfold q11
 split
 ·exact h.read
 ·split
  ·exact⟨h.fb,trivial⟩
  ·split
   ·unfold AT.alloc
    split
    ·exact⟨h.fb,trivial⟩
    ·exact⟨h.fb,qbW⟩
   ·split
    ·unfold AT.free
     split
     ·exact⟨h.fb,trivial⟩
     ·split <;>exact⟨h.fb,trivial⟩
    ·split <;>exact⟨h.fb,trivial⟩
theorem AtY.ask(h:AtY c a):AtY c (q1i c x a i):=by
 unfold q1i
 split
 ·exact⟨h.fb,trivial⟩
 ·split
  ·exact h.read
  ·exact⟨h.fb,trivial⟩
theorem qlS{x0:GT}{b:AT}:(q0A c p t m x0 b i).2.1.fn=x0.fn:=by
 rw[q37]
 split
 ·rfl
 ·unfold GT.ans
  split
  ·split
   ·unfold GT.endS GT.accG
    (repeat' split) <;>rfl
   ·unfold GT.endG;dsimp only
    (repeat' split) <;>rfl
  ·(repeat' split) <;>rfl
theorem ThY.adv{x0:GT}(h:ThY c x)(o:x0.fn=x.fn)(f:AtY c a)(d:AI c t m a)(hd:∀j,okU (m.hd.getD j 0)):ThY c (q0A c p t m x0 a i).2.1:=
 ⟨fun b e=>by rw[qci e];exact f.step d hd,by rw[qlS,o];exact h.fn⟩
theorem ThY.wait(s:x.at'=none){f:FT}(K:∀l k h,f.dr=some (l,k,h)->okU h)(hd:∀j,okU (m.hd.getD j 0)):ThY c (qM c n p t m x f).2.1:=by
 have w:∀y:GT,y.at'=none->y.fn=none->ThY c y:=fun y A C=>⟨fun b e=>(by rw[A] at e;cases e),fun f l k h e=>(by rw[C] at e;cases e)⟩
 have o:∀(y:GT) (F:FT),y.at'=none->y.fn=some F->(∀l k h,F.dr=some (l,k,h)->okU h)->ThY c y:=fun y F A C J=>⟨fun b e=>(by rw[A] at e;cases e),fun f l k h e=>(by rw[C] at e;cases e;exact J l k h)⟩
 have d:(q1c t m f).1.dr=none\/(q1c t m f).1.dr=f.dr:=by
  unfold q1c
  split
  ·exact .inl rfl
  ·dsimp only
   split
   ·exact .inr rfl
   ·exact .inr rfl
 unfold qM;cases v:f.dr with
 |none=>
  rw[v] at d;have d:(q1c t m f).1.dr=none:=d.elim id id;dsimp only
  split
  ·split
   ·exact w _ s rfl
   ·exact o _ _ s rfl fun l k h e=>by cases e;exact qbW
  ·exact o _ _ s rfl fun l k h e=>by rw[d] at e;cases e
 |some z=>
  obtain⟨l,q,G⟩:=z;have I:=qmo (c:=c) (m:=m) (j:=q) (b:=l.headD 0) (h:=G) (K l q G v) hd;dsimp only
  revert I
  generalize q0p c m q (l.headD 0) G=q;obtain⟨m',z,ac,p⟩:=q;intro I;cases z with
  |none=>
   dsimp only
   split
   ·exact w _ s rfl
   ·exact o _ _ s rfl fun l k h e=>by cases e;exact qbW
  |some z=>exact o _ _ s rfl fun l k h e=>by cases e;exact I z rfl
theorem ThY.keep{x':GT}(h:ThY c x)(d:x'.at'=x.at')(f:x'.fn=x.fn):ThY c x':=⟨by rw[d];exact h.at',by rw[f];exact h.fn⟩
theorem ThY.step(W:COk c)(h:q5L c ps n k q g r)(hk:k<=1000000)(Q:q.xs[t]? =some x)(R:ps[t]? =some p)(N:PrO p)(hd:x.th.dn=false)(s:ThY c x):ThY c (qY c p n t q.m x).2.1:=by
 obtain⟨f1,f2⟩:=h.fn Q R N;obtain⟨i,hi,f3⟩:=f2 hd;have d:∀j,okU (q.m.hd.getD j 0):=fun j=>by
  have:=h.gi.ho.ht j;unfold q6v at this;exact⟨this.1,Yb⟩
 unfold qY;rw[hi];dsimp only;cases K:x.fn with
 |some f=>exact ThY.wait (f1 (by rw[K];exact fun e=>by cases e)) (fun l k h e=>s.fn f l k h K e) d
 |none=>
  dsimp only;cases z:x.at' with
  |some a=>
   dsimp only;have I:=h.gi.ai t x a Q z;have C:=s.at' a z
   split
   ·exact s.adv rfl C I d
   ·rename_i hb;have v:a.busy=false:=by simpa using hb
    have A:a.ph= .idle:=by
     unfold AT.busy at v;cases e:a.ph <;>rw[e] at v <;>first|rfl|cases v
    have F:=h.gi.th t x p Q R;have G:a.dn=false:=by
     have:=I.ph;unfold PhA at this;rw[A] at this;exact this.1
    unfold ThR at F;rw[z] at F;dsimp only at F;rw[if_neg (by rw[G];decide)] at F
    split
    ·rename_i o;have J:=F.2.2.resolve_left fun e=>by rw[e.sg] at o;cases o
     obtain⟨_,w,_⟩:=J.ask I A hi;exact s.adv K.symm C.ask w d
    ·rename_i o;obtain⟨b1,b2,b3,U⟩:=f3 a z v (by simpa using o);unfold q2l;rw[if_neg Yb,if_neg U];unfold q1m;rw[if_neg b1]
     by_cases P:(8<=i.op/\i.op<=11)\/i.op=14\/i.op=15
     ·rw[if_pos P,z];dsimp only;have J:=F.2.2.resolve_right fun e=>by rw[e.sg] at o;exact o rfl
      obtain⟨_,w,_⟩:=qaC W J I A hi P;exact s.adv rfl C.req w d
     ·rw[if_neg P];exact s.keep rfl rfl
  |none=>
   dsimp only;unfold q2l
   split
   ·unfold q0c
    split
    ·exact s.keep rfl rfl
    ·exact s.adv rfl AtY.new AI.start d
   ·split
    ·exact ThY.wait z (fun l k h e=>by cases e) d
    ·unfold q1m
     split
     ·exact s.adv rfl AtY.new AI.start d
     ·split
      ·rw[z];exact s
      ·exact s.keep rfl rfl
abbrev ql0(c:Cfg)(q:RM):Prop:=∀(t:Nat) x,q.xs[t]? =some x->ThY c x
theorem ql0.step(w:COk c)(h:q5L c ps n k q g r)(z:k<=1000000)(o:∀p∈ps,PrO p)(v:t<n)(s:ql0 c q):ql0 c (q1j c ps n q t):=by
 obtain⟨x,d⟩:∃x,q.xs[t]? =some x:=⟨_,z6 (by rw[h.gi.xl];exact v)⟩
 obtain⟨p,f⟩:∃p,ps[t]? =some p:=⟨_,z6 (by rw[h.gi.pl];exact v)⟩
 have j:=o p (zh f);cases hd:x.th.dn with
 |true=>
  rw[(q95 (c:=c) (ps:=ps) (n:=n) d hd).1];exact s
 |false=>
  rw[(q96 (c:=c) (ps:=ps) (n:=n) d f hd).1];intro u y hu;dsimp only at hu
  by_cases e:u=t
  ·subst e;rw[q0H d] at hu;cases hu;exact(s u x d).step w h z d f j hd
  ·rw[q0R e] at hu;exact s u y hu
end
open Go
section
variable{c:Cfg}{ps:List (jf)}{n k t:Nat}{m:MS}{xs:List GT}{tk:List Bool}{g:GS}{r:Nat->List (Int×Int)}{x:GT}{a:AT}{p:jf}{i:Ins}
theorem qao(d:GM c n k m){o:Int}(h:0<=o/\o.toNat<m.o.length):okO m o:=⟨o.toNat,(Zj h.1).symm,h.2,d.o _⟩
theorem qhY(d:GM c n k m){w:Int}(h:0<=w/\w<c.words+qh c):okD m w:=⟨w.toNat,(Zj h.1).symm,by have:=d.dl;omega⟩
theorem qdp(d:q0o c k m xs tk)(hk:k<=1000000){j:Int}(h:0<=j/\j<4):qnk m j:=⟨j.toNat,(Zj h.1).symm,Yb,by have:=d.hl;omega,by
 have:=d.ht j.toNat;unfold q6v at this;exact⟨this.1,Yb⟩⟩
theorem q6M{l:jd}(h:l≠ []):l.headD 0∈l:=by cases l with|nil=>exact absurd rfl h|cons y l=>exact zp
theorem qjw(o:q0o c k m xs tk)(s:xs[t]? =some x):(q0L x).Nodup/\∀b∈q0L x,0<=b/\b<qh c:=by
 obtain⟨L,ow,d⟩:=o.ex;obtain⟨f,j⟩:=d.ox t x s;exact⟨f,fun b hb=>(d.fr b _ (j b hb)).1⟩
theorem qdq(f:q0o c k m xs tk)(A:k<=1000000){b d:Int}{j:Nat}(hb:0<=b/\b<qh c)(w:q5Y m j b d)(z:okU d):qmh c m b j d:=by
 have hbb:=qP c;obtain⟨_,_,v,h2⟩:=blk hb.1 hb.2;have hn:=f.nl;have hj:=w.1;refine⟨qdp f A ⟨v,Yb⟩,?_⟩
 by_cases o:j=0
 ·exact .inl o
 ·refine .inr ⟨z,b.toNat,(Zj hb.1).symm,Yb,?_⟩
  by_cases s:j=1
  ·exact .inl ⟨s,Yb⟩
  ·exact .inr Yb
theorem qdo(Y:COk c)(F:GM c n k m)(P:q0o c k m xs tk)(J:AI c t m a)(hP:PuA c m a)(N:AtX k a)(hY:AtY c a)(R:∀b∈q4D a,0<=b/\b<qh c)(hk:k<=1000)(ht:t<n)(hn:n<=16)(hb:a.busy=true):okA c t m a:=by
 have f:=J.ph;have Z:=N.ph;have hsl:=F.sl;have hck:=F.ck;have hxc:=N.ck;obtain⟨hw,_,_,K⟩:=qK Y.ck;unfold okW at hw;unfold okK at K;have hbb:=qP c;have G:=hP.po;have hyp:=hY.hd;unfold PhA at f;unfold qbY at G;unfold okA;cases e:a.ph with
 |idle=>unfold AT.busy at hb;rw[e] at hb;cases hb
 |loc q=>
  rw[e] at f;exact⟨f.1.2.1,Yb,fun w v h=>f.2.1 w v h,f.2.2⟩
 |ent j=>
  rw[e] at f;dsimp only at f;have:=f.2;exact⟨Yb,Yb,Yb⟩
 |rd j b v=>
  rw[e] at f Z;obtain⟨hf,_,d,o,I⟩:=f;have ho:=Y.or a.addr d o;have z:=N.ls;have C:=N.ln;refine⟨qao F (F.len ho),qhY F ⟨d,o⟩,?_,Yb,Yb,Yb,?_,hf.2.1⟩
  ·rcases Z with h|h|h
   ·exact .inl h
   ·exact .inr (.inl h)
   ·exact .inr (.inr h.1)
  ·by_cases hu:0<=a.us
   ·exact I hu
   ·omega
 |pp j kc W v=>
  rw[e] at f G hyp;obtain⟨d,o,z⟩:=G;have hj:=f.2;have hnl:=P.nl;refine⟨Yb,qdp P Yb d,hyp,?_⟩
  by_cases e0:j=0
  ·exact .inl e0
  ·obtain⟨C,I,_⟩:=o Yb
   by_cases e1:j=1
   ·exact .inr (.inl ⟨e1,(q02 W).toNat,(Zj C).symm,Yb⟩)
   ·have U:j=2:=Yb;exact .inr (.inr ⟨U,(z U).1,C,I⟩)
 |lk s ld=>
  rw[e] at f;obtain⟨_,_,_,d,_,_,o⟩:=f;refine⟨d,qao F (J.oc _ ?_),fun hl=>?_,Yb⟩
  ·rw[zg,z6 d];exact ZW _
  ·obtain⟨z,C⟩:=o hl;unfold q3R at z;unfold okU at C;omega
 |tn _=>trivial
 |ck l=>
  rw[e] at f;obtain⟨_,_,_,_,d,o,_⟩:=f;exact⟨d,qao F (J.st _ (o _ (q6M d)))⟩
 |dc=>exact K
 |wr A V=>
  rw[e] at f;obtain⟨d,o,z,_,C,I,_,h6,_⟩:=f;refine⟨C,fun h=>C (zL.1 (by rw[I,h];rfl)),qhY F (J.ar _ (h6 _ (q6M C))),⟨d,decide_eq_true ⟨o,z⟩⟩,Yb⟩
 |rl l w=>
  rw[e] at f;obtain⟨d,o,z,_⟩:=f;exact⟨d,fun h=>d (zL.1 (by rw[z,h];rfl)),qao F (J.oc _ (o _ (q6M d))),Yb⟩
 |sp=>trivial
 |ps=>
  have d:=J.tk (by rw[e];rfl);have o:=F.tk;have z:=F.sv;exact⟨Yb,Yb⟩
 |ph j b W=>
  rw[e] at G hyp;obtain⟨d,o,z⟩:=G;have Q:=(z7.1 d).1;refine⟨Q,qdq P Yb (R b ?_) o hyp⟩;unfold q4D;rw[if_neg (fun h=>z h.2)];obtain⟨C,I⟩:=z7.1 d;rw[Zd C,I];exact zp
 |lv=>show t<m.sl.length;omega
theorem qcE(F:AtX k a)(G:AtY c a)(hd:q3x m.d)(A:GM c n k m)(o:AI c t m a)(d:PpX c a)(z:COk c)(C:q0o c k m xs tk)(hk:k<=1000):qf8 c t m a:=fun _=>by
 obtain⟨hw,_⟩:=qK z.ck;unfold okW at hw;have f:=(F.step (c:=c) (t:=t) hd A.ck d (fun j b v e=>by
  have:=o.ph;unfold PhA at this;rw[e] at this;exact this.2.2.1) hw.2.1).1
 have s:=G.step o fun j=>by
  have:=C.ht j;unfold q6v at this;exact⟨this.1,Yb⟩
 have h3:=f.cd;have w:=f.ck;exact⟨Yb,s.fb,w.1,Yb⟩
theorem qlV(j:COk c)(d:PrO p)(hl:p.length<=64):GoC c p:=by
 obtain⟨hw,_,o,_⟩:=qK j.ck;unfold okW at hw;unfold okL at o;refine⟨Yb,Yb,Yb,Yb,Yb,by rw[d.ck],fun b i hb f=>?_⟩;obtain⟨c',hc,_,h,_⟩:=q0v d.ck hb f;omega
theorem qlW(Q:COk c)(hn:n<=16)(s:k<=1000)(h:q0m c ps n k m xs g r)(I:ThX n k x)(hY:ThY c x)(hak:x.ask<=k)(hd:q3x m.d)(hx:xs[t]? =some x)(hp:ps[t]? =some p)(af:PrO p)(hl:p.length<=64)(aq:x.th.dn=false):∃i,GoT c p n t m x i:=by
 have d:=h.th t x p hx hp;have aj:t<n:=by rw[<-h.xl];exact(z7.1 hx).1
 have ho:=I.ob;have hs:=I.sn;have hct:=I.ct;have htr:=I.tr;have aC:=h.gm.sl;have hck:=h.gm.ck;have hbb:=qP c;obtain⟨aJ,U⟩:=qjw h.ho hx;have Z:∀b∈x.lm.map (·.1),b∈q0L x:=fun b hb=>zz _ (zz _ hb)
 have aI:∀q∈x.lm,0<=q.1/\q.1<qh c:=fun q hq=>U q.1 (Z _ (zO.2 ⟨q,hq,rfl⟩))
 have hll:x.lm.length<=64:=by
  have h1:(x.lm.map (·.1)).Nodup:=aJ.sublist ((Zl _ _).trans (Zl _ _));have:=qfR 64 (x.lm.map (·.1)) h1 fun w hw=>by have:=U w (Z w hw);omega
  rwa[zi] at this
 have K:∀a,x.at'=some a->∀b∈q4D a,0<=b/\b<qh c:=fun a R b hb=>U b (by unfold q0L;rw[R];exact zq _ hb)
 unfold ThR at d;have mk:∀i,p[x.th.pc]? =some i->(match x.at' with
  |none=>(match x.fn with
   |some f=>qmg c n m f
   |none=>locI i\/(i.op=7/\x.stg=false/\okA c t m a0T)\/((i.op=12\/i.op=13)/\c.strong=true/\okA c t m a0T)\/(i.op=16/\qhZ n m ⟨false,0,0,none⟩))
  |some a=>x.fn=none/\(x.stg=true->i.op=12\/i.op=13)/\(x.stg=false->∃bi,p[x.bg]? =some bi/\bi.op=7)/\((a.busy=true/\okA c t m a/\qf8 c t m a)\/
   (a.ph= .idle/\a.st=1/\((x.stg=true/\okA c t m (q1i c x a i)/\qf8 c t m (q1i c x a i))\/(x.stg=false/\(locI i\/(rqI i/\okA c t m (q11 c x.th.rg a i)/\qf8 c t m (q11 c x.th.rg a i))))))))->GoT c p n t m x i:=fun i hi aF=>by
  have hpl:=(z7.1 hi).1;exact⟨hi,qlZ (q2Z af.ck hi).1,I.rg,Yb,aq,Yb,Yb,Yb,Yb,Yb,Yb,aI,aF⟩
 have ae:okA c t m a0T:=⟨.inl rfl,Yb,Yb⟩
 cases R:x.at' with
 |none=>
  rw[R] at d mk;dsimp only at d mk;obtain⟨_,_,h3,h4,h5,_,_,aL⟩:=d;obtain⟨i,hi⟩:∃i,p[x.th.pc]? =some i:=⟨_,z6 (yM h3 fun e=>by rw[aq,decide_eq_true e] at h5;cases h5)⟩
  refine⟨i,mk i hi ?_⟩;cases hf:x.fn with
  |some f=>
   have ay:=I.fn f hf;have au:=h.ho.pf t x hx;dsimp only;unfold qmg;cases e:f.dr with
   |none=>exact⟨.inr ⟨ay.1,ay.2.2.1 e,Yb,Yb⟩,Yb,Yb,hn,aC⟩
   |some z=>
    obtain⟨l,j,N⟩:=z;have aw:x.fn=some ⟨f.ld,f.lim,f.nx,some (l,j,N)⟩:=by rw[hf,<-e]
    rw[aw] at au;obtain⟨_,d2,d3⟩:=au;dsimp only;refine qdq h.ho Yb (U _ ?_) d3 (hY.fn f l j N hf e);unfold q0L q5V;rw[aw];exact zz _ (zq _ (q6M d2))
  |none=>
   have:=qi2 af h4 hi;dsimp only;unfold locI
   rcases this with h|h|h|h|h|h
   ·exact .inr (.inl ⟨h,aL,ae⟩)
   ·exact .inr (.inr (.inl ⟨.inl h,Q.st,ae⟩))
   ·exact .inr (.inr (.inl ⟨.inr h,Q.st,ae⟩))
   ·exact .inr (.inr (.inr ⟨h, .inl rfl,Yb,Yb,hn,aC⟩))
   ·exact .inl (.inr h)
   ·exact .inl (.inl h)
 |some a=>
  rw[R] at d mk;dsimp only at d mk;have hA:=h.ai t x a hx R;have C:=I.at' a R;have F:=hY.at' a R;have A:=h.ho.pa t x a hx R;have K:=K a R;have av:x.fn=none/\x.th.pc<p.length:=by
   split at d
   ·exact⟨d.2.2.fn,d.2.2.pl⟩
   ·exact⟨d.2.2.fn,d.2.2.pl⟩
  obtain⟨i,hi⟩:∃i,p[x.th.pc]? =some i:=⟨_,z6 av.2⟩
  --which instruction it is
  have aB:x.stg=true->i.op=12\/i.op=13:=fun e=>by
   split at d
   ·rcases d.2.2.kd with s|s
    ·rw[s.1] at e;cases e
    ·obtain⟨j,Y,W⟩:=s.2.2.2.2.2;rw[hi] at Y;cases Y;exact W
   ·obtain⟨j,Y,W,_⟩:=(d.2.2.resolve_left fun h=>by rw[h.sg] at e;cases e).ph;rw[hi] at Y;cases Y;exact W
  have aA:x.stg=false->∃bi,p[x.bg]? =some bi/\bi.op=7:=fun e=>by
   split at d
   ·rcases d.2.2.kd with s|s
    ·exact s.2.1
    ·rw[s.1] at e;cases e
   ·exact(d.2.2.resolve_right fun h=>by rw[h.sg] at e;cases e).bg
  refine⟨i,mk i hi ⟨av.1,aB,aA,?_⟩⟩
  by_cases hb:a.busy=true
  ·exact .inl ⟨hb,qdo Q h.gm h.ho hA A C F K s aj hn hb,qcE C F hd h.gm hA A.ppx Q h.ho s⟩
  ·have o:a.ph= .idle:=by
    unfold AT.busy at hb;cases e:a.ph <;>rw[e] at hb <;>first|rfl|exact absurd rfl hb
   have J:a.dn=false:=by
    have:=hA.ph;unfold PhA at this;rw[o] at this;exact this.1
   rw[if_neg (by rw[J];decide)] at d;obtain⟨_,_,P⟩:=d;refine .inr ⟨o,P.st,?_⟩;have az:∀q:AT,q.dn=a.dn->(∀b∈q4D a,0<=b/\b<qh c)->q.al=a.al->q.pu=a.pu->∀b∈q4D q,0<=b/\b<qh c:=fun q e1 e2 e3 e4 b hb=>by
    refine e2 b ?_;unfold q4D at hb ⊢;rw[if_neg (by rw[e1,J];simp),e3,e4] at hb;rw[if_neg (by rw[J];simp)];exact hb
   rcases P with P|P
   ·refine .inr ⟨P.sg,?_⟩;obtain⟨i1,i2,_,_⟩:=P.req (fun k e=>by rw[o] at e;cases e) (by rw[o];rfl);obtain⟨ib,aG,h7⟩:=P.bg;obtain⟨_,_,_,j,Y,W,aH,_⟩:=q7F af aG h7 i1 i2;rw[hi] at Y;cases Y
    by_cases aK:(8<=i.op/\i.op<=11)\/i.op=14\/i.op=15
    ·obtain⟨_,f2,f3,f4,f5,f6,f7,f8,f9,f10,f11,f12,f13,f14⟩:=qaC Q P hA o hi aK;have G:PuA c m (q11 c x.th.rg a i):=⟨by
      unfold qbY;cases e:(q11 c x.th.rg a i).ph with
      |pp j kc N v=>
       rcases f13 with h|⟨aE,h⟩
       ·exact absurd e (h j kc N v)
       ·rw[e] at h;cases h;have:=qd2 aH aE;exact⟨this,fun h=>absurd h Yc,fun h=>absurd h Yc⟩
      |ph j b N=>exact absurd e (f14 j b N)
      |lv=>exact absurd e f8
      |_=>trivial,by rw[f11,f10.al];exact A.le,fun _=>by rw[f11];exact A.z (by rw[o];rfl)⟩
     refine .inr ⟨by unfold rqI;omega,qdo Q h.gm h.ho f2 G (C.req I.rg) F.req (az _ f4 K f10.al f11) s aj hn f3,qcE (C.req I.rg) F.req hd h.gm f2 G.ppx Q h.ho s⟩
    ·exact .inl (.inl Yb)
   ·obtain⟨_,f2,f3,f4,f5,f6,f7,f8,f9,f10,f11,f12,f13,f14⟩:=P.ask hA o hi;have G:PuA c m (q1i c x a i):=⟨by
     unfold qbY;cases e:(q1i c x a i).ph with
     |pp j kc N v=>exact absurd e (f13 j kc N v)
     |ph j b N=>exact absurd e (f14 j b N)
     |lv=>exact absurd e f8
     |_=>trivial,by rw[f11,f10.al];exact A.le,fun _=>by rw[f11];exact A.z (by rw[o];rfl)⟩
    exact .inl ⟨P.sg,qdo Q h.gm h.ho f2 G (C.ask I.rg) F.ask (az _ f4 K f10.al f11) s aj hn f3,qcE (C.ask I.rg) F.ask hd h.gm f2 G.ppx Q h.ho s⟩
end
open Go
structure qkZ(c:Cfg)(il:jd)(O:Nat)(ps:List (jf))(l:jh)(g:GS):Prop where
 hg:∀k t,l[k]? =some t->StG c ps ps.length (q0Y c il O ps (l.take k)) t
 hS:(q0Y c il O ps l).S.length<=1000
 hob:∀x∈(q0Y c il O ps l).xs,x.obs.length<=100000
 hxc:∀(u:Nat) x a,(q0Y c il O ps l).xs[u]? =some x->x.at'=some a->0<=a.ck/\a.ck<=1099511627776
 hrun:q70 c ps (q4j c il ps) (q5Q c ps ps.length ⟨ms0 c il O ps.length,ps.map q3f,[],[]⟩ l)=some g
 hgol:g.O.length=(q0Y c il O ps l).xs.length
 hgo:∀(t:Nat) x,(q0Y c il O ps l).xs[t]? =some x->∃s,g.O.getD t []=x.obs++s
 hgd:(q0Y c il O ps l).xs.any GT.stor=true\/∃s,(q0Y c il O ps l).m.d=g.d++s
 hgl:g.d.length<=1000
section
variable{c:Cfg}{ps:List (jf)}{n k:Nat}{q:RM}{g:GS}{r:Nat->List (Int×Int)}
theorem qjD{il:jd}{O:Nat}(w:COk c)(Z:ps.length<=16)(d:∀p∈ps,PrO p)(I:∀p∈ps,p.length<=64)(K:(il.length:Int)=c.words)(hO:c.orecs=(O:Int))(hw:q3x il){l:jh}(Y:∀t∈l,t<ps.length)(F:l.length<=1000):
  ∃g r,qkZ c il O ps l g/\q5L c ps ps.length l.length (q0Y c il O ps l) g r/\qhu ps.length (q0Y c il O ps l):=by
 have hz:=q5L.zero (c:=c) (ps:=ps) (O:=O) w K hO hw;have z:∀(u:Nat) y,(ps.map q3f)[u]? =some y->y.at'=none/\y.fn=none:=fun u y A=>by
  rw[zI] at A;obtain⟨p,_,rfl⟩:=Zf.1 A;exact⟨rfl,rfl⟩
 have s:=qdJ (P:=fun q _ _=>qhu ps.length q/\ql0 c q) w Z d hz ⟨qhu.zero fun u y A=>(z u y A).1,fun u y A=>⟨fun a e=>(by rw[(z u y A).1] at e;cases e),fun f j k h e=>(by rw[(z u y A).2] at e;cases e)⟩⟩
  fun k q g r t g' r' N U W C _ _=>⟨W.1.step w N U C d,ql0.step w U Yb d C W.2⟩
 obtain⟨g,r,h1,o,h3⟩:=s l.length l rfl Y F;obtain⟨J,_⟩:=qK w.ck;unfold okW at J;refine⟨g,r,⟨fun k t N=>?_,Zq o.sl F,fun x v=>?_,fun u x a v ha=>?_,h1,by rw[o.gi.ol,o.gi.xl],o.obs,o.dat,by have:=o.gi.dl;omega⟩,o,h3.1⟩
 ·have hkl:=(z7.1 N).1;have Q:(l.take k).length=k:=by rw[zM];omega
  obtain⟨g1,r1,_,i2,i3⟩:=s k (l.take k) Q (fun t C=>Y t (yz C)) Yb;refine⟨fun x p v G hd=>⟨qlV w (d p (zh G)) (I p (zh G)),?_⟩,Zq i2.sl Yb⟩;exact qlW w Z Yb i2.gi (i2.xt t x v) (i3.2 t x v) (i2.ak t x v) i2.dd v G (d p (zh G)) (I p (zh G)) hd
 ·obtain⟨t,C,R⟩:=yj v;have:=(o.xt t x (by rw[z6 C,R])).ob;omega
 ·have:=((o.xt u x v).at' a ha).ck;omega
end
namespace Ord
open Go
theorem q6L:∀l:jd,(l.map qw).flatten=l.map (Value.int .i64)
 | []=>rfl
 |x::l=>by simp[q6L l]
theorem _root_.Go.Proofs.YtfnghamklcdgnaaGreatDoor.St.put_row2{W0:World}{own:Own}{w:World}{b:Nat}{T:TypeId}{C:Own->Own}{l l':jd}{rest:je}{n:Nat}{os:Array Obj}(s:St W0 own w)(f:At [(b,j7 ((l.map qw).flatten++rest).toArray T)] own C)(A:l'.length=l.length):
  St W0 (C [(b,j7 ((l'.map qw).flatten++rest).toArray T)]) (Go.Sort.grow (Go.Sort.putRow (Value.int .i64) (Go.Sort.ahead w n) b 0 l'.toArray) os):=by
 have hu:=f.up (j7 ((l'.map qw).flatten++rest).toArray T);have hb:=s.mem_size hu.mem;refine s.up hu rfl rfl rfl ?_ ?_ ?_
 ·simp[Go.Sort.grow,Go.Sort.putRow,Go.Sort.mapBlock,Go.Sort.ahead]
 ·intro k d j;simp only[Go.Sort.grow,Go.Sort.putRow,Go.Sort.mapBlock,Go.Sort.ahead];rw[ZZ (by simpa using d),ZR,if_neg (fun e=>j e.symm)]
 ·obtain⟨o,F,G⟩:=s.owns _ hu.mem;refine⟨_,?_,rfl⟩;simp only[Go.Sort.grow,Go.Sort.putRow,Go.Sort.mapBlock,Go.Sort.ahead];rw[ZZ (by simpa using hb),ZR,if_pos rfl];have z:o=Obj.cells ((l.map qw).flatten++rest).toArray T:=G;have v:w.heap[b]? =some o:=F;rw[v,z];simp only[Zm,Go.Sort.onCells,Go.Sort.putCells,q6L]
  congr 2
  apply Array.ext';rw[Array.toList_mapIdx];refine List.ext_getElem (by simp[A]) fun k h1 h2=>?_
  simp only[List.getElem_mapIdx]
  by_cases d:k<l'.length
  ·rw[if_pos ⟨Yb,by simpa using d⟩,List.getElem_append_left (by simpa using d),getElem!_pos _ _ (by simpa using d)];simp
  ·rw[if_neg (by simp;omega),yc (by simp;omega),yc (by simp;omega)];simp[A]
section
variable{W0:World}{own:Own}
theorem q3u{w:World}{b:Nat}{l:jd}{rest:je}{T:TypeId}(s:St W0 own w)(hm:(b,j7 ((l.map qw).flatten++rest).toArray T)∈own):Go.Sort.Holds (Value.int .i64) w b 0 l.toArray:=fun j z=>by
 have d:j<l.length:=by simpa using z
 refine⟨?_,?_⟩
 ·rw[getElem!_pos _ j z];refine q0E hm ?_ w s;rw[zy,q6L,zQ,zB (by simpa using d)];simp[d]
 ·obtain⟨o,A,C⟩:=s.owns _ hm;have v:o=Obj.cells ((l.map qw).flatten++rest).toArray T:=C;have f:w.heap[b]? =some o:=A;simp[World.frozen?,f,v]
theorem q9r{a:j8}{l:jd}{cap:Nat}{D:Own}{C:Own->Own}(o:qq qw 3 1 a cap l D)(d:At D own C)(s:l.length<4611686018427387904):
  jk W0 67 [.slice a l.length cap] own fun v own'=>∃j:Own,(v= .tuple #[]/\qq qw 3 1 a cap (srt l) j)/\Ent W0 own' (C j):=by
 intro w f
 rcases o.how with ⟨rfl,rfl,rfl⟩|⟨b,rest,rfl,rfl,hlen,hle⟩
 ·refine(q2u a 0 w).mono ?_;rintro e z ⟨rfl,rfl⟩;exact⟨_,own,rfl,f,[],⟨rfl,by rw[show srt []= [] from List.mergeSort_nil];exact qq.nil⟩,by rw[d.same];exact Ent.refl⟩
 ·have hm:=(d.up (fun _=>True)).mem;refine(q6e b 0 cap l w (q3u f hm) (f.mem_size hm) s).mono ?_;rintro e z ⟨rfl,n,os,rfl⟩;exact⟨_,_,rfl,f.put_row2 d (q1p l),_,⟨rfl,fun _ _=>rfl, .inr ⟨b,rest,rfl,rfl,by rw[q1p];exact hlen,by rw[q1p];exact hle⟩⟩,Ent.refl⟩
theorem q48{a:j8}{l:jd}{cap:Nat}{D:Own}{C:Own->Own}(s:qq qw 3 1 a cap l D)(d:At D own C)(A:l.length<=9223372036854775807)(j:l.Pairwise (· <= ·)):
  jk W0 68 [.slice a l.length cap] own fun v own'=>∃o:Own,(v= .slice a (cmp l).length cap/\qq qw 3 1 a cap (cmp l) o)/\Ent W0 own' (C o):=by
 cases l with
 |nil=>
  refine sH (jo 10 3 (0::(jo 10 3 [0]))) ?_
  repeat'((try conv=>whnf);first|refine fE ?_)
  exact⟨D,⟨rfl,s⟩,by rw[d.same];exact Ent.refl⟩
 |cons x r=>
  intro w z;have hcl:=(q3s j).2.2
  rcases s.how with ⟨h,_,_⟩|⟨b,rest,rfl,rfl,hlen,hle⟩
  ·cases h
  ·generalize x::r=l at*;have hm:=(d.up (fun _=>True)).mem;refine(q3D b 0 cap l w (q3u z hm) A hle).mono ?_;rintro e w' ⟨rfl,q,rfl⟩;have f:=z.put_row2 (n:=q) (os:= #[]) (l':=cmp l++List.replicate (l.length-(cmp l).length) 0) d (by simp;omega);rw[Go.Sort.grow_empty] at f;refine⟨_,_,rfl,f,_,⟨rfl,fun _ _=>rfl, .inr ⟨b,((List.replicate (l.length-(cmp l).length) 0).map qw).flatten++rest,rfl,rfl,?_,Yb⟩⟩,?_⟩
   ·simp only[q6L,z8,zi,zD];omega
   ·rw[zv,zP,zd];exact Ent.refl
theorem qog{b o n c sz r:Nat}{K:Value->Prop}(d:r<=c)(h:K (.slice (some ⟨b,o,none⟩) r c)):qkO (some ⟨b,o,none⟩) n c sz none (some (r:Int)) none K:=by
 refine⟨0,r,c,rfl,rfl,rfl,zl _,fun _=>d,fun h=>Bool.noConfusion h,fun h=>Bool.noConfusion h,?_⟩;have e:slA (some ⟨b,o,none⟩) c 0 sz=some ⟨b,o,none⟩:=by
  unfold slA
  split
  ·rfl
  ·simp[qN]
 rw[e];exact h
theorem qjM{sz:Nat}{K:Value->Prop}(h:K (j6)):qkO none 0 0 sz none (some 0) none K:=
 ⟨0,0,0,rfl,rfl,rfl,zN _,fun _=>zN _,fun h=>Bool.noConfusion h,fun h=>Bool.noConfusion h,h⟩
theorem qgn(n:Nat)(w:n*8<=281474976710656):
  jk W0 99 [j6,j4 n] own fun v own'=>∃s:j8×Nat×Own,(v= .slice s.1 0 s.2.1/\n<=s.2.1/\qq qw 3 1 s.1 s.2.1 [] s.2.2)/\Ent W0 own' (s.2.2++own):=by
 refine sH [] ?_
 by_cases f:n=0
 ·subst f
  repeat'((try conv=>whnf);first|refine fD ?_|refine fB ?_)
  exact⟨(none,0,[]),⟨rfl,Yd,qq.nil⟩,Ent.refl⟩
 ·repeat'((try conv=>whnf);first|refine fD ?_|refine fF ?_|refine qjM ?_|refine qog (r:=0) (zl _) ?_|refine⟨.inr ⟨rfl,rfl,n,Yb,Yb,w,fun b d hb j=>?_⟩⟩|refine fB ?_)
  refine⟨(some ⟨b,0,none⟩,d,[(b,j7 (List.replicate d [j4 0]).flatten.toArray 3)]),⟨rfl,j,fun _ h=>(by cases h), .inr ⟨b,(List.replicate d [j4 0]).flatten,rfl,rfl,Yd,Yd⟩⟩,Ent.refl⟩
theorem qdU{bq:Nat}{ra wa:j8}{rl wl:jd}{rc wc:Nat} [qy bq (j7 #[.slice ra rl.length rc, .slice wa wl.length wc] 24) own](C:RdE qw 1 W0 own ra rl)(F:RdE qw 1 W0 own wa wl)(hb:(rl.length+wl.length)*8<=281474976710656):
  jk W0 66 [.slice (some ⟨bq,0,none⟩) 2 2] own fun v own'=>∃s:j8×Nat×Own,(v= .slice s.1 (rl++wl).length s.2.1/\qq qw 3 1 s.1 s.2.1 (rl++wl) s.2.2)/\Ent W0 own' (s.2.2++own):=by
 refine sH [] ?_;have w:jk W0 99 [j6,j4 ((rl.length+wl.length:Nat):Int)] own _:=qgn (rl.length+wl.length) hb;have e:((rl.length+wl.length:Nat):Int)=0+(rl.length:Int)+wl.length:=Yb;rw[e] at w
 repeat'((try conv=>whnf);first|refine fE ?_|refine fD ?_|refine q31 3 ?_|(apply qe;first|refine qk w fun s v I=>?_;obtain⟨a0,A,D0⟩:=s;obtain⟨rfl,G,j⟩:=I;dsimp only at G j;apply Stop.h)|refine fB ?_|refine qoz rfl ?_|refine qoA rfl ?_|refine fA ?_)
 refine Stop.mk ?_
 repeat'((try conv=>whnf);first|refine fE ?_|refine q31 3 ?_|refine qla (enc:=qw) (l:= []) (l2:=rl) j C rfl Yb (fun _ _=>rfl) (by simp;omega) fun D1 d=>?_;rw[zE,zy rl.length];apply Stop.h|refine qoz rfl ?_|refine fA ?_)
 refine Stop.mk ?_;rw[zj] at d
 repeat'((try conv=>whnf);first|refine fE ?_|refine qla (enc:=qw) (l:=rl) (l2:=wl) d F rfl Yb (fun _ _=>rfl) Yb fun z f=>?_;apply Stop.h|refine fB ?_|refine qoA rfl ?_|refine fA ?_)
 refine Stop.mk ?_
 repeat'((try conv=>whnf);first|refine fD ?_|refine fB ?_)
 exact⟨(a0,A,z),⟨q0s Yd,f⟩,Ent.refl⟩
end
abbrev noneV:je:= [j4 (-1),j4 (-1),j4 (-1)]
def gtC(C:jd)(t:Int):Int:=if 0<=t/\t<C.length then C[t.toNat]?.getD 0 else 0
theorem qlY{C:jd}{t:Nat}{x:Int}(h:C[t]? =some x):gtC C t=x:=by
 unfold gtC;have:=(z7.1 h).1;rw[if_pos ⟨Yb,Yb⟩,zF,h];rfl
abbrev q13(x:Int×Int):je:= [j4 x.1,j4 x.2]
section
variable{W0:World}{own:Own}{a c:j8}{cap cc:Nat}
theorem qkq{C:jd}(f:RdE qw 1 W0 own c C)(t:Int):jl W0 154 [.slice c C.length cc,j4 t] own (j4 (gtC C t)):=by
 refine qi (sH [] ?_)
 by_cases h:0<=t/\t<C.length
 ·obtain⟨k,rfl⟩:∃k:Nat,t=k:=⟨t.toNat,Yb⟩
  obtain⟨x,d⟩:∃x,C[k]? =some x:=⟨_,z6 Yb⟩
  have j:¬(k:Int)<0:=Yb;have o:¬(k:Int)>=C.length:=Yb;rw[qlY d]
  repeat'((try conv=>whnf);first|refine fH ?_|refine fG ?_|apply gLd;refine q0n f d rfl ?_|(apply qL;first|refine ixE f d ?_ ?_;(first|rfl|omega)))
  exact⟨rfl,(eC)⟩
 ·have e:gtC C t=0:=by unfold gtC;rw[if_neg h]
  rw[e]
  by_cases j:t<0
  ·repeat'((try conv=>whnf);first|refine fI ?_|refine fE ?_|refine fJ ?_)
   exact⟨rfl,(eC)⟩
  ·have o:t>=C.length:=Yb
   repeat'((try conv=>whnf);first|refine fH ?_|refine fF ?_|refine fK ?_)
   exact⟨rfl,(eC)⟩
end
def q2U(bs:Nat->Nat)(H:Nat->List (Int×Int)):Nat->Own
 |0=> []
 |k+1=>q2U bs H k++ [q0S q13 192 (bs k) (H k)]
theorem q3T{bs bs':Nat->Nat}{H H':Nat->List (Int×Int)}:∀{k},(∀j,j<k->bs j=bs' j/\H j=H' j)->q2U bs H k=q2U bs' H' k
 |0,_=>rfl
 |k+1,h=>by unfold q2U;rw[q3T fun j hj=>h j Yb,(h k Yb).1,(h k Yb).2]
theorem qcf{bs:Nat->Nat}{H:Nat->List (Int×Int)}{i:Nat}:∀{k},i<k->∃C,At [q0S q13 192 (bs i) (H i)] (q2U bs H k) C/\∀h,C [q0S q13 192 (bs i) h]=q2U bs (fun j=>if j=i then h else H j) k
 |0,h=>by omega
 |k+1,h=>by
  by_cases e:i=k
  ·subst e;refine⟨fun X=>q2U bs H i++(X++ []),At.skip (A:=q2U bs H i) (At.head (D:= [q0S q13 192 (bs i) (H i)]) (r:= [])),fun h=>?_⟩;show q2U bs H i++ [q0S q13 192 (bs i) h]=q2U bs (fun j=>if j=i then h else H j) i++ [q0S q13 192 (bs i) (if i=i then h else H i)]
   rw[if_pos rfl,q3T (H:=fun j=>if j=i then h else H j) (H':=H) (bs':=bs) fun j hj=>⟨rfl,if_neg Yb⟩]
  ·obtain⟨C,d,f⟩:=qcf (bs:=bs) (H:=H) (i:=i) (k:=k) Yb;refine⟨fun X=>C X++ [q0S q13 192 (bs k) (H k)],d.left,fun h=>?_⟩;show C _++_=q2U bs (fun j=>if j=i then h else H j) k++ [q0S q13 192 (bs k) (if k=i then h else H k)]
   rw[f,if_neg (fun x:k=i=>e x.symm)]
theorem q9J{bs:Nat->Nat}{H:Nat->List (Int×Int)}{i:Nat}:∀{k},i<k->q0S q13 192 (bs i) (H i)∈q2U bs H k
 |0,h=>by omega
 |k+1,h=>by
  unfold q2U
  by_cases e:i=k
  ·subst e;simp
  ·exact zq _ (q9J Yb)
section
variable{W0:World}{own:Own}
theorem qcg{bs:Nat->Nat}{H:Nat->List (Int×Int)}{i k:Nat}(h:i<k):RdE q13 2 W0 (q2U bs H k) (some ⟨bs i,0,none⟩) (H i):=q1Q (q9J h) (fun _ _=>rfl) rfl
theorem qjY{tb n:Nat} [m:qy tb (j7 #[j4 n] 3) own](hn:n<=65536):
  jk W0 40 [jn tb] own fun v own'=>∃b:Nat,v= .slice (some ⟨b,0,none⟩) n n/\Ent W0 own' (q0S q13 192 b (List.replicate n (0,0))::own):=by
 refine sH [] ?_
 repeat'((try conv=>whnf);first|refine mkC (enc:=q13) n (0,0) rfl rfl rfl Yb fun d=>?_|refine fA ?_)
 exact⟨d,rfl,Ent.refl⟩
end
section
variable{W0:World}{own:Own}{a:j8}{cap:Nat}{l:jd}
theorem qbR(W0:World)(own:Own)(x:Int):jl W0 98 [j4 x] own (.bool (!inW x)):=by
 refine qi (sH [] ?_)
 by_cases hw:0<=x/\x<64
 ·have d:inW x=true:=by unfold inW;exact decide_eq_true hw
  rw[d]
  repeat'((try conv=>whnf);first|refine fH ?_|refine fK ?_)
  exact⟨q0s (vb (decide_eq_false Yb)),(eC)⟩
 ·have d:inW x=false:=by unfold inW;exact decide_eq_false hw
  rw[d]
  repeat'((try conv=>whnf);first|refine fH ?_|refine fI ?_|apply qf0;exact rfl;exact rfl;all_goals intro hc)
  all_goals first|exact⟨q0s rfl,(eC)⟩|exact⟨q0s (vb (decide_eq_true Yb)),(eC)⟩
theorem qo2:okF Tryz.prog 98=true:=by kernel_rfl
theorem q5z(d:RdE qw 1 W0 own a l)(f:l.length<=9223372036854775807):jl W0 65 [.slice a l.length cap] own (.bool (l.all inW)):=by
 refine qi (sH [] ?_);have h:=q7Z (cap:=cap) qo2 (fun own x=>qbR W0 own x) d f;have e:l.all inW= !l.any (fun x=> !inW x):=by simp[List.all_eq_not_any_not]
 rw[e];generalize l.any (fun x=> !inW x)=z at*
 repeat'((try conv=>whnf);first|apply qe;refine qd (h) ?_)
 exact⟨rfl,(eC)⟩
end
abbrev q2k(x:j8×Nat×Nat):je:= [.slice x.1 x.2.1 x.2.2]
def ckL(cnt at1:Int)(eb sb bb n sc:Nat)(V:Nat->Value)(r:q4O):je:=
 [j4 cnt,j4 at1, .slice (some ⟨eb,0,none⟩) n n, .slice (some ⟨sb,0,none⟩) n sc, .slice (some ⟨bb,0,none⟩) n n]++(q9b 256 V++q8Q r)
section
variable{cnt at1:Int}{eb sb bb n sc:Nat}{V:Nat->Value}{r:q4O}
theorem qcy:(ckL cnt at1 eb sb bb n sc V r).length=264:=by
 unfold ckL;rw[z8,z8,q28];rfl
theorem q9U{i:Nat}(h:i<256):(ckL cnt at1 eb sb bb n sc V r)[5+i]? =some (V i):=by
 unfold ckL;rw[zJ Yd];have e:5+i- [j4 cnt,j4 at1, .slice (some ⟨eb,0,none⟩) n n, .slice (some ⟨sb,0,none⟩) n sc, .slice (some ⟨bb,0,none⟩) n n].length=i:=Yd;rw[e,zB (by rw[q28];exact h),q4G h]
end
section
variable{W0:World}{own:Own}
theorem qa2:∀l:je,l=(l.map fun v=> [v]).flatten
 | []=>rfl
 |x::r=>congrArg (x:: ·) (qa2 r)
theorem qj{b i:Nat}{cs:je}{T:TypeId}{v:Value}(hm:(b,j7 cs.toArray T)∈own)(d:cs[i]? =some v):Cl W0 own b i v:=by
 have h:=q1Q (W0:=W0) (enc:=fun v:Value=> [v]) (sz:=1) (l:=cs) hm (fun _ _=>rfl) (qa2 cs);have:=h.cell (j:=i) (k:=0) d (by rfl);have this:Kn W0 own fun w=>w.cell? ⟨b,0+i*1+0,none⟩=some v:=this
 rw[yo,ZI,zy] at this;exact this
end
abbrev nnR:q4O:=(-1, -1, -1)
instance qx.mem{b:Nat}{p:Obj->Prop}{own:Own} [m:qy b p own]:qx own [(b,p)]:=⟨fun _=>Ent.of_sub (List.singleton_sublist.2 m.h)⟩
abbrev Sl:=j8×Nat×Nat
abbrev q8v(bs:Nat->Nat)(n:Nat)(i:Nat):Value:= .slice (some ⟨bs i,0,none⟩) n n
abbrev ckN(cnt at1:Int)(cb eb sb bb n sc:Nat)(bs:Nat->Nat)(r:q4O):j9:=(cb,j7 (ckL cnt at1 eb sb bb n sc (q8v bs n) r).toArray 125 (0,0))
abbrev ckO(cnt at1:Int)(r:q4O)(E:jd)(H:Nat->List (Int×Int))(cb eb sb bb n sc:Nat)(bs:Nat->Nat)(B:List Sl)(D X:Own):Own:=
 ckN cnt at1 cb eb sb bb n sc bs r::q0S qw 3 eb E::q0S q2k 24 bb B::(D++(q2U bs H 256++X))
section
variable{W0:World}{own:Own}{cnt at1:Int}{cb eb sb bb n sc:Nat}{V:Nat->Value}{bs:Nat->Nat}{r:q4O}{T:TypeId}
theorem qde{k:Nat}{K:jg->Prop} [m:qy cb (j7 (ckL cnt at1 eb sb bb n sc V r).toArray T (0,0)) own](d:3=k)(f:K (q8Q r).toArray):LdN W0 own ⟨cb,261,none⟩ k K:=by
 subst d;refine q1A (q8Q r) m.h ?_ rfl f;rw[zQ];have e:ckL cnt at1 eb sb bb n sc V r=([j4 cnt,j4 at1, .slice (some ⟨eb,0,none⟩) n n, .slice (some ⟨sb,0,none⟩) n sc, .slice (some ⟨bb,0,none⟩) n n]++q9b 256 V)++q8Q r:=by
  unfold ckL;rw[zd]
 have j:([j4 cnt,j4 at1, .slice (some ⟨eb,0,none⟩) n n, .slice (some ⟨sb,0,none⟩) n sc, .slice (some ⟨bb,0,none⟩) n n]++q9b 256 V:je).length=261:=by
  rw[z8,q28];rfl
 rw[e,List.drop_left' j];rfl
theorem qmO{c:Int}{K:Own->Prop}{C:(Obj->Prop)->Own} [m:UpC cb (j7 (ckL cnt at1 eb sb bb n sc V r).toArray T (0,0)) own C](h:K (C fun o=>o=Obj.cells (ckL c at1 eb sb bb n sc V r).toArray T (0,0))):StT W0 own ⟨cb,0,none⟩ (j4 c) K:=
 qkV (by show Nat.ble 1 (ckL cnt at1 eb sb bb n sc V r).length=true;rw[qcy];rfl) rfl h
theorem qmP{c:Int}{K:Own->Prop}{C:(Obj->Prop)->Own} [m:UpC cb (j7 (ckL cnt at1 eb sb bb n sc V r).toArray T (0,0)) own C](h:K (C fun o=>o=Obj.cells (ckL cnt c eb sb bb n sc V r).toArray T (0,0))):StT W0 own ⟨cb,1,none⟩ (j4 c) K:=
 qkV (by show Nat.ble 2 (ckL cnt at1 eb sb bb n sc V r).length=true;rw[qcy];rfl) rfl h
theorem qcD{w q:Nat}(hw:w<64)(hq:q<4):Cl W0 [(cb,j7 (ckL cnt at1 eb sb bb n sc (q8v bs n) r).toArray T (0,0))] cb (5+w*4+q) (q8v bs n (4*w+q)):=by
 have e:5+w*4+q=5+(4*w+q):=Yb;rw[e];exact qj (zf.2 rfl) (q9U Yb)
theorem ldW{w q:Nat}{K:Value->Prop} [m:qy cb (j7 (ckL cnt at1 eb sb bb n sc (q8v bs n) r).toArray T (0,0)) own](hw:w<64)(f:Nat.blt q 4=true)(d:K (q8v bs n (4*w+q))):Ld W0 own ⟨cb,5+w*4+q,none⟩ K:=by
 have hq':q<4:=by simpa using f
 have e:5+w*4+q=5+(4*w+q):=Yb;rw[e];exact ldK (own':=own) (qj m.h (q9U Yb)) (m:=⟨fun _=>Ent.refl⟩) d
theorem qoC{α:Type}{enc:α->je}{sz:Nat}{l:List α}{T:TypeId}{b j o k:Nat}{C:Own->Own}{x:α}{vs:je}{K:Own->Prop}(x':α)(hw:∀x∈l,(enc x).length=sz)(s:l[j]? =some x) [m:AtC [q0S enc T b l] own C](z:vs.length=k)(A:o=j*sz)(F:enc x'=vs)(f:vs.length=sz)(v:vs.all q2r=true)
  (w:K (C [q0S enc T b (l.set j x')])):vs.length=k/\StN W0 own ⟨b,o,none⟩ vs K:=
 qmN (T:=T) (D:= [q0S enc T b l]) (a:=some ⟨b,0,none⟩) x' (q8F hw) s z (by simp[ao,A]) F f v (fun D' hb=>by
  have d:l.set j x'≠ []:=fun e=>by
   have:=congrArg List.length e;rw[zm] at this;have:=Zt this;subst this;simp at s
  have:=qhA d (by rw[zm];exact hb);subst this;exact w)
end
section
variable{W0:World}{own:Own}
theorem qbC{C:jd}{A:List (Int×Int)}{a c:j8}{cap cc:Nat}(G:RdE qw 1 W0 own c C)(j:∀v∈C,0<=v)(F:RdE q13 2 W0 own a A)(f:∀(i:Nat) x,A[i]? =some x->x=(0,0))(hl:A.length<=65536)(o:Int):
  jl W0 102 [j4 (-1), .slice a A.length cap,j4 o, .slice c C.length cc] own (j4 (-1)):=by
 refine qi (sH (jo 17 3 [0]) ?_);have I:=fun(own':Own) [qx own' own] (t:Int)=>qkq (W0:=W0) (own:=own') (cc:=cc) G.up t
 have s:∀t,0<=gtC C t:=fun t=>by
  unfold gtC
  split
  ·cases e:C[t.toNat]? with
   |none=>exact zK _
   |some v=>exact j v (zh e)
  ·exact zK _
 refine q1C (σ:=Nat) (fun i=> [(0,j4 (-1)),(13,j4 i)]) (fun i=>i<=A.length) (fun i=>A.length-i) 0 Yb (eF) rfl ?_;intro i junk hi
 by_cases w:i<A.length
 ·have d:(i:Int)<A.length:=Yb;obtain⟨x,z⟩:∃x,A[i]? =some x:=⟨_,z6 w⟩
  obtain rfl:=f i x z;have h2:¬(0:Int)>gtC C i:=by have:=s i;omega
  by_cases h1:(i:Int)=o
  all_goals
   repeat'((try conv=>whnf);first|refine fH ?_|refine fI ?_|refine fD ?_|refine fF ?_|refine fJ ?_|refine fK ?_|(apply qL;first|refine ixE F z ?_ ?_;(first|rfl|omega))|apply q27;refine q0O F z rfl ?_|apply qz;refine qm (fun ex=>I (ex++_) i) ?_|refine fB ?_|refine fA ?_|refine fM ?_|refine qg fun bk hbk=>?_)
   exact⟨i+1,Yb,Yb,(eF),(eC)⟩
 ·have d:¬(i:Int)<A.length:=Yb
  repeat'((try conv=>whnf);first|refine fG ?_)
  exact⟨rfl,(eC)⟩
theorem qh3{e:EH}{cb n w s z cc:Nat}{c:j8}{C:jd}{R W:List (Int×Int)}{wr:Bool}(P:e.k=4)(hw:w<64)
  (I:Cl W0 own cb (5+w*4+0) (.slice (some ⟨s,0,none⟩) n n)) (c1:Cl W0 own cb (5+w*4+1) (.slice (some ⟨z,0,none⟩) n n))
  (F:RdE q13 2 W0 own (some ⟨s,0,none⟩) R) (G:RdE q13 2 W0 own (some ⟨z,0,none⟩) W) (Z:R.length=n) (lW:W.length=n) (j:∀(i:Nat) x,R[i]? =some x->x=(0,0)) (o:∀(i:Nat) x,W[i]? =some x->x=(0,0))
  (hn16:n<=65536) (U:RdE qw 1 W0 own c C) (f:∀v∈C,0<=v):
  jl W0 69 [jn cb,e.v,j4 w, .bool wr, .slice c C.length cc] own (.bool false):=by
 refine qi (sH (jo 9 3 (0::(jo 10 3 (0::(jo 10 3 (0::(jo 10 3 [0]))))))) ?_);have d:∀{A:List (Int×Int)} {b:Nat},RdE q13 2 W0 own (some ⟨b,0,none⟩) A->(∀(i:Nat) x,A[i]? =some x->x=(0,0))->A.length=n->∀(own':Own) [qx own' own],jl W0 102 [j4 (-1), .slice (some ⟨b,0,none⟩) n n,j4 e.t, .slice c C.length cc] own' (j4 (-1)):=fun{A b} Q N Y own' _=>by
  have:=qbC (W0:=W0) (own:=own') (cap:=n) (cc:=cc) U.up f Q.up N Yb e.t
  rwa[Y] at this
 have J:=fun own' [qx own' own]=>d F j Z own'
 have K:=fun own' [qx own' own]=>d G o lW own'
 have hw1:(w:Int)<64:=Yb;clear d F G;obtain⟨ev,t,k,wd,ra,rl,rc,wa,wl,wc⟩:=e;dsimp only[EH.v] at*;subst P;cases wr
 all_goals
  repeat'((try conv=>whnf);first|refine fE ?_|refine fD ?_|(apply gLd;first|refine ldK I ?_|refine ldK c1 ?_)|(apply qz;first|refine qm (fun ex=>K (ex++_)) ?_|refine qm (fun ex=>J (ex++_)) ?_)|apply ixj;omega|refine fA ?_|refine qg fun bk hbk=>?_)
  all_goals exact⟨rfl,(eC)⟩
theorem qeG{e:EH}{cb n eb ec bb bc:Nat}{cnt at1:Int}{B:List Sl}(f:EvR W0 own e)(G:Cl W0 own cb 0 (j4 cnt))(I:Cl W0 own cb 1 (j4 at1))(J:Cl W0 own cb 2 (.slice (some ⟨eb,0,none⟩) n ec))(N:Cl W0 own cb 4 (.slice (some ⟨bb,0,none⟩) B.length bc))
  (z:RdE q2k 1 W0 own (some ⟨bb,0,none⟩) B) (U:0<=e.t/\e.t<n) (C:0<=e.w/\e.w<64) (ha:at1<=e.ev) (s:e.rl.all inW=true) (v:e.wl.all inW=true) (Q:(e.k=3/\e.rl= []/\e.wl= [])\/(e.k=4/\∃ad x,B[e.t.toNat]? =some (some ad,x))):
  jl W0 41 [jn cb,e.v] own (.bool true):=by
 refine qi (sH (jo 26 3 (56::(jo 19 57 (0::(jo 20 3 [0]))))) ?_);have R:∀own' [qx own' own],jl W0 65 [.slice e.ra e.rl.length e.rc] own' (.bool true):=fun own' h=>by have:=q5z (cap:=e.rc) (f.r.ent (h.h W0)) f.rn;rwa[s] at this
 have hw:∀own' [qx own' own],jl W0 65 [.slice e.wa e.wl.length e.wc] own' (.bool true):=fun own' h=>by have:=q5z (cap:=e.wc) (f.w.ent (h.h W0)) f.wn;rwa[v] at this
 have d:∀(own':Own) (b:Nat),qx own' [(b,j7 #[j4 e.w] 3)]->jl W0 65 [.slice (some ⟨b,0,none⟩) 1 1] own' (.bool true):=fun own' b h=>by
  have:=q5z (W0:=W0) (own:=own') (a:=some ⟨b,0,none⟩) (cap:=1) (l:= [e.w]) ((q9Q (enc:=qw) (sz:=1) (T:=3) (fun _ _=>rfl)).ent (h.h W0)) Yd
  rwa[show [e.w].all inW=true by unfold inW;simp[C]] at this
 clear f s v;obtain⟨ev,t,k,w,ra,rl,rc,wa,wl,wc⟩:=e;dsimp only[EH.v] at*;obtain⟨t1,t2⟩:=U
 rcases Q with ⟨rfl,rfl,rfl⟩|⟨rfl,ad,x,F⟩
 ·clear z
  repeat'((try conv=>whnf);first|refine fH ?_|refine fI ?_|refine fE ?_|refine fD ?_|refine fG ?_|refine fK ?_|(apply gLd;first|refine ldK G ?_|refine ldK I ?_|refine ldK J ?_)|apply qz;refine qm (fun ex=>d _ _ ⟨fun _=>Ent.app (Ent.left (D:= [_]))⟩) ?_|refine fA ?_|refine qg fun K A=>?_|apply q0W;exact rfl;exact rfl;all_goals intro P)
  all_goals first|exact⟨rfl,(eC)⟩|exfalso;omega
 ·obtain⟨j,rfl⟩:∃j:Nat,t=j:=⟨t.toNat,Yb⟩
  rw[zF] at F;obtain⟨x2,x3⟩:=x
  repeat'((try conv=>whnf);first|refine fH ?_|refine fI ?_|refine fD ?_|refine fG ?_|refine fK ?_|(apply gLd;first|refine q0n z F rfl ?_|refine ldK G ?_|refine ldK I ?_|refine ldK J ?_|refine ldK N ?_)|(apply qL;first|refine ixE z F ?_ ?_;(first|rfl|omega))|(apply qz;first|refine qm (fun ex=>d _ _ ⟨fun _=>Ent.app (Ent.left (D:= [_]))⟩) ?_|refine qm (fun ex=>R (ex++_)) ?_|refine qm (fun ex=>hw (ex++_)) ?_)|refine fA ?_|refine qg fun K A=>?_|apply q0W;exact rfl;exact rfl;all_goals intro P)
  all_goals first|exact⟨rfl,(eC)⟩|exfalso;omega
end
section
variable{W0:World}{own:Own}
theorem qaK{a:j8}{l:jd}{cap:Nat}(o:RdE qw 1 W0 own a l)(f:l≠ [])(hl:l.length<=65536):
  jk W0 36 [.slice a l.length cap] own fun v own'=>∃s:j8×Nat×Own,(v= .slice s.1 l.length s.2.1/\qq qw 3 1 s.1 s.2.1 l s.2.2)/\Ent W0 own' (s.2.2++own):=by
 refine sH [] ?_;have j:=o.isS f;generalize ab a=b0 at j;generalize ao a=o0 at j;subst j
 repeat'((try conv=>whnf);first|refine fD ?_|refine q6C (enc:=qw) (l:= []) (l2:=l) qq.nil (At.head (D:= []) (r:=_)) o.up rfl rfl Yb (fun _ _=>rfl) (fun _=>by simp;omega) fun a1 c1 D1 d=>?_;rw[zE,zy l.length];apply Stop.h|refine qg fun bk hbk=>?_)
 refine Stop.mk ?_;rw[zj] at d;exact⟨(a1,c1,D1),⟨rfl,d⟩,Ent.of_sub (((List.Sublist.refl own).cons _).append_left D1)⟩
end
def HOk(n:Nat)(H:Nat->List (Int×Int)):Prop:=∀j,(H j).length=n/\(j % 4<2->∀(i:Nat) x,(H j)[i]? =some x->x=(0,0))
theorem HOk.set{n:Nat}{H:Nat->List (Int×Int)}(h:HOk n H){k t:Nat}{x:Int×Int}(hk:2<=k % 4):HOk n fun j=>if j=k then(H k).set t x else H j:=fun j=>by
 dsimp only
 split
 ·rename_i e;subst e;exact⟨by rw[zm];exact(h j).1,fun h=>by omega⟩
 ·exact h j
abbrev evP(ev t k wd:Int)(ra:j8)(d rc:Nat)(wa:j8)(lw wc:Nat):Obj->Prop:=fun o=>o=Obj.cells #[j4 ev,j4 t,j4 k,j4 wd, .slice ra d rc, .slice wa lw wc] 83 (0,0)
theorem q74{l:List Sl}:∀x∈l,(q2k x).length=1:=fun _ _=>rfl
theorem qd1{l:jd}:∀x∈l,(qw x).length=1:=fun _ _=>rfl
theorem qce{l:List (Int×Int)}:∀x∈l,(q13 x).length=2:=fun _ _=>rfl
section
variable{W0:World}{r0:Own}{cnt at1:Int}{cb eb sb bb n sc:Nat}{bs:Nat->Nat}{B S:List Sl}{D X:Own}{E:jd}{H:Nat->List (Int×Int)}
theorem qhg{own:Own}{e:EH}{w cc:Nat}{c:Addr}{row:jd}{wr:Bool}(o:e.k=4)(hw:w<64)(hn:n<=16)(d:HOk n H)(f:∀v∈row,0<=v)(j:row.length=n)(s:RdE qw 1 W0 own (some c) row)
  [i1:qx own [ckN cnt at1 cb eb sb bb n sc bs nnR]] [i2:qx own (q2U bs H 256)]:
  jl W0 69 [jn cb,e.v,j4 w, .bool wr, .slice (some c) n cc] own (.bool false):=by
 have z:=(qcD (W0:=W0) (cnt:=cnt) (at1:=at1) (cb:=cb) (eb:=eb) (sb:=sb) (bb:=bb) (n:=n) (sc:=sc) (bs:=bs) (r:=nnR) (T:=125) hw (q:=0) Yc).ent (i1.h W0);have A:=(qcD (W0:=W0) (cnt:=cnt) (at1:=at1) (cb:=cb) (eb:=eb) (sb:=sb) (bb:=bb) (n:=n) (sc:=sc) (bs:=bs) (r:=nnR) (T:=125) hw (q:=1) Yc).ent (i1.h W0);have:=qh3 (W0:=W0) (own:=own) (cc:=cc) (wr:=wr) o hw z A ((qcg (W0:=W0) (bs:=bs) (H:=H) (i:=4*w+0) (k:=256) Yb).ent (i2.h W0)) ((qcg (W0:=W0) (bs:=bs) (H:=H) (i:=4*w+1) (k:=256) Yb).ent (i2.h W0)) (d _).1 (d _).1 ((d _).2 Yb) ((d _).2 Yb) Yb s f
 rwa[j] at this
theorem HOk.at{q w t:Nat}{x:Int×Int}(h:HOk n H)(hq:q=2\/q=3)(hw:w<64):∃C,At [q0S q13 192 (bs (4*w+q)) (H (4*w+q))] (q2U bs H 256) C/\∃H',HOk n H'/\C [q0S q13 192 (bs (4*w+q)) ((H (4*w+q)).set t x)]=q2U bs H' 256:=by
 obtain⟨C,d,f⟩:=qcf (bs:=bs) (H:=H) (i:=4*w+q) (k:=256) Yb;exact⟨C,d,_,h.set (t:=t) (x:=x) Yb,f _⟩
theorem qh2{e:EH}{t bc:Nat}{ba:Addr}{row:jd}(h4:e.k=4)(ht:e.t=t)(htn:t<n)(hn:n<=16)(hc:0<=cnt/\cnt<=65536)(hE:EvR W0 r0 e)(Y:e.rl.all inW=true/\e.wl.all inW=true)
  (hN:q0Z W0 0 noneV) (hS:qq q2k 24 1 (some ⟨sb,0,none⟩) sc S D) (aL:n=S.length) (aJ:n=B.length) (hb:B[t]? =some (some ba,n,bc)) (aH:RdE qw 1 W0 X (some ba) row) (aO:row.length=n) (aN:∀v∈row,0<=v) (hH:HOk n H) (aE:n=E.length) (aC:∀v∈E,0<=v/\v<=cnt):
  jk W0 42 [jn cb,e.v] (ckO cnt at1 nnR E H cb eb sb bb n sc bs B D X++r0) fun v own'=>∃s:(List Sl×Own)×jd×(Nat->List (Int×Int)),(v= .tuple #[]/\qq q2k 24 1 (some ⟨sb,0,none⟩) sc s.1.1 s.1.2/\s.1.1.length=n/\s.2.1.length=n/\(∀v∈s.2.1,0<=v/\v<=cnt+1)/\HOk n s.2.2)/\
   Ent W0 own' (ckO cnt at1 nnR s.2.1 s.2.2 cb eb sb bb n sc bs B s.1.2 X++r0):=by
 refine sC [120,375] (jo 22 3 (48::49::0::(jo 10 3 (24::0::3::5::7::11::15::17::19::21::1::9::1::13::24::25::28::0::24::13::25::28::0::1::13::1::9::24::25::28::0::24::9::25::28::0::24::9::13::25::28::0::(jo 13 3 (30::32::0::(jo 11 3 (26::0::(jo 11 3 [26,0]))))))))) ?_;obtain⟨J,P⟩:∃y,E[t]? =some y:=⟨_,z6 Yb⟩
 have hy0:=aC J (zh P);have aj:∀x∈cmp (srt (e.rl++e.wl)),0<=x/\x<64:=fun x I=>by
  have h1:=((q3s (q1z _)).2.1 x).1 I
  rcases zw.1 (q9t.1 h1) with h|h
  ·exact of_decide_eq_true (Z7.1 Y.1 x h)
  ·exact of_decide_eq_true (Z7.1 Y.2 x h)
 have hlen:(cmp (srt (e.rl++e.wl))).length<=e.rl.length+e.wl.length:=by
  have:=(q3s (q1z (e.rl++e.wl))).2.2
  rwa[q1p,z8] at this
 have hrb:=hE.rb;have hwb:=hE.wb;have aq:=fun(own':Own) (w:Nat) (z:w<64) (wr:Bool) (i1:qx own' [ckN cnt at1 cb eb sb bb n sc bs nnR]) (i2:qx own' (q2U bs H 256)) (i3:qx own' X)=>qhg (W0:=W0) (own:=own') (e:=e) (cc:=bc) (wr:=wr) (cnt:=cnt) (at1:=at1) (cb:=cb) (eb:=eb) (sb:=sb) (bb:=bb) (sc:=sc) (bs:=bs) (H:=H) h4 z hn hH aN aO (aH.ent (i3.h W0))
 have U:=fun(own':Own) [qx own' r0] (w:Int)=>q3g (W0:=W0) (own:=own') (cap:=e.wc) hE.w.up hE.wn w
 have ae:=hE.r;have aw:=hE.w;clear hE;obtain⟨ev,tt,k,wd,ra,rl,rc,wa,wl,wc⟩:=e;dsimp only[EH.v] at*;subst ht h4
 repeat'((try conv=>whnf);first|refine qg fun b3 hb3=>?_;apply Stop.h)
 refine Stop.mk ?_
 repeat'((try conv=>whnf);first|(apply qe;first|refine qk (qdU (bq:=bk) (ae.up) (aw.up) Yb) fun s v hv=>?_;obtain⟨a0,c0,D0⟩:=s;obtain⟨rfl,Z⟩:=hv;dsimp only at Z;apply Stop.h)|refine fA ?_|refine qg fun bk hbk=>?_)
 refine Stop.mk ?_;have hll:(rl++wl).length=rl.length+wl.length:=z8;have aB:=fun own' (C:Own->Own) (aA:At D0 own' C)=>q9r (W0:=W0) Z aA Yb
 repeat'((try conv=>whnf);first|(apply qe;first|refine qk (aB _ _ At.head) fun s v hv=>?_;obtain⟨rfl,K⟩:=hv;apply Stop.h))
 refine Stop.mk ?_;have aP:=q1p (rl++wl);have af:=fun own' (C:Own->Own) (aA:At s own' C)=>q48 (W0:=W0) K aA Yb (q1z (rl++wl))
 rw[aP] at af;refine q39 (σ:=Unit) 4503599626321984 (fun _=> []) (fun _=>(b3,evP ev t 4 wd ra rl.length rc wa wl.length wc)::(ckO cnt at1 nnR E H cb eb sb bb n sc bs B D X++r0)) (fun _=>True) rfl ?_ fun _ G _=>?_
 ·clear Y ae P;generalize cmp (srt (rl++wl))=T at*
  repeat'((try conv=>whnf);first|(apply qe;first|refine qk (af _ _ At.head) fun s2 v hv=>?_;obtain⟨rfl,A⟩:=hv;apply Stop.h))
  refine Stop.mk ?_;have aF:RdE qw 1 W0 s2 a0 T:=A.rd;clear af aB A K Z;refine q1C (σ:=Nat) (fun i=> [(23,j4 i)]) (fun i=>i<=T.length) (fun i=>T.length-i) 0 (zl _) (eF) rfl ?_;rintro i G hi
  by_cases W:i<T.length
  ·obtain⟨x,I⟩:∃x,T[i]? =some x:=⟨_,z6 W⟩
   have aI:=aj x (zh I);have f:(i:Int)<T.length:=Yb;obtain⟨w,rfl⟩:∃w:Nat,x=w:=⟨x.toNat,Yb⟩
   have aQ:=fun(own':Own) (wr:Bool)=>aq own' w Yb wr
   have aM:=fun(own':Own) [qx own' r0]=>U own' (w:Int)
   generalize wl.contains (w:Int)=zc at*
   repeat'((try conv=>whnf);first|refine fH ?_|refine fD ?_|refine fF ?_|refine qde ?_ ?_;exact rfl|refine qaf hN _ rfl rfl ?_|refine qhG (by simp[eqC,q1u]) ?_|(apply gLd;first|refine q0n aF I rfl ?_|refine qkQ q74 hb rfl ?_)|(apply qL;first|refine ixE aF I ?_ ?_;(first|rfl|omega)|refine ixC hb aJ ?_ ?_;(first|rfl|omega))|apply qe;refine qd (aQ _ zc Ye Ye Ye) ?_|apply qz;refine qm (fun ex=>aM (ex++_)) ?_|refine fB ?_|refine fA ?_|refine fL ?_)
   exact⟨i+1,Yb,Yb,(eF),(eC)⟩
  ·have f:¬(i:Int)<T.length:=Yb
   repeat'((try conv=>whnf);first|refine fG ?_)
   exact⟨(),trivial,trivial,Ent.app (Ent.cons Ent.refl)⟩
 ·clear aq U aB af Z K aj hlen
  repeat'((try conv=>whnf);first|refine stC (T:=3) (k:=0) (J+1) qd1 P ?_ ?_ ?_ ?_ ?_;exact rfl;omega;exact rfl;exact rfl;apply Stop.h|apply gLd;refine qkQ qd1 P rfl ?_|(apply qL;first|refine ixC P aE ?_ ?_;(first|rfl|omega))|refine fB ?_|refine fA ?_)
  refine Stop.mk ?_;have aK:∀v∈E.set t (J+1),0<=v/\v<=cnt+1:=fun v hv=>by
   rcases Ze hv with h|rfl
   ·have:=aC v h;omega
   ·omega
  have N:n=(E.set t (J+1)).length:=by rw[zm];exact aE
  have F:(E.set t (J+1))[t]? =some (J+1):=Z9 Yb;generalize E.set t (J+1)=E1 at*;have R:=fun(own':Own) [qx own' [q0S qw 3 eb E1]]=>qaK (W0:=W0) (own:=own') (cap:=n) (l:=E1) (RdE.up (q9Q (T:=3) (b:=eb) qd1)) (fun h=>by rw[h] at F;simp at F) Yb
  rw[<-N] at R;obtain⟨y,hy⟩:∃y,S[t]? =some y:=⟨_,z6 Yb⟩
  refine q39 (σ:=List Sl×Own) 18884854245460153466880 (fun _=> []) (fun s=>(b3,evP ev t 4 wd ra rl.length rc wa wl.length wc)::(ckO cnt at1 nnR E1 H cb eb sb bb n sc bs B s.2 X++r0))
   (fun s=>qq q2k 24 1 (some ⟨sb,0,none⟩) sc s.1 s.2/\s.1.length=n) rfl ?_ fun s G hs=>?_
  ·repeat'((try conv=>whnf);first|refine q3L (enc:=q2k) (j:=t) (k:=0) (a1,n,c1) hS hy ?_ ?_ ?_ ?_ ?_;exact rfl;omega;exact rfl;exact rfl;intro D2 A|(apply qe;first|refine qk (R _) fun s v hv=>?_;obtain⟨a1,c1,D1⟩:=s;obtain⟨rfl,K⟩:=hv;dsimp only at K)|refine q8X ?_ ?_;omega|refine fA ?_|refine q1k.mk ?_ ?_)
   all_goals exact⟨(S.set t (a1,n,c1),D2),⟨A,by rw[zm];exact aL.symm⟩,trivial,(eC)⟩
  ·obtain⟨S2,D2⟩:=s;obtain⟨A,aG⟩:=hs;dsimp only at A aG ⊢;clear R hS hy hb aH
   repeat'((try conv=>whnf);first|refine qg fun b7 hb7=>?_|apply gLd;refine qkQ qd1 F rfl ?_|(apply qL;first|refine ixC F N ?_ ?_;(first|rfl|omega))|refine fA ?_|refine fM ?_)
   refine qQ (σ:=Nat×(Nat->List (Int×Int))) (fun s=> [(90,j4 s.1)]) (fun s=>(b7,j7 #[j4 cnt,j4 (J+1)] 192)::(b3,evP ev t 4 wd ra rl.length rc wa wl.length wc)::(ckO cnt at1 nnR E1 s.2 cb eb sb bb n sc bs B D2 X++r0)) (fun s=>s.1<=rl.length/\HOk n s.2) (fun s=>rl.length-s.1) (0,H) ⟨zl _,hH⟩ (eF) Ent.refl rfl ?_;rintro⟨i,H1⟩ G ⟨hi,d⟩;dsimp only at hi d ⊢
   by_cases W:i<rl.length
   ·obtain⟨x,I⟩:∃x,rl[i]? =some x:=⟨_,z6 W⟩
    have aI:0<=x/\x<64:=of_decide_eq_true (Z7.1 Y.1 x (zh I));have f:(i:Int)<rl.length:=Yb;obtain⟨w,rfl⟩:∃w:Nat,x=w:=⟨x.toNat,Yb⟩
    obtain⟨C0,au,H2,ay,av⟩:=d.at (bs:=bs) (q:=2) (w:=w) (t:=t) (x:=(cnt,J+1)) (.inl rfl) Yb;have az:n=(H1 (4*w+2)).length:=(d _).1.symm;obtain⟨y,Q⟩:∃y,(H1 (4*w+2))[t]? =some y:=⟨_,z6 Yb⟩
    haveI:AtC _ _ C0:=⟨au⟩
    have z:w<64:=Yb
    repeat'((try conv=>whnf);first|refine fF ?_|refine ldW z ?_ ?_;exact rfl|refine ixC Q az ?_ ?_;exact rfl|refine qoC (T:=192) (x:=y) (cnt,J+1) qce Q ?_ ?_ ?_ ?_ ?_ ?_;exact rfl;exact rfl;exact rfl;exact rfl;exact rfl|apply gLd;refine q0n ae I rfl ?_|(apply qL;first|refine ixE ae I ?_ ?_;(first|rfl|omega))|refine fB ?_|apply ixj;omega|refine fA ?_|refine fL ?_)
    exact⟨(i+1,H2),⟨by dsimp only;omega,ay⟩,by dsimp only;omega,(eF),by rw[av];exact Ent.refl⟩
   ·have f:¬(i:Int)<rl.length:=Yb
    repeat'((try conv=>whnf);first|refine fG ?_|refine fA ?_)
    refine qQ (σ:=Nat×(Nat->List (Int×Int))) (fun s=> [(109,j4 s.1)]) (fun s=>(b7,j7 #[j4 cnt,j4 (J+1)] 192)::(b3,evP ev t 4 wd ra rl.length rc wa wl.length wc)::(ckO cnt at1 nnR E1 s.2 cb eb sb bb n sc bs B D2 X++r0)) (fun s=>s.1<=wl.length/\HOk n s.2) (fun s=>wl.length-s.1) (0,H1) ⟨zl _,d⟩ (eF) Ent.refl rfl ?_;clear d;rintro⟨i,H1⟩ G ⟨hi,d⟩;dsimp only at hi d ⊢
    by_cases W:i<wl.length
    ·obtain⟨x,I⟩:∃x,wl[i]? =some x:=⟨_,z6 W⟩
     have aI:0<=x/\x<64:=of_decide_eq_true (Z7.1 Y.2 x (zh I));have f:(i:Int)<wl.length:=Yb;obtain⟨w,rfl⟩:∃w:Nat,x=w:=⟨x.toNat,Yb⟩
     obtain⟨C0,au,H2,ay,av⟩:=d.at (bs:=bs) (q:=3) (w:=w) (t:=t) (x:=(cnt,J+1)) (.inr rfl) Yb;have az:n=(H1 (4*w+3)).length:=(d _).1.symm;obtain⟨y,Q⟩:∃y,(H1 (4*w+3))[t]? =some y:=⟨_,z6 Yb⟩
     haveI:AtC _ _ C0:=⟨au⟩
     have z:w<64:=Yb
     repeat'((try conv=>whnf);first|refine fF ?_|refine ldW z ?_ ?_;exact rfl|refine ixC Q az ?_ ?_;exact rfl|refine qoC (T:=192) (x:=y) (cnt,J+1) qce Q ?_ ?_ ?_ ?_ ?_ ?_;exact rfl;exact rfl;exact rfl;exact rfl;exact rfl|apply gLd;refine q0n aw I rfl ?_|(apply qL;first|refine ixE aw I ?_ ?_;(first|rfl|omega))|refine fB ?_|apply ixj;omega|refine fA ?_|refine fL ?_)
     exact⟨(i+1,H2),⟨by dsimp only;omega,ay⟩,by dsimp only;omega,(eF),by rw[av];exact Ent.refl⟩
    ·have f:¬(i:Int)<wl.length:=Yb
     repeat'((try conv=>whnf);first|refine fG ?_)
     exact⟨((S2,D2),E1,H1),⟨rfl,A,aG,N.symm,aK,d⟩,Ent.drop.trans Ent.drop⟩
end
theorem qjJ{α:Type}{l:List α}{t u:Nat}{x:α}(d:t<l.length):(l.set t x)[u]? =if u=t then some x else l[u]? :=by
 rw[zx]
 by_cases h:u=t
 ·subst h;rw[if_pos rfl,if_pos rfl,if_pos d]
 ·rw[if_neg (fun x=>h x.symm),if_neg h]
section
variable{W0:World}{r0:Own}{n t:Nat}{L:List EH}{e:EH}
theorem qfp{α:Type}{enc:α->je}{T:TypeId}{sz cap:Nat}{a:j8}{l:List α}{D:Own}(h:qq enc T sz a cap l D)(d:l≠ []):∃f,a=some f:=by
 rcases h.how with ⟨h,_,_⟩|⟨b,_,h,_⟩
 ·exact absurd h d
 ·exact⟨_,h⟩
theorem EvR.ent'{own own':Own}(h:EvR W0 own' e)(k:Ent W0 own own'):EvR W0 own e:=⟨h.r.ent k,h.w.ent k,h.rb,h.wb⟩
theorem qiV{D1 X A D:Own}{d f j o s:j9}:Ent W0 (D1++(d::f::((j::o::s::(D++(A++X)))++r0))) (d::f::((j::o::s::(D++(A++(D1++X))))++r0)):=by
 refine Ent.of_perm ?_;have h:(D1++(d::f::j::o::s::(D++(A++(X++r0))))).Perm (d::f::j::o::s::(D++(A++(D1++(X++r0))))):=by
  have v:∀(P Q:Own),(D1++(P++Q)).Perm (P++(D1++Q)):=fun P Q=>by
   rw[<-zd,<-zd];exact Zc.append_right Q
  have w:=v [d,f,j,o,s] (D++(A++(X++r0)));exact w.trans (List.Perm.append_left [d,f,j,o,s] ((v D _).trans (List.Perm.append_left D (v A _))))
 simpa using h
theorem q6s{P:Program}{σ:Type}{k:FuncId}{args:je}{A D r:Own}{R:σ->Value->Prop}{O:σ->Own}(h:qu P W0 k args (D++(A++r)) fun v own'=>∃s,R s v/\Ent W0 own' (O s++(A++r))):qu P W0 k args (A++(D++r)) fun v own'=>∃s,R s v/\Ent W0 own' (A++(O s++r)):=by
 have f:∀D:Own,(A++(D++r)).Perm (D++(A++r)):=fun D=>by
  rw[<-zd,<-zd];exact Zc.append_right r
 intro w hw;exact(h w (Ent.of_perm (f D) w hw)).mono fun _ _ ⟨v,o,a,b,s,c,d⟩=>⟨v,o,a,b,s,c,d.trans (Ent.of_perm (f _).symm)⟩
end
structure CkS where
 cnt:Int
 at1:Int
 E:jd
 H:Nat->List (Int×Int)
 cb:Nat
 eb:Nat
 sb:Nat
 sc:Nat
 bb:Nat
 bs:Nat->Nat
 S:List Sl
 B:List Sl
 D:Own
 X:Own
noncomputable abbrev CkS.O(s:CkS)(n:Nat):Own:=ckO s.cnt s.at1 nnR s.E s.H s.cb s.eb s.sb s.bb n s.sc s.bs s.B s.D s.X
def qos(W0:World)(X:Own)(n:Nat)(z:Option Sl):Prop:=∃a c row,z=some (some a,n,c)/\RdE qw 1 W0 X (some a) row/\row.length=n/\∀v∈row,(0:Int)<=v
structure CkQ(W0:World)(n:Nat)(E0:jj)(s:CkS):Prop where
 sB:qq q2k 24 1 (some ⟨s.sb,0,none⟩) s.sc s.S s.D
 sl:s.S.length=n
 bl:s.B.length=n
 el:s.E.length=n
 eb:∀v∈s.E,0<=v/\v<=s.cnt
 hh:HOk n s.H
 cn:s.cnt=E0.length
 at':s.at1=q8Y E0
 b:∀u:Nat,u<n->lkE E0 u=3->qos W0 s.X n s.B[u]?
section
variable{W0:World}{r0:Own}{n t:Nat}{E0:jj}{e:EH}
theorem CkQ.next{s s':CkS}(h:CkQ W0 n E0 s)(hk:e.k=3\/e.k=4)(ht:e.t=t)(o:t<n)(G:qq q2k 24 1 (some ⟨s'.sb,0,none⟩) s'.sc s'.S s'.D)(sl:s'.S.length=n)(el:s'.E.length=n)(eb:∀v∈s'.E,0<=v/\v<=s'.cnt)(J:HOk n s'.H)(z:s'.cnt=(E0.length:Int)+1)(I:s'.at1=e.ev) [qx s'.X s.X]
  (x:Sl) (w:s'.B=s.B.set t x) (K:e.k=3->qos W0 s'.X n (some x)):CkQ W0 n (E0++ [e.m]) s':=by
 have j:t<s.B.length:=by rw[h.bl];exact o
 refine⟨G,sl,by rw[w,zm];exact h.bl,el,eb,J,by rw[z,z8];rfl,by rw[I,q40];rfl,fun u hu d=>?_⟩;rw[q4B (by show e.k≠0;omega)] at d;rw[w,qjJ j]
 by_cases f:u=t
 ·rw[if_pos (by show e.t=u;omega)] at d;rw[if_pos f];exact K d
 ·rw[if_neg (by show ¬e.t=u;omega)] at d;rw[if_neg f];obtain⟨a,c,row,A,C,F⟩:=h.b u hu d;exact⟨a,c,row,A,C.up,F⟩
theorem qhe{own:Own}{s:CkS}(o:CkQ W0 n E0 s)(G:EvR W0 r0 e)(I:e.k=3\/e.k=4)(d:qn7 n E0 e.m) [i1:qx own [ckN s.cnt s.at1 s.cb s.eb s.sb s.bb n s.sc s.bs nnR]] [i2:qx own [q0S q2k 24 s.bb s.B]] [i3:qx own r0]:
  jl W0 41 [jn s.cb,e.v] own (.bool true):=by
 have z:Cl W0 own s.cb 0 (j4 s.cnt):=Kn.ent (qj (zf.2 rfl) rfl) (i1.h W0);have A:Cl W0 own s.cb 1 (j4 s.at1):=Kn.ent (qj (zf.2 rfl) rfl) (i1.h W0);have C:Cl W0 own s.cb 2 (.slice (some ⟨s.eb,0,none⟩) n n):=Kn.ent (qj (zf.2 rfl) rfl) (i1.h W0);have j:Cl W0 own s.cb 4 (.slice (some ⟨s.bb,0,none⟩) n n):=Kn.ent (qj (zf.2 rfl) rfl) (i1.h W0);have F:RdE q2k 1 W0 own (some ⟨s.bb,0,none⟩) s.B:=(q9Q (T:=24) (b:=s.bb) q74).ent (i2.h W0);have f:=o.bl;rw[<-f] at j;have v:=d.t;refine qeG (G.ent' (i3.h W0)) z A C (by rwa[f] at j ⊢) F v d.w (by rw[o.at'];exact d.ev) (Z7.2 fun w hw=>decide_eq_true (d.r w hw)) (Z7.2 fun w hw=>decide_eq_true (d.wl w hw)) ?_
 rcases I with h|h
 ·have:=d.pl (by show e.k≠4;omega);exact .inl ⟨h,this.1,this.2⟩
 ·have ht':0<=e.t/\e.t<n:=v;obtain⟨a,c,row,j,_⟩:=o.b e.t.toNat Yb (by rw[Zj ht'.1];exact d.en h);exact .inr ⟨h,_,_,j⟩
theorem qh1{s:CkS}(hN:q0Z W0 0 noneV)(d:CkQ W0 n E0 s)(hE:EvR W0 r0 e)(hk:e.k=3\/e.k=4)(Z:qn7 n E0 e.m)(aC:n<=16)(hl:E0.length<65536):
  jk W0 22 [jn s.cb,e.v] (s.O n++r0) fun v own'=>∃s':CkS,(v= .tuple #[.agg noneV.toArray,j4 0]/\s'.cb=s.cb/\CkQ W0 n (E0++ [e.m]) s')/\Ent W0 own' (s'.O n++r0):=by
 refine sC [138] [3,5,7,11,15,17,19,21,1,9,1,13,24,25,28,0,24,13,25,28,0,1,13,1,9,24,25,28,0,24,9,25,28,0,24,9,13,25,28,0,3,5,7,9,11,13,15,18,0,3,5,7,9,11,13,15,18,0] ?_;have P:=fun(own':Own) (j1:qx own' [ckN s.cnt s.at1 s.cb s.eb s.sb s.bb n s.sc s.bs nnR]) (j2:qx own' [q0S q2k 24 s.bb s.B]) (j3:qx own' r0)=>qhe (own:=own') d hE hk Z
 have hcn:=d.cn;have hl':¬s.cnt=65536:=Yb;have ht0:0<=e.t/\e.t<n:=Z.t;have hw0:0<=e.w/\e.w<64:=Z.w;obtain⟨t,ht⟩:∃t:Nat,e.t=t:=⟨e.t.toNat,Yb⟩
 have F:t<n:=Yb;have Q:=fun(s':CkS)=>d.next (s':=s') hk ht F
 have ay:=fun h4:e.k=4=>d.b t F (by rw[<-ht];exact Z.en h4)
 have aG:e.rl.all inW=true/\e.wl.all inW=true:=⟨Z7.2 fun w hw=>decide_eq_true (Z.r w hw),Z7.2 fun w hw=>decide_eq_true (Z.wl w hw)⟩
 obtain⟨y0,C⟩:∃y,s.E[t]? =some y:=⟨_,z6 (by rw[d.el];exact F)⟩
 have j:=fun(own':Own) [qx own' [q0S qw 3 s.eb s.E]]=>qaK (W0:=W0) (own:=own') (cap:=n) (l:=s.E) (RdE.up (q9Q (T:=3) (b:=s.eb) qd1)) (fun h=>by rw[h] at C;simp at C) (by rw[d.el];omega)
 rw[d.el] at j;have aj:s.E≠ []:=fun h=>by rw[h] at C;simp at C
 have J:=d.bl.symm;have aB:=d.eb;obtain⟨y,hy⟩:∃y,s.B[t]? =some y:=⟨_,z6 Yb⟩
 have I:=fun(h4:e.k=4) (ba:Addr) (bc:Nat) (row:jd) (R:Own) (z:EvR W0 R e) (hb:s.B[t]? =some (some ba,n,bc)) (K:RdE qw 1 W0 s.X (some ba) row) (W:row.length=n) (U:∀v∈row,0<=v)=>qh2 (W0:=W0) (r0:=R) (at1:=s.at1) (cb:=s.cb) (eb:=s.eb) (sb:=s.sb) (bb:=s.bb) (sc:=s.sc) (bs:=s.bs) h4 ht F aC (show 0<=s.cnt/\s.cnt<=65536 by omega) z aG hN d.sB d.sl.symm J hb K W U d.hh d.el.symm d.eb
 have z:∀(R:Own) [qx R r0],EvR W0 R e:=fun R _=>hE.up
 obtain⟨ev,tt,k,wd,ra,rl,rc,wa,wl,wc⟩:=e;dsimp only[EH.v] at*;subst ht
 repeat'((try conv=>whnf);first|refine qg fun b3 hb3=>?_;apply Stop.h)
 refine Stop.mk ?_
 repeat'((try conv=>whnf);first|refine fD ?_|refine fG ?_|refine qg fun b4 hb4=>?_|apply qe;refine qd (P _ Ye Ye Ye) ?_|refine fA ?_|refine fL ?_)
 refine q39 (σ:=CkS) 2305843009205305344 (fun _=> []) (fun s'=>(b4,j7 #[j4 0,j4 0,j4 0] 42)::(b3,evP ev t k wd ra rl.length rc wa wl.length wc)::(ckO s.cnt s.at1 nnR s'.E s'.H s'.cb s'.eb s'.sb s'.bb n s'.sc s'.bs s'.B s'.D s'.X++r0)) (fun s'=>s'.cb=s.cb/\s'.cnt=s.cnt+1/\s'.at1=ev/\CkQ W0 n (E0++ [(⟨ev,(t:Int),k,wd,ra,rl,rc,wa,wl,wc⟩:EH).m]) s') rfl ?_ fun s' junk hs=>?_
 ·clear P
  rcases hk with rfl|rfl
  ·repeat'((try conv=>whnf);first|refine fE ?_|refine stC (T:=24) (k:=0) (a1,n,c1) q74 hy ?_ ?_ ?_ ?_ ?_;exact rfl;omega;exact rfl;exact rfl|(apply qL;first|refine ixC hy J ?_ ?_;(first|rfl|omega))|(apply qe;first|refine qk (j _) fun q v Y=>?_;obtain⟨a1,c1,D1⟩:=q;obtain⟨rfl,f⟩:=Y;dsimp only at f)|refine fA ?_|refine q1k.mk ?_ ?_)
   all_goals
    obtain⟨a2,rfl⟩:=qfp f aj;refine⟨⟨s.cnt+1,ev,s.E,s.H,s.cb,s.eb,s.sb,s.sc,s.bb,s.bs,s.S,s.B.set t (some a2,n,c1),s.D,D1++s.X⟩,⟨rfl,rfl,rfl,Q _ d.sB d.sl d.el (fun v Y=>?_) d.hh (by dsimp only;omega) rfl _ rfl fun _=>⟨a2,c1,s.E,rfl,f.rd.up,d.el,fun v Y=>(aB v Y).1⟩⟩,trivial,by unfold ckO;exact qiV (D:=s.D) (A:=q2U s.bs s.H 256) (X:=s.X) (D1:=D1)⟩;have:=aB v Y;dsimp only;omega
  ·obtain⟨ba,bc,row,hb,K,W,U⟩:=ay rfl;have N:=q6s (r:=r0) (A:= [(b4,j7 #[j4 0,j4 0,j4 0] 42),(b3,evP ev t 4 wd ra rl.length rc wa wl.length wc)]) (I rfl ba bc row _ (z _) hb K W U)
   repeat'((try conv=>whnf);first|refine fE ?_|refine fD ?_|refine stC (T:=24) (k:=0) (none,0,0) q74 hy ?_ ?_ ?_ ?_ ?_;exact rfl;omega;exact rfl;exact rfl|(apply qL;first|refine ixC hy J ?_ ?_;(first|rfl|omega))|(apply qe;first|refine qk N fun q v Y=>?_;obtain⟨⟨S2,D2⟩,E2,H2⟩:=q;obtain⟨rfl,f,av,af,G,aq⟩:=Y;dsimp only at f av af G aq)|refine fA ?_|refine fL ?_)
   exact⟨⟨s.cnt+1,ev,E2,H2,s.cb,s.eb,s.sb,s.sc,s.bb,s.bs,S2,s.B.set t (none,0,0),D2,s.X⟩,⟨rfl,rfl,rfl,Q _ f av af G aq (by dsimp only;omega) rfl _ rfl fun h=>absurd h Yc⟩,trivial,Ent.refl⟩
 ·obtain⟨aA,az,aw,au⟩:=hs;obtain⟨cnt',ae,E',H',cb',aF,aH,aI,aE,bs',S',B',D',X'⟩:=s';dsimp only at aA az aw au ⊢;subst aA az aw;clear P d Q j ay I z
  repeat'((try conv=>whnf);first|refine qmP ?_|refine qmO ?_|refine qde ?_ ?_;exact rfl|refine fB ?_|refine fA ?_|refine fL ?_|refine fM ?_)
  exact⟨⟨s.cnt+1,ae,E',H',s.cb,aF,aH,aI,aE,bs',S',B',D',X'⟩,⟨rfl,rfl,au⟩,Ent.drop.trans Ent.drop⟩
end
def ckV(cnt at1:Int)(ev sv bv:Value)(V:Nat->Value)(r:q4O):je:= [j4 cnt,j4 at1,ev,sv,bv]++(q9b 256 V++q8Q r)
theorem qcz{cnt at1:Int}{ev sv bv:Value}{V:Nat->Value}{r:q4O}:(ckV cnt at1 ev sv bv V r).length=264:=by
 unfold ckV;rw[z8,z8,q28];rfl
theorem qg4{n k:Nat}{V V2:Nat->Value}{v0 v1 v2 v3:Value}(h:k+4<=n)(w:V2 k=v0)(z:V2 (k+1)=v1)(A:V2 (k+2)=v2)(C:V2 (k+3)=v3)(s:∀i,i<n->(i<k\/k+4<=i)->V2 i=V i):
  (q9b n V).take k++ [v0,v1,v2,v3]++(q9b n V).drop (k+4)=q9b n V2:=by
 have d:∀V:Nat->Value,(q9b n V).length=n:=fun V=>q28
 apply Z8;intro i
 by_cases f:i<n
 ·rw[q4G f]
  by_cases v:i<k
  ·rw[zd,zB (by rw[zM,d];omega),Y7,if_pos v,q4G f,s i f (.inl v)]
  ·by_cases o:k+4<=i
   ·rw[zJ (by rw[z8,zM,d];simp only[zu,zE];omega),z8,zM,d,yJ];simp only[zu,zE];have e:k+4+(i-(min k n+(0+1+1+1+1)))=i:=Yb;rw[e,q4G f,s i f (.inr o)]
   ·rw[zd,zJ (by rw[zM,d];omega),zM,d];have e:min k n=k:=Yb;rw[e];obtain⟨j,rfl⟩:∃j,i=k+j:=⟨i-k,Yb⟩
    rw[Za];have F:j=0\/j=1\/j=2\/j=3:=Yb
    rcases F with rfl|rfl|rfl|rfl
    ·show some v0=some (V2 k);rw[w]
    ·rw[z];rfl
    ·rw[A];rfl
    ·rw[C];rfl
 ·rw[zR (l:=q9b n V2) (by rw[d];omega),zR];rw[z8,z8,zM,ZM,d];simp only[zu,zE];omega
section
variable{W0:World}{own:Own}{cnt at1:Int}{cb:Nat}{ev sv bv:Value}{V:Nat->Value}{r:q4O}{T:TypeId}
theorem qmQ{v:Value}{K:Own->Prop}{C:(Obj->Prop)->Own} [m:UpC cb (j7 (ckV cnt at1 ev sv bv V r).toArray T (0,0)) own C](d:q2r v=true)(h:K (C fun o=>o=Obj.cells (ckV cnt at1 ev v bv V r).toArray T (0,0))):StT W0 own ⟨cb,3,none⟩ v K:=
 qkV (by show Nat.ble 4 (ckV cnt at1 ev sv bv V r).length=true;rw[qcz];rfl) d h
theorem qoi{w k:Nat}{v0 v1 v2 v3:Value}{V2:Nat->Value}{K:Own->Prop}{C:(Obj->Prop)->Own} [m:UpC cb (j7 (ckV cnt at1 ev sv bv V r).toArray T (0,0)) own C](d:4=k)(hw:w<64)(f:V2 (4*w)=v0)(j:V2 (4*w+1)=v1)(s:V2 (4*w+2)=v2)(v:V2 (4*w+3)=v3)
  (F:∀i,i<256->(i<4*w\/4*w+4<=i)->V2 i=V i) (G: [v0,v1,v2,v3].all q2r=true) (h:K (C fun o=>o=Obj.cells (ckV cnt at1 ev sv bv V2 r).toArray T (0,0))): [v0,v1,v2,v3].length=k/\StN W0 own ⟨cb,5+w*4,none⟩ [v0,v1,v2,v3] K:=by
 subst d;refine qkz (cs:=(ckV cnt at1 ev sv bv V r).toArray) (T:=T) rfl ?_ G ?_
 ·rw[zQ,qcz];exact Nat.ble_eq_true_of_le Yb
 ·have e:(ckV cnt at1 ev sv bv V r).take (5+w*4)++ [v0,v1,v2,v3]++(ckV cnt at1 ev sv bv V r).drop (5+w*4+4)=ckV cnt at1 ev sv bv V2 r:=by
   have z:5+w*4=4*w+1+1+1+1+1:=Yb;have A:5+w*4+4=(4*w+4)+1+1+1+1+1:=Yb;rw[A,z];unfold ckV;simp only[zk,zj,Y4,yi];rw[Zh (by rw[q28];omega),List.drop_append_of_le_length (by rw[q28];omega),<-zd,qg4 (n:=256) (k:=4*w) Yb f j s v F]
  rw[zQ,e];exact h
end
theorem qnc{e:j9}{A r:Own}:(e::(A++r)).Perm ((A++ [e])++r):=by
 rw[zd];exact Z2.symm
theorem qoG{o j f d:j9}{A r:Own}:(d::f::j::o::(A++r)).Perm (((((A++ [o])++ [j])++ [f])++ [d])++r):=
 (((qnc.cons j).cons f).cons d).trans (((qnc.cons f).cons d).trans ((qnc.cons d).trans qnc))
section
variable{W0:World}{own:Own}
theorem q6V:okF Tryz.prog 40=true:=by kernel_rfl
end
section
variable{W0:World}{own:Own}
theorem qh4{n:Nat}(hN:q0Z W0 0 noneV)(h1:1<=n)(h2:n<=16):
  jk W0 21 [j4 n] own fun v own'=>∃s:CkS,(v= .tuple #[jn s.cb,j4 0]/\CkQ W0 n [] s)/\Ent W0 own' (s.O n++own):=by
 refine sC [81] [3,7,11,1,6,10,13,16,17,0,10,6,13,16,17,0,3,5,7,9,11,13,16,18,20,21,23,26,0,3,5,7,11,15,19,25,27,10,14,18,22,23,29,32,0] ?_
 repeat'((try conv=>whnf);first|refine fH ?_|refine fG ?_|refine fK ?_|refine qg fun tb htb=>?_|refine fA ?_)
 refine q39 (σ:=Nat×Nat×Nat) 1040400 (fun s=> [(4,jn s.1)]) (fun s=>match s with|(cb,eb,bb)=>(tb,j7 #[j4 n] 3)::(cb,j7 (ckV 0 0 (.slice (some ⟨eb,0,none⟩) n n) (j6) (.slice (some ⟨bb,0,none⟩) n n) (fun _=> j6) nnR).toArray 125 (0,0))::q0S qw 3 eb (List.replicate n 0)::q0S q2k 24 bb (List.replicate n (none,0,0))::own) (fun _=>True) rfl ?_ fun s A _=>?_
 ·repeat'((try conv=>whnf);first|refine mkC (enc:=qw) (T:=3) n 0 rfl rfl rfl ?_ fun eb=>?_;omega|refine mkC (enc:=q2k) (T:=24) n (none,0,0) rfl rfl rfl ?_ fun bb=>?_;omega|refine qaf hN _ rfl rfl ?_|refine qg fun cb hcb=>?_|refine fA ?_|refine q1k.mk ?_ ?_)
  ·refine⟨(cb,eb,bb),trivial,(eF),?_⟩;refine(Ent.head (fun o h=>h.trans ?_)).trans (qcJ (b0:=tb) (b1:=cb) (b2:=eb) (b3:=bb) rfl)
   kernel_rfl
  ·refine⟨(cb,eb,bb),trivial,(eF),?_⟩;refine(Ent.head (fun o h=>h.trans ?_)).trans (qcJ (b0:=tb) (b1:=cb) (b2:=eb) (b3:=bb) rfl)
   kernel_rfl
 ·obtain⟨cb,eb,bb⟩:=s;dsimp only
  repeat'((try conv=>whnf);first|refine fA ?_)
  refine qQ (σ:=j8×Nat×List Sl×Own) (fun s=>match s with|(_,_,S,_)=> [(21,j4 S.length)]) (fun s=>match s with|(a,c,S,D)=>(tb,j7 #[j4 n] 3)::(cb,j7 (ckV 0 0 (.slice (some ⟨eb,0,none⟩) n n) (.slice a S.length c) (.slice (some ⟨bb,0,none⟩) n n) (fun _=> j6) nnR).toArray 125 (0,0))::q0S qw 3 eb (List.replicate n 0)::q0S q2k 24 bb (List.replicate n (none,0,0))::(D++own))
   (fun s=>match s with|(a,c,S,D)=>S.length<=n/\qq q2k 24 1 a c S D) (fun s=>match s with|(_,_,S,_)=>n-S.length) (none,0,[],[]) ⟨Yd,qq.nil⟩ (eF) Ent.refl rfl ?_
  rintro⟨a,c,S,D⟩ A ⟨hSl,Z⟩;dsimp only
  by_cases hlt:S.length<n
  ·have N:(S.length:Int)<n:=Yb
   repeat'((try conv=>whnf);first|refine fF ?_|refine mkC (enc:=qw) (T:=3) n 0 rfl rfl rfl ?_ fun C=>?_;omega|refine qg fun qb hqb=>?_|refine q0f (enc:=q2k) (T2:=24) (ys:= #[.slice (some ⟨C,0,none⟩) n n]) (some ⟨C,0,none⟩,n,n) Z rfl rfl ?_ rfl rfl ?_ fun a1 c1 D1 ae=>?_;omega;omega|refine qmQ ?_ ?_;exact rfl|refine fB ?_|refine fA ?_)
   have au:(S++ [((some ⟨C,0,none⟩,n,n):Sl)]).length=S.length+1:=Yd;refine⟨(a1,c1,S++ [(some ⟨C,0,none⟩,n,n)],D1),⟨by show(S++ [((some ⟨C,0,none⟩,n,n):Sl)]).length<=n;omega,ae⟩,by show n-(S++ [((some ⟨C,0,none⟩,n,n):Sl)]).length<n-S.length;omega,⟨vi (by show(S.length:Int)+1=((S++ [((some ⟨C,0,none⟩,n,n):Sl)]).length:Nat);omega),trivial⟩,?_⟩;dsimp only;rw[au];exact Ent.drop.trans Ent.drop
  ·have N:¬(S.length:Int)<n:=Yb;have d:S.length=n:=Yb
   repeat'((try conv=>whnf);first|refine fG ?_)
   rw[d];obtain⟨sb,rfl⟩:∃sb,a=some ⟨sb,0,none⟩:=by
    rcases Z.how with ⟨h,_,_⟩|⟨b,_,h,_⟩
    ·rw[h] at d;simp at d;omega
    ·exact⟨b,h⟩
   have af:(fun i=>if i<4*0 then q8v (fun _=>0) n i else j6)=(fun _=>j6):=by funext i;rw[if_neg Yb]
   refine qQ (σ:=Nat×(Nat->Nat)) (fun s=> [(35,j4 s.1)]) (fun s=>match s with|(w,bs)=>(tb,j7 #[j4 n] 3)::(cb,j7 (ckV 0 0 (.slice (some ⟨eb,0,none⟩) n n) (.slice (some ⟨sb,0,none⟩) n c) (.slice (some ⟨bb,0,none⟩) n n) (fun i=>if i<4*w then q8v bs n i else j6) nnR).toArray 125 (0,0))::q0S qw 3 eb (List.replicate n 0)::q0S q2k 24 bb (List.replicate n (none,0,0))::(q2U bs (fun _=>List.replicate n (0,0)) (4*w)++(D++own))) (fun s=>s.1<=64) (fun s=>64-s.1) (0,fun _=>0) Yd (eF) (by dsimp only;rw[af];exact Ent.refl) rfl ?_;rintro⟨w,bs⟩ A hw;dsimp only at hw ⊢;have f:=fun(own':Own) (_:qy tb (j7 #[j4 n] 3) own')=>qjY (W0:=W0) (own:=own') (tb:=tb) (n:=n) Yb
   by_cases P:w<64
   ·have av:(w:Int)<64:=Yb
    repeat'((try conv=>whnf);first|refine fF ?_|refine q3S.mk ⟨q6V,?_⟩|(apply qe;first|refine qk (f _ Ye) fun Q v z=>?_;subst z;apply Stop.h))
    refine Stop.mk ?_
    repeat'((try conv=>whnf);first|refine q3S.mk ⟨q6V,?_⟩|(apply qe;first|refine qk (f _ Ye) fun c1 v z=>?_;subst z;apply Stop.h))
    refine Stop.mk ?_
    repeat'((try conv=>whnf);first|refine q3S.mk ⟨q6V,?_⟩|(apply qe;first|refine qk (f _ Ye) fun c2 v z=>?_;subst z;apply Stop.h))
    refine Stop.mk ?_
    repeat'((try conv=>whnf);first|refine q3S.mk ⟨q6V,?_⟩|(apply qe;first|refine qk (f _ Ye) fun R v z=>?_;subst z;apply Stop.h))
    refine Stop.mk ?_;obtain⟨bs',F,G,I,J,K⟩:∃bs':Nat->Nat,bs' (4*w)=Q/\bs' (4*w+1)=c1/\bs' (4*w+2)=c2/\bs' (4*w+3)=R/\∀j,j<4*w->bs' j=bs j:=by
     refine⟨fun j=>if j<4*w then bs j else if j=4*w then Q else if j=4*w+1 then c1 else if j=4*w+2 then c2 else R,?_,?_,?_,?_,fun j W=>if_pos W⟩
     ·show(if 4*w<4*w then _ else _)=_;rw[if_neg Yb,if_pos rfl]
     ·show(if 4*w+1<4*w then _ else _)=_;rw[if_neg Yb,if_neg Yb,if_pos rfl]
     ·show(if 4*w+2<4*w then _ else _)=_;rw[if_neg Yb,if_neg Yb,if_neg Yb,if_pos rfl]
     ·show(if 4*w+3<4*w then _ else _)=_;rw[if_neg Yb,if_neg Yb,if_neg Yb,if_neg Yb]
    have U:∀k c,k<4->bs' (4*w+k)=c->(if 4*w+k<4*(w+1) then q8v bs' n (4*w+k) else j6)= .slice (some ⟨c,0,none⟩) n n:=fun k c hk hb=>by
     rw[if_pos Yb];show Value.slice (some ⟨bs' (4*w+k),0,none⟩) n n=_;rw[hb]
    have hV:∀i,i<256->(i<4*w\/4*w+4<=i)->(fun i=>if i<4*(w+1) then q8v bs' n i else j6) i=(fun i=>if i<4*w then q8v bs n i else j6) i:=fun i _ hi=>by
     show(if i<4*(w+1) then q8v bs' n i else j6)=(if i<4*w then q8v bs n i else j6)
     rcases hi with hi|hi
     ·rw[if_pos Yb,if_pos hi];show Value.slice (some ⟨bs' i,0,none⟩) n n=_;rw[K i hi]
     ·rw[if_neg Yb,if_neg Yb]
    have aj:q2U bs' (fun _=>List.replicate n (0,0)) (4*(w+1))=(((q2U bs (fun _=>List.replicate n (0,0)) (4*w)++ [q0S q13 192 Q (List.replicate n (0,0))])++ [q0S q13 192 c1 (List.replicate n (0,0))])++ [q0S q13 192 c2 (List.replicate n (0,0))])++ [q0S q13 192 R (List.replicate n (0,0))]:=by
     show(((q2U bs' (fun _=>List.replicate n (0,0)) (4*w)++ [q0S q13 192 (bs' (4*w)) (List.replicate n (0,0))])++ [q0S q13 192 (bs' (4*w+1)) (List.replicate n (0,0))])++ [q0S q13 192 (bs' (4*w+2)) (List.replicate n (0,0))])++ [q0S q13 192 (bs' (4*w+3)) (List.replicate n (0,0))]=_;rw[F,G,I,J,q3T (bs':=bs) (H':=(fun _=>List.replicate n (0,0))) fun j W=>⟨K j W,rfl⟩]
    repeat'((try conv=>whnf);first|refine qoi (w:=w) (V2:=(fun i=>if i<4*(w+1) then q8v bs' n i else j6)) rfl P (U 0 Q Yb F) (U 1 c1 Yb G) (U 2 c2 Yb I) (U 3 R Yb J) hV rfl ?_|refine fB ?_|apply ixj;omega)
    refine⟨(w+1,bs'),by dsimp only;omega,by dsimp only;omega,⟨vi (by dsimp only;omega),trivial⟩,?_⟩;dsimp only;rw[aj];exact(qcJ (b0:=tb) (b1:=cb) (b2:=eb) (b3:=bb) rfl).trans (Ent.of_perm ((((qoG.cons _).cons _).cons _).cons _))
   ·have av:¬(w:Int)<64:=Yb;have aw:w=64:=Yb;subst aw;have aq:ckV 0 0 (.slice (some ⟨eb,0,none⟩) n n) (.slice (some ⟨sb,0,none⟩) n c) (.slice (some ⟨bb,0,none⟩) n n) (fun i=>if i<4*64 then q8v bs n i else j6) nnR=ckL 0 0 eb sb bb n c (q8v bs n) nnR:=by
     unfold ckV ckL;rw[qbq (g':=q8v bs n) fun j W=>if_pos Yb]
    rw[aq]
    repeat'((try conv=>whnf);first|refine fD ?_)
    refine⟨⟨0,0,List.replicate n 0,fun _=>List.replicate n (0,0),cb,eb,sb,c,bb,bs,S,List.replicate n (none,0,0),D,[]⟩,⟨rfl,Z,d,Yd,Yd,fun v z=>?_,fun j=>⟨Yd,fun _ i x Y=>?_⟩,rfl,rfl,fun u hu h3=>absurd h3 (by show(0:Int)≠3;decide)⟩,?_⟩
    ·rw[(yI.1 z).2];exact⟨zK _,zK _⟩
    ·rw[Zi] at Y
     split at Y
     ·exact(Option.some.inj Y).symm
     ·cases Y
    ·show Ent W0 _ (ckO 0 0 nnR (List.replicate n 0) (fun _=>List.replicate n (0,0)) cb eb sb bb n c bs (List.replicate n (none,0,0)) D []++own);unfold ckO;refine Ent.drop.trans (Ent.of_perm ?_);refine(((?_:List.Perm _ _).cons _).cons _).cons _;have hp:(q2U bs (fun _=>List.replicate n (0,0)) (4*64)++(D++own)).Perm ((D++(q2U bs (fun _=>List.replicate n (0,0)) (4*64)++ []))++own):=by
      rw[zC,<-zd];exact Zc.append_right own
     exact hp
end
section
variable{W0:World}{own:Own}
theorem qkt{P:Program}{σ:Type}{k:FuncId}{args:je}{d:j9}{D r:Own}{R:σ->Value->Prop}{O:σ->Own}(h:qu P W0 k args (D++([d]++r)) fun v own'=>∃s,R s v/\Ent W0 own' (O s++([d]++r))):qu P W0 k args (d::(D++r)) fun v own'=>∃s,R s v/\Ent W0 own' (d::(O s++r)):=q6s (A:= [d]) h
theorem qh6{cnt at1:Int}{cb eb sb bb n sc:Nat}{bs:Nat->Nat}{r:q4O} [i1:qx own [ckN cnt at1 cb eb sb bb n sc bs r]]:jl W0 23 [jn cb] own (.agg (q8Q r).toArray):=by
 refine qi (sH [] ?_);have d:∀(own':Own) (_:qx own' [ckN cnt at1 cb eb sb bb n sc bs r]) (K:jg->Prop),K (q8Q r).toArray->LdN W0 own' ⟨cb,261,none⟩ 3 K:=fun own' i K s=>by
  obtain⟨vs,f,j,o⟩:LdN W0 [ckN cnt at1 cb eb sb bb n sc bs r] ⟨cb,261,none⟩ 3 K:=qde rfl s;exact⟨vs,f,fun w hw=>j w (i.h W0 w hw),o⟩
 repeat'((try conv=>whnf);first|refine fD ?_|refine d _ Ye _ ?_|refine fL ?_|refine fM ?_|refine qg fun bk hbk=>?_)
 exact⟨rfl,(eC)⟩
end
end Ord
theorem TrW.at{n:Nat}{E:jj}(h:TrW n E):∀{i:Nat} {e:EvM},E[i]? =some e->qn7 n (E.take i) e:=by
 induction h with
 |nil=>intro i e he;cases he
 | @snoc E e hE he j=>
  intro i x d
  by_cases hi:i<E.length
  ·rw[zB hi] at d;rw[Zh Yb];exact j d
  ·rw[zJ Yb] at d;have f:i=E.length:=by
    have:=(z7.1 d).1;rw[zA] at this;omega
   subst f;rw[ZC] at d;obtain rfl:=Option.some.inj d;rw[Zh (zN _),Z3];exact he
namespace Ord
open Go
section
variable{W0:World}{own:Own}
theorem qaU{a:j8}{l:List EH}{E0:jj}{n cap:Nat}(hN:q0Z W0 0 noneV)(hR:RdE EH.enc 6 W0 own a l)(hE:∀e∈l,EvR W0 own e)(hl:l.length<=65536)(h1:1<=n)(C:n<=16)(ht:TrW n E0)(hm:l.map EH.m=E0)(hk:∀e∈E0,e.k=3\/e.k=4):
  jl W0 10 [.slice a l.length cap,j4 n] own (.tuple #[.agg noneV.toArray,j4 0]):=by
 refine qi (sH [] ?_);subst hm;have f:=fun own'=>qh4 (W0:=W0) (own:=own') hN (n:=n) h1 C
 repeat'((try conv=>whnf);first|refine qg fun b4 hb4=>?_|(apply qe;first|refine qk (f _) fun s v Y=>?_;obtain⟨rfl,F⟩:=Y;apply Stop.h))
 refine Stop.mk ?_
 repeat'((try conv=>whnf);first|refine fD ?_|refine fO ?_)
 refine qQ (σ:=Nat×CkS) (fun q=> [(23,j4 q.1)]) (fun q=>q.2.O n++((b4,j7 #[j4 0,j4 0,j4 0] 42)::own)) (fun q=>q.1<=l.length/\q.2.cb=s.cb/\CkQ W0 n ((l.map EH.m).take q.1) q.2) (fun q=>l.length-q.1) (0,s) ⟨zl _,rfl,F⟩ (eF) Ent.refl rfl ?_;clear F f;rintro⟨i,s'⟩ junk ⟨hi,G,hM⟩;obtain⟨z,w,E',H',cb',P,Z,ae,N,bs',S',B',D',X'⟩:=s';dsimp only at hi G hM ⊢;subst G
 by_cases J:i<l.length
 ·obtain⟨e,he⟩:∃e,l[i]? =some e:=⟨_,z6 J⟩
  have K:(i:Int)<l.length:=Yb;have j:(l.map EH.m)[i]? =some e.m:=by rw[zI,he];rfl
  have W:(l.map EH.m).take (i+1)=(l.map EH.m).take i++ [e.m]:=by rw[zY,j];rfl
  have Q:=hE e (zh he);have d:=fun A:Own=>qh1 (r0:=A++((b4,j7 #[j4 0,j4 0,j4 0] 42)::own)) hN hM Q.up (hk e.m (zh j)) (ht.at j) C (by rw[zM,zi];omega)
  obtain⟨ev,tt,k,wd,ra,rl,rc,wa,wl,wc⟩:=e;dsimp only[EH.v] at d
  repeat'((try conv=>whnf);first|refine fD ?_|refine fF ?_|(apply qL;first|refine ixE hR he ?_ ?_;(first|rfl|omega))|apply q27;refine q0O hR he rfl ?_|(apply qe;first|refine qk (qkt (d [_])) fun q v Y=>?_;obtain⟨rfl,I,R⟩:=Y)|refine fB ?_|refine fO ?_|refine fL ?_|refine fM ?_|refine qg fun bk hbk=>?_)
  exact⟨(i+1,q),⟨J,I,by dsimp only;rw[W];exact R⟩,by dsimp only;omega,(eF),Ent.drop.trans Ent.drop⟩
 ·have K:¬(i:Int)<l.length:=Yb;have U:=fun(own':Own) (j1:qx own' [ckN z w s.cb P Z N n ae bs' nnR])=>qh6 (W0:=W0) (own:=own') (i1:=j1)
  repeat'((try conv=>whnf);first|refine fG ?_|apply qe;refine qd (U _ Ye) ?_|refine fL ?_|refine fM ?_)
  exact⟨rfl,(eC)⟩
end
end Ord
open Go Go.Proofs.YtfnghamklcdgnaaGreatDoor.Ord
theorem qdx:∀(ps:ji) (t:Nat),(∀h∈ps,qB h.p=(0,0))->psG ps t=none
 | [],_,_=>rfl
 |x::l,t,h=>by
  unfold psG;rw[if_neg (by rw[h x zp];decide)];exact qdx l (t+1) fun y d=>h y (zr _ d)
theorem qdc{n:Nat}:∀(ks:jd) (t:Nat),(∀z∈ks,0<=z/\z<n)->ksG n ks t=(0,0,0)
 | [],_,_=>rfl
 |x::l,t,h=>by
  have:=h x zp;unfold ksG;rw[if_neg Yb];exact qdc l (t+1) fun y d=>h y (zr _ d)
theorem q8N{c:Cfg}{il:Nat}{ps:ji}{ks:jd}(j:qI c=0)(hn1:1<=ps.length)(hn:ps.length<=16)(hil:(il:Int)=c.words)(d:∀h∈ps,qB h.p=(0,0))(hk:ks.length<=65536)(f:∀z∈ks,0<=z/\z<(ps.length:Int)):csM c il ps ks=(0,0,0):=by
 unfold csM;rw[if_neg (by rw[j];decide),if_neg Yb,if_neg Yb,qdx ps 0 d];dsimp only;rw[if_neg Yb];exact qdc _ 0 f
structure ql1(c:Cfg)(il:jd)(O:Nat)(ps:List (jf))(l:jh):Prop where
 hc:qI c=0
 hil:(il.length:Int)=c.words
 hi1:il≠ []
 hi2:il.length<=1000
 hiw:∀x∈il,okU x
 hO:c.orecs=(O:Int)
 hO2:O<=1000
 hn1:1<=ps.length
 hn:ps.length<=16
 hck:∀p∈ps,qB p=(0,0)
 hpl:∀p∈ps,p.length<=100000
 hkb:l.length<=1000
 hkr:∀t∈l,t<ps.length
section
variable{W0:World}{own:Own}{c:Cfg}{ia pa ka:j8}{il:jd}{ic pc kc O:Nat}{ps:ji}{l:jh}{g:GS}
theorem q6r(Q:qE W0)(d:ql1 c il O (ps.map PH.p) l)(j:qkZ c il O (ps.map PH.p) l g)(R:RdE q06 1 W0 own ia il)(W:RdE PH.enc 1 W0 own pa ps)(Y:∀h∈ps,RdE Ins.enc 5 W0 own h.a h.p)(U:RdE qw 1 W0 own ka (l.map fun t=>((t:Nat):Int))):
  jl W0 9 [q9e c ia il.length ic pa ps.length pc ka (l.map fun t=>((t:Nat):Int)).length kc] own (.tuple #[j4 0,j4 0,j4 0]):=by
 have K:(ps.map PH.p).length=ps.length:=zi ..;have s:=d.hkr;have f:=d.hn1;have C:=d.hn;have G:=d.hkb;rw[K] at s f C;have o:∀h∈ps,qB h.p=(0,0):=fun h F=>d.hck _ (zO.2 ⟨h,F,rfl⟩)
 refine qi ?_;have J:=j.hg;rw[K] at J;have A:=j.hrun;have N:=qeJ (W0:=W0) (own:=own) (c:=c) (ic:=ic) (pc:=pc) (kc:=kc) Q (q8N (ks:=l.map fun t=>((t:Nat):Int)) d.hc f C d.hil o (by rw[zi];omega) (fun z I=>by obtain⟨t,Z,rfl⟩:=zO.1 I;have:=s t Z;omega)) (q8N (ks:= []) d.hc f C d.hil o (zl _) (fun z I=>by cases I)) d.hc R d.hil d.hi1 d.hi2 d.hiw d.hO d.hO2 W Y U f C o (fun h F=>d.hpl _ (zO.2 ⟨h,F,rfl⟩)) rfl G s J j.hS j.hob j.hxc A j.hgol j.hgo j.hgd j.hgl;intro w hw;refine(N w hw).mono ?_;rintro e w' ⟨v,own',he,d,_,rfl,P⟩;exact⟨_,own',he,d,rfl,P⟩
theorem qgB(hF:qE W0)(hN:q0Z W0 0 noneV)(f:ql1 c il O (ps.map PH.p) l)(J:qkZ c il O (ps.map PH.p) l g)(hE:(q0Y c il O (ps.map PH.p) l).E.length<=65536)(W:TrW ps.length (q0Y c il O (ps.map PH.p) l).E)(P:∀e∈(q0Y c il O (ps.map PH.p) l).E,e.k=3\/e.k=4)(Q:∀e∈(q0Y c il O (ps.map PH.p) l).E,e.r.length<=1000/\e.wl.length<=64)(hI:RdE q06 1 W0 own ia il)(hP:RdE PH.enc 1 W0 own pa ps)(hQ:∀h∈ps,RdE Ins.enc 5 W0 own h.a h.p)(hK:RdE qw 1 W0 own ka (l.map fun t=>((t:Nat):Int))):
  jl W0 6 [q9e c ia il.length ic pa ps.length pc ka (l.map fun t=>((t:Nat):Int)).length kc] own (.bool true):=by
 refine qi (sH [] ?_);have hl:(ps.map PH.p).length=ps.length:=zi ..;have C:=f.hkr;have j:=f.hn1;have I:=f.hn;have N:=f.hkb;rw[hl] at C j I;have F:∀h∈ps,qB h.p=(0,0):=fun h A=>f.hck _ (zO.2 ⟨h,A,rfl⟩)
 have hg:=J.hg;rw[hl] at hg;have U:=fun(own':Own) (m:qx own' own)=>qid (W0:=W0) (own:=own') (c:=c) (ic:=ic) (pc:=pc) (kc:=kc) hF (q8N (ks:=l.map fun t=>((t:Nat):Int)) f.hc j I f.hil F (by rw[zi];omega) (fun z hz=>by obtain⟨t,W,rfl⟩:=zO.1 hz;have:=C t W;omega)) f.hc hI.up f.hil f.hi1 f.hi2 f.hO f.hO2 hP.up (fun h A=>(hQ h A).up) hK.up j I F (fun h A=>f.hpl _ (zO.2 ⟨h,A,rfl⟩)) rfl N C hg J.hS J.hob
 have Z:=fun(own':Own) (m:qx own' own)=>q6r (W0:=W0) (own:=own') (c:=c) (ia:=ia) (ic:=ic) (pa:=pa) (pc:=pc) (ka:=ka) (kc:=kc) hF f J hI.up hP.up (fun h A=>(hQ h A).up) hK.up
 generalize q0Y c il O (ps.map PH.p) l=R at*
 repeat'((try conv=>whnf);first|refine qg fun bk hbk=>?_|(apply qe;first|refine qk (U _ Ye) fun y v hv=>?_;apply Stop.h)|refine fL ?_)
 obtain⟨⟨cs,ta,tc,tD,sa,sc,sD,ea,ec,oa,oc,oD,ol,da,el,eD,gD⟩,L⟩:=y;obtain⟨rfl,d,hL⟩:=hv;dsimp only at d hL;obtain⟨a1,a2,a3,a4,a5,n1,c1,n2,c2,n3,c3,n4,c4,n5,c5,x1,x2,x3,o⟩:=d.sh;dsimp only at o;subst o;have K:el.length<=65536:=by have:=congrArg List.length d.em;dsimp only at this;rw[zi] at this;omega
 have w:=d.ev;have G:=d.he;dsimp only at w G;have s:∀e∈el,e.rl.length<=1000/\e.wl.length<=64:=fun e he=>Q e.m (by rw[<-d.em];exact zO.2 ⟨e,he,rfl⟩)
 have Y:=fun(own':Own) (m1:qx own' eD) (m2:qx own' gD)=>qaU (W0:=W0) (own:=own') (a:=ea) (l:=el) (cap:=ec) hN ((G.rd (W0:=W0)).up) (fun e he=>⟨(w e he).1.up,(w e he).2.up,by have:=s e he;omega,by have:=s e he;omega⟩) K j I W d.em P
 refine Stop.mk ?_
 repeat'((try conv=>whnf);first|refine fH ?_|refine qg fun bk2 hbk2=>?_|(apply qe;first|refine qd (Y _ Ye Ye) ?_|refine qd (Z _ Ye) ?_)|refine fO ?_|refine fA ?_|refine fL ?_|refine fM ?_)
 all_goals exact⟨rfl,(eC)⟩
end
open Go Go.Proofs.YtfnghamklcdgnaaGreatDoor.Ord
structure qca(c:Cfg)(il:jd)(O:Nat)(ps:List (jf))(l:jh)(g:GS):Prop where
 r:qkZ c il O ps l g
 e:(q0Y c il O ps l).E.length<=65536
 t:TrW ps.length (q0Y c il O ps l).E
 k:∀e∈(q0Y c il O ps l).E,e.k=3\/e.k=4
theorem TrW.lb{n:Nat}{E:jj}(h:TrW n E):∀e∈E,e.r.length<=1000/\e.wl.length<=64:=by
 induction h with
 |nil=>intro e he;cases he
 |snoc _ d f=>
  intro e he
  rcases zw.1 he with h|h
  ·exact f e h
  ·rw[zf.1 h];exact d.lb
section
variable{W0:World}{own:Own}{c:Cfg}{ia pa ka:j8}{il:jd}{ic pc kc O:Nat}{ps:ji}{l:jh}{g:GS}
theorem qeo(j:qE W0)(v:q0Z W0 0 noneV)(A:ql1 c il O (ps.map PH.p) l)(d:∃g,qca c il O (ps.map PH.p) l g)(o:RdE q06 1 W0 own ia il)(w:RdE PH.enc 1 W0 own pa ps)(z:∀h∈ps,RdE Ins.enc 5 W0 own h.a h.p)(s:RdE qw 1 W0 own ka (l.map fun t=>((t:Nat):Int))):
  jl W0 6 [q9e c ia il.length ic pa ps.length pc ka (l.map fun t=>((t:Nat):Int)).length kc] own (.bool true):=by
 obtain⟨g,d⟩:=d;have f:=d.t;rw[zi] at f;exact qgB j v A d.r d.e f d.k d.t.lb o w z s
theorem qge{c:Cfg}{il:jd}{O:Nat}{ps:List (jf)}{l:jh}(z:COk c)(_:1<=ps.length)(F:ps.length<=16)(s:∀p∈ps,PrO p)(o:∀p∈ps,p.length<=64)(f:(il.length:Int)=c.words)(A:c.orecs=(O:Int))(hw:q3x il)(C:∀t∈l,t<ps.length)(j:l.length<=1000):∃g,qca c il O ps l g:=by
 obtain⟨g,r,v,w,d⟩:=qjD z F s o f A hw C j;have hs:=w.sl;have he:=d.el;exact⟨g,v,Yb,d.tr,d.ko⟩
end
end Go.Proofs.YtfnghamklcdgnaaGreatDoor
