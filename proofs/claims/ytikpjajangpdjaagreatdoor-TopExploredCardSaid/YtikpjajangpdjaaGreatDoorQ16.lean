/- What the laws share, part 16. No condition. -/
import Derived.Test.YtikpjajangpdjaaGreatDoorQ15
set_option maxHeartbeats 16000000
set_option maxRecDepth 10000
namespace Go.Proofs.YtikpjajangpdjaaGreatDoor
open Go
theorem q7h{c:Cfg}{P:List (jg)}:∀(l:List ChM) (s s':GS) (k:Nat),q4o c P s l=some s'->q9h c P l k s= .inl s'
 | [],s,s',k,h=>by cases h;rfl
 |ch::l,s,s',k,h=>by
  unfold q4o at h;unfold q9h doM;cases e:chM c P s ch with
  |none=>rw[e] at h;cases h
  |some s1=>
   rw[e] at h;dsimp only at h ⊢;rw[if_pos rfl];exact q7h l _ s' (k+1) h
theorem qoP{x x':GT}{s:StM}:∀z∈chN x x' s,z.ad= []:=by
 unfold chN;intro z b
 (repeat' split at b) <;>first|cases b;done|(rw[zf.1 b])
theorem qoQ{c:Cfg}{ps:List (jg)}{n:Nat}{r:RM}{t:Nat}:(∀z∈chR c ps n r t,z.ad= [])/\(chR c ps n r t).length<=1:=by
 have b:∀x x' s,(chN x x' s).length<=1:=fun x x' s=>by
  unfold chN
  (repeat' split) <;>simp
 unfold chR
 split
 ·split
  ·exact⟨fun _ h=>(by cases h),zv _⟩
  ·exact⟨qoP,b _ _ _⟩
 ·exact⟨fun _ h=>(by cases h),zv _⟩
theorem qa7{c:Cfg}{ps:List (jg)}{n:Nat}:∀(l:jj) (r:RM),(∀z∈q6y c ps n r l,z.ad= [])/\(q6y c ps n r l).length<=l.length
 | [],_=>⟨fun _ h=>(by cases h),zq _⟩
 |t::l,r=>by
  obtain⟨b,h2⟩:=qoQ (c:=c) (ps:=ps) (n:=n) (r:=r) (t:=t);obtain⟨d,h4⟩:=qa7 l (q0E c ps n r t);refine⟨fun z f=>?_,?_⟩
  ·rcases zy.1 f with h|h
   ·exact b z h
   ·exact d z h
  ·show(chR c ps n r t++_).length<=_;rw[z8,zm];omega
theorem qkF:∀{l:List ChM},(∀z∈l,z.ad= [])->(l.map qbV).map CH.m=l
 | [],_=>rfl
 |⟨t,f,ad⟩::l,h=>by
  have b:ad= []:=h _ zj;subst b;rw[zF,zF,qkF fun z d=>h z (zl _ d)]
theorem qiE{l:List OB}{o:OB}{W0:World}(h:o∈l):Ent W0 (qhz l) o.D:=by
 obtain⟨a,b,rfl⟩:=ZB h;unfold qhz;rw[zB,zF,zY,Z8];exact Ent.right.trans Ent.left
theorem qiG{l:List ObS}{o:ObS}{W0:World}(h:o∈l):Ent W0 (q3B l) o.D:=by
 obtain⟨a,b,rfl⟩:=ZB h;unfold q3B;rw[zB,zF,zY,Z8];exact Ent.right.trans Ent.left
section
variable{W0:World}{own:Own}{c:Cfg}
theorem qj1{ia pa ka:j9}{il ks:je}{ic pc kc:Nat}{ps:jk}{ca:j9}{cc:Nat}{b:List ChM}{g:GS}(N:qz W0)(P:RdE q05 1 W0 own ia il)(hil:il.length<=1000)(hw:∀x∈il,okU x)(Q:RdE PH.enc 1 W0 own pa ps)(R:∀h∈ps,RdE Ins.enc 5 W0 own h.a h.p)(C:∀h∈ps,noA h.p)(F:c.strong=false)
  (M:RdE CH.enc 3 W0 own ca (b.map qbV)) (A:∀z∈b,z.ad= []) (f:b.length<=5000) (o:csM c il.length ps []=(0,0,0)) (d:q4o c (ps.map PH.p) (q19 c il (ps.map PH.p)) b=some g):
  jn W0 30 [q9i c ia il.length ic pa ps.length pc ka ks.length kc, .slice ca (b.map qbV).length cc] own fun v own'=>∃y:RG,(v= .tuple #[y.v g,j5 0,j5 0]/\y.ok W0 g)/\Ent W0 own' (y.dD++(y.tD++(y.eD++(y.X++(y.oD++(q3B y.S++own)))))):=by
 have G:=qqm (W0:=W0) (own:=own) (c:=c) (ic:=ic) (pc:=pc) (ka:=ka) (ks:=ks) (kc:=kc) (cc:=cc) N P Yu hw Q R C F M (fun x W=>by
  obtain⟨z,_,rfl⟩:=zM.1 W;exact⟨RdE.nil,zq _,fun _ h=>(by cases h)⟩) (by rw[zi];exact f)
 have I:=q7h b _ _ 0 d;rw[qkF A,I] at G;intro w hw;refine(G w hw).mono ?_;rintro e w' ⟨v,own',he,U,⟨⟨k,e',rfl,E⟩,_⟩|⟨⟨y,s⟩,⟨rfl,_,J,K⟩,H⟩⟩
 ·exfalso
  rcases E with ⟨h,_⟩|⟨_,_,j,_,h⟩
  ·exact h (by rw[o])
  ·cases h
 ·cases J;exact⟨_,own',he,U,y,⟨rfl,K⟩,by simp only[RG.D,zd] at H;exact H⟩
theorem qgY{ia pa ka:j9}{il ks:je}{ic pc kc O:Nat}{ps:jk}{l:jj}{g:GS}(hF:qz W0)(aJ:csM c il.length ps ks=(0,0,0))(af:csM c il.length ps []=(0,0,0))(hc:qG c=0)(h0:c.c0=0/\c.c1=0/\c.c2=0/\c.c3=0)(hb:qT c=0)(hI:RdE q05 1 W0 own ia il)(aO:(il.length:Int)=c.words)(aN:il≠ [])(aw:il.length<=1000)(aP:∀x∈il,okU x)(hO:c.orecs=(O:Int))(aG:O<=1000)
  (hP:RdE PH.enc 1 W0 own pa ps) (hQ:∀h∈ps,RdE Ins.enc 5 W0 own h.a h.p) (hK:RdE qv 1 W0 own ka ks) (aS:1<=ps.length) (hn:ps.length<=16) (aI:∀h∈ps,qw h.p=(0,0)) (aU:∀h∈ps,noA h.p) (w:c.strong=false) (aW:∀h∈ps,h.p.length<=100000)
  (f:ks=l.map fun t=>((t:Nat):Int)) (aQ:l.length<=1000) (aR:∀t∈l,t<ps.length) (hg:∀k t,l[k]? =some t->StG c (ps.map PH.p) ps.length (q16 c il O (ps.map PH.p) (l.take k)) t) (hS:(q16 c il O (ps.map PH.p) l).S.length<=1000) (az:∀x∈(q16 c il O (ps.map PH.p) l).xs,x.obs.length<=100000)
  (bo:∀(u:Nat) x a,(q16 c il O (ps.map PH.p) l).xs[u]? =some x->x.at'=some a->0<=a.ck/\a.ck<=1099511627776)
  (aA:q4o c (ps.map PH.p) (q19 c il (ps.map PH.p)) (q6y c (ps.map PH.p) (ps.map PH.p).length ⟨ms0 il O (ps.map PH.p).length,(ps.map PH.p).map q3c,[],[]⟩ l)=some g)
  (hgol:g.O.length=(q16 c il O (ps.map PH.p) l).xs.length) (aM:∀(t:Nat) x,(q16 c il O (ps.map PH.p) l).xs[t]? =some x->∃s,g.O.getD t []=x.obs++s) (aL:(q16 c il O (ps.map PH.p) l).xs.any GT.stor=true\/g.d=(q16 c il O (ps.map PH.p) l).m.d) (hgl:g.d.length<=1000):
  jn W0 10 [q9i c ia il.length ic pa ps.length pc ka ks.length kc] own fun v own'=>∃_:Unit,v= .tuple #[j5 0,j5 0,j5 0]/\Ent W0 own' own:=by
 refine qE (sH (3::5::7::9::11::1::14::15::17::19::21::24::26::27::29::0::24::14::15::17::19::21::26::27::29::0::(jq 20 3 [0])) ?_);have bm:=fun(own':Own) (m:qr own' own)=>qnZ (W0:=W0) (own:=own') (c:=c) (ic:=ic) (pc:=pc) (kc:=kc) hF aJ hc h0 hb hI.up aO aN aw hO aG hP.up (fun h hh=>(hQ h hh).up) hK.up aS hn aI aW f aQ aR hg fun k=>Zc (qa7 _ _).2 (by rw[zQ];omega)
 obtain⟨aT,hcl⟩:=qa7 (c:=c) (ps:=ps.map PH.p) (n:=(ps.map PH.p).length) l ⟨ms0 il O (ps.map PH.p).length,(ps.map PH.p).map q3c,[],[]⟩;have hlen:(ps.map PH.p).length=ps.length:=zi ..;generalize q6y c (ps.map PH.p) (ps.map PH.p).length ⟨ms0 il O (ps.map PH.p).length,(ps.map PH.p).map q3c,[],[]⟩ l=Y at*;generalize q16 c il O (ps.map PH.p) l=R at*;have aY:=fun(own':Own) (m:qr own' own) (ca:j9) (cc:Nat) (hC:RdE CH.enc 3 W0 own' ca (Y.map qbV))=>qj1 (W0:=W0) (own:=own') (c:=c) (ia:=ia) (ic:=ic) (pc:=pc) (ka:=ka) (ks:=ks) (kc:=kc) (cc:=cc) hF hI.up aw aP hP.up (fun h hh=>(hQ h hh).up) aU w hC aT Yu af aA
 repeat'((try conv=>whnf);first|refine fD ?_|refine qf fun bk aH=>?_|(apply qe;first|refine qi (bm _ Yx) fun y v H=>?_;(obtain⟨xb,M,ca,cc,cD⟩:=y;obtain⟨rfl,d,hB⟩:=H;dsimp only at d hB;have aX:=fun(own':Own) (m:qr own' own) (m2:qr own' cD)=>aY own' m ca cc ((hB.rd (W0:=W0)).up))|refine qi (aX _ Yx Yx) fun y v H=>?_;(obtain⟨rfl,G⟩:=H;have aZ:=fun Q=>q9C (W0:=W0) (n:=ps.length) d.ok (by have:=d.len;rw[hlen] at this;omega) hS (fun y hy=>az y.x (by rw[<-d.x];exact zM.2 ⟨y,hy,rfl⟩)) Q)|refine qx (b:=M.b) (D:=M.mh.O R.m++(M.tD++(M.sD++(M.eD++(M.gD++(TsO c ps.length 0 M.L++ [])))))) aZ (fun Q=>sbE) fun r v H=>?_;(obtain⟨rfl,hr⟩:=H;obtain⟨cs,ta,tc,tD,sa,sc,sD,ea,ec,oa,oc,oD,ol,da,el,eD,gD⟩:=r;have bh:=hr.sh;obtain⟨a1,a2,a3,a4,a5,n1,c1,n2,c2,n3,c3,n4,c4,n5,c5,x1,x2,x3,I⟩:=bh;dsimp only at I;subst I))|refine fO ?_|refine fA ?_|refine fL ?_|refine fM ?_|refine q1a.mk ?_ ?_)
 all_goals
  have P:=hr.ho.rd (W0:=W0);have ae:=G.o.rd (W0:=W0);have j:=hr.ob;have E:=G.ol;dsimp only at P j;have br:(M.L.map fun y=>y.x.obs)=R.xs.map GT.obs:=by rw[<-d.x,ya];rfl
  rw[br] at j;have holl:ol.length=y.S.length:=by
   have h1:=congrArg List.length j;have Z:=congrArg List.length E;rw[zi,zi] at h1;rw[zi] at Z;omega
  have holn:ol.length<=16:=by
   have h1:=congrArg List.length j;have Z:=congrArg List.length E;have h4:=congrArg List.length d.x;have h5:=d.len;rw[zi,zi] at h1;rw[zi] at Z h4;rw[hlen] at h5;omega
  refine qK (σ:=Nat) (fun s=> [(48,j5 s)]) (fun _=>_) (fun s=>s<=ol.length) (fun s=>ol.length-s) 0 (zv _) (eF) Ent.refl rfl ?_;rintro i junk hi
  by_cases ax:i<ol.length
  ·obtain⟨o,ho⟩:∃o,ol[i]? =some o:=⟨_,z6 ax⟩
   obtain⟨z,hz⟩:∃z,y.S[i]? =some z:=⟨_,z6 Yu⟩
   obtain⟨x,hx,aB⟩:∃x,R.xs[i]? =some x/\o.l=x.obs:=by
    have:=congrArg (fun l=>l[i]?) j;simp only[zI,ho,Zu] at this;obtain⟨x,hx,Z⟩:=Zb.1 this.symm;exact⟨x,hx,Z.symm⟩
   obtain⟨s,aC⟩:∃s,z.l=o.l++s:=by
    have:=congrArg (fun l=>l[i]?) E;simp only[zI,hz,Zu] at this;obtain⟨s,hs⟩:=aM i x hx;rw[zh,<-this] at hs;exact⟨s,by rw[aB];exact hs⟩
   have ay:(i:Int)<ol.length:=Yu;have aV:=hr.hv o (zg ho);have bu:=G.os z (zg hz);have K:RdE ObM.enc 3 W0 (qhz ol) o.a o.l:=(aV.rd (W0:=W0)).ent (qiE (zg ho));have N:RdE ObM.enc 3 W0 (q3B y.S) z.a z.l:=(bu.rd (W0:=W0)).ent (qiG (zg hz));have hol5:o.l.length<=100000:=by
    rw[aB];exact az x (zg hx)
   repeat'((try conv=>whnf);first|refine fF ?_|apply gLd;refine q0l P ho rfl ?_|(apply qF;first|refine ixE P ho ?_ ?_;(first|rfl|omega)))
   refine qK (σ:=Nat) (fun s=> [(55,j5 s)]) (fun _=>_) (fun s=>s<=o.l.length) (fun s=>o.l.length-s) 0 (zv _) (eF) Ent.refl rfl ?_;rintro k W hk
   by_cases f:k<o.l.length
   ·obtain⟨e,he⟩:∃e,o.l[k]? =some e:=⟨_,z6 f⟩
    have aq:z.l[k]? =some e:=by rw[aC,zG f];exact he
    have C:(k:Int)<o.l.length:=Yu;have hkz:¬(k:Int)>=z.l.length:=by rw[aC,z8];omega
    repeat'((try conv=>whnf);first|refine fH ?_|refine fD ?_|refine fF ?_|refine fK ?_|refine q5G (by simp[eqC,q1n]) ?_|apply gLd;refine q0l ae hz rfl ?_|(apply qF;first|refine ixE K he ?_ ?_;(first|rfl|omega)|refine ixE ae hz ?_ ?_;(first|rfl|omega)|refine ixE N aq ?_ ?_;(first|rfl|omega))|(apply q24;first|refine q0C K he rfl ?_|refine q0C N aq rfl ?_)|refine fB ?_|refine fA ?_|refine fL ?_|refine fM ?_|refine qf fun bk aH=>?_)
    all_goals exact⟨k+1,f,Yu,(eF),sbE⟩
   ·obtain rfl:k=o.l.length:=Yu;have C:¬(o.l.length:Int)<o.l.length:=Yu
    repeat'((try conv=>whnf);first|refine fG ?_|refine fB ?_)
    all_goals exact⟨i+1,ax,Yu,(eF),sbE⟩
  ·obtain rfl:i=ol.length:=Yu;have ay:¬(ol.length:Int)<ol.length:=Yu;have w:=fun(Q:Own) (m:qr Q [(xb,xP M.b ca (Y.map qbV).length cc)])=>qdF (W0:=W0) (n:=ps.length) (xb:=xb) (ca:=ca) (k:=(Y.map qbV).length) (cc:=cc) d (by rw[hlen];exact hn) bo Q
   rw[hlen] at w;cases U:R.xs.any GT.stor with
   |true=>
    rw[U] at w
    repeat'((try conv=>whnf);first|refine fE ?_|refine fG ?_|(apply qe;first|refine q1B (F:= [(xb,xP M.b ca (Y.map qbV).length cc)]) (b:=M.b) (D:=M.mh.O R.m++(M.tD++(M.sD++(M.eD++(M.gD++(TsO c ps.length 0 M.L++ [])))))) w (fun Q=>sbE) fun _ v H=>?_;subst H)|refine fA ?_)
    all_goals exact⟨rfl,sbE⟩
   |false=>
    rw[U] at w
    repeat'((try conv=>whnf);first|refine fD ?_|refine fG ?_|(apply qe;first|refine q1B (F:= [(xb,xP M.b ca (Y.map qbV).length cc)]) (b:=M.b) (D:=M.mh.O R.m++(M.tD++(M.sD++(M.eD++(M.gD++(TsO c ps.length 0 M.L++ [])))))) w (fun Q=>sbE) fun _ v H=>?_;subst H)|refine fA ?_)
    have aK:g.d=R.m.d:=aL.resolve_left (by rw[U];decide);obtain⟨aE,aF,aj,A⟩:=hr.dd;have J:Value.slice a1 n1 c1= .slice aE R.m.d.length aF:=aj;dsimp only at A;rw[<-aK] at A J;cases J;have au:=G.d.rd (W0:=W0);refine qK (σ:=Nat) (fun s=> [(92,j5 s)]) (fun _=>_) (fun s=>s<=g.d.length) (fun s=>g.d.length-s) 0 (zv _) (eF) Ent.refl rfl ?_;rintro k W hk
    by_cases f:k<g.d.length
    ·obtain⟨e,he⟩:∃e,g.d[k]? =some e:=⟨_,z6 f⟩
     have C:(k:Int)<g.d.length:=Yu
     repeat'((try conv=>whnf);first|refine fF ?_|refine fG ?_|(apply gLd;first|refine q0l au he rfl ?_|refine q0l A he rfl ?_)|(apply qF;first|refine ixE au he ?_ ?_;(first|rfl|omega)|refine ixE A he ?_ ?_;(first|rfl|omega))|refine fB ?_|refine fA ?_)
     all_goals exact⟨k+1,f,Yu,(eF),sbE⟩
    ·obtain rfl:k=g.d.length:=Yu;have C:¬(g.d.length:Int)<g.d.length:=Yu
     repeat'((try conv=>whnf);first|refine fG ?_)
     all_goals exact⟨rfl,sbE⟩
end
open Go
structure CfO(c:Cfg):Prop where
 hr:0<=c.reads/\c.reads<=32
 hw:1<=c.writes/\c.writes<=32
 hcw:0<=c.words/\c.words<=64
 str:c.strong=false
 ck:0<=c.clock/\c.clock<=1099511627776
 co:COk c
section
variable{c:Cfg}{ps:List (jg)}{n k t:Nat}{m:MS}{xs:List GT}{g:GS}{r:Nat->List (Int×Int)}{x:GT}{a:AT}{p:jg}{i:Ins}
theorem qbZ(b:GM c n k m){o:Int}(h:0<=o/\o.toNat<m.o.length):okO m o:=⟨o.toNat,(Z2 h.1).symm,h.2,b.o _⟩
theorem qkK(b:GM c n k m){w:Int}(h:0<=w/\w<c.words):okD m w:=⟨w.toNat,(Z2 h.1).symm,by have:=b.dl;omega⟩
theorem qam{l:je}(h:l≠ []):l.headD 0∈l:=by cases l with|nil=>exact absurd rfl h|cons y l=>exact zj
theorem qkJ(G:CfO c)(y:GM c n k m)(E:AI c t m a)(F:AtX k a)(hk:k<=1000)(ht:t<n)(hn:n<=16)(hb:a.busy=true):okA c t m a:=by
 have d:=E.ph;have H:=F.ph;have hsl:=y.sl;have hck:=y.ck;have hxc:=F.ck;have hw:=G.hcw;unfold PhA at d;unfold okA;cases e:a.ph with
 |idle=>unfold AT.busy at hb;rw[e] at hb;cases hb
 |loc q=>
  rw[e] at d;exact⟨d.1.2.1,Yu,fun w v h=>d.2 w v h⟩
 |ent j=>
  rw[e] at d;dsimp only at d;have:=d.2;exact⟨Yu,Yu,Yu⟩
 |rd j b v=>
  rw[e] at d H;obtain⟨_,_,f,o⟩:=d;have M:=G.co.or a.addr f o;have z:=F.ls;have C:=F.ln;refine⟨qbZ y (y.len M),qkK y ⟨f,o⟩,o,?_,Yu,Yu⟩
  rcases H with h|h|h
  ·exact .inl h
  ·exact .inr (.inl h)
  ·exact .inr (.inr h.1)
 |lk s ld=>
  rw[e] at d;obtain⟨_,_,_,f,_,_,o⟩:=d;refine⟨f,qbZ y (E.oc _ ?_),fun K=>?_,Yu⟩
  ·rw[zh,z6 f];exact ZO _
  ·obtain⟨z,C⟩:=o K;unfold q4R at z;unfold okU at C;omega
 |tn _=>trivial
 |ck l=>
  rw[e] at d;obtain⟨_,_,_,_,f,o,_⟩:=d;exact⟨f,qbZ y (E.st _ (o _ (qam f)))⟩
 |dc=>exact G.ck
 |wr A V=>
  rw[e] at d;obtain⟨f,o,z,_,C,I,_,J,_⟩:=d;refine⟨C,fun h=>C (zC.1 (by rw[I,h];rfl)),qkK y (E.ar _ (J _ (qam C))),⟨f,decide_eq_true ⟨o,z⟩⟩,Yu⟩
 |rl l w=>
  rw[e] at d;obtain⟨f,o,z,_⟩:=d;exact⟨f,fun h=>f (zC.1 (by rw[z,h];rfl)),qbZ y (E.oc _ (o _ (qam f))),Yu⟩
 |sp=>trivial
 |ps=>
  have f:=E.tk (by rw[e];rfl);have o:=y.tk;have z:=y.sv;exact⟨Yu,Yu⟩
 |lv=>show t<m.sl.length;omega
theorem qkl(d:AtX k a)(hd:q4w m.d)(b:GM c n k m):qoV c t m a:=fun _=>by
 have:=(d.step (c:=c) (t:=t) hd b.ck).1.cd;omega
theorem qpF(d:CfO c)(f:PrO p)(hl:p.length<=64):GoC c p:=by
 have hw:=d.hcw;refine⟨d.hr,d.hw,Yu,d.str,Yu,by rw[f.ck],fun b i hb j=>?_⟩;obtain⟨c',hc,_,h,_⟩:=q0g f.ck hb j;omega
theorem qpG(W:CfO c)(I:n<=16)(Z:k<=1000)(h:q0d c ps n k m xs g r)(v:ThX n k x)(hd:q4w m.d)(R:xs[t]? =some x)(hp:ps[t]? =some p)(s:PrO p)(hl:p.length<=64)(C:x.th.dn=false):∃i,GoT c p n t m x i:=by
 have b:=h.th t x p R hp;have F:t<n:=by rw[<-h.xl];exact(z7.1 R).1
 have ho:=v.ob;have hs:=v.sn;have hct:=v.ct;have htr:=v.tr;have E:=h.gm.sl;have hck:=h.gm.ck;unfold ThR at b;have mk:∀i,p[x.th.pc]? =some i->(match x.at' with
  |none=>(match x.fn with
   |some f=>qiD n m f
   |none=>locI i\/(i.op=7/\okA c t m a0T)\/(i.op=12\/i.op=13)\/(i.op=16/\qiD n m ⟨false,0,0⟩))
  |some a=>x.fn=none/\(∃bi,p[x.bg]? =some bi/\bi.op=7)/\((a.busy=true/\okA c t m a/\qoV c t m a/\((i.op=10/\0<=i.a/\i.a<8)\/(i.op≠10/\i.op≠14)))\/
   (a.ph= .idle/\a.st=1/\(locI i\/(rqI i/\okA c t m (q1D c x.th.rg a i)/\qoV c t m (q1D c x.th.rg a i))))))->GoT c p n t m x i:=fun i d K=>by
  have hpl:=(z7.1 d).1;exact⟨d,qpI (q3P s.ck d).1,v.rg,Yu,C,Yu,Yu,Yu,Yu,h.gm.dl,K⟩
 cases H:x.at' with
 |none=>
  rw[H] at b mk;dsimp only at b mk;obtain⟨_,_,h3,h4,U,h6,_⟩:=b;obtain⟨i,d⟩:∃i,p[x.th.pc]? =some i:=⟨_,z6 (yS h3 fun e=>by rw[C,decide_eq_true e] at U;cases U)⟩
  refine⟨i,mk i d ?_⟩;cases hf:x.fn with
  |some f=>
   have:=v.fn f hf;exact⟨.inr ⟨this.1,this.2.1,this.2.2.1,Yu⟩,Yu,Yu,I,E⟩
  |none=>
   have:=qkN s h4 d;dsimp only;unfold locI
   rcases this with h|h|h|h|h|h
   ·exact .inr (.inl ⟨h,⟨.inl rfl,Yu,Yu⟩⟩)
   ·exact .inr (.inr (.inl (.inl h)))
   ·exact .inr (.inr (.inl (.inr h)))
   ·exact .inr (.inr (.inr ⟨h, .inl rfl,Yu,Yu,I,E⟩))
   ·exact .inl (.inr h)
   ·exact .inl (.inl h)
 |some a=>
  rw[H] at b mk;dsimp only at b mk;have J:=h.ai t x a R H;have w:=v.at' a H;have z:x.fn=none/\(∃bi,p[x.bg]? =some bi/\bi.op=7)/\x.th.pc<p.length:=by
   split at b
   ·exact⟨b.2.2.fn,b.2.2.bg,b.2.2.pl⟩
   ·exact⟨b.2.2.fn,b.2.2.bg,b.2.2.pl⟩
  obtain⟨i,d⟩:∃i,p[x.th.pc]? =some i:=⟨_,z6 z.2.2⟩
  have P:=s.na i (zg d);have N:=qpI (q3P s.ck d).1;refine⟨i,mk i d ⟨z.1,z.2.1,?_⟩⟩
  by_cases hb:a.busy=true
  ·refine .inl ⟨hb,qkJ W h.gm J w Z F I hb,qkl w hd h.gm,?_⟩
   by_cases y:i.op=10
   ·exact .inl ⟨y,N.a (by rw[y];rfl)⟩
   ·exact .inr ⟨y,P.1⟩
  ·have o:a.ph= .idle:=by
    unfold AT.busy at hb;cases e:a.ph <;>rw[e] at hb <;>first|rfl|exact absurd rfl hb
   have A:a.dn=false:=by
    have:=J.ph;unfold PhA at this;rw[o] at this;exact this.1
   rw[if_neg (by rw[A];decide)] at b;obtain⟨_,_,G⟩:=b;obtain⟨i1,i2,_,_⟩:=G.req (fun k e=>by rw[o] at e;cases e) (by rw[o];rfl);obtain⟨ib,M,h7⟩:=G.bg;obtain⟨_,_,_,j,Y,hop,_⟩:=q93 s M h7 i1 i2;rw[d] at Y;cases Y;refine .inr ⟨o,G.st,?_⟩
   by_cases Q:8<=i.op/\i.op<=11
   ·obtain⟨_,f2,f3,_⟩:=qcf G J o d Q;exact .inr ⟨by unfold rqI;omega,qkJ W h.gm f2 (w.req v.rg) Z F I f3,qkl (w.req v.rg) hd h.gm⟩
   ·exact .inl (.inl Yu)
end
open Go
structure qlj(c:Cfg)(il:je)(O:Nat)(ps:List (jg))(l:jj)(g:GS):Prop where
 hg:∀k t,l[k]? =some t->StG c ps ps.length (q16 c il O ps (l.take k)) t
 hS:(q16 c il O ps l).S.length<=1000
 hob:∀x∈(q16 c il O ps l).xs,x.obs.length<=100000
 hxc:∀(u:Nat) x a,(q16 c il O ps l).xs[u]? =some x->x.at'=some a->0<=a.ck/\a.ck<=1099511627776
 hrun:q4o c ps (q19 c il ps) (q6y c ps ps.length ⟨ms0 il O ps.length,ps.map q3c,[],[]⟩ l)=some g
 hgol:g.O.length=(q16 c il O ps l).xs.length
 hgo:∀(t:Nat) x,(q16 c il O ps l).xs[t]? =some x->∃s,g.O.getD t []=x.obs++s
 hgd:(q16 c il O ps l).xs.any GT.stor=true\/g.d=(q16 c il O ps l).m.d
 hgl:g.d.length<=1000
section
variable{c:Cfg}{ps:List (jg)}{n k:Nat}{q:RM}{g:GS}{r:Nat->List (Int×Int)}
theorem qok{x:GT}{a:AT}{A V:je}(o:AI c k q.m a)(s:x.at'=some a)(h:a.ph= .wr A V):x.stor=true:=by
 have b:=o.ph;unfold PhA at b;rw[h] at b;unfold GT.stor;rw[s];dsimp only;rw[h];dsimp only;obtain⟨d,f,j,h4,_⟩:=b;rw[d,Bool.and_true,Y6];unfold AT.sto;simp[f,j]
theorem q23.obs(h:q23 c ps n k q g r)(t:Nat)(x:GT)(f:q.xs[t]? =some x):∃s,g.O.getD t []=x.obs++s:=by
 obtain⟨p,j⟩:∃p,ps[t]? =some p:=⟨_,z6 (by have:=(z7.1 f).1;rw[h.gi.pl,<-h.gi.xl];exact this)⟩
 have b:=h.gi.th t x p f j;unfold ThR at b;cases d:x.at' with
 |none=>rw[d] at b;exact⟨[],by rw[zz];exact b.2.1⟩
 |some a=>
  rw[d] at b;dsimp only at b
  split at b
  ·refine⟨(if a.code=1 then x.seen else [])++ [⟨x.bg,3,a.code⟩],?_⟩;rw[b.2.1];unfold qi4
   split <;>simp
  ·exact⟨[],by rw[zz];exact b.2.1⟩
theorem q23.dat(h:q23 c ps n k q g r):q.xs.any GT.stor=true\/g.d=q.m.d:=by
 rcases h.gi.mr with ⟨u,y,b,A,V,d,hb,f,_⟩|⟨_,e⟩
 ·exact .inl (yj.2 ⟨y,zg d,qok (h.gi.ai u y b d hb) hb f⟩)
 ·exact .inr e
theorem qci{K:Nat}{P:RM->GS->(Nat->List (Int×Int))->Prop}{il:je}{O:Nat}(G:K<=1000)(y:CfO c)(I:ps.length<=16)(f:∀p∈ps,PrO p)(w:∀p∈ps,p.length<=64)(A:(il.length:Int)=c.words)(N:c.orecs=(O:Int))(hw:q4w il)
  (z:P ⟨ms0 il O ps.length,ps.map q3c,[],[]⟩ (q19 c il ps) (fun _=> [])) (h:∀k q g r t,k<K->q23 c ps ps.length k q g r->P q g r->t<ps.length->qoz c ps q r t)
  (j:∀k q g r t g' r',k<K->q23 c ps ps.length k q g r->P q g r->t<ps.length->PkR c ps ps.length q g r t g' r'->q23 c ps ps.length (k+1) (q0E c ps ps.length q t) g' r'->P (q0E c ps ps.length q t) g' r') {l:jj} (H:∀t∈l,t<ps.length) (s:l.length<=K):
  ∃g r,qlj c il O ps l g/\q23 c ps ps.length l.length (q16 c il O ps l) g r/\P (q16 c il O ps l) g r:=by
 have U:=q23.zero (c:=c) (ps:=ps) (O:=O) A N hw;have d:=qcj (P:=P) G y.co I f U z h j;obtain⟨g,r,J,b,M⟩:=d l.length l rfl H s;have hcw:=y.hcw;refine⟨g,r,⟨fun k t R=>?_,by have:=b.sl;exact Zc this (Zc s G),fun x o=>?_,fun u x a o Q=>?_,J,by rw[b.gi.ol,b.gi.xl],b.obs,b.dat,by have:=b.gi.dl;omega⟩,b,M⟩
 ·have hkl:=(z7.1 R).1;have E:(l.take k).length=k:=by rw[zQ];omega
  obtain⟨g1,r1,_,i2,_⟩:=d k (l.take k) E (fun t C=>H t (yC C)) Yu;refine⟨fun x p o v hd=>⟨qpF y (f p (zg v)) (w p (zg v)),?_⟩,Zc i2.sl Yu⟩;exact qpG y I Yu i2.gi (i2.xt t x o) i2.dd o v (f p (zg v)) (w p (zg v)) hd
 ·obtain⟨t,C,F⟩:=ZZ o;have:=(b.xt t x (by rw[z6 C,F])).ob;omega
 ·have:=((b.xt u x o).at' a Q).ck;omega
theorem qnb{P:RM->GS->(Nat->List (Int×Int))->Prop}{il:je}{O:Nat}(w:CfO c)(A:ps.length<=16)(v:∀p∈ps,PrO p)(s:∀p∈ps,p.length<=64)(h:(il.length:Int)=c.words)(y:c.orecs=(O:Int))(hw:q4w il)
  (f:P ⟨ms0 il O ps.length,ps.map q3c,[],[]⟩ (q19 c il ps) (fun _=> [])) (b:∀k q g r t,k<=1000->q23 c ps ps.length k q g r->P q g r->t<ps.length->qoz c ps q r t)
  (d:∀k q g r t g' r',k<=1000->q23 c ps ps.length k q g r->P q g r->t<ps.length->PkR c ps ps.length q g r t g' r'->q23 c ps ps.length (k+1) (q0E c ps ps.length q t) g' r'->P (q0E c ps ps.length q t) g' r') {l:jj} (z:∀t∈l,t<ps.length) (o:l.length<=1000):
  ∃g r,qlj c il O ps l g/\q23 c ps ps.length l.length (q16 c il O ps l) g r/\P (q16 c il O ps l) g r:=
 qci (zq _) w A v s h y hw f (fun k q g r t j=>b k q g r t (Nat.le_of_lt j)) (fun k q g r t g' r' j=>d k q g r t g' r' (Nat.le_of_lt j)) z o
end
namespace Ord
open Go
theorem q80:∀l:je,(l.map qv).flatten=l.map (Value.int .i64)
 | []=>rfl
 |x::l=>by simp[q80 l]
theorem _root_.Go.Proofs.YtikpjajangpdjaaGreatDoor.St.put_row2{W0:World}{own:Own}{w:World}{b:Nat}{T:TypeId}{C:Own->Own}{l l':je}{rest:jf}{n:Nat}{os:Array Obj}(s:St W0 own w)(f:At [(b,j8 ((l.map qv).flatten++rest).toArray T)] own C)(y:l'.length=l.length):
  St W0 (C [(b,j8 ((l'.map qv).flatten++rest).toArray T)]) (Go.Sort.grow (Go.Sort.putRow (Value.int .i64) (Go.Sort.ahead w n) b 0 l'.toArray) os):=by
 have hu:=f.up (j8 ((l'.map qv).flatten++rest).toArray T);have hb:=s.mem_size hu.mem;refine s.up hu rfl rfl rfl ?_ ?_ ?_
 ·simp[Go.Sort.grow,Go.Sort.putRow,Go.Sort.mapBlock,Go.Sort.ahead]
 ·intro k d h;simp only[Go.Sort.grow,Go.Sort.putRow,Go.Sort.mapBlock,Go.Sort.ahead];rw[y5 (by simpa using d),ZR,if_neg (fun e=>h e.symm)]
 ·obtain⟨o,z,A⟩:=s.owns _ hu.mem;refine⟨_,?_,rfl⟩;simp only[Go.Sort.grow,Go.Sort.putRow,Go.Sort.mapBlock,Go.Sort.ahead];rw[y5 (by simpa using hb),ZR,if_pos rfl];have v:o=Obj.cells ((l.map qv).flatten++rest).toArray T:=A;have j:w.heap[b]? =some o:=z;rw[j,v];simp only[Zu,Go.Sort.onCells,Go.Sort.putCells,q80]
  congr 2
  apply Array.ext';rw[Array.toList_mapIdx];refine List.ext_getElem (by simp[y]) fun k h1 h2=>?_
  simp only[List.getElem_mapIdx]
  by_cases d:k<l'.length
  ·rw[if_pos ⟨Yu,by simpa using d⟩,List.getElem_append_left (by simpa using d),getElem!_pos _ _ (by simpa using d)];simp
  ·rw[if_neg (by simp;omega),y7 (by simp;omega),y7 (by simp;omega)];simp[y]
section
variable{W0:World}{own:Own}
theorem q3U{w:World}{b:Nat}{l:je}{rest:jf}{T:TypeId}(s:St W0 own w)(hm:(b,j8 ((l.map qv).flatten++rest).toArray T)∈own):Go.Sort.Holds (Value.int .i64) w b 0 l.toArray:=fun j v=>by
 have d:j<l.length:=by simpa using v
 refine⟨?_,?_⟩
 ·rw[getElem!_pos _ j v];refine q0O hm ?_ w s;rw[zA,q80,zU,zG (by simpa using d)];simp[d]
 ·obtain⟨o,y,z⟩:=s.owns _ hm;have h:o=Obj.cells ((l.map qv).flatten++rest).toArray T:=z;have f:w.heap[b]? =some o:=y;simp[World.frozen?,f,h]
theorem qaR{a:j9}{l:je}{cap:Nat}{D:Own}{C:Own->Own}(j:qo qv 3 1 a cap l D)(d:At D own C)(o:l.length<4611686018427387904):
  jn W0 94 [.slice a l.length cap] own fun v own'=>∃h:Own,(v= .tuple #[]/\qo qv 3 1 a cap (srt l) h)/\Ent W0 own' (C h):=by
 intro w f
 rcases j.how with ⟨rfl,rfl,rfl⟩|⟨b,rest,rfl,rfl,hlen,hle⟩
 ·refine(q2V a 0 w).mono ?_;rintro e s ⟨rfl,rfl⟩;exact⟨_,own,rfl,f,[],⟨rfl,by rw[show srt []= [] from List.mergeSort_nil];exact qo.nil⟩,by rw[d.same];exact Ent.refl⟩
 ·have hm:=(d.up (fun _=>True)).mem;refine(q7l b 0 cap l w (q3U f hm) (f.mem_size hm) o).mono ?_;rintro e s ⟨rfl,n,os,rfl⟩;exact⟨_,_,rfl,f.put_row2 d (q1v l),_,⟨rfl,fun _ _=>rfl, .inr ⟨b,rest,rfl,rfl,by rw[q1v];exact hlen,by rw[q1v];exact hle⟩⟩,Ent.refl⟩
theorem q4B{a:j9}{l:je}{cap:Nat}{D:Own}{C:Own->Own}(s:qo qv 3 1 a cap l D)(d:At D own C)(z:l.length<=9223372036854775807)(j:l.Pairwise (· <= ·)):
  jn W0 95 [.slice a l.length cap] own fun v own'=>∃o:Own,(v= .slice a (cmp l).length cap/\qo qv 3 1 a cap (cmp l) o)/\Ent W0 own' (C o):=by
 cases l with
 |nil=>
  refine sH (jq 10 3 (0::(jq 10 3 [0]))) ?_
  repeat'((try conv=>whnf);first|refine fE ?_)
  exact⟨D,⟨rfl,s⟩,by rw[d.same];exact Ent.refl⟩
 |cons x r=>
  intro w y;have hcl:=(q5c j).2.2
  rcases s.how with ⟨h,_,_⟩|⟨b,rest,rfl,rfl,hlen,hle⟩
  ·cases h
  ·generalize x::r=l at*;have hm:=(d.up (fun _=>True)).mem;refine(q44 b 0 cap l w (q3U y hm) z hle).mono ?_;rintro e w' ⟨rfl,q,rfl⟩;have f:=y.put_row2 (n:=q) (os:= #[]) (l':=cmp l++List.replicate (l.length-(cmp l).length) 0) d (by simp;omega);rw[Go.Sort.grow_empty] at f;refine⟨_,_,rfl,f,_,⟨rfl,fun _ _=>rfl, .inr ⟨b,((List.replicate (l.length-(cmp l).length) 0).map qv).flatten++rest,rfl,rfl,?_,Yu⟩⟩,?_⟩
   ·simp only[q80,z8,zi,zO];omega
   ·rw[zB,zY,zd];exact Ent.refl
theorem qsi{b o n c sz r:Nat}{K:Value->Prop}(d:r<=c)(h:K (.slice (some ⟨b,o,none⟩) r c)):qon (some ⟨b,o,none⟩) n c sz none (some (r:Int)) none K:=by
 refine⟨0,r,c,rfl,rfl,rfl,zv _,fun _=>d,fun h=>Bool.noConfusion h,fun h=>Bool.noConfusion h,?_⟩;have e:slA (some ⟨b,o,none⟩) c 0 sz=some ⟨b,o,none⟩:=by
  unfold slA
  split
  ·rfl
  ·simp[qM]
 rw[e];exact h
theorem qnh{sz:Nat}{K:Value->Prop}(h:K (j7)):qon none 0 0 sz none (some 0) none K:=
 ⟨0,0,0,rfl,rfl,rfl,zq _,fun _=>zq _,fun h=>Bool.noConfusion h,fun h=>Bool.noConfusion h,h⟩
theorem qj8(n:Nat)(w:n*8<=281474976710656):
  jn W0 126 [j7,j5 n] own fun v own'=>∃s:j9×Nat×Own,(v= .slice s.1 0 s.2.1/\n<=s.2.1/\qo qv 3 1 s.1 s.2.1 [] s.2.2)/\Ent W0 own' (s.2.2++own):=by
 refine sH [] ?_
 by_cases f:n=0
 ·subst f
  repeat'((try conv=>whnf);first|refine fD ?_|refine fB ?_)
  exact⟨(none,0,[]),⟨rfl,Yw,qo.nil⟩,Ent.refl⟩
 ·repeat'((try conv=>whnf);first|refine fD ?_|refine fF ?_|refine qnh ?_|refine qsi (r:=0) (zv _) ?_|refine⟨.inr ⟨rfl,rfl,n,Yu,Yu,w,fun b d hb j=>?_⟩⟩|refine fB ?_)
  refine⟨(some ⟨b,0,none⟩,d,[(b,j8 (List.replicate d [j5 0]).flatten.toArray 3)]),⟨rfl,j,fun _ h=>(by cases h), .inr ⟨b,(List.replicate d [j5 0]).flatten,rfl,rfl,Yw,Yw⟩⟩,Ent.refl⟩
theorem qgf{bq:Nat}{ra wa:j9}{rl wl:je}{rc wc:Nat} [qy bq (j8 #[.slice ra rl.length rc, .slice wa wl.length wc] 23) own](y:RdE qv 1 W0 own ra rl)(z:RdE qv 1 W0 own wa wl)(hb:(rl.length+wl.length)*8<=281474976710656):
  jn W0 93 [.slice (some ⟨bq,0,none⟩) 2 2] own fun v own'=>∃s:j9×Nat×Own,(v= .slice s.1 (rl++wl).length s.2.1/\qo qv 3 1 s.1 s.2.1 (rl++wl) s.2.2)/\Ent W0 own' (s.2.2++own):=by
 refine sH [] ?_;have h:jn W0 126 [j7,j5 ((rl.length+wl.length:Nat):Int)] own _:=qj8 (rl.length+wl.length) hb;have e:((rl.length+wl.length:Nat):Int)=0+(rl.length:Int)+wl.length:=Yu;rw[e] at h
 repeat'((try conv=>whnf);first|refine fE ?_|refine fD ?_|refine q1y 3 ?_|(apply qe;first|refine qi h fun s v C=>?_;obtain⟨a0,w,D0⟩:=s;obtain⟨rfl,A,f⟩:=C;dsimp only at A f;apply Stop.h)|refine fB ?_|refine qsD rfl ?_|refine qsE rfl ?_|refine fA ?_)
 refine Stop.mk ?_
 repeat'((try conv=>whnf);first|refine fE ?_|refine q1y 3 ?_|refine qoJ (enc:=qv) (l:= []) (l2:=rl) f y rfl Yu (fun _ _=>rfl) (by simp;omega) fun D1 b=>?_;rw[zE,zA rl.length];apply Stop.h|refine qsD rfl ?_|refine fA ?_)
 refine Stop.mk ?_;rw[zk] at b
 repeat'((try conv=>whnf);first|refine fE ?_|refine qoJ (enc:=qv) (l:=rl) (l2:=wl) b z rfl Yu (fun _ _=>rfl) Yu fun j d=>?_;apply Stop.h|refine fB ?_|refine qsE rfl ?_|refine fA ?_)
 refine Stop.mk ?_
 repeat'((try conv=>whnf);first|refine fD ?_|refine fB ?_)
 exact⟨(a0,w,j),⟨q0a Yw,d⟩,Ent.refl⟩
end
abbrev noneV:jf:= [j5 (-1),j5 (-1),j5 (-1)]
def wrB(e:EH)(w:Int):Bool:=(decide (e.k=2)&&decide (e.w=w))||(decide (e.k=4)&&e.wl.contains w)
def toB(e:EH)(w:Int):Bool:=wrB e w||((decide (e.k=1)&&decide (e.w=w))||(decide (e.k=4)&&e.rl.contains w))
theorem qer{a b:EH}{w:Int}(h:cfP a b w=true)(ha:1<=a.k/\a.k<=2)(hb:1<=b.k/\b.k<=4/\b.k≠3):toB a w=true/\toB b w=true/\(wrB a w=true\/wrB b w=true):=by
 unfold cfP at h;rw[zu,decide_eq_true_iff] at h;obtain⟨s,d⟩:=h;have v:toB a w=true:=by
  unfold toB wrB
  by_cases j:a.k=2
  ·simp[s,j]
  ·have f:a.k=1:=Yu;simp[s,f]
 refine⟨v,?_⟩
 split at d
 ·rename_i j;rw[Zd,zu,decide_eq_true_iff] at d
  rcases d with d|⟨d,f⟩
  ·have:wrB b w=true:=by unfold wrB;rw[d];simp[j]
   exact⟨by unfold toB;rw[this,Bool.true_or], .inr this⟩
  ·exact⟨by unfold toB;rw[f];simp[j], .inl (by unfold wrB;simp[s,d])⟩
 ·rename_i j;rw[zu,Zd,decide_eq_true_iff,decide_eq_true_iff,decide_eq_true_iff] at d;obtain⟨f,o⟩:=d;refine⟨?_,?_⟩
  ·unfold toB wrB
   by_cases y:b.k=2
   ·simp[f,y]
   ·have z:b.k=1:=Yu;simp[f,z]
  ·rcases o with o|o
   ·exact .inl (by unfold wrB;simp[s,o])
   ·exact .inr (by unfold wrB;simp[f,o])
theorem qhY{a b:EH}{w:Int}(h:confB a b w=true)(s:1<=a.k/\a.k<=4/\a.k≠3)(hb:1<=b.k/\b.k<=4/\b.k≠3):a.t≠b.t/\¬(a.k=4/\b.k=4)/\toB a w=true/\toB b w=true/\(wrB a w=true\/wrB b w=true):=by
 unfold confB at h;rw[zu,yx,decide_eq_false_iff_not] at h;refine⟨h.1,?_⟩;have h:=h.2
 split at h
 ·rename_i d;rw[zu,yx,decide_eq_false_iff_not] at h;obtain⟨f,j,o⟩:=qer h.2 Yu s;exact⟨fun x=>h.1 x.2,j,f,o.symm⟩
 ·rename_i d;exact⟨fun x=>d x.1,qer h Yu hb⟩
theorem qfQ{l:ji}{y m:Nat}{w:Int}{r:q0f}(h:r∈rcL l y w m):∃x,x<m/\r=((x:Int),(y:Int),w)/\rcB l y w x=true:=by
 unfold rcL at h;rw[zM] at h;obtain⟨x,b,rfl⟩:=h;rw[Zt,Z9] at b;exact⟨x,b.1,rfl,b.2⟩
theorem qaA{l:ji}{m:Nat}{r:q0f}:r∈rcA l m↔ ∃y w,y<m/\w<64/\knd l y≠3/\r∈rcL l y ((w:Nat):Int) y:=by
 unfold rcA rcW;rw[yk];constructor
 ·rintro⟨y,d,b⟩;rw[Z9] at d
  split at b
  ·cases b
  ·rename_i f;rw[yk] at b;obtain⟨w,hw,b⟩:=b;rw[Z9] at hw;exact⟨y,w,d,hw,f,b⟩
 ·rintro⟨y,w,d,hw,f,b⟩;refine⟨y,Z9.2 d,?_⟩;rw[if_neg f,yk];exact⟨w,Z9.2 hw,b⟩
theorem qf3{l:ji}:(frst l).2.1>=0↔rcA l l.length≠ []:=by
 constructor
 ·intro h j;rw[q2O j] at h
  revert h
  decide
 ·intro h;unfold frst;cases d:(prs l l.length).findSome? fun p=>(rcL l p.1 p.2 p.1).getLast? with
  |some r=>
   obtain⟨p,_,b⟩:=List.exists_of_findSome?_eq_some d;obtain⟨x,_,rfl,_⟩:=qfQ (List.mem_of_getLast? b);show(p.1:Int)>=0;omega
  |none=>
   exfalso;rw[yF] at d;obtain⟨r,b⟩:=y8 _ h;obtain⟨y,w,o,hw,f,b⟩:=qaA.1 b;have:=d (y,(w:Int)) (by
    unfold prs;rw[yk];refine⟨y,Z9.2 o,?_⟩;rw[if_neg f,zM];exact⟨w,Z9.2 hw,rfl⟩)
   rw[List.getLast?_eq_none_iff] at this;dsimp only at this;rw[this] at b;cases b
def lst(Q:Nat->Bool):Nat->Nat
 |0=>0
 |m+1=>if Q m=true then m+1 else lst Q m
theorem qkD{Q:Nat->Bool}:∀m,lst Q m<=m
 |0=>zq _
 |m+1=>by unfold lst;split;exact zq _;exact ZH (qkD m)
theorem qfu{Q:Nat->Bool}{k:Nat}:∀{m},lst Q m=k+1->Q k=true/\k<m
 |0,h=>by cases h
 |m+1,h=>by
  unfold lst at h
  split at h
  ·rename_i d;have:k=m:=Yu;subst this;exact⟨d,Z3 _⟩
  ·obtain⟨b,h2⟩:=qfu h;exact⟨b,Yu⟩
theorem qfv{Q:Nat->Bool}{i:Nat}(b:Q i=true):∀{m},i<m->i<lst Q m
 |0,h=>by omega
 |m+1,h=>by
  unfold lst
  split
  ·exact h
  ·rename_i d;have:i≠m:=fun e=>d (e ▸ b)
   exact qfv b Yu
theorem q97{Q R:Nat->Bool}:∀{m},(∀i,i<m->Q i=R i)->lst Q m=lst R m
 |0,_=>rfl
 |m+1,h=>by
  unfold lst;rw[h m Yu,q97 fun i hi=>h i Yu]
def q7V(l:ji)(t:Int)(i:Nat):Bool:=decide (knd l i=4/\thr l i=t)
theorem q1R{l:ji}{t:Int}{i:Nat}:q7V l t i=true↔knd l i=4/\thr l i=t:=by unfold q7V;exact decide_eq_true_iff
def q06(l:ji)(t:Int):Nat->Nat
 |0=>0
 |m+1=>q06 l t m+if q7V l t m=true then 1 else 0
theorem qag{l:ji}{t:Int}:∀m,q06 l t m<=m
 |0=>zq _
 |m+1=>by
  unfold q06;have:=qag (l:=l) (t:=t) m
  split <;>omega
theorem q3T{l:ji}{t:Int}{a b:Nat}(h:a<=b):q06 l t a<=q06 l t b:=by
 induction b with
 |zero=>
   have:a=0:=Yu;subst this;exact zq _
 |succ b d=>
  rcases yJ b a with hb|hb
  ·have:a=b+1:=Yu;subst this;exact zq _
  ·exact Zc (d hb) (by show q06 l t b<=q06 l t b+_;omega)
theorem q7T{l:ji}{t:Int}{a b:Nat}:q06 l t a<q06 l t b↔ ∃e,a<=e/\e<b/\q7V l t e=true:=by
 constructor
 ·intro h
  induction b with
  |zero=>cases h
  |succ b w=>
   by_cases he:q7V l t b=true
   ·by_cases f:a<=b
    ·exact⟨b,f,Z3 _,he⟩
    ·have:=q3T (l:=l) (t:=t) (a:=b+1) (b:=a) Yu;omega
   ·have j:q06 l t (b+1)=q06 l t b:=by show q06 l t b+_=_;rw[if_neg he];rfl
    rw[j] at h;obtain⟨e,d,v,o⟩:=w h;exact⟨e,d,Yu,o⟩
 ·rintro⟨e,s,j,d⟩;have v:=q3T (l:=l) (t:=t) s;have o:=q3T (l:=l) (t:=t) (show e+1<=b by omega);have h6:q06 l t (e+1)=q06 l t e+1:=by show q06 l t e+_=_;rw[if_pos d]
  omega
def q68(l:ji)(u:Int)(m:Nat)(t:Int):Nat:=q06 l t (lst (q7V l u) m)
def qhN(l:ji)(u:Int)(m:Nat)(t:Int):Nat:=q06 l t (bgL l u m).toNat
theorem qio{l:ji}{x y:Nat}{t:Int}(I:q7Q l x)(J:y<l.length)(C:x<y)(A:thr l x=t)(b:thr l x≠thr l y)(d:q0T l y):HB l x y↔q06 l t x+1<=q68 l (thr l y) y t:=by
 unfold q68;constructor
 ·rintro⟨_,_,_,h|⟨_,e,f,o,G,s,v,j,w,z⟩|⟨h,_⟩⟩
  ·exact absurd h b
  ·have F:=qfv (Q:=q7V l (thr l y)) (i:=f) (q1R.2 ⟨j,z⟩) s;exact(q7T (a:=x)).2 ⟨e,o,Yu,q1R.2 ⟨v,w.trans A⟩⟩
  ·exact absurd d h
 ·intro h;obtain⟨e,o,G,s⟩:=q7T.1 h;obtain⟨v,j⟩:=q1R.1 s;obtain⟨f,F⟩:∃f,lst (q7V l (thr l y)) y=f+1:=⟨_,(Nat.succ_pred_eq_of_pos Yu).symm⟩
  obtain⟨w,z⟩:=qfu F;obtain⟨H,E⟩:=q1R.1 w;have hef:e≠f:=fun he=>by subst he;exact b (by rw[A,<-j,E])
  refine⟨C,I,⟨J, .inl ?_⟩, .inr (.inl ⟨d,e,f,o,Yu,z,v,H,j.trans A.symm,E⟩)⟩
  rcases d with d|d <;>omega
theorem qin{l:ji}{x p:Nat}{t:Int}(z:q7Q l x)(y:q7Q l p)(v:knd l p=3)(w:thr l x=t)(s:thr l x≠thr l p):HB l x p↔q06 l t x+1<=q06 l t p:=by
 have b:¬q0T l p:=by rintro(h|h) <;>omega
 constructor
 ·rintro⟨_,_,_,h|⟨h,_⟩|⟨_,e,d,f,j,o⟩⟩
  ·exact absurd h s
  ·exact absurd h b
  ·exact(q7T (a:=x)).2 ⟨e,d,f,q1R.2 ⟨j,o.trans w⟩⟩
 ·intro h;obtain⟨e,d,f,v⟩:=q7T.1 h;obtain⟨j,o⟩:=q1R.1 v;exact⟨Yu,z,y, .inr (.inr ⟨b,e,d,f,j,o.trans w.symm⟩)⟩
def q3M(l:ji)(Q:Nat->Bool)(t:Int)(m:Nat):Int×Int:=
 if lst (fun i=>Q i&&decide (thr l i=t)) m=0 then(0,0) else(((lst (fun i=>Q i&&decide (thr l i=t)) m-1:Nat):Int),(q06 l t (lst (fun i=>Q i&&decide (thr l i=t)) m-1):Int)+1)
theorem q3N{l:ji}{Q:Nat->Bool}{t:Int}{m:Nat}:q3M l Q t (m+1)=if Q m=true/\thr l m=t then((m:Int),(q06 l t m:Int)+1) else q3M l Q t m:=by
 have e:lst (fun i=>Q i&&decide (thr l i=t)) (m+1)=if(Q m&&decide (thr l m=t))=true then m+1 else lst (fun i=>Q i&&decide (thr l i=t)) m:=rfl
 by_cases h:Q m=true/\thr l m=t
 ·rw[if_pos h];rw[if_pos (by rw[h.1,decide_eq_true h.2];rfl)] at e;unfold q3M;rw[e,if_neg Yu];rfl
 ·rw[if_neg h];rw[if_neg (by rw[zu,decide_eq_true_iff];exact h)] at e;unfold q3M;rw[e]
def ltM(own:Int)(ck:Nat->Int)(f:Nat->Int×Int)(pl:Int):Nat->Int
 |0=>pl
 |k+1=>if(k:Int)≠own/\(f k).2>ck k/\(f k).1>ltM own ck f pl k then(f k).1 else ltM own ck f pl k
theorem qbT{own:Int}{ck:Nat->Int}{f:Nat->Int×Int}{pl:Int}:∀n,pl<=ltM own ck f pl n/\(ltM own ck f pl n=pl\/∃t,t<n/\(t:Int)≠own/\(f t).2>ck t/\(f t).1=ltM own ck f pl n)/\∀t,t<n->(t:Int)≠own->(f t).2>ck t->(f t).1<=ltM own ck f pl n
 |0=>⟨zW _, .inl rfl,fun t h=>by omega⟩
 |k+1=>by
  obtain⟨s,v,o⟩:=qbT (own:=own) (ck:=ck) (f:=f) (pl:=pl) k;unfold ltM
  split
  ·rename_i h;refine⟨Yu, .inr ⟨k,Yu,h.1,h.2.1,rfl⟩,fun t y j d=>?_⟩
   by_cases e:t=k
   ·subst e;exact zW _
   ·have:=o t Yu j d;omega
  ·rename_i h;refine⟨s,v.imp id fun⟨t,a,b⟩=>⟨t,Yu,b⟩,fun t y j d=>?_⟩
   by_cases e:t=k
   ·subst e
    by_cases w:(f t).1>ltM own ck f pl t
    ·exact absurd ⟨j,d,w⟩ h
    ·omega
   ·exact o t Yu j d
def RC(l:ji)(Q:Nat->Bool)(own:Int)(ck:Nat->Int)(y x:Nat):Prop:=x<y/\Q x=true/\thr l x≠own/\ck (thr l x).toNat<(q06 l (thr l x) x:Int)+1
theorem qfw{l:ji}{Q:Nat->Bool}{own:Int}{ck:Nat->Int}{n y:Nat}{pl:Int}(A:∀x,x<y->0<=thr l x/\thr l x<n)(o:∀t,0<=ck t):
  pl<=ltM own ck (fun t=>q3M l Q t y) pl n/\(ltM own ck (fun t=>q3M l Q t y) pl n=pl\/∃x,RC l Q own ck y x/\(x:Int)=ltM own ck (fun t=>q3M l Q t y) pl n)/\∀x,RC l Q own ck y x->(x:Int)<=ltM own ck (fun t=>q3M l Q t y) pl n:=by
 obtain⟨v,w,z⟩:=qbT (own:=own) (ck:=ck) (f:=fun t=>q3M l Q t y) (pl:=pl) n;refine⟨v,w.imp id ?_,?_⟩
 ·rintro⟨t,htn,j,b,he⟩;rw[<-he]
  revert b
  unfold q3M
  split
  ·intro b;have:=o t;dsimp only at b;omega
  ·rename_i hk;intro b;obtain⟨x,s⟩:∃x,lst (fun i=>Q i&&decide (thr l i=(t:Int))) y=x+1:=⟨_,(Nat.succ_pred_eq_of_pos Yu).symm⟩
   rw[s] at b ⊢;obtain⟨h,d⟩:=qfu s;rw[zu,decide_eq_true_iff] at h;refine⟨x,⟨d,h.1,by rw[h.2];exact j,?_⟩,rfl⟩;rw[h.2];exact b
 ·rintro x ⟨d,h,j,b⟩;obtain⟨t1,t2⟩:=A x d;obtain⟨t,e⟩:∃t:Nat,thr l x=t:=⟨(thr l x).toNat,Yu⟩
  rw[e] at j b t2;rw[zD] at b;have hg:=qfv (Q:=fun i=>Q i&&decide (thr l i=(t:Int))) (i:=x) (by rw[zu,decide_eq_true_iff];exact⟨h,e⟩) d;have hm:=q3T (l:=l) (t:=t) (show x<=lst (fun i=>Q i&&decide (thr l i=(t:Int))) y-1 by omega);have:=z t Yu j (by
   unfold q3M;rw[if_neg Yu];dsimp only;omega)
  refine Int.le_trans ?_ this;unfold q3M;rw[if_neg Yu];dsimp only;omega
theorem q7c{P:Nat->Bool}{x:Nat}(b:P x=true):∀{m},x<m->(∀z,x<z->z<m->P z=false)->((List.range m).filter P).getLast? =some x
 |0,h,_=>by omega
 |m+1,h,d=>by
  rw[ZQ,yn]
  by_cases e:x=m
  ·subst e;rw[yL,if_pos b,List.filter_nil];simp
  ·rw[yL,if_neg (by rw[d m Yu Yu];simp),List.filter_nil,zz];exact q7c b Yu fun z f h2=>d z f Yu
def qW(l:ji)(w:Int)(x:Nat):Bool:=decide (knd l x=2/\(at' l x).w=w)
def qR(l:ji)(w:Int)(x:Nat):Bool:=decide (knd l x=1/\(at' l x).w=w)
def qTW(l:ji)(w:Int)(x:Nat):Bool:=decide (knd l x=4)&&(at' l x).wl.contains w
def qTR(l:ji)(w:Int)(x:Nat):Bool:=decide (knd l x=4)&&(at' l x).rl.contains w
def qcI(l:ji)(n y:Nat)(k own w:Int)(wr:Bool)(ck:Nat->Int):Int:=
 let b:=ltM own ck (fun t=>q3M l (qW l w) t y) (-1) n
 let d:=if wr=true then ltM own ck (fun t=>q3M l (qR l w) t y) b n else b
 let f:=if k≠4 then ltM own ck (fun t=>q3M l (qTW l w) t y) d n else d
 if k≠4/\wr=true then ltM own ck (fun t=>q3M l (qTR l w) t y) f n else f
theorem qhh{l:ji}{n y:Nat}{k own w:Int}{wr:Bool}{ck:Nat->Int}(s:∀x,x<y->0<=thr l x/\thr l x<n)(d:∀t,0<=ck t)(R:Nat->Prop)
  (z:∀x,R x↔RC l (qW l w) own ck y x\/(wr=true/\RC l (qR l w) own ck y x)\/(k≠4/\RC l (qTW l w) own ck y x)\/((k≠4/\wr=true)/\RC l (qTR l w) own ck y x)):
  -1<=qcI l n y k own w wr ck/\(qcI l n y k own w wr ck= -1\/∃x,R x/\(x:Int)=qcI l n y k own w wr ck)/\∀x,R x->(x:Int)<=qcI l n y k own w wr ck:=by
 have step:∀(Q:Nat->Bool) (c:Prop) [Decidable c] (pl:Int) (S:Nat->Prop),(-1<=pl/\(pl= -1\/∃x,S x/\(x:Int)=pl)/\∀x,S x->(x:Int)<=pl)->
   ∀r,r=(if c then ltM own ck (fun t=>q3M l Q t y) pl n else pl)->
   -1<=r/\(r= -1\/∃x,(S x\/(c/\RC l Q own ck y x))/\(x:Int)=r)/\∀x,(S x\/(c/\RC l Q own ck y x))->(x:Int)<=r:=by
  intro Q c _ pl S ⟨v,j,o⟩ r A;subst A;obtain⟨g1,g2,g3⟩:=qfw (l:=l) (Q:=Q) (own:=own) (ck:=ck) (pl:=pl) s d
  by_cases f:c
  ·simp only[if_pos f];refine⟨Yu,?_,fun x b=>?_⟩
   ·rcases g2 with e|⟨x,b,e⟩
    ·rw[e];exact j.imp id fun⟨x,b,e⟩=>⟨x, .inl b,e⟩
    ·exact .inr ⟨x, .inr ⟨f,b⟩,e⟩
   ·rcases b with b|b
    ·have:=o x b;omega
    ·exact g3 x b.2
  ·simp only[if_neg f];exact⟨v,j.imp id fun⟨x,b,e⟩=>⟨x, .inl b,e⟩,fun x b=>b.elim (o x) fun h=>absurd h.1 f⟩
 obtain⟨a1,a2,a3⟩:=qfw (l:=l) (Q:=qW l w) (own:=own) (ck:=ck) (pl:= -1) s d;have s1:=step (qR l w) (wr=true) _ (fun x=>RC l (qW l w) own ck y x) ⟨a1,a2,a3⟩ _ rfl;have s2:=step (qTW l w) (k≠4) _ _ s1 _ rfl;have C:=step (qTR l w) (k≠4/\wr=true) _ _ s2 _ rfl;obtain⟨b1,b2,b3⟩:=C;have e:∀x,(((RC l (qW l w) own ck y x\/(wr=true/\RC l (qR l w) own ck y x))\/(k≠4/\RC l (qTW l w) own ck y x))\/((k≠4/\wr=true)/\RC l (qTR l w) own ck y x))↔R x:=fun x=>by
  rw[z x,or_assoc,or_assoc]
 exact⟨b1,b2.imp id fun⟨x,b,h⟩=>⟨x,(e x).1 b,h⟩,fun x b=>b3 x ((e x).2 b)⟩
theorem qhZ{a b:EH}{w:Int}{wr:Bool}(d:a.k=1\/a.k=2\/a.k=4)(hb:b.k=1\/b.k=2\/b.k=4)(s:a.t≠b.t)
  (o:(b.k≠4/\b.w=w/\wr=decide (b.k=2))\/(b.k=4/\wr=b.wl.contains w/\(b.wl.contains w=true\/b.rl.contains w=true))):
  confB a b w=true↔(a.k=2/\a.w=w)\/(wr=true/\(a.k=1/\a.w=w))\/(b.k≠4/\(a.k=4/\a.wl.contains w=true))\/((b.k≠4/\wr=true)/\(a.k=4/\a.rl.contains w=true)):=by
 unfold confB cfP;generalize a.wl.contains w=a1;generalize a.rl.contains w=a2
 rcases o with ⟨h,f,j⟩|⟨h,f,j⟩
 ·subst j
  rcases d with d|d|d <;>rcases hb with hb|hb|hb
  all_goals first
   |(exact absurd hb h)
   |(simp[d,hb,f,s])
 ·subst f;generalize b.wl.contains w=b1 at*;generalize b.rl.contains w=b2 at*
  rcases d with d|d|d
  all_goals
   cases b1 <;>cases b2
   all_goals simp_all
theorem qqc{l:ji}{n y:Nat}{w:Int}{wr:Bool}{ck:Nat->Int}(hw:Wf l n)(N:y<l.length)(G:knd l y≠3)
  (H:(knd l y≠4/\(at' l y).w=w/\wr=decide (knd l y=2))\/(knd l y=4/\wr=(at' l y).wl.contains w/\((at' l y).wl.contains w=true\/(at' l y).rl.contains w=true)))
  (I:∀x,x<y->knd l x≠3->thr l x≠thr l y->(HB l x (toP l y)↔(q06 l (thr l x) x:Int)+1<=ck (thr l x).toNat)) (x:Nat):
  (x<y/\rcB l y w x=true)↔RC l (qW l w) (thr l y) ck y x\/(wr=true/\RC l (qR l w) (thr l y) ck y x)\/(knd l y≠4/\RC l (qTW l w) (thr l y) ck y x)\/((knd l y≠4/\wr=true)/\RC l (qTR l w) (thr l y) ck y x):=by
 by_cases d:¬x<y
 ·constructor
  ·exact fun h=>absurd h.1 d
  ·rintro(h|⟨_,h⟩|⟨_,h⟩|⟨_,h⟩) <;>exact absurd h.1 d
 have d:=Decidable.of_not_not d
 by_cases j:knd l x=3
 ·constructor
  ·rintro⟨_,h⟩;unfold rcB at h;rw[decide_eq_true j] at h;cases h
  ·rintro(h|⟨_,h⟩|⟨_,h⟩|⟨_,h⟩)
   all_goals
    have:=h.2.1;simp[qW,qR,qTW,qTR,j] at this
 by_cases o:thr l x=thr l y
 ·constructor
  ·rintro⟨_,h⟩;unfold rcB confB at h;rw[decide_eq_true (show(at' l x).t=(at' l y).t from o)] at h;simp at h
  ·rintro(h|⟨_,h⟩|⟨_,h⟩|⟨_,h⟩) <;>exact absurd o h.2.2.1
 have M:=hw.kd x Yu;have s:=hw.kd y N;have J:=qhZ (a:=at' l x) (b:=at' l y) (w:=w) (wr:=wr) (by unfold knd at M j;omega) (by unfold knd at s G;omega) o H;have K:=I x d j o;have v:rcB l y w x=true↔confB (at' l x) (at' l y) w=true/\ck (thr l x).toNat<(q06 l (thr l x) x:Int)+1:=by
  unfold rcB;rw[decide_eq_false j,Bool.not_false,Y6,zu,yx,<-yi,hbB_iff,K];constructor
  ·exact fun⟨a,b⟩=>⟨a,Yu⟩
  ·exact fun⟨a,b⟩=>⟨a,Yu⟩
 rw[v,J];have z:qW l w x=true↔((at' l x).k=2/\(at' l x).w=w):=by unfold qW knd;exact decide_eq_true_iff
 have A:qR l w x=true↔((at' l x).k=1/\(at' l x).w=w):=by unfold qR knd;exact decide_eq_true_iff
 have C:qTW l w x=true↔((at' l x).k=4/\(at' l x).wl.contains w=true):=by unfold qTW knd;rw[zu,decide_eq_true_iff]
 have E:qTR l w x=true↔((at' l x).k=4/\(at' l x).rl.contains w=true):=by unfold qTR knd;rw[zu,decide_eq_true_iff]
 unfold RC;rw[z,A,C,E];have F:(at' l y).k=knd l y:=rfl;rw[F];constructor
 ·rintro⟨_,h,f⟩
  rcases h with h|⟨g,h⟩|⟨g,h⟩|⟨g,h⟩
  ·exact .inl ⟨d,h,o,f⟩
  ·exact .inr (.inl ⟨g,d,h,o,f⟩)
  ·exact .inr (.inr (.inl ⟨g,d,h,o,f⟩))
  ·exact .inr (.inr (.inr ⟨g,d,h,o,f⟩))
 ·rintro(⟨_,h,_,f⟩|⟨g,_,h,_,f⟩|⟨g,_,h,_,f⟩|⟨g,_,h,_,f⟩)
  ·exact⟨d, .inl h,f⟩
  ·exact⟨d, .inr (.inl ⟨g,h⟩),f⟩
  ·exact⟨d, .inr (.inr (.inl ⟨g,h⟩)),f⟩
  ·exact⟨d, .inr (.inr (.inr ⟨g,h⟩)),f⟩
theorem qk4{l:ji}{n y:Nat}{w:Int}{wr:Bool}{ck:Nat->Int}(hw:Wf l n)(F:y<l.length)(v:knd l y≠3)
  (A:(knd l y≠4/\(at' l y).w=w/\wr=decide (knd l y=2))\/(knd l y=4/\wr=(at' l y).wl.contains w/\((at' l y).wl.contains w=true\/(at' l y).rl.contains w=true)))
  (b:∀t,0<=ck t) (C:∀x,x<y->knd l x≠3->thr l x≠thr l y->(HB l x (toP l y)↔(q06 l (thr l x) x:Int)+1<=ck (thr l x).toNat)):
  (qcI l n y (knd l y) (thr l y) w wr ck<0->rcL l y w y= [])/\(0<=qcI l n y (knd l y) (thr l y) w wr ck->(rcL l y w y).getLast? =some (qcI l n y (knd l y) (thr l y) w wr ck,(y:Int),w)):=by
 obtain⟨h1,s,j⟩:=qhh (l:=l) (n:=n) (y:=y) (k:=knd l y) (own:=thr l y) (w:=w) (wr:=wr) (ck:=ck) (fun x o=>by have:=hw.kd x Yu;exact⟨this.2.2.1,this.2.2.2.1⟩) b (fun x=>x<y/\rcB l y w x=true) (qqc hw F v A C);generalize qcI l n y (knd l y) (thr l y) w wr ck=p at*;constructor
 ·intro E;unfold rcL;rw[List.map_eq_nil_iff,List.filter_eq_nil_iff];intro x o hb;have:=j x ⟨Z9.1 o,hb⟩;omega
 ·intro E;obtain⟨x,⟨d,hb⟩,rfl⟩:=s.resolve_left Yu;unfold rcL;rw[List.getLast?_map,q7c hb d fun z hz h=>by
   rw[<-yi];intro f;have:=j z ⟨h,f⟩;omega]
  rfl
theorem qbr{l r:ji}{t:Int}{i:Nat}(h:i<l.length):q7V (l++r) t i=q7V l t i:=by unfold q7V;rw[qX h,q0h h]
theorem q1Q{l r:ji}{t:Int}:∀{m},m<=l.length->q06 (l++r) t m=q06 l t m
 |0,_=>rfl
 |m+1,h=>by unfold q06;rw[q1Q Yu,qbr Yu]
theorem qiw{l r:ji}{t:Int}{m:Nat}(h:m<=l.length):lst (q7V (l++r) t) m=lst (q7V l t) m:=q97 fun i hi=>qbr Yu
theorem q9j{l r:ji}{u t:Int}{m:Nat}(h:m<=l.length):q68 (l++r) u m t=q68 l u m t:=by
 unfold q68;rw[qiw h,q1Q (Zc (qkD _) h)]
theorem q2i{l r:ji}{Q R:Nat->Bool}{t:Int}:∀{m},m<=l.length->(∀i,i<l.length->Q i=R i)->q3M (l++r) Q t m=q3M l R t m
 |0,_,_=>rfl
 |m+1,h,b=>by rw[q3N,q3N,b m Yu,q0h Yu,q1Q Yu,q2i Yu b]
theorem q98{own:Int}{ck ck':Nat->Int}{f g:Nat->Int×Int}{pl:Int}:∀{n},(∀t,t<n->f t=g t/\ck t=ck' t)->ltM own ck f pl n=ltM own ck' g pl n
 |0,_=>rfl
 |k+1,h=>by unfold ltM;rw[q98 (f:=f) (g:=g) (ck':=ck') fun t ht=>h t Yu,(h k Yu).1,(h k Yu).2]
theorem qk3{l r:ji}{n:Nat}{k own w:Int}{wr:Bool}{ck:Nat->Int}:qcI (l++r) n l.length k own w wr ck=qcI l n l.length k own w wr ck:=by
 unfold qcI;have d:∀t:Int,q3M (l++r) (qW (l++r) w) t l.length=q3M l (qW l w) t l.length:=fun t=>q2i (zq _) fun i b=>by unfold qW;rw[qX b,q1O b]
 have f:∀t:Int,q3M (l++r) (qR (l++r) w) t l.length=q3M l (qR l w) t l.length:=fun t=>q2i (zq _) fun i b=>by unfold qR;rw[qX b,q1O b]
 have h:∀t:Int,q3M (l++r) (qTW (l++r) w) t l.length=q3M l (qTW l w) t l.length:=fun t=>q2i (zq _) fun i b=>by unfold qTW;rw[qX b,q1O b]
 have j:∀t:Int,q3M (l++r) (qTR (l++r) w) t l.length=q3M l (qTR l w) t l.length:=fun t=>q2i (zq _) fun i b=>by unfold qTR;rw[qX b,q1O b]
 simp only[d,f,h,j]
theorem qfL{l r:ji}:∀{m},m<=l.length->prs (l++r) m=prs l m
 |0,_=>rfl
 |m+1,h=>by rw[q3Y,q3Y,qfL Yu,qX Yu]
theorem prs_mem{l:ji}{m:Nat}{p:Nat×Int}(h:p∈prs l m):p.1<m/\knd l p.1≠3:=by
 unfold prs at h;obtain⟨y,d,h⟩:=yk.1 h
 split at h
 ·cases h
 ·rename_i b;obtain⟨w,_,rfl⟩:=zM.1 h;exact⟨Z9.1 d,b⟩
theorem findSome_congr{β γ:Type}{f g:β->Option γ}:∀{l:List β},(∀x∈l,f x=g x)->l.findSome? f=l.findSome? g
 | [],_=>rfl
 |a::r,h=>by
  rw[yN,yN,h a (zj ..),findSome_congr fun x b=>h x (zl _ b)]
theorem q83{l:ji}{e:EH}{n:Nat}(hw:Wf l n)(h:(frst l).2.1>=0):frst (l++ [e])=frst l:=by
 have d:(prs l l.length).findSome? (fun p=>(rcL (l++ [e]) p.1 p.2 p.1).getLast?)=(prs l l.length).findSome? (fun p=>(rcL l p.1 p.2 p.1).getLast?):=findSome_congr fun p s=>by
  obtain⟨f,j⟩:=prs_mem s;rw[qaB hw f j p.1 (zq _)]
 have b:∃z,prs (l++ [e]) (l++ [e]).length=prs l l.length++z:=by
  refine⟨if knd (l++ [e]) l.length=3 then [] else(List.range 64).map fun(w:Nat)=>(l.length,(w:Int)),?_⟩;rw[z8];show prs (l++ [e]) (l.length+1)=_;rw[q3Y,qfL (zq _)]
 obtain⟨z,b⟩:=b;unfold frst at h ⊢;rw[b,yv,d];cases o:(prs l l.length).findSome? (fun p=>(rcL l p.1 p.2 p.1).getLast?) with
 |none=>rw[o] at h;exact absurd h Yv
 |some r=>rfl
theorem q14{l:ji}{e:EH}:knd (l++ [e]) l.length=e.k:=by unfold knd;rw[q1m]
theorem q2v{l:ji}{e:EH}:thr (l++ [e]) l.length=e.t:=by unfold thr;rw[q1m]
theorem qal{l:ji}{e:EH}{n:Nat}(hw:Wf (l++ [e]) n)(b:Wf l n)(f:rcA l l.length= [])(h:e.k≠3->∀w∈q7z e,rcL (l++ [e]) l.length w l.length= []):frst (l++ [e])=(-1, -1, -1):=by
 refine q2O ?_;rw[z8];show rcA (l++ [e]) (l.length+1)= []
 rw[q8i,qaz b l.length (zq _),f,zk]
 split
 ·rfl
 ·rename_i d;rw[qn4 hw Yw d,q1m,List.flatMap_eq_nil_iff];exact h (by rwa[q14] at d)
theorem qkv{l:ji}{e:EH}{n i:Nat}{w:Int}{r:q0f}(hw:Wf (l++ [e]) n)(C:Wf l n)(H:rcA l l.length= [])(h3:e.k≠3)(s:(q7z e)[i]? =some w)
  (d:∀j o,j<i->(q7z e)[j]? =some o->rcL (l++ [e]) l.length o l.length= []) (I:(rcL (l++ [e]) l.length w l.length).getLast? =some r):frst (l++ [e])=r:=by
 have E:l.length<(l++ [e]).length:=Yw;have b:knd (l++ [e]) l.length≠3:=by rwa[q14]
 have f:=q8z hw E w (by rw[q1m];exact zg s);refine qmr (y:=l.length) (w:=w) E b (by rw[qaz C l.length (zq _)];exact H) f I fun o h1 h2=>?_
 by_cases hm:o∈q7z e
 ·obtain⟨j,z⟩:=Zn hm;refine d j o ?_ z;obtain⟨J,_,_⟩:=q2a e;obtain⟨A,G⟩:=z7.1 z;obtain⟨v,F⟩:=z7.1 s
  rcases Nat.lt_trichotomy j i with h|h|h
  ·exact h
  ·subst h;rw[z] at s;have:=Option.some.inj s;omega
  ·have:=Zr.1 J i j v A h;rw[F,G] at this;omega
 ·exact qaC hw E b (by rw[q1m];exact hm) _
theorem qim{l:ji}{n y:Nat}(hw:Wf l n)(o:y<l.length)(f:knd l y=1\/knd l y=2):∀x,x<y->knd l x≠3->thr l x≠thr l y->(HB l x (toP l y)↔(q06 l (thr l x) x:Int)+1<=(q68 l (thr l y) y (((thr l x).toNat:Nat):Int):Int)):=fun x j d h=>by
 have e:toP l y=y:=by unfold toP;rw[if_neg Yu]
 have b:=(hw.kd x Yu).2.2.1;rw[e,Z2 b,qio (t:=thr l x) ⟨Yu, .inl d⟩ o j rfl h f];omega
theorem qpH{l:ji}{n y:Nat}(hw:Wf l n)(o:y<l.length)(f:knd l y=4):∀x,x<y->knd l x≠3->thr l x≠thr l y->(HB l x (toP l y)↔(q06 l (thr l x) x:Int)+1<=(qhN l (thr l y) y (((thr l x).toNat:Nat):Int):Int)):=fun x hx v w=>by
 obtain⟨p,j,hpy,b,d⟩:=q8L hw o f;have h:=(qhg hw o Yu).1;have e:toP l y=p:=by unfold toP;rw[if_pos f,j,zD]
 have s:=(hw.kd x Yu).2.2.1;rw[e] at h;unfold qhN;rw[e,Z2 s,j,zD,qin (t:=thr l x) ⟨Yu, .inl v⟩ h b rfl (by rw[d];exact w)];omega
theorem q7j{l:ji}{u t:Int}{m:Nat}:q68 l u (m+1) t=if q7V l u m=true then q06 l t (m+1) else q68 l u m t:=by
 unfold q68;have e:lst (q7V l u) (m+1)=if q7V l u m=true then m+1 else lst (q7V l u) m:=rfl
 rw[e]
 split <;>rfl
theorem q8J{l:ji}{u t:Int}{m:Nat}:qhN l u (m+1) t=if thr l m=u then q06 l t m else qhN l u m t:=by
 unfold qhN;have e:bgL l u (m+1)=if thr l m=u then(m:Int) else bgL l u m:=rfl
 rw[e]
 split
 ·rw[zD]
 ·rfl
def q01(l:ji)(n:Nat):je:=q3s n fun t=>(q06 l t l.length:Int)
def q4A(l:ji)(n:Nat)(u:Int):je:=q3s n fun t=>(q68 l u l.length t:Int)
def qcS(l:ji)(n:Nat)(u:Int):je:=q3s n fun t=>(qhN l u l.length t:Int)
def q6X(l:ji)(n:Nat)(Q:ji->Int->Nat->Bool)(w:Int):List (Int×Int):=q3s n fun t=>q3M l (Q l w) t l.length
theorem qbp{l:ji}{e:EH}{t:Int}:q06 (l++ [e]) t (l.length+1)=q06 l t l.length+if e.k=4/\e.t=t then 1 else 0:=by
 show q06 (l++ [e]) t l.length+(if q7V (l++ [e]) t l.length=true then 1 else 0)=_;rw[q1Q (zq _)]
 congr 1
 unfold q7V;rw[q14,q2v];simp only[decide_eq_true_eq]
theorem qdT{l:ji}{e:EH}:(l++ [e]).length=l.length+1:=Yw
theorem qeG{l:ji}{e:EH}{n u:Nat}(hu:e.t=u)(b:e.k=4):(q01 l n).set u ((q06 l u l.length:Int)+1)=q01 (l++ [e]) n:=by
 unfold q01;refine q3C fun t _=>?_
 rw[qdT,qbp,hu]
 by_cases h:t=u
 ·subst h;rw[if_pos rfl,if_pos ⟨b,rfl⟩];omega
 ·rw[if_neg h,if_neg (fun x=>h Yu)];omega
theorem qd0{l:ji}{e:EH}{n:Nat}(b:e.k≠4):q01 (l++ [e]) n=q01 l n:=by
 unfold q01;refine q08 fun t _=>?_
 rw[qdT,qbp,if_neg (fun x=>b x.1)];rfl
theorem qg2{l:ji}{e:EH}{n:Nat}(b:e.k=4):q4A (l++ [e]) n e.t=q01 (l++ [e]) n:=by
 unfold q4A q01;refine q08 fun t _=>?_
 rw[qdT,q7j,if_pos (q1R.2 ⟨q14.trans b,q2v⟩)]
theorem q7k{l:ji}{e:EH}{n:Nat}{u:Int}(h:e.k≠4\/e.t≠u):q4A (l++ [e]) n u=q4A l n u:=by
 unfold q4A;refine q08 fun t _=>?_
 rw[qdT,q7j,if_neg (fun x=>by
  obtain⟨a,b⟩:=q1R.1 x;rw[q14] at a;rw[q2v] at b
  rcases h with h|h <;>contradiction),q9j (zq _)]
theorem qcT{l:ji}{e:EH}{n:Nat}:qcS (l++ [e]) n e.t=q01 l n:=by
 unfold qcS q01;refine q08 fun t _=>?_
 rw[qdT,q8J,if_pos q2v,q1Q (zq _)]
theorem qeh{l:ji}{u:Int}:∀{m},m<=l.length->(bgL l u m).toNat<=l.length:=fun{m} h=>by
 have:=qke l u m;omega
theorem q8K{l:ji}{e:EH}{n:Nat}{u:Int}(h:e.t≠u):qcS (l++ [e]) n u=qcS l n u:=by
 unfold qcS;refine q08 fun t _=>?_
 rw[qdT,q8J,if_neg (by rw[q2v];exact h)];unfold qhN;rw[q7I l.length (zq _),q1Q (qeh (zq _))]
theorem qhF{l:ji}{e:EH}{n u:Nat}{Q:ji->Int->Nat->Bool}{w:Int}(d:∀i,i<l.length->Q (l++ [e]) w i=Q l w i)(hu:e.t=u)(h:Q (l++ [e]) w l.length=true):(q6X l n Q w).set u ((l.length:Int),(q06 l u l.length:Int)+1)=q6X (l++ [e]) n Q w:=by
 unfold q6X;refine q3C fun t _=>?_
 rw[qdT,q3N,q2v,hu,q1Q (zq _)]
 by_cases b:t=u
 ·subst b;rw[if_pos rfl,if_pos ⟨h,rfl⟩]
 ·rw[if_neg b,if_neg (fun x=>b Yu),q2i (zq _) d]
theorem q8F{l:ji}{e:EH}{n:Nat}{Q:ji->Int->Nat->Bool}{w:Int}(b:∀i,i<l.length->Q (l++ [e]) w i=Q l w i)(h:Q (l++ [e]) w l.length=false):q6X (l++ [e]) n Q w=q6X l n Q w:=by
 unfold q6X;refine q08 fun t _=>?_
 rw[qdT,q3N,if_neg (by rw[h];simp),q2i (zq _) b]
def gtC(C:je)(t:Int):Int:=if 0<=t/\t<C.length then C[t.toNat]?.getD 0 else 0
theorem qfa{C:je}{t:Nat}{x:Int}(h:C[t]? =some x):gtC C t=x:=by
 unfold gtC;have:=(z7.1 h).1;rw[if_pos ⟨Yu,Yu⟩,zD,h];rfl
abbrev q15(x:Int×Int):jf:= [j5 x.1,j5 x.2]
def fAc(A:List (Int×Int))(t:Nat):Int×Int:=A[t]?.getD (0,0)
theorem qeS{A:List (Int×Int)}{t:Nat}{x:Int×Int}(h:A[t]? =some x):fAc A t=x:=by unfold fAc;rw[h];rfl
section
variable{W0:World}{own:Own}{a c:j9}{cap cc:Nat}
theorem qnW{C:je}(d:RdE qv 1 W0 own c C)(t:Int):jo W0 182 [.slice c C.length cc,j5 t] own (j5 (gtC C t)):=by
 refine qg (sH [] ?_)
 by_cases h:0<=t/\t<C.length
 ·obtain⟨k,rfl⟩:∃k:Nat,t=k:=⟨t.toNat,Yu⟩
  obtain⟨x,b⟩:∃x,C[k]? =some x:=⟨_,z6 Yu⟩
  have f:¬(k:Int)<0:=Yu;have j:¬(k:Int)>=C.length:=Yu;rw[qfa b]
  repeat'((try conv=>whnf);first|refine fH ?_|refine fG ?_|apply gLd;refine q0l d b rfl ?_|(apply qF;first|refine ixE d b ?_ ?_;(first|rfl|omega)))
  exact⟨rfl,(eC)⟩
 ·have e:gtC C t=0:=by unfold gtC;rw[if_neg h]
  rw[e]
  by_cases f:t<0
  ·repeat'((try conv=>whnf);first|refine fI ?_|refine fE ?_|refine fJ ?_)
   exact⟨rfl,(eC)⟩
  ·have j:t>=C.length:=Yu
   repeat'((try conv=>whnf);first|refine fH ?_|refine fF ?_|refine fK ?_)
   exact⟨rfl,(eC)⟩
theorem qgw{C:je}{A:List (Int×Int)}(H:RdE qv 1 W0 own c C)(f:RdE q15 2 W0 own a A)(hl:A.length<=65536)(pl o:Int):
  jo W0 129 [j5 pl, .slice a A.length cap,j5 o, .slice c C.length cc] own (j5 (ltM o (fun t=>gtC C t) (fAc A) pl A.length)):=by
 refine qg (sH (jq 17 3 [0]) ?_);have y:=fun(own':Own) [qr own' own] (t:Int)=>qnW (W0:=W0) (own:=own') (cc:=cc) H.up t
 refine q1o (σ:=Nat) (fun i=> [(0,j5 (ltM o (fun t=>gtC C t) (fAc A) pl i)),(13,j5 i)]) (fun i=>i<=A.length) (fun i=>A.length-i) 0 Yu (eF) rfl ?_;intro i junk hi
 by_cases E:i<A.length
 ·have s:(i:Int)<A.length:=Yu;obtain⟨x,d⟩:∃x,A[i]? =some x:=⟨_,z6 E⟩
  have b:ltM o (fun t=>gtC C t) (fAc A) pl (i+1)=if(i:Int)≠o/\x.2>gtC C i/\x.1>ltM o (fun t=>gtC C t) (fAc A) pl i then x.1 else ltM o (fun t=>gtC C t) (fAc A) pl i:=by
   show(if(i:Int)≠o/\(fAc A i).2>gtC C i/\(fAc A i).1>_ then(fAc A i).1 else _)=_;rw[qeS d]
  obtain⟨I,J⟩:=x;dsimp only at b;generalize hp:ltM o (fun t=>gtC C t) (fAc A) pl i=p at*
  by_cases w:(i:Int)=o
  ·rw[if_neg (fun h=>h.1 w)] at b;have h1':¬(i:Int)≠o:=fun h=>h w
   repeat'((try conv=>whnf);first|refine fI ?_|refine fD ?_|refine fF ?_|refine fK ?_|(apply qF;first|refine ixE f d ?_ ?_;(first|rfl|omega))|apply q24;refine q0C f d rfl ?_|refine fB ?_|refine fM ?_|refine qf fun v j=>?_)
   exact⟨i+1,Yu,Yu,by rw[b];exact(eF),(eC)⟩
  ·by_cases F:J>gtC C i
   ·by_cases G:I>p
    ·rw[if_pos ⟨w,F,G⟩] at b
     repeat'((try conv=>whnf);first|refine fH ?_|refine fF ?_|refine fJ ?_|(apply qF;first|refine ixE f d ?_ ?_;(first|rfl|omega))|apply q24;refine q0C f d rfl ?_|apply qC;refine qj (fun ex=>y (ex++_) i) ?_|refine fB ?_|refine fA ?_|refine fM ?_|refine qf fun v j=>?_)
     exact⟨i+1,Yu,Yu,by rw[b];exact(eF),(eC)⟩
    ·rw[if_neg (fun h=>G h.2.2)] at b
     repeat'((try conv=>whnf);first|refine fH ?_|refine fF ?_|refine fG ?_|refine fJ ?_|(apply qF;first|refine ixE f d ?_ ?_;(first|rfl|omega))|apply q24;refine q0C f d rfl ?_|apply qC;refine qj (fun ex=>y (ex++_) i) ?_|refine fB ?_|refine fA ?_|refine fM ?_|refine qf fun v j=>?_)
     exact⟨i+1,Yu,Yu,by rw[b];exact(eF),(eC)⟩
   ·rw[if_neg (fun h=>F h.2.1)] at b
    repeat'((try conv=>whnf);first|refine fH ?_|refine fI ?_|refine fD ?_|refine fF ?_|refine fJ ?_|refine fK ?_|(apply qF;first|refine ixE f d ?_ ?_;(first|rfl|omega))|apply q24;refine q0C f d rfl ?_|apply qC;refine qj (fun ex=>y (ex++_) i) ?_|refine fB ?_|refine fA ?_|refine fM ?_|refine qf fun v j=>?_)
    exact⟨i+1,Yu,Yu,by rw[b];exact(eF),(eC)⟩
 ·have s:¬(i:Int)<A.length:=Yu;have z:i=A.length:=Yu;subst z
  repeat'((try conv=>whnf);first|refine fG ?_)
  exact⟨rfl,(eC)⟩
end
def q3j(bs:Nat->Nat)(H:Nat->List (Int×Int)):Nat->Own
 |0=> []
 |k+1=>q3j bs H k++ [q0U q15 218 (bs k) (H k)]
theorem q0S{bs bs':Nat->Nat}{H H':Nat->List (Int×Int)}:∀{k},(∀j,j<k->bs j=bs' j/\H j=H' j)->q3j bs H k=q3j bs' H' k
 |0,_=>rfl
 |k+1,h=>by unfold q3j;rw[q0S fun j hj=>h j Yu,(h k Yu).1,(h k Yu).2]
theorem q7E{bs:Nat->Nat}{H:Nat->List (Int×Int)}{i:Nat}:∀{k},i<k->∃C,At [q0U q15 218 (bs i) (H i)] (q3j bs H k) C/\∀h,C [q0U q15 218 (bs i) h]=q3j bs (fun j=>if j=i then h else H j) k
 |0,h=>by omega
 |k+1,h=>by
  by_cases e:i=k
  ·subst e;refine⟨fun X=>q3j bs H i++(X++ []),At.skip (A:=q3j bs H i) (At.head (D:= [q0U q15 218 (bs i) (H i)]) (r:= [])),fun h=>?_⟩;show q3j bs H i++ [q0U q15 218 (bs i) h]=q3j bs (fun j=>if j=i then h else H j) i++ [q0U q15 218 (bs i) (if i=i then h else H i)]
   rw[if_pos rfl,q0S (H:=fun j=>if j=i then h else H j) (H':=H) (bs':=bs) fun j hj=>⟨rfl,if_neg Yu⟩]
  ·obtain⟨C,b,d⟩:=q7E (bs:=bs) (H:=H) (i:=i) (k:=k) Yu;refine⟨fun X=>C X++ [q0U q15 218 (bs k) (H k)],b.left,fun h=>?_⟩;show C _++_=q3j bs (fun j=>if j=i then h else H j) k++ [q0U q15 218 (bs k) (if k=i then h else H k)]
   rw[d,if_neg (fun x:k=i=>e x.symm)]
theorem qba{bs:Nat->Nat}{H:Nat->List (Int×Int)}{i:Nat}:∀{k},i<k->q0U q15 218 (bs i) (H i)∈q3j bs H k
 |0,h=>by omega
 |k+1,h=>by
  unfold q3j
  by_cases e:i=k
  ·subst e;simp
  ·exact zP _ (qba Yu)
section
variable{W0:World}{own:Own}
theorem qlp{bs:Nat->Nat}{H:Nat->List (Int×Int)}{i k:Nat}(h:i<k):RdE q15 2 W0 (q3j bs H k) (some ⟨bs i,0,none⟩) (H i):=q1V (qba h) (fun _ _=>rfl) rfl
theorem qnv{tb n:Nat} [m:qy tb (j8 #[j5 n] 3) own](hn:n<=65536):
  jn W0 61 [jp tb] own fun v own'=>∃b:Nat,v= .slice (some ⟨b,0,none⟩) n n/\Ent W0 own' (q0U q15 218 b (List.replicate n (0,0))::own):=by
 refine sH [] ?_
 repeat'((try conv=>whnf);first|refine mkC (enc:=q15) n (0,0) rfl rfl rfl Yu fun d=>?_|refine fA ?_)
 exact⟨d,rfl,Ent.refl⟩
end
section
variable{W0:World}{own:Own}{a:j9}{cap:Nat}{l:je}
theorem qdM(W0:World)(own:Own)(x:Int):jo W0 125 [j5 x] own (.bool (!inW x)):=by
 refine qg (sH [] ?_)
 by_cases hw:0<=x/\x<64
 ·have b:inW x=true:=by unfold inW;exact decide_eq_true hw
  rw[b]
  repeat'((try conv=>whnf);first|refine fH ?_|refine fK ?_)
  exact⟨q0a (vb (decide_eq_false Yu)),(eC)⟩
 ·have b:inW x=false:=by unfold inW;exact decide_eq_false hw
  rw[b]
  repeat'((try conv=>whnf);first|refine fH ?_|refine fI ?_|apply q4J;exact rfl;exact rfl;all_goals intro hc)
  all_goals first|exact⟨q0a rfl,(eC)⟩|exact⟨q0a (vb (decide_eq_true Yu)),(eC)⟩
theorem qs4:okF Tryz.prog 125=true:=by kernel_rfl
theorem q6q(b:RdE qv 1 W0 own a l)(d:l.length<=9223372036854775807):jo W0 92 [.slice a l.length cap] own (.bool (l.all inW)):=by
 refine qg (sH [] ?_);have h:=q9q (cap:=cap) qs4 (fun own x=>qdM W0 own x) b d;have e:l.all inW= !l.any (fun x=> !inW x):=by simp[List.all_eq_not_any_not]
 rw[e];generalize l.any (fun x=> !inW x)=z at*
 repeat'((try conv=>whnf);first|apply qe;refine qd (h) ?_)
 exact⟨rfl,(eC)⟩
end
abbrev q1K(x:j9×Nat×Nat):jf:= [.slice x.1 x.2.1 x.2.2]
section
variable{W0:World}{own:Own}
theorem qjL{e:EH}{cb n eb ec bb bc:Nat}{cnt at1 last:Int}{B:List (j9×Nat×Nat)}(I:EvR W0 own e)(G:Cl W0 own cb 0 (j5 cnt))(H:Cl W0 own cb 1 (j5 at1))(z:Cl W0 own cb 2 (.slice (some ⟨eb,0,none⟩) n ec))(U:Cl W0 own cb 4 (.slice (some ⟨bb,0,none⟩) B.length bc))
  (N:RdE q1K 1 W0 own (some ⟨bb,0,none⟩) B) (hl:B.length=n) (J:0<=cnt) (f:∀x,B[e.t.toNat]? =some x->(x.1≠none↔last=3)):
  jo W0 62 [jp cb,e.v] own (.bool (q12 n (cnt==0) at1 last e)):=by
 refine qg (sH (jq 26 3 (56::(jq 19 57 (0::(jq 20 3 [0]))))) ?_);have hr:∀own' [qr own' own],jo W0 92 [.slice e.ra e.rl.length e.rc] own' (.bool (e.rl.all inW)):=fun own' h=>q6q (I.r.ent (h.h W0)) I.rn
 have hw:∀own' [qr own' own],jo W0 92 [.slice e.wa e.wl.length e.wc] own' (.bool (e.wl.all inW)):=fun own' h=>q6q (I.w.ent (h.h W0)) I.wn
 have d:∀(own':Own) (b:Nat),qr own' [(b,j8 #[j5 e.w] 3)]->jo W0 92 [.slice (some ⟨b,0,none⟩) 1 1] own' (.bool (inW e.w)):=fun own' b h=>by
  have:=q6q (W0:=W0) (own:=own') (a:=some ⟨b,0,none⟩) (cap:=1) (l:= [e.w]) ((q8P (enc:=qv) (sz:=1) (T:=3) (fun _ _=>rfl)).ent (h.h W0)) Yw
  simpa using this
 unfold q12;have R:decide (e.rl= []/\e.wl= [])=decide (e.rl.length=0/\e.wl.length=0):=by
  refine decide_eq_decide.2 ?_;rw[zC,zC]
 have ea:e.rl.length=0->e.rl.all inW=true:=fun h=>by rw[zC.1 h];rfl
 have P:e.wl.length=0->e.wl.all inW=true:=fun h=>by rw[zC.1 h];rfl
 rw[R];clear I R;obtain⟨ev,t,k,w,ra,rl,rc,wa,wl,wc⟩:=e;dsimp only[EH.v] at*;generalize rl.all inW=zr at*;generalize wl.all inW=zw at*;generalize rl.length=lr at*;generalize wl.length=lw at*;have W:(cnt==0)=true↔cnt=0:=Yw;generalize (cnt==0)=fs at*
 by_cases A:0<=t/\t<n/\1<=k/\k<=4
 ·by_cases v:0<=w/\w<64
  ·have y:inW w=true:=decide_eq_true v;rw[y] at d
   by_cases ha:cnt>0/\ev<at1
   ·rw[decide_eq_false (fun h=>h.2.2.2.2.1.elim (fun h=>absurd (W.1 h) Yu) (fun h=>by omega))];obtain⟨a1,a2,a3,a4⟩:=A;obtain⟨a5,a6⟩:=ha
    repeat'((try conv=>whnf);first|refine fH ?_|refine fF ?_|refine fJ ?_|refine fK ?_|(apply gLd;first|refine ldK G ?_|refine ldK H ?_|refine ldK z ?_)|apply qC;refine qj (fun ex=>d _ _ ⟨fun _=>Ent.app (Ent.left (D:= [_]))⟩) ?_|refine fA ?_|refine qf fun F s=>?_)
    all_goals first|exact⟨rfl,(eC)⟩|exfalso;omega
   ·have Q:fs=true\/at1<=ev:=by
     by_cases h:cnt=0
     ·exact .inl (W.2 h)
     ·exact .inr Yu
    rw[decide_eq_true ⟨A.1,A.2.1,A.2.2.1,A.2.2.2,Q,v.1,v.2⟩,Y6]
    by_cases Y:k=4
    ·rw[if_pos Y];obtain⟨j,rfl⟩:∃j:Nat,t=j:=⟨t.toNat,Yu⟩
     obtain⟨x,K⟩:∃x,B[j]? =some x:=⟨_,z6 Yu⟩
     have C:=f x (by rw[zD];exact K);clear f;obtain⟨x1,x2,x3⟩:=x;dsimp only at C;cases x1 with
     |none=>
      rw[decide_eq_false (fun h=>(C.2 h) rfl),Y1]
      repeat'((try conv=>whnf);first|refine fH ?_|refine fI ?_|refine fD ?_|refine fG ?_|refine fK ?_|(apply gLd;first|refine q0l N K rfl ?_|refine ldK G ?_|refine ldK H ?_|refine ldK z ?_|refine ldK U ?_)|(apply qF;first|refine ixE N K ?_ ?_;(first|rfl|omega))|apply qC;refine qj (fun ex=>d _ _ ⟨fun _=>Ent.app (Ent.left (D:= [_]))⟩) ?_|refine fA ?_|refine qf fun F s=>?_|apply q0p;exact rfl;exact rfl;all_goals intro J)
      all_goals first|exact⟨rfl,(eC)⟩|exfalso;omega
     |some ad=>
      rw[decide_eq_true (C.1 Yw),Bool.and_true];cases zr <;>cases zw
      all_goals
       repeat'((try conv=>whnf);first|refine fH ?_|refine fI ?_|refine fD ?_|refine fG ?_|refine fK ?_|(apply gLd;first|refine q0l N K rfl ?_|refine ldK G ?_|refine ldK H ?_|refine ldK z ?_|refine ldK U ?_)|(apply qF;first|refine ixE N K ?_ ?_;(first|rfl|omega))|(apply qC;first|refine qj (fun ex=>d _ _ ⟨fun _=>Ent.app (Ent.left (D:= [_]))⟩) ?_|refine qj (fun ex=>hr (ex++_)) ?_|refine qj (fun ex=>hw (ex++_)) ?_)|refine fA ?_|refine qf fun F s=>?_|apply q0p;exact rfl;exact rfl;all_goals intro J)
       all_goals first|exact⟨rfl,(eC)⟩|exfalso;omega
    ·rw[if_neg Y];clear f
     by_cases Z:lr=0/\lw=0
     ·obtain⟨M,E⟩:=Z;rw[decide_eq_true ⟨M,E⟩,ea M,P E]
      repeat'((try conv=>whnf);first|refine fH ?_|refine fI ?_|refine fD ?_|refine fF ?_|refine fG ?_|refine fJ ?_|refine fK ?_|(apply gLd;first|refine ldK G ?_|refine ldK H ?_|refine ldK z ?_)|apply qC;refine qj (fun ex=>d _ _ ⟨fun _=>Ent.app (Ent.left (D:= [_]))⟩) ?_|refine fA ?_|refine qf fun F s=>?_|apply q0p;exact rfl;exact rfl;all_goals intro J)
      all_goals first|exact⟨q0a (vb (by simp[E])),(eC)⟩|exfalso;omega
     ·rw[decide_eq_false Z,Y1]
      repeat'((try conv=>whnf);first|refine fH ?_|refine fI ?_|refine fD ?_|refine fF ?_|refine fG ?_|refine fK ?_|(apply gLd;first|refine ldK G ?_|refine ldK H ?_|refine ldK z ?_)|apply qC;refine qj (fun ex=>d _ _ ⟨fun _=>Ent.app (Ent.left (D:= [_]))⟩) ?_|refine fA ?_|refine qf fun F s=>?_|apply q0p;exact rfl;exact rfl;all_goals intro J)
      all_goals first|exact⟨rfl,(eC)⟩|exact⟨q0a (vb (decide_eq_false Yu)),(eC)⟩|exfalso;omega
  ·have y:inW w=false:=decide_eq_false v;rw[y] at d;rw[decide_eq_false (fun h=>v ⟨h.2.2.2.2.2.1,h.2.2.2.2.2.2⟩)];obtain⟨a1,a2,a3,a4⟩:=A
   repeat'((try conv=>whnf);first|refine fH ?_|refine fI ?_|refine fE ?_|refine fK ?_|apply gLd;refine ldK z ?_|apply qC;refine qj (fun ex=>d _ _ ⟨fun _=>Ent.app (Ent.left (D:= [_]))⟩) ?_|refine fA ?_|refine qf fun F s=>?_)
   all_goals first|exact⟨rfl,(eC)⟩|exfalso;omega
 ·rw[decide_eq_false (fun h=>A ⟨h.1,h.2.1,h.2.2.1,h.2.2.2.1⟩)]
  repeat'((try conv=>whnf);first|refine fH ?_|refine fI ?_|refine fE ?_|refine fJ ?_|apply gLd;refine ldK z ?_|refine fA ?_|refine qf fun F s=>?_|apply q4J;exact rfl;exact rfl;all_goals intro J)
  all_goals first|exact⟨rfl,(eC)⟩|exfalso;omega
end
def ckL(cnt at1:Int)(eb sb bb n sc:Nat)(V:Nat->Value)(r:q0f):jf:=
 [j5 cnt,j5 at1, .slice (some ⟨eb,0,none⟩) n n, .slice (some ⟨sb,0,none⟩) n sc, .slice (some ⟨bb,0,none⟩) n n]++(q3s 256 V++encRc r)
section
variable{cnt at1:Int}{eb sb bb n sc:Nat}{V:Nat->Value}{r:q0f}
theorem q7M:(ckL cnt at1 eb sb bb n sc V r).length=264:=by
 unfold ckL;rw[z8,z8,qU];rfl
theorem qbm{i:Nat}(h:i<256):(ckL cnt at1 eb sb bb n sc V r)[5+i]? =some (V i):=by
 unfold ckL;rw[zT Yw];have e:5+i- [j5 cnt,j5 at1, .slice (some ⟨eb,0,none⟩) n n, .slice (some ⟨sb,0,none⟩) n sc, .slice (some ⟨bb,0,none⟩) n n].length=i:=Yw;rw[e,zG (by rw[qU];exact h),q0s h]
theorem qhU(r':q0f):(ckL cnt at1 eb sb bb n sc V r).take 261++encRc r'++(ckL cnt at1 eb sb bb n sc V r).drop 264=ckL cnt at1 eb sb bb n sc V r':=by
 have e:∀r:q0f,ckL cnt at1 eb sb bb n sc V r=([j5 cnt,j5 at1, .slice (some ⟨eb,0,none⟩) n n, .slice (some ⟨sb,0,none⟩) n sc, .slice (some ⟨bb,0,none⟩) n n]++q3s 256 V)++encRc r:=fun r=>by
  unfold ckL;rw[zd]
 have b:([j5 cnt,j5 at1, .slice (some ⟨eb,0,none⟩) n n, .slice (some ⟨sb,0,none⟩) n sc, .slice (some ⟨bb,0,none⟩) n n]++q3s 256 V:jf).length=261:=by
  rw[z8,qU];rfl
 have hd:(ckL cnt at1 eb sb bb n sc V r).drop 264= []:=Zs (by rw[q7M];exact zq _);rw[hd,zz,e,e,List.take_left' b]
end
section
variable{W0:World}{own:Own}
theorem qbC:∀l:jf,l=(l.map fun v=> [v]).flatten
 | []=>rfl
 |x::r=>congrArg (x:: ·) (qbC r)
theorem qk{b i:Nat}{cs:jf}{T:TypeId}{v:Value}(hm:(b,j8 cs.toArray T)∈own)(d:cs[i]? =some v):Cl W0 own b i v:=by
 have h:=q1V (W0:=W0) (enc:=fun v:Value=> [v]) (sz:=1) (l:=cs) hm (fun _ _=>rfl) (qbC cs);have:=h.cell (j:=i) (k:=0) d (by rfl);have this:Kn W0 own fun w=>w.cell? ⟨b,0+i*1+0,none⟩=some v:=this
 rw[yG,ZV,zA] at this;exact this
end
section
variable{W0:World}{own:Own}
theorem qcB{cnt at1:Int}{cb eb sb bb n sc k:Nat}{V:Nat->Value}{r:q0f}{T:TypeId}{K:Own->Prop}{C:(Obj->Prop)->Own}(r':q0f) [m:UpC cb (j8 (ckL cnt at1 eb sb bb n sc V r).toArray T (0,0)) own C](b:3=k)
  (d:K (C fun o=>o=Obj.cells (ckL cnt at1 eb sb bb n sc V r').toArray T (0,0))):(encRc r').length=k/\StN W0 own ⟨cb,261,none⟩ (encRc r') K:=by
 subst b;refine qjV (cs:=(ckL cnt at1 eb sb bb n sc V r).toArray) (T:=T) rfl ?_ rfl ?_
 ·show Nat.ble (261+3) (ckL cnt at1 eb sb bb n sc V r).length=true;rw[q7M];rfl
 ·show K (C fun o=>o=Obj.cells ((ckL cnt at1 eb sb bb n sc V r).take 261++encRc r'++(ckL cnt at1 eb sb bb n sc V r).drop 264).toArray T (0,0));rw[qhU];exact d
def qog(n:Nat)(k o:Int)(wr:Bool)(ck:Nat->Int)(R W TR TW:List (Int×Int)):Int:=
 let b:=ltM o ck (fAc W) (-1) n
 let d:=if wr=true then ltM o ck (fAc R) b n else b
 let f:=if k≠4 then ltM o ck (fAc TW) d n else d
 if k≠4/\wr=true then ltM o ck (fAc TR) f n else f
theorem qmn{n:Nat}{g:Nat->Int×Int}{t:Nat}(h:t<n):fAc (q3s n g) t=g t:=qeS (q0s h)
theorem qr1{l:ji}{n:Nat}{k o w:Int}{wr:Bool}{C:je}{ck:Nat->Int}(d:∀t,t<n->gtC C t=ck t):
  qog n k o wr (fun t=>gtC C t) (q6X l n qR w) (q6X l n qW w) (q6X l n qTR w) (q6X l n qTW w)=qcI l n l.length k o w wr ck:=by
 unfold qog qcI;have h:∀(Q:ji->Int->Nat->Bool) (pl:Int),ltM o (fun t=>gtC C t) (fAc (q6X l n Q w)) pl n=ltM o ck (fun t=>q3M l (Q l w) t l.length) pl n:=fun Q pl=>q98 fun t b=>⟨qmn b,d t b⟩
 simp only[h]
end
section
variable{W0:World}{own:Own}
theorem qnT{e:EH}{cb eb sb bb n sc w bR bW E F cc:Nat}{cnt at1:Int}{V:Nat->Value}{r:q0f}{c:j9}{d:je}{R W TR TW:List (Int×Int)}{wr:Bool}{Cf:(Obj->Prop)->Own}
  [u:UpC cb (j8 (ckL cnt at1 eb sb bb n sc V r).toArray 151 (0,0)) own Cf]
  (P:Cl W0 own cb 0 (j5 cnt)) (hw:w<64)
  (M:Cl W0 own cb (5+w*4+0) (.slice (some ⟨bR,0,none⟩) n n)) (c1:Cl W0 own cb (5+w*4+1) (.slice (some ⟨bW,0,none⟩) n n))
  (c2:Cl W0 own cb (5+w*4+2) (.slice (some ⟨E,0,none⟩) n n)) (N:Cl W0 own cb (5+w*4+3) (.slice (some ⟨F,0,none⟩) n n))
  (hR:RdE q15 2 W0 own (some ⟨bR,0,none⟩) R) (hW:RdE q15 2 W0 own (some ⟨bW,0,none⟩) W) (G:RdE q15 2 W0 own (some ⟨E,0,none⟩) TR) (H:RdE q15 2 W0 own (some ⟨F,0,none⟩) TW)
  (Y:R.length=n) (ae:W.length=n) (I:TR.length=n) (K:TW.length=n) (hn16:n<=65536) (hC:RdE qv 1 W0 own c d):
  jn W0 96 [jp cb,e.v,j5 w, .bool wr, .slice c d.length cc] own fun v own'=>v= .bool (decide (0<=qog n e.k e.t wr (fun t=>gtC d t) R W TR TW))/\Ent W0 own' (if 0<=qog n e.k e.t wr (fun t=>gtC d t) R W TR TW then Cf (j8 (ckL cnt at1 eb sb bb n sc V (qog n e.k e.t wr (fun t=>gtC d t) R W TR TW,cnt,(w:Int))).toArray 151 (0,0)) else own):=by
 refine sH (jq 9 3 (0::(jq 10 3 (0::(jq 10 3 (0::(jq 10 3 [0]))))))) ?_;have j:∀{A:List (Int×Int)} {b:Nat},RdE q15 2 W0 own (some ⟨b,0,none⟩) A->A.length=n->∀(own':Own) [qr own' own] (pl:Int),jo W0 129 [j5 pl, .slice (some ⟨b,0,none⟩) n n,j5 e.t, .slice c d.length cc] own' (j5 (ltM e.t (fun t=>gtC d t) (fAc A) pl n)):=fun{A b} hA hl own' _ pl=>by
  have:=qgw (W0:=W0) (own:=own') (cap:=n) (cc:=cc) hC.up hA.up Yu pl e.t
  rwa[hl] at this
 have lR:=fun own' [qr own' own]=>j hR Y own'
 have Q:=fun own' [qr own' own]=>j hW ae own'
 have Z:=fun own' [qr own' own]=>j G I own'
 have J:=fun own' [qr own' own]=>j H K own'
 have hw1:(w:Int)<64:=Yu;clear j hR hW G H;unfold qog;obtain⟨ev,t,k,wd,ra,rl,rc,wa,wl,wc⟩:=e;dsimp only[EH.v] at*;cases wr with
 |false=>
  by_cases s:k=4
  ·have C:¬k≠4:=fun h=>h s
   simp only[s,ne_eq,not_true_eq_false,and_false,if_false,zL];have g0:=fun(own':Own) [qr own' own]=>Q own' (-1)
   generalize ltM t (fun t=>gtC d t) (fAc W) (-1) n=p at*
   by_cases U:p<0
   ·rw[decide_eq_false Yu,if_neg Yu]
    repeat'((try conv=>whnf);first|refine fD ?_|refine fF ?_|apply gLd;refine ldK c1 ?_|apply qC;refine qj (fun ex=>g0 (ex++_)) ?_|apply ixj;omega|refine fA ?_|refine qf fun z f=>?_)
    exact⟨rfl,(eC)⟩
   ·rw[decide_eq_true Yu,if_pos Yu]
    repeat'((try conv=>whnf);first|refine fD ?_|refine fG ?_|refine qcB (p,cnt,(w:Int)) ?_ ?_;exact rfl|(apply gLd;first|refine ldK P ?_|refine ldK c1 ?_)|apply qC;refine qj (fun ex=>g0 (ex++_)) ?_|apply ixj;omega|refine fA ?_|refine qf fun z f=>?_)
    exact⟨rfl,(eC)⟩
  ·have C:k≠4:=s;simp only[s,ne_eq,not_false_eq_true,and_false,if_true,if_false,zL];have g0:=fun(own':Own) [qr own' own]=>Q own' (-1)
   generalize ltM t (fun t=>gtC d t) (fAc W) (-1) n=y at*;have g1:=fun(own':Own) [qr own' own]=>J own' y
   generalize ltM t (fun t=>gtC d t) (fAc TW) y n=p at*
   by_cases U:p<0
   ·rw[decide_eq_false Yu,if_neg Yu]
    repeat'((try conv=>whnf);first|refine fD ?_|refine fF ?_|(apply gLd;first|refine ldK c1 ?_|refine ldK N ?_)|(apply qC;first|refine qj (fun ex=>g0 (ex++_)) ?_|refine qj (fun ex=>g1 (ex++_)) ?_)|apply ixj;omega|refine fA ?_|refine qf fun z f=>?_)
    exact⟨rfl,(eC)⟩
   ·rw[decide_eq_true Yu,if_pos Yu]
    repeat'((try conv=>whnf);first|refine fD ?_|refine fF ?_|refine fG ?_|refine qcB (p,cnt,(w:Int)) ?_ ?_;exact rfl|(apply gLd;first|refine ldK P ?_|refine ldK c1 ?_|refine ldK N ?_)|(apply qC;first|refine qj (fun ex=>g0 (ex++_)) ?_|refine qj (fun ex=>g1 (ex++_)) ?_)|apply ixj;omega|refine fA ?_|refine qf fun z f=>?_)
    exact⟨rfl,(eC)⟩
 |true=>
  by_cases s:k=4
  ·have C:¬k≠4:=fun h=>h s
   simp only[s,ne_eq,not_true_eq_false,and_true,if_true,if_false];have g0:=fun(own':Own) [qr own' own]=>Q own' (-1)
   generalize ltM t (fun t=>gtC d t) (fAc W) (-1) n=y at*;have g1:=fun(own':Own) [qr own' own]=>lR own' y
   generalize ltM t (fun t=>gtC d t) (fAc R) y n=p at*
   by_cases U:p<0
   ·rw[decide_eq_false Yu,if_neg Yu]
    repeat'((try conv=>whnf);first|refine fE ?_|refine fD ?_|refine fF ?_|(apply gLd;first|refine ldK M ?_|refine ldK c1 ?_)|(apply qC;first|refine qj (fun ex=>g0 (ex++_)) ?_|refine qj (fun ex=>g1 (ex++_)) ?_)|apply ixj;omega|refine fA ?_|refine qf fun z f=>?_)
    exact⟨rfl,(eC)⟩
   ·rw[decide_eq_true Yu,if_pos Yu]
    repeat'((try conv=>whnf);first|refine fE ?_|refine fD ?_|refine fG ?_|refine qcB (p,cnt,(w:Int)) ?_ ?_;exact rfl|(apply gLd;first|refine ldK P ?_|refine ldK M ?_|refine ldK c1 ?_)|(apply qC;first|refine qj (fun ex=>g0 (ex++_)) ?_|refine qj (fun ex=>g1 (ex++_)) ?_)|apply ixj;omega|refine fA ?_|refine qf fun z f=>?_)
    exact⟨rfl,(eC)⟩
  ·have C:k≠4:=s;simp only[s,ne_eq,not_false_eq_true,and_true,if_true];have g0:=fun(own':Own) [qr own' own]=>Q own' (-1)
   generalize ltM t (fun t=>gtC d t) (fAc W) (-1) n=y at*;have g1:=fun(own':Own) [qr own' own]=>lR own' y
   generalize ltM t (fun t=>gtC d t) (fAc R) y n=p1 at*;have g2:=fun(own':Own) [qr own' own]=>J own' p1
   generalize ltM t (fun t=>gtC d t) (fAc TW) p1 n=p2 at*;have g3:=fun(own':Own) [qr own' own]=>Z own' p2
   generalize ltM t (fun t=>gtC d t) (fAc TR) p2 n=p at*
   by_cases U:p<0
   ·rw[decide_eq_false Yu,if_neg Yu]
    repeat'((try conv=>whnf);first|refine fE ?_|refine fF ?_|(apply gLd;first|refine ldK M ?_|refine ldK c1 ?_|refine ldK c2 ?_|refine ldK N ?_)|(apply qC;first|refine qj (fun ex=>g0 (ex++_)) ?_|refine qj (fun ex=>g1 (ex++_)) ?_|refine qj (fun ex=>g2 (ex++_)) ?_|refine qj (fun ex=>g3 (ex++_)) ?_)|apply ixj;omega|refine fA ?_|refine qf fun z f=>?_)
    exact⟨rfl,(eC)⟩
   ·rw[decide_eq_true Yu,if_pos Yu]
    repeat'((try conv=>whnf);first|refine fE ?_|refine fF ?_|refine fG ?_|refine qcB (p,cnt,(w:Int)) ?_ ?_;exact rfl|(apply gLd;first|refine ldK P ?_|refine ldK M ?_|refine ldK c1 ?_|refine ldK c2 ?_|refine ldK N ?_)|(apply qC;first|refine qj (fun ex=>g0 (ex++_)) ?_|refine qj (fun ex=>g1 (ex++_)) ?_|refine qj (fun ex=>g2 (ex++_)) ?_|refine qj (fun ex=>g3 (ex++_)) ?_)|apply ixj;omega|refine fA ?_|refine qf fun z f=>?_)
    exact⟨rfl,(eC)⟩
end
abbrev nnR:q0f:=(-1, -1, -1)
theorem q82{l:ji}:(frst l=nnR/\rcA l l.length= [])\/(frst l≠nnR/\(frst l).2.1>=0):=by
 by_cases h:rcA l l.length= []
 ·exact .inl ⟨q2O h,h⟩
 ·have:=qf3.2 h;exact .inr ⟨fun e=>by rw[e] at this;revert this;decide,this⟩
def qan(L:ji)(n:Nat)(e:EH)(w:Int)(wr:Bool)(C:je):Int:=qog n e.k e.t wr (fun t=>gtC C t) (q6X L n qR w) (q6X L n qW w) (q6X L n qTR w) (q6X L n qTW w)
theorem qbI{L:ji}{n:Nat}{e:EH}{w:Int}{wr:Bool}{C:je}{ck:Nat->Int}(hw:Wf (L++ [e]) n)(f:e.k≠3)
  (j:(e.k≠4/\e.w=w/\wr=decide (e.k=2))\/(e.k=4/\wr=e.wl.contains w/\(e.wl.contains w=true\/e.rl.contains w=true))) (o:∀t,t<n->gtC C t=ck t) (b:∀t,0<=ck t)
  (s:∀x,x<L.length->knd (L++ [e]) x≠3->thr (L++ [e]) x≠thr (L++ [e]) L.length->(HB (L++ [e]) x (toP (L++ [e]) L.length)↔(q06 (L++ [e]) (thr (L++ [e]) x) x:Int)+1<=ck (thr (L++ [e]) x).toNat)):
  (qan L n e w wr C<0->rcL (L++ [e]) L.length w L.length= [])/\(0<=qan L n e w wr C->(rcL (L++ [e]) L.length w L.length).getLast? =some (qan L n e w wr C,(L.length:Int),w)):=by
 have h:=qk4 (l:=L++ [e]) (n:=n) (y:=L.length) (w:=w) (wr:=wr) (ck:=ck) hw Yw (by rw[q14];exact f) (by rw[q14,q1m];exact j) b s;have d:qan L n e w wr C=qcI (L++ [e]) n L.length (knd (L++ [e]) L.length) (thr (L++ [e]) L.length) w wr ck:=by
  unfold qan;rw[qk3,q14,q2v,qr1 o]
 rw[d];exact h
theorem qdc{L:ji}{n:Nat}{e:EH}(hw:Wf (L++ [e]) n)(b:Wf L n)(s:e.k=1\/e.k=2):
  frst (L++ [e])=if frst L=nnR then(if 0<=qan L n e e.w (decide (e.k=2)) (q4A L n e.t) then(qan L n e e.w (decide (e.k=2)) (q4A L n e.t),(L.length:Int),e.w) else nnR) else frst L:=by
 have z:=qbI (w:=e.w) (wr:=decide (e.k=2)) (C:=q4A L n e.t) (ck:=fun t=>(q68 (L++ [e]) e.t L.length (t:Int):Int)) hw Yu (.inl ⟨Yu,rfl,rfl⟩) (fun t h=>by
  unfold q4A;rw[qfa (q0s h),q9j (zq _)]) (fun t=>by omega) (by
  have:=qim (y:=L.length) hw Yw (by rw[q14];exact s)
  rwa[q2v] at this ⊢)
 have h:q7z e= [e.w]:=by unfold q7z;rw[if_pos s]
 rcases q82 (l:=L) with ⟨o,f⟩|⟨o,f⟩
 ·rw[if_pos o]
  split
  ·rename_i v;exact qkv (i:=0) hw b f Yu (by rw[h];rfl) (fun j w' hj=>by omega) (z.2 v)
  ·rename_i v;exact qal hw b f fun _ w d=>by
    rw[h,zf] at d;subst d;exact z.1 Yu
 ·rw[if_neg o];exact q83 b f
theorem qcU{L:ji}{n:Nat}{e:EH}(hw:Wf (L++ [e]) n)(b:Wf L n)(j:e.k=3):frst (L++ [e])=frst L:=by
 rcases q82 (l:=L) with ⟨f,d⟩|⟨f,d⟩
 ·rw[f];exact qal hw b d fun h=>absurd j h
 ·exact q83 b d
theorem qi6{L:ji}{n:Nat}{e:EH}{w:Int}(hw:Wf (L++ [e]) n)(d:e.k=4)(hm:w∈q7z e):
  (qan L n e w (e.wl.contains w) (qcS L n e.t)<0->rcL (L++ [e]) L.length w L.length= [])/\(0<=qan L n e w (e.wl.contains w) (qcS L n e.t)->(rcL (L++ [e]) L.length w L.length).getLast? =some (qan L n e w (e.wl.contains w) (qcS L n e.t),(L.length:Int),w)):=by
 have b:=((q2a e).2.1 w).1 hm;rw[if_neg Yu] at b;refine qbI (ck:=fun t=>(qhN (L++ [e]) e.t L.length (t:Int):Int)) hw Yu (.inr ⟨d,rfl,?_⟩) (fun t f=>?_) (fun t=>by omega) ?_
 ·simp only[Zw];exact b.symm
 ·unfold qcS;rw[qfa (q0s f)];unfold qhN;rw[q7I L.length (zq _),q1Q (qeh (zq _))]
 ·have:=qpH (y:=L.length) hw Yw (by rw[q14];exact d)
  rwa[q2v] at this ⊢
def qkz(q:Nat):ji->Int->Nat->Bool:=if q=0 then qR else if q=1 then qW else if q=2 then qTR else qTW
def q1g(L:ji)(n:Nat)(j:Nat):List (Int×Int):=q6X L n (qkz (j % 4)) ((j/4:Nat):Int)
theorem q5e{L:ji}{n j:Nat}:(q1g L n j).length=n:=qU
def qmx(e:EH)(q:Nat)(w:Int):Bool:=if q=0 then decide (e.k=1/\e.w=w) else if q=1 then decide (e.k=2/\e.w=w) else if q=2 then decide (e.k=4)&&e.rl.contains w else decide (e.k=4)&&e.wl.contains w
theorem q86{L:ji}{e:EH}{q:Nat}{w:Int}:∀i,i<L.length->qkz q (L++ [e]) w i=qkz q L w i:=fun i b=>by
 unfold qkz
 split
 ·unfold qR;rw[qX b,q1O b]
 split
 ·unfold qW;rw[qX b,q1O b]
 split
 ·unfold qTR;rw[qX b,q1O b]
 ·unfold qTW;rw[qX b,q1O b]
theorem q87{L:ji}{e:EH}{q:Nat}{w:Int}:qkz q (L++ [e]) w L.length=qmx e q w:=by
 unfold qkz qmx
 split
 ·unfold qR;rw[q14,q1m]
 split
 ·unfold qW;rw[q14,q1m]
 split
 ·unfold qTR;rw[q14,q1m]
 ·unfold qTW;rw[q14,q1m]
theorem qbH{L:ji}{e:EH}{n u j:Nat}(hu:e.t=u):q1g (L++ [e]) n j=if qmx e (j % 4) ((j/4:Nat):Int)=true then(q1g L n j).set u ((L.length:Int),(q06 L u L.length:Int)+1) else q1g L n j:=by
 unfold q1g
 split
 ·rename_i h;exact(qhF q86 hu (by rw[q87];exact h)).symm
 ·rename_i h;exact q8F q86 (by rw[q87];simpa using h)
theorem qd4{L:ji}{e:EH}{n j:Nat}(b:e.k=3):q1g (L++ [e]) n j=q1g L n j:=by
 unfold q1g;refine q8F q86 ?_;rw[q87];unfold qmx;simp[b]
theorem qd5{L:ji}{e:EH}{n u w j:Nat}(hu:e.t=u)(d:e.k=1\/e.k=2)(o:e.w=w):
  q1g (L++ [e]) n j=if j=4*w+(if e.k=2 then 1 else 0) then(q1g L n (4*w+(if e.k=2 then 1 else 0))).set u ((L.length:Int),(q06 L u L.length:Int)+1) else q1g L n j:=by
 rw[qbH hu];have h:qmx e (j % 4) ((j/4:Nat):Int)=true↔j=4*w+(if e.k=2 then 1 else 0):=by
  obtain⟨i,q,b,hq⟩:∃i q,j=4*i+q/\q<4:=⟨j/4,j % 4,Yu,Yu⟩
  have s:j % 4=q:=Yu;have v:j/4=i:=Yu;rw[s,v];subst b;unfold qmx;have f:q=0\/q=1\/q=2\/q=3:=Yu
  rcases d with d|d <;>rcases f with rfl|rfl|rfl|rfl <;>simp[d,o] <;>omega
 by_cases b:j=4*w+(if e.k=2 then 1 else 0)
 ·rw[if_pos (h.2 b),if_pos b,<-b]
 ·rw[if_neg (fun x=>b (h.1 x)),if_neg b]
instance qr.mem{b:Nat}{p:Obj->Prop}{own:Own} [m:qy b p own]:qr own [(b,p)]:=⟨fun _=>Ent.of_sub (List.singleton_sublist.2 m.h)⟩
abbrev Sl:=j9×Nat×Nat
abbrev q6U(bs:Nat->Nat)(n:Nat)(i:Nat):Value:= .slice (some ⟨bs i,0,none⟩) n n
abbrev ckN(cnt at1:Int)(cb eb sb bb n sc:Nat)(bs:Nat->Nat)(r:q0f):jd:=(cb,j8 (ckL cnt at1 eb sb bb n sc (q6U bs n) r).toArray 151 (0,0))
abbrev ckO(cnt at1:Int)(r:q0f)(E:je)(H:Nat->List (Int×Int))(cb eb sb bb n sc:Nat)(bs:Nat->Nat)(B:List Sl)(D X:Own):Own:=
 ckN cnt at1 cb eb sb bb n sc bs r::q0U qv 3 eb E::q0U q1K 23 bb B::(D++(q3j bs H 256++X))
section
variable{W0:World}{own:Own}{cnt at1:Int}{cb eb sb bb n sc:Nat}{V:Nat->Value}{bs:Nat->Nat}{r:q0f}{T:TypeId}
theorem q2R{k:Nat}{K:jh->Prop} [m:qy cb (j8 (ckL cnt at1 eb sb bb n sc V r).toArray T (0,0)) own](b:3=k)(d:K (encRc r).toArray):LdN W0 own ⟨cb,261,none⟩ k K:=by
 subst b;refine q2m (encRc r) m.h ?_ rfl d;rw[zU];have e:ckL cnt at1 eb sb bb n sc V r=([j5 cnt,j5 at1, .slice (some ⟨eb,0,none⟩) n n, .slice (some ⟨sb,0,none⟩) n sc, .slice (some ⟨bb,0,none⟩) n n]++q3s 256 V)++encRc r:=by
  unfold ckL;rw[zd]
 have f:([j5 cnt,j5 at1, .slice (some ⟨eb,0,none⟩) n n, .slice (some ⟨sb,0,none⟩) n sc, .slice (some ⟨bb,0,none⟩) n n]++q3s 256 V:jf).length=261:=by
  rw[z8,qU];rfl
 rw[e,List.drop_left' f];rfl
theorem qqL{c:Int}{K:Own->Prop}{C:(Obj->Prop)->Own} [m:UpC cb (j8 (ckL cnt at1 eb sb bb n sc V r).toArray T (0,0)) own C](h:K (C fun o=>o=Obj.cells (ckL c at1 eb sb bb n sc V r).toArray T (0,0))):StT W0 own ⟨cb,0,none⟩ (j5 c) K:=
 qou (by show Nat.ble 1 (ckL cnt at1 eb sb bb n sc V r).length=true;rw[q7M];rfl) rfl h
theorem qqM{c:Int}{K:Own->Prop}{C:(Obj->Prop)->Own} [m:UpC cb (j8 (ckL cnt at1 eb sb bb n sc V r).toArray T (0,0)) own C](h:K (C fun o=>o=Obj.cells (ckL cnt c eb sb bb n sc V r).toArray T (0,0))):StT W0 own ⟨cb,1,none⟩ (j5 c) K:=
 qou (by show Nat.ble 2 (ckL cnt at1 eb sb bb n sc V r).length=true;rw[q7M];rfl) rfl h
theorem qlL{w q:Nat}(hw:w<64)(hq:q<4):Cl W0 [(cb,j8 (ckL cnt at1 eb sb bb n sc (q6U bs n) r).toArray T (0,0))] cb (5+w*4+q) (q6U bs n (4*w+q)):=by
 have e:5+w*4+q=5+(4*w+q):=Yu;rw[e];exact qk (zf.2 rfl) (qbm Yu)
theorem ldW{w q:Nat}{K:Value->Prop} [m:qy cb (j8 (ckL cnt at1 eb sb bb n sc (q6U bs n) r).toArray T (0,0)) own](hw:w<64)(d:Nat.blt q 4=true)(b:K (q6U bs n (4*w+q))):Ld W0 own ⟨cb,5+w*4+q,none⟩ K:=by
 have hq':q<4:=by simpa using d
 have e:5+w*4+q=5+(4*w+q):=Yu;rw[e];exact ldK (own':=own) (qk m.h (qbm Yu)) (m:=⟨fun _=>Ent.refl⟩) b
theorem qmw{L:ji}{w q:Nat}(hq:q<4):q1g L n (4*w+q)=q6X L n (qkz q) (w:Int):=by
 unfold q1g;have b:(4*w+q) % 4=q:=Yu;have d:(4*w+q)/4=w:=Yu;rw[b,d]
theorem q72{P:Program}{k j:FuncId}{args f:jf}{v0:Value}{O:Own}{K:Value->Own->Prop}(h:qq P W0 j f own fun v own'=>v=v0/\Ent W0 own' O)(s:k=j)(ea:args=f)(y:K v0 O):q0k P W0 own k args K:=
 qbh (σ:=Unit) (R:=fun _ v=>v=v0) (O:=fun _=>O) (fun w hw=>(h w hw).mono fun _ _ ⟨v,o,a,b,c,d⟩=>⟨v,o,a,b,(),c,d⟩) s ea (fun _ _ e=>by subst e;exact y)
theorem ql4{α:Type}{enc:α->jf}{sz:Nat}{l:List α}{T:TypeId}{b j o k:Nat}{C:Own->Own}{x:α}{vs:jf}{K:Own->Prop}(x':α)(hw:∀x∈l,(enc x).length=sz)(h:l[j]? =some x) [m:AtC [q0U enc T b l] own C](w:vs.length=k)(y:o=j*sz)(z:enc x'=vs)(f:vs.length=sz)(s:vs.all q2G=true)
  (v:K (C [q0U enc T b (l.set j x')])):vs.length=k/\StN W0 own ⟨b,o,none⟩ vs K:=
 qqJ (T:=T) (D:= [q0U enc T b l]) (a:=some ⟨b,0,none⟩) x' (q7K hw) h w (by simp[ao,y]) z f s (fun D' hb=>by
  have d:l.set j x'≠ []:=fun e=>by
   have:=congrArg List.length e;rw[zn] at this;have:=Zq this;subst this;simp at h
  have:=qkf d (by rw[zn];exact hb);subst this;exact v)
theorem qps{a b:q0f}:eqC [0,0,0] (encRc a) (encRc b)=some (decide (a=b)):=by
 obtain⟨a1,a2,a3⟩:=a;obtain⟨b1,b2,b3⟩:=b;simp[eqC,q1n,Prod.mk.injEq]
end
section
variable{W0:World}{r0:Own}{at1:Int}{cb eb sb bb n sc:Nat}{bs:Nat->Nat}{B S:List Sl}{D X:Own}
theorem q2C{l:je}:∀x∈l,(qv x).length=1:=fun _ _=>rfl
theorem q4M{l:List (Int×Int)}:∀x∈l,(q15 x).length=2:=fun _ _=>rfl
theorem qh5{L:ji}{e:EH}{w:Nat}{wr:Bool}{own:Own}{r:q0f}{c:j9}{cc:Nat}{b:je}{z:(Obj->Prop)->Own}(hw:w<64)(hn:n<=16)(j:b.length=n)
  [u:UpC cb (j8 (ckL L.length at1 eb sb bb n sc (q6U bs n) r).toArray 151 (0,0)) own z]
  [i1:qr own [ckN L.length at1 cb eb sb bb n sc bs r]] [i2:qr own (q3j bs (q1g L n) 256)] [i3:qr own X] (A:RdE qv 1 W0 X c b):
  jn W0 96 [jp cb,e.v,j5 w, .bool wr, .slice c n cc] own fun v own'=>v= .bool (decide (0<=qan L n e w wr b))/\Ent W0 own' (if 0<=qan L n e w wr b then z (j8 (ckL L.length at1 eb sb bb n sc (q6U bs n) (qan L n e w wr b,(L.length:Int),(w:Int))).toArray 151 (0,0)) else own):=by
 have d:∀q,q<4->RdE q15 2 W0 own (some ⟨bs (4*w+q),0,none⟩) (q6X L n (qkz q) w):=fun q y=>by
  have:=(qlp (W0:=W0) (bs:=bs) (H:=q1g L n) (i:=4*w+q) (k:=256) Yu).ent (i2.h W0)
  rwa[qmw y] at this
 have f:∀q,q<4->Cl W0 own cb (5+w*4+q) (q6U bs n (4*w+q)):=fun q y=>(qlL hw y).ent (i1.h W0)
 have h:∀Q,(q6X L n Q w).length=n:=fun Q=>qU
 have s:Cl W0 own cb 0 (j5 L.length):=Kn.ent (qk (zf.2 rfl) rfl) (i1.h W0);have:=qnT (e:=e) (wr:=wr) (cc:=cc) s hw (f 0 Yu) (f 1 Yu) (f 2 Yu) (f 3 Yu) (d 0 Yu) (d 1 Yu) (d 2 Yu) (d 3 Yu) (h _) (h _) (h _) (h _) Yu (A.ent (i3.h W0));rw[j] at this;exact this
theorem qgW{L:ji}{e:EH}{t w xc:Nat}{xa:j9}(hw:Wf (L++ [e]) n)(af:Wf L n)(M:e.k=1\/e.k=2)(ht:e.t=t)(P:t<n)(Q:e.w=w)(b:w<64)(hn:n<=16)(hL:L.length<=65536)
  (I:q0y W0 0 noneV) (R:RdE q1K 1 W0 D (some ⟨sb,0,none⟩) S) (W:S[t]? =some (xa,n,xc)) (aj:RdE qv 1 W0 X xa (q4A L n t)):
  jn W0 64 [jp cb,e.v] (ckO L.length at1 (frst L) (q01 L n) (q1g L n) cb eb sb bb n sc bs B D X++r0) fun v own'=>v= .tuple #[]/\Ent W0 own' (ckO L.length at1 (frst (L++ [e])) (q01 L n) (q1g (L++ [e]) n) cb eb sb bb n sc bs B D X++r0):=by
 refine sH (jq 6 3 (0::(jq 13 3 (30::0::(jq 14 3 (32::34::0::(jq 12 3 (28::0::(jq 12 3 [28,0]))))))))) ?_;have ae:=qdc hw af M;have G:(q01 L n)[t]? =some (q06 L t L.length:Int):=q0s P;have hEl:n=(q01 L n).length:=qU.symm;have Z:(q4A L n t).length=n:=qU;have hcn:=qag (l:=L) (t:=t) L.length;obtain⟨q,C⟩:∃q:Nat,q=if e.k=2 then 1 else 0:=⟨_,rfl⟩
 have hq2:q<2:=by rw[C];split <;>omega
 have K:q3j bs (q1g (L++ [e]) n) 256=q3j bs (fun j=>if j=4*w+q then(q1g L n (4*w+q)).set t ((L.length:Int),(q06 L t L.length:Int)+1) else q1g L n j) 256:=q0S fun j _=>⟨rfl,by rw[C];exact qd5 ht M Q⟩
 obtain⟨F,h,Y⟩:=q7E (bs:=bs) (H:=q1g L n) (i:=4*w+q) (k:=256) Yu;have z:(q1g L n (4*w+q))[t]? =some (fAc (q1g L n (4*w+q)) t):=by
  obtain⟨y,hy⟩:∃y,(q1g L n (4*w+q))[t]? =some y:=⟨_,z6 (by rw[q5e];exact P)⟩
  rw[hy,qeS hy]
 have s:∀j,n=(q1g L n j).length:=fun j=>q5e.symm
 have f:=Y ((q1g L n (4*w+q)).set t ((L.length:Int),(q06 L t L.length:Int)+1));rw[<-K] at f;have d:=fun(own':Own) (Cf:(Obj->Prop)->Own) (r:q0f) (i0:UpC cb (j8 (ckL L.length at1 eb sb bb n sc (q6U bs n) r).toArray 151 (0,0)) own' Cf) (i1:qr own' [ckN L.length at1 cb eb sb bb n sc bs r]) (i2:qr own' (q3j bs (q1g L n) 256)) (i3:qr own' X)=>qh5 (e:=e) (wr:=decide (e.k=2)) (cc:=xc) b hn Z aj (u:=i0) (i1:=i1) (i2:=i2) (i3:=i3)
 obtain⟨ev,tt,k,wd,ra,rl,rc,wa,wl,wc⟩:=e;dsimp only[EH.v] at*;subst ht Q;generalize frst (L++ [_])=rN at*;generalize qan L n _ _ _ _=p at*;generalize frst L=r at*;subst ae;have hLn:((L.length:Nat):Int)<65537:=Yu
 by_cases E:r=nnR
 ·subst E;rw[if_pos rfl]
  by_cases U:0<=p
  ·simp only[if_pos U,decide_eq_true U] at d ⊢
   rcases M with rfl|rfl
   ·obtain rfl:q=0:=C
    haveI:AtC _ _ F:=⟨h⟩
    repeat'((try conv=>whnf);first|refine fE ?_|refine fD ?_|refine q2R ?_ ?_;exact rfl|refine q0D I _ rfl rfl ?_|refine q5G (by simp[eqC,q1n]) ?_|refine ldW b ?_ ?_;exact rfl|refine ixC z (s _) ?_ ?_;exact rfl|refine ql4 (T:=218) (x:=fAc _ t) ((L.length:Int),(q06 L t L.length:Int)+1) q4M z ?_ ?_ ?_ ?_ ?_ ?_;exact rfl;exact rfl;exact rfl;exact rfl;exact rfl|(apply gLd;first|refine qri R W rfl ?_|refine qd9 q2C G rfl ?_)|(apply qe;first|refine q72 (d _ _ _ Yx Yx Yx Yx) ?_ ?_ ?_;exact rfl;exact rfl)|refine fB ?_|apply ixj;omega|refine fA ?_|refine fL ?_|refine fM ?_|refine qf fun J A=>?_)
    exact⟨rfl,by rw[f];exact Ent.drop.trans Ent.drop⟩
   ·obtain rfl:q=1:=C
    haveI:AtC _ _ F:=⟨h⟩
    repeat'((try conv=>whnf);first|refine fE ?_|refine q2R ?_ ?_;exact rfl|refine q0D I _ rfl rfl ?_|refine q5G (by simp[eqC,q1n]) ?_|refine ldW b ?_ ?_;exact rfl|refine ixC z (s _) ?_ ?_;exact rfl|refine ql4 (T:=218) (x:=fAc _ t) ((L.length:Int),(q06 L t L.length:Int)+1) q4M z ?_ ?_ ?_ ?_ ?_ ?_;exact rfl;exact rfl;exact rfl;exact rfl;exact rfl|(apply gLd;first|refine qri R W rfl ?_|refine qd9 q2C G rfl ?_)|(apply qe;first|refine q72 (d _ _ _ Yx Yx Yx Yx) ?_ ?_ ?_;exact rfl;exact rfl)|refine fB ?_|apply ixj;omega|refine fA ?_|refine fL ?_|refine fM ?_|refine qf fun J A=>?_)
    exact⟨rfl,by rw[f];exact Ent.drop.trans Ent.drop⟩
  ·simp only[if_neg U,decide_eq_false U] at d ⊢
   rcases M with rfl|rfl
   ·obtain rfl:q=0:=C
    haveI:AtC _ _ F:=⟨h⟩
    repeat'((try conv=>whnf);first|refine fE ?_|refine fD ?_|refine q2R ?_ ?_;exact rfl|refine q0D I _ rfl rfl ?_|refine q5G (by simp[eqC,q1n]) ?_|refine ldW b ?_ ?_;exact rfl|refine ixC z (s _) ?_ ?_;exact rfl|refine ql4 (T:=218) (x:=fAc _ t) ((L.length:Int),(q06 L t L.length:Int)+1) q4M z ?_ ?_ ?_ ?_ ?_ ?_;exact rfl;exact rfl;exact rfl;exact rfl;exact rfl|(apply gLd;first|refine qri R W rfl ?_|refine qd9 q2C G rfl ?_)|(apply qe;first|refine q72 (d _ _ _ Yx Yx Yx Yx) ?_ ?_ ?_;exact rfl;exact rfl)|refine fB ?_|apply ixj;omega|refine fA ?_|refine fL ?_|refine fM ?_|refine qf fun J A=>?_)
    exact⟨rfl,by rw[f];exact Ent.drop.trans Ent.drop⟩
   ·obtain rfl:q=1:=C
    haveI:AtC _ _ F:=⟨h⟩
    repeat'((try conv=>whnf);first|refine fE ?_|refine q2R ?_ ?_;exact rfl|refine q0D I _ rfl rfl ?_|refine q5G (by simp[eqC,q1n]) ?_|refine ldW b ?_ ?_;exact rfl|refine ixC z (s _) ?_ ?_;exact rfl|refine ql4 (T:=218) (x:=fAc _ t) ((L.length:Int),(q06 L t L.length:Int)+1) q4M z ?_ ?_ ?_ ?_ ?_ ?_;exact rfl;exact rfl;exact rfl;exact rfl;exact rfl|(apply gLd;first|refine qri R W rfl ?_|refine qd9 q2C G rfl ?_)|(apply qe;first|refine q72 (d _ _ _ Yx Yx Yx Yx) ?_ ?_ ?_;exact rfl;exact rfl)|refine fB ?_|apply ixj;omega|refine fA ?_|refine fL ?_|refine fM ?_|refine qf fun J A=>?_)
    exact⟨rfl,by rw[f];exact Ent.drop.trans Ent.drop⟩
 ·rw[if_neg E];have N:eqC [0,0,0] (encRc r) (encRc nnR)=some false:=by rw[qps,decide_eq_false E]
  rcases M with rfl|rfl
  ·obtain rfl:q=0:=C
   haveI:AtC _ _ F:=⟨h⟩
   repeat'((try conv=>whnf);first|refine fD ?_|refine q2R ?_ ?_;exact rfl|refine q0D I _ rfl rfl ?_|refine qmf N ?_|refine ldW b ?_ ?_;exact rfl|refine ixC z (s _) ?_ ?_;exact rfl|refine ql4 (T:=218) (x:=fAc _ t) ((L.length:Int),(q06 L t L.length:Int)+1) q4M z ?_ ?_ ?_ ?_ ?_ ?_;exact rfl;exact rfl;exact rfl;exact rfl;exact rfl|apply gLd;refine qd9 q2C G rfl ?_|refine fB ?_|apply ixj;omega|refine fA ?_|refine fL ?_|refine fM ?_|refine qf fun J A=>?_)
   exact⟨rfl,by rw[f];exact Ent.drop.trans Ent.drop⟩
  ·obtain rfl:q=1:=C
   haveI:AtC _ _ F:=⟨h⟩
   repeat'((try conv=>whnf);first|refine fE ?_|refine fD ?_|refine q2R ?_ ?_;exact rfl|refine q0D I _ rfl rfl ?_|refine qmf N ?_|refine ldW b ?_ ?_;exact rfl|refine ixC z (s _) ?_ ?_;exact rfl|refine ql4 (T:=218) (x:=fAc _ t) ((L.length:Int),(q06 L t L.length:Int)+1) q4M z ?_ ?_ ?_ ?_ ?_ ?_;exact rfl;exact rfl;exact rfl;exact rfl;exact rfl|apply gLd;refine qd9 q2C G rfl ?_|refine fB ?_|apply ixj;omega|refine fA ?_|refine fL ?_|refine fM ?_|refine qf fun J A=>?_)
   exact⟨rfl,by rw[f];exact Ent.drop.trans Ent.drop⟩
end
structure CkB where
 cb:Nat
 eb:Nat
 sb:Nat
 sc:Nat
 bb:Nat
 bs:Nat->Nat
 S:List Sl
 B:List Sl
 D:Own
 X:Own
noncomputable abbrev CkB.O(s:CkB)(L:ji)(n:Nat):Own:=ckO L.length (q3m L L.length) (frst L) (q01 L n) (q1g L n) s.cb s.eb s.sb s.bb n s.sc s.bs s.B s.D s.X
structure CkM(W0:World)(n:Nat)(L:ji)(s:CkB):Prop where
 wf:WF0 L n
 sB:qo q1K 23 1 (some ⟨s.sb,0,none⟩) s.sc s.S s.D
 sl:s.S.length=n
 bl:s.B.length=n
 sr:∀u,u<n->∃a c,s.S[u]? =some (a,n,c)/\RdE qv 1 W0 s.X a (q4A L n u)
 b3:∀u:Nat,u<n->lkL L u L.length=3->∃a c,s.B[u]? =some (some a,n,c)/\RdE qv 1 W0 s.X (some a) (qcS L n u)
 b0:∀u:Nat,u<n->lkL L u L.length≠3->s.B[u]? =some (none,0,0)
section
variable{W0:World}{own:Own}
theorem qco{a:j9}{l:je}{cap:Nat}(h:RdE qv 1 W0 own a l)(d:l≠ [])(hl:l.length<=65536):
  jn W0 42 [.slice a l.length cap] own fun v own'=>∃s:j9×Nat×Own,(v= .slice s.1 l.length s.2.1/\qo qv 3 1 s.1 s.2.1 l s.2.2)/\Ent W0 own' (s.2.2++own):=by
 refine sH [] ?_;have f:=h.isS d;generalize ab a=b0 at f;generalize ao a=o0 at f;subst f
 repeat'((try conv=>whnf);first|refine fD ?_|refine q5v (enc:=qv) (l:= []) (l2:=l) qo.nil (At.head (D:= []) (r:=_)) h.up rfl rfl Yu (fun _ _=>rfl) (fun _=>by simp;omega) fun a1 c1 D1 b=>?_;rw[zE,zA l.length];apply Stop.h|refine qf fun bk hbk=>?_)
 refine Stop.mk ?_;rw[zk] at b;exact⟨(a1,c1,D1),⟨rfl,b⟩,Ent.of_sub (((List.Sublist.refl own).cons _).append_left D1)⟩
end
def hsS(q:Nat)(l:je)(t:Nat)(x:Int×Int)(H:Nat->List (Int×Int))(j:Nat):List (Int×Int):=if j % 4=q/\l.contains ((j/4:Nat):Int)=true then(H j).set t x else H j
theorem qao{q t n j:Nat}{l:je}{x:Int×Int}{H:Nat->List (Int×Int)}(h:∀j,(H j).length=n):(hsS q l t x H j).length=n:=by
 unfold hsS
 split
 ·rw[zn,h]
 ·exact h j
theorem qbJ{bs:Nat->Nat}{q t w:Nat}{l:je}{x:Int×Int}{H:Nat->List (Int×Int)}(hq:q<4):
  q3j bs (fun j=>if j=4*w+q then(hsS q l t x H (4*w+q)).set t x else hsS q l t x H j) 256=q3j bs (hsS q (l++ [(w:Int)]) t x H) 256:=q0S fun j _=>⟨rfl,by
  by_cases b:j=4*w+q
  ·rw[if_pos b];subst b;have f:(4*w+q) % 4=q:=Yu;have o:(4*w+q)/4=w:=Yu;unfold hsS;rw[f,o,if_pos (c:=q=q/\(l++ [(w:Int)]).contains (w:Int)=true) ⟨rfl,Yw⟩]
   split
   ·rw[yc]
   ·rfl
  ·rw[if_neg b];unfold hsS;have e:(j % 4=q/\l.contains ((j/4:Nat):Int)=true)↔(j % 4=q/\(l++ [(w:Int)]).contains ((j/4:Nat):Int)=true):=by
    simp only[Zw,zy,zf];constructor
    ·exact fun h=>⟨h.1, .inl h.2⟩
    ·rintro⟨s,d|d⟩
     ·exact⟨s,d⟩
     ·omega
   simp only[e]⟩
theorem qfb{q t:Nat}{x:Int×Int}{H:Nat->List (Int×Int)}:hsS q [] t x H=H:=by
 funext j
 unfold hsS;rw[if_neg Yw]
theorem qmA{bs:Nat->Nat}{L:ji}{e:EH}{n t:Nat}(v:e.t=t)(f:e.k=4):
  q3j bs (hsS 3 e.wl t ((L.length:Int),(q06 L t L.length:Int)+1) (hsS 2 e.rl t ((L.length:Int),(q06 L t L.length:Int)+1) (q1g L n))) 256=q3j bs (q1g (L++ [e]) n) 256:=q0S fun j _=>⟨rfl,by
  rw[qbH v];unfold hsS qmx;simp only[f]
  by_cases b:j % 4=2
  ·simp[b]
  ·by_cases d:j % 4=3
   ·simp[d]
   ·have o:¬(j % 4=3/\e.wl.contains ((j/4:Nat):Int)=true):=fun h=>d h.1
    have s:¬(j % 4=2/\e.rl.contains ((j/4:Nat):Int)=true):=fun h=>b h.1
    rw[if_neg o,if_neg s];have:j % 4=0\/j % 4=1:=Yu
    rcases this with h|h <;>simp[h]⟩
theorem qpb{W0:World}{D1 X r0 A D:Own}{b d f j:jd}:Ent W0 (D1++(b::((d::f::j::(D++(A++X)))++r0))) (b::((d::f::j::(D++(A++(D1++X))))++r0)):=by
 refine Ent.of_perm ?_;have h:(D1++(b::d::f::j::(D++(A++(X++r0))))).Perm (b::d::f::j::(D++(A++(D1++(X++r0))))):=by
  have o:∀(P Q:Own),(D1++(P++Q)).Perm (P++(D1++Q)):=fun P Q=>by
   rw[<-zd,<-zd];exact Zh.append_right Q
  have s:=o [b,d,f,j] (D++(A++(X++r0)));refine s.trans (List.Perm.append_left [b,d,f,j] ((o D _).trans (List.Perm.append_left D (o A _))))
 simpa using h
section
variable{W0:World}{r0:Own}{at1:Int}{cb eb sb bb n sc:Nat}{bs:Nat->Nat}{B S:List Sl}{D X:Own}
theorem q7m{l:List Sl}:∀x∈l,(q1K x).length=1:=fun _ _=>rfl
theorem qnS{L:ji}{e:EH}{t bc:Nat}{ba:Addr}(hw:Wf (L++ [e]) n)(aN:Wf L n)(h4:e.k=4)(ht:e.t=t)(br:t<n)(hn:n<=16)(hL:L.length<=65536)(hE:EvR W0 r0 e)
  (hN:q0y W0 0 noneV) (hS:qo q1K 23 1 (some ⟨sb,0,none⟩) sc S D) (hSl:n=S.length) (aP:n=B.length) (hb:B[t]? =some (some ba,n,bc)) (aQ:RdE qv 1 W0 X (some ba) (qcS L n t)):
  jn W0 63 [jp cb,e.v] (ckO L.length at1 (frst L) (q01 L n) (q1g L n) cb eb sb bb n sc bs B D X++r0) fun v own'=>∃s:j9×Nat×Own×Own,(v= .tuple #[]/\qo qv 3 1 s.1 s.2.1 (q01 (L++ [e]) n) s.2.2.1/\qo q1K 23 1 (some ⟨sb,0,none⟩) sc (S.set t (s.1,n,s.2.1)) s.2.2.2)/\
   Ent W0 own' (ckO L.length at1 (frst (L++ [e])) (q01 (L++ [e]) n) (q1g (L++ [e]) n) cb eb sb bb n sc bs B s.2.2.2 (s.2.2.1++X)++r0):=by
 refine sC [120,375] (jq 22 3 (48::49::0::(jq 10 3 (24::0::3::5::7::11::15::17::19::21::1::9::1::13::24::25::28::0::24::13::25::28::0::1::13::1::9::24::25::28::0::24::9::25::28::0::24::9::13::25::28::0::(jq 13 3 (30::32::0::(jq 11 3 (26::0::(jq 11 3 [26,0]))))))))) ?_;have Z:(q01 L n)[t]? =some (q06 L t L.length:Int):=q0s br;have aV:n=(q01 L n).length:=qU.symm;have aR:(qcS L n t).length=n:=qU;have hcn:=qag (l:=L) (t:=t) L.length;have ax:q7z e=cmp (srt (e.rl++e.wl)):=by unfold q7z;rw[if_neg Yu]
 have aw:∀x∈q7z e,0<=x/\x<64:=by
  have:=q8z (y:=L.length) hw Yw
  rwa[q1m] at this
 have hlen:=(q2a e).2.2;have hrb:=hE.rb;have hwb:=hE.wb;have ay:=fun(own':Own) (Cf:(Obj->Prop)->Own) (r:q0f) (w:Nat) (A:w<64) (i0:UpC cb (j8 (ckL L.length at1 eb sb bb n sc (q6U bs n) r).toArray 151 (0,0)) own' Cf) (i1:qr own' [ckN L.length at1 cb eb sb bb n sc bs r]) (i2:qr own' (q3j bs (q1g L n) 256)) (i3:qr own' X)=>qh5 (e:=e) (wr:=e.wl.contains (w:Int)) (cc:=bc) A hn aR aQ (u:=i0) (i1:=i1) (i2:=i2) (i3:=i3)
 have aH:=fun(w:Int) (hm:w∈q7z e)=>qi6 hw h4 hm
 have Q:=fun(own':Own) [qr own' r0] (w:Int)=>q3E (W0:=W0) (own:=own') (cap:=e.wc) hE.w.up hE.wn w
 have R:=fun h0 h=>qal (l:=L) (e:=e) hw aN h0 h
 have au:=fun h0 i w r h1 h2 h3=>qkv (l:=L) (e:=e) (i:=i) (w:=w) (r:=r) hw aN h0 Yu h1 h2 h3
 have G:(q01 L n).set t ((q06 L t L.length:Int)+1)=q01 (L++ [e]) n:=qeG ht h4;have aq:=qmA (bs:=bs) (L:=L) (n:=n) ht h4;have ae:=hE.r;have aB:=hE.w;have bm:∀(own':Own) [qr own' r0],EvR W0 own' e:=fun own' _=>hE.up
 have aI:e.rl.all inW=true/\e.wl.all inW=true:=by
  have:=hw.kd L.length Yw;rw[q1m] at this;exact this.2.2.2.2.2
 clear hE;obtain⟨ev,tt,k,wd,ra,rl,rc,wa,wl,wc⟩:=e;dsimp only[EH.v] at*;subst ht h4;generalize bh:frst (L++ [_])=rN at*
 repeat'((try conv=>whnf);first|refine qf fun b3 hb3=>?_;apply Stop.h)
 refine Stop.mk ?_
 repeat'((try conv=>whnf);first|(apply qe;first|refine qi (qgf (bq:=bk) (ae.up) (aB.up) Yu) fun s v hv=>?_;obtain⟨a0,c0,D0⟩:=s;obtain⟨rfl,Y⟩:=hv;dsimp only at Y;apply Stop.h)|refine fA ?_|refine qf fun bk hbk=>?_)
 refine Stop.mk ?_;have hll:(rl++wl).length=rl.length+wl.length:=z8;have aJ:=fun own' (C:Own->Own) (aE:At D0 own' C)=>qaR (W0:=W0) Y aE Yu
 repeat'((try conv=>whnf);first|(apply qe;first|refine qi (aJ _ _ At.head) fun s v hv=>?_;obtain⟨rfl,z⟩:=hv;apply Stop.h))
 refine Stop.mk ?_;have bo:=q1v (rl++wl);have P:=fun own' (C:Own->Own) (aE:At s own' C)=>q4B (W0:=W0) z aE Yu (q29 (rl++wl))
 rw[bo] at P;rw[<-ax] at P;refine q3S (σ:=Unit) 4503599626321984 (fun _=> []) (fun _=>(b3,j8 #[j5 ev,j5 t,j5 4,j5 wd, .slice ra rl.length rc, .slice wa wl.length wc] 100)::(ckO L.length at1 rN (q01 L n) (q1g L n) cb eb sb bb n sc bs B D X++r0)) (fun _=>True) rfl ?_ fun _ E _=>?_
 ·clear G aq bm aI ae Z;generalize hT:q7z _=T at*
  repeat'((try conv=>whnf);first|(apply qe;first|refine qi (P _ _ At.head) fun s2 v hv=>?_;obtain⟨rfl,F⟩:=hv;apply Stop.h))
  refine Stop.mk ?_;have K:RdE qv 1 W0 s2 a0 T:=F.rd;clear P aJ F z Y
  rcases q82 (l:=L) with ⟨h1,h2⟩|⟨h1,h2⟩
  ·rw[h1];refine q1o (σ:=Nat) (fun i=> [(23,j5 i)]) (fun i=>i<=T.length/\∀j w',j<i->T[j]? =some w'->rcL (L++ [(⟨ev,(t:Int),4,wd,ra,rl,rc,wa,wl,wc⟩:EH)]) L.length w' L.length= []) (fun i=>T.length-i) 0 ⟨Yu,fun j w' hj=>by omega⟩ (eF) rfl ?_;rintro i E ⟨hi,U⟩
   by_cases I:i<T.length
   ·obtain⟨x,f⟩:∃x,T[i]? =some x:=⟨_,z6 I⟩
    have aO:=zg f;have aU:=aw x aO;have d:(i:Int)<T.length:=Yu;obtain⟨w,rfl⟩:∃w:Nat,x=w:=⟨x.toNat,Yu⟩
    have aX:=(aH w aO).1;have aY:=(aH w aO).2;have af:=fun(own':Own) (Cf:(Obj->Prop)->Own)=>ay own' Cf nnR w Yu
    have hh:=fun r=>au h2 i w r f U
    generalize qan L n _ _ _ _=p at*;have aS:=fun(own':Own) [qr own' r0]=>Q own' (w:Int)
    generalize wl.contains (w:Int)=zc at*
    by_cases hp:0<=p
    ·simp only[if_pos hp,decide_eq_true hp] at af;have W:=hh _ (aY hp);subst W
     repeat'((try conv=>whnf);first|refine fH ?_|refine fE ?_|refine fF ?_|refine q2R ?_ ?_;exact rfl|refine q0D hN _ rfl rfl ?_|refine q5G (by simp[eqC,q1n]) ?_|(apply gLd;first|refine q0l K f rfl ?_|refine qd9 q7m hb rfl ?_)|(apply qF;first|refine ixE K f ?_ ?_;(first|rfl|omega)|refine ixC hb aP ?_ ?_;(first|rfl|omega))|(apply qe;first|refine q72 (af _ _ Yx Yx Yx Yx) ?_ ?_ ?_;exact rfl;exact rfl)|apply qC;refine qj (fun ex=>aS (ex++_)) ?_|refine fA ?_|refine fL ?_)
     exact⟨(),trivial,trivial,Ent.app (Ent.cons Ent.refl)⟩
    ·simp only[if_neg hp,decide_eq_false hp] at af;have aZ:=aX Yu
     repeat'((try conv=>whnf);first|refine fH ?_|refine fD ?_|refine fF ?_|refine q2R ?_ ?_;exact rfl|refine q0D hN _ rfl rfl ?_|refine q5G (by simp[eqC,q1n]) ?_|(apply gLd;first|refine q0l K f rfl ?_|refine qd9 q7m hb rfl ?_)|(apply qF;first|refine ixE K f ?_ ?_;(first|rfl|omega)|refine ixC hb aP ?_ ?_;(first|rfl|omega))|(apply qe;first|refine q72 (af _ _ Yx Yx Yx Yx) ?_ ?_ ?_;exact rfl;exact rfl)|apply qC;refine qj (fun ex=>aS (ex++_)) ?_|refine fB ?_|refine fA ?_|refine fL ?_)
     refine⟨i+1,⟨Yu,fun j w' hj aM=>?_⟩,Yu,(eF),(eC)⟩
     by_cases aW:j=i
     ·subst aW;rw[f] at aM;rw[<-Option.some.inj aM];exact aZ
     ·exact U j w' Yu aM
   ·have d:¬(i:Int)<T.length:=Yu;have W:=R h2 (fun _ w bu=>by
     obtain⟨j,hj⟩:=Zn bu;exact U j w (by have:=(z7.1 hj).1;omega) hj)
    subst W
    repeat'((try conv=>whnf);first|refine fG ?_)
    exact⟨(),trivial,trivial,Ent.app (Ent.cons Ent.refl)⟩
  ·have aF:=q83 (e:=(⟨ev,(t:Int),4,wd,ra,rl,rc,wa,wl,wc⟩:EH)) aN h2;rw[bh] at aF;have aT:eqC [0,0,0] (encRc (frst L)) (encRc nnR)=some false:=by rw[qps,decide_eq_false h1]
   rw[<-aF] at aT ⊢;clear aF;refine q1o (σ:=Nat) (fun i=> [(23,j5 i)]) (fun i=>i<=T.length) (fun i=>T.length-i) 0 Yu (eF) rfl ?_;intro i E hi
   by_cases I:i<T.length
   ·obtain⟨x,f⟩:∃x,T[i]? =some x:=⟨_,z6 I⟩
    have d:(i:Int)<T.length:=Yu
    repeat'((try conv=>whnf);first|refine fI ?_|refine fD ?_|refine fF ?_|refine q2R ?_ ?_;exact rfl|refine q0D hN _ rfl rfl ?_|refine qmf aT ?_|apply gLd;refine q0l K f rfl ?_|(apply qF;first|refine ixE K f ?_ ?_;(first|rfl|omega))|refine fB ?_)
    exact⟨i+1,Yu,Yu,(eF),(eC)⟩
   ·have d:¬(i:Int)<T.length:=Yu
    repeat'((try conv=>whnf);first|refine fG ?_)
    exact⟨(),trivial,trivial,Ent.app (Ent.cons Ent.refl)⟩
 ·clear aH ay R au Q aJ P Y z aw hlen ax
  repeat'((try conv=>whnf);first|refine stC (T:=3) (k:=0) ((q06 L t L.length:Int)+1) q2C Z ?_ ?_ ?_ ?_ ?_;exact rfl;omega;exact rfl;exact rfl;apply Stop.h|apply gLd;refine qd9 q2C Z rfl ?_|(apply qF;first|refine ixC Z aV ?_ ?_;(first|rfl|omega))|refine fB ?_|refine fA ?_)
  refine Stop.mk ?_;rw[G];have aj:n=(q01 (L++ [(⟨ev,(t:Int),4,wd,ra,rl,rc,wa,wl,wc⟩:EH)]) n).length:=qU.symm;have J:(q01 (L++ [(⟨ev,(t:Int),4,wd,ra,rl,rc,wa,wl,wc⟩:EH)]) n)[t]? =some ((q06 L t L.length:Int)+1):=by rw[<-G,zx,if_pos rfl,if_pos Yu]
  have N:=fun(own':Own) [qr own' [q0U qv 3 eb (q01 (L++ [(⟨ev,(t:Int),4,wd,ra,rl,rc,wa,wl,wc⟩:EH)]) n)]]=>qco (W0:=W0) (own:=own') (cap:=n) (l:=q01 (L++ [(⟨ev,(t:Int),4,wd,ra,rl,rc,wa,wl,wc⟩:EH)]) n) (RdE.up (q8P (T:=3) (b:=eb) q2C)) (fun h=>by rw[h] at J;simp at J) Yu
  rw[<-aj] at N;obtain⟨y,hy⟩:∃y,S[t]? =some y:=⟨_,z6 Yu⟩
  refine q3S (σ:=j9×Nat×Own×Own) 18884854245460153466880 (fun _=> []) (fun s=>(b3,j8 #[j5 ev,j5 t,j5 4,j5 wd, .slice ra rl.length rc, .slice wa wl.length wc] 100)::(ckO L.length at1 rN (q01 (L++ [(⟨ev,(t:Int),4,wd,ra,rl,rc,wa,wl,wc⟩:EH)]) n) (q1g L n) cb eb sb bb n sc bs B s.2.2.2 (s.2.2.1++X)++r0))
   (fun s=>qo qv 3 1 s.1 s.2.1 (q01 (L++ [(⟨ev,(t:Int),4,wd,ra,rl,rc,wa,wl,wc⟩:EH)]) n) s.2.2.1/\qo q1K 23 1 (some ⟨sb,0,none⟩) sc (S.set t (s.1,n,s.2.1)) s.2.2.2) rfl ?_ fun s E hs=>?_
  ·repeat'((try conv=>whnf);first|refine q4b (enc:=q1K) (j:=t) (k:=0) (a1,n,c1) hS hy ?_ ?_ ?_ ?_ ?_;exact rfl;omega;exact rfl;exact rfl;intro D2 F|(apply qe;first|refine qi (N _) fun s v hv=>?_;obtain⟨a1,c1,D1⟩:=s;obtain⟨rfl,z⟩:=hv;dsimp only at z)|refine q94 ?_ ?_;omega|refine fA ?_|refine q1a.mk ?_ ?_)
   all_goals exact⟨(a1,c1,D1,D2),⟨z,F⟩,trivial,qpb⟩
  ·obtain⟨a1,c1,D1,D2⟩:=s;obtain⟨z,F⟩:=hs;dsimp only at z F ⊢;clear N hS hy hb aQ aR
   repeat'((try conv=>whnf);first|refine qf fun b7 hb7=>?_|apply gLd;refine qd9 q2C J rfl ?_|(apply qF;first|refine ixC J aj ?_ ?_;(first|rfl|omega))|refine fA ?_|refine fM ?_)
   have bw:hsS 2 (rl.take 0) t ((L.length:Int),(q06 L t L.length:Int)+1) (q1g L n)=q1g L n:=qfb;refine qK (σ:=Nat) (fun i=> [(90,j5 i)]) (fun i=>(b7,j8 #[j5 L.length,j5 ((q06 L t L.length:Int)+1)] 218)::(b3,j8 #[j5 ev,j5 t,j5 4,j5 wd, .slice ra rl.length rc, .slice wa wl.length wc] 100)::(ckO L.length at1 rN (q01 (L++ [(⟨ev,(t:Int),4,wd,ra,rl,rc,wa,wl,wc⟩:EH)]) n) (hsS 2 (rl.take i) t ((L.length:Int),(q06 L t L.length:Int)+1) (q1g L n)) cb eb sb bb n sc bs B D2 (D1++X)++r0)) (fun i=>i<=rl.length) (fun i=>rl.length-i) 0 Yu (eF) (by rw[bw];exact Ent.refl) rfl ?_;intro i E hi
   by_cases I:i<rl.length
   ·obtain⟨x,f⟩:∃x,rl[i]? =some x:=⟨_,z6 I⟩
    have aU:0<=x/\x<64:=of_decide_eq_true (zX.1 aI.1 x (zg f));have d:(i:Int)<rl.length:=Yu;obtain⟨w,rfl⟩:∃w:Nat,x=w:=⟨x.toNat,Yu⟩
    obtain⟨C0,az,aA⟩:=q7E (bs:=bs) (H:=hsS 2 (rl.take i) t ((L.length:Int),(q06 L t L.length:Int)+1) (q1g L n)) (i:=4*w+2) (k:=256) Yu;have M:=(aA ((hsS 2 (rl.take i) t ((L.length:Int),(q06 L t L.length:Int)+1) (q1g L n) (4*w+2)).set t ((L.length:Int),(q06 L t L.length:Int)+1))).trans (qbJ Yu);have aK:rl.take i++ [(w:Int)]=rl.take (i+1):=by rw[zZ,f];rfl
    rw[aK] at M;have aC:n=(hsS 2 (rl.take i) t ((L.length:Int),(q06 L t L.length:Int)+1) (q1g L n) (4*w+2)).length:=(qao (fun _=>q5e)).symm;obtain⟨y,hH⟩:∃y,(hsS 2 (rl.take i) t ((L.length:Int),(q06 L t L.length:Int)+1) (q1g L n) (4*w+2))[t]? =some y:=⟨_,z6 Yu⟩
    haveI:AtC _ _ C0:=⟨az⟩
    have A:w<64:=Yu
    repeat'((try conv=>whnf);first|refine fF ?_|refine ldW A ?_ ?_;exact rfl|refine ixC hH aC ?_ ?_;exact rfl|refine ql4 (T:=218) (x:=y) ((L.length:Int),(q06 L t L.length:Int)+1) q4M hH ?_ ?_ ?_ ?_ ?_ ?_;exact rfl;exact rfl;exact rfl;exact rfl;exact rfl|apply gLd;refine q0l ae f rfl ?_|(apply qF;first|refine ixE ae f ?_ ?_;(first|rfl|omega))|refine fB ?_|apply ixj;omega|refine fA ?_|refine fL ?_)
    exact⟨i+1,Yu,Yu,(eF),by rw[M];exact Ent.refl⟩
   ·have d:¬(i:Int)<rl.length:=Yu;have aG:i=rl.length:=Yu;subst aG;have aL:rl.take rl.length=rl:=Z4;rw[aL]
    repeat'((try conv=>whnf);first|refine fG ?_|refine fA ?_)
    have bz:hsS 3 (wl.take 0) t ((L.length:Int),(q06 L t L.length:Int)+1) (hsS 2 rl t ((L.length:Int),(q06 L t L.length:Int)+1) (q1g L n))=hsS 2 rl t ((L.length:Int),(q06 L t L.length:Int)+1) (q1g L n):=qfb;refine qK (σ:=Nat) (fun i=> [(109,j5 i)]) (fun i=>(b7,j8 #[j5 L.length,j5 ((q06 L t L.length:Int)+1)] 218)::(b3,j8 #[j5 ev,j5 t,j5 4,j5 wd, .slice ra rl.length rc, .slice wa wl.length wc] 100)::(ckO L.length at1 rN (q01 (L++ [(⟨ev,(t:Int),4,wd,ra,rl,rc,wa,wl,wc⟩:EH)]) n) (hsS 3 (wl.take i) t ((L.length:Int),(q06 L t L.length:Int)+1) (hsS 2 rl t ((L.length:Int),(q06 L t L.length:Int)+1) (q1g L n))) cb eb sb bb n sc bs B D2 (D1++X)++r0)) (fun i=>i<=wl.length) (fun i=>wl.length-i) 0 Yu (eF) (by rw[bz];exact Ent.refl) rfl ?_;intro i E hi
    by_cases I:i<wl.length
    ·obtain⟨x,f⟩:∃x,wl[i]? =some x:=⟨_,z6 I⟩
     have aU:0<=x/\x<64:=of_decide_eq_true (zX.1 aI.2 x (zg f));have d:(i:Int)<wl.length:=Yu;obtain⟨w,rfl⟩:∃w:Nat,x=w:=⟨x.toNat,Yu⟩
     obtain⟨C0,az,aA⟩:=q7E (bs:=bs) (H:=hsS 3 (wl.take i) t ((L.length:Int),(q06 L t L.length:Int)+1) (hsS 2 rl t ((L.length:Int),(q06 L t L.length:Int)+1) (q1g L n))) (i:=4*w+3) (k:=256) Yu;have M:=(aA ((hsS 3 (wl.take i) t ((L.length:Int),(q06 L t L.length:Int)+1) (hsS 2 rl t ((L.length:Int),(q06 L t L.length:Int)+1) (q1g L n)) (4*w+3)).set t ((L.length:Int),(q06 L t L.length:Int)+1))).trans (qbJ Yu);have aK:wl.take i++ [(w:Int)]=wl.take (i+1):=by rw[zZ,f];rfl
     rw[aK] at M;have aC:n=(hsS 3 (wl.take i) t ((L.length:Int),(q06 L t L.length:Int)+1) (hsS 2 rl t ((L.length:Int),(q06 L t L.length:Int)+1) (q1g L n)) (4*w+3)).length:=(qao (fun _=>qao (fun _=>q5e))).symm;obtain⟨y,hH⟩:∃y,(hsS 3 (wl.take i) t ((L.length:Int),(q06 L t L.length:Int)+1) (hsS 2 rl t ((L.length:Int),(q06 L t L.length:Int)+1) (q1g L n)) (4*w+3))[t]? =some y:=⟨_,z6 Yu⟩
     haveI:AtC _ _ C0:=⟨az⟩
     have A:w<64:=Yu
     repeat'((try conv=>whnf);first|refine fF ?_|refine ldW A ?_ ?_;exact rfl|refine ixC hH aC ?_ ?_;exact rfl|refine ql4 (T:=218) (x:=y) ((L.length:Int),(q06 L t L.length:Int)+1) q4M hH ?_ ?_ ?_ ?_ ?_ ?_;exact rfl;exact rfl;exact rfl;exact rfl;exact rfl|apply gLd;refine q0l aB f rfl ?_|(apply qF;first|refine ixE aB f ?_ ?_;(first|rfl|omega))|refine fB ?_|apply ixj;omega|refine fA ?_|refine fL ?_)
     exact⟨i+1,Yu,Yu,(eF),by rw[M];exact Ent.refl⟩
    ·have d:¬(i:Int)<wl.length:=Yu;have aG:i=wl.length:=Yu;subst aG;have aL:wl.take wl.length=wl:=Z4;rw[aL]
     repeat'((try conv=>whnf);first|refine fG ?_)
     exact⟨(a1,c1,D1,D2),⟨rfl,z,F⟩,by unfold ckO;rw[aq];exact Ent.drop.trans Ent.drop⟩
end
theorem q6c{α:Type}{l:List α}{t u:Nat}{x:α}(b:t<l.length):(l.set t x)[u]? =if u=t then some x else l[u]? :=by
 rw[zx]
 by_cases h:u=t
 ·subst h;rw[if_pos rfl,if_pos rfl,if_pos b]
 ·rw[if_neg (fun x=>h x.symm),if_neg h]
section
variable{W0:World}{r0:Own}{n t:Nat}{L:ji}{e:EH}
theorem CkM.next{s s':CkB}(h:CkM W0 n L s)(hw:WF0 (L++ [e]) n)(G:e.t=t)(E:t<n)(I:qo q1K 23 1 (some ⟨s'.sb,0,none⟩) s'.sc s'.S s'.D) [qr s'.X s.X]
  (A:(e.k≠4/\s'.S=s.S)\/(e.k=4/\∃a c,s'.S=s.S.set t (a,n,c)/\RdE qv 1 W0 s'.X a (q01 (L++ [e]) n)))
  (v:(e.k≠3/\s'.B=s.B.set t (none,0,0))\/(e.k=3/\∃a c,s'.B=s.B.set t (some a,n,c)/\RdE qv 1 W0 s'.X (some a) (q01 L n))):CkM W0 n (L++ [e]) s':=by
 have H:t<s.S.length:=by rw[h.sl];exact E
 have o:t<s.B.length:=by rw[h.bl];exact E
 have C:∀u:Nat,lkL (L++ [e]) u (L++ [e]).length=if u=t then e.k else lkL L u L.length:=fun u=>by
  rw[qdT,qfp,G]
  by_cases hu:u=t
  ·rw[if_pos Yu,if_pos hu]
  ·rw[if_neg Yu,if_neg hu]
 refine⟨hw,I,?_,?_,fun u hu=>?_,fun u hu f=>?_,fun u hu f=>?_⟩
 ·rcases A with ⟨_,d⟩|⟨_,a,c,d,_⟩ <;>rw[d]
  ·exact h.sl
  ·rw[zn];exact h.sl
 ·rcases v with ⟨_,d⟩|⟨_,a,c,d,_⟩ <;>rw[d,zn] <;>exact h.bl
 ·obtain⟨a0,w,z,y⟩:=h.sr u hu
  rcases A with ⟨j,d⟩|⟨j,a,c,d,F⟩
  ·rw[d,q7k (.inl j)];exact⟨a0,w,z,y.up⟩
  ·rw[d,q6c H]
   by_cases b:u=t
   ·rw[if_pos b,b,<-G,qg2 j];exact⟨a,c,rfl,F⟩
   ·rw[if_neg b,q7k (.inr Yu)];exact⟨a0,w,z,y.up⟩
 ·rw[C] at f
  rcases v with ⟨j,d⟩|⟨j,a,c,d,F⟩
  ·rw[d,q6c o]
   by_cases b:u=t
   ·rw[if_pos b] at f;exact absurd f j
   ·rw[if_neg b] at f ⊢;obtain⟨a0,w,z,y⟩:=h.b3 u hu f;rw[q8K Yu];exact⟨a0,w,z,y.up⟩
  ·rw[d,q6c o]
   by_cases b:u=t
   ·rw[if_pos b,b,<-G,qcT];exact⟨a,c,rfl,F⟩
   ·rw[if_neg b] at f ⊢;obtain⟨a0,w,z,y⟩:=h.b3 u hu f;rw[q8K Yu];exact⟨a0,w,z,y.up⟩
 ·rw[C] at f
  rcases v with ⟨j,d⟩|⟨j,a,c,d,F⟩
  ·rw[d,q6c o]
   by_cases b:u=t
   ·rw[if_pos b]
   ·rw[if_neg b] at f ⊢;exact h.b0 u hu f
  ·rw[d,q6c o]
   by_cases b:u=t
   ·rw[if_pos b] at f;exact absurd j f
   ·rw[if_neg b] at f ⊢;exact h.b0 u hu f
theorem qhR{α:Type}{enc:α->jf}{T:TypeId}{sz cap:Nat}{a:j9}{l:List α}{D:Own}(h:qo enc T sz a cap l D)(d:l≠ []):∃f,a=some f:=by
 rcases h.how with ⟨h,_,_⟩|⟨b,_,h,_⟩
 ·exact absurd h d
 ·exact⟨_,h⟩
theorem EvR.ent'{own own':Own}(h:EvR W0 own' e)(k:Ent W0 own own'):EvR W0 own e:=⟨h.r.ent k,h.w.ent k,h.rb,h.wb⟩
theorem qh4{own:Own}{s:CkB}(v:CkM W0 n L s)(G:EvR W0 r0 e) [i1:qr own [ckN L.length (q3m L L.length) s.cb s.eb s.sb s.bb n s.sc s.bs (frst L)]] [i2:qr own [q0U q1K 23 s.bb s.B]] [i3:qr own r0]:
  jo W0 62 [jp s.cb,e.v] own (.bool (q12 n (L.length==0) (q3m L L.length) (lkL L e.t L.length) e)):=by
 have A:Cl W0 own s.cb 0 (j5 L.length):=Kn.ent (qk (zf.2 rfl) rfl) (i1.h W0);have C:Cl W0 own s.cb 1 (j5 (q3m L L.length)):=Kn.ent (qk (zf.2 rfl) rfl) (i1.h W0);have E:Cl W0 own s.cb 2 (.slice (some ⟨s.eb,0,none⟩) n n):=Kn.ent (qk (zf.2 rfl) rfl) (i1.h W0);have w:Cl W0 own s.cb 4 (.slice (some ⟨s.bb,0,none⟩) n n):=Kn.ent (qk (zf.2 rfl) rfl) (i1.h W0);have F:RdE q1K 1 W0 own (some ⟨s.bb,0,none⟩) s.B:=(q8P (T:=23) (b:=s.bb) q7m).ent (i2.h W0);have d:=v.bl;rw[<-d] at w;have:=qjL (e:=e) (last:=lkL L (e.t.toNat:Int) L.length) (G.ent' (i3.h W0)) A C E (by rwa[d] at w ⊢) F d Yu (fun x j=>by
  have f:=(z7.1 j).1;rw[d] at f
  by_cases o:lkL L (e.t.toNat:Int) L.length=3
  ·obtain⟨a,c,hb,_⟩:=v.b3 _ f o;rw[hb] at j;rw[<-Option.some.inj j];exact⟨fun _=>o,fun _=>Option.some_ne_none _⟩
  ·have hb:=v.b0 _ f o;rw[hb] at j;rw[<-Option.some.inj j];exact⟨fun h=>absurd rfl h,fun h=>absurd h o⟩)
 have y:((L.length:Int)==0)=(L.length==0):=by
  rw[yQ];simp
 have z:q12 n (L.length==0) (q3m L L.length) (lkL L (e.t.toNat:Int) L.length) e=q12 n (L.length==0) (q3m L L.length) (lkL L e.t L.length) e:=by
  by_cases h:0<=e.t
  ·rw[Z2 h]
  ·unfold q12;rw[decide_eq_false (fun x=>h x.1)];rfl
 rw[y,z] at this;exact this
theorem qm8{D1 X A D:Own}{b d f j o:jd}:Ent W0 (D1++(b::d::((f::j::o::(D++(A++X)))++r0))) (b::d::((f::j::o::(D++(A++(D1++X))))++r0)):=by
 refine Ent.of_perm ?_;have h:(D1++(b::d::f::j::o::(D++(A++(X++r0))))).Perm (b::d::f::j::o::(D++(A++(D1++(X++r0))))):=by
  have s:∀(P Q:Own),(D1++(P++Q)).Perm (P++(D1++Q)):=fun P Q=>by
   rw[<-zd,<-zd];exact Zh.append_right Q
  have v:=s [b,d,f,j,o] (D++(A++(X++r0)));exact v.trans (List.Perm.append_left [b,d,f,j,o] ((s D _).trans (List.Perm.append_left D (s A _))))
 simpa using h
theorem qdK{own:Own}{s:CkB}(j:q0y W0 0 noneV)(h:CkM W0 n L s)(f:EvR W0 r0 e) [i1:qr own [ckN L.length (q3m L L.length) s.cb s.eb s.sb s.bb n s.sc s.bs (frst L)]] [i2:qr own [q0U q1K 23 s.bb s.B]] [i3:qr own r0]
  (o:q12 n (L.length==0) (q3m L L.length) (lkL L e.t L.length) e=false) (hl:L.length<65536):
  jo W0 34 [jp s.cb,e.v] own (.tuple #[.agg noneV.toArray,j5 91]):=by
 refine qg (sC [138] [3,5,7,11,15,17,19,21,1,9,1,13,24,25,28,0,24,13,25,28,0,1,13,1,9,24,25,28,0,24,9,25,28,0,24,9,13,25,28,0,3,5,7,9,11,13,15,18,0,3,5,7,9,11,13,15,18,0] ?_);have b:=fun(own':Own) (j1:qr own' [ckN L.length (q3m L L.length) s.cb s.eb s.sb s.bb n s.sc s.bs (frst L)]) (j2:qr own' [q0U q1K 23 s.bb s.B]) (j3:qr own' r0)=>qh4 (own:=own') h f
 rw[o] at b;have d:Cl W0 own s.cb 0 (j5 L.length):=Kn.ent (qk (zf.2 rfl) rfl) (i1.h W0);have hl':¬(L.length:Int)=65536:=Yu;obtain⟨ev,tt,k,wd,ra,rl,rc,wa,wl,wc⟩:=e;dsimp only[EH.v] at*
 repeat'((try conv=>whnf);first|refine fE ?_|refine fD ?_|refine fG ?_|refine q0D j _ rfl rfl ?_|apply gLd;refine ldK d ?_|apply qe;refine qd (b _ Yx Yx Yx) ?_|refine fL ?_|refine fM ?_|refine qf fun bk hbk=>?_)
 exact⟨rfl,(eC)⟩
theorem q4F{P:Program}{σ:Type}{k:FuncId}{args:jf}{A D r:Own}{R:σ->Value->Prop}{O:σ->Own}(h:qq P W0 k args (D++(A++r)) fun v own'=>∃s,R s v/\Ent W0 own' (O s++(A++r))):qq P W0 k args (A++(D++r)) fun v own'=>∃s,R s v/\Ent W0 own' (A++(O s++r)):=by
 have f:∀D:Own,(A++(D++r)).Perm (D++(A++r)):=fun D=>by
  rw[<-zd,<-zd];exact Zh.append_right r
 intro w hw;exact(h w (Ent.of_perm (f D) w hw)).mono fun _ _ ⟨v,o,a,b,s,c,d⟩=>⟨v,o,a,b,s,c,d.trans (Ent.of_perm (f _).symm)⟩
theorem qh1{P:Program}{k:FuncId}{args:jf}{own:Own}{v0:Value}{O:Own}(h:qq P W0 k args own fun v own'=>v=v0/\Ent W0 own' O):qq P W0 k args own fun v own'=>∃_:Unit,v=v0/\Ent W0 own' O:=fun w hw=>
 (h w hw).mono fun _ _ ⟨v,o,a,b,c,d⟩=>⟨v,o,a,b,(),c,d⟩
theorem qnR{s:CkB}(hN:q0y W0 0 noneV)(z:CkM W0 n L s)(hE:EvR W0 r0 e)(U:q12 n (L.length==0) (q3m L L.length) (lkL L e.t L.length) e=true)(hl:L.length<65536):
  jn W0 34 [jp s.cb,e.v] (s.O L n++r0) fun v own'=>∃s':CkB,(v= .tuple #[.agg (encRc (frst (L++ [e]))).toArray,j5 0]/\s'.cb=s.cb/\CkM W0 n (L++ [e]) s')/\Ent W0 own' (s'.O (L++ [e]) n++r0):=by
 refine sC [138] [3,5,7,11,15,17,19,21,1,9,1,13,24,25,28,0,24,13,25,28,0,1,13,1,9,24,25,28,0,24,9,25,28,0,24,9,13,25,28,0,3,5,7,9,11,13,15,18,0,3,5,7,9,11,13,15,18,0] ?_;have M:=fun(own':Own) (j1:qr own' [ckN L.length (q3m L L.length) s.cb s.eb s.sb s.bb n s.sc s.bs (frst L)]) (j2:qr own' [q0U q1K 23 s.bb s.B]) (j3:qr own' r0)=>qh4 (own:=own') z hE
 rw[U] at M;have hl':¬(L.length:Int)=65536:=Yu;have Z:=z.wf.snoc Yu U;have hw:=Z.wf;have Y:=z.wf.wf;have hn16:=Z.2.1;have W:=hw.kd L.length Yw;unfold thr knd at W;rw[q1m] at W;obtain⟨k1,k2,k3,k4,k5,_⟩:=W;have aH:e.k=4->lkL L e.t L.length=3:=fun h4=>by
  unfold q12 at U;rw[if_pos h4] at U;simp only[zu,decide_eq_true_eq] at U;exact U.2
 clear U;have aA:=qiH (l:=L) (e:=e);rw[<-qdT (l:=L) (e:=e)] at aA;have aI:((L++ [e]).length:Int)=(L.length:Int)+1:=by rw[qdT];omega
 have hw64:=of_decide_eq_true k5;obtain⟨t,ht⟩:∃t:Nat,e.t=t:=⟨e.t.toNat,Yu⟩
 obtain⟨w,aC⟩:∃w:Nat,e.w=w:=⟨e.w.toNat,Yu⟩
 have C:t<n:=Yu;obtain⟨xa,xc,hx,aJ⟩:=z.sr t C;have aB:=fun(F:e.k=1\/e.k=2) (R:Own)=>qgW (W0:=W0) (r0:=R) (at1:=q3m L L.length) (cb:=s.cb) (eb:=s.eb) (bb:=s.bb) (sc:=s.sc) (bs:=s.bs) (B:=s.B) (X:=s.X) hw Y F ht C aC Yu Yu Yu hN z.sB.rd hx aJ
 have N:=fun(s':CkB)=>z.next (s':=s') Z ht C
 have G:=fun(F:e.k≠4)=>qd0 (l:=L) (n:=n) F
 have aw:=fun(F:e.k=3)=>qcU hw Y F
 have ax:=fun(F:e.k=3)=>q0S (bs:=s.bs) (H:=q1g (L++ [e]) n) (k:=256) fun j _=>⟨rfl,qd4 (L:=L) (n:=n) (j:=j) F⟩
 have aG:n=(q01 L n).length:=qU.symm;have J:(q01 L n)[t]? =some (q06 L t L.length:Int):=q0s C;have E:=fun(own':Own) [qr own' [q0U qv 3 s.eb (q01 L n)]]=>qco (W0:=W0) (own:=own') (cap:=n) (l:=q01 L n) (RdE.up (q8P (T:=3) (b:=s.eb) q2C)) (fun h=>by rw[h] at J;simp at J) Yu
 rw[<-aG] at E;have af:q01 L n≠ []:=fun h=>by rw[h] at J;simp at J
 have K:=z.bl.symm;obtain⟨y,hy⟩:∃y,s.B[t]? =some y:=⟨_,z6 Yu⟩
 have az:=fun(F:e.k=4)=>z.b3 t C (by rw[<-ht];exact aH F)
 have P:=fun(F:e.k=4) (a:Addr) (c:Nat) (R:Own) (I:EvR W0 R e) (hb:s.B[t]? =some (some a,n,c)) (Q:RdE qv 1 W0 s.X (some a) (qcS L n t))=>qnS (W0:=W0) (r0:=R) (at1:=q3m L L.length) (cb:=s.cb) (eb:=s.eb) (sb:=s.sb) (bb:=s.bb) (sc:=s.sc) (bs:=s.bs) (B:=s.B) (X:=s.X) hw Y F ht C Yu Yu I hN z.sB z.sl.symm K hb Q
 have I:∀(R:Own) [qr R r0],EvR W0 R e:=fun R _=>hE.up
 have aq:∀(a:j9) (c:Nat) (D1:Own),qo qv 3 1 a c (q01 (L++ [e]) n) D1->RdE qv 1 W0 (D1++s.X) a (q01 (L++ [e]) n):=fun a c D1 h=>h.rd.up
 have au:∀(a:j9) (c:Nat) (D1:Own),qo qv 3 1 a c (q01 L n) D1->RdE qv 1 W0 (D1++s.X) a (q01 L n):=fun a c D1 h=>h.rd.up
 obtain⟨ev,tt,k,wd,ra,rl,rc,wa,wl,wc⟩:=e;dsimp only[EH.v] at*;subst ht aC
 repeat'((try conv=>whnf);first|refine qf fun b3 hb3=>?_;apply Stop.h)
 refine Stop.mk ?_
 repeat'((try conv=>whnf);first|refine fD ?_|refine fG ?_|refine qf fun b4 hb4=>?_|apply qe;refine qd (M _ Yx Yx Yx) ?_|refine fA ?_|refine fL ?_)
 refine q3S (σ:=CkB) 2305843009205305344 (fun _=> []) (fun s'=>(b4,j8 #[j5 0,j5 0,j5 0] 46)::(b3,j8 #[j5 ev,j5 t,j5 k,j5 w, .slice ra rl.length rc, .slice wa wl.length wc] 100)::(ckO L.length (q3m L L.length) (frst (L++ [(⟨ev,(t:Int),k,(w:Int),ra,rl,rc,wa,wl,wc⟩:EH)])) (q01 (L++ [(⟨ev,(t:Int),k,(w:Int),ra,rl,rc,wa,wl,wc⟩:EH)]) n) (q1g (L++ [(⟨ev,(t:Int),k,(w:Int),ra,rl,rc,wa,wl,wc⟩:EH)]) n) s'.cb s'.eb s'.sb s'.bb n s'.sc s'.bs s'.B s'.D s'.X++r0)) (fun s'=>s'.cb=s.cb/\CkM W0 n (L++ [(⟨ev,(t:Int),k,(w:Int),ra,rl,rc,wa,wl,wc⟩:EH)]) s') rfl ?_ fun s' junk hs=>?_
 ·clear M
  by_cases h3:k=3
  ·subst h3;rw[aw rfl,G Yu]
   repeat'((try conv=>whnf);first|refine fE ?_|refine stC (T:=23) (k:=0) (a1,n,c1) q7m hy ?_ ?_ ?_ ?_ ?_;exact rfl;omega;exact rfl;exact rfl|(apply qF;first|refine ixC hy K ?_ ?_;(first|rfl|omega))|(apply qe;first|refine qi (E _) fun q v hv=>?_;obtain⟨a1,c1,D1⟩:=q;obtain⟨rfl,f⟩:=hv;dsimp only at f)|refine fA ?_|refine q1a.mk ?_ ?_)
   all_goals
    obtain⟨a2,rfl⟩:=qhR f af;exact⟨⟨s.cb,s.eb,s.sb,s.sc,s.bb,s.bs,s.S,s.B.set t (some a2,n,c1),s.D,D1++s.X⟩,⟨rfl,N _ z.sB (.inl ⟨Yu,rfl⟩) (.inr ⟨rfl,a2,c1,rfl,au _ _ _ f⟩)⟩,trivial,by unfold ckO;rw[ax rfl];exact qm8 (D:=s.D) (A:=q3j s.bs (q1g L n) 256) (X:=s.X) (D1:=D1)⟩
  by_cases h4:k=4
  ·subst h4;obtain⟨ba,bc,hb,Q⟩:=az rfl;have d:=q4F (r:=r0) (A:= [(b4,j8 #[j5 0,j5 0,j5 0] 46),(b3,j8 #[j5 ev,j5 t,j5 4,j5 w, .slice ra rl.length rc, .slice wa wl.length wc] 100)]) (P rfl ba bc _ (I _) hb Q)
   repeat'((try conv=>whnf);first|refine fE ?_|refine fD ?_|refine stC (T:=23) (k:=0) (none,0,0) q7m hy ?_ ?_ ?_ ?_ ?_;exact rfl;omega;exact rfl;exact rfl|(apply qF;first|refine ixC hy K ?_ ?_;(first|rfl|omega))|(apply qe;first|refine qi d fun q v hv=>?_;obtain⟨a1,c1,D1,D2⟩:=q;obtain⟨rfl,f,ae⟩:=hv;dsimp only at f ae)|refine fA ?_|refine fL ?_)
   exact⟨⟨s.cb,s.eb,s.sb,s.sc,s.bb,s.bs,s.S.set t (a1,n,c1),s.B.set t (none,0,0),D2,D1++s.X⟩,⟨rfl,N _ ae (.inr ⟨rfl,a1,c1,rfl,aq _ _ _ f⟩) (.inl ⟨Yu,rfl⟩)⟩,trivial,Ent.refl⟩
  ·have d:=q4F (r:=r0) (A:= [(b4,j8 #[j5 0,j5 0,j5 0] 46),(b3,j8 #[j5 ev,j5 t,j5 k,j5 w, .slice ra rl.length rc, .slice wa wl.length wc] 100)]) (qh1 (aB Yu _));rw[G h4]
   repeat'((try conv=>whnf);first|refine fG ?_|refine stC (T:=23) (k:=0) (none,0,0) q7m hy ?_ ?_ ?_ ?_ ?_;exact rfl;omega;exact rfl;exact rfl|(apply qF;first|refine ixC hy K ?_ ?_;(first|rfl|omega))|(apply qe;first|refine qi d fun q v hv=>?_;subst hv)|refine fA ?_|refine fL ?_)
   exact⟨⟨s.cb,s.eb,s.sb,s.sc,s.bb,s.bs,s.S,s.B.set t (none,0,0),s.D,s.X⟩,⟨rfl,N _ z.sB (.inl ⟨h4,rfl⟩) (.inl ⟨h3,rfl⟩)⟩,trivial,Ent.refl⟩
 ·obtain⟨ay,aj⟩:=hs;obtain⟨cb',aF,aK,aL,aE,bs',S',B',D',X'⟩:=s';dsimp only at ay aj ⊢;subst ay;clear M z aB N G aw ax E az P I aq au
  repeat'((try conv=>whnf);first|refine qqM ?_|refine qqL ?_|refine q2R ?_ ?_;exact rfl|refine fB ?_|refine fA ?_|refine fL ?_|refine fM ?_)
  refine⟨⟨s.cb,aF,aK,aL,aE,bs',S',B',D',X'⟩,⟨rfl,rfl,aj⟩,?_⟩;show Ent W0 _ (ckO ((L++ [(⟨ev,(t:Int),k,(w:Int),ra,rl,rc,wa,wl,wc⟩:EH)]).length:Int) (q3m (L++ [(⟨ev,(t:Int),k,(w:Int),ra,rl,rc,wa,wl,wc⟩:EH)]) (L++ [(⟨ev,(t:Int),k,(w:Int),ra,rl,rc,wa,wl,wc⟩:EH)]).length) _ _ _ _ _ _ _ _ _ _ _ _ _++r0);rw[aA,aI];exact Ent.drop.trans Ent.drop
end
def ckV(cnt at1:Int)(ev sv bv:Value)(V:Nat->Value)(r:q0f):jf:= [j5 cnt,j5 at1,ev,sv,bv]++(q3s 256 V++encRc r)
theorem qet{cnt at1:Int}{ev sv bv:Value}{V:Nat->Value}{r:q0f}:(ckV cnt at1 ev sv bv V r).length=264:=by
 unfold ckV;rw[z8,z8,qU];rfl
theorem qiQ{n k:Nat}{V V2:Nat->Value}{v0 v1 v2 v3:Value}(h:k+4<=n)(v:V2 k=v0)(w:V2 (k+1)=v1)(y:V2 (k+2)=v2)(z:V2 (k+3)=v3)(o:∀i,i<n->(i<k\/k+4<=i)->V2 i=V i):
  (q3s n V).take k++ [v0,v1,v2,v3]++(q3s n V).drop (k+4)=q3s n V2:=by
 have b:∀V:Nat->Value,(q3s n V).length=n:=fun V=>qU
 apply Zm;intro i
 by_cases d:i<n
 ·rw[q0s d]
  by_cases s:i<k
  ·rw[zd,zG (by rw[zQ,b];omega),Yo,if_pos s,q0s d,o i d (.inl s)]
  ·by_cases f:k+4<=i
   ·rw[zT (by rw[z8,zQ,b];simp only[zm,zE];omega),z8,zQ,b,yo];simp only[zm,zE];have e:k+4+(i-(min k n+(0+1+1+1+1)))=i:=Yu;rw[e,q0s d,o i d (.inr f)]
   ·rw[zd,zT (by rw[zQ,b];omega),zQ,b];have e:min k n=k:=Yu;rw[e];obtain⟨j,rfl⟩:∃j,i=k+j:=⟨i-k,Yu⟩
    rw[Zx];have A:j=0\/j=1\/j=2\/j=3:=Yu
    rcases A with rfl|rfl|rfl|rfl
    ·show some v0=some (V2 k);rw[v]
    ·rw[w];rfl
    ·rw[y];rfl
    ·rw[z];rfl
 ·rw[zV (l:=q3s n V2) (by rw[b];omega),zV];rw[z8,z8,zQ,ZN,b];simp only[zm,zE];omega
section
variable{W0:World}{own:Own}{cnt at1:Int}{cb:Nat}{ev sv bv:Value}{V:Nat->Value}{r:q0f}{T:TypeId}
theorem qqN{v:Value}{K:Own->Prop}{C:(Obj->Prop)->Own} [m:UpC cb (j8 (ckV cnt at1 ev sv bv V r).toArray T (0,0)) own C](b:q2G v=true)(h:K (C fun o=>o=Obj.cells (ckV cnt at1 ev v bv V r).toArray T (0,0))):StT W0 own ⟨cb,3,none⟩ v K:=
 qou (by show Nat.ble 4 (ckV cnt at1 ev sv bv V r).length=true;rw[qet];rfl) b h
theorem qsl{w k:Nat}{v0 v1 v2 v3:Value}{V2:Nat->Value}{K:Own->Prop}{C:(Obj->Prop)->Own} [m:UpC cb (j8 (ckV cnt at1 ev sv bv V r).toArray T (0,0)) own C](b:4=k)(hw:w<64)(d:V2 (4*w)=v0)(f:V2 (4*w+1)=v1)(j:V2 (4*w+2)=v2)(s:V2 (4*w+3)=v3)
  (z:∀i,i<256->(i<4*w\/4*w+4<=i)->V2 i=V i) (A: [v0,v1,v2,v3].all q2G=true) (h:K (C fun o=>o=Obj.cells (ckV cnt at1 ev sv bv V2 r).toArray T (0,0))): [v0,v1,v2,v3].length=k/\StN W0 own ⟨cb,5+w*4,none⟩ [v0,v1,v2,v3] K:=by
 subst b;refine qjV (cs:=(ckV cnt at1 ev sv bv V r).toArray) (T:=T) rfl ?_ A ?_
 ·rw[zU,qet];exact Nat.ble_eq_true_of_le Yu
 ·have e:(ckV cnt at1 ev sv bv V r).take (5+w*4)++ [v0,v1,v2,v3]++(ckV cnt at1 ev sv bv V r).drop (5+w*4+4)=ckV cnt at1 ev sv bv V2 r:=by
   have v:5+w*4=4*w+1+1+1+1+1:=Yu;have y:5+w*4+4=(4*w+4)+1+1+1+1+1:=Yu;rw[y,v];unfold ckV;simp only[zp,zk,Yj,yf];rw[ZX (by rw[qU];omega),List.drop_append_of_le_length (by rw[qU];omega),<-zd,qiQ (n:=256) (k:=4*w) Yu d f j s z]
  rw[zU,e];exact h
end
theorem qii:frst []=nnR:=q2O rfl
theorem qeH{n:Nat}:q01 [] n=List.replicate n 0:=(q08 (g':=fun _=>0) fun _ _=>rfl).trans q5k.symm
theorem qg3{n:Nat}{u:Int}:q4A [] n u=List.replicate n 0:=(q08 (g':=fun _=>0) fun _ _=>rfl).trans q5k.symm
theorem qhE{n:Nat}{Q:ji->Int->Nat->Bool}{w:Int}:q6X [] n Q w=List.replicate n (0,0):=(q08 (g':=fun _=>(0,0)) fun _ _=>rfl).trans q5k.symm
theorem qrb{e:jd}{A r:Own}:(e::(A++r)).Perm ((A++ [e])++r):=by
 rw[zd];exact Zf.symm
theorem qsQ{h f d b:jd}{A r:Own}:(b::d::f::h::(A++r)).Perm (((((A++ [h])++ [f])++ [d])++ [b])++r):=
 (((qrb.cons f).cons d).cons b).trans (((qrb.cons d).cons b).trans ((qrb.cons b).trans qrb))
section
variable{W0:World}{own:Own}
theorem qdL(threads:Int)(h:threads<1\/16<threads):jo W0 33 [j5 threads] own (.tuple #[.pointer none,j5 54]):=by
 refine qg (sC [81] [3,7,11,1,6,10,13,16,17,0,10,6,13,16,17,0,3,5,7,9,11,13,16,18,20,21,23,26,0,3,5,7,11,15,19,25,27,10,14,18,22,23,29,32,0] ?_)
 by_cases h1:threads<1
 ·repeat'((try conv=>whnf);first|refine fI ?_|refine fE ?_|refine fJ ?_|refine fA ?_|refine qf fun d b=>?_)
  exact⟨rfl,(eC)⟩
 ·have h2:threads>16:=Yu
  repeat'((try conv=>whnf);first|refine fH ?_|refine fF ?_|refine fK ?_|refine fA ?_|refine qf fun d b=>?_)
  exact⟨rfl,(eC)⟩
theorem q8e:okF Tryz.prog 61=true:=by kernel_rfl
theorem qnV{n:Nat}(hN:q0y W0 0 noneV)(h1:1<=n)(h2:n<=16):
  jn W0 33 [j5 n] own fun v own'=>∃s:CkB,(v= .tuple #[jp s.cb,j5 0]/\CkM W0 n [] s)/\Ent W0 own' (s.O [] n++own):=by
 refine sC [81] [3,7,11,1,6,10,13,16,17,0,10,6,13,16,17,0,3,5,7,9,11,13,16,18,20,21,23,26,0,3,5,7,11,15,19,25,27,10,14,18,22,23,29,32,0] ?_
 repeat'((try conv=>whnf);first|refine fH ?_|refine fG ?_|refine fK ?_|refine qf fun tb htb=>?_|refine fA ?_)
 refine q3S (σ:=Nat×Nat×Nat) 1040400 (fun s=> [(4,jp s.1)]) (fun s=>match s with|(cb,eb,bb)=>(tb,j8 #[j5 n] 3)::(cb,j8 (ckV 0 0 (.slice (some ⟨eb,0,none⟩) n n) (j7) (.slice (some ⟨bb,0,none⟩) n n) (fun _=> j7) nnR).toArray 151 (0,0))::q0U qv 3 eb (List.replicate n 0)::q0U q1K 23 bb (List.replicate n (none,0,0))::own) (fun _=>True) rfl ?_ fun s A _=>?_
 ·repeat'((try conv=>whnf);first|refine mkC (enc:=qv) (T:=3) n 0 rfl rfl rfl ?_ fun eb=>?_;omega|refine mkC (enc:=q1K) (T:=23) n (none,0,0) rfl rfl rfl ?_ fun bb=>?_;omega|refine q0D hN _ rfl rfl ?_|refine qf fun cb hcb=>?_|refine fA ?_|refine q1a.mk ?_ ?_)
  ·refine⟨(cb,eb,bb),trivial,(eF),?_⟩;refine(Ent.head (fun o h=>h.trans ?_)).trans (qbt (b0:=tb) (b1:=cb) (b2:=eb) (b3:=bb) rfl)
   kernel_rfl
  ·refine⟨(cb,eb,bb),trivial,(eF),?_⟩;refine(Ent.head (fun o h=>h.trans ?_)).trans (qbt (b0:=tb) (b1:=cb) (b2:=eb) (b3:=bb) rfl)
   kernel_rfl
 ·obtain⟨cb,eb,bb⟩:=s;dsimp only
  repeat'((try conv=>whnf);first|refine fA ?_)
  refine qK (σ:=j9×Nat×List Sl×Own×Own) (fun s=>match s with|(_,_,S,_,_)=> [(21,j5 S.length)]) (fun s=>match s with|(a,c,S,D,X)=>(tb,j8 #[j5 n] 3)::(cb,j8 (ckV 0 0 (.slice (some ⟨eb,0,none⟩) n n) (.slice a S.length c) (.slice (some ⟨bb,0,none⟩) n n) (fun _=> j7) nnR).toArray 151 (0,0))::q0U qv 3 eb (List.replicate n 0)::q0U q1K 23 bb (List.replicate n (none,0,0))::(X++(D++own)))
   (fun s=>match s with|(a,c,S,D,X)=>S.length<=n/\qo q1K 23 1 a c S D/\∀u,u<S.length->∃Q Z,S[u]? =some (Q,n,Z)/\RdE qv 1 W0 X Q (List.replicate n 0)) (fun s=>match s with|(_,_,S,_,_)=>n-S.length) (none,0,[],[],[]) ⟨Yw,qo.nil,fun u hu=>by simp at hu⟩ (eF) Ent.refl rfl ?_
  rintro⟨a,c,S,D,X⟩ A ⟨hSl,hB,z⟩;dsimp only
  by_cases hlt:S.length<n
  ·have M:(S.length:Int)<n:=Yu
   repeat'((try conv=>whnf);first|refine fF ?_|refine mkC (enc:=qv) (T:=3) n 0 rfl rfl rfl ?_ fun d=>?_;omega|refine qf fun qb hqb=>?_|refine q0z (enc:=q1K) (T2:=23) (ys:= #[.slice (some ⟨d,0,none⟩) n n]) (some ⟨d,0,none⟩,n,n) hB rfl rfl ?_ rfl rfl ?_ fun a1 c1 D1 ae=>?_;omega;omega|refine qqN ?_ ?_;exact rfl|refine fB ?_|refine fA ?_)
   have aq:(S++ [((some ⟨d,0,none⟩,n,n):Sl)]).length=S.length+1:=Yw;refine⟨(a1,c1,S++ [(some ⟨d,0,none⟩,n,n)],D1,q0U qv 3 d (List.replicate n 0)::X),⟨by show(S++ [((some ⟨d,0,none⟩,n,n):Sl)]).length<=n;omega,ae,fun u hu=>?_⟩,by show n-(S++ [((some ⟨d,0,none⟩,n,n):Sl)]).length<n-S.length;omega,⟨vi (by show(S.length:Int)+1=((S++ [((some ⟨d,0,none⟩,n,n):Sl)]).length:Nat);omega),trivial⟩,?_⟩
   ·by_cases N:u<S.length
    ·obtain⟨Q,Z,h3,h4⟩:=z u N;exact⟨Q,Z,by rw[zG N];exact h3,h4.up⟩
    ·have hu4:u<(S++ [((some ⟨d,0,none⟩,n,n):Sl)]).length:=hu;have au:u=S.length:=Yu;subst au;exact⟨some ⟨d,0,none⟩,n,Yw,(q8P (T:=3) q2C).ent (Ent.left (D:= [_]))⟩
   ·dsimp only;rw[aq];exact Ent.drop.trans (qbt (b0:=tb) (b1:=cb) (b2:=eb) (b3:=bb) rfl)
  ·have M:¬(S.length:Int)<n:=Yu;have f:S.length=n:=Yu
   repeat'((try conv=>whnf);first|refine fG ?_)
   rw[f];obtain⟨sb,rfl⟩:∃sb,a=some ⟨sb,0,none⟩:=by
    rcases hB.how with ⟨h,_,_⟩|⟨b,_,h,_⟩
    ·rw[h] at f;simp at f;omega
    ·exact⟨b,h⟩
   have af:(fun i=>if i<4*0 then q6U (fun _=>0) n i else j7)=(fun _=>j7):=by funext i;rw[if_neg Yu]
   refine qK (σ:=Nat×(Nat->Nat)) (fun s=> [(35,j5 s.1)]) (fun s=>match s with|(w,bs)=>(tb,j8 #[j5 n] 3)::(cb,j8 (ckV 0 0 (.slice (some ⟨eb,0,none⟩) n n) (.slice (some ⟨sb,0,none⟩) n c) (.slice (some ⟨bb,0,none⟩) n n) (fun i=>if i<4*w then q6U bs n i else j7) nnR).toArray 151 (0,0))::q0U qv 3 eb (List.replicate n 0)::q0U q1K 23 bb (List.replicate n (none,0,0))::(q3j bs (fun _=>List.replicate n (0,0)) (4*w)++(X++(D++own)))) (fun s=>s.1<=64) (fun s=>64-s.1) (0,fun _=>0) Yw (eF) (by dsimp only;rw[af];exact Ent.refl) rfl ?_;rintro⟨w,bs⟩ A hw;dsimp only at hw ⊢;have y:=fun(own':Own) (_:qy tb (j8 #[j5 n] 3) own')=>qnv (W0:=W0) (own:=own') (tb:=tb) (n:=n) Yu
   by_cases P:w<64
   ·have aw:(w:Int)<64:=Yu
    repeat'((try conv=>whnf);first|refine fF ?_|refine q2f.mk ⟨q8e,?_⟩|(apply qe;first|refine qi (y _ Yx) fun R v E=>?_;subst E;apply Stop.h))
    refine Stop.mk ?_
    repeat'((try conv=>whnf);first|refine q2f.mk ⟨q8e,?_⟩|(apply qe;first|refine qi (y _ Yx) fun c1 v E=>?_;subst E;apply Stop.h))
    refine Stop.mk ?_
    repeat'((try conv=>whnf);first|refine q2f.mk ⟨q8e,?_⟩|(apply qe;first|refine qi (y _ Yx) fun c2 v E=>?_;subst E;apply Stop.h))
    refine Stop.mk ?_
    repeat'((try conv=>whnf);first|refine q2f.mk ⟨q8e,?_⟩|(apply qe;first|refine qi (y _ Yx) fun U v E=>?_;subst E;apply Stop.h))
    refine Stop.mk ?_;obtain⟨bs',F,G,H,I,J⟩:∃bs':Nat->Nat,bs' (4*w)=R/\bs' (4*w+1)=c1/\bs' (4*w+2)=c2/\bs' (4*w+3)=U/\∀j,j<4*w->bs' j=bs j:=by
     refine⟨fun j=>if j<4*w then bs j else if j=4*w then R else if j=4*w+1 then c1 else if j=4*w+2 then c2 else U,?_,?_,?_,?_,fun j Y=>if_pos Y⟩
     ·show(if 4*w<4*w then _ else _)=_;rw[if_neg Yu,if_pos rfl]
     ·show(if 4*w+1<4*w then _ else _)=_;rw[if_neg Yu,if_neg Yu,if_pos rfl]
     ·show(if 4*w+2<4*w then _ else _)=_;rw[if_neg Yu,if_neg Yu,if_neg Yu,if_pos rfl]
     ·show(if 4*w+3<4*w then _ else _)=_;rw[if_neg Yu,if_neg Yu,if_neg Yu,if_neg Yu]
    have W:∀k c,k<4->bs' (4*w+k)=c->(if 4*w+k<4*(w+1) then q6U bs' n (4*w+k) else j7)= .slice (some ⟨c,0,none⟩) n n:=fun k c hk hb=>by
     rw[if_pos Yu];show Value.slice (some ⟨bs' (4*w+k),0,none⟩) n n=_;rw[hb]
    have hV:∀i,i<256->(i<4*w\/4*w+4<=i)->(fun i=>if i<4*(w+1) then q6U bs' n i else j7) i=(fun i=>if i<4*w then q6U bs n i else j7) i:=fun i _ K=>by
     show(if i<4*(w+1) then q6U bs' n i else j7)=(if i<4*w then q6U bs n i else j7)
     rcases K with K|K
     ·rw[if_pos Yu,if_pos K];show Value.slice (some ⟨bs' i,0,none⟩) n n=_;rw[J i K]
     ·rw[if_neg Yu,if_neg Yu]
    have C:q3j bs' (fun _=>List.replicate n (0,0)) (4*(w+1))=(((q3j bs (fun _=>List.replicate n (0,0)) (4*w)++ [q0U q15 218 R (List.replicate n (0,0))])++ [q0U q15 218 c1 (List.replicate n (0,0))])++ [q0U q15 218 c2 (List.replicate n (0,0))])++ [q0U q15 218 U (List.replicate n (0,0))]:=by
     show(((q3j bs' (fun _=>List.replicate n (0,0)) (4*w)++ [q0U q15 218 (bs' (4*w)) (List.replicate n (0,0))])++ [q0U q15 218 (bs' (4*w+1)) (List.replicate n (0,0))])++ [q0U q15 218 (bs' (4*w+2)) (List.replicate n (0,0))])++ [q0U q15 218 (bs' (4*w+3)) (List.replicate n (0,0))]=_;rw[F,G,H,I,q0S (bs':=bs) (H':=(fun _=>List.replicate n (0,0))) fun j Y=>⟨J j Y,rfl⟩]
    repeat'((try conv=>whnf);first|refine qsl (w:=w) (V2:=(fun i=>if i<4*(w+1) then q6U bs' n i else j7)) rfl P (W 0 R Yu F) (W 1 c1 Yu G) (W 2 c2 Yu H) (W 3 U Yu I) hV rfl ?_|refine fB ?_|apply ixj;omega)
    refine⟨(w+1,bs'),by dsimp only;omega,by dsimp only;omega,⟨vi (by dsimp only;omega),trivial⟩,?_⟩;dsimp only;rw[C];exact(qbt (b0:=tb) (b1:=cb) (b2:=eb) (b3:=bb) rfl).trans (Ent.of_perm ((((qsQ.cons _).cons _).cons _).cons _))
   ·have aw:¬(w:Int)<64:=Yu;have ax:w=64:=Yu;subst ax;have aj:ckV 0 0 (.slice (some ⟨eb,0,none⟩) n n) (.slice (some ⟨sb,0,none⟩) n c) (.slice (some ⟨bb,0,none⟩) n n) (fun i=>if i<4*64 then q6U bs n i else j7) nnR=ckL 0 0 eb sb bb n c (q6U bs n) nnR:=by
     unfold ckV ckL;rw[q08 (g':=q6U bs n) fun j Y=>if_pos Yu]
    have C:q3j bs (q1g [] n) 256=q3j bs (fun _=>List.replicate n (0,0)) (4*64):=q0S fun j _=>⟨rfl,qhE⟩
    rw[aj]
    repeat'((try conv=>whnf);first|refine fD ?_)
    refine⟨⟨cb,eb,sb,c,bb,bs,S,List.replicate n (none,0,0),D,X⟩,⟨rfl,WF0.nil h1 h2,hB,f,Yw,fun u hu=>?_,fun u hu h3=>?_,fun u hu _=>?_⟩,?_⟩
    ·rw[qg3];exact z u Yu
    ·exact absurd h3 (by show(0:Int)≠3;decide)
    ·show(List.replicate n ((none,0,0):Sl))[u]? =_;rw[Zy,if_pos hu]
    ·show Ent W0 _ (ckO 0 0 (frst []) (q01 [] n) (q1g [] n) cb eb sb bb n c bs (List.replicate n (none,0,0)) D X++own);unfold ckO;rw[qii,qeH,C];refine Ent.drop.trans (Ent.of_perm ?_);refine(((?_:List.Perm _ _).cons _).cons _).cons _;have hp:(q3j bs (fun _=>List.replicate n (0,0)) (4*64)++(X++(D++own))).Perm ((D++(q3j bs (fun _=>List.replicate n (0,0)) (4*64)++X))++own):=by
      rw[<-zd,<-zd];exact Zh.append_right own
     exact hp
end
theorem qbk{n:Nat}:∀(l:ji) (i:Nat) (pa:Int) (last:je),(qcX n l i pa last).2=0\/(qcX n l i pa last).2=91
 | [],_,_,_=> .inl rfl
 |e::l,i,pa,last=>by
  unfold qcX
  split
  ·exact qbk l _ _ _
  ·exact .inr rfl
theorem qlK{l:ji}{n k:Nat}(h1:1<=n)(h2:n<=16)(hl:l.length<=65536)(f:k<l.length)(d:q3V l n k=false):(q4n l n).2=91:=by
 have b:(q4n l n).2≠0:=fun h=>by
  have:=(q8R.1 h).2.2.2.2 k f;rw[zD,d] at this;cases this
 unfold q4n at b ⊢;rw[if_neg Yu,if_neg Yu] at b ⊢;exact(qbk _ _ _ _).resolve_left b
theorem qfE{l:ji}{n i:Nat}{e:EH}(he:l[i]? =some e):q3V l n i=q12 n ((l.take i).length==0) (q3m (l.take i) (l.take i).length) (lkL (l.take i) e.t (l.take i).length) e:=by
 have hi:=(z7.1 he).1;have b:(l.take i).length=i:=by rw[zQ];omega
 have f:l=(l.take i++ [e])++l.drop (i+1):=by
  have:l.take i++ [e]=l.take (i+1):=by rw[zZ,he];rfl
  rw[this,ZJ]
 have h:q3V l n i=q3V (l.take i++ [e]) n i:=by
  conv=>lhs;rw[f]
  exact qbX (by rw[z8,b];simp)
 have d:=qbY (l:=l.take i) (e:=e) (n:=n);rw[b] at d;rw[h,d,b]
section
variable{W0:World}{own:Own}
theorem qo0{P:Program}{σ:Type}{k:FuncId}{args:jf}{b:jd}{D r:Own}{R:σ->Value->Prop}{O:σ->Own}(h:qq P W0 k args (D++([b]++r)) fun v own'=>∃s,R s v/\Ent W0 own' (O s++([b]++r))):qq P W0 k args (b::(D++r)) fun v own'=>∃s,R s v/\Ent W0 own' (b::(O s++r)):=q4F (A:= [b]) h
theorem qjN{cnt at1:Int}{cb eb sb bb n sc:Nat}{bs:Nat->Nat}{r:q0f} [i1:qr own [ckN cnt at1 cb eb sb bb n sc bs r]]:jo W0 35 [jp cb] own (.agg (encRc r).toArray):=by
 refine qg (sH [] ?_);have b:∀(own':Own) (_:qr own' [ckN cnt at1 cb eb sb bb n sc bs r]) (K:jh->Prop),K (encRc r).toArray->LdN W0 own' ⟨cb,261,none⟩ 3 K:=fun own' i K j=>by
  obtain⟨vs,d,f,h⟩:LdN W0 [ckN cnt at1 cb eb sb bb n sc bs r] ⟨cb,261,none⟩ 3 K:=q2R rfl j;exact⟨vs,d,fun w hw=>f w (i.h W0 w hw),h⟩
 repeat'((try conv=>whnf);first|refine fD ?_|refine b _ Yx _ ?_|refine fL ?_|refine fM ?_|refine qf fun bk hbk=>?_)
 exact⟨rfl,(eC)⟩
theorem sp_trun{a:j9}{l:ji}{cap:Nat}(G:q0y W0 0 noneV)(W:RdE EH.enc 6 W0 own a l)(hE:∀e∈l,EvR W0 own e)(hl:l.length<=65536)(th:Int):
  jo W0 11 [.slice a l.length cap,j5 th] own (.tuple #[.agg (encRc (frR l th)).toArray,j5 (q4n l th).2]):=by
 refine qg (sH [] ?_)
 by_cases N:th<1\/16<th
 ·have af:=fun own'=>qdL (W0:=W0) (own:=own') th N
  have d:q4n l th=(0,54):=by unfold q4n;rw[if_pos N]
  have f:frR l th=nnR:=by unfold frR;rw[d,if_neg Yv]
  rw[d,f]
  repeat'((try conv=>whnf);first|refine fE ?_|refine q0D G _ rfl rfl ?_|apply qe;refine qd (af _) ?_|refine fO ?_|refine fL ?_|refine fM ?_|refine qf fun bk H=>?_)
  exact⟨rfl,(eC)⟩
 ·obtain⟨n,rfl⟩:∃n:Nat,th=n:=⟨th.toNat,Yu⟩
  have j:=fun own'=>qnV (W0:=W0) (own:=own') G (n:=n) Yu Yu
  repeat'((try conv=>whnf);first|refine qf fun b4 hb4=>?_|(apply qe;first|refine qi (j _) fun s v hv=>?_;obtain⟨rfl,F⟩:=hv;apply Stop.h))
  refine Stop.mk ?_
  repeat'((try conv=>whnf);first|refine fD ?_|refine fO ?_)
  refine qK (σ:=Nat×CkB) (fun q=> [(23,j5 q.1)]) (fun q=>q.2.O (l.take q.1) n++((b4,j8 #[j5 0,j5 0,j5 0] 46)::own)) (fun q=>q.1<=l.length/\q.2.cb=s.cb/\CkM W0 n (l.take q.1) q.2) (fun q=>l.length-q.1) (0,s) ⟨zv _,rfl,F⟩ (eF) Ent.refl rfl ?_;clear F j;rintro⟨i,s'⟩ junk ⟨hi,I,E⟩;obtain⟨cb',z,R,U,w,bs',S',B',D',X'⟩:=s';dsimp only at hi I E ⊢;subst I
  by_cases y:i<l.length
  ·obtain⟨e,he⟩:∃e,l[i]? =some e:=⟨_,z6 y⟩
   have K:(i:Int)<l.length:=Yu;have Q:(l.take i).length=i:=by rw[zQ];omega
   have P:l.take (i+1)=l.take i++ [e]:=by rw[zZ,he];rfl
   have M:=qfE (n:=n) he;have C:=hE e (zg he)
   by_cases Z:q3V l n i=true
   ·have b:=fun A:Own=>qnR (r0:=A++((b4,j8 #[j5 0,j5 0,j5 0] 46)::own)) G E C.up (by rw[<-M];exact Z) Yu
    obtain⟨ev,tt,k,wd,ra,rl,rc,wa,wl,wc⟩:=e;dsimp only[EH.v] at b
    repeat'((try conv=>whnf);first|refine fD ?_|refine fF ?_|(apply qF;first|refine ixE W he ?_ ?_;(first|rfl|omega))|apply q24;refine q0C W he rfl ?_|(apply qe;first|refine qi (qo0 (b [_])) fun q v hv=>?_;obtain⟨rfl,J,Y⟩:=hv)|refine fB ?_|refine fO ?_|refine fL ?_|refine fM ?_|refine qf fun bk H=>?_)
    refine⟨(i+1,q),⟨y,J,by dsimp only;rw[P];exact Y⟩,by dsimp only;omega,(eF),?_⟩;dsimp only;rw[P];exact Ent.drop.trans Ent.drop
   ·have h:=qlK Yu Yu hl y (Y2.2 Z);have f:frR l n=nnR:=by unfold frR;rw[h,if_neg Yv]
    rw[h,f];have b:=fun(own':Own) (j1:qr own' [ckN (l.take i).length (q3m (l.take i) (l.take i).length) s.cb z R w n U bs' (frst (l.take i))]) (j2:qr own' [q0U q1K 23 w B']) (j3:qr own' own)=>qdK (own:=own') G E C (by rw[<-M];exact Y2.2 Z) Yu
    obtain⟨ev,tt,k,wd,ra,rl,rc,wa,wl,wc⟩:=e;dsimp only[EH.v] at b
    repeat'((try conv=>whnf);first|refine fE ?_|refine fF ?_|refine q0D G _ rfl rfl ?_|(apply qF;first|refine ixE W he ?_ ?_;(first|rfl|omega))|apply q24;refine q0C W he rfl ?_|apply qe;refine qd (b _ Yx Yx Yx) ?_|refine fO ?_|refine fL ?_|refine fM ?_|refine qf fun bk H=>?_)
    exact⟨rfl,(eC)⟩
  ·have K:¬(i:Int)<l.length:=Yu;have ae:i=l.length:=Yu;subst ae;have Q:l.take l.length=l:=Z4;rw[Q] at E ⊢;have d:(q4n l n).2=0:=q8R.2 ⟨Yu,by rw[zD];exact E.wf⟩;have f:frR l n=frst l:=by unfold frR;rw[if_pos d]
   rw[d,f];have aj:=fun(own':Own) (j1:qr own' [ckN l.length (q3m l l.length) s.cb z R w n U bs' (frst l)])=>qjN (W0:=W0) (own:=own') (i1:=j1)
   repeat'((try conv=>whnf);first|refine fG ?_|apply qe;refine qd (aj _ Yx) ?_|refine fL ?_|refine fM ?_)
   exact⟨rfl,(eC)⟩
end
end Ord
open Go Go.Proofs.YtikpjajangpdjaaGreatDoor.Ord
theorem qfN:∀(ps:jk) (t:Nat),(∀h∈ps,qw h.p=(0,0))->psG ps t=none
 | [],_,_=>rfl
 |x::l,t,h=>by
  unfold psG;rw[if_neg (by rw[h x zj];decide)];exact qfN l (t+1) fun y b=>h y (zl _ b)
theorem qfl{n:Nat}:∀(ks:je) (t:Nat),(∀z∈ks,0<=z/\z<n)->ksG n ks t=(0,0,0)
 | [],_,_=>rfl
 |x::l,t,h=>by
  have:=h x zj;unfold ksG;rw[if_neg Yu];exact qfl l (t+1) fun y b=>h y (zl _ b)
theorem q7R{c:Cfg}{il:Nat}{ps:jk}{ks:je}(f:qG c=0)(hn1:1<=ps.length)(hn:ps.length<=16)(hil:(il:Int)=c.words)(b:∀h∈ps,qw h.p=(0,0))(hk:ks.length<=65536)(d:∀z∈ks,0<=z/\z<(ps.length:Int)):csM c il ps ks=(0,0,0):=by
 unfold csM;rw[if_neg (by rw[f];decide),if_neg Yu,if_neg Yu,qfN ps 0 b];dsimp only;rw[if_neg Yu];exact qfl _ 0 d
structure qoA(c:Cfg)(il:je)(O:Nat)(ps:List (jg))(l:jj):Prop where
 hc:qG c=0
 h0:c.c0=0/\c.c1=0/\c.c2=0/\c.c3=0
 hb:qT c=0
 hil:(il.length:Int)=c.words
 hi1:il≠ []
 hi2:il.length<=1000
 hiw:∀x∈il,okU x
 hO:c.orecs=(O:Int)
 hO2:O<=1000
 hn1:1<=ps.length
 hn:ps.length<=16
 hck:∀p∈ps,qw p=(0,0)
 hpl:∀p∈ps,p.length<=100000
 hkb:l.length<=1000
 hnp:∀p∈ps,noA p
 hst:c.strong=false
 hkr:∀t∈l,t<ps.length
section
variable{W0:World}{own:Own}{c:Cfg}{ia pa ka:j9}{il:je}{ic pc kc O:Nat}{ps:jk}{l:jj}{g:GS}
theorem q7v(J:qz W0)(b:qoA c il O (ps.map PH.p) l)(f:qlj c il O (ps.map PH.p) l g)(K:RdE q05 1 W0 own ia il)(N:RdE PH.enc 1 W0 own pa ps)(P:∀h∈ps,RdE Ins.enc 5 W0 own h.a h.p)(M:RdE qv 1 W0 own ka (l.map fun t=>((t:Nat):Int))):
  jo W0 10 [q9i c ia il.length ic pa ps.length pc ka (l.map fun t=>((t:Nat):Int)).length kc] own (.tuple #[j5 0,j5 0,j5 0]):=by
 have G:(ps.map PH.p).length=ps.length:=zi ..;have o:=b.hkr;have d:=b.hn1;have A:=b.hn;have C:=b.hkb;rw[G] at o d A;have j:∀h∈ps,qw h.p=(0,0):=fun h s=>b.hck _ (zM.2 ⟨h,s,rfl⟩)
 refine qg ?_;have F:=f.hg;rw[G] at F;have y:=f.hrun;have H:=qgY (W0:=W0) (own:=own) (c:=c) (ic:=ic) (pc:=pc) (kc:=kc) J (q7R (ks:=l.map fun t=>((t:Nat):Int)) b.hc d A b.hil j (by rw[zi];omega) (fun z E=>by obtain⟨t,Q,rfl⟩:=zM.1 E;have:=o t Q;omega)) (q7R (ks:= []) b.hc d A b.hil j (zv _) (fun z E=>by cases E)) b.hc b.h0 b.hb K b.hil b.hi1 b.hi2 b.hiw b.hO b.hO2 N P M d A j (fun h s=>b.hnp _ (zM.2 ⟨h,s,rfl⟩)) b.hst (fun h s=>b.hpl _ (zM.2 ⟨h,s,rfl⟩)) rfl C o F f.hS f.hob f.hxc y f.hgol f.hgo f.hgd f.hgl;intro w hw;refine(H w hw).mono ?_;rintro e w' ⟨v,own',he,b,_,rfl,I⟩;exact⟨_,own',he,b,rfl,I⟩
theorem qjo(Q:qz W0)(hN:q0y W0 0 noneV)(b:qoA c il O (ps.map PH.p) l)(G:qlj c il O (ps.map PH.p) l g)(hE:(q16 c il O (ps.map PH.p) l).E.length<=65536)(N:∀es:ji,es.map EH.m=(q16 c il O (ps.map PH.p) l).E->(q4n es ps.length).2=0/\frR es ps.length=(-1, -1, -1))(J:∀e∈(q16 c il O (ps.map PH.p) l).E,e.r.length<=1000/\e.wl.length<=64)(U:RdE q05 1 W0 own ia il)(Y:RdE PH.enc 1 W0 own pa ps)(Z:∀h∈ps,RdE Ins.enc 5 W0 own h.a h.p)(W:RdE qv 1 W0 own ka (l.map fun t=>((t:Nat):Int))):
  jo W0 8 [q9i c ia il.length ic pa ps.length pc ka (l.map fun t=>((t:Nat):Int)).length kc] own (.bool true):=by
 refine qg (sH [] ?_);have hl:(ps.map PH.p).length=ps.length:=zi ..;have w:=b.hkr;have A:=b.hn1;have K:=b.hn;have I:=b.hkb;rw[hl] at w A K;have C:∀h∈ps,qw h.p=(0,0):=fun h s=>b.hck _ (zM.2 ⟨h,s,rfl⟩)
 have hg:=G.hg;rw[hl] at hg;have M:=fun(own':Own) (m:qr own' own)=>ql3 (W0:=W0) (own:=own') (c:=c) (ic:=ic) (pc:=pc) (kc:=kc) Q (q7R (ks:=l.map fun t=>((t:Nat):Int)) b.hc A K b.hil C (by rw[zi];omega) (fun z hz=>by obtain⟨t,N,rfl⟩:=zM.1 hz;have:=w t N;omega)) b.hc b.h0 b.hb U.up b.hil b.hi1 b.hi2 b.hO b.hO2 Y.up (fun h s=>(Z h s).up) W.up A K C (fun h s=>b.hpl _ (zM.2 ⟨h,s,rfl⟩)) rfl I w hg G.hS G.hob
 have P:=fun(own':Own) (m:qr own' own)=>q7v (W0:=W0) (own:=own') (c:=c) (ia:=ia) (ic:=ic) (pa:=pa) (pc:=pc) (ka:=ka) (kc:=kc) Q b G U.up Y.up (fun h s=>(Z h s).up) W.up
 generalize q16 c il O (ps.map PH.p) l=R at*
 repeat'((try conv=>whnf);first|refine qf fun bk hbk=>?_|(apply qe;first|refine qi (M _ Yx) fun y v hv=>?_;apply Stop.h)|refine fL ?_)
 obtain⟨⟨cs,ta,tc,tD,sa,sc,sD,ea,ec,oa,oc,oD,ol,da,el,eD,gD⟩,L⟩:=y;obtain⟨rfl,d,hL⟩:=hv;dsimp only at d hL;obtain⟨a1,a2,a3,a4,a5,n1,c1,n2,c2,n3,c3,n4,c4,n5,c5,x1,x2,x3,f⟩:=d.sh;dsimp only at f;subst f;obtain⟨e1,e2⟩:=N el d.em;have H:el.length<=65536:=by have:=congrArg List.length d.em;dsimp only at this;rw[zi] at this;omega
 have o:=d.ev;have E:=d.he;dsimp only at o E;have j:∀e∈el,e.rl.length<=1000/\e.wl.length<=64:=fun e he=>J e.m (by rw[<-d.em];exact zM.2 ⟨e,he,rfl⟩)
 have F:=fun(own':Own) (m1:qr own' eD) (m2:qr own' gD)=>sp_trun (W0:=W0) (own:=own') (a:=ea) (l:=el) (cap:=ec) hN ((E.rd (W0:=W0)).up) (fun e he=>⟨(o e he).1.up,(o e he).2.up,by have:=j e he;omega,by have:=j e he;omega⟩) H (ps.length:Int)
 rw[e1,e2] at F;refine Stop.mk ?_
 repeat'((try conv=>whnf);first|refine fH ?_|refine qf fun bk2 hbk2=>?_|(apply qe;first|refine qd (F _ Yx Yx) ?_|refine qd (P _ Yx) ?_)|refine fO ?_|refine fA ?_|refine fL ?_|refine fM ?_)
 all_goals exact⟨rfl,(eC)⟩
end
open Go
def lkE:jl->Int->Int
 | [],_=>0
 |e::l,u=>if lkE l u=0 then(if e.t=u then e.k else 0) else lkE l u
theorem q3a{e:EvM}{u:Int}(b:e.k≠0):∀{l:jl},lkE (l++ [e]) u=if e.t=u then e.k else lkE l u
 | []=>by
  show(if(0:Int)=0 then(if e.t=u then e.k else 0) else 0)=_;rw[if_pos rfl];rfl
 |d::l=>by
  rw[zp,lkE,lkE,q3a b]
  by_cases h:e.t=u
  ·rw[if_pos h,if_pos h,if_neg b]
  ·rw[if_neg h,if_neg h]
def q3l(E:jl):Int:=match E.getLast? with
 |some e=>e.ev
 |none=>0
structure qsN(n:Nat)(E:jl)(e:EvM):Prop where
 t:0<=e.t/\e.t<n
 k:1<=e.k/\e.k<=4
 w:0<=e.w/\e.w<64
 r:∀w∈e.r,0<=w/\w<64
 wl:∀w∈e.wl,0<=w/\w<64
 en:e.k=4->lkE E e.t=3
 pl:e.k≠4->e.r= []/\e.wl= []
 ev:q3l E<=e.ev
 lb:e.r.length<=1000/\e.wl.length<=64
inductive TrW (n:Nat):jl->Prop
 |nil:TrW n []
 |snoc {E:jl} {e:EvM}:TrW n E->qsN n E e->TrW n (E++ [e])
structure qli(n:Nat)(q:RM):Prop where
 tr:TrW n q.E
 ev:q3l q.E<=q.S.length
 el:q.E.length<=q.S.length
 lk:∀(u:Nat) y b,q.xs[u]? =some y->y.at'=some b->b.dn=false->b.ph.past=true->lkE q.E u=3
inductive qe0 (c:Cfg) (p:jg) (t:Nat) (x x':GT):jl->Prop
 |no:(∀b,x'.at'=some b->b.dn=false->b.ph.past=true->∃a,x.at'=some a/\a.dn=false/\a.ph.past=true)->qe0 c p t x x' []
 |bg (a a':AT):x.at'=some a->a.ph= .ent 1->a.dn=false->x'.at'=some a'->a'.ph= .ent 2->qe0 c p t x x' [⟨0,t,3,0,[],[]⟩]
 |en (a a':AT):x.at'=some a->a.ph= .dc->a.dn=false->x'.at'=some a'->a'.dn=true->qe0 c p t x x' [⟨0,t,4,0,a.seen,if a.code=1 then a.ad.filter fun x=>decide (x<c.words) else []⟩]
 |pl (i:Ins):x.at'=none->x.fn=none->x'.at'=none->p[x.th.pc]? =some i->(i.op=12\/i.op=13)->q0V x i<c.words->qe0 c p t x x' [⟨0,t,if i.op=12 then 1 else 2,q0V x i,[],[]⟩]
section
variable{c:Cfg}{ps:List (jg)}{n k:Nat}{q:RM}{m:MS}{g g':GS}{r r':Nat->List (Int×Int)}{t u:Nat}{x:GT}{a:AT}{p:jg}{i:Ins}
theorem q3d(a:AT):a.rest.dn=a.dn/\a.rest.ph.past=true:=by unfold AT.rest;split <;>exact⟨rfl,rfl⟩
theorem qbq(a:AT)(q:Int):(a.endA c q).dn=a.dn:=by unfold AT.endA;split <;>rfl
theorem qbO(a:AT)(q:Ko):(a.kont c q).dn=a.dn:=by
 cases q with
 |en q=>exact qbq a q
 |tk v=>rfl
 |wr w v=>
  unfold AT.kont;dsimp only
  split
  ·exact qbq a 7
  ·split <;>rfl
theorem q8w:((qh c t m a).2.1.dn=false->a.dn=false)/\((qh c t m a).2.1.ph.past=true->a.ph.past=true\/(a.ph= .ent 1/\(qh c t m a).2.1.ph= .ent 2)):=by
 unfold qh;cases e:a.ph with
 |idle=>exact⟨fun h=>h,fun _=> .inl rfl⟩
 |loc q=>exact⟨fun h=>by rw[qbO] at h;exact h,fun _=> .inl rfl⟩
 |ent j=>
  dsimp only
  split
  ·rename_i f;exact⟨fun h=>h,(fun h=>by cases h)⟩
  ·split
   ·rename_i d;exact⟨fun h=>h,fun _=> .inr ⟨by rw[d],rfl⟩⟩
   ·rename_i f d;exact⟨fun h=>h,fun _=> .inl (by show decide (2<=j)=true;exact decide_eq_true Yu)⟩
 |rd j b v=>
  dsimp only;refine⟨fun h=>?_,fun _=> .inl rfl⟩
  split at h
  ·dsimp only at h;split at h <;>exact h
  ·split at h
   ·exact h
   ·dsimp only at h
    split at h
    ·exact h
    ·split at h <;>exact h
 |lk s ld=>
  dsimp only;refine⟨fun h=>?_,fun _=> .inl rfl⟩
  split at h
  ·exact h
  ·split at h <;>exact h
 |tn b=>
  dsimp only;refine⟨fun h=>?_,fun _=> .inl rfl⟩
  split at h
  ·exact h
  ·dsimp only at h
   split at h
   ·split at h <;>exact h
   ·exact h
 |ck l=>
  dsimp only;refine⟨fun h=>?_,fun _=> .inl rfl⟩
  split at h
  ·rw[(q3d _).1] at h;exact h
  ·split at h <;>exact h
 |dc=>
  dsimp only;refine⟨fun h=>?_,fun _=> .inl rfl⟩
  split at h
  ·rw[(q3d _).1] at h;exact h
  ·split at h
   ·cases h
   ·rw[(q3d _).1] at h;cases h
 |wr A V=>
  dsimp only;refine⟨fun h=>?_,fun _=> .inl rfl⟩
  split at h <;>exact h
 |rl A V=>
  dsimp only;refine⟨fun h=>?_,fun _=> .inl rfl⟩
  split at h <;>exact h
 |sp=>exact⟨fun h=>h,fun _=> .inl rfl⟩
 |ps=>exact⟨fun h=>h,fun _=> .inl rfl⟩
 |lv=>exact⟨fun h=>h,fun _=> .inl rfl⟩
theorem qjX:((qh c t m a).2.2.2=3->a.ph= .ent 1/\(qh c t m a).2.1.ph= .ent 2)/\((qh c t m a).2.2.2=16->a.ph= .dc):=by
 unfold qh;cases e:a.ph with
 |ent j=>
  dsimp only
  split
  ·exact⟨fun h=>absurd h (by show(2:Int)≠3;decide),fun h=>absurd h (by show(2:Int)≠16;decide)⟩
  ·split
   ·rename_i d;exact⟨fun _=>⟨by rw[d],rfl⟩,fun h=>absurd h (by show(3:Int)≠16;decide)⟩
   ·exact⟨fun h=>absurd h (by show(4:Int)≠3;decide),fun h=>absurd h (by show(4:Int)≠16;decide)⟩
 |dc=>exact⟨fun h=>absurd h (by show(16:Int)≠3;decide),fun _=>rfl⟩
 |rd j b v=>
  dsimp only
  split
  ·exact⟨fun h=>absurd h (by show(5:Int)≠3;decide),fun h=>absurd h (by show(5:Int)≠16;decide)⟩
  ·split
   ·exact⟨fun h=>absurd h (by show(6:Int)≠3;decide),fun h=>absurd h (by show(6:Int)≠16;decide)⟩
   ·exact⟨fun h=>absurd h (by show(7:Int)≠3;decide),fun h=>absurd h (by show(7:Int)≠16;decide)⟩
 |lk s ld=>
  dsimp only
  split
  ·exact⟨fun h=>absurd h (by show(11:Int)≠3;decide),fun h=>absurd h (by show(11:Int)≠16;decide)⟩
  ·split
   ·exact⟨fun h=>absurd h (by show(12:Int)≠3;decide),fun h=>absurd h (by show(12:Int)≠16;decide)⟩
   ·exact⟨fun h=>absurd h (by show(12:Int)≠3;decide),fun h=>absurd h (by show(12:Int)≠16;decide)⟩
 |tn b=>
  dsimp only
  split
  ·exact⟨fun h=>absurd h (by show(13:Int)≠3;decide),fun h=>absurd h (by show(13:Int)≠16;decide)⟩
  ·exact⟨fun h=>absurd h (by show(14:Int)≠3;decide),fun h=>absurd h (by show(14:Int)≠16;decide)⟩
 |idle=>exact⟨fun h=>absurd h (by show(0:Int)≠3;decide),fun h=>absurd h (by show(0:Int)≠16;decide)⟩
 |loc q=>exact⟨fun h=>absurd h (by show(0:Int)≠3;decide),fun h=>absurd h (by show(0:Int)≠16;decide)⟩
 |ck l=>exact⟨fun h=>absurd h (by show(15:Int)≠3;decide),fun h=>absurd h (by show(15:Int)≠16;decide)⟩
 |wr A V=>exact⟨fun h=>absurd h (by show(17:Int)≠3;decide),fun h=>absurd h (by show(17:Int)≠16;decide)⟩
 |rl A V=>exact⟨fun h=>absurd h (by show(18:Int)≠3;decide),fun h=>absurd h (by show(18:Int)≠16;decide)⟩
 |sp=>exact⟨fun h=>absurd h (by show(19:Int)≠3;decide),fun h=>absurd h (by show(19:Int)≠16;decide)⟩
 |ps=>exact⟨fun h=>absurd h (by show(20:Int)≠3;decide),fun h=>absurd h (by show(20:Int)≠16;decide)⟩
 |lv=>exact⟨fun h=>absurd h (by show(24:Int)≠3;decide),fun h=>absurd h (by show(24:Int)≠16;decide)⟩
theorem qoG{b:AT}(h:(x.ans p a i).at'=some b):b=a:=by
 unfold GT.ans at h
 split at h
 ·unfold GT.endG GT.to at h;dsimp only at h
  (repeat' split at h) <;>cases h
 ·split at h <;>(cases h;rfl)
theorem q3x{b:AT}(h:(q0H c p t m x a i).2.1.at'=some b):b=(qh c t m a).2.1:=by
 unfold q0H at h;dsimp only at h
 split at h
 ·cases h;rfl
 ·exact qoG h
theorem qe6(H:AI c t m a){G:GT}(d:G.at'=some a\/(a.ph≠ .ent 1/\a.ph≠ .dc/\(a.ph.past=true->∃a0,G.at'=some a0/\(a.dn=false->a0.dn=false)/\a0.ph.past=true))):qe0 c p t G (q0H c p t m x a i).2.1 (q0H c p t m x a i).2.2.2:=by
 obtain⟨d1,d2⟩:=q8w (c:=c) (t:=t) (m:=m) (a:=a);obtain⟨K,M⟩:=qjX (c:=c) (t:=t) (m:=m) (a:=a);have E:(q0H c p t m x a i).2.2.2=evA c t (qh c t m a).2.1 (qh c t m a).2.2.2:=rfl;rw[E];unfold evA
 by_cases w:(qh c t m a).2.2.2=3
 ·rw[if_pos w];obtain⟨j,v⟩:=K w
  rcases d with d|⟨d,_⟩
  ·have hb:(qh c t m a).2.1.busy=true:=by unfold AT.busy;rw[v]
   refine .bg a (qh c t m a).2.1 d j ?_ ?_ v
   ·have:=H.ph;unfold PhA at this;rw[j] at this;exact this.1.1
   ·unfold q0H;dsimp only;rw[if_pos hb]
  ·exact absurd j d
 ·rw[if_neg w]
  by_cases f:(qh c t m a).2.2.2=16/\(qh c t m a).2.1.dn=true
  ·rw[if_pos f];have j:=M f.1
   rcases d with d|⟨_,d,_⟩
   ·have s:a.dn=false:=by
     have:=H.ph;unfold PhA at this;rw[j] at this;exact this.1
    have F:=q3u (c:=c) (t:=t) (m:=m) j;have z:(qh c t m a).2.1.seen=a.seen/\(qh c t m a).2.1.ad=a.ad/\(qh c t m a).2.1.code=a.code/\(qh c t m a).2.1.busy=true:=by
     have hd:=f.2;rw[F] at hd ⊢;dsimp only at hd ⊢;have J:∀y:AT,y.rest.seen=y.seen/\y.rest.ad=y.ad/\y.rest.code=y.code/\y.rest.busy=true:=fun y=>by unfold AT.rest;split <;>exact⟨rfl,rfl,rfl,rfl⟩
     split
     ·rename_i C;rw[if_pos C,(q3d _).1] at hd;rw[show({a with ck:=m.ck,code:=6}:AT).dn=a.dn from rfl,s] at hd;cases hd
     ·split
      ·exact⟨rfl,rfl,rfl,rfl⟩
      ·exact J _
    rw[z.1,z.2.1,z.2.2.1];refine .en a (qh c t m a).2.1 d j s ?_ f.2;unfold q0H;dsimp only;rw[if_pos z.2.2.2]
   ·exact absurd j d
  ·rw[if_neg f];refine .no fun b hb o A=>?_
   obtain rfl:=q3x hb
   rcases d2 A with h|⟨h,h'⟩
   ·rcases d with d|⟨_,_,d⟩
    ·exact⟨a,d,d1 o,h⟩
    ·obtain⟨a0,j,v,I⟩:=d h;exact⟨a0,j,v (d1 o),I⟩
   ·exfalso;apply w;unfold qh;rw[h];rfl
theorem q9d{rg:Rg}:(q1D c rg a i).ph≠ .ent 1/\(q1D c rg a i).ph≠ .dc/\(q1D c rg a i).dn=a.dn:=by
 unfold q1D AT.read
 (repeat' split) <;>exact⟨(fun h=>by cases h),(fun h=>by cases h),rfl⟩
theorem qh9(h:q23 c ps n k q g r)(N:q.xs[t]? =some x)(Q:ps[t]? =some p)(M:PrO p)(hd:x.th.dn=false):qe0 c p t x (qH c p n t q.m x).2.1 (qH c p n t q.m x).2.2.2:=by
 obtain⟨f1,f2⟩:=h.fn N Q M;obtain⟨i,F,f3⟩:=f2 hd;have s:∀x',x'.at'=none->qe0 c p t x x' []:=fun x' e=> .no fun b hb=>by rw[e] at hb;cases hb
 have hw:x.at'=none->∀f,qe0 c p t x (q0x n p t q.m x f).2.1 []:=fun d f=>s _ (by unfold q0x;dsimp only;split <;>exact d)
 unfold qH;rw[F];dsimp only;cases K:x.fn with
 |some f=>exact hw (f1 (by rw[K];exact fun e=>by cases e)) f
 |none=>
  dsimp only;cases d:x.at' with
  |some a=>
   dsimp only;have G:=h.gi.ai t x a N d
   split
   ·exact qe6 G (.inl d)
   ·rename_i hb;have o:a.busy=false:=by simpa using hb
    obtain⟨b1,b2,b3,R⟩:=f3 a d o;have w:a.ph= .idle:=by
     unfold AT.busy at o;cases e:a.ph <;>rw[e] at o <;>first|rfl|cases o
    unfold q2I;rw[if_neg Yu,if_neg R];unfold q1f;rw[if_neg b1]
    by_cases y:8<=i.op/\i.op<=11
    ·rw[if_pos y,d];dsimp only;have A:=h.gi.th t x p N Q;have C:a.dn=false:=by
      have:=G.ph;unfold PhA at this;rw[w] at this;exact this.1
     unfold ThR at A;rw[d] at A;dsimp only at A;rw[if_neg (by rw[C];decide)] at A;obtain⟨_,H,_⟩:=qcf A.2.2 G w F y;obtain⟨U,W,Y⟩:=q9d (c:=c) (a:=a) (i:=i) (rg:=x.th.rg);exact qe6 H (.inr ⟨U,W,fun _=>⟨a,d,fun e=>by rw[Y] at e;exact e,by rw[w];rfl⟩⟩)
    ·rw[if_neg y];refine .no fun b hb I J=>?_
     have e:x.at'=some b:=hb;exact⟨b,e,I,J⟩
  |none=>
   dsimp only;unfold q2I
   by_cases v:i.op=12\/i.op=13
   ·rw[if_pos v];unfold q04
    by_cases E:c.words<=q0V x i
    ·rw[if_pos E];exact s _ d
    ·rw[if_neg E]
     by_cases j:i.op=12
     ·rw[if_pos j];have:=qe0.pl (c:=c) (p:=p) (t:=t) (x:=x) (x':=({x with th:={x.th with rg:=x.th.rg.set i.a.toNat (q.m.d.getD (q0V x i).toNat 0)},obs:=x.obs++ [⟨x.th.pc,4,q.m.d.getD (q0V x i).toNat 0⟩]}:GT).to p.length (x.th.pc+1)) i d K d F v Yu;rw[if_pos j] at this;exact this
     ·rw[if_neg j];have:=qe0.pl (c:=c) (p:=p) (t:=t) (x:=x) (x':=({x with obs:=x.obs++ [⟨x.th.pc,5,x.th.rg.get i.b.toNat⟩]}:GT).to p.length (x.th.pc+1)) i d K d F v Yu;rw[if_neg j] at this;exact this
   ·rw[if_neg v]
    by_cases z:i.op=16
    ·rw[if_pos z];exact hw d _
    ·rw[if_neg z];unfold q1f
     by_cases P:i.op=7
     ·rw[if_pos P];exact qe6 AI.start (.inr ⟨(fun e=>by cases e),(fun e=>by cases e),(fun e=>by cases e)⟩)
     ·rw[if_neg P]
      by_cases y:8<=i.op/\i.op<=11
      ·rw[if_pos y,d];exact s _ d
      ·rw[if_neg y];exact s _ d
end
end Go.Proofs.YtikpjajangpdjaaGreatDoor
