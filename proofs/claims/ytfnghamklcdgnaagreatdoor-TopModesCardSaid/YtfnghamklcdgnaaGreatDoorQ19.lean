/- What the laws share, part 19. No condition. -/
import Derived.Test.YtfnghamklcdgnaaGreatDoorQ18
set_option maxHeartbeats 16000000
set_option maxRecDepth 100000
namespace Go.Proofs.YtfnghamklcdgnaaGreatDoor
open Go
def plT(a n:Int):Int:=IntKind.u64.wrap a % n
theorem q97(a:Int){n:Int}(h:0<n):0<=plT a n/\plT a n<n:=⟨Y2 _ Yb,yK _ h⟩
def cfF:Cfg:=⟨4,3,0,0,0,0,0,8,8,0,0,1000,false⟩
def iF(v w:Int):jf:= [⟨1,2,0,0,v⟩,⟨1,1,0,0,0⟩,⟨7,0,0,0,2⟩,⟨10,3,0,0,0⟩,⟨6,3,0,0,2⟩,⟨11,0,2,0,0⟩,⟨1,1,0,0,1⟩,⟨8,0,0,0,0⟩,⟨5,1,0,0,8⟩,⟨16,0,0,0,0⟩,⟨12,4,0,0,w⟩,⟨3,4,4,2,0⟩,
 ⟨13,0,4,0,w⟩,⟨1,5,0,0,0⟩,⟨7,0,0,0,8⟩,⟨11,0,5,0,0⟩,⟨8,0,0,0,0⟩,⟨7,0,0,0,3⟩,⟨10,3,0,0,0⟩,⟨6,3,0,0,3⟩,⟨10,4,0,0,w⟩,⟨3,4,4,2,5⟩,⟨11,0,4,0,w⟩,⟨8,0,0,0,0⟩]
def q2j(v w:Int):Nat->jf
 |0=> []
 |k+1=>iF v w++q2j v w k
theorem q3X(v w:Int):∀k,q2j v w k++iF v w=q2j v w (k+1)
 |0=>by rw[q2j,q2j,q2j,zC,zj]
 |k+1=>by rw[q2j,zd,q3X v w k];rfl
theorem q4U(v w:Int):∀k,(q2j v w k).length=24*k
 |0=>rfl
 |k+1=>by rw[q2j,z8,q4U v w k,show(iF v w).length=24 from rfl];omega
structure PW where
 h:PH
 D:Own
abbrev PW.ok(x:PW):Prop:=qq Ins.enc 62 5 x.h.a x.h.cap x.h.p x.D
def qds(l:List PW):Own:=(l.map PW.D).flatten
theorem qdt{l:List PW}{x:PW}:qds (l++ [x])=qds l++x.D:=by simp[qds]
theorem qjv{W0:World}{l:List PW}{x:PW}(h:x∈l):Ent W0 (qds l) x.D:=by
 obtain⟨l1,l2,rfl⟩:=Zz h;unfold qds;rw[zv,zG,zP,Z1];exact Ent.right.trans Ent.left
def PgF(t:Nat)(p:jf):Prop:=∃(w:Int) (k:Nat),(1<=w/\w<=3)/\(1<=k/\k<=2)/\p=q2j ((t:Int)+1) w k
abbrev scP(c:Cfg)(i p k:Value):Obj->Prop:=fun z=>z=Obj.cells #[j4 c.words,j4 c.orecs,j4 c.base,j4 c.c0,j4 c.c1,j4 c.c2,j4 c.c3,j4 c.reads,j4 c.writes,j4 c.allocs,j4 c.frees,j4 c.clock, .bool c.strong,i,p,k] 34 (0,0)
abbrev zS:Obj->Prop:=fun z=>z=Obj.cells #[j4 0,j4 0,j4 0,j4 0,j4 0,j4 0,j4 0,j4 0,j4 0,j4 0,j4 0,j4 0, .bool false,j6,j6,j6] 34 (0,0)
abbrev inF:Obj->Prop:=fun z=>z=Obj.cells #[j5 0,j5 5,j5 6,j5 7] 45 (0,0)
section
variable{W0:World}{own:Own}{a:j8}{l:jd}{cap:Nat}
theorem qem(W0:World)(own:Own)(a:Int){n:Int}(b:0<n/\n<=9223372036854775807):jl W0 16 [j4 a,j4 n] own (j4 (plT a n)):=by
 refine qi (sH [] ?_);refine arw ?_;have hu:=q0l a;have hp:=q97 a b.1;unfold plT qV okU at*;generalize IntKind.u64.wrap a=u at*
 repeat'((try conv=>whnf);first|refine fB ?_|refine fC ?_|refine q2R ?_ ?_;omega)
 exact⟨rfl,(eC)⟩
theorem ql9{α:Type}{enc:α->je}{sz:Nat}{a:j8}{l:List α}{cap:Nat}{T:TypeId}{bytes m:Nat}{zs:je}{D:Own}{C:Own->Own}{a2:j8}{l2:List α}{K:Value->Own->Prop}(g:qq enc T sz a cap l D)(j:RdE enc sz W0 own a2 l2) [mm:AtC D own C](hm:m=l2.length)
  (k:zs.length=sz) (i:0<sz) (f:∀x∈l2,(enc x).all q2r=true) (hb:(l.length+l2.length)*bytes<=140737488355328)
  (h:∀e b c,qq enc T sz e b (l++l2) c->K (.slice e (l.length+l2.length) b) (C c)):qc6 W0 own T sz bytes zs a l.length cap a2 m K:=
 qfl g j hm k i f (fun _=>hb) h
theorem qmc{A A':jg}{T:TypeId}{fz:Nat×Nat}{K:Nat->Own->Prop}(e:A=A')(h:∀b,W0.heap.size<=b->K b ((b,(· =Obj.cells A' T fz))::own)):New W0 own (Obj.cells A T fz) K:=by subst e;exact qg h
theorem qia{k:IntKind}{m n:Int}{K:Int->Prop}(b:n≠0)(h:K (k.wrap (m.tdiv n))):Quo k m n K:=⟨b,h⟩
theorem qjV(c:RdE qw 1 W0 own a l)(j:Nat):jl W0 15 [.slice a l.length cap,j4 j] own (j4 (l.getD j 0)):=by
 refine qi (sH [] ?_);rw[zg]
 by_cases e:j<l.length
 ·obtain⟨x,b⟩:∃x,l[j]? =some x:=⟨_,z6 e⟩
  repeat'((try conv=>whnf);first|refine fH ?_|refine fF ?_|apply gLd;refine q0n c b rfl ?_|(apply qL;first|refine ixE c b ?_ ?_;(first|rfl|omega)))
  all_goals exact⟨by rw[b];rfl,(eC)⟩
 ·repeat'((try conv=>whnf);first|refine fH ?_|refine fG ?_)
  all_goals exact⟨by rw[zR Yb];rfl,(eC)⟩
end
section
variable{W0:World}{own:Own}
theorem qgm{la ka:j8}{lc kc n:Nat}{ls ks:jd}(hL:RdE qw 1 W0 own la ls)(hK:RdE qw 1 W0 own ka ks)(hkl:ks.length<=1000)(hn:1<=n/\n<=16):
  jk W0 8 [j4 n, .slice la ls.length lc, .slice ka ks.length kc] own fun v own'=>
   ∃s:(j8×Nat×Own)×List PW×(j8×Nat×Own)×Nat,(v=q9e cfF (some ⟨s.2.2.2,0,none⟩) 4 4 s.1.1 (s.2.1.map PW.h).length s.1.2.1 s.2.2.1.1 (ks.map fun z=>plT z n).length s.2.2.1.2.1/\qq PH.enc 60 1 s.1.1 s.1.2.1 (s.2.1.map PW.h) s.1.2.2/\s.2.1.length=n/\(∀t x,s.2.1[t]? =some x->x.ok/\PgF t x.h.p)/\qq qw 3 1 s.2.2.1.1 s.2.2.1.2.1 (ks.map fun z=>plT z n) s.2.2.1.2.2)/\
    Ent W0 own' ((s.2.2.2,inF)::(s.1.2.2++(qds s.2.1++(s.2.2.1.2.2++own)))):=by
 refine sH (jo 8 3 [20,22,23,26,0]) ?_
 repeat'((try conv=>whnf);first|refine qg fun O hbk=>?_|refine fM ?_)
 rename_i N hb6 b hb16;refine qQ (σ:=Nat×(j8×Nat×Own)×List PW) (fun s=> [(8,j4 s.1)]) (fun s=>(N,zS)::(b,inF)::(O,scP cfF (.slice (some ⟨b,0,none⟩) 4 4) (.slice s.2.1.1 (s.2.2.map PW.h).length s.2.1.2.1) (j6))::(s.2.1.2.2++(qds s.2.2++own)))
  (fun s=>s.1<=n/\qq PH.enc 60 1 s.2.1.1 s.2.1.2.1 (s.2.2.map PW.h) s.2.1.2.2/\s.2.2.length=s.1/\∀t x,s.2.2[t]? =some x->x.ok/\PgF t x.h.p) (fun s=>n-s.1) (0,(none,0,[]),[]) ⟨zl _,qq.nil,rfl,fun _ _ h=>(by cases h)⟩ (eF) (by dsimp only[qds,List.map_nil,List.flatten_nil];simp only[zj];exact sbE) rfl ?_
 rintro⟨i,⟨A,B,Z⟩,ps⟩ junk ⟨hi,g,e,u⟩;dsimp only at hi g e u ⊢;have hpl2:(ps.map PW.h).length=i:=by rw[zi];exact e
 by_cases S:i<n
 ·have K:(i:Int)<n:=Yb;have E:=fun own' (m:qx own' own)=>qjV (W0:=W0) (own:=own') (cap:=lc) hL.up i
  have W:=fun own' z=>qem W0 own' z (n:=3) Yc
  have V:=fun own' z=>qem W0 own' z (n:=2) Yc
  generalize ls.getD i 0=z at E;have hw:=q97 z (n:=3) Yc
  repeat'((try conv=>whnf);first|refine fF ?_|(apply qe;first|refine qd (E _ Ye) ?_|refine qd (W _ z) ?_)|refine fB ?_)
  have hR:=q97 (IntKind.i64.wrap (z.tdiv 3)) (n:=2) Yc;have r:=fun own'=>V own' (IntKind.i64.wrap (z.tdiv 3))
  generalize plT (IntKind.i64.wrap (z.tdiv 3)) 2=R at hR r;generalize plT z 3=c at hw;refine qQ (σ:=Nat×j8×Nat×Own) (fun s=> [(13,j4 s.1),(12, .slice s.2.1 (q2j ((i:Int)+1) (1+c) s.1).length s.2.2.1)]) (fun s=>(N,zS)::(b,inF)::(O,scP cfF (.slice (some ⟨b,0,none⟩) 4 4) (.slice A (ps.map PW.h).length B) (j6))::(s.2.2.2++(Z++(qds ps++own))))
   (fun s=>(s.1:Int)<=1+R/\qq Ins.enc 62 5 s.2.1 s.2.2.1 (q2j ((i:Int)+1) (1+c) s.1) s.2.2.2) (fun s=>2-s.1) (0,none,0,[]) ⟨by show((0:Nat):Int)<=_;omega,qq.nil⟩ (eF) (by simp only[zj];exact sbE) rfl ?_
  rintro⟨k,a,cap,D⟩ y ⟨hk,f⟩;dsimp only at hk f ⊢;have hcl:=q4U ((i:Int)+1) (1+c) k
  by_cases Q:(k:Int)<1+R
  ·repeat'((try conv=>whnf);first|refine fF ?_|refine qia Yc ?_|(with_reducible show New _ _ _ _);apply Stop.h|apply qe;refine qd (r _) ?_|refine fB ?_)
   refine Stop.mk ?_;refine qmc (A':=(((iF ((i:Int)+1) (1+c)).map Ins.enc).flatten).toArray) (by kernel_rfl) fun be G=>?_
   conv=>whnf
   refine ql9 f (q1Q (l:=iF ((i:Int)+1) (1+c)) (by(repeat(first|exact List.Mem.head _|apply List.Mem.tail))) (fun _ _=>rfl) (by rw[zQ])) rfl rfl Yb (fun _ _=>rfl) (by have:(iF ((i:Int)+1) (1+c)).length=24:=rfl;omega) fun a2 c2 D2 F=>?_
   repeat'((try conv=>whnf);first|refine fB ?_)
   all_goals
    rw[q3X] at F;refine⟨(k+1,a2,c2,D2),⟨by show((k+1:Nat):Int)<=_;omega,F⟩,by simp only;omega,?_,sbE⟩;dsimp only;rw[show(q2j ((i:Int)+1) (1+c) (k+1)).length=(q2j ((i:Int)+1) (1+c) k).length+(iF ((i:Int)+1) (1+c)).length by rw[<-q3X,z8]];exact(eF)
  ·have hkt':¬(k:Int)<1+R:=Q;have hkR:(k:Int)=1+R:=Yb
   repeat'((try conv=>whnf);first|refine fG ?_|refine qia Yc ?_|refine qg fun be G=>?_|apply q0f (enc:=PH.enc) (T:=60) (⟨a,cap,q2j ((i:Int)+1) (1+c) k⟩:PH) g;exact rfl;exact rfl;omega;exact rfl;exact rfl;omega;intro a5 c5 D5 o|apply qe;refine qd (r _) ?_|refine fB ?_|refine fA ?_|refine fN ?_)
   all_goals
    refine⟨(i+1,(a5,c5,D5),ps++ [⟨⟨a,cap,q2j ((i:Int)+1) (1+c) k⟩,D⟩]),⟨S,by dsimp only;rw[zv];exact o,by dsimp only;rw[z8,e];rfl,fun t x C=>?_⟩,by simp only;omega,(eF),?_⟩
    ·dsimp only at C
     by_cases M:t<ps.length
     ·rw[zB M] at C;exact u t x C
     ·have U:=(z7.1 C).1;rw[z8,zA] at U;obtain rfl:t=i:=Yb;rw[zJ Yb,e,ZC] at C;cases C;exact⟨f,1+c,k,Yb,Yb,rfl⟩
    ·dsimp only;rw[qdt,zv,z8];simp only[zd];exact sbE
 ·obtain rfl:i=n:=Yb;have K:¬(i:Int)<i:=Yb
  repeat'((try conv=>whnf);first|refine fG ?_)
  refine qQ (σ:=Nat×j8×Nat×Own) (fun s=> [(14,j4 s.1)]) (fun s=>(N,zS)::(b,inF)::(O,scP cfF (.slice (some ⟨b,0,none⟩) 4 4) (.slice A (ps.map PW.h).length B) (.slice s.2.1 ((ks.take s.1).map fun z=>plT z i).length s.2.2.1))::(s.2.2.2++(Z++(qds ps++own))))
   (fun s=>s.1<=ks.length/\qq qw 3 1 s.2.1 s.2.2.1 ((ks.take s.1).map fun z=>plT z i) s.2.2.2) (fun s=>ks.length-s.1) (0,none,0,[]) ⟨zl _,qq.nil⟩ (eF) (by simp only[zj];exact sbE) rfl ?_
  rintro⟨j,a,cap,D⟩ y ⟨hj,f⟩;dsimp only at hj f ⊢;have M:((ks.take j).map fun z=>plT z i).length=j:=by rw[zi,zM];omega
  by_cases I:j<ks.length
  ·obtain⟨z,Y⟩:∃z,ks[j]? =some z:=⟨_,z6 I⟩
   have J:(j:Int)<ks.length:=Yb;have X:∀own':Own,jl W0 16 [j4 z,j4 i] own' (j4 (plT z i)):=fun own'=>qem W0 own' z (n:=(i:Int)) Yb
   have L:(ks.take (j+1)).map (fun z=>plT z i)=((ks.take j).map fun z=>plT z i)++ [plT z i]:=by rw[zY,Y,zv];rfl
   repeat'((try conv=>whnf);first|refine fF ?_|refine qg fun be G=>?_|apply q0f (enc:=qw) (T:=3) (plT z i) f;exact rfl;exact rfl;omega;exact rfl;exact rfl;omega;intro a5 c5 D5 o|apply gLd;refine q0n hK Y rfl ?_|(apply qL;first|refine ixE hK Y ?_ ?_;(first|rfl|omega))|apply qz;refine qm (fun ex=>X _) ?_|refine fB ?_|refine fA ?_|refine fN ?_)
   all_goals
    refine⟨(j+1,a5,c5,D5),⟨I,by dsimp only;rw[L];exact o⟩,by simp only;omega,(eF),?_⟩;dsimp only;rw[L,z8];exact sbE
  ·obtain rfl:j=ks.length:=Yb;have J:¬(ks.length:Int)<ks.length:=Yb;rw[Z3] at f ⊢
   repeat'((try conv=>whnf);first|refine fG ?_|refine fL ?_|refine fM ?_)
   all_goals exact⟨((A,B,Z),ps,(a,cap,D),b),⟨rfl,g,e,u,f⟩,sbE⟩
end
open Go Go.Proofs.YtfnghamklcdgnaaGreatDoor.Ord
theorem qg6{c:Cfg}{il:jd}{O:Nat}{ps:List (jf)}(hil:(il.length:Int)=c.words)(hw:c.words<=64):qkZ c il O ps [] (q4j c il ps):=by
 have b:∀x∈ps.map q3f,x.obs= []/\x.at'=none:=fun x e=>by
  obtain⟨p,_,rfl⟩:=zO.1 e;exact⟨rfl,rfl⟩
 refine⟨fun k t g=>(by cases g),zl _,fun x e=>by rw[(b x e).1];exact zl _,fun u x a e f=>?_,rfl,?_,fun t x e=>⟨[],?_⟩, .inr ⟨_,rfl⟩,?_⟩
 ·rw[(b x (zh e)).2] at f;cases f
 ·show(q4j c il ps).O.length=(ps.map q3f).length;unfold q4j;rw[zi,zi]
 ·rw[(b x (zh e)).1,zC];unfold q4j;dsimp only;rw[zg,zI];cases ps[t]? <;>rfl
 ·show il.length<=1000;omega
def iZ:Ins:=⟨0,0,0,0,0⟩
def cfA:Cfg:=⟨1,1,0,0,0,0,0,1,1,0,0,0,false⟩
theorem qo3:PrO [iZ]:=⟨Yc⟩
theorem qnP{l:jd}(h:(l.all fun x=>decide (okU x))=true):q3x l:=fun v b=>of_decide_eq_true (Z7.1 h v b)
theorem qjE:(q0Y cfA [5] 1 [[iZ]] [0]).S.length=1/\∃x,(q0Y cfA [5] 1 [[iZ]] [0]).xs= [x]/\x.th.dn=true/\x.obs.length=0:=⟨by rfl,⟨_,rfl,by rfl,by rfl⟩⟩
theorem qoJ:(q0Y cfA [5] 1 [[iZ]] [0]).S.length<=1000:=by rw[qjE.1];decide
theorem qnI:∀x∈(q0Y cfA [5] 1 [[iZ]] [0]).xs,x.obs.length<=100000:=fun x b=>by
 obtain⟨_,y,c,_,e⟩:=qjE;rw[c] at b;rw[zf.1 b,e]
 decide
theorem qok:∀k t,[0][k]? =some t->StG cfA [[iZ]] 1 (q0Y cfA [5] 1 [[iZ]] ([0].take k)) t:=fun k t e=>by
 have f:k=0:=by have:=(z7.1 e).1;simp at this;exact this
 subst f;cases e;refine⟨fun x p j g hd=>?_,zl _⟩;cases j;cases g;refine⟨⟨Yc,Yc,Yc,Yc,Yc,Yc,fun b i hb c=>?_⟩,iZ,⟨rfl,qlZ Yc,Rg.ok_0,zl _,rfl,zl _,zl _,zl _,zl _,zl _,zl _,fun _ h=>(by cases h), .inl (.inl ⟨Yc,Yc⟩)⟩⟩;rw[zf.1 (zh hb)] at c;exact absurd c Yc
section
variable{W0:World}{own:Own}
theorem qbv(A:qE W0)(own:Own):jl W0 11 [] own (.bool true):=by
 refine qi (sH [] ?_);have F:=fun(own':Own) (ia pa ka:j8) (a:j8) (ic pc kc cap:Nat) (B:RdE q06 1 W0 own' ia [5]) (D:RdE PH.enc 1 W0 own' pa [⟨a,cap,[iZ]⟩]) (E:RdE Ins.enc 5 W0 own' a [iZ]) (C:RdE qw 1 W0 own' ka [0])=>
  qid (W0:=W0) (own:=own') (c:=cfA) (ic:=ic) (pc:=pc) (kc:=kc) (O:=1) (l:= [0]) A (by rfl) Yc B rfl Yc Yc rfl Yc D (fun h j=>by rw[zf.1 j];exact E) C (by show 1<=1;decide) (by show 1<=16;decide) (fun h j=>by rw[zf.1 j];exact qo3.ck) (fun h j=>by rw[zf.1 j];show 1<=_;decide) rfl Yc (fun t G=>by rw[zf.1 G];show 0<1;exact Nat.zero_lt_one) qok qoJ qnI
 obtain⟨hS1,r⟩:=qjE
 repeat'((try conv=>whnf);first|refine qg fun z n=>?_|refine fL ?_|refine fM ?_)
 rename_i b1 h1 b2 h2 b3 h3 u h4
 repeat'((try conv=>whnf);first|(apply qe;first|refine qk (F _ (some ⟨b1,0,none⟩) (some ⟨b3,0,none⟩) (some ⟨u,0,none⟩) (some ⟨b2,0,none⟩) 1 1 1 1 (q1Q (by(repeat(first|exact List.Mem.head _|apply List.Mem.tail))) (fun _ _=>rfl) rfl) (q1Q (by(repeat(first|exact List.Mem.head _|apply List.Mem.tail))) (fun _ _=>rfl) rfl) (q1Q (by(repeat(first|exact List.Mem.head _|apply List.Mem.tail))) (fun _ _=>rfl) rfl) (q1Q (by(repeat(first|exact List.Mem.head _|apply List.Mem.tail))) (fun _ _=>rfl) rfl)) fun y v I=>?_;apply Stop.h))
 obtain⟨⟨cs,ta,tc,tD,sa,sc,sD,ea,ec,oa,oc,oD,ol,da,el,eD,gD⟩,L⟩:=y;obtain⟨rfl,b,f⟩:=I;dsimp only at b f;have o:([⟨some ⟨b2,0,none⟩,1,[iZ]⟩]:ji).map PH.p= [[iZ]]:=rfl;rw[o] at b f ⊢;generalize q0Y cfA [5] 1 [[iZ]] [0]=R at*;obtain⟨a1,a2,a3,a4,a5,n1,c1,n2,c2,n3,c3,n4,c4,n5,c5,x1,x2,x3,e⟩:=b.sh;dsimp only at e;subst e;obtain⟨x,J,s, -⟩:=r;rw[J] at f;obtain⟨y,rfl⟩:∃y,L= [y]:=List.length_eq_one_iff.1 (by have:=congrArg List.length f;rwa[zi] at this)
 have K:y.x=x:=by simpa using f
 have g:=b.ht.rd (W0:=W0);obtain⟨th,m⟩:∃th,y.x.th=th:=⟨_,rfl⟩
 have i:th.dn=true:=by rw[<-m,K];exact s
 have k:([y].map fun y=>y.x.th)[0]? =some th:=by rw[<-m];rfl
 obtain⟨pc,rg,ocn,dn⟩:=th;dsimp only at i;subst i;have hS2:(R.S.length:Int)=1:=Yb;refine Stop.mk ?_
 repeat'((try conv=>whnf);first|refine fH ?_|refine fJ ?_|apply gLd;refine qm6 g k rfl ?_|(apply qL;first|refine ixE g k ?_ ?_;(first|rfl|omega))|refine fO ?_|refine fA ?_|refine fM ?_|refine qg fun z n=>?_)
 all_goals exact⟨rfl,sbE⟩
end
open Go Go.Proofs.YtfnghamklcdgnaaGreatDoor.Ord
theorem qft{v w:Int}{k:Nat}(hv:1<=v/\v<=3)(hw:1<=w/\w<=3)(hk:1<=k/\k<=2):PrO (q2j v w k):=by
 have b:v=1\/v=2\/v=3:=Yb;have c:w=1\/w=2\/w=3:=Yb;have e:k=1\/k=2:=Yb
 rcases e with rfl|rfl <;>rcases b with rfl|rfl|rfl <;>rcases c with rfl|rfl|rfl <;>exact⟨Yc⟩
theorem q8L{v w:Int}{k:Nat}(hk:1<=k/\k<=2):(q2j v w k).length<=64:=by rw[q4U];omega
abbrev ilF:jd:= [0,5,6,7]
theorem qoO{ps:List (jf)}{l:jh}(f:1<=ps.length/\ps.length<=3)(g:∀(t:Nat) p,ps[t]? =some p->PgF t p)(b:l.length<=1000)(c:∀t∈l,t<ps.length):ql1 cfF ilF 3 ps l/\(∀p∈ps,PrO p)/\∀p∈ps,p.length<=64:=by
 have h:∀p∈ps,PrO p/\p.length<=64:=fun p hm=>by
  obtain⟨t,i,rfl⟩:=yj hm;obtain⟨w,k,hw,b,e⟩:=g t _ (z6 i);rw[e];exact⟨qft Yb hw b,q8L b⟩
 exact⟨⟨Yc,rfl,Yc,Yc,qnP Yc,rfl,Yc,f.1,Yb,fun p hm=>(h p hm).1.ck,fun p hm=>Zq (h p hm).2 Yc,b,c⟩,fun p hm=>(h p hm).1,fun p hm=>(h p hm).2⟩
section
variable{W0:World}{own:Own}
theorem qbw(B:qE W0)(E:q0Z W0 0 noneV)(own:Own):jl W0 5 [] own (.bool true):=by
 refine qi (sH [] ?_);have m:=fun own=>qbv (W0:=W0) B own
 have o:=fun(own':Own)=>qgm (W0:=W0) (own:=own') (la:=none) (ka:=none) (lc:=0) (kc:=0) (n:=2) (ls:= []) (ks:= []) RdE.nil RdE.nil (zl _) Yc
 have z:=fun(own':Own)=>qaU (W0:=W0) (own:=own') (a:=none) (l:= []) (cap:=0) (n:=2) E RdE.nil (fun e he=>by cases he) (zl _) Yc Yc TrW.nil rfl (fun e he=>by cases he)
 repeat'((try conv=>whnf);first|(apply qe;first|refine qk (o _) fun y v J=>?_;apply Stop.h))
 obtain⟨⟨pa,pc,L⟩,ps,⟨ka,kc,K⟩,b⟩:=y;obtain⟨rfl,i,j,f,g⟩:=J;dsimp only at i j f g;have s:∀(t:Nat) p,((ps.map PW.h).map PH.p)[t]? =some p->PgF t p:=fun t p C=>by
  rw[ZV,zI] at C;obtain⟨x,k,rfl⟩:=Zf.1 C;exact(f t x k).2
 have hln:((ps.map PW.h).map PH.p).length=2:=by rw[zi,zi];exact j
 obtain⟨I,hpo,hp64⟩:=qoO (ps:=(ps.map PW.h).map PH.p) (l:= []) Yb s (zl _) (fun t u=>by cases u);have G:=qg6 (c:=cfF) (il:=ilF) (O:=3) (ps:=(ps.map PW.h).map PH.p) rfl Yc;have r:=i.rd (W0:=W0);have A:=fun(own':Own) (D:RdE q06 1 W0 own' (some ⟨b,0,none⟩) ilF) (m1:qx own' L) (m2:qx own' (qds ps)) (m3:qx own' K)=>q6r (W0:=W0) (own:=own') (c:=cfF) (ia:=some ⟨b,0,none⟩) (ic:=4) (pa:=pa) (pc:=pc) (ka:=ka) (kc:=kc) (l:= []) B I G D r.up (fun h F=>by
  obtain⟨x,k,rfl⟩:=zO.1 F;obtain⟨t,u,rfl⟩:=yj k;exact((((f t _ (z6 u)).1.rd (W0:=W0)).ent (qjv k))).up) ((g.rd (W0:=W0)).up)
 refine Stop.mk ?_
 repeat'((try conv=>whnf);first|refine fH ?_|(apply qe;first|refine qd (A _ (q1Q (by(repeat(first|exact List.Mem.head _|apply List.Mem.tail))) (fun _ _=>rfl) rfl) Ye Ye Ye) ?_|refine qd (z _) ?_|refine qd (m _) ?_)|refine fO ?_|refine fA ?_|refine fL ?_|refine fM ?_|refine qg fun bk hbk=>?_)
 all_goals exact⟨rfl,(eC)⟩
end
open Go Go.Proofs.YtfnghamklcdgnaaGreatDoor.Ord
theorem qjt{A B:List PB}{y:PB}:q4E (A++y::B)=q4E A++(y.D++q4E B):=by simp[q4E]
theorem qfU{W0:World}{l:List PB}{x:PB}(h:x∈l):Ent W0 (q4E l) x.D:=by
 obtain⟨l1,l2,rfl⟩:=Zz h;rw[qjt];exact Ent.right.trans Ent.left
def qn8(ls:List IH)(b:Nat)(i:Nat)(n:Int):Prop:=i<=3->(b:Int)<=n/\n<=b+i*17592186043904/\∀h∈ls.take i,(h.l.length:Int)<=n
theorem qn8.next{ls:List IH}{b i:Nat}{n:Int}{x:IH}(h:qn8 ls b i n)(hb:b<=17592186043904)(f:ls[i]? =some x)(hl:x.l.length<=17592186043904):qn8 ls b (i+1) (IntKind.i64.wrap (n+x.l.length)):=fun hi=>by
 obtain⟨h0,h1,e⟩:=h Yb;rw[q4L Yb Yb];refine⟨Yb,Yb,fun y c=>?_⟩;rw[zY,f] at c
 rcases zw.1 c with c|c
 ·have:=e y c;omega
 ·rw[zf.1 c];omega
section
variable{W0:World}{own:Own}{la pka:j8}{lc pkc:Nat}{ls:List IH}{pks:jd}
theorem qgJ(m:Int)(r:RdE IH.enc 1 W0 own la ls)(hll:ls.length<=17592186043904)(s:∀h∈ls,h.l.length<=17592186043904)(k:pks.length<=17592186043904):
  jk W0 4 [.slice la ls.length lc, .slice pka pks.length pkc,j4 m] own fun v own'=>∃z:Bool,(v= .bool z/\(z=true->ls.length<=3/\(pks.length:Int)<=m/\∀h∈ls,(h.l.length:Int)<=m))/\Ent W0 own' own:=by
 refine sH [] ?_;refine qQ (σ:=Nat×Int) (fun y=> [(7,j4 y.2),(8,j4 y.1)]) (fun _=>own)
  (fun y=>y.1<=ls.length/\qn8 ls pks.length y.1 y.2) (fun y=>ls.length-y.1) (0,(pks.length:Int)) ⟨zl _,fun _=>⟨zK _,Yd,fun _ h=>(by cases h)⟩⟩ (eF) Ent.refl rfl ?_
 rintro⟨i,n⟩ junk ⟨hi,e⟩;dsimp only at hi e ⊢
 by_cases b:i<ls.length
 ·obtain⟨x,c⟩:∃x,ls[i]? =some x:=⟨_,z6 b⟩
  have o:=s x (zh c);have f:=e.next k c o;obtain⟨xa,xc,xl⟩:=x
  repeat'((try conv=>whnf);first|refine fF ?_|refine fB ?_|refine arw ?_|apply gLd;refine q0n r c rfl ?_|(apply qL;first|refine ixE r c ?_ ?_;(first|rfl|omega)))
  exact⟨(i+1,_),⟨b,f⟩,(by show ls.length-(i+1)<ls.length-i;omega),(eF),Ent.refl⟩
 ·have g:i=ls.length:=Yb;subst g
  by_cases hc:(ls.length:Int)<=3
  ·obtain⟨hn0, -,j⟩:=e Yb
   repeat'((try conv=>whnf);first|refine fH ?_|refine fG ?_|refine fJ ?_)
   all_goals exact⟨decide (n<=m),⟨rfl,fun u=>by
    have hn:n<=m:=of_decide_eq_true u;exact⟨Yb,Yb,fun h t=>by have:=j h (by rw[ZB Yb];exact t);omega⟩⟩,(eC)⟩
  ·repeat'((try conv=>whnf);first|refine fI ?_|refine fG ?_|refine fK ?_)
   all_goals exact⟨false,⟨rfl,fun h=>(by cases h)⟩,(eC)⟩
end
open Go Go.Proofs.YtfnghamklcdgnaaGreatDoor.Ord
theorem qnA{W0:World}{own:Own}{k:FuncId}{args:je}{a b c d e:Int}{K:Value->Own->Prop}(g:qjb [a,b,c,d,e])(f:k=13)(ea:args= [j4 a,j4 b,j4 c,j4 d,j4 e])(h:∀c:Cfg,q52 c->K c.v own):q0g Tryz.prog W0 own k args K:=by
 subst f;subst ea;exact q7q g h
abbrev smC(c:Cfg):Cfg:={c with strong:=true}
theorem qmw{c:Cfg}(h:q52 c):COk (smC c):=by
 unfold q52 at h;exact⟨(cm0 (by unfold okW;dsimp only;omega) (by unfold okH okC nB nW;dsimp only;omega) (by unfold okL;dsimp only;omega) (by unfold okK;dsimp only;omega)).symm,rfl⟩
theorem qoP{c:Cfg}{O:Nat}{il:jd}{ps:List (jf)}{l:jh}(n:q52 c)(r:c.orecs=(O:Int))(j:(il.length:Int)=c.words)(hi:∀x∈il,0<=x/\x<=3)(u:1<=ps.length/\ps.length<=3)(k:∀p∈ps,q0C p=(0,0)/\p.length<=14)(o:l.length<=1000)(i:∀t∈l,t<ps.length):
  ql1 (smC c) il O ps l/\∃g,qca (smC c) il O ps l g:=by
 have m:=qmw n;unfold q52 at n;have h:q3x il:=fun x y=>by have:=hi x y;unfold okU;omega
 have b:∀q∈ps,PrO q/\q.length<=64:=fun q hm=>by
  obtain⟨s,h2⟩:=k q hm;exact⟨⟨(q9S q).trans s⟩,Yb⟩
 have f:il≠ []:=fun e=>by rw[e] at j;simp at j;omega
 exact⟨⟨m.ck,j,f,Yb,h,r,Yb,Yb,Yb,fun q hm=>(b q hm).1.ck,fun q hm=>Zq (b q hm).2 Yc,o,i⟩,qge m u.1 Yb (fun q hm=>(b q hm).1) (fun q hm=>(b q hm).2) j r h i o⟩
section
variable{W0:World}{own:Own}{la pka:j8}{lc pkc:Nat}{ls:List IH}{pks:jd}
def qoE(W0:World)(own:Own)(n:Int)(m:Nat)(v:Value)(own':Own):Prop:=
 ∃c ia il ic b pa ps pc f ka ks kc e,v=q9e (smC c) ia (List.length il) ic pa (List.length ps) pc ka (List.length ks) kc/\q52 c/\qq q06 45 1 ia ic il b/\qq PH.enc 60 1 pa pc (ps.map PB.h) f/\qq qw 3 1 ka kc ks e/\
  (∀x∈ps,x.ok/\q0C x.h.p=(0,0)/\x.h.p.length<=14)/\(il.length:Int)=c.words/\(∀x∈il,0<=x/\x<=3)/\(ps.length:Int)=n/\ks.length=m/\(∀k∈ks,0<=k/\k<n)/\Ent W0 own' (e++(f++(q4E ps++(b++own))))
theorem qdT(E F n2 G I:Int)(i:qjb [E,F,n2,G,I])(N:RdE IH.enc 1 W0 own la ls)(hll:ls.length<=3)(B:∀h∈ls,RdE qw 1 W0 own h.a h.l/\h.l.length<=260)(O:RdE qw 1 W0 own pka pks)(hpl:pks.length<=260):
  jk W0 7 [.agg #[j4 E,j4 F,j4 n2,j4 G,j4 I], .slice la ls.length lc, .slice pka pks.length pkc, .bool true] own (qoE W0 own (2+(ls.length:Int) % 2) pks.length):=by
 refine sH [] ?_;have y:=fun(own':Own) (m:qx own' own) (c:Cfg) (hw:0<=c.words/\c.words<=1000000)=>qbL (W0:=W0) (own:=own') (c:=smC c) (lc:=lc) (pkc:=pkc) (2+(ls.length:Int) % 2) 14 true true hw Yb Yc N.up (fun h i=>⟨(B h i).1.up,by have:=(B h i).2;omega⟩) O.up Yb
 repeat'((try conv=>whnf);first|refine qg fun b hb=>?_|(apply qe;first|refine qnA i ?_ ?_ fun c C=>?_;exact rfl;exact rfl;apply Stop.h)|refine ix0 rfl ?_|refine ix1 rfl ?_|refine ix2 rfl ?_|refine ix3 rfl ?_|refine fP ?_|refine fA ?_)
 refine Stop.mk ?_;have n:0<=c.words/\c.words<=1000000:=by unfold q52 at C;omega
 have g:=fun(own':Own) (m:qx own' own)=>y own' m c n
 dsimp only[Cfg.v,Cfg.cs] at g ⊢
 repeat'((try conv=>whnf);first|refine qg fun b hb=>?_|(apply qe;first|(refine q0g.mk fun w hw=>?_);refine(g _ Ye w hw).mono ?_;rintro e Q ⟨v,own',he,D,ia,il,ic,J,pa,ps,pc,L,ka,ks,kc,K,rfl,M,k,j,f,r,o,u,s,t,A⟩;refine⟨_,_,he,A _ D,?_⟩;clear he D A e Q hw w own';apply Stop.h)|refine fB ?_|refine fL ?_|refine fN ?_|refine fM ?_|refine q2R ?_ ?_;omega)
 refine Stop.mk ?_
 repeat'((try conv=>whnf);first|refine fL ?_|refine fM ?_)
 all_goals exact⟨c,ia,il,ic,J,pa,ps,pc,L,ka,ks,kc,K,rfl,C,M,k,j,fun x z=>⟨(f x z).1,(f x z).2.1,by have:=(f x z).2.2.1;omega⟩,r,o,u,s,t,sbE⟩
theorem q9s(V:qE W0)(X:q0Z W0 0 noneV)(Q R n2 S T:Int)(f:qjb [Q,R,n2,S,T])(W:RdE IH.enc 1 W0 own la ls)(K:ls.length<=17592186043904)(Y:∀h∈ls,RdE qw 1 W0 own h.a h.l/\h.l.length<=17592186043904)(hP:RdE qw 1 W0 own pka pks)(L:pks.length<=17592186043904):
  jl W0 3 [.agg #[j4 Q,j4 R,j4 n2,j4 S,j4 T], .slice la ls.length lc, .slice pka pks.length pkc] own (.bool true):=by
 refine qi (sH [] ?_);have i:=fun own=>qbw (W0:=W0) V X own
 have M:=fun(own':Own) (m:qx own' own)=>qgJ (W0:=W0) (own:=own') (lc:=lc) (pka:=pka) (pkc:=pkc) (pks:=pks) 260 W.up K (fun h f=>(Y h f).2) L
 repeat'((try conv=>whnf);first|refine qg fun b hb=>?_|(apply qe;first|refine qk (M _ Ye) fun z v hv=>?_;apply Stop.h))
 obtain⟨rfl,s⟩:=hv;refine Stop.mk ?_;cases z with
 |false=>
  repeat'((try conv=>whnf);first|refine fE ?_|apply qe;refine qd (i _) ?_)
  all_goals exact⟨rfl,(eC)⟩
 |true=>
  obtain⟨h3,h260,g⟩:=s rfl;have N:=fun(own':Own) (m:qx own' own)=>qdT (W0:=W0) (own:=own') (lc:=lc) (pkc:=pkc) Q R n2 S T f W.up h3 (fun h f=>⟨(Y h f).1.up,by have:=g h f;omega⟩) hP.up Yb
  repeat'((try conv=>whnf);first|refine fD ?_|(apply qe;first|(refine q0g.mk fun w hw=>?_);refine(N _ Ye w hw).mono ?_;rintro e w' ⟨v,own',he,u,c,ia,il,ic,Di,pa,ps,pc,Dp,ka,ks,kc,Dk,rfl,Z,hI,E,C,n,J,I,hpn,hkn,k,U⟩;refine⟨_,_,he,U _ u,?_⟩;clear he u U e w' hw w own';apply Stop.h)|refine fL ?_)
  refine Stop.mk ?_;have G:=Z;unfold q52 at G;obtain⟨O,hO⟩:∃O:Nat,c.orecs=O:=⟨c.orecs.toNat,Yb⟩
  have hl1:((ps.map PB.h).map PH.p).length=ps.length:=by rw[zi,zi]
  have j:((ks.map Int.toNat).map fun t=>((t:Nat):Int))=ks:=by
   rw[ZV]
   conv=>rhs;rw[<-List.map_id ks]
   refine Y5 fun z s=>?_
   show((z.toNat:Nat):Int)=z;have:=(k z s).1;omega
  have o:∀p∈(ps.map PB.h).map PH.p,q0C p=(0,0)/\p.length<=14:=fun p hp=>by
   rw[ZV] at hp;obtain⟨x,y,rfl⟩:=zO.1 hp;exact(n x y).2
  obtain⟨u,hq⟩:=qoP (O:=O) (il:=il) (ps:=(ps.map PB.h).map PH.p) (l:=ks.map Int.toNat) Z hO J I Yb o (by rw[zi];omega) (fun t ht=>by
   obtain⟨z,s,rfl⟩:=zO.1 ht;have:=k z s;omega)
  have A:=hI.rd (W0:=W0);have D:=E.rd (W0:=W0);have B:=C.rd (W0:=W0);have F:∀h∈ps.map PB.h,RdE Ins.enc 5 W0 (q4E ps) h.a h.p:=fun h f=>by
   obtain⟨x,y,rfl⟩:=zO.1 f;have:=(n x y).1;exact((this.rd (W0:=W0)).ent (qfU y))
  have r:=fun(own':Own) (m1:qx own' Di) (m2:qx own' Dp) (m3:qx own' (q4E ps)) (m4:qx own' Dk)=>qeo (W0:=W0) (own:=own') (c:=smC c) (ia:=ia) (ic:=ic) (pa:=pa) (pc:=pc) (ka:=ka) (kc:=kc) (l:=ks.map Int.toNat) V X u hq A.up D.up (fun h f=>(F h f).up) (by rw[j];exact B.up)
  rw[zi,j] at r
  repeat'((try conv=>whnf);first|refine fH ?_|(apply qe;first|refine qd (r _ Ye Ye Ye Ye) ?_|refine qd (i _) ?_))
  all_goals exact⟨rfl,(eC)⟩
end
open Go Go.ChangeShapes Go.WideShapes Go.ChangeAt Go.RowKit
theorem qcn{w:World}{b0:Nat}{v:Value}(h:Value.okWide Tryz.prog w .any b0 22 v):
  ∃c e n2 f g:Int,v= .agg #[j4 c,j4 e,j4 n2,j4 f,j4 g]/\qjb [c,e,n2,f,g]:=by
 obtain⟨cs,rfl,o,b⟩:=qhn (ts:= [3,3,3,3,3]) (by kernel_rfl) (by kernel_rfl) (by kernel_rfl) h
 match cs,o with
 | [c0,c1,c2,c3,c4],_=>
  obtain⟨c,rfl,i⟩:=q3r Tryz.underlying3 (b 0 _ 3 rfl rfl);obtain⟨e,rfl,j⟩:=q3r Tryz.underlying3 (b 1 _ 3 rfl rfl);obtain⟨n2,rfl,k⟩:=q3r Tryz.underlying3 (b 2 _ 3 rfl rfl);obtain⟨f,rfl,m⟩:=q3r Tryz.underlying3 (b 3 _ 3 rfl rfl);obtain⟨g,rfl,n⟩:=q3r Tryz.underlying3 (b 4 _ 3 rfl rfl);exact⟨c,e,n2,f,g,rfl,i,j,k,m,n,True.intro⟩
theorem qcU{W:World}(h:laidMetH Tryz.prog [("strongtx/tdrf.none",Rows.laid_strongtx_tdrf_none),("strongtx/isa.forms",Rows.laid_strongtx_isa_forms)] W):qE W:=
 qdd (d:=Rows.laid_strongtx_isa_forms) (g:=1) (t:=312) (cs:=qcV) (by kernel_rfl) h (List.Mem.tail _ (List.Mem.head _)) (by kernel_rfl) (by kernel_rfl) (by kernel_rfl) (by kernel_rfl) (by simp[qcV])
theorem qjr{W:World}(h:laidMetH Tryz.prog [("strongtx/tdrf.none",Rows.laid_strongtx_tdrf_none),("strongtx/isa.forms",Rows.laid_strongtx_isa_forms)] W):q0Z W 0 Ord.noneV:=
 qdd (d:=Rows.laid_strongtx_tdrf_none) (g:=0) (t:=42) (cs:=Ord.noneV) (by kernel_rfl) h (List.Mem.head _) (by kernel_rfl) (by kernel_rfl) (by kernel_rfl) (by kernel_rfl) (by simp[Ord.noneV])
section
variable{H:Type}{enc:TypeId×Value->H}{P:Program}{w:World}{spare:Nat->Bool}{held:Bool}{q:Nat->Bool}
theorem q1F{t:TypeId}{ts:List TypeId}{d:DataW H}{ds:List (DataW H)}(h:(DataW.weightsEach P (t::ts) (d::ds)).all q=true):(d.weights P t).all q=true/\(DataW.weightsEach P ts ds).all q=true:=by
 simpa only[DataW.weightsEach,List.all_append,zH] using h
theorem q5G{e:TypeId}:∀{E:List (DataW H)} {d:DataW H},(DataW.weightsAll P e E).all q=true->d∈E->(d.weights P e).all q=true
 | [],_,_,hd=>by cases hd
 |c::r,d,h,hd=>by
  simp only[DataW.weightsAll,List.all_append,zH] at h
  rcases zX.1 hd with rfl|hd
  ·exact h.1
  ·exact q5G h.2 hd
theorem qb5{α:Type}{en:α->je}{sz:Nat}{Φ:α->Prop}{fuel:Nat}{t e:TypeId}{cs:je}{x:DataW H×List MemPlace}(N:P.underlying t=some (.slice e))(K:P.cellsOf e=sz)(E:0<sz)
  (J:∀n cs x,DataW.trod enc P w 0 spare held n e cs=some x->(x.1.weights P e).all q=true->∃y,cs=en y/\Φ y) (h:DataW.trod enc P w 0 spare held fuel t cs=some x) (hw:(x.1.weights P t).all q=true):
  ∃a l cap,cs= [.slice a l.length cap]/\RdE en sz w [] a l/\(∀y∈l,Φ y)/\l.length<=cap/\(l= []\/∃k,q ((l.length+k)*P.bytesOf e)=true):=by
 rcases DataW.trod_slice N h with ⟨rfl,_⟩|⟨a,len,cap,elems,rest,n,_,rfl,rfl,_,hl,_,hlen,B,_⟩
 ·exact⟨none,[],0,rfl,RdE.nil,fun _ h=>(by cases h),Yd, .inl rfl⟩
 ·simp only[DataW.weights,N,Y9,List.all_append,zH,zi] at hw;obtain⟨L,M,_⟩:=hw;have key:∀i,i<len->∃y,(w.cells? 0 (a.add (i*sz)) sz=some (en y))/\Φ y:=fun i hi=>by
   have:=B i hi;rw[K] at this;have C:i<elems.length:=Yb;rw[z6 C,Option.bind_eq_some_iff] at this;obtain⟨c,m,Q⟩:=this;obtain⟨y,rfl,u⟩:=J _ _ _ Q (q5G M (ZU (ZW C)));exact⟨y,m,u⟩
  obtain⟨l,D,F⟩:=qdf len key;have f:∀{j k:Nat} {y:α} {v:Value},l[j]? =some y->(en y)[k]? =some v->w.cell? ((a.add (j*sz)).add k)=some v/\(en y).length=sz:=fun{j k y v} u I=>by
   obtain⟨m,_⟩:=F j y u;obtain⟨_,hlen,f⟩:=World.cells?_some m;have hk:=(z7.1 I).1;exact⟨(f k Yb).trans I,hlen⟩
  have g:l≠ []->a.spot=none:=fun A=>by
   cases l with
   |nil=>exact absurd rfl A
   |cons y r=>
    obtain⟨m,_⟩:=F 0 y rfl;obtain⟨_,hlen,f⟩:=World.cells?_some m;have z:=f 0 E;rw[z6 Yb] at z;rw[Nat.zero_mul] at z;have O:(a.add 0).add 0=a:=by simp[Addr.add]
    rw[O] at z;unfold World.cell? at z
    split at z
    ·split at z
     ·cases z
     ·rename_i G;simpa using G
    ·cases z
  refine⟨some a,l,cap,by rw[D],⟨fun A=>?_,fun y u=>?_,fun{j k y v} u I=>?_⟩,fun y u=>?_,Yb, .inr ⟨rest.length,by rw[D,<-hlen];exact L⟩⟩
  ·have:=g A;obtain⟨b,o,s⟩:=a;simp only at this;subst this;rfl
  ·obtain⟨i,hi⟩:=yA u;obtain⟨m,_⟩:=F i y hi;exact(World.cells?_some m).2.1
  ·obtain⟨m,_⟩:=f u I;have G:=g (by intro e;subst e;simp at u);have he:(a.add (j*sz)).add k=⟨ab (some a),ao (some a)+j*sz+k,none⟩:=by
    obtain⟨b,o,s⟩:=a;simp only at G;subst G;rw[qN,qN];rfl
   rw[he] at m;exact qiK m
  ·obtain⟨i,hi⟩:=yA u;exact(F i y hi).2
end
section
variable{H:Type}{enc:TypeId×Value->H}{w:World}{spare:Nat->Bool}{held:Bool}{v:Value}{d:DataW H}{p:List MemPlace}
theorem qi0{cs:jg}{v x:Value}(h:v.cells=cs)(b:cs.toList= [x])(c:∀a,v≠ .agg a):v=x:=by
 unfold Value.cells at h
 split at h
 ·rename_i a;exact absurd rfl (c a)
 ·subst h;simpa using b
theorem q7S{P:Program}{w:World}{b0:Nat}{t e:TypeId}{v:Value}(b:P.underlying t=some (.slice e))(h:Value.okWide P w .any b0 t v):∀a,v≠ .agg a:=by
 intro a e;subst e;simp only[Value.okWide,b,Cell.okWide,Cell.ok] at h
theorem qhN{fuel:Nat}{cs:je}{x:DataW H×List MemPlace}(h:DataW.trod enc Tryz.prog w 0 spare held fuel 24 cs=some x)(hw:(x.1.weights Tryz.prog 24).all (· <=reachBytes)=true):
  ∃a l cap,cs= [.slice a (List.length l) cap]/\RdE qw 1 w [] a l/\l.length<=17592186043904:=by
 obtain⟨a,l,cap,e,g,_,_,b⟩:=qb5 (q:=(· <=reachBytes)) (en:=qw) (sz:=1) (Φ:=fun _=>True) Tryz.underlying24 (by kernel_rfl) Yb (fun n cs x h _=>by
  obtain⟨n,rfl,_⟩:=qhm Tryz.underlying3 h;exact⟨n,rfl,trivial⟩) h hw
 refine⟨a,l,cap,e,g,?_⟩
 rcases b with rfl|⟨k,b⟩
 ·simp
 ·have c:Tryz.prog.bytesOf 3=8:=by kernel_rfl
  rw[c] at b;have b:=of_decide_eq_true b;have f:reachBytes=140737488351232:=rfl;rw[f] at b;omega
theorem qnJ{b0:Nat}(o:Value.okWide Tryz.prog w .any b0 23 v)(m:DataW.Trod enc Tryz.prog w 0 spare held 23 v d p)(hw:(d.weights Tryz.prog 23).all (· <=reachBytes)=true):
  ∃a l cap,v= .slice a (List.length l) cap/\RdE IH.enc 1 w [] a l/\l.length<=17592186043904/\∀h∈l,RdE qw 1 w [] h.a h.l/\h.l.length<=17592186043904:=by
 obtain⟨fuel,h⟩:=m;obtain⟨a,l,cap,e,c,j,_,b⟩:=qb5 (q:=(· <=reachBytes)) (en:=IH.enc) (sz:=1) (Φ:=fun y:IH=>RdE qw 1 w [] y.a y.l/\y.l.length<=17592186043904) Tryz.underlying23 (by kernel_rfl) Yb (fun n cs x h hw=>by
  obtain⟨a,l,cap,rfl,c,i⟩:=qhN h hw;exact⟨⟨a,cap,l⟩,rfl,c,i⟩) h hw
 refine⟨a,l,cap,qi0 rfl e (q7S Tryz.underlying23 o),c,?_,j⟩
 rcases b with rfl|⟨k,b⟩
 ·simp
 ·have f:Tryz.prog.bytesOf 24=24:=by kernel_rfl
  rw[f] at b;have b:=of_decide_eq_true b;have g:reachBytes=140737488351232:=rfl;rw[g] at b;omega
end
section
variable{H:Type}{enc:TypeId×Value->H}{w:World}{spare:Nat->Bool}{held:Bool}{v:Value}{d:DataW H}{p:List MemPlace}
theorem qm1{b0:Nat}(g:Value.okWide Tryz.prog w .any b0 24 v)(f:DataW.Trod enc Tryz.prog w 0 spare held 24 v d p)(hw:(d.weights Tryz.prog 24).all (· <=reachBytes)=true):
  ∃a l cap,v= .slice a (List.length l) cap/\RdE qw 1 w [] a l/\l.length<=17592186043904:=by
 obtain⟨fuel,h⟩:=f;obtain⟨a,l,cap,e,c,b⟩:=qhN h hw;exact⟨a,l,cap,qi0 rfl e (q7S Tryz.underlying24 g),c,b⟩
end
end Go.Proofs.YtfnghamklcdgnaaGreatDoor
