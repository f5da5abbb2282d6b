/- What the laws share, part 27. No condition. -/
import Derived.Test.YtbhbldllneadeaaGreatDoorQ26
set_option maxHeartbeats 8000000
set_option maxRecDepth 10000
namespace Go.Proofs.YtbhbldllneadeaaGreatDoor
open Go
def plT(a n:Int):Int:=IntKind.u64.wrap a % n
theorem q8v(a:Int){n:Int}(h:0<n):0≤plT a n∧plT a n<n:=⟨Int.emod_nonneg _ Y6,Y3 _ h⟩
def cfF:Cfg:=⟨4,3,0,0,0,0,0,8,8,0,0,1000,false⟩
def iF(v w:Int):List Ins:= [⟨1,2,0,0,v⟩,⟨1,1,0,0,0⟩,⟨7,0,0,0,2⟩,⟨10,3,0,0,0⟩,⟨6,3,0,0,2⟩,⟨11,0,2,0,0⟩,⟨1,1,0,0,1⟩,⟨8,0,0,0,0⟩,⟨5,1,0,0,8⟩,⟨16,0,0,0,0⟩,⟨12,4,0,0,w⟩,⟨3,4,4,2,0⟩,
 ⟨13,0,4,0,w⟩,⟨1,5,0,0,0⟩,⟨7,0,0,0,8⟩,⟨11,0,5,0,0⟩,⟨8,0,0,0,0⟩,⟨7,0,0,0,3⟩,⟨10,3,0,0,0⟩,⟨6,3,0,0,3⟩,⟨10,4,0,0,w⟩,⟨3,4,4,2,5⟩,⟨11,0,4,0,w⟩,⟨8,0,0,0,0⟩]
def q2c(v w:Int):Nat→List Ins
 |0=> []
 |k+1=>iF v w++q2c v w k
theorem q3x(v w:Int):∀k,q2c v w k++iF v w=q2c v w (k+1)
 |0=>by rw[q2c,q2c,q2c,zC,zi]
 |k+1=>by rw[q2c,zd,q3x v w k];rfl
theorem q4n(v w:Int):∀k,(q2c v w k).length=24*k
 |0=>rfl
 |k+1=>by rw[q2c,z8,q4n v w k,show(iF v w).length=24 from rfl];omega
structure PW where
 h:PH
 D:Own
abbrev PW.ok(x:PW):Prop:=qu Ins.enc 40 5 x.h.a x.h.cap x.h.p x.D
def qcl(l:List PW):Own:=(l.map PW.D).flatten
theorem qcm{l:List PW}{x:PW}:qcl (l++ [x])=qcl l++x.D:=by simp[qcl]
theorem qiu{W0:World}{l:List PW}{x:PW}(h:x∈l):Ent W0 (qcl l) x.D:=by
 obtain⟨l1,l2,rfl⟩:=ZS h;unfold qcl;rw[zH,zF,zY,Z2];exact Ent.right.trans Ent.left
def PgF(t:Nat)(p:List Ins):Prop:=∃(w:Int) (k:Nat),(1≤w∧w≤3)∧(1≤k∧k≤2)∧p=q2c ((t:Int)+1) w k
abbrev scP(c:Cfg)(i p k:Value):Obj→Prop:=fun z=>z=Obj.cells #[.int .i64 c.words, .int .i64 c.orecs, .int .i64 c.base, .int .i64 c.c0, .int .i64 c.c1, .int .i64 c.c2, .int .i64 c.c3, .int .i64 c.reads, .int .i64 c.writes, .int .i64 c.allocs, .int .i64 c.frees, .int .i64 c.clock, .bool c.strong,i,p,k] 31 (0,0)
abbrev zS:Obj→Prop:=fun z=>z=Obj.cells #[.int .i64 0, .int .i64 0, .int .i64 0, .int .i64 0, .int .i64 0, .int .i64 0, .int .i64 0, .int .i64 0, .int .i64 0, .int .i64 0, .int .i64 0, .int .i64 0, .bool false, .slice none 0 0, .slice none 0 0, .slice none 0 0] 31 (0,0)
abbrev inF:Obj→Prop:=fun z=>z=Obj.cells #[.int .u64 0, .int .u64 5, .int .u64 6, .int .u64 7] 49 (0,0)
section
variable{W0:World}{own:Own}{a:Option Addr}{l:List Int}{cap:Nat}
theorem qdg(W0:World)(own:Own)(a:Int){n:Int}(hn:0<n∧n≤9223372036854775807):qE Tryz.prog W0 8 [.int .i64 a, .int .i64 n] own (.int .i64 (plT a n)):=by
 refine qg (sH [] ?_);refine arw ?_;have hu:=q0m a;have hp:=q8v a hn.1;unfold plT qM okU at*;generalize IntKind.u64.wrap a=u at*
 repeat'((try(conv=>whnf));first|(refine fB ?_)|(refine fC ?_)|(refine q8A ?_ ?_;omega))
 exact⟨rfl,(eC)⟩
theorem qjY{α:Type}{enc:α→List Value}{sz:Nat}{a:Option Addr}{l:List α}{cap:Nat}{T:TypeId}{bytes m:Nat}{zs:List Value}{D:Own}{C:Own→Own}{a2:Option Addr}{l2:List α}{K:Value→Own→Prop}(hB:qu enc T sz a cap l D)(hx:RdE enc sz W0 own a2 l2) [mm:AtC D own C](hm:m=l2.length)
  (hz:zs.length=sz) (hs:0<sz) (h1:∀x∈l2,(enc x).all q2D=true) (hb:(l.length+l2.length)*bytes≤140737488355328)
  (hk:∀a' cap' D',qu enc T sz a' cap' (l++l2) D'→K (.slice a' (l.length+l2.length) cap') (C D')):qb9 W0 own T sz bytes zs a l.length cap a2 m K:=
 qht hB hx hm hz hs h1 (fun _=>hb) hk
theorem ql7{A A':Array Value}{T:TypeId}{fz:Nat×Nat}{K:Nat→Own→Prop}(e:A=A')(h:∀b,W0.heap.size≤b→K b ((b,(· =Obj.cells A' T fz))::own)):New W0 own (Obj.cells A T fz) K:=by subst e;exact qf h
theorem qh5{k:IntKind}{m n:Int}{K:Int→Prop}(hn:n≠0)(h:K (k.wrap (m.tdiv n))):Quo k m n K:=⟨hn,h⟩
theorem qiT(hR:RdE qx 1 W0 own a l)(j:Nat):qE Tryz.prog W0 15 [.slice a l.length cap, .int .i64 j] own (.int .i64 (l.getD j 0)):=by
 refine qg (sH [] ?_);rw[zh]
 by_cases hj:j<l.length
 ·obtain⟨x,hx⟩:∃x,l[j]? =some x:=⟨_,z6 hj⟩
  repeat'((try(conv=>whnf));first|(refine fH ?_)|(refine fF ?_)|((apply gLd);first|(refine q0r hR hx rfl ?_))|((apply qJ);first|((refine ixE hR hx ?_ ?_;(first|rfl|omega)))))
  all_goals exact⟨by rw[hx];rfl,(eC)⟩
 ·repeat'((try(conv=>whnf));first|(refine fH ?_)|(refine fG ?_))
  all_goals exact⟨by rw[zX Y6];rfl,(eC)⟩
end
section
variable{W0:World}{own:Own}
theorem qfp{la ka:Option Addr}{lc kc n:Nat}{ls ks:List Int}(hL:RdE qx 1 W0 own la ls)(hK:RdE qx 1 W0 own ka ks)(hkl:ks.length≤1000)(hn:1≤n∧n≤16):
  qt Tryz.prog W0 7 [.int .i64 n, .slice la ls.length lc, .slice ka ks.length kc] own fun v own'=>
   ∃s:(Option Addr×Nat×Own)×List PW×(Option Addr×Nat×Own)×Nat,(v=qaG cfF (some ⟨s.2.2.2,0,none⟩) 4 4 s.1.1 (s.2.1.map PW.h).length s.1.2.1 s.2.2.1.1 (ks.map fun z=>plT z n).length s.2.2.1.2.1∧qu PH.enc 38 1 s.1.1 s.1.2.1 (s.2.1.map PW.h) s.1.2.2∧s.2.1.length=n∧(∀t x,s.2.1[t]? =some x→x.ok∧PgF t x.h.p)∧qu qx 3 1 s.2.2.1.1 s.2.2.1.2.1 (ks.map fun z=>plT z n) s.2.2.1.2.2)∧
    Ent W0 own' ((s.2.2.2,inF)::(s.1.2.2++(qcl s.2.1++(s.2.2.1.2.2++own)))):=by
 refine sH [3,5,7,9,11,13,15,17,20,22,23,26,0] ?_
 repeat'((try(conv=>whnf));first|(refine qf (fun bk hbk=> ?_))|(refine fM ?_))
 rename_i b6 hb6 b16 hb16;refine qX (σ:=Nat×(Option Addr×Nat×Own)×List PW) (fun s=> [(8, .int .i64 s.1)]) (fun s=>(b6,zS)::(b16,inF)::(bk,scP cfF (.slice (some ⟨b16,0,none⟩) 4 4) (.slice s.2.1.1 (s.2.2.map PW.h).length s.2.1.2.1) (.slice none 0 0))::(s.2.1.2.2++(qcl s.2.2++own)))
  (fun s=>s.1≤n∧qu PH.enc 38 1 s.2.1.1 s.2.1.2.1 (s.2.2.map PW.h) s.2.1.2.2∧s.2.2.length=s.1∧∀t x,s.2.2[t]? =some x→x.ok∧PgF t x.h.p) (fun s=>n-s.1) (0,(none,0,[]),[]) ⟨zq _,qu.nil,rfl,fun _ _ h=>(by cases h)⟩ (eF) (by dsimp only[qcl,List.map_nil,List.flatten_nil];simp only[zi];exact sbE) rfl ?_
 rintro⟨i,⟨pa',pc',pD⟩,ps⟩ junk ⟨hi,hBp,hpl,hps⟩;dsimp only at hi hBp hpl hps ⊢;have hpl2:(ps.map PW.h).length=i:=by rw[zk];exact hpl
 by_cases hlt:i<n
 ·have hlt':(i:Int)<n:=Y6;have hat:=fun own' (m:qv own' own)=>qiT (W0:=W0) (own:=own') (cap:=lc) hL.up i
  have hp3:=fun own' z=>qdg W0 own' z (n:=3) Y7
  have hp2:=fun own' z=>qdg W0 own' z (n:=2) Y7
  generalize ls.getD i 0=z at hat;have hw:=q8v z (n:=3) Y7
  repeat'((try(conv=>whnf));first|(refine fF ?_)|((apply qe);first|((refine qd (hat _ Y9) ?_))|((refine qd (hp3 _ z) ?_)))|(refine fB ?_))
  have hR:=q8v (IntKind.i64.wrap (z.tdiv 3)) (n:=2) Y7;have hpR:=fun own'=>hp2 own' (IntKind.i64.wrap (z.tdiv 3))
  generalize plT (IntKind.i64.wrap (z.tdiv 3)) 2=R at hR hpR;generalize plT z 3=w0 at hw;refine qX (σ:=Nat×Option Addr×Nat×Own) (fun s=> [(13, .int .i64 s.1),(12, .slice s.2.1 (q2c ((i:Int)+1) (1+w0) s.1).length s.2.2.1)]) (fun s=>(b6,zS)::(b16,inF)::(bk,scP cfF (.slice (some ⟨b16,0,none⟩) 4 4) (.slice pa' (ps.map PW.h).length pc') (.slice none 0 0))::(s.2.2.2++(pD++(qcl ps++own))))
   (fun s=>(s.1:Int)≤1+R∧qu Ins.enc 40 5 s.2.1 s.2.2.1 (q2c ((i:Int)+1) (1+w0) s.1) s.2.2.2) (fun s=>2-s.1) (0,none,0,[]) ⟨by show((0:Nat):Int)≤_;omega,qu.nil⟩ (eF) (by simp only[zi];exact sbE) rfl ?_
  rintro⟨k,a,cap,D⟩ junk2 ⟨hk,hB⟩;dsimp only at hk hB ⊢;have hcl:=q4n ((i:Int)+1) (1+w0) k
  by_cases hkt:(k:Int)<1+R
  ·repeat'((try(conv=>whnf));first|(refine fF ?_)|(refine qh5 Y7 ?_)|((with_reducible show New _ _ _ _);apply Stop.h)|((apply qe);first|((refine qd (hpR _) ?_)))|(refine fB ?_))
   refine Stop.mk ?_;refine ql7 (A':=(((iF ((i:Int)+1) (1+w0)).map Ins.enc).flatten).toArray) (by kernel_rfl) (fun be hbe=> ?_)
   conv=>whnf
   refine qjY hB (q1A (l:=iF ((i:Int)+1) (1+w0)) (by(repeat(first|exact List.Mem.head _|apply List.Mem.tail))) (fun _ _=>rfl) (by rw[zL])) rfl rfl Y6 (fun _ _=>rfl) (by have:(iF ((i:Int)+1) (1+w0)).length=24:=rfl;omega) (fun a2 c2 D2 hb2=> ?_)
   repeat'((try(conv=>whnf));first|(refine fB ?_))
   all_goals
    rw[q3x] at hb2;refine⟨(k+1,a2,c2,D2),⟨by show((k+1:Nat):Int)≤_;omega,hb2⟩,by simp only;omega,?_,sbE⟩;dsimp only;rw[show(q2c ((i:Int)+1) (1+w0) (k+1)).length=(q2c ((i:Int)+1) (1+w0) k).length+(iF ((i:Int)+1) (1+w0)).length by rw[←q3x,z8]];exact(eF)
  ·have hkt':¬(k:Int)<1+R:=hkt;have hkR:(k:Int)=1+R:=Y6
   repeat'((try(conv=>whnf));first|(refine fG ?_)|(refine qh5 Y7 ?_)|(refine qf (fun be hbe=> ?_))|(apply q0p (enc:=PH.enc) (T:=38) (⟨a,cap,q2c ((i:Int)+1) (1+w0) k⟩:PH) hBp;(exact rfl);(exact rfl);(omega);(exact rfl);(exact rfl);(omega);intro a5 c5 D5 hb5)|((apply qe);first|((refine qd (hpR _) ?_)))|(refine fB ?_)|(refine fA ?_)|(refine fN ?_))
   all_goals
    refine⟨(i+1,(a5,c5,D5),ps++ [⟨⟨a,cap,q2c ((i:Int)+1) (1+w0) k⟩,D⟩]),⟨hlt,by dsimp only;rw[zH];exact hb5,by dsimp only;rw[z8,hpl];rfl,fun t x hx=> ?_⟩,by simp only;omega,(eF),?_⟩
    ·dsimp only at hx
     by_cases htl:t<ps.length
     ·rw[zy htl] at hx;exact hps t x hx
     ·have hlx:=(z7.1 hx).1;rw[z8,zE] at hlx;obtain rfl:t=i:=Y6;rw[zP Y6,hpl,y0] at hx;cases hx;exact⟨hB,1+w0,k,Y6,Y6,rfl⟩
    ·dsimp only;rw[qcm,zH,z8];simp only[zd];exact sbE
 ·obtain rfl:i=n:=Y6;have hlt':¬(i:Int)<i:=Y6
  repeat'((try(conv=>whnf));first|(refine fG ?_))
  refine qX (σ:=Nat×Option Addr×Nat×Own) (fun s=> [(14, .int .i64 s.1)]) (fun s=>(b6,zS)::(b16,inF)::(bk,scP cfF (.slice (some ⟨b16,0,none⟩) 4 4) (.slice pa' (ps.map PW.h).length pc') (.slice s.2.1 ((ks.take s.1).map fun z=>plT z i).length s.2.2.1))::(s.2.2.2++(pD++(qcl ps++own))))
   (fun s=>s.1≤ks.length∧qu qx 3 1 s.2.1 s.2.2.1 ((ks.take s.1).map fun z=>plT z i) s.2.2.2) (fun s=>ks.length-s.1) (0,none,0,[]) ⟨zq _,qu.nil⟩ (eF) (by simp only[zi];exact sbE) rfl ?_
  rintro⟨j,a,cap,D⟩ junk2 ⟨hj,hB⟩;dsimp only at hj hB ⊢;have htl:((ks.take j).map fun z=>plT z i).length=j:=by rw[zk,zU];omega
  by_cases hjt:j<ks.length
  ·obtain⟨z,hz⟩:∃z,ks[j]? =some z:=⟨_,z6 hjt⟩
   have hjt':(j:Int)<ks.length:=Y6;have hpz:∀own':Own,qE Tryz.prog W0 8 [.int .i64 z, .int .i64 i] own' (.int .i64 (plT z i)):=fun own'=>qdg W0 own' z (n:=(i:Int)) Y6
   have htk:(ks.take (j+1)).map (fun z=>plT z i)=((ks.take j).map fun z=>plT z i)++ [plT z i]:=by rw[zZ,hz,zH];rfl
   repeat'((try(conv=>whnf));first|(refine fF ?_)|(refine qf (fun be hbe=> ?_))|(apply q0p (enc:=qx) (T:=3) (plT z i) hB;(exact rfl);(exact rfl);(omega);(exact rfl);(exact rfl);(omega);intro a5 c5 D5 hb5)|((apply gLd);first|(refine q0r hK hz rfl ?_))|((apply qJ);first|((refine ixE hK hz ?_ ?_;(first|rfl|omega))))|((apply qz);first|((refine qj (fun ex=>hpz _) ?_)))|(refine fB ?_)|(refine fA ?_)|(refine fN ?_))
   all_goals
    refine⟨(j+1,a5,c5,D5),⟨hjt,by dsimp only;rw[htk];exact hb5⟩,by simp only;omega,(eF),?_⟩;dsimp only;rw[htk,z8];exact sbE
  ·obtain rfl:j=ks.length:=Y6;have hjt':¬(ks.length:Int)<ks.length:=Y6;rw[Z4] at hB ⊢
   repeat'((try(conv=>whnf));first|(refine fG ?_)|(refine fL ?_)|(refine fM ?_))
   all_goals exact⟨((pa',pc',pD),ps,(a,cap,D),b16),⟨rfl,hBp,hpl,hps,hB⟩,sbE⟩
end
open Go Go.Proofs.YtbhbldllneadeaaGreatDoor.Ord
theorem qgE{c:Cfg}(h:qH c=0)(hb:0≤qA c)(ho:1≤c.orecs):COk c:=⟨fun w h0 h1=>by
 unfold qF;rw[if_pos ⟨h,h0,Y6⟩];exact⟨Int.emod_nonneg _ Y6,Y3 _ Y6⟩⟩
theorem qfb{c:Cfg}{il:List Int}{O:Nat}{ps:List (List Ins)}(hC:CfO c)(hil:(il.length:Int)=c.words)(hO:c.orecs=(O:Int))(hw:q4b il):qjG c il O ps [] (q4a c il ps):=by
 have h2:=q3t.zero (c:=c) (ps:=ps) (O:=O) hil hO hw;have hcw:=hC.hcw;refine⟨fun k t hk=>(by cases hk),zq _,fun x hx=> ?_,fun u x a hx ha=> ?_,rfl,by rw[h2.gi.ol,←h2.gi.xl];rfl,h2.obs,h2.dat,by have:=h2.gi.dl;omega⟩
 ·obtain⟨t,ht,hxt⟩:=ZO hx;have:=(h2.xt t x (by rw[←hxt];exact z6 ht)).ob;omega
 ·have:=((h2.xt u x hx).at' a ha).ck;omega
def iZ:Ins:=⟨0,0,0,0,0⟩
def cfA:Cfg:=⟨1,1,0,0,0,0,0,1,1,0,0,0,false⟩
theorem qmw:CfO cfA:=⟨Y7,Y7,Y7,rfl,Y7,qgE Y7 Y7 Y7⟩
theorem qmx:CfO cfF:=⟨Y7,Y7,Y7,rfl,Y7,qgE Y7 Y7 Y7⟩
theorem qla:PrO [iZ]:=⟨Y7,Y7⟩
theorem qir{l:List Int}(h:(l.all fun x=>decide (okU x))=true):q4b l:=fun v hv=>of_decide_eq_true (Z7.1 h v hv)
theorem qlf:∃g,qjG cfA [5] 1 [[iZ]] [0] g:=by
 obtain⟨g,_,h,_⟩:=qiC (P:=fun _ _ _=>True) (c:=cfA) (ps:= [[iZ]]) (il:= [5]) (O:=1) (l:= [0]) qmw Y7 (fun p hp=>by rw[zf.1 hp];exact qla) (fun p hp=>by rw[zf.1 hp];decide) rfl rfl (qir Y7) trivial (fun k q g r t _ _ _ ht x p i _ hp _ hi _ _ hop _=>by
  have ht:t<1:=ht;obtain rfl:t=0:=Y6;cases hp;have h0:i=iZ:=by
   have:=zg hi;exact zf.1 this
  rw[h0] at hop;exact absurd hop Y7) (fun _ _ _ _ _ _ _ _ _ _ _ _ _=>trivial) Y7 Y7
 exact⟨g,h⟩
theorem qmT:(q10 cfA [5] 1 [[iZ]] [0]).S.length=1∧∃x,(q10 cfA [5] 1 [[iZ]] [0]).xs= [x]∧x.th.dn=true:=⟨by rfl,⟨_,rfl,by rfl⟩⟩
section
variable{W0:World}{own:Own}
theorem qaL(hF:qC W0)(own:Own):qE Tryz.prog W0 13 [] own (.bool true):=by
 refine qg (sH [] ?_);obtain⟨g,hq⟩:=qlf;have hr:=fun(own':Own) (ia pa ka:Option Addr) (a:Option Addr) (ic pc kc cap:Nat) (hI:RdE q09 1 W0 own' ia [5]) (hP:RdE PH.enc 1 W0 own' pa [⟨a,cap,[iZ]⟩]) (hQ:RdE Ins.enc 5 W0 own' a [iZ]) (hK:RdE qx 1 W0 own' ka [0])=>
  qh9 (W0:=W0) (own:=own') (c:=cfA) (ic:=ic) (pc:=pc) (kc:=kc) (O:=1) (l:= [0]) hF (by rfl) Y7 ⟨rfl,rfl,rfl,rfl⟩ Y7 hI rfl Y7 Y7 rfl Y7 hP (fun h hh=>by rw[zf.1 hh];exact hQ) hK (by show 1≤1;decide) (by show 1≤16;decide) (fun h hh=>by rw[zf.1 hh];exact qla.ck) (fun h hh=>by rw[zf.1 hh];show 1≤_;decide) rfl Y7 (fun t ht=>by rw[zf.1 ht];show 0<1;exact Nat.zero_lt_one) hq.hg hq.hS hq.hob
 obtain⟨hS1,hx1⟩:=qmT
 repeat'((try(conv=>whnf));first|(refine qf (fun bk hbk=> ?_))|(refine fL ?_)|(refine fM ?_))
 rename_i b1 h1 b2 h2 b3 h3 b4 h4
 repeat'((try(conv=>whnf));first|((apply qe);first|((refine qi (hr _ (some ⟨b1,0,none⟩) (some ⟨b3,0,none⟩) (some ⟨b4,0,none⟩) (some ⟨b2,0,none⟩) 1 1 1 1 (q1A (by(repeat(first|exact List.Mem.head _|apply List.Mem.tail))) (fun _ _=>rfl) rfl) (q1A (by(repeat(first|exact List.Mem.head _|apply List.Mem.tail))) (fun _ _=>rfl) rfl) (q1A (by(repeat(first|exact List.Mem.head _|apply List.Mem.tail))) (fun _ _=>rfl) rfl) (q1A (by(repeat(first|exact List.Mem.head _|apply List.Mem.tail))) (fun _ _=>rfl) rfl)) (fun y v hv=> ?_);(apply Stop.h)))))
 obtain⟨⟨cs,ta,tc,tD,sa,sc,sD,ea,ec,oa,oc,oD,ol,da,el,eD,gD⟩,L⟩:=y;obtain⟨rfl,hro,hL⟩:=hv;dsimp only at hro hL;have hps:([⟨some ⟨b2,0,none⟩,1,[iZ]⟩]:List PH).map PH.p= [[iZ]]:=rfl;rw[hps] at hro hL ⊢;generalize q10 cfA [5] 1 [[iZ]] [0]=R at*;obtain⟨a1,a2,a3,a4,a5,n1,c1,n2,c2,n3,c3,n4,c4,n5,c5,x1,x2,x3,hcs2⟩:=hro.sh;dsimp only at hcs2;subst hcs2;obtain⟨x,hx,hxd⟩:=hx1;rw[hx] at hL;obtain⟨y,rfl⟩:∃y,L= [y]:=List.length_eq_one_iff.1 (by have:=congrArg List.length hL;rwa[zk] at this)
 have hy:y.x=x:=by simpa using hL
 have hbt:=hro.ht.rd (W0:=W0);obtain⟨th,hth⟩:∃th,y.x.th=th:=⟨_,rfl⟩
 have hdn:th.dn=true:=by rw[←hth,hy];exact hxd
 have ht0:([y].map fun y=>y.x.th)[0]? =some th:=by rw[←hth];rfl
 obtain⟨pc,rg,ocn,dn⟩:=th;dsimp only at hdn;subst hdn;have hS2:(R.S.length:Int)=1:=Y6;refine Stop.mk ?_
 repeat'((try(conv=>whnf));first|(refine fH ?_)|(refine fJ ?_)|((apply gLd);first|(refine ql0 hbt ht0 rfl ?_))|((apply qJ);first|((refine ixE hbt ht0 ?_ ?_;(first|rfl|omega))))|(refine fO ?_)|(refine fA ?_)|(refine fM ?_)|(refine qf (fun bk hbk=> ?_)))
 all_goals exact⟨rfl,sbE⟩
end
open Go Go.Proofs.YtbhbldllneadeaaGreatDoor.Ord
theorem qel{v w:Int}{k:Nat}(hv:1≤v∧v≤3)(hw:1≤w∧w≤3)(hk:1≤k∧k≤2):PrO (q2c v w k):=by
 have h1:v=1∨v=2∨v=3:=Y6;have h2:w=1∨w=2∨w=3:=Y6;have h3:k=1∨k=2:=Y6
 rcases h3 with rfl|rfl <;>rcases h1 with rfl|rfl|rfl <;>rcases h2 with rfl|rfl|rfl <;>exact⟨Y7,Y7⟩
theorem q86{v w:Int}{k:Nat}(hk:1≤k∧k≤2):(q2c v w k).length≤64:=by rw[q4n];omega
abbrev ilF:List Int:= [0,5,6,7]
theorem qnM{ps:List (List Ins)}{l:List Nat}(hn:1≤ps.length∧ps.length≤3)(hp:∀(t:Nat) p,ps[t]? =some p→PgF t p)(hk:l.length≤1000)(hl:∀t∈l,t<ps.length):qm4 cfF ilF 3 ps l∧(∀p∈ps,PrO p)∧∀p∈ps,p.length≤64:=by
 have h:∀p∈ps,PrO p∧p.length≤64:=fun p hm=>by
  obtain⟨t,ht,rfl⟩:=ZO hm;obtain⟨w,k,hw,hk,e⟩:=hp t _ (z6 ht);rw[e];exact⟨qel Y6 hw hk,q86 hk⟩
 exact⟨⟨Y7,⟨rfl,rfl,rfl,rfl⟩,Y7,rfl,Y7,Y7,qir Y7,rfl,Y7,hn.1,Y6,fun p hm=>(h p hm).1.ck,fun p hm=>Zl (h p hm).2 Y7,hk,hl⟩,fun p hm=>(h p hm).1,fun p hm=>(h p hm).2⟩
section
variable{W0:World}{own:Own}
theorem qjM(hF:qC W0)(hN:q12 W0 0 noneV)(own:Own):qE Tryz.prog W0 5 [] own (.bool true):=by
 refine qg (sH [] ?_);have haw:=fun own=>qaL (W0:=W0) hF own
 have hfl:=fun(own':Own)=>qfp (W0:=W0) (own:=own') (la:=none) (ka:=none) (lc:=0) (kc:=0) (n:=2) (ls:= []) (ks:= []) RdE.nil RdE.nil (zq _) Y7
 obtain⟨e1,e2⟩:=qgh (n:=2) (l:= []) Y7 Y7 TrW.nil rfl (zq _) (fun x y _ hy=>(by cases hy));have htr:=fun(own':Own)=>qdx (W0:=W0) (own:=own') (a:=none) (l:= []) (cap:=0) hN RdE.nil (fun e he=>by cases he) (zq _) (2:Int)
 rw[show((2:Nat):Int)=2 from rfl] at e1 e2;rw[e1,e2] at htr
 repeat'((try(conv=>whnf));first|((apply qe);first|((refine qi (hfl _) (fun y v hv=> ?_);(apply Stop.h)))))
 obtain⟨⟨pa,pc,pD⟩,ps,⟨ka,kc,kD⟩,b⟩:=y;obtain⟨rfl,hBp,hpl,hps,hBk⟩:=hv;dsimp only at hBp hpl hps hBk;have hpg:∀(t:Nat) p,((ps.map PW.h).map PH.p)[t]? =some p→PgF t p:=fun t p hp=>by
  rw[yE,zI] at hp;obtain⟨x,hx,rfl⟩:=Zc.1 hp;exact(hps t x hx).2
 have hln:((ps.map PW.h).map PH.p).length=2:=by rw[zk,zk];exact hpl
 obtain⟨hs,hpo,hp64⟩:=qnM (ps:=(ps.map PW.h).map PH.p) (l:= []) Y6 hpg (zq _) (fun t ht=>by cases ht);have hq:=qfb (c:=cfF) (il:=ilF) (O:=3) (ps:=(ps.map PW.h).map PH.p) qmx rfl rfl (qir Y7);have hpR:=hBp.rd (W0:=W0);have hwc:=fun(own':Own) (hI:RdE q09 1 W0 own' (some ⟨b,0,none⟩) ilF) (m1:qv own' pD) (m2:qv own' (qcl ps)) (m3:qv own' kD)=>q5Q (W0:=W0) (own:=own') (c:=cfF) (ia:=some ⟨b,0,none⟩) (ic:=4) (pa:=pa) (pc:=pc) (ka:=ka) (kc:=kc) (l:= []) hF hs hq hI hpR.up (fun h hh=>by
  obtain⟨x,hx,rfl⟩:=zK.1 hh;obtain⟨t,ht,rfl⟩:=ZO hx;exact((((hps t _ (z6 ht)).1.rd (W0:=W0)).ent (qiu hx))).up) ((hBk.rd (W0:=W0)).up)
 refine Stop.mk ?_
 repeat'((try(conv=>whnf));first|(refine fH ?_)|((apply qe);first|((refine qd (hwc _ (q1A (by(repeat(first|exact List.Mem.head _|apply List.Mem.tail))) (fun _ _=>rfl) rfl) Y9 Y9 Y9) ?_))|((refine qd (htr _) ?_))|((refine qd (haw _) ?_)))|(refine fO ?_)|(refine fA ?_)|(refine fL ?_)|(refine fM ?_)|(refine qf (fun bk hbk=> ?_)))
 all_goals exact⟨rfl,(eC)⟩
end
end Go.Proofs.YtbhbldllneadeaaGreatDoor
