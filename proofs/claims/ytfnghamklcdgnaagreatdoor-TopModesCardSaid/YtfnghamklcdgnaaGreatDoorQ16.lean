/- What the laws share, part 16. No condition. -/
import Derived.Test.YtfnghamklcdgnaaGreatDoorQ15
set_option maxHeartbeats 8000000
set_option maxRecDepth 10000
namespace Go.Proofs.YtfnghamklcdgnaaGreatDoor
open Go
def qkM(P:Program)(W0:World)(J:(Nat->Bool)->Fr->Own->Prop):Nat->List (q4r×jh)->Prop
 |_,[]=>True
 |k,(⟨d,op,_⟩,ds)::r=>(∀(l:Nat->Bool) (f:Fr) (own:Own),l k=false->(∀j∈ds,l j=true)->J l f own->XO P W0 f own op fun v own'=>J (fun n=>bif Nat.beq n k then true else l n) (updO f d v) own')/\qkM P W0 J (k+1) r
theorem qkM.at{P:Program}{W0:World}{J:(Nat->Bool)->Fr->Own->Prop}:∀(ops:List (q4r×jh)) (k:Nat),qkM P W0 J k ops->∀(i:Nat) (d:Option Nat) (op:IOp) (e:Option (Nat×Bool)) (ds:jh),ops[i]? =some (⟨d,op,e⟩,ds)->
  ∀(l:Nat->Bool) (f:Fr) (own:Own),l (k+i)=false->(∀j∈ds,l j=true)->J l f own->XO P W0 f own op fun v own'=>J (fun n=>bif Nat.beq n (k+i) then true else l n) (updO f d v) own'
 | [],_,_,i,d,op,e,ds,hi=>by simp at hi
 |(⟨d0,op0,gd0⟩,ds0)::r,k,h,0,d,op,e,ds,hi=>by
  simp only[Zr,Option.some.injEq,Prod.mk.injEq,q4r.mk.injEq] at hi;obtain⟨⟨rfl,rfl,rfl⟩,rfl⟩:=hi;exact h.1
 |_::r,k,h,i+1,d,op,e,ds,hi=>by
  rw[List.getElem?_cons_succ] at hi;have:=qkM.at r (k+1) h.2 i d op e ds hi;rw[show k+1+i=k+(i+1) by omega] at this;exact this
theorem qi5{P:Program}{W0:World}{ops:List (q4r×jh)}{K:Fr->Own->Prop}{f:Fr}{own:Own}(J:(Nat->Bool)->Fr->Own->Prop)(j:J (fun _=>false) f own)(o:∀l f own,J l f own->(∀i,i<ops.length->l i=true)->K f own)(h:qkM P W0 J 0 ops):qor P W0 ops K f own:=
 ⟨J,j,o,fun i d op e ds l f own hi q hd hJ=>by
  have:=qkM.at ops 0 h i d op e ds hi l f own (by rw[zy];exact q) hd hJ;rw[zy] at this;exact this⟩
theorem q8r{f:Fr}{d:Nat}{v:Value}:updO f (some d) v d=v:=by unfold updO upd;dsimp only;rw[Nat.beq_refl];rfl
theorem q2e{f:Fr}{d k:Nat}{v:Value}(h:k≠d):updO f (some d) v k=f k:=by
 unfold updO upd;dsimp only;cases hb:Nat.beq k d with
 |false=>rfl
 |true=>exact absurd (ZH hb) h
theorem q7M:∀{l vs:je},l.length=vs.length->q0a l 0 vs vs
 | [],[],_=> .done .nil
 |_::_,_::_,h=> .put (q7M (by simpa using h))
 | [],_::_,h=>by simp at h
 |_::_,[],h=>by simp at h
def Sh8(cs:je):Prop:=∃(a1 a2 a3 a4 a5:j8) (j c1 n2 c2 o d q e n5 c5:Nat) (s v w:Int),cs= [.slice a1 j c1, .slice a2 n2 c2,uv s,uv v,uv w, .slice a3 o d, .slice a4 q e, .slice a5 n5 c5]
theorem Sh8.len{cs:je}(h:Sh8 cs):cs.length=8:=by obtain⟨_,_,_,_,_,_,_,_,_,_,_,_,_,_,_,_,_,_,rfl⟩:=h;rfl
theorem Sh8.one{cs:je}(h:Sh8 cs):∀v∈cs,q2r v=true:=by obtain⟨_,_,_,_,_,_,_,_,_,_,_,_,_,_,_,_,_,_,rfl⟩:=h;simp[q2r]
inductive KI
 |p|c|s (g:Nat)|d (g:Nat)|x (g:Nat)|u|z
def DaA(W0:World)(D0:Own)(l:jd)(v:Value):Prop:=∃a c,v= .slice a l.length c/\RdE q06 1 W0 D0 a l
theorem DaA.up{W0:World}{D D0:Own}{l:jd}{v:Value}(h:DaA W0 D0 l v):DaA W0 (D++D0) l v:=by
 obtain⟨a,c,d,e⟩:=h;exact⟨a,c,d,e.ent Ent.right⟩
def KI.P(W0:World)(D0:Own)(h:MH)(L:List (jd)):KI->Value->Prop
 | .p,v=>v= jn h.mb
 | .c,v=>v= .map (some h.mp)
 | .s g,v=>v= .slice (some ⟨h.b g,0,none⟩) (h.n g) (h.n g+(h.r g).length)
 | .d g,v=>DaA W0 D0 (L.getD g []) v
 | .x g,v=>v= .pointer (some ⟨h.b g,0+0*1,none⟩)
 | .u,v=>∃x,v=uv x
 | .z,v=>∃cs:je,v= .agg cs.toArray/\Sh8 cs/\DaA W0 D0 (L.getD 0 []) (cs.getD 0 (.bool false))
theorem KI.P.up{W0:World}{D D0:Own}{h:MH}{L:List (jd)}:∀{k:KI} {v:Value},KI.P W0 D0 h L k v->KI.P W0 (D++D0) h L k v
 | .p,_,e=>e
 | .c,_,e=>e
 | .s _,_,e=>e
 | .d _,_,e=>DaA.up e
 | .x _,_,e=>e
 | .u,_,e=>e
 | .z,_,⟨cs,h,j,o⟩=>⟨cs,h,j,o.up⟩
def kI:List KI:= [.p, .p, .p, .c, .s 0, .d 0, .p, .p, .p, .c, .s 1, .d 1, .p, .p, .p, .c, .s 2, .x 2, .u, .p, .p, .p, .c, .s 3, .x 3, .u, .p, .p, .p, .c, .s 4, .x 4, .u, .p, .p, .p, .c, .s 5, .d 5, .p, .p, .p, .c, .s 6, .d 6, .p, .p, .p, .c, .s 7, .d 7, .z]
abbrev PvI(W0:World)(D0:Own)(h:MH)(L:List (jd))(j:Nat):Value->Prop:=(kI.getD j .z).P W0 D0 h L
structure JI(W0:World)(D0:Own)(h:MH)(L:List (jd))(Q:Own)(b2:Nat)(l:Nat->Bool)(f:Fr)(own:Own):Prop where
 v:∀j,j<52->l j=true->PvI W0 D0 h L j (f (6+j))
 f0:f 0= jn h.mb
 f2:f 2= jn b2
 o:∃cs:je,Sh8 cs/\(l 52=true->DaA W0 D0 (L.getD 0 []) (cs.getD 0 (.bool false)))/\own.Perm ((b2,fun z=>z=Obj.cells cs.toArray 47 (0,0))::(D0++(h.OL L++Q)))
abbrev JIe(W0:World)(h:MH)(L:List (jd))(Q:Own)(b2:Nat)(l:Nat->Bool)(f:Fr)(own:Own):Prop:=∃D0,JI W0 D0 h L Q b2 l f own
section
variable{W0:World}{D0:Own}{h:MH}{L:List (jd)}{Q own:Own}{b2:Nat}{l:Nat->Bool}{f:Fr}
theorem JI.step(hJ:JI W0 D0 h L Q b2 l f own)(i:Nat){v:Value}(D:Own)(A:PvI W0 (D++D0) h L i v)(d:Nat.beq 52 i=false):JIe W0 h L Q b2 (fun n=>bif Nat.beq n i then true else l n) (updO f (some (6+i)) v) (D++own):=by
 refine⟨D++D0,fun j s w=>?_,by rw[q2e Yb];exact hJ.f0,by rw[q2e Yb];exact hJ.f2,?_⟩
 ·by_cases e:j=i
  ·subst e;rw[q8r];exact A
  ·rw[q2e Yb];refine(hJ.v j s ?_).up;cases hb:Nat.beq j i with
   |false=>simpa only[hb,cond_false] using w
   |true=>exact absurd (ZH hb) e
 ·obtain⟨cs,o,q,z⟩:=hJ.o;refine⟨cs,o,fun h=>(q (by simpa only[d,cond_false] using h)).up,(z.append_left D).trans ?_⟩;rw[zd];exact Z2
theorem JI.mem(hJ:JI W0 D0 h L Q b2 l f own){e:j9}(he:e∈h.OL L):e∈own:=by
 obtain⟨cs, -, -,d⟩:=hJ.o;exact d.mem_iff.2 (zr _ (zz _ (zq _ he)))
theorem qnN{j:Nat}(d:j<8):h.e L j∈h.OL L:=zr _ (zr _ (zO.2 ⟨j,ZY.2 d,rfl⟩))
theorem JI.rd(hJ:JI W0 D0 h L Q b2 l f own){j:Nat}(z:j<8):RdE q06 1 W0 own (some ⟨h.b j,0,none⟩) (L.getD j []):=by
 refine⟨fun _=>rfl,fun _ _=>rfl,fun{i k x v} s o=>?_⟩;obtain rfl:k=0:=by
  rcases Nat.eq_zero_or_pos k with e|e
  ·exact e
  ·rw[zR (by simp only[zu,zE];omega)] at o;cases o
 have q:uv x=v:=by simpa using o
 subst q;show Kn W0 own (fun w=>w.cell? ⟨h.b j,0+i*1+0,none⟩=some (uv x));refine q0E (hJ.mem (qnN z)) ?_;have d:=(z7.1 s).1;rw[zQ,zy,yo,ZI,zB (by simpa using d),zI,s];rfl
variable(hJ:JI W0 D0 h L Q b2 l f own)
include hJ
theorem JI.mov(i:Nat)(hi:kI.getD i .z= .p)(d:Nat.beq 52 i=false:=by rfl):XO Tryz.prog W0 f own (.mov (.tmp 0)) fun v own'=>JIe W0 h L Q b2 (fun n=>bif Nat.beq n i then true else l n) (updO f (some (6+i)) v) own':=by
 unfold XO;dsimp only[ev];rw[hJ.f0];exact hJ.step i [] (by unfold PvI;rw[hi];rfl) d
theorem JI.nilc(i t:Nat)(hi:kI.getD i .z= .p)(e:KI.P W0 D0 h L .p (f t))(d:Nat.beq 52 i=false:=by rfl):XO Tryz.prog W0 f own (.nilc (.tmp t)) fun v own'=>JIe W0 h L Q b2 (fun n=>bif Nat.beq n i then true else l n) (updO f (some (6+i)) v) own':=by
 have ht':f t= jn h.mb:=e;unfold XO;dsimp only[ev];rw[ht'];exact hJ.step i [] (by unfold PvI;rw[hi];rfl) d
theorem JI.fad(i t:Nat)(hi:kI.getD i .z= .p)(e:KI.P W0 D0 h L .p (f t))(d:Nat.beq 52 i=false:=by rfl):XO Tryz.prog W0 f own (.fad 0 (.tmp t)) fun v own'=>JIe W0 h L Q b2 (fun n=>bif Nat.beq n i then true else l n) (updO f (some (6+i)) v) own':=by
 have ht':f t= jn h.mb:=e;unfold XO;dsimp only[ev];rw[ht'];exact hJ.step i [] (by unfold PvI;rw[hi];rfl) d
theorem JI.ldm(i t:Nat)(hi:kI.getD i .z= .c)(e:KI.P W0 D0 h L .p (f t))(d:Nat.beq 52 i=false:=by rfl):XO Tryz.prog W0 f own (.ld (.tmp t)) fun v own'=>JIe W0 h L Q b2 (fun n=>bif Nat.beq n i then true else l n) (updO f (some (6+i)) v) own':=by
 have ht':f t= jn h.mb:=e;unfold XO;dsimp only[ev];rw[ht'];exact⟨_,q0E (hJ.mem zp) rfl,hJ.step i [] (by unfold PvI;rw[hi];rfl) d⟩
theorem JI.mlk(j:h.ok L)(i t g:Nat)(o:g<8)(e:Int)(q:e=(g:Int)+1)(hi:kI.getD i .z=(.s g))(s:KI.P W0 D0 h L .c (f t))(d:Nat.beq 52 i=false:=by rfl):XO Tryz.prog W0 f own (.mlk 0 (j6) false (.tmp t) (.const (j4 e))) fun v own'=>JIe W0 h L Q b2 (fun n=>bif Nat.beq n i then true else l n) (updO f (some (6+i)) v) own':=by
 have ht':f t= .map (some h.mp):=s;subst q;unfold XO;dsimp only[ev];rw[ht'];exact⟨h.ml,_,hJ.mem (zr _ zp),j.fd g o,hJ.step i [] (by unfold PvI;rw[hi];rfl) d⟩
theorem JI.cln(j:h.ok L)(i t g:Nat)(e:g<8)(hi:kI.getD i .z= .d g)(s:KI.P W0 D0 h L (.s g) (f t))(o:Nat.beq 52 i=false:=by rfl):XO Tryz.prog W0 f own (.call 57 [.tmp t]) fun v own'=>JIe W0 h L Q b2 (fun n=>bif Nat.beq n i then true else l n) (updO f (some (6+i)) v) own':=by
 have ht':f t= .slice (some ⟨h.b g,0,none⟩) (h.n g) (h.n g+(h.r g).length):=s;have d:=qW (W0:=W0) (own:=own) (cap:=h.n g+(h.r g).length) (hJ.rd e) (by rw[j.ln g e];have:=j.bd g e;omega);rw[j.ln g e] at d
 change q0g Tryz.prog W0 own _ [f t] _
 rw[ht'];refine qcv d rfl rfl fun y v w=>?_
 obtain⟨a1,c1,D1⟩:=y;obtain⟨rfl,q⟩:=w;exact hJ.step i D1 (by unfold PvI;rw[hi];exact⟨a1,c1,by rw[j.ln g e],(q.rd (W0:=W0)).ent Ent.left⟩) o
theorem JI.ixs(i t g:Nat)(e:0<h.n g)(hi:kI.getD i .z=(.x g))(j:KI.P W0 D0 h L (.s g) (f t))(d:Nat.beq 52 i=false:=by rfl):XO Tryz.prog W0 f own (.ixs 1 (.tmp t) (.const (j4 0))) fun v own'=>JIe W0 h L Q b2 (fun n=>bif Nat.beq n i then true else l n) (updO f (some (6+i)) v) own':=by
 have ht':f t= .slice (some ⟨h.b g,0,none⟩) (h.n g) (h.n g+(h.r g).length):=j;unfold XO;dsimp only[ev];rw[ht'];exact⟨0,h.b g,0,rfl,e,rfl,hJ.step i [] (by unfold PvI;rw[hi];rfl) d⟩
theorem JI.ldu(o:h.ok L)(i t g:Nat)(j:g<8)(q:0<h.n g)(hi:kI.getD i .z= .u)(s:KI.P W0 D0 h L (.x g) (f t))(d:Nat.beq 52 i=false:=by rfl):XO Tryz.prog W0 f own (.ld (.tmp t)) fun v own'=>JIe W0 h L Q b2 (fun n=>bif Nat.beq n i then true else l n) (updO f (some (6+i)) v) own':=by
 have ht':f t= .pointer (some ⟨h.b g,0+0*1,none⟩):=s;unfold XO;dsimp only[ev];rw[ht'];have e:0<(L.getD g []).length:=by rw[o.ln g j];exact q
 have w:(L.getD g [])[0]? =some ((L.getD g [])[0]):=z6 e;exact⟨_,(hJ.rd j).cell (k:=0) w rfl,hJ.step i [] (by unfold PvI;rw[hi];exact⟨_,rfl⟩) d⟩
theorem JI.bld(z:KI.P W0 D0 h L (.d 0) (f 11))(A:KI.P W0 D0 h L (.d 1) (f 17))(B:KI.P W0 D0 h L (.d 5) (f 44))(C:KI.P W0 D0 h L (.d 6) (f 50))(D:KI.P W0 D0 h L (.d 7) (f 56))(F:KI.P W0 D0 h L .u (f 24))(G:KI.P W0 D0 h L .u (f 31))(H:KI.P W0 D0 h L .u (f 38)):XO Tryz.prog W0 f own (.bld [j6,j6,j5 0,j5 0,j5 0,j6,j6,j6] [(0,1, .tmp 11),(1,1, .tmp 17),(2,1, .tmp 24),(3,1, .tmp 31),(4,1, .tmp 38),(5,1, .tmp 44),(6,1, .tmp 50),(7,1, .tmp 56)]) fun v own'=>JIe W0 h L Q b2 (fun n=>bif Nat.beq n 51 then true else l n) (updO f (some 57) v) own':=by
 obtain⟨a1,c1,j,E⟩:=z;obtain⟨a2,c2,o, -⟩:=A;obtain⟨a3,d,q, -⟩:=B;obtain⟨a4,e,s, -⟩:=C;obtain⟨a5,c5,w, -⟩:=D;obtain⟨I,g1⟩:=F;obtain⟨J,g2⟩:=G;obtain⟨K,g3⟩:=H;unfold XO;dsimp only;simp only[q22,qc7,ev,j,o,q,s,w,g1,g2,g3];exact hJ.step 51 [] ⟨[.slice a1 (L.getD 0 []).length c1, .slice a2 (L.getD 1 []).length c2,uv I,uv J,uv K, .slice a3 (L.getD 5 []).length d, .slice a4 (L.getD 6 []).length e, .slice a5 (L.getD 7 []).length c5],rfl,⟨_,_,_,_,_,_,_,_,_,_,_,_,_,_,_,_,_,_,rfl⟩,a1,c1,rfl,E⟩ rfl
theorem JI.stn(D:KI.P W0 D0 h L .z (f 57)):XO Tryz.prog W0 f own (.stN 8 (.tmp 2) (.tmp 57)) fun v own'=>JIe W0 h L Q b2 (fun n=>bif Nat.beq n 52 then true else l n) (updO f none v) own':=by
 obtain⟨cs,E,o,d⟩:=D;have e:=o.len;have w:=o.one;obtain⟨cs0,q, -,s⟩:=hJ.o;have hl0:=q.len;have hm:=s.mem_iff.2 zp;obtain⟨A,B,rfl⟩:=Zz hm;unfold XO;dsimp only[ev];rw[hJ.f2,E];refine⟨by simpa using e,?_⟩;refine q2A (cs':=cs) (own':=A++(b2,fun z=>z=Obj.cells cs.toArray 47 (0,0))::B) (Up.head.app A) ?_ (by simpa using w) ?_
 ·rw[zQ,zQ];exact q7M Yb
 ·refine⟨D0,fun j C e=>hJ.v j C ?_,hJ.f0,hJ.f2,cs,o,fun _=>d,?_⟩
  ·cases hb:Nat.beq j 52 with
   |false=>simpa only[hb,cond_false] using e
   |true=>exact absurd (ZH hb) Yb
  ·exact Z2.trans (((Z2.symm.trans s).cons_inv).cons _)
end
section
variable{W0:World}{h:MH}{L:List (jd)}
theorem qlQ{f:Fr}{own:Own}{b2:Nat}{K:Value->Own->Prop}(d:f 2= jn b2)(e:LdN W0 own ⟨b2,0,none⟩ 8 fun v=>K (.agg v) own):qba W0 f own [.cellN 2 8] fun vs=>K (qib vs) own:=by
 unfold qba;dsimp only;rw[d];exact e
theorem qgp(d:h.ok L)(o:∀g,g=2\/g=3\/g=4->0<h.n g)(Q:Own):jk W0 32 [jn h.mb] (h.OL L++Q) fun v own'=>∃s:je×Own,(v= .agg s.1.toArray/\Sh8 s.1/\DaA W0 s.2 (L.getD 0 []) (s.1.getD 0 (.bool false)))/\Ent W0 own' ((s.2++h.OL L)++Q):=by
 refine sH [2] ?_
 repeat'((try conv=>whnf);first|refine fD ?_|refine qg fun A hbk=>?_)
 refine qi5 (JIe W0 h L Q A) ⟨[],fun _ _ j=>(by cases j),rfl,rfl,_,⟨_,_,_,_,_,_,_,_,_,_,_,_,_,_,_,_,_,_,rfl⟩,fun j=>(by cases j),List.Perm.refl _⟩ ?_ ?_
 ·rintro l f own ⟨D0,hJ⟩ j;obtain⟨cs,z,e,w⟩:=hJ.o;have e:=e (j 52 Yc);clear j;have q:=z.len;have hm:=w.mem_iff.2 zp;refine qlQ (K:=fun v own'=>∃s:je×Own,(v= .agg s.1.toArray/\Sh8 s.1/\DaA W0 s.2 (L.getD 0 []) (s.1.getD 0 (.bool false)))/\Ent W0 own' ((s.2++h.OL L)++Q)) hJ.f2 (qZ hm (by simpa using q) ?_);exact⟨(cs,D0),⟨rfl,z,e⟩,by rw[zd];exact(Ent.of_perm w).trans (Ent.of_sub (zT _ _))⟩
 ·exact⟨fun l f own _ _ ⟨D0,hJ⟩=>JI.mov hJ 0 rfl,
  fun l f own _ hd ⟨D0,hJ⟩=>JI.nilc hJ 1 6 rfl (hJ.v 0 Yc (hd 0 Yd)),
  fun l f own _ hd ⟨D0,hJ⟩=>JI.fad hJ 2 7 rfl (hJ.v 1 Yc (hd 1 Yd)),
  fun l f own _ hd ⟨D0,hJ⟩=>JI.ldm hJ 3 8 rfl (hJ.v 2 Yc (hd 2 Yd)),
  fun l f own _ hd ⟨D0,hJ⟩=>JI.mlk hJ d 4 9 0 Yc 1 Yc rfl (hJ.v 3 Yc (hd 3 Yd)),
  fun l f own _ hd ⟨D0,hJ⟩=>JI.cln hJ d 5 10 0 Yc rfl (hJ.v 4 Yc (hd 4 Yd)),
  fun l f own _ _ ⟨D0,hJ⟩=>JI.mov hJ 6 rfl,
  fun l f own _ hd ⟨D0,hJ⟩=>JI.nilc hJ 7 12 rfl (hJ.v 6 Yc (hd 6 Yd)),
  fun l f own _ hd ⟨D0,hJ⟩=>JI.fad hJ 8 13 rfl (hJ.v 7 Yc (hd 7 Yd)),
  fun l f own _ hd ⟨D0,hJ⟩=>JI.ldm hJ 9 14 rfl (hJ.v 8 Yc (hd 8 Yd)),
  fun l f own _ hd ⟨D0,hJ⟩=>JI.mlk hJ d 10 15 1 Yc 2 Yc rfl (hJ.v 9 Yc (hd 9 Yd)),
  fun l f own _ hd ⟨D0,hJ⟩=>JI.cln hJ d 11 16 1 Yc rfl (hJ.v 10 Yc (hd 10 Yd)),
  fun l f own _ _ ⟨D0,hJ⟩=>JI.mov hJ 12 rfl,
  fun l f own _ hd ⟨D0,hJ⟩=>JI.nilc hJ 13 18 rfl (hJ.v 12 Yc (hd 12 Yd)),
  fun l f own _ hd ⟨D0,hJ⟩=>JI.fad hJ 14 19 rfl (hJ.v 13 Yc (hd 13 Yd)),
  fun l f own _ hd ⟨D0,hJ⟩=>JI.ldm hJ 15 20 rfl (hJ.v 14 Yc (hd 14 Yd)),
  fun l f own _ hd ⟨D0,hJ⟩=>JI.mlk hJ d 16 21 2 Yc 3 Yc rfl (hJ.v 15 Yc (hd 15 Yd)),
  fun l f own _ hd ⟨D0,hJ⟩=>JI.ixs hJ 17 22 2 (o 2 Yc) rfl (hJ.v 16 Yc (hd 16 Yd)),
  fun l f own _ hd ⟨D0,hJ⟩=>JI.ldu hJ d 18 23 2 Yc (o 2 Yc) rfl (hJ.v 17 Yc (hd 17 Yd)),
  fun l f own _ _ ⟨D0,hJ⟩=>JI.mov hJ 19 rfl,
  fun l f own _ hd ⟨D0,hJ⟩=>JI.nilc hJ 20 25 rfl (hJ.v 19 Yc (hd 19 Yd)),
  fun l f own _ hd ⟨D0,hJ⟩=>JI.fad hJ 21 26 rfl (hJ.v 20 Yc (hd 20 Yd)),
  fun l f own _ hd ⟨D0,hJ⟩=>JI.ldm hJ 22 27 rfl (hJ.v 21 Yc (hd 21 Yd)),
  fun l f own _ hd ⟨D0,hJ⟩=>JI.mlk hJ d 23 28 3 Yc 4 Yc rfl (hJ.v 22 Yc (hd 22 Yd)),
  fun l f own _ hd ⟨D0,hJ⟩=>JI.ixs hJ 24 29 3 (o 3 Yc) rfl (hJ.v 23 Yc (hd 23 Yd)),
  fun l f own _ hd ⟨D0,hJ⟩=>JI.ldu hJ d 25 30 3 Yc (o 3 Yc) rfl (hJ.v 24 Yc (hd 24 Yd)),
  fun l f own _ _ ⟨D0,hJ⟩=>JI.mov hJ 26 rfl,
  fun l f own _ hd ⟨D0,hJ⟩=>JI.nilc hJ 27 32 rfl (hJ.v 26 Yc (hd 26 Yd)),
  fun l f own _ hd ⟨D0,hJ⟩=>JI.fad hJ 28 33 rfl (hJ.v 27 Yc (hd 27 Yd)),
  fun l f own _ hd ⟨D0,hJ⟩=>JI.ldm hJ 29 34 rfl (hJ.v 28 Yc (hd 28 Yd)),
  fun l f own _ hd ⟨D0,hJ⟩=>JI.mlk hJ d 30 35 4 Yc 5 Yc rfl (hJ.v 29 Yc (hd 29 Yd)),
  fun l f own _ hd ⟨D0,hJ⟩=>JI.ixs hJ 31 36 4 (o 4 Yc) rfl (hJ.v 30 Yc (hd 30 Yd)),
  fun l f own _ hd ⟨D0,hJ⟩=>JI.ldu hJ d 32 37 4 Yc (o 4 Yc) rfl (hJ.v 31 Yc (hd 31 Yd)),
  fun l f own _ _ ⟨D0,hJ⟩=>JI.mov hJ 33 rfl,
  fun l f own _ hd ⟨D0,hJ⟩=>JI.nilc hJ 34 39 rfl (hJ.v 33 Yc (hd 33 Yd)),
  fun l f own _ hd ⟨D0,hJ⟩=>JI.fad hJ 35 40 rfl (hJ.v 34 Yc (hd 34 Yd)),
  fun l f own _ hd ⟨D0,hJ⟩=>JI.ldm hJ 36 41 rfl (hJ.v 35 Yc (hd 35 Yd)),
  fun l f own _ hd ⟨D0,hJ⟩=>JI.mlk hJ d 37 42 5 Yc 6 Yc rfl (hJ.v 36 Yc (hd 36 Yd)),
  fun l f own _ hd ⟨D0,hJ⟩=>JI.cln hJ d 38 43 5 Yc rfl (hJ.v 37 Yc (hd 37 Yd)),
  fun l f own _ _ ⟨D0,hJ⟩=>JI.mov hJ 39 rfl,
  fun l f own _ hd ⟨D0,hJ⟩=>JI.nilc hJ 40 45 rfl (hJ.v 39 Yc (hd 39 Yd)),
  fun l f own _ hd ⟨D0,hJ⟩=>JI.fad hJ 41 46 rfl (hJ.v 40 Yc (hd 40 Yd)),
  fun l f own _ hd ⟨D0,hJ⟩=>JI.ldm hJ 42 47 rfl (hJ.v 41 Yc (hd 41 Yd)),
  fun l f own _ hd ⟨D0,hJ⟩=>JI.mlk hJ d 43 48 6 Yc 7 Yc rfl (hJ.v 42 Yc (hd 42 Yd)),
  fun l f own _ hd ⟨D0,hJ⟩=>JI.cln hJ d 44 49 6 Yc rfl (hJ.v 43 Yc (hd 43 Yd)),
  fun l f own _ _ ⟨D0,hJ⟩=>JI.mov hJ 45 rfl,
  fun l f own _ hd ⟨D0,hJ⟩=>JI.nilc hJ 46 51 rfl (hJ.v 45 Yc (hd 45 Yd)),
  fun l f own _ hd ⟨D0,hJ⟩=>JI.fad hJ 47 52 rfl (hJ.v 46 Yc (hd 46 Yd)),
  fun l f own _ hd ⟨D0,hJ⟩=>JI.ldm hJ 48 53 rfl (hJ.v 47 Yc (hd 47 Yd)),
  fun l f own _ hd ⟨D0,hJ⟩=>JI.mlk hJ d 49 54 7 Yc 8 Yc rfl (hJ.v 48 Yc (hd 48 Yd)),
  fun l f own _ hd ⟨D0,hJ⟩=>JI.cln hJ d 50 55 7 Yc rfl (hJ.v 49 Yc (hd 49 Yd)),
  fun l f own _ hd ⟨D0,hJ⟩=>JI.bld hJ (hJ.v 5 Yc (hd 5 Yd)) (hJ.v 11 Yc (hd 11 Yd)) (hJ.v 38 Yc (hd 38 Yd)) (hJ.v 44 Yc (hd 44 Yd)) (hJ.v 50 Yc (hd 50 Yd)) (hJ.v 18 Yc (hd 18 Yd)) (hJ.v 25 Yc (hd 25 Yd)) (hJ.v 32 Yc (hd 32 Yd)),
  fun l f own _ hd ⟨D0,hJ⟩=>JI.stn hJ (hJ.v 51 Yc (hd 51 Yd)),
  trivial⟩
end
open Go
def AP.tick:AP->Bool
 | .tn b=>b
 | .ck _=>true
 | .dc=>true
 | .wr _ _=>true
 | .rl _ _=>true
 | .sp=>true
 | .ps=>true
 |_=>false
def AP.hold:AP->Bool
 | .ck _=>true
 | .dc=>true
 | .wr _ _=>true
 | .rl _ _=>true
 | .sp=>true
 | .ps=>true
 |_=>false
def AT.held(a:AT):jd:=match a.ph with
 | .lk _ _=>a.oc.take a.old.length
 | .tn _=>a.oc
 | .ck _=>a.oc
 | .dc=>a.oc
 | .wr _ _=>a.oc
 | .rl l _=>l
 |_=> []
def q1T(m:MS)(o:Int):Int:=q5J (m.o.getD o.toNat 0)
def qj8(m:MS)(o:Int):Int:=q3R (m.o.getD o.toNat 0)
def qb8(m:MS)(l w:jd):Prop:=∀j,j<w.length->q5J (w.getD j 0)=q1T m (l.getD j 0)/\q3R (w.getD j 0)<0/\okU (w.getD j 0)
def AT.fresh(a:AT):Prop:=a.dn=false/\a.oc= []/\a.old= []
def PhA(c:Cfg)(m:MS)(a:AT):Prop:=
 match a.ph with
 | .idle=>a.fresh
 | .loc k=>a.fresh/\(∀w v,k= .wr w v->0<=w)/\∀b v,k= .fd b v->0<=b/\b<qh c
 | .ent n=>a.fresh/\n<=2
 | .rd n _ _=>a.fresh/\n<=2/\0<=a.addr/\a.addr<c.words+qh c/\(0<=a.us->a.us<qh c)
 | .pp n _ _ _=>a.fresh/\n<=2
 | .lk s ld=>a.dn=false/\a.code=1/\a.ad≠ []/\a.old.length<a.oc.length/\(∀w∈a.ad,qC c w∈a.oc)/\qb8 m a.oc a.old/\(ld=true->q3R s<0/\okU s)
 | .tn _=>a.dn=false/\a.old.length=a.oc.length/\((a.code=1->∀w∈a.ad,qC c w∈a.oc)/\(a.oc≠ []->a.code=1/\a.ad≠ []))/\qb8 m a.oc a.old
 | .ck l=>a.dn=false/\a.old.length=a.oc.length/\((a.code=1->∀w∈a.ad,qC c w∈a.oc)/\(a.oc≠ []->a.code=1/\a.ad≠ []))/\qb8 m a.oc a.old/\l≠ []/\(∀o∈l,o∈a.set)/\∀o∈a.set,o∈l\/q1T m o<=a.rv
 | .dc=>a.dn=false/\a.old.length=a.oc.length/\((a.code=1->∀w∈a.ad,qC c w∈a.oc)/\(a.oc≠ []->a.code=1/\a.ad≠ []))/\qb8 m a.oc a.old/\∀o∈a.set,q1T m o<=a.rv
 | .wr A V=>a.dn=true/\a.code=1/\a.ad≠ []/\a.ck=m.ck/\A≠ []/\A.length=V.length/\A.Nodup/\(∀w∈A,w∈a.ad)/\∀w∈a.ad,qC c w∈a.oc
 | .rl l w=>l≠ []/\(∀o∈l,o∈a.oc)/\l.length=w.length/\l.Nodup/\((a.dn=true/\a.code=1/\a.ad≠ []/\a.ck=m.ck/\∀z∈w,z=(m.ck+1)*64)\/(a.dn=false/\qb8 m l w))
 | .sp=>a.dn=true/\a.code=1/\a.ad≠ []/\a.ck=m.ck
 | .ps=>True
 | .ph _ _ _=>True
 | .lv=>True
def AP.past:AP->Bool
 | .ent n=>decide (2<=n)
 |_=>true
structure AI(c:Cfg)(t:Nat)(m:MS)(a:AT):Prop where
 ph:PhA c m a
 rv:a.ph.past=true->0<=a.rv/\a.rv<=m.ck
 tk:a.ph.tick=true->m.sv<=a.tk/\a.tk<m.tk
 ho:a.ph.hold=true->a.tk=m.sv
 hl:∀o∈a.held,qj8 m o=t
 oc:∀o∈a.oc,0<=o/\o.toNat<m.o.length
 nd:a.oc.Nodup
 an:a.ad.Nodup
 ar:∀w∈a.ad,0<=w/\w<c.words+qh c
 al:a.ad.length=a.vl.length
 st:∀o∈a.set,0<=o/\o.toNat<m.o.length
structure GM(c:Cfg)(n k:Nat)(m:MS):Prop where
 o:∀j,okU (m.o.getD j 0)
 ol:(m.o.length:Int)=c.orecs
 dl:(m.d.length:Int)=c.words+qh c
 sl:m.sl.length=n
 sv:0<=m.sv/\m.sv<=m.tk
 tk:m.tk<=k
 ck:0<=m.ck/\m.ck<=k
structure FrM(t:Nat)(a:AT)(m m':MS):Prop where
 ck:m'.ck=m.ck\/(a.ph.hold=true/\m.ck<=m'.ck)
 sv:m'.sv=m.sv\/(a.ph.hold=true/\m'.sv=m.sv+1)
 tk:m.tk<=m'.tk
 ol:m'.o.length=m.o.length
 o:∀k,0<=q3R (m.o.getD k 0)->q3R (m.o.getD k 0)≠t->m'.o.getD k 0=m.o.getD k 0
 ver:∀o,q1T m' o=q1T m o\/(a.dn=true/\(∃l w,a.ph= .rl l w/\o.toNat=(l.headD 0).toNat)/\q1T m' o=m.ck+1)
theorem FrM.same{t:Nat}{a:AT}{m m':MS}(e:m'.ck=m.ck)(j:m'.sv=m.sv)(q:m.tk<=m'.tk)(d:m'.o=m.o):FrM t a m m':=
 ⟨.inl e, .inl j,q,by rw[d],fun k _ _=>by rw[d],fun o=> .inl (by unfold q1T;rw[d])⟩
section
variable{c:Cfg}{t u n k:Nat}{m m':MS}{a b:AT}
theorem qb8.same{l w:jd}(h:qb8 m l w)(q:∀j,j<w.length->q1T m' (l.getD j 0)=q1T m (l.getD j 0)):qb8 m' l w:=fun j d=>by
 obtain⟨e,o⟩:=h j d;exact⟨by rw[q j d];exact e,o⟩
theorem q3N(h:m'.o=m.o)(o:Int):q1T m' o=q1T m o:=by unfold q1T;rw[h]
theorem qb8.cong{l w:jd}(h:qb8 m l w)(d:m'.o=m.o):qb8 m' l w:=h.same fun _ _=>q3N d _
theorem AI.frame(hu:u≠t)(E:FrM t a m m')(hd:a.ph.tick=true->b.ph.tick=true->a.tk≠b.tk)(O:a.ph.hold=true->a.ph.tick=true/\a.tk=m.sv)(hb:AI c u m b):AI c u m' b:=by
 have S:b.ph.hold=true->b.ph.tick=true:=fun h=>by
  cases e:b.ph <;>rw[e] at h <;>first|rfl|cases h
 have G:b.ph.hold=true->a.ph.hold=true->False:=fun v D=>by
  obtain⟨B,C⟩:=O D;exact hd B (S v) (C.trans (hb.ho v).symm)
 have F:b.ph.hold=true->m'.ck=m.ck:=fun h=>by
  rcases E.ck with e|⟨e,_⟩
  ·exact e
  ·exact absurd e (fun e=>G h e)
 have I:b.ph.hold=true->∀o,q1T m' o=q1T m o:=fun h o=>by
  rcases E.ver o with e|⟨_,⟨l,w,e,_⟩,_⟩
  ·exact e
  ·exact(G h (by rw[e];rfl)).elim
 have N:∀o∈b.held,m'.o.getD o.toNat 0=m.o.getD o.toNat 0:=fun o z=>by
  have v:=hb.hl o z;unfold qj8 at v;exact E.o _ Yb Yb
 have q:∀o∈b.held,q1T m' o=q1T m o:=fun o z=>by unfold q1T;rw[N o z]
 have hck2:m.ck<=m'.ck:=by rcases E.ck with e|⟨_,e⟩ <;>omega
 refine⟨?_,fun h=>⟨(hb.rv h).1,by have:=(hb.rv h).2;omega⟩,fun h=>?_,fun h=>?_,fun o z=>?_,fun o z=>by rw[E.ol];exact hb.oc o z,hb.nd,hb.an,hb.ar,hb.al,fun o z=>by rw[E.ol];exact hb.st o z⟩
 ·have d:=hb.ph;unfold PhA at d ⊢;unfold AT.held at q;have R:∀(l:jd) (j:Nat),j<l.length->l.getD j 0∈l:=fun l j J=>by rw[zg,z6 J];exact ZW _
  cases e:b.ph with
  |idle=>rw[e] at d;exact d
  |loc _=>rw[e] at d;exact d
  |ent _=>rw[e] at d;exact d
  |rd _ _ _=>rw[e] at d;exact d
  |pp _ _ _ _=>rw[e] at d;exact d
  |lk s ld=>
   rw[e] at d q;dsimp only at d q ⊢;obtain⟨v,D,B,C,K,M,P⟩:=d;refine⟨v,D,B,C,K,M.same fun j J=>q _ ?_,P⟩;refine List.mem_iff_getElem?.2 ⟨j,?_⟩;rw[Y7,if_pos J,zg,z6 Yb];rfl
  |tn _=>
   rw[e] at d q;dsimp only at d q ⊢;obtain⟨v,D,B,C⟩:=d;exact⟨v,D,B,C.same fun j J=>q _ (R _ _ Yb)⟩
  |ck l=>
   rw[e] at d q;dsimp only at d q ⊢;have H:=I (by rw[e];rfl);obtain⟨v,D,B,C,K,P,M⟩:=d;exact⟨v,D,B,C.same fun j J=>H _,K,P,fun o z=>by rw[H];exact M o z⟩
  |dc=>
   rw[e] at d q;dsimp only at d q ⊢;have H:=I (by rw[e];rfl);obtain⟨v,D,B,C,M⟩:=d;exact⟨v,D,B,C.same fun j J=>H _,fun o z=>by rw[H];exact M o z⟩
  |wr A V=>
   rw[e] at d;dsimp only at d ⊢;rw[F (by rw[e];rfl)];exact d
  |rl l w=>
   rw[e] at d;dsimp only at d ⊢;have H:=I (by rw[e];rfl);rw[F (by rw[e];rfl)];obtain⟨v,K,D,B,C⟩:=d;exact⟨v,K,D,B,C.imp id fun h=>⟨h.1,h.2.same fun j _=>H _⟩⟩
  |sp=>
   rw[e] at d;dsimp only at d ⊢;rw[F (by rw[e];rfl)];exact d
  |ps=>trivial
  |ph _ _ _=>trivial
  |lv=>trivial
 ·have v:=hb.tk h;have:=E.tk;refine⟨?_,Yb⟩
  rcases E.sv with e|⟨e,e2⟩
  ·omega
  ·obtain⟨B,C⟩:=O e;have:=hd B h;omega
 ·rcases E.sv with e|⟨e,_⟩
  ·rw[e];exact hb.ho h
  ·exact(G h e).elim
 ·unfold qj8;rw[N o z];exact hb.hl o z
end
open Go
theorem q3c{l:jd}{i j:Nat}{v:Int}(h:i≠j):(l.set i v).getD j 0=l.getD j 0:=by
 rw[zg,zx,if_neg h,zg]
theorem q51{l:jd}{i:Nat}{v:Int}(h:i<l.length):(l.set i v).getD i 0=v:=by
 rw[zg,zx,if_pos rfl,if_pos h];rfl
theorem qhK{l:jd}{j:Nat}(h:j<l.length):l.getD j 0∈l:=by
 rw[zg,z6 h];exact ZW _
theorem qhL{l:jd}{i:Nat}{v:Int}(h:∀j,okU (l.getD j 0))(d:okU v)(j:Nat):okU ((l.set i v).getD j 0):=by
 by_cases e:i=j
 ·subst e
  by_cases hi:i<l.length
  ·rw[q51 hi];exact d
  ·rw[List.set_eq_of_length_le Yb];exact h i
 ·rw[q3c e];exact h j
theorem qlU{l:jd}{j:Nat}{v:Int}(h:j<l.length):(l++ [v]).getD j 0=l.getD j 0:=by
 rw[zg,zB h,zg]
theorem qj3{l:jd}{v:Int}:(l++ [v]).getD l.length 0=v:=by
 rw[zg,zJ (zN _),ZC];rfl
theorem q54{l:jd}(h:l≠ []):l.headD 0∈l:=by
 cases l with
 |nil=>exact absurd rfl h
 |cons x r=>exact zp
theorem q8V{l:jd}(h:l≠ []):l.headD 0::l.tail=l:=by
 cases l with
 |nil=>exact absurd rfl h
 |cons x r=>rfl
theorem qm8{s:Int}{t:Nat}(h:q3R s<0)(d:okU s)(ht:t<16):qV (s+t+1)=s+t+1/\q5J (s+t+1)=q5J s/\q3R (s+t+1)=t/\okU (s+t+1):=by
 unfold q3R at h;unfold okU at d;have hw:okU (s+t+1):=by unfold okU;omega
 refine⟨q3P hw,?_,?_,hw⟩
 ·unfold q5J;omega
 ·unfold q3R;omega
theorem qhJ(z:Int):q5J (z*64)=z/\q3R (z*64)<0:=by
 unfold q5J q3R;omega
structure COk(c:Cfg):Prop where
 ck:qI c=0
 st:c.strong=true
theorem COk.or{c:Cfg}(h:COk c)(w:Int)(d:0<=w)(e:w<c.words+qh c):0<=qC c w/\qC c w<c.orecs:=by
 have j:=(qK h.ck).1;unfold okW at j;unfold qC;rw[if_pos ⟨h.ck,d,e⟩];exact⟨Y2 _ Yb,yK _ Yb⟩
section
variable{c:Cfg}{t u n k:Nat}{m m':MS}{a b:AT}
theorem GM.mono(h:GM c n k m):GM c n (k+1) m:=⟨h.o,h.ol,h.dl,h.sl,h.sv,by have:=h.tk;omega,by have:=h.ck;omega⟩
theorem GM.len(h:GM c n k m){o:Int}(h0:0<=o/\o<c.orecs):0<=o/\o.toNat<m.o.length:=by
 have:=h.ol;omega
theorem AI.to(d:AI c t m a)(E:PhA c m b)(v:b.rv=a.rv)(s:b.oc=a.oc)(j:b.ad=a.ad)(w:b.vl=a.vl)(z:b.set=a.set)(q:a.ph.past=true)(A:b.ph.tick=true->b.tk=a.tk/\a.ph.tick=true)(B:b.ph.hold=true->b.tk=m.sv)(C:∀o∈b.held,o∈a.held):AI c t m b:=
 ⟨E,fun _=>by rw[v];exact d.rv q,fun h=>by obtain⟨e,h⟩:=A h;rw[e];exact d.tk h,B,fun o D=>d.hl o (C o D),by rw[s];exact d.oc,by rw[s];exact d.nd,by rw[j];exact d.an,by rw[j];exact d.ar,by rw[j,w];exact d.al,by rw[z];exact d.st⟩
theorem AI.end(G:COk c)(H:GM c n k m)(d:AI c t m a)(I:a.fresh)(C:a.ph.past=true)(code:Int):AI c t m (a.endA c code):=by
 obtain⟨A,v,hold⟩:=I;unfold AT.endA
 split
 ·rename_i z;obtain⟨F,E,hs3⟩:=q7b (a.ad.map (qC c));have q:∀w∈a.ad,qC c w∈q8l (a.ad.map (qC c)):=fun w hw=>(E _).2 (ZU hw)
  have D:0<(q8l (a.ad.map (qC c))).length:=by
   obtain⟨w,hw⟩:=List.exists_mem_of_ne_nil _ z.2;exact List.length_pos_of_mem (q w hw)
  refine⟨⟨A,z.1,z.2,D,q,fun j B=>absurd B (Nat.not_lt_zero _),fun h=>by cases h⟩,fun _=>d.rv C,fun h=>(by cases h),fun h=>(by cases h),fun o s=>(by simp[AT.held] at s),fun o s=>?_,F.imp fun h=>by omega,d.an,d.ar,d.al,d.st⟩;obtain⟨w,hw,rfl⟩:=zO.1 ((E o).1 s);have:=d.ar w hw;exact H.len (G.or w this.1 this.2)
 ·rename_i z;refine⟨⟨A,by rw[v,hold],⟨fun h w hw=>absurd ⟨h,fun e=>by rw[e] at hw;cases hw⟩ z,fun h=>absurd v h⟩,fun j B=>?_⟩,fun _=>d.rv C,fun h=>(by cases h),fun h=>(by cases h),fun o s=>?_,d.oc,d.nd,d.an,d.ar,d.al,d.st⟩
  ·dsimp only at B;rw[hold] at B;exact absurd B (Nat.not_lt_zero _)
  ·unfold AT.held at s;dsimp only at s;rw[v] at s;cases s
theorem AI.fin(d:AI c t m a)(e:a.ph.past=true)(b:AT)(s:b.rv=a.rv)(j:b.oc=a.oc)(v:b.ad.Nodup)(z:∀w∈b.ad,0<=w/\w<c.words+qh c)(A:b.ad.length=b.vl.length)(B:∀o∈b.set,0<=o/\o.toNat<m.o.length):AI c t m b.fin:=by
 unfold AT.fin
 split
 ·exact⟨trivial,fun _=>by dsimp only;rw[s];exact d.rv e,fun h=>(by cases h),fun h=>(by cases h),fun o q=>(by cases q),by dsimp only;rw[j];exact d.oc,by dsimp only;rw[j];exact d.nd,v,z,A,B⟩
 ·exact⟨trivial,fun _=>by dsimp only;rw[s];exact d.rv e,fun h=>(by cases h),fun h=>(by cases h),fun o q=>(by cases q),by dsimp only;rw[j];exact d.oc,by dsimp only;rw[j];exact d.nd,v,z,A,B⟩
theorem AI.undo(d:AI c t m a)(e:a.ph.past=true)(code:Int):AI c t m (a.undo code):=d.fin e {a with code:=code} rfl rfl d.an d.ar d.al d.st
theorem AI.rest(d:AI c t m a)(B:a.held=a.oc)(w:a.ph.past=true)(z:a.ph.tick=true)(q:a.tk=m.sv)(b:AT)(C:b.rv=a.rv)(e:b.oc=a.oc)(j:b.ad=a.ad)(D:b.vl=a.vl)(E:b.set=a.set)(A:b.tk=a.tk)(G:b.old.length=b.oc.length)(H:b.oc≠ []->b.dn=false/\qb8 m b.oc b.old):AI c t m b.rest:=by
 unfold AT.rest
 split
 ·exact⟨trivial,fun _=>by(try dsimp only);rw[C];exact d.rv w,fun _=>by(try dsimp only);rw[A];exact d.tk z,fun _=>by(try dsimp only);rw[A];exact q,fun o v=>(by cases v),by(try dsimp only);rw[e];exact d.oc,by(try dsimp only);rw[e];exact d.nd,by(try dsimp only);rw[j];exact d.an,by(try dsimp only);rw[j];exact d.ar,by(try dsimp only);rw[j,D];exact d.al,by(try dsimp only);rw[E];exact d.st⟩
 ·rename_i s;obtain⟨hd,F⟩:=H s;exact⟨⟨s,fun o v=>v,G.symm,by(try dsimp only);rw[e];exact d.nd, .inr ⟨hd,F⟩⟩,fun _=>by(try dsimp only);rw[C];exact d.rv w,fun _=>by(try dsimp only);rw[A];exact d.tk z,fun _=>by(try dsimp only);rw[A];exact q,fun o v=>d.hl o (by rw[B,<-e];exact v),by(try dsimp only);rw[e];exact d.oc,by(try dsimp only);rw[e];exact d.nd,by(try dsimp only);rw[j];exact d.an,by(try dsimp only);rw[j];exact d.ar,by(try dsimp only);rw[j,D];exact d.al,by(try dsimp only);rw[E];exact d.st⟩
theorem q6A{l:jd}{x:Int}(h:l.Nodup):(q2O l x).Nodup:=by
 unfold q2O
 split
 ·exact h
 ·rename_i d;exact yv.2 ⟨h,Yd,fun y j z o e=>by rw[zf.1 o] at e;exact d (e ▸ j)⟩
theorem q3m{l:jd}{x y:Int}:y∈q2O l x↔y∈l\/y=x:=by
 unfold q2O
 split
 ·rename_i d;exact⟨.inl,fun h=>h.elim id fun e=>e ▸ d⟩
 ·rw[zw,zf]
theorem q6B{cap:Int}{l s:jd}{o y:Int}(h:q60 cap l o=some s):y∈s↔y∈l\/y=o:=by
 unfold q60 at h
 split at h
 ·rename_i d;cases h;exact⟨.inl,fun h=>h.elim id fun e=>e ▸ d⟩
 ·split at h
  ·cases h
  ·cases h;rw[zw,zf]
theorem q98{cap:Int}:∀(n:Nat) (a:Int) (l:jd×jd) {lo hi:Int},l.1.length=l.2.length->l.1.Nodup->(∀w∈l.1,lo<=w/\w<hi)->lo<=a->a+n<=hi->
  (q1J cap n a l).1.1.length=(q1J cap n a l).1.2.length/\(q1J cap n a l).1.1.Nodup/\∀w∈(q1J cap n a l).1.1,lo<=w/\w<hi
 |0,a,l,_,_,d,j,o,_,_=>⟨d,j,o⟩
 |n+1,a,l,lo,hi,d,j,o,h1,h2=>by
  unfold q1J;cases e:q2Q cap l.1 l.2 a 0 with
  |none=>exact⟨d,j,o⟩
  |some l'=>
   obtain⟨g1,g2,_⟩:=q2s (ad':=l'.1) (vl':=l'.2) d e;refine q98 n (a+1) l' g1 (by rw[g2];exact q6A j) (fun w hw=>?_) Yb Yb;rw[g2] at hw
   rcases q3m.1 hw with hw|rfl
   ·exact o w hw
   ·omega
theorem blk{b:Int}(d:0<=b)(e:b<qh c):0<=qs c b/\qs c b+2 ^ (ql c b).toNat<=c.words/\0<=ql c b/\ql c b<=3:=⟨(q2C d e).1,(q2C d e).2,(q0J d e).1,(q0J d e).2⟩
theorem AI.put(e:AI c t m a)(C:a.fresh)(d:a.ph= .idle){w v:Int}(A:0<=w/\w<c.words+qh c){l:jd×jd}(s:q2Q c.writes a.ad a.vl w v=some l)(fr:jd):AI c t m {a with ad:=l.1,vl:=l.2,fr:=fr}:=by
 obtain⟨B,z,h3⟩:=q2s (ad':=l.1) (vl':=l.2) e.al s;refine⟨by unfold PhA;dsimp only;rw[d];exact C,fun _=>e.rv (by rw[d];rfl),fun h=>(by rw[show AP.tick ({a with ad:=l.1,vl:=l.2,fr:=fr}:AT).ph=a.ph.tick from rfl,d] at h;cases h),fun h=>(by rw[show AP.hold ({a with ad:=l.1,vl:=l.2,fr:=fr}:AT).ph=a.ph.hold from rfl,d] at h;cases h),fun o q=>(by unfold AT.held at q;dsimp only at q;rw[d] at q;cases q),e.oc,e.nd,?_,fun y j=>?_,B,e.st⟩
 ·dsimp only;rw[z];exact q6A e.an
 ·dsimp only at j;rw[z] at j
  rcases q3m.1 j with j|rfl
  ·exact e.ar y j
  ·exact A
theorem AI.frd(q:COk c)(w:GM c n k m)(j:AI c t m a)(s:a.fresh)(e:a.ph= .idle){b v:Int}(hb:0<=b/\b<qh c):AI c t m (a.frd c b v):=by
 have d:a.ph.past=true:=by rw[e];rfl
 unfold AT.frd
 split
 ·exact j.end q w s d 8
 ·split
  ·exact j.undo d 3
  ·have hw:=(qK q.ck).1;unfold okW at hw
   split
   ·rename_i l o;exact j.put s e Yb o _
   ·exact j.undo d 3
theorem AI.allo(A:COk c)(d:AI c t m a)(w:a.fresh)(e:a.ph= .idle){k b:Int}(hb:0<=b->b<qh c/\ql c b=k):AI c t m (a.allo c k b):=by
 have j:a.ph.past=true:=by rw[e];rfl
 unfold AT.allo
 split
 ·exact d.undo j 4
 ·rename_i h0;obtain⟨z,rfl⟩:=hb Yb;obtain⟨f1,f2,f3,f4⟩:=blk Yb z;have hw:=(qK A.ck).1;unfold okW at hw
  split
  ·exact d.fin j {a with al:=a.al++ [b],code:=3} rfl rfl d.an d.ar d.al d.st
  ·rename_i l v;have s:=d.put w e Yb v a.fr;have hp2:((2 ^ (ql c b).toNat:Nat):Int)=2 ^ (ql c b).toNat:=by norm_cast
   obtain⟨g1,g2,g3⟩:=q98 (cap:=c.writes) (2 ^ (ql c b).toNat) (qs c b) l (lo:=0) (hi:=c.words+qh c) s.al s.an s.ar f1 Yb
   split
   ·refine⟨by unfold PhA;dsimp only;rw[e];exact w,fun _=>d.rv j,fun h=>?_,fun h=>?_,fun o q=>?_,d.oc,d.nd,g2,g3,g1,d.st⟩
    ·have h:a.ph.tick=true:=h;rw[e] at h;cases h
    ·have h:a.ph.hold=true:=h;rw[e] at h;cases h
    ·unfold AT.held at q;dsimp only at q;rw[e] at q;cases q
   ·exact d.fin j {a with al:=a.al++ [b],ad:=_,vl:=_,code:=3} rfl rfl g2 g3 g1 d.st
theorem AI.loc(C:COk c)(D:GM c n k m)(d:AI c t m a){q:Ko}(he:a.ph= .loc q):AI c t m ({a with ph:= .idle}.kont c q):=by
 have B:=d.ph;unfold PhA at B;rw[he] at B;dsimp only at B;obtain⟨j,hw,hb⟩:=B;have e:a.ph.past=true:=by rw[he];rfl
 have s:AI c t m {a with ph:= .idle}:=⟨j,fun _=>d.rv e,fun h=>(by cases h),fun h=>(by cases h),fun o z=>(by cases z),d.oc,d.nd,d.an,d.ar,d.al,d.st⟩
 cases q with
 |en code=>exact s.end C D j rfl code
 |tk v=>exact⟨j,fun _=>d.rv e,fun h=>(by cases h),fun h=>(by cases h),fun o z=>(by cases z),d.oc,d.nd,d.an,d.ar,d.al,d.st⟩
 |wr w v=>
  unfold AT.kont;dsimp only
  split
  ·exact s.end C D j rfl 7
  ·rename_i hlt
   split
   ·rename_i ad vl E;obtain⟨G,F,h3⟩:=q2s d.al E;refine⟨j,fun _=>d.rv e,fun h=>(by cases h),fun h=>(by cases h),fun o z=>(by cases z),d.oc,d.nd,?_,fun y A=>?_,G,d.st⟩
    ·dsimp only;rw[F];exact q6A d.an
    ·dsimp only at A;rw[F] at A
     rcases q3m.1 A with A|rfl
     ·exact d.ar y A
     ·have:=qP c;exact⟨hw _ v rfl,Yb⟩
   ·exact s.undo rfl 3
 |ud q=>exact s.undo rfl q
 |fd b v=>exact s.frd C D j rfl (hb b v rfl)
end
open Go
section
variable{c:Cfg}{t u n k:Nat}{m m':MS}{a b:AT}
abbrev StI(c:Cfg)(t n k:Nat)(m:MS)(a:AT):Prop:=
 (a.ph≠ .lv->AI c t (qf c t m a).1 (qf c t m a).2.1)/\GM c n (k+1) (qf c t m a).1/\FrM t a m (qf c t m a).1
theorem AI.cong(j:AI c t m a)(q:m'.o=m.o)(v:m'.ck=m.ck)(w:m'.sv=m.sv)(A:m'.tk=m.tk):AI c t m' a:=by
 have z:∀o,q1T m' o=q1T m o:=q3N q
 refine⟨?_,by rw[v];exact j.rv,by rw[w,A];exact j.tk,by rw[w];exact j.ho,fun o s=>by unfold qj8;rw[q];exact j.hl o s,by rw[q];exact j.oc,j.nd,j.an,j.ar,j.al,by rw[q];exact j.st⟩;have d:=j.ph;unfold PhA at d ⊢;cases e:a.ph <;>rw[e] at d <;>dsimp only at d ⊢
 case lk=>exact⟨d.1,d.2.1,d.2.2.1,d.2.2.2.1,d.2.2.2.2.1,d.2.2.2.2.2.1.cong q,d.2.2.2.2.2.2⟩
 case tn=>exact⟨d.1,d.2.1,d.2.2.1,d.2.2.2.cong q⟩
 case ck=>exact⟨d.1,d.2.1,d.2.2.1,d.2.2.2.1.cong q,d.2.2.2.2.1,d.2.2.2.2.2.1,fun o s=>by rw[z];exact d.2.2.2.2.2.2 o s⟩
 case dc=>exact⟨d.1,d.2.1,d.2.2.1,d.2.2.2.1.cong q,fun o s=>by rw[z];exact d.2.2.2.2 o s⟩
 case rl=>
  rw[v];exact⟨d.1,d.2.1,d.2.2.1,d.2.2.2.1,d.2.2.2.2.imp id fun h=>⟨h.1,h.2.cong q⟩⟩
 all_goals first|exact d|rw[v];exact d
theorem StI.ent(d:GM c n k m)(e:AI c t m a){j:Nat}(he:a.ph= .ent j):StI c t n k m a:=by
 have z:=e.ph;unfold PhA at z;rw[he] at z;dsimp only at z;obtain⟨D,hj⟩:=z;have A:∀v,GM c n (k+1) {m with sl:=m.sl.set t v}:=fun v=>⟨d.o,d.ol,d.dl,by(try dsimp only);rw[zm];exact d.sl,d.sv,d.mono.tk,d.mono.ck⟩
 unfold StI qf;rw[he];dsimp only;have s:∀m',m'.o=m.o->m'.ck=m.ck->m'.sv=m.sv->m'.tk=m.tk->FrM t a m m':=fun m' q C H M=>FrM.same C H Yb q
 have w:∀(b:AT) (m':MS),m'.o=m.o->m'.ck=m.ck->m'.sv=m.sv->m'.tk=m.tk->b.oc=a.oc->b.ad=a.ad->b.vl=a.vl->b.set=a.set->PhA c m' b->(b.ph.past=true->0<=b.rv/\b.rv<=m.ck)->b.ph.tick=false->b.ph.hold=false->b.held= []->AI c t m' b:=
  fun b m' q C H M F B J K z E O N hd=>⟨z,by rw[C];exact E,fun h=>(by rw[O] at h;cases h),fun h=>(by rw[N] at h;cases h),fun o I=>(by rw[hd] at I;cases I),by rw[F,q];exact e.oc,by rw[F];exact e.nd,by rw[B];exact e.an,by rw[B];exact e.ar,by rw[B,J];exact e.al,by rw[K,q];exact e.st⟩
 by_cases G:j=0
 ·rw[if_pos G];exact⟨fun _=>w _ _ rfl rfl rfl rfl rfl rfl rfl rfl ⟨D,Yc⟩ (fun h=>by cases h) rfl rfl rfl,A _,s _ rfl rfl rfl rfl⟩
 ·rw[if_neg G]
  by_cases q:j=1
  ·rw[if_pos q];exact⟨fun _=>w _ _ rfl rfl rfl rfl rfl rfl rfl rfl ⟨D,Yc⟩ (fun _=>⟨d.ck.1,zK _⟩) rfl rfl rfl,d.mono,s _ rfl rfl rfl rfl⟩
  ·rw[if_neg q];have E:=e.rv (by rw[he];exact decide_eq_true Yb);exact⟨fun _=>w _ _ rfl rfl rfl rfl rfl rfl rfl rfl D (fun _=>E) rfl rfl rfl,A _,s _ rfl rfl rfl rfl⟩
theorem StI.rd(K:COk c)(D:GM c n k m)(d:AI c t m a){j:Nat}{bf v:Int}(he:a.ph= .rd j bf v):StI c t n k m a:=by
 have C:=d.ph;unfold PhA at C;rw[he] at C;dsimp only at C;obtain⟨E,hj,w,z,A⟩:=C;have q:a.ph.past=true:=by rw[he];rfl
 have B:∀(b:AT),b.rv=a.rv->b.oc=a.oc->b.ad=a.ad->b.vl=a.vl->(∀o∈b.set,0<=o/\o.toNat<m.o.length)->PhA c m b->b.ph.tick=false->b.ph.hold=false->b.held= []->AI c t m b:=
  fun b M H G N O C S P hd=>⟨C,fun _=>by rw[M];exact d.rv q,fun h=>(by rw[S] at h;cases h),fun h=>(by rw[P] at h;cases h),fun o F=>(by rw[hd] at F;cases F),by rw[H];exact d.oc,by rw[H];exact d.nd,by rw[G];exact d.an,by rw[G];exact d.ar,by rw[G,N];exact d.al,O⟩
 unfold StI qf;rw[he];dsimp only
 by_cases I:j=0
 ·rw[if_pos I];refine⟨fun _=>?_,D.mono,FrM.same rfl rfl (zK _) rfl⟩;dsimp only
  split
  ·exact d.undo q 9
  ·exact B _ rfl rfl rfl rfl d.st ⟨E,Yb,w,z,A⟩ rfl rfl rfl
 ·rw[if_neg I]
  by_cases J:j=1
  ·rw[if_pos J];refine⟨fun _=>B _ rfl rfl rfl rfl d.st ⟨E,Yb,w,z,A⟩ rfl rfl rfl,D.mono,FrM.same rfl rfl (zK _) rfl⟩
  ·rw[if_neg J];refine⟨fun _=>?_,D.mono,FrM.same rfl rfl (zK _) rfl⟩;dsimp only
   split
   ·exact d.undo q 9
   ·split
    ·exact d.fin q {a with seen:=a.saw c,code:=3} rfl rfl d.an d.ar d.al d.st
    ·rename_i s R;have e:AI c t m {a with seen:=a.saw c,set:=s,ph:= .idle}:=by
      refine B _ rfl rfl rfl rfl (fun o F=>?_) E rfl rfl rfl
      rcases (q6B R).1 F with h|rfl
      ·exact d.st o h
      ·exact D.len (K.or _ w z)
     unfold AT.got
     split
     ·exact⟨E,e.rv,e.tk,e.ho,e.hl,e.oc,e.nd,e.an,e.ar,e.al,e.st⟩
     ·rename_i hu;have hu:0<=a.us:=by dsimp only at hu;omega
      exact e.frd K D E rfl ⟨hu,A hu⟩
theorem GM.heap(d:GM c n k m)(hd nx:jd):GM c n (k+1) {m with hd:=hd,nx:=nx}:=⟨d.o,d.ol,d.dl,d.sl,d.sv,d.mono.tk,d.mono.ck⟩
theorem AI.heap(d:AI c t m a)(hd nx:jd):AI c t {m with hd:=hd,nx:=nx} a:=d.cong rfl rfl rfl rfl
theorem StI.pp(F:COk c)(z:GM c n k m)(e:AI c t m a){j:Nat}{kc h nx:Int}(he:a.ph= .pp j kc h nx)(hb:j=2->m.hd.getD kc.toNat 0=h->0<=q02 h->q02 h<qh c/\ql c (q02 h)=kc):StI c t n k m a:=by
 have s:=e.ph;unfold PhA at s;rw[he] at s;dsimp only at s;obtain⟨q,hj⟩:=s;have B:a.ph.past=true:=by rw[he];rfl
 have d:∀(b:AT),b.rv=a.rv->b.oc=a.oc->b.ad=a.ad->b.vl=a.vl->b.set=a.set->PhA c m b->b.ph.tick=false->b.ph.hold=false->b.held= []->AI c t m b:=
  fun b H D A I J s M K hd=>⟨s,fun _=>by rw[H];exact e.rv B,fun h=>(by rw[M] at h;cases h),fun h=>(by rw[K] at h;cases h),fun o G=>(by rw[hd] at G;cases G),by rw[D];exact e.oc,by rw[D];exact e.nd,by rw[A];exact e.an,by rw[A];exact e.ar,by rw[A,I];exact e.al,by rw[J];exact e.st⟩
 have v:AI c t m {a with ph:= .idle}:=d _ rfl rfl rfl rfl rfl q rfl rfl rfl;have C:FrM t a m m:=FrM.same rfl rfl (zK _) rfl;unfold StI qf;rw[he];dsimp only
 by_cases w:j=0
 ·rw[if_pos w];refine⟨fun _=>?_,z.mono,C⟩;dsimp only
  split
  ·exact v.allo F q rfl (fun h=>by omega)
  ·exact d _ rfl rfl rfl rfl rfl ⟨q,Yb⟩ rfl rfl rfl
 ·rw[if_neg w]
  by_cases E:j=1
  ·rw[if_pos E];exact⟨fun _=>d _ rfl rfl rfl rfl rfl ⟨q,Yb⟩ rfl rfl rfl,z.mono,C⟩
  ·rw[if_neg E]
   by_cases hw:m.hd.getD kc.toNat 0=h
   ·rw[if_pos hw];exact⟨fun _=>(v.allo F q rfl fun w=>hb Yb hw w).heap _ m.nx,z.heap _ m.nx,FrM.same rfl rfl (zK _) rfl⟩
   ·rw[if_neg hw];exact⟨fun _=>d _ rfl rfl rfl rfl rfl ⟨q,Yb⟩ rfl rfl rfl,z.mono,C⟩
theorem qdy{j:Nat}{b h:Int}:∃hd nx,(q0p c m j b h).1={m with hd:=hd,nx:=nx}:=by
 unfold q0p
 split
 ·exact⟨m.hd,m.nx,rfl⟩
 ·split
  ·exact⟨m.hd,_,rfl⟩
  ·split
   ·exact⟨_,m.nx,rfl⟩
   ·exact⟨m.hd,m.nx,rfl⟩
theorem StI.psh(v:GM c n k m)(d:AI c t m a){j:Nat}{b h:Int}(he:a.ph= .ph j b h):StI c t n k m a:=by
 have e:a.ph.past=true:=by rw[he];rfl
 obtain⟨hd,nx,hm⟩:=qdy (c:=c) (m:=m) (j:=j) (b:=b) (h:=h);have key:∀(z:Option (Nat×Int)),AI c t m (match z with
  |some z=>{a with ph:= .ph z.1 b z.2}
  |none=>AT.fin {a with pu:=a.pu+1}):=fun z=>by
  cases z with
  |none=>exact d.fin e {a with pu:=a.pu+1} rfl rfl d.an d.ar d.al d.st
  |some z=>exact⟨trivial,fun _=>d.rv e,fun h=>(by cases h),fun h=>(by cases h),fun o w=>(by cases w),d.oc,d.nd,d.an,d.ar,d.al,d.st⟩
 have s:=key (q0p c m j b h).2.1;unfold StI qf;rw[he];dsimp only
 revert hm s
 generalize q0p c m j b h=q;obtain⟨m',z,ac,p⟩:=q;rintro rfl s;cases z with
 |none=>exact⟨fun _=>s.heap _ _,v.heap _ _,FrM.same rfl rfl (zK _) rfl⟩
 |some z=>exact⟨fun _=>s.heap _ _,v.heap _ _,FrM.same rfl rfl (zK _) rfl⟩
theorem StI.lk(hn:n<=16)(ht:t<n)(A:GM c n k m)(d:AI c t m a){s:Int}{ld:Bool}(he:a.ph= .lk s ld):StI c t n k m a:=by
 have N:=d.ph;unfold PhA at N;rw[he] at N;dsimp only at N;obtain⟨D,C,B,w,E,P,W⟩:=N;have F:a.ph.past=true:=by rw[he];rfl
 unfold StI;rw[q34 he];have R:=qhK w;have J:=d.oc _ R;cases ld with
 |false=>
  rw[if_pos rfl];refine⟨fun _=>d.to ⟨D,C,B,w,E,P,fun h=>⟨by simpa using h,A.o _⟩⟩ rfl rfl rfl rfl rfl F (fun h=>by cases h) (fun h=>by cases h) fun o q=>?_,A.mono,FrM.same rfl rfl (zK _) rfl⟩;unfold AT.held at q ⊢;rw[he];exact q
 |true=>
  rw[if_neg Yc];obtain⟨K,M⟩:=W rfl
  by_cases hw:m.o.getD (a.oc.getD a.old.length 0).toNat 0=s
  ·rw[if_pos hw];obtain⟨S,X,Y,Z⟩:=qm8 (t:=t) K M Yb;have hix:∀o,0<=o->(a.oc.getD a.old.length 0).toNat=o.toNat->o=a.oc.getD a.old.length 0:=fun o h0 e=>by omega
   have z:∀o,q1T {m with o:=m.o.set (a.oc.getD a.old.length 0).toNat (qV (s+t+1))} o=q1T m o:=fun o=>by
    unfold q1T;dsimp only
    by_cases e:(a.oc.getD a.old.length 0).toNat=o.toNat
    ·rw[<-e,q51 J.2,S,X,hw]
    ·rw[q3c e]
   have v:∀o∈a.oc.take (a.old.length+1),qj8 {m with o:=m.o.set (a.oc.getD a.old.length 0).toNat (qV (s+t+1))} o=t:=fun o q=>by
    have hoc:=d.oc o (yz q);unfold qj8;dsimp only
    by_cases e:(a.oc.getD a.old.length 0).toNat=o.toNat
    ·rw[<-e,q51 J.2,S,Y]
    ·rw[q3c e];refine d.hl o ?_;unfold AT.held;rw[he];dsimp only;rw[zY,zw] at q
     rcases q with q|q
     ·exact q
     ·exfalso;rw[z6 w,Option.toList_some,zf] at q;apply e;rw[q,zg,z6 w];rfl
   have H:qb8 {m with o:=m.o.set (a.oc.getD a.old.length 0).toNat (qV (s+t+1))} a.oc (a.old++ [s]):=fun j V=>by
    rw[z];rw[z8,zA] at V
    by_cases I:j<a.old.length
    ·rw[qlU I];exact P j I
    ·obtain rfl:j=a.old.length:=Yb;rw[qj3];exact⟨by unfold q1T;rw[hw],K,M⟩
   have G:(a.old++ [s]).length=a.old.length+1:=Yd;have O:GM c n (k+1) {m with o:=m.o.set (a.oc.getD a.old.length 0).toNat (qV (s+t+1))}:=
    ⟨fun j=>qhL A.o (by rw[S];exact Z) j,by(try dsimp only);rw[zm];exact A.ol,A.dl,A.sl,A.sv,A.mono.tk,A.mono.ck⟩
   have U:FrM t a m {m with o:=m.o.set (a.oc.getD a.old.length 0).toNat (qV (s+t+1))}:=
    ⟨.inl rfl, .inl rfl,zK _,by(try dsimp only);rw[zm],fun j T h2=>by(try dsimp only);rw[q3c];rintro rfl;rw[hw] at T;omega,fun o=> .inl (z o)⟩
   have hst:=d.st;refine⟨fun _=>?_,O,U⟩;dsimp only
   by_cases hd:a.old.length+1=a.oc.length
   ·rw[if_pos hd];refine⟨⟨D,by(try dsimp only);rw[G];exact hd,⟨fun _=>E,fun _=>⟨C,B⟩⟩,H⟩,fun _=>d.rv F,fun h=>(by cases h),fun h=>(by cases h),fun o q=>v o ?_,by(try dsimp only);rw[zm];exact d.oc,d.nd,d.an,d.ar,d.al,by(try dsimp only);rw[zm];exact d.st⟩;rw[hd,Z3];exact q
   ·rw[if_neg hd];refine⟨⟨D,C,B,by(try dsimp only);rw[G];omega,E,H,fun h=>(by cases h)⟩,fun _=>d.rv F,fun h=>(by cases h),fun h=>(by cases h),fun o q=>v o ?_,by(try dsimp only);rw[zm];exact d.oc,d.nd,d.an,d.ar,d.al,by(try dsimp only);rw[zm];exact d.st⟩;unfold AT.held at q;dsimp only at q;rw[G] at q;exact q
  ·rw[if_neg hw];refine⟨fun _=>d.to ⟨D,C,B,w,E,P,fun h=>by cases h⟩ rfl rfl rfl rfl rfl F (fun h=>by cases h) (fun h=>by cases h) fun o q=>?_,A.mono,FrM.same rfl rfl (zK _) rfl⟩;unfold AT.held at q ⊢;rw[he];exact q
theorem q6N{p:AP}(h:a.ph=p)(d:(∃b,p= .tn b)\/(∃l,p= .ck l)\/p= .dc\/∃A V,p= .wr A V):a.held=a.oc:=by
 unfold AT.held;rw[h]
 rcases d with ⟨b,rfl⟩|⟨l,rfl⟩|rfl|⟨A,V,rfl⟩ <;>rfl
theorem StI.tn(hk:k<=100000)(j:GM c n k m)(e:AI c t m a){b:Bool}(he:a.ph= .tn b):StI c t n k m a:=by
 have B:=e.ph;unfold PhA at B;rw[he] at B;dsimp only at B;obtain⟨q,w,v,D⟩:=B;have z:a.ph.past=true:=by rw[he];rfl
 have s:=q6N he (.inl ⟨b,rfl⟩);unfold StI;cases b with
 |false=>
  rw[q3h he];have htk:=j.tk;have A:=j.sv;have hw:qV (m.tk+1)=m.tk+1:=q3P ⟨Yb,Yb⟩;rw[hw];refine⟨fun _=>⟨⟨q,w,v,D⟩,fun _=>e.rv z,fun _=>⟨A.2,by(try dsimp only);omega⟩,fun h=>(by cases h),fun o d=>e.hl o (by rw[s];exact d),e.oc,e.nd,e.an,e.ar,e.al,e.st⟩,
   ⟨j.o,j.ol,j.dl,j.sl,⟨A.1,by(try dsimp only);omega⟩,by(try dsimp only);omega,j.mono.ck⟩,FrM.same rfl rfl (by(try dsimp only);omega) rfl⟩
 |true=>
  rw[q3i he];refine⟨fun _=>?_,j.mono,FrM.same rfl rfl (zK _) rfl⟩;dsimp only
  split
  ·rename_i E
   split
   ·rename_i C;exact e.to ⟨q,w,v,D,fun o d=>by dsimp only at d;rw[C] at d;cases d⟩ rfl rfl rfl rfl rfl z (fun _=>⟨rfl,by rw[he];rfl⟩) (fun _=>E.symm) fun o d=>by rw[s];exact d
   ·rename_i C;exact e.to ⟨q,w,v,D,C,fun o d=>d,fun o d=> .inl d⟩ rfl rfl rfl rfl rfl z (fun _=>⟨rfl,by rw[he];rfl⟩) (fun _=>E.symm) fun o d=>by rw[s];exact d
  ·exact e
theorem StI.ck(H:GM c n k m)(A:AI c t m a){l:jd}(he:a.ph= .ck l):StI c t n k m a:=by
 have D:=A.ph;unfold PhA at D;rw[he] at D;dsimp only at D;obtain⟨e,s,C,E,I,F,G⟩:=D;have v:a.ph.past=true:=by rw[he];rfl
 have w:a.ph.tick=true:=by rw[he];rfl
 have q:=A.ho (by rw[he];rfl);have j:=q6N he (.inr (.inl ⟨l,rfl⟩));unfold StI;rw[q6t he];refine⟨fun _=>?_,H.mono,FrM.same rfl rfl (zK _) rfl⟩;dsimp only;have B:=q8V I
 split
 ·exact A.rest j v w q {a with code:=9} rfl rfl rfl rfl rfl rfl s fun _=>⟨e,E⟩
 ·rename_i hle;have hle:q1T m (l.headD 0)<=a.rv:=by unfold q1T;omega
  split
  ·rename_i z;refine A.to ⟨e,s,C,E,fun o d=>?_⟩ rfl rfl rfl rfl rfl v (fun _=>⟨rfl,w⟩) (fun _=>q) fun o d=>by rw[j];exact d
   rcases G o d with h|h
   ·rw[<-B,z,zf] at h;rw[h];exact hle
   ·exact h
  ·rename_i z;refine A.to ⟨e,s,C,E,z,fun o d=>F o (Zy d),fun o d=>?_⟩ rfl rfl rfl rfl rfl v (fun _=>⟨rfl,w⟩) (fun _=>q) fun o d=>by rw[j];exact d
   rcases G o d with h|h
   ·rw[<-B,zX] at h
    rcases h with rfl|h
    ·exact .inr hle
    ·exact .inl h
   ·exact .inr h
theorem StI.dc(D:GM c n k m)(e:AI c t m a)(he:a.ph= .dc):StI c t n k m a:=by
 have B:=e.ph;unfold PhA at B;rw[he] at B;dsimp only at B;obtain⟨C,A,z,E,hv⟩:=B;have s:a.ph.past=true:=by rw[he];rfl
 have v:a.ph.tick=true:=by rw[he];rfl
 have q:=e.ho (by rw[he];rfl);have j:=q6N he (.inr (.inr (.inl rfl)));unfold StI;rw[q33 he];refine⟨fun _=>?_,D.mono,FrM.same rfl rfl (zK _) rfl⟩;dsimp only
 split
 ·exact e.rest j s v q {a with ck:=m.ck,code:=6} rfl rfl rfl rfl rfl rfl A fun _=>⟨C,E⟩
 ·split
  ·rename_i d;have d:a.code=1/\a.ad≠ []:=by simpa [AT.sto] using d
   exact e.to ⟨rfl,d.1,d.2,rfl,d.2,e.al,e.an,fun w hw=>hw,z.1 d.1⟩ rfl rfl rfl rfl rfl s (fun _=>⟨rfl,v⟩) (fun _=>q) fun o F=>by rw[j];exact F
  ·rename_i d;have d:¬(a.code=1/\a.ad≠ []):=by simpa [AT.sto] using d
   exact e.rest j s v q {a with ck:=m.ck,dn:=true} rfl rfl rfl rfl rfl rfl A fun h=>absurd (z.2 h) d
end
open Go
section
variable{c:Cfg}{t u n k:Nat}{m m':MS}{a b:AT}
theorem StI.wr(e:GM c n k m)(s:AI c t m a){A V:jd}(he:a.ph= .wr A V):StI c t n k m a:=by
 have I:=s.ph;unfold PhA at I;rw[he] at I;dsimp only at I;obtain⟨B,v,j,q,hA0,J,N,K,F⟩:=I;have G:a.ph.past=true:=by rw[he];rfl
 have H:a.ph.tick=true:=by rw[he];rfl
 have D:=s.ho (by rw[he];rfl);have C:=q6N he (.inr (.inr (.inr ⟨A,V,rfl⟩)));have M:GM c n (k+1) {m with d:=m.d.set (A.headD 0).toNat (V.headD 0)}:=⟨e.o,e.ol,by(try dsimp only);rw[zm];exact e.dl,e.sl,e.sv,e.mono.tk,e.mono.ck⟩
 unfold StI qf;rw[he];dsimp only;refine⟨fun _=>AI.cong (m:=m) ?_ rfl rfl rfl rfl,M,FrM.same rfl rfl (zK _) rfl⟩
 split
 ·have O:a.oc≠ []:=by
   obtain⟨w,hw⟩:=List.exists_mem_of_ne_nil _ j;exact List.ne_nil_of_mem (F w hw)
  refine s.to ⟨O,fun o E=>E,by rw[zi],s.nd, .inl ⟨B,v,j,q,fun z R=>?_⟩⟩ rfl rfl rfl rfl rfl G (fun _=>⟨rfl,H⟩) (fun _=>D) fun o E=>by rw[C];exact E
  obtain⟨_,_,rfl⟩:=zO.1 R;rw[q]
 ·rename_i P;refine s.to ⟨B,v,j,q,P,by rw[yn,yn,J],N.sublist (List.tail_sublist A),fun w hw=>K w (Zy hw),F⟩ rfl rfl rfl rfl rfl G (fun _=>⟨rfl,H⟩) (fun _=>D) fun o E=>by rw[C];exact E
theorem StI.rl(hk:k<=100000)(B:GM c n k m)(q:AI c t m a){l w:jd}(he:a.ph= .rl l w):StI c t n k m a:=by
 have G:=q.ph;unfold PhA at G;rw[he] at G;dsimp only at G;obtain⟨hl,K,M,F,v⟩:=G;have N:∀o∈l,0<=o/\o.toNat<m.o.length:=fun o d=>q.oc o (K o d)
 have ae:a.ph.past=true:=by rw[he];rfl
 have af:a.ph.tick=true:=by rw[he];rfl
 have Z:=q.ho (by rw[he];rfl);have I:a.held=l:=by unfold AT.held;rw[he]
 have J:=q54 hl;have E:=N _ J;have Y:q3R (m.o.getD (l.headD 0).toNat 0)=t:=q.hl _ (by rw[I];exact J);have A:w≠ []:=fun e=>hl (zL.1 (by rw[M,e];rfl))
 have H:w.getD 0 0=w.headD 0:=by cases w with
  |nil=>rfl
  |cons x r=>rfl
 have X:l.getD 0 0=l.headD 0:=by cases l with
  |nil=>rfl
  |cons x r=>rfl
 have hkk:=B.ck;have S:okU (w.headD 0):=by
  rcases v with ⟨_,_,_,_,h⟩|⟨_,h⟩
  ·rw[h _ (q54 A)];unfold okU;omega
  ·have:=(h 0 (List.length_pos_iff.2 A)).2.2;rw[H] at this;exact this
 have hve:q1T {m with o:=m.o.set (l.headD 0).toNat (w.headD 0)} (l.headD 0)=q5J (w.headD 0):=by
  unfold q1T;dsimp only;rw[q51 E.2]
 have R:∀o:Int,(l.headD 0).toNat≠o.toNat->q1T {m with o:=m.o.set (l.headD 0).toNat (w.headD 0)} o=q1T m o:=fun o e=>by
  unfold q1T;dsimp only;rw[q3c e]
 have P:∀o∈l.tail,(l.headD 0).toNat≠o.toNat:=fun o d e=>by
  have h0:=N o (Zy d);have e2:l.headD 0=o:=Yb;have:=q8V hl;rw[<-this,ZA] at F;exact F.1 (e2 ▸ d)
 have W:GM c n (k+1) {m with o:=m.o.set (l.headD 0).toNat (w.headD 0)}:=⟨fun j=>qhL B.o S j,by(try dsimp only);rw[zm];exact B.ol,B.dl,B.sl,B.sv,B.mono.tk,B.mono.ck⟩
 have hF:FrM t a m {m with o:=m.o.set (l.headD 0).toNat (w.headD 0)}:=by
  refine⟨.inl rfl, .inl rfl,zK _,by(try dsimp only);rw[zm],fun j T U=>?_,fun o=>?_⟩
  ·dsimp only;rw[q3c];rintro rfl;exact U Y
  ·by_cases e:(l.headD 0).toNat=o.toNat
   ·rcases v with ⟨T,_,_,_,h⟩|⟨_,h⟩
    ·right;refine⟨T,⟨l,w,he,e.symm⟩,?_⟩;unfold q1T;dsimp only;rw[<-e,q51 E.2,h _ (q54 A)];exact(qhJ _).1
    ·left;have:=(h 0 (List.length_pos_iff.2 A)).1;rw[H,X] at this;unfold q1T at this ⊢;dsimp only;rw[<-e,q51 E.2];exact this
   ·exact .inl (R o e)
 have C:∀b:AT,PhA c {m with o:=m.o.set (l.headD 0).toNat (w.headD 0)} b->b.rv=a.rv->b.oc=a.oc->b.ad=a.ad->b.vl=a.vl->b.set=a.set->b.tk=a.tk->(∀o∈b.held,o∈l.tail)->AI c t {m with o:=m.o.set (l.headD 0).toNat (w.headD 0)} b:=
  fun b G T U V h4 h5 h6 h7=>⟨G,fun _=>by rw[T];exact q.rv ae,fun _=>by rw[h6];exact q.tk af,fun _=>by rw[h6];exact Z,fun o d=>by
   unfold qj8;dsimp only;rw[q3c (P o (h7 o d))];exact q.hl o (by rw[I];exact Zy (h7 o d)),by rw[U];dsimp only;rw[zm];exact q.oc,by rw[U];exact q.nd,by rw[V];exact q.an,by rw[V];exact q.ar,by rw[V,h4];exact q.al,by rw[h5];dsimp only;rw[zm];exact q.st⟩
 unfold StI qf;rw[he];dsimp only;refine⟨fun _=>?_,W,hF⟩
 split
 ·rename_i O
  split
  ·rename_i s;have s:a.dn=true/\a.code=1/\a.ad≠ []:=by simpa [AT.sto] using s
   refine C _ ⟨s.1,s.2.1,s.2.2,?_⟩ rfl rfl rfl rfl rfl rfl fun o d=>by cases d
   rcases v with ⟨_,_,_,h,_⟩|⟨h,_⟩
   ·exact h
   ·rw[s.1] at h;cases h
  ·exact C _ trivial rfl rfl rfl rfl rfl rfl fun o d=>by cases d
 ·rename_i O;refine C _ ⟨O,fun o d=>K o (Zy d),by rw[yn,yn,M],F.sublist (List.tail_sublist l),v.imp (fun h=>⟨h.1,h.2.1,h.2.2.1,h.2.2.2.1,fun z hz=>h.2.2.2.2 z (Zy hz)⟩) fun h=>⟨h.1,fun j hj=>?_⟩⟩ rfl rfl rfl rfl rfl rfl fun o d=>d
  rw[yn] at hj;have D:∀(z:jd) (i:Nat),z.tail.getD i 0=z.getD (i+1) 0:=fun z i=>by
   cases z with
   |nil=>rfl
   |cons x r=>rfl
  have:=h.2 (j+1) Yb;rw[D,D,R]
  ·exact this
  ·have hm:=qhK (l:=l.tail) (j:=j) (by rw[yn];omega);rw[D] at hm;exact P _ hm
theorem StI.sp(hk:k<=100000)(e:GM c n k m)(d:AI c t m a)(he:a.ph= .sp):StI c t n k m a:=by
 have q:=d.ph;unfold PhA at q;rw[he] at q;dsimp only at q;obtain⟨hdn,hcd,had,s⟩:=q;have w:a.ph.past=true:=by rw[he];rfl
 have z:a.ph.tick=true:=by rw[he];rfl
 have v:=d.ho (by rw[he];rfl);have hkk:=e.ck;have hw:qV (a.ck+1)=m.ck+1:=by rw[s];exact q3P ⟨Yb,Yb⟩
 have j:=d.rv w;unfold StI qf;rw[he];dsimp only;rw[hw];exact⟨fun _=>⟨trivial,fun _=>⟨j.1,by have:=j.2;dsimp only;omega⟩,fun _=>d.tk z,fun _=>v,fun o A=>(by cases A),d.oc,d.nd,d.an,d.ar,d.al,d.st⟩,
  ⟨e.o,e.ol,e.dl,e.sl,e.sv,e.mono.tk,by(try dsimp only);omega⟩,⟨.inr ⟨by rw[he];rfl,by(try dsimp only);omega⟩, .inl rfl,zK _,rfl,fun _ _ _=>rfl,fun _=> .inl rfl⟩⟩
theorem StI.ps(hk:k<=100000)(e:GM c n k m)(d:AI c t m a)(he:a.ph= .ps):StI c t n k m a:=by
 have j:a.ph.past=true:=by rw[he];rfl
 have v:a.ph.tick=true:=by rw[he];rfl
 have q:=d.ho (by rw[he];rfl);have htk:=d.tk v;have hsv:=e.sv;have hgt:=e.tk;have hw:qV (a.tk+1)=m.sv+1:=by rw[q];exact q3P ⟨Yb,Yb⟩
 unfold StI qf;rw[he];dsimp only;rw[hw];refine⟨fun _=>?_,⟨e.o,e.ol,e.dl,e.sl,⟨by(try dsimp only);omega,by(try dsimp only);omega⟩,e.mono.tk,e.mono.ck⟩,⟨.inl rfl, .inr ⟨by rw[he];rfl,rfl⟩,zK _,rfl,fun _ _ _=>rfl,fun _=> .inl rfl⟩⟩;unfold AT.fin
 split
 ·exact⟨trivial,fun _=>d.rv j,fun h=>(by cases h),fun h=>(by cases h),fun o s=>(by cases s),d.oc,d.nd,d.an,d.ar,d.al,d.st⟩
 ·exact⟨trivial,fun _=>d.rv j,fun h=>(by cases h),fun h=>(by cases h),fun o s=>(by cases s),d.oc,d.nd,d.an,d.ar,d.al,d.st⟩
def PpB(c:Cfg)(m:MS)(a:AT):Prop:=∀k h nx,a.ph= .pp 2 k h nx->m.hd.getD k.toNat 0=h->0<=q02 h->q02 h<qh c/\ql c (q02 h)=k
theorem AI.step(B:COk c)(D:n<=16)(E:t<n)(z:k<=100000)(d:GM c n k m)(o:AI c t m a)(C:PpB c m a):StI c t n k m a:=by
 cases he:a.ph with
 |idle=>
  unfold StI qf;rw[he];exact⟨fun _=>o,d.mono,FrM.same rfl rfl (zK _) rfl⟩
 |loc q=>
  unfold StI qf;rw[he];exact⟨fun _=>o.loc B d he,d.mono,FrM.same rfl rfl (zK _) rfl⟩
 |ent j=>exact StI.ent d o he
 |rd j b v=>exact StI.rd B d o he
 |pp j kc h nx=>exact StI.pp B d o he fun e=>by subst e;exact C kc h nx he
 |ph j b h=>exact StI.psh d o he
 |lk s ld=>exact StI.lk D E d o he
 |tn b=>exact StI.tn z d o he
 |ck l=>exact StI.ck d o he
 |dc=>exact StI.dc d o he
 |wr A V=>exact StI.wr d o he
 |rl l w=>exact StI.rl z d o he
 |sp=>exact StI.sp z d o he
 |ps=>exact StI.ps z d o he
 |lv=>
  unfold StI qf;rw[he];exact⟨fun h=>absurd rfl h,⟨d.o,d.ol,d.dl,by(try dsimp only);rw[zm];exact d.sl,d.sv,d.mono.tk,d.mono.ck⟩,FrM.same rfl rfl (zK _) rfl⟩
end
open Go
def q1K(c:Cfg)(x:GT)(a:AT)(tk:List Bool)(d Z:jd):BM:=⟨lay a.ad a.vl d,q4z c a.ad a.vl tk,x.th,a.seen,fw c a.ad,x.seen,Z⟩
def q5R(c:Cfg)(x:GT)(a:AT)(tk:List Bool)(d Z:jd):BM:=⟨d,tk,⟨x.bg+1,x.sv,x.th.oc,false⟩,[],[],[],a.al.map (qs c)++Z⟩
structure Hyp(c:Cfg)(al:jd)(r:List (Int×Int))(tk:List Bool)(d:jd):Prop where
 dl:(d.length:Int)=c.words
 tl:(tk.length:Int)=qh c
 rd:∀q∈r,(mix c d tk).getD q.1.toNat 0=q.2
 al:∀b∈al,tk.getD b.toNat false=false
theorem Hyp.mono{c:Cfg}{al e:jd}{r r':List (Int×Int)}{tk:List Bool}{d:jd}(h:Hyp c e r' tk d)(j:∀b∈al,b∈e)(s:∀q∈r,q∈r'):Hyp c al r tk d:=⟨h.dl,h.tl,fun q o=>h.rd q (s q o),fun b hb=>h.al b (j b hb)⟩
structure qhq(c:Cfg)(ad vl al fr:jd)(r:List (Int×Int)):Prop where
 l1:∀b v,0<=b->b<qh c->q14 ad vl (c.words+b)=some v->(v=0/\b∈fr)\/(v=ql c b+1/\b∈al/\b∉fr)
 l2:∀b∈fr,(0<=b/\b<qh c)/\q14 ad vl (c.words+b)=some 0/\(b∈al\/(c.words+b,ql c b+1)∈r)
 l3:∀b∈al,(0<=b/\b<qh c)/\(b∈fr\/q14 ad vl (c.words+b)=some (ql c b+1))
 nd:fr.Nodup
def Rep(c:Cfg)(p:jf)(x:GT)(a:AT)(r:List (Int×Int)):Prop:=∀(tk:List Bool) (d Z:jd),Hyp c a.al r tk d->Rn c p (q5R c x a tk d Z) (q1K c x a tk d Z)/\qhq c a.ad a.vl a.al a.fr r
def qc9(c:Cfg)(x:GT)(a:AT)(r:List (Int×Int))(i:Ins)(q:Int):Prop:=∀(tk:List Bool) (d Z:jd),Hyp c a.al r tk d->qhq c a.ad a.vl a.al a.fr r->q0d c (q1K c x a tk d Z) i=((q1K c x a tk d Z).go,q)
def q2S(c:Cfg)(x:GT)(a:AT)(r:List (Int×Int))(i:Ins):Prop:=
 match a.ph with
 | .idle=>a.code=0
 | .loc (.en k)=>a.code=0/\k≠0/\qc9 c x a r i k
 | .loc (.tk v)=>a.code=0/\i.op=10/\adr x.th.rg i.b i.imm<c.words/\q14 a.ad a.vl (adr x.th.rg i.b i.imm)=some v
 | .loc (.wr w v)=>a.code=0/\i.op=11/\w=adr x.th.rg i.a i.imm/\v=x.th.rg.get i.b.toNat
 | .loc (.ud k)=>a.code=0/\k=3
 | .loc (.fd b v)=>a.code=0/\i.op=15/\b=qJ c (x.th.rg.get i.a.toNat)/\(0<=b/\b<qh c)/\q14 a.ad a.vl (c.words+b)=some v
 | .rd _ _ _=>a.code=0/\q14 a.ad a.vl a.addr=none/\((a.us<0/\i.op=10/\a.addr=adr x.th.rg i.b i.imm/\a.addr<c.words)\/((0<=a.us/\a.us<qh c)/\i.op=15/\a.us=qJ c (x.th.rg.get i.a.toNat)/\a.addr=c.words+a.us))
 | .pp _ k _ _=>a.code=0/\i.op=14/\k=i.imm
 | .lk _ _=>a.code≠0/\qc9 c x a r i a.code
 | .tn _=>a.code≠0/\qc9 c x a r i a.code
 | .ck _=>a.code≠0/\qc9 c x a r i a.code
 | .dc=>a.code≠0/\qc9 c x a r i a.code
 |_=>False
def AP.back:AP->Bool
 | .rl _ _=>true
 | .ps=>true
 | .ph _ _ _=>true
 | .lv=>true
 |_=>false
structure TL(c:Cfg)(p:jf)(x:GT)(a:AT)(r:List (Int×Int)):Prop where
 sg:x.stg=false
 bg:∃ib,p[x.bg]? =some ib/\ib.op=7
 dn:x.th.dn=false
 fn:x.fn=none
 tr:x.tr≠0
 len:a.ad.length=a.vl.length
 st:a.st=1
 rr:∀q∈r,0<=q.1/\q.1<c.words+qh c/\qC c q.1∈a.set
 ph:(∃k,a.ph= .ent k/\r= []/\a.ad= []/\a.vl= []/\a.seen= []/\x.seen= []/\x.th.pc=x.bg/\x.th.rg=x.sv/\a.code=0/\a.al= []/\a.fr= [])\/
  (x.bg<x.th.pc/\x.th.pc<=q0B p x.bg/\Rep c p x a r/\∃i,p[x.th.pc]? =some i/\q2S c x a r i)\/
  (a.ph.back=true/\(a.code=3\/a.code=4\/a.code=6\/a.code=9))
 pl:x.th.pc<p.length
def qkN(a:AT)(r:List (Int×Int)):Prop:=r= []/\a.ad= []/\a.vl= []/\a.seen= []/\a.set= []
def qim(x:GT)(a:AT)(r:List (Int×Int))(i:Ins):Prop:=(i.op=12/\r= [(q1D x i,a.val)]/\a.ad= []/\a.vl= []/\a.seen= [q1D x i])\/(i.op=13/\r= []/\a.ad= [q1D x i]/\a.vl= [x.th.rg.get i.b.toNat]/\a.seen= [])
def AP.late:AP->Bool
 | .lk _ _=>true
 | .tn _=>true
 | .ck _=>true
 | .dc=>true
 |_=>false
structure TS(c:Cfg)(p:jf)(x:GT)(a:AT)(r:List (Int×Int)):Prop where
 sg:x.stg=true
 dn:x.th.dn=false
 fn:x.fn=none
 tr:x.tr=0
 st:a.st=1
 out:stB p x.th.pc<0
 rr:∀q∈r,0<=q.1/\q.1<c.words+qh c/\qC c q.1∈a.set
 bl:a.al= []/\a.fr= []
 ph:∃i,p[x.th.pc]? =some i/\(i.op=12\/i.op=13)/\q1D x i<c.words/\
  ((qkN a r/\a.code=0/\((x.ask=0/\((∃k,a.ph= .ent k)\/a.ph= .idle))\/(1<=x.ask/\i.op=12/\(∃n b v,a.ph= .rd n b v)/\a.addr=q1D x i/\a.us<0)\/(1<=x.ask/\i.op=13/\a.ph= .loc (.wr (q1D x i) (x.th.rg.get i.b.toNat)))))\/
  (qim x a r i/\1<=x.ask/\((a.code=0/\(a.ph= .idle\/a.ph= .loc (.en 1)))\/(a.code=1/\a.ph.late=true)))\/
  (a.ph.back=true/\(a.code=9\/(a.code=6/\i.op=13))))
def TX(c:Cfg)(p:jf)(x:GT)(a:AT)(r:List (Int×Int)):Prop:=TL c p x a r\/TS c p x a r
def fl(a:AT):List (Int×Int):=match a.ph with
 | .rd n _ v=>if n=0\/n=1 then [] else [(a.addr,v)]
 |_=> []
structure q1W(x x':GT):Prop where
 bg:x'.bg=x.bg
 sv:x'.sv=x.sv
 oc:x'.th.oc=x.th.oc
 obs:x'.obs=x.obs
 tr:x'.tr=x.tr
 fn:x'.fn=x.fn
 dn:x'.th.dn=x.th.dn
 sg:x'.stg=x.stg
 lm:x'.lm=x.lm
 ct:x'.ct=x.ct
 ak:x'.ask=x.ask
theorem q1W.at{x:GT}{z:Option AT}:q1W x {x with at':=z}:=⟨rfl,rfl,rfl,rfl,rfl,rfl,rfl,rfl,rfl,rfl,rfl⟩
section
variable{c:Cfg}{p:jf}{x x':GT}{a b:AT}{r r':List (Int×Int)}{i:Ins}{t:Nat}{m:MS}
theorem TL.at(h:TL c p x a r)(z:Option AT):TL c p {x with at':=z} a r:=⟨h.sg,h.bg,h.dn,h.fn,h.tr,h.len,h.st,h.rr,h.ph,h.pl⟩
theorem TL.req(o:TL c p x a r)(j:∀k,a.ph≠ .ent k)(d:a.ph.back=false):x.bg<x.th.pc/\x.th.pc<=q0B p x.bg/\Rep c p x a r/\∃i,p[x.th.pc]? =some i/\q2S c x a r i:=by
 rcases o.ph with ⟨k,e,_⟩|h|⟨e,_⟩
 ·exact absurd e (j k)
 ·exact h
 ·rw[d] at e;cases e
structure q2i(a b:AT):Prop where
 ad:b.ad=a.ad
 vl:b.vl=a.vl
 sn:b.seen=a.seen
 st:b.set=a.set
 ss:b.st=a.st
 al:b.al=a.al
 fr:b.fr=a.fr
theorem q2i.out(h:q2i a b){q:Int}(d:qc9 c x a r i q):qc9 c x b r i q:=by
 unfold qc9 q1K at d ⊢;rw[h.ad,h.vl,h.sn,h.al,h.fr];exact d
theorem TL.to(d:TL c p x a r)(o:∀k,a.ph≠ .ent k)(j:a.ph.back=false)(e:q2i a b)(z:∀i,p[x.th.pc]? =some i->q2S c x a r i->q2S c x b r i):TL c p x b r:=by
 obtain⟨s,v,q,i,hi,w⟩:=d.req o j;refine⟨d.sg,d.bg,d.dn,d.fn,d.tr,by rw[e.ad,e.vl];exact d.len,by rw[e.ss];exact d.st,by rw[e.st];exact d.rr, .inr (.inl ⟨s,v,?_,i,hi,z i hi w⟩),d.pl⟩;unfold Rep q1K q5R at q ⊢;rw[e.ad,e.vl,e.sn,e.al,e.fr];exact q
theorem TL.off(d:TL c p x a r)(e:b.ad.length=b.vl.length)(j:b.set=a.set)(o:b.st=a.st)(hb:b.ph.back=true)(q:b.code=3\/b.code=4\/b.code=6\/b.code=9):TL c p x b r:=
 ⟨d.sg,d.bg,d.dn,d.fn,d.tr,e,by rw[o];exact d.st,by rw[j];exact d.rr, .inr (.inr ⟨hb,q⟩),d.pl⟩
def qhv(c:Cfg)(x x':GT)(a b:AT)(r r':List (Int×Int))(i:Ins):Prop:=∀(tk:List Bool) (d Z:jd),Hyp c b.al r' tk d->qhq c a.ad a.vl a.al a.fr r->
 (∃e,b.al.map (qs c)++Z=a.al.map (qs c)++e/\q0d c (q1K c x a tk d e) i=(q1K c x' b tk d Z,0))/\qhq c b.ad b.vl b.al b.fr r'
theorem qhv.same(s:b.al=a.al)(z:b.fr=a.fr)(D:∀q∈r,q∈r')(o:∀k,c.words<=k->q14 b.ad b.vl k=q14 a.ad a.vl k)(E:∀(tk:List Bool) (d Z:jd),Hyp c a.al r' tk d->q0d c (q1K c x a tk d Z) i=(q1K c x' b tk d Z,0)):qhv c x x' a b r r' i:=fun tk d Z w j=>by
 rw[s] at w;rw[s,z];exact⟨⟨Z,rfl,E tk d Z w⟩,⟨fun e v A B C=>j.l1 e v A B (by rw[<-o _ Yb];exact C),fun e hb=>by
  obtain⟨f1,f2,f3⟩:=j.l2 e hb;exact⟨f1,by rw[o _ Yb];exact f2,f3.imp id fun h=>D _ h⟩,fun e hb=>by
  obtain⟨f1,f2⟩:=j.l3 e hb;exact⟨f1,f2.imp id fun h=>by rw[o _ Yb];exact h⟩,j.nd⟩⟩
theorem Rep.snoc(h:Rep c p x a r)(hi:p[x.th.pc]? =some i)(F:qhv c x x' a b r r' i)(E:∀q∈r,q∈r')(C:∀y∈a.al,y∈b.al)(o:q1W x x'):Rep c p x' b r':=fun tk d Z z=>by
 have j:=z.mono C E;have D:=(h tk d Z j).2;obtain⟨⟨s,A,v⟩,B⟩:=F tk d Z z D;have w:=Rn.snoc (h tk d s j).1 hi (by rw[v]);rw[v] at w;have e:q5R c x' b tk d Z=q5R c x a tk d s:=by unfold q5R;rw[o.bg,o.sv,o.oc,A]
 rw[e];exact⟨w,B⟩
theorem q3e{y:AT}(h:y.ph= .idle):¬y.busy=true:=by unfold AT.busy;rw[h];decide
theorem q4P(r:Rg)(b imm:Int):0<=adr r b imm:=(q0l _).1
theorem q4d{k:Nat}(d:q1W x x')(e:k≠p.length)(hd:x.th.dn=false):q1W x (x'.to p.length k):=⟨d.bg,d.sv,d.oc,d.obs,d.tr,d.fn,by unfold GT.to;dsimp only;rw[hd];exact decide_eq_false e,d.sg,d.lm,d.ct,d.ak⟩
theorem TL.next(F:PrO p)(v:TL c p x a r)(D:∀k,a.ph≠ .ent k)(C:a.ph.back=false)(hi:p[x.th.pc]? =some i)(E:i.op≠8)(s:q1W x x')(G:x'.th.pc=x.th.pc+1\/(x.th.pc<x'.th.pc/\x'.th.pc<=q0B p x.bg))(B:b.ph= .idle)(A:b.code=0)(I:b.st=1)(hlen:b.ad.length=b.vl.length)
  (H:∀q∈r',0<=q.1/\q.1<c.words+qh c/\qC c q.1∈b.set) (R:∀q∈r,q∈r') (O:∀y∈a.al,y∈b.al) (S:qhv c x x' a b r r' i):TL c p x' b r':=by
 obtain⟨K,M,N,_⟩:=v.req D C;obtain⟨ib,o,w⟩:=v.bg;obtain⟨e1,e2,e3,j,z,e4,_,e5⟩:=q7F F o w K M;rw[hi] at z;cases z;have hlt:x.th.pc<q0B p x.bg:=by
  refine yM M fun e=>?_
  obtain⟨c',P,_,_,⟨y,T,J⟩,_⟩:=q0v F.ck o w;rw[e,P,T] at hi;cases hi;exact E J
 have d:x.th.pc<x'.th.pc/\x'.th.pc<=q0B p x.bg:=by rcases G with e|e <;>omega
 obtain⟨f1,f2,f3,j,z,f4,_⟩:=q7F F o w (Nat.lt_trans K d.1) d.2;refine⟨by rw[s.sg];exact v.sg,⟨ib,by rw[s.bg];exact o,w⟩,by rw[s.dn];exact v.dn,by rw[s.fn];exact v.fn,by rw[s.tr];exact v.tr,hlen,I,H, .inr (.inl ⟨by rw[s.bg];omega,by rw[s.bg];exact d.2,N.snoc hi S R O s,j,z,?_⟩),f3⟩;unfold q2S;rw[B];exact A
theorem TL.lt(A:PrO p)(z:TL c p x a r)(q:∀k,a.ph≠ .ent k)(o:a.ph.back=false):x.th.pc<p.length/\∀i,p[x.th.pc]? =some i->i.op≠8->x.th.pc+1<p.length:=by
 obtain⟨C,D,h3,_⟩:=z.req q o;obtain⟨ib,d,w⟩:=z.bg;obtain⟨e1,e2,B,j,hj,e4,_,e5⟩:=q7F A d w C D;obtain⟨c',E,_,hl,⟨y,F,v⟩,_⟩:=q0v A.ck d w;refine⟨B,fun i hi s=>?_⟩;have:x.th.pc≠q0B p x.bg:=fun e=>by
  rw[e,E,F] at hi;cases hi;exact s v
 omega
end
open Go
section
variable{c:Cfg}{p:jf}{x x':GT}{a b:AT}{r r':List (Int×Int)}{i:Ins}{t:Nat}{m:MS}
theorem q37:(q0A c p t m x a i).2.1=if(qf c t m a).2.1.busy then{x with at':=some (qf c t m a).2.1} else x.ans p (qf c t m a).2.1 i:=rfl
def rUp(a y:AT)(r:List (Int×Int)):List (Int×Int):=if y.ph.back then r else r++fl a
def q00(c:Cfg)(p:jf)(t:Nat)(m:MS)(x:GT)(a:AT)(r:List (Int×Int))(i:Ins):Prop:=
 q1W x (q0A c p t m x a i).2.1/\(q0A c p t m x a i).2.1.at'=some (qf c t m a).2.1/\
  ((qf c t m a).2.1.dn=false->TX c p (q0A c p t m x a i).2.1 (qf c t m a).2.1 (rUp a (qf c t m a).2.1 r))/\((qf c t m a).2.1.dn=true->a.ph= .dc/\(q0A c p t m x a i).2.1={x with at':=some (qf c t m a).2.1})
theorem q01{y:AT}(h:fl a= []):rUp a y r=r:=by unfold rUp;rw[h,zC];split <;>rfl
theorem qaz{y:AT}(h:y.ph.back=true):rUp a y r=r:=if_pos h
theorem qaA{y:AT}(h:y.ph.back=false):rUp a y r=r++fl a:=if_neg (by rw[h];decide)
theorem q00.busy{y:AT}(j:(qf c t m a).2.1=y)(hb:y.busy=true)(e:rUp a y r=r)(d:y.dn=false->TL c p x y r)(hd:y.dn=true->a.ph= .dc):q00 c p t m x a r i:=by
 unfold q00;rw[q37,j,if_pos hb,e];exact⟨q1W.at,rfl,fun h=> .inl ((d h).at _),fun h=>⟨hd h,rfl⟩⟩
theorem qbV{X:GT}{k:Nat}(d:k≠p.length)(hd:X.th.dn=false):(X.to p.length k).th={X.th with pc:=k}:=by
 unfold GT.to;dsimp only;rw[decide_eq_false d,<-hd]
theorem q1O(h:∀n b v,a.ph≠ .rd n b v):fl a= []:=by
 unfold fl;cases e:a.ph <;>first|rfl|exact absurd e (h _ _ _)
theorem q00.ent(T:PrO p)(o:TL c p x a r)(hi:p[x.th.pc]? =some i)(s:a.dn=false){k:Nat}(he:a.ph= .ent k):q00 c p t m x a r i:=by
 have w:fl a= []:=q1O fun _ _ _ e=>by rw[he] at e;cases e
 rcases o.ph with ⟨k',e,P,D,E,I,J,F,K,M,G,q⟩|⟨_,_,_,i,_,e⟩|⟨e,_⟩
 ·by_cases H:k=0
  ·refine q00.busy (y:={a with ph:= .ent 1}) (by unfold qf;rw[he];dsimp only;rw[if_pos H]) rfl (q01 w) (fun _=>?_) (fun h=>by rw[s] at h;cases h);exact⟨o.sg,o.bg,o.dn,o.fn,o.tr,o.len,o.st,o.rr, .inl ⟨1,rfl,P,D,E,I,J,F,K,M,G,q⟩,o.pl⟩
  ·by_cases S:k=1
   ·refine q00.busy (y:={a with rv:=m.ck,ph:= .ent 2}) (by unfold qf;rw[he];dsimp only;rw[if_neg H,if_pos S]) rfl (q01 w) (fun _=>?_) (fun h=>by rw[s] at h;cases h);exact⟨o.sg,o.bg,o.dn,o.fn,o.tr,o.len,o.st,o.rr, .inl ⟨2,rfl,P,D,E,I,J,F,K,M,G,q⟩,o.pl⟩
   ·obtain⟨ib,z,B⟩:=o.bg;have O:i=ib:=by rw[F,z] at hi;exact(Option.some.inj hi).symm
    subst O;obtain⟨c',R,h10,h11,_⟩:=q0v T.ck z B;have V:(qf c t m a).2.1={a with ph:= .idle}:=by unfold qf;rw[he];dsimp only;rw[if_neg H,if_neg S]
    have C:x.th.pc+1≠p.length:=Yb;unfold q00;rw[q37,V,if_neg (q3e rfl),qfj (by show a.st≠2;rw[o.st];decide) o.sg Yb Yb,q01 w];have A:=qbV (p:=p) (X:={x with at':=some {a with ph:= .idle}}) C o.dn;have N:q1W x (({x with at':=some {a with ph:= .idle}}:GT).to p.length (x.th.pc+1)):=q4d q1W.at C o.dn;refine⟨N,rfl,fun _=> .inl ⟨o.sg,o.bg,by rw[A];exact o.dn,o.fn,o.tr,o.len,o.st,o.rr, .inr (.inl ⟨?_,?_,fun tk d Z _=>⟨?_,?_⟩,?_⟩),by rw[A];show x.th.pc+1<p.length;omega⟩,fun h=>?_⟩
    ·show x.bg<x.th.pc+1;omega
    ·show x.th.pc+1<=q0B p x.bg;rw[R];omega
    ·have:q5R c (({x with at':=some {a with ph:= .idle}}:GT).to p.length (x.th.pc+1)) {a with ph:= .idle} tk d Z=q1K c (({x with at':=some {a with ph:= .idle}}:GT).to p.length (x.th.pc+1)) {a with ph:= .idle} tk d Z:=by
      unfold q5R q1K;rw[A,N.bg,N.sv];dsimp only;rw[D,E,I,q58,q6O,F,K,o.dn,G];show _=BM.mk _ _ _ _ _ x.seen _;rw[J];rfl
     rw[this];exact Rn.nil
    ·dsimp only;rw[D,E,G,q];exact⟨fun b v _ _ h=>(by cases h),fun b hb=>(by cases hb),fun b hb=>(by cases hb),ym⟩
    ·obtain⟨_,_,_,j,U,_⟩:=q7F (k:=x.th.pc+1) T z B Yb (by rw[R];omega);exact⟨j,U,M⟩
    ·rw[show({a with ph:= .idle}:AT).dn=a.dn from rfl,s] at h;cases h
 ·unfold q2S at e;rw[he] at e;exact e.elim
 ·rw[he] at e;cases e
theorem TL.endA(w:TL c p x a r)(o:∀k,a.ph≠ .ent k)(j:a.ph.back=false){y:AT}(d:q2i a y)(e:y.dn=a.dn){k:Int}(z:∀i,p[x.th.pc]? =some i->q2S c x a r i->k≠0/\qc9 c x a r i k):TL c p x (y.endA c k) r/\(y.endA c k).busy=true/\(y.endA c k).dn=a.dn/\(y.endA c k).ph.back=false:=by
 unfold AT.endA
 split
 ·refine⟨w.to o j ⟨d.1,d.2,d.3,d.4,d.5,d.6,d.7⟩ fun i hi v=>?_,rfl,e,rfl⟩;obtain⟨q,s⟩:=z i hi v;exact⟨q,q2i.out ⟨d.1,d.2,d.3,d.4,d.5,d.6,d.7⟩ s⟩
 ·refine⟨w.to o j ⟨d.1,d.2,d.3,d.4,d.5,d.6,d.7⟩ fun i hi v=>?_,rfl,e,rfl⟩;obtain⟨q,s⟩:=z i hi v;exact⟨q,q2i.out ⟨d.1,d.2,d.3,d.4,d.5,d.6,d.7⟩ s⟩
theorem qfy(b:AT):b.fin.ad=b.ad/\b.fin.vl=b.vl/\b.fin.set=b.set/\b.fin.st=b.st/\b.fin.code=b.code/\b.fin.dn=b.dn/\b.fin.ph.back=true/\b.fin.busy=true/\b.fin.rv=b.rv:=by
 unfold AT.fin
 split <;>exact⟨rfl,rfl,rfl,rfl,rfl,rfl,rfl,rfl,rfl⟩
theorem q00.fin{y:AT}(d:TL c p x a r)(z:(qf c t m a).2.1=y.fin)(j:y.ad.length=y.vl.length)(s:y.st=a.st)(v:y.dn=false)(o:∀q∈r,qC c q.1∈y.set)(w:y.code=3\/y.code=4\/y.code=6\/y.code=9):q00 c p t m x a r i:=by
 obtain⟨f1,f2,f3,f4,f5,f6,f7,f8,_⟩:=qfy y;refine q00.busy z f8 (qaz f7) (fun _=>?_) (fun h=>by rw[f6,v] at h;cases h);exact⟨d.sg,d.bg,d.dn,d.fn,d.tr,by rw[f1,f2];exact j,by rw[f4,s];exact d.st,fun q e=>by rw[f3];exact⟨(d.rr q e).1,(d.rr q e).2.1,o q e⟩, .inr (.inr ⟨f7,by rw[f5];exact w⟩),d.pl⟩
theorem qmX{d:BM}(e:i.op=11)(hlt:adr d.t.rg i.a i.imm<c.words):q0d c d i=((wrM d (adr d.t.rg i.a i.imm).toNat (d.t.rg.get i.b.toNat)).go,0):=by
 unfold q0d;rw[if_neg Yb,if_pos e,if_neg Yb]
theorem qie{d:BM}(e:i.op=10)(hlt:adr d.t.rg i.b i.imm<c.words):q0d c d i=((rdM d (adr d.t.rg i.b i.imm).toNat).put i.a 1 (d.d.getD (adr d.t.rg i.b i.imm).toNat 0),0):=by
 unfold q0d;rw[if_pos e,if_neg Yb]
theorem toN(r:Rg)(b imm:Int):((adr r b imm).toNat:Int)=adr r b imm:=Zj (q4P r b imm)
theorem q00.frd(hp:PrO p)(s:TL c p x a r)(hC:COk c)(N:∀k,a.ph≠ .ent k)(M:a.ph.back=false)(hi:p[x.th.pc]? =some i)(W:i.op=15)(J:a.dn=false)(av:a.code=0){b v:Int}(hb:b=qJ c (x.th.rg.get i.a.toNat))(B:0<=b/\b<qh c){y:AT}(A:(qf c t m a).2.1=y.frd c b v)(K:y.ph= .idle)
  (U:y.ad=a.ad) (e2:y.vl=a.vl) (e3:y.seen=a.seen) (e5:y.st=a.st) (V:y.al=a.al) (e7:y.fr=a.fr) (e8:y.dn=a.dn) (e9:y.code=a.code) (S:∀q∈r++fl a,0<=q.1/\q.1<c.words+qh c/\qC c q.1∈y.set)
  (hv:(q14 a.ad a.vl (c.words+b)=some v)\/(q14 a.ad a.vl (c.words+b)=none/\(c.words+b,v)∈r++fl a)):q00 c p t m x a r i:=by
 have hw:=(qK hC.ck).1;unfold okW at hw;have T:y.ad.length=y.vl.length:=by rw[U,e2];exact s.len
 have aB:∀q∈r,qC c q.1∈y.set:=fun q P=>(S q (zq _ P)).2.2
 have au:TL c p x y (r++fl a)\/True:= .inr trivial;clear au
 --aC attempt with aq it has read
 have az:=(s.lt hp N M).2 i hi;obtain⟨q1,q2,q3,j,hj,_⟩:=s.req N M;rw[hi] at hj;cases hj
 --aq aC block is,over words that q09
 have ae:∀(tk:List Bool) (d:jd),Hyp c a.al (r++fl a) tk d->qhq c a.ad a.vl a.al a.fr r->((q4z c a.ad a.vl tk).getD b.toNat false=decide (v≠0))/\(v=0\/v=ql c b+1)/\b.toNat<tk.length/\(v≠0->b∉a.fr/\(b∈a.al\/(c.words+b,ql c b+1)∈r++fl a)):=fun tk d w F=>by
  have htl:=w.tl;have D:b.toNat<tk.length:=Yb;have eb:((b.toNat:Nat):Int)=b:=Yb;rw[q57 D,eb]
  rcases hv with h|⟨h,hm⟩
  ·rw[h]
   rcases F.l1 b v B.1 B.2 h with ⟨o,C⟩|⟨o,C,X⟩
   ·exact⟨rfl, .inl o,D,fun h=>absurd o h⟩
   ·exact⟨rfl, .inr o,D,fun _=>⟨X, .inl C⟩⟩
  ·rw[h];have o:=w.rd _ hm;have C:=w.dl;have e:(c.words+b).toNat=d.length+b.toNat:=Yb;dsimp only at o;rw[e,q7I D,eb] at o;have aw:=q0J B.1 B.2;have aA:b∉a.fr:=fun hf=>by
    have:=(F.l2 b hf).2.1;rw[h] at this;cases this
   cases ht:tk.getD b.toNat false with
   |true=>
    rw[ht,if_pos rfl] at o;subst o;exact⟨(decide_eq_true Yb).symm, .inr rfl,D,fun _=>⟨aA, .inr hm⟩⟩
   |false=>
    rw[ht,if_neg Yc] at o;subst o;exact⟨rfl, .inl rfl,D,fun h=>absurd rfl h⟩
 unfold AT.frd at A
 by_cases E:v≠ql c b+1
 ·rw[if_pos E] at A
  --it fails
  have hE:y.endA c 8={y with code:=8,ph:= .tn false}:=by unfold AT.endA;rw[if_neg (fun h=>by cases h.1)]
  rw[hE] at A;have R:rUp a {y with code:=8,ph:= .tn false} r=r++fl a:=qaA rfl;unfold q00;rw[q37,A,if_pos (show({y with code:=8,ph:= .tn false}:AT).busy=true from rfl),R];refine⟨q1W.at,rfl,fun _=> .inl ((?_:TL c p x _ _).at _),fun h=>?_⟩
  ·refine⟨s.sg,s.bg,s.dn,s.fn,s.tr,T,e5.trans s.st,S, .inr (.inl ⟨q1,q2,fun tk d Z w=>?_,i,hi,(by show(8:Int)≠0;decide),fun tk d Z w F=>?_⟩),s.pl⟩
   ·dsimp only at w;rw[V] at w;obtain⟨g1,g2⟩:=q3 tk d Z (w.mono (fun b h=>h) fun q P=>zq _ P);unfold q1K q5R at g1 ⊢;dsimp only;rw[U,e2,e3,V,e7];exact⟨g1,⟨g2.l1,fun b hb=>by obtain⟨f1,f2,f3⟩:=g2.l2 b hb;exact⟨f1,f2,f3.imp id fun h=>zq _ h⟩,g2.l3,g2.nd⟩⟩
   ·dsimp only at w F;rw[V] at w;have ay:=(q3 tk d Z (w.mono (fun b h=>h) fun q P=>zq _ P)).2;obtain⟨g1,g2,_⟩:=ae tk d w ay;unfold q0d q1K;dsimp only;rw[if_neg Yb,if_neg Yb,if_neg Yb,if_pos W,<-hb,U,e2,if_pos (.inr (g1.trans (decide_eq_false fun C=>g2.elim C E)))]
  ·have h:y.dn=true:=h;rw[e8,J] at h;cases h
 ·rw[if_neg E] at A;have E:v=ql c b+1:=Decidable.not_not.1 E;have aw:=q0J B.1 B.2;have aj:v≠0:=Yb;have af:∀k,(k=3\/k=4\/k=6\/k=9)->(qf c t m a).2.1=y.undo k->q00 c p t m x a r i:=fun k hk A=>q00.fin (y:={y with code:=k}) s A T e5 (e8.trans J) aB hk
  by_cases G:c.frees<=(y.fr.length:Int)
  ·rw[if_pos G] at A;exact af 3 (.inl rfl) A
  ·rw[if_neg G] at A;cases O:q2Q c.writes y.ad y.vl (c.words+b) 0 with
   |none=>rw[O] at A;exact af 3 (.inl rfl) A
   |some l=>
    rw[O] at A;dsimp only at A;obtain⟨g1,g2,g3⟩:=q2s (ad':=l.1) (vl':=l.2) T O;rw[U] at g2;rw[U,e2] at g3;have Y:x.th.pc+1≠p.length:=by have:=az Yb;omega
    have R:rUp a {y with ad:=l.1,vl:=l.2,fr:=y.fr++ [b]} r=r++fl a:=qaA (by show y.ph.back=false;rw[K];rfl);unfold q00;rw[q37,A,if_neg (q3e (y:={y with ad:=l.1,vl:=l.2,fr:=y.fr++ [b]}) K),qfj (by show y.st≠2;rw[e5,s.st];decide) s.sg Yb Yb,R];have hS:q1W x (({x with at':=some {y with ad:=l.1,vl:=l.2,fr:=y.fr++ [b]}}:GT).to p.length (x.th.pc+1)):=q4d q1W.at Y s.dn;refine⟨hS,rfl,fun _=> .inl (s.next hp N M hi Yb hS (.inl rfl) K (e9.trans av) (e5.trans s.st) g1 S (fun q P=>zq _ P) (fun b hb=>by rw[V];exact hb) fun tk d Z w F=>?_),fun h=>?_⟩
    ·dsimp only at w ⊢;rw[V] at w ⊢;rw[e7];obtain⟨k1,k2,k3,k4⟩:=ae tk d w F;obtain⟨k4,k5⟩:=k4 aj;have eb:((b.toNat:Nat):Int)=b:=Yb;refine⟨⟨Z,rfl,?_⟩,⟨fun H v' f1 f2 f3=>?_,fun H I=>?_,fun H I=>?_,?_⟩⟩
     ·unfold q0d q1K;dsimp only;rw[if_neg Yb,if_neg Yb,if_neg Yb,if_pos W,<-hb,k1,decide_eq_true aj,if_neg (by simp;omega),qbV Y (by exact s.dn)];unfold BM.go;dsimp only;have hdl:=w.dl;rw[e3,qae (ad:=a.ad) (vl:=a.vl) (ad':=l.1) (vl':=l.2) (fun k hk=>by rw[g3,if_neg Yb]),
       qad (c:=c) (ad:=a.ad) (vl:=a.vl) (ad':=l.1) (vl':=l.2) (b:=b.toNat) (v:=0) (fun k hk=>by rw[g3];by_cases e:b.toNat=k <;>simp[e] <;>omega),g2,qa4,if_neg Yb]
      rfl
     ·rw[g3] at f3
      by_cases e:c.words+b=c.words+H
      ·rw[if_pos e] at f3;cases f3;exact .inl ⟨rfl,zz _ (zf.2 Yb)⟩
      ·rw[if_neg e] at f3
       rcases F.l1 H v' f1 f2 f3 with ⟨o,C⟩|⟨o,C,X⟩
       ·exact .inl ⟨o,zq _ C⟩
       ·exact .inr ⟨o,C,fun h=>(zw.1 h).elim X fun h=>e (by rw[zf.1 h])⟩
     ·rw[g3]
      rcases zw.1 I with h|h
      ·obtain⟨o,C,X⟩:=F.l2 H h;refine⟨o,?_,X.imp id fun h=>zq _ h⟩
       split
       ·rfl
       ·exact C
      ·rw[zf.1 h];exact⟨B,if_pos rfl,k5⟩
     ·rw[g3];obtain⟨o,C⟩:=F.l3 H I;refine⟨o,?_⟩
      by_cases e:c.words+b=c.words+H
      ·exact .inl (zz _ (zf.2 Yb))
      ·rw[if_neg e];exact C.imp (fun h=>zq _ h) id
     ·exact yv.2 ⟨F.nd,Yd,fun y A z hz e=>by rw[zf.1 hz] at e;exact k4 (e ▸ A)⟩
    ·have h:y.dn=true:=h;rw[e8,J] at h;cases h
end
open Go
section
variable{c:Cfg}{p:jf}{x x':GT}{a b:AT}{r r':List (Int×Int)}{i:Ins}{t n k:Nat}{m:MS}
theorem q00.loc(U:PrO p)(hC:COk c)(o:TL c p x a r)(hi:p[x.th.pc]? =some i)(E:a.dn=false){q:Ko}(he:a.ph= .loc q):q00 c p t m x a r i:=by
 have C:∀k,a.ph≠ .ent k:=fun k e=>by rw[he] at e;cases e
 have B:a.ph.back=false:=by rw[he];rfl
 have P:=(o.lt U C B).2 i hi;obtain⟨_,_,_,j,O,s⟩:=o.req C B;rw[hi] at O;cases O;have R:fl a= []:=q1O fun _ _ _ e=>by rw[he] at e;cases e
 have A:(qf c t m a).2.1={a with ph:= .idle}.kont c q:=by unfold qf;rw[he]
 have F:∀k,(∀i,p[x.th.pc]? =some i->q2S c x a r i->k≠0/\qc9 c x a r i k)->(qf c t m a).2.1={a with ph:= .idle}.endA c k->q00 c p t m x a r i:=fun k T A=>by
  obtain⟨Y,h2,h3,_⟩:=o.endA (y:={a with ph:= .idle}) C B ⟨rfl,rfl,rfl,rfl,rfl,rfl,rfl⟩ rfl T;exact q00.busy A h2 (q01 R) (fun _=>Y) (fun h=>by rw[h3,E] at h;cases h)
 have H:∀k,(k=3\/k=4\/k=6\/k=9)->(qf c t m a).2.1=AT.undo {a with ph:= .idle} k->q00 c p t m x a r i:=fun k T A=>q00.fin (y:={a with ph:= .idle,code:=k}) o A o.len rfl E (fun q s=>(o.rr q s).2.2) T
 unfold q2S at s;rw[he] at s;cases q with
 |en k=>exact F k (fun i hi s=>by unfold q2S at s;rw[he] at s;exact s.2) A
 |ud k=>obtain⟨_,rfl⟩:=s;exact H 3 (.inl rfl) A
 |fd b v=>
  obtain⟨D,V,hb,W,N⟩:=s;exact q00.frd U o hC C B hi V E D hb W (y:={a with ph:= .idle}) A rfl rfl rfl rfl rfl rfl rfl rfl rfl (by rw[R,zC];exact o.rr) (.inl N)
 |tk v=>
  dsimp only at s;obtain⟨D,J,hw,N⟩:=s;have G:x.th.pc+1≠p.length:=by have:=P Yb;omega
  have A:(qf c t m a).2.1={a with ph:= .idle,val:=v}:=A;unfold q00;rw[q37,A,if_neg (q3e rfl),qix (by show a.st≠2;rw[o.st];decide) o.sg J,q01 R];have M:q1W x (({x with at':=some {a with ph:= .idle,val:=v},th:={x.th with rg:=x.th.rg.set i.a.toNat v},seen:=x.seen++ [⟨x.th.pc,1,v⟩]}:GT).to p.length (x.th.pc+1)):=q4d ⟨rfl,rfl,rfl,rfl,rfl,rfl,rfl,rfl,rfl,rfl,rfl⟩ G o.dn;refine⟨M,rfl,fun _=> .inl (o.next U C B hi Yb M (.inl rfl) rfl ?_ o.st o.len o.rr (fun q s=>s) (fun _ h=>h) (qhv.same rfl rfl (fun q s=>s) (fun _ _=>rfl) fun tk d Z S=>?_)),fun h=>?_⟩
  ·exact D
  ·have hd:=S.dl;rw[qie J (by exact hw)];unfold q1K;rw[qbV G (by exact o.dn)];have hm:adr x.th.rg i.b i.imm∈a.ad:=by
    refine Decidable.byContradiction fun e=>?_
    rw[(q1Z o.len).2 e] at N;cases N
   have X:(lay a.ad a.vl d).getD (adr x.th.rg i.b i.imm).toNat 0=v:=by
    have:=toN x.th.rg i.b i.imm;rw[q69 Yb,this,N];rfl
   dsimp only;rw[X];unfold rdM BM.put;dsimp only;rw[toN,if_pos (.inl (qa5.2 ⟨hm,hw⟩))];rfl
  ·rw[show({a with ph:= .idle,val:=v}:AT).dn=a.dn from rfl,E] at h;cases h
 |wr w v=>
  dsimp only at s;obtain⟨D,K,rfl,rfl⟩:=s;have G:x.th.pc+1≠p.length:=by have:=P Yb;omega
  unfold AT.kont at A;dsimp only at A
  by_cases hw:c.words<=adr x.th.rg i.a i.imm
  ·rw[if_pos hw] at A;refine F 7 (fun j O s=>⟨Yc,fun tk d Z S hl=>?_⟩) A;rw[hi] at O;cases O;unfold q0d q1K;dsimp only;rw[if_neg Yb,if_pos K,if_pos hw]
  ·rw[if_neg hw] at A;cases I:q2Q c.writes a.ad a.vl (adr x.th.rg i.a i.imm) (x.th.rg.get i.b.toNat) with
   |none=>
    rw[I] at A;exact H 3 (.inl rfl) A
   |some z=>
    obtain⟨ad,vl⟩:=z;rw[I] at A;dsimp only at A;obtain⟨g1,g2,g3⟩:=q2s o.len I;unfold q00;rw[q37,A,if_neg (q3e rfl),qfj (by show a.st≠2;rw[o.st];decide) o.sg Yb Yb,q01 R];have M:q1W x (({x with at':=some {a with ph:= .idle,ad:=ad,vl:=vl}}:GT).to p.length (x.th.pc+1)):=q4d q1W.at G o.dn;refine⟨M,rfl,fun _=> .inl (o.next U C B hi Yb M (.inl rfl) rfl ?_ o.st g1 o.rr (fun q s=>s) (fun _ h=>h) (qhv.same rfl rfl (fun q s=>s) (fun k T=>?_) fun tk d Z S=>?_)),fun h=>?_⟩
    ·exact D
    ·rw[g3,if_neg Yb]
    ·have hd:=S.dl;rw[qmX K (by show adr x.th.rg i.a i.imm<_;omega)];unfold q1K;rw[qbV G (by exact o.dn)];unfold wrM BM.go;dsimp only;rw[toN,<-q8Z (ad':=ad) (vl':=vl) (a:=(adr x.th.rg i.a i.imm).toNat) (v:=x.th.rg.get i.b.toNat) (fun k=>by rw[toN];exact g3 k),q7H (ad:=a.ad) (vl:=a.vl) (ad':=ad) (vl':=vl) (fun k _=>by rw[g3,if_neg Yb]),g2,qa4,if_pos Yb];rfl
    ·rw[show({a with ph:= .idle,ad:=ad,vl:=vl}:AT).dn=a.dn from rfl,E] at h;cases h
theorem q00.b2{z:MS×AT×AcM×Int}(d:qf c t m a=z)(hb:z.2.1.busy=true)(j:fl a= [])(e:z.2.1.dn=false->TL c p x z.2.1 r)(hd:z.2.1.dn=true->a.ph= .dc):q00 c p t m x a r i:=
 q00.busy (congrArg (fun z=>z.2.1) d) hb (q01 j) e hd
theorem q00.rd(hp:PrO p)(hC:COk c)(w:TL c p x a r)(hA:AI c t m a)(hi:p[x.th.pc]? =some i){j:Nat}{bf v:Int}(he:a.ph= .rd j bf v):q00 c p t m x a r i:=by
 have E:∀k,a.ph≠ .ent k:=fun k e=>by rw[he] at e;cases e
 have D:a.ph.back=false:=by rw[he];rfl
 have aj:=(w.lt hp E D).2 i hi;have G:=hA.ph;unfold PhA at G;rw[he] at G;dsimp only at G;obtain⟨⟨C,_⟩,hj,ae,af,_⟩:=G;have Y:0<=a.addr/\a.addr<c.words+qh c:=⟨ae,af⟩
 obtain⟨_,_,_,i',M,o⟩:=w.req E D;rw[hi] at M;cases M;unfold q2S at o;rw[he] at o;dsimp only at o;obtain⟨K,W,au⟩:=o;have N:0<=a.addr/\a.addr<c.words+qh c:=Y;have F:∀q∈r,qC c q.1∈a.set:=fun q o=>(w.rr q o).2.2
 have R:∀(y:AT),y.dn=a.dn->y.dn=true->a.ph= .dc:=fun y e h=>by rw[e,C] at h;cases h
 by_cases S:j=0
 ·have z:(qf c t m a).2.1=if q3R (m.o.getD (qC c a.addr).toNat 0)>=0\/q5J (m.o.getD (qC c a.addr).toNat 0)>a.rv then a.undo 9 else{a with ph:= .rd 1 (m.o.getD (qC c a.addr).toNat 0) 0}:=by
   unfold qf;rw[he];dsimp only;rw[if_pos S]
  have B:fl a= []:=by unfold fl;rw[he];dsimp only;rw[if_pos (.inl S)]
  split at z
  ·exact q00.fin (y:={a with code:=9}) w z w.len rfl C F (.inr (.inr (.inr rfl)))
  ·exact q00.busy z rfl (q01 B) (fun _=>w.to E D ⟨rfl,rfl,rfl,rfl,rfl,rfl,rfl⟩ fun i hi o=>by unfold q2S at o;rw[he] at o;exact o) (R _ rfl)
 ·by_cases U:j=1
  ·have z:(qf c t m a).2.1={a with ph:= .rd 2 bf (m.d.getD a.addr.toNat 0)}:=by unfold qf;rw[he];dsimp only;rw[if_neg S,if_pos U]
   have B:fl a= []:=by unfold fl;rw[he];dsimp only;rw[if_pos (.inr U)]
   exact q00.busy z rfl (q01 B) (fun _=>w.to E D ⟨rfl,rfl,rfl,rfl,rfl,rfl,rfl⟩ fun i hi o=>by unfold q2S at o;rw[he] at o;exact o) (R _ rfl)
  ·have B:fl a= [(a.addr,v)]:=by unfold fl;rw[he];dsimp only;rw[if_neg Yb]
   have z:(qf c t m a).2.1=if m.o.getD (qC c a.addr).toNat 0≠bf then a.undo 9 else match q60 c.reads a.set (qC c a.addr) with
    |none=>{a with seen:=a.saw c}.undo 3
    |some s=>AT.got c {a with seen:=a.saw c,set:=s,ph:= .idle} v:=by
    unfold qf;rw[he];dsimp only;rw[if_neg S,if_neg U];rfl
   split at z
   ·exact q00.fin (y:={a with code:=9}) w z w.len rfl C F (.inr (.inr (.inr rfl)))
   ·cases T:q60 c.reads a.set (qC c a.addr) with
    |none=>
     rw[T] at z;exact q00.fin (y:={a with seen:=a.saw c,code:=3}) w z w.len rfl C F (.inl rfl)
    |some s=>
     rw[T] at z;dsimp only at z;have P:∀q∈r++fl a,0<=q.1/\q.1<c.words+qh c/\qC c q.1∈s:=fun q o=>by
      rw[B,zw,zf] at o
      rcases o with o|rfl
      ·have:=w.rr q o;exact⟨this.1,this.2.1,(q6B T).2 (.inl this.2.2)⟩
      ·exact⟨N.1,N.2,(q6B T).2 (.inr rfl)⟩
     rcases au with ⟨hu,J,A,hw⟩|⟨hu,V,aq,A⟩
     ·have z:(qf c t m a).2.1={a with seen:=q2O a.seen a.addr,set:=s,val:=v,ph:= .idle}:=by
       rw[z];unfold AT.got AT.saw;dsimp only;rw[if_pos hu,if_pos hw]
      have O:x.th.pc+1≠p.length:=by have:=aj Yb;omega
      unfold q00;rw[q37,z,if_neg (q3e rfl),qix (by show a.st≠2;rw[w.st];decide) w.sg J,qaA rfl];have hS:q1W x (({x with at':=some {a with seen:=q2O a.seen a.addr,set:=s,val:=v,ph:= .idle},th:={x.th with rg:=x.th.rg.set i.a.toNat v},seen:=x.seen++ [⟨x.th.pc,1,v⟩]}:GT).to p.length (x.th.pc+1)):=q4d ⟨rfl,rfl,rfl,rfl,rfl,rfl,rfl,rfl,rfl,rfl,rfl⟩ O w.dn;refine⟨hS,rfl,fun _=> .inl (w.next hp E D hi Yb hS (.inl rfl) rfl K w.st w.len P (fun q o=>zq _ o) (fun _ h=>h) (qhv.same rfl rfl (fun q o=>zq _ o) (fun _ _=>rfl) fun tk d Z hh=>?_)),fun h=>?_⟩
      ·have hd:=hh.dl;rw[qie J (by show adr x.th.rg i.b i.imm<_;rw[<-A];exact hw)];unfold q1K;rw[qbV O (by exact w.dn)];have hm:adr x.th.rg i.b i.imm∉a.ad:=by rw[<-A];exact(q1Z w.len).1 W
       have I:=hh.rd (a.addr,v) (by rw[B];exact zz _ (zf.2 rfl));dsimp only at I;rw[qal Yb] at I;have X:(lay a.ad a.vl d).getD (adr x.th.rg i.b i.imm).toNat 0=v:=by
        have:=toN x.th.rg i.b i.imm;rw[q69 Yb,this,<-A,W];exact I
       dsimp only;rw[X];unfold rdM BM.put;dsimp only;rw[toN,A];unfold q2O
       by_cases H:adr x.th.rg i.b i.imm∈a.seen
       ·rw[if_pos (.inr H),if_pos H];rfl
       ·rw[if_neg (fun h=>h.elim (fun h=>hm (qa5.1 h).1) H),if_neg H];rfl
      ·rw[show({a with seen:=q2O a.seen a.addr,set:=s,val:=v,ph:= .idle}:AT).dn=a.dn from rfl,C] at h;cases h
     ·have av:=(qK hC.ck).1;unfold okW at av;have z:(qf c t m a).2.1=AT.frd c {a with seen:=a.seen,set:=s,ph:= .idle} a.us v:=by
       rw[z];unfold AT.got AT.saw;dsimp only;rw[if_neg Yb,if_neg Yb]
      exact q00.frd hp w hC E D hi V C K aq hu z rfl rfl rfl rfl rfl rfl rfl rfl rfl P (.inr ⟨by rw[<-A];exact W,by rw[B,A];exact zz _ (zf.2 rfl)⟩)
end
open Go
section
variable{c:Cfg}{p:jf}{x x':GT}{a b:AT}{r r':List (Int×Int)}{i:Ins}{t n k:Nat}{m:MS}
theorem q90{b:Int}(q:0<=b)(v:b<qh c):qJ c (qs c b)=b:=by
 have key:∀(n:Nat) (k:Int),0<=k->k+n<=qh c->k<=b->b<k+n->q4s c (qs c b) n k=b:=by
  intro n
  induction n with
  |zero=>intro k _ _ _ _;omega
  |succ n z=>
   intro k s k1 k2 k3;unfold q4s
   by_cases e:qs c k=qs c b
   ·rw[if_pos e];refine Decidable.byContradiction fun d=>?_
    have hlt:k<b:=Yb;have f1:=q7L (c:=c) (b:=k) s Yb;have f2:=q7L (c:=c) (b:=b) q v;have hm:∀(j:Nat),k+1+j<=qh c->qbo c k<qbo c (k+1+j):=by
     intro j
     induction j with
     |zero=>intro w;have:=qau (c:=c) (i:=k) s Yb;rw[show k+1+((0:Nat):Int)=k+1 by omega];omega
     |succ j o=>intro w;have:=o Yb;have:=qau (c:=c) (i:=k+1+(j:Int)) Yb Yb;rw[show k+1+((j+1:Nat):Int)=k+1+(j:Int)+1 by omega];omega
    have:=hm (b-k-1).toNat Yb;rw[show k+1+((b-k-1).toNat:Int)=b by omega] at this;omega
   ·rw[if_neg e];exact z (k+1) Yb Yb (by
     refine Decidable.byContradiction fun d=>e ?_
     rw[show k=b by omega]) Yb
 exact key (qh c).toNat 0 (zK _) Yb q Yb
theorem q00.pp(hp:PrO p)(hC:COk c)(A:TL c p x a r)(hA:AI c t m a)(hi:p[x.th.pc]? =some i){j:Nat}{k h nx:Int}(he:a.ph= .pp j k h nx)(aC:PpB c m a)(aB:∀k h nx,a.ph= .pp 2 k h nx->m.hd.getD k.toNat 0=h->0<=q02 h/\q02 h∉a.al):q00 c p t m x a r i:=by
 have D:∀k,a.ph≠ .ent k:=fun k e=>by rw[he] at e;cases e
 have C:a.ph.back=false:=by rw[he];rfl
 have N:fl a= []:=q1O fun _ _ _ e=>by rw[he] at e;cases e
 have aA:=(A.lt hp D C).2 i hi;have P:=hA.ph;unfold PhA at P;rw[he] at P;dsimp only at P;obtain⟨⟨G,_⟩,hj⟩:=P;obtain⟨_,_,_,i',af,B⟩:=A.req D C;rw[hi] at af;cases af;unfold q2S at B;rw[he] at B;dsimp only at B;obtain⟨aw,X,hk⟩:=B;have V:∀(y:AT),y.dn=a.dn->y.dn=true->a.ph= .dc:=fun y e h=>by rw[e,G] at h;cases h
 have H:∀q∈r,qC c q.1∈a.set:=fun q B=>(A.rr q B).2.2
 have R:∀(y:AT),(∃n h nx,y.ph= .pp n k h nx)->q2i a y->y.code=a.code->∀i,p[x.th.pc]? =some i->q2S c x a r i->q2S c x y r i:=fun y s hs e i _ B=>by
  unfold q2S at B ⊢;rw[he] at B;obtain⟨n,h,nx,s⟩:=s;rw[s];dsimp only at B ⊢;rw[e];exact B
 by_cases h0:j=0
 ·have s:(qf c t m a).2.1=if q02 (m.hd.getD k.toNat 0)<0 then AT.allo c {a with ph:= .idle} k (-1) else{a with ph:= .pp 1 k (m.hd.getD k.toNat 0) nx}:=by
   unfold qf;rw[he];dsimp only;rw[if_pos h0]
  split at s
  ·exact q00.fin (y:={a with ph:= .idle,code:=4}) A (by rw[s];unfold AT.allo;rw[if_pos Yc];rfl) A.len rfl G H (.inr (.inl rfl))
  ·exact q00.busy s rfl (q01 N) (fun _=>A.to D C ⟨rfl,rfl,rfl,rfl,rfl,rfl,rfl⟩ (R _ ⟨_,_,_,rfl⟩ ⟨rfl,rfl,rfl,rfl,rfl,rfl,rfl⟩ rfl)) (V _ rfl)
 ·by_cases J:j=1
  ·exact q00.busy (y:={a with ph:= .pp 2 k h (m.nx.getD (q02 h).toNat 0)}) (by unfold qf;rw[he];dsimp only;rw[if_neg h0,if_pos J]) rfl (q01 N) (fun _=>A.to D C ⟨rfl,rfl,rfl,rfl,rfl,rfl,rfl⟩ (R _ ⟨_,_,_,rfl⟩ ⟨rfl,rfl,rfl,rfl,rfl,rfl,rfl⟩ rfl)) (V _ rfl)
  ·obtain rfl:j=2:=Yb
   by_cases hw:m.hd.getD k.toNat 0=h
   ·have s:(qf c t m a).2.1=AT.allo c {a with ph:= .idle} k (q02 h):=by
     unfold qf;rw[he];dsimp only;rw[if_neg h0,if_neg J,if_pos hw]
    obtain⟨E,S⟩:=aB k h nx he hw;obtain⟨M,F⟩:=aC k h nx he hw E;generalize q02 h=b at*;obtain⟨r1,r2,r3,r4⟩:=blk E M;rw[F] at r2 r3 r4;have ay:=(qK hC.ck).1;unfold okW at ay;unfold AT.allo at s;rw[if_neg Yb] at s;dsimp only at s;have au:((2 ^ k.toNat:Nat):Int)=2 ^ k.toNat:=by norm_cast
    cases U:q2Q c.writes a.ad a.vl (c.words+b) (k+1) with
    |none=>
     rw[U] at s;exact q00.fin (y:={a with ph:= .idle,al:=a.al++ [b],code:=3}) A s A.len rfl G H (.inl rfl)
    |some l=>
     rw[U] at s;dsimp only at s;obtain⟨g1,g2,g3⟩:=q2s (ad':=l.1) (vl':=l.2) A.len U
     by_cases hz:(q1J c.writes (2 ^ k.toNat) (qs c b) l).2=true
     ·rw[if_pos hz] at s;obtain⟨z1,z2⟩:=qdA (2 ^ k.toNat) (qs c b) l g1 hz;have aj:x.th.pc+1≠p.length:=by have:=aA Yb;omega
      unfold q00;rw[q37,s,if_neg (q3e rfl),ql7 (by show a.st≠2;rw[A.st];decide) A.sg X,q01 N];have O:∀q,q14 (q1J c.writes (2 ^ k.toNat) (qs c b) l).1.1 (q1J c.writes (2 ^ k.toNat) (qs c b) l).1.2 q=if qs c b<=q/\q<qs c b+2 ^ k.toNat then some 0 else if c.words+b=q then some (k+1) else q14 a.ad a.vl q:=fun q=>by
       rw[z2,g3,au]
      have hS:q1W x (({x with at':=some {a with ph:= .idle,al:=a.al++ [b],ad:=(q1J c.writes (2 ^ k.toNat) (qs c b) l).1.1,vl:=(q1J c.writes (2 ^ k.toNat) (qs c b) l).1.2,val:=qs c b},th:={x.th with rg:=x.th.rg.set i.a.toNat (qs c b)},seen:=x.seen++ [⟨x.th.pc,2,qs c b⟩]}:GT).to p.length (x.th.pc+1)):=q4d ⟨rfl,rfl,rfl,rfl,rfl,rfl,rfl,rfl,rfl,rfl,rfl⟩ aj A.dn;refine⟨hS,rfl,fun _=> .inl (A.next hp D C hi Yb hS (.inl rfl) rfl aw A.st z1 A.rr (fun q B=>B) (fun y s=>zq _ s) fun tk d Z hh W=>?_),fun h=>?_⟩
      ·dsimp only at hh ⊢;have aq:=hh.al b (zz _ (zf.2 rfl));have hdl:=hh.dl;have htl:=hh.tl;have ae:b.toNat<tk.length:=Yb;have eb:((b.toNat:Nat):Int)=b:=Yb;have T:b∉a.fr:=fun hf=>by
        rcases (W.l2 b hf).2.2 with h|h
        ·exact S h
        ·have:=hh.rd _ h;dsimp only at this;rw[show(c.words+b).toNat=d.length+b.toNat by omega,q7I ae,aq,if_neg Yc,F] at this;omega
       have az:q14 a.ad a.vl (c.words+b)=none:=by
        cases e:q14 a.ad a.vl (c.words+b) with
        |none=>rfl
        |some v=>
         rcases W.l1 b v E M e with ⟨_,h⟩|⟨_,h,_⟩
         ·exact absurd h T
         ·exact absurd h S
       refine⟨⟨qs c b::Z,by rw[zv,zd];rfl,?_⟩,⟨fun I v' f1 f2 f3=>?_,fun I K=>?_,fun I K=>?_,W.nd⟩⟩
       ·have aE:(q4z c a.ad a.vl tk).getD b.toNat false=false:=by rw[q57 ae,eb,az];exact aq
        have av:alB c (q4z c a.ad a.vl tk) (qs c b::Z) i.imm=some ((qs c b).toNat,b.toNat):=by
         unfold alB;dsimp only;rw[q90 E M,F,aE,if_neg (by simp[hk];omega)]
        unfold q0d q1K;dsimp only;rw[if_neg Yb,if_neg Yb,if_pos X,av,qbV aj (by exact A.dn)];dsimp only[List.tail_cons];have aF:wrL ⟨lay a.ad a.vl d,(q4z c a.ad a.vl tk).set b.toNat true,x.th,a.seen,fw c a.ad,x.seen,Z⟩ (qs c b).toNat (2 ^ i.imm.toNat)=⟨lay (q1J c.writes (2 ^ k.toNat) (qs c b) l).1.1 (q1J c.writes (2 ^ k.toNat) (qs c b) l).1.2 d,(q4z c a.ad a.vl tk).set b.toNat true,x.th,a.seen,fw c (q1J c.writes (2 ^ k.toNat) (qs c b) l).1.1,x.seen,Z⟩:=by
         have ef:(((qs c b).toNat:Nat):Int)=qs c b:=Yb;have:=qay (c:=c) (cap:=c.writes) (tk:=(q4z c a.ad a.vl tk).set b.toNat true) (th:=x.th) (r:=a.seen) (o:=x.seen) (z:=Z) (d:=d) (2 ^ k.toNat) (qs c b).toNat l g1 Yb (by rw[ef];exact hz);rw[ef] at this;rw[<-hk,<-this,qae (ad:=a.ad) (vl:=a.vl) (ad':=l.1) (vl':=l.2) (fun q B=>by rw[g3,if_neg Yb]),g2,qa4,if_neg Yb]
        rw[aF];unfold BM.put;dsimp only;rw[qad (c:=c) (ad:=a.ad) (vl:=a.vl) (ad':=(q1J c.writes (2 ^ k.toNat) (qs c b) l).1.1) (vl':=(q1J c.writes (2 ^ k.toNat) (qs c b) l).1.2) (b:=b.toNat) (v:=k+1) (fun q B=>by rw[O,if_neg Yb];by_cases e:b.toNat=q <;>simp[e] <;>omega),decide_eq_true Yb];rw[show(((qs c b).toNat:Nat):Int)=qs c b by omega];rfl
       ·rw[O,if_neg Yb] at f3
        by_cases e:c.words+b=c.words+I
        ·rw[if_pos e] at f3;cases f3;obtain rfl:b=I:=Yb;exact .inr ⟨by rw[F],zz _ (zf.2 rfl),T⟩
        ·rw[if_neg e] at f3
         rcases W.l1 I v' f1 f2 f3 with h|⟨J,Y,h3⟩
         ·exact .inl h
         ·exact .inr ⟨J,zq _ Y,h3⟩
       ·obtain⟨J,Y,h3⟩:=W.l2 I K;have:b≠I:=fun e=>T (e ▸ K)
        rw[O,if_neg Yb,if_neg Yb];exact⟨J,Y,h3.imp (fun h=>zq _ h) id⟩
       ·rw[O]
        rcases zw.1 K with h|h
        ·obtain⟨J,Y⟩:=W.l3 I h;have:b≠I:=fun e=>S (e ▸ h)
         rw[if_neg Yb,if_neg Yb];exact⟨J,Y⟩
        ·rw[zf.1 h,if_neg Yb,if_pos rfl,F];exact⟨⟨E,M⟩, .inr rfl⟩
      ·have h:a.dn=true:=h;rw[G] at h;cases h
     ·rw[if_neg hz] at s;obtain⟨q1,_,_⟩:=q98 (cap:=c.writes) (2 ^ k.toNat) (qs c b) l (lo:=0) (hi:=c.words+qh c) g1 (by rw[g2];exact q6A hA.an) (fun w hw=>by
       rw[g2] at hw
       rcases q3m.1 hw with hw|rfl
       ·exact hA.ar w hw
       ·omega) r1 Yb
      exact q00.fin (y:={a with ph:= .idle,al:=a.al++ [b],ad:=(q1J c.writes (2 ^ k.toNat) (qs c b) l).1.1,vl:=(q1J c.writes (2 ^ k.toNat) (qs c b) l).1.2,code:=3}) A s q1 rfl G H (.inl rfl)
   ·exact q00.busy (y:={a with ph:= .pp 0 k h nx}) (by unfold qf;rw[he];dsimp only;rw[if_neg h0,if_neg J,if_neg hw]) rfl (q01 N) (fun _=>A.to D C ⟨rfl,rfl,rfl,rfl,rfl,rfl,rfl⟩ (R _ ⟨_,_,_,rfl⟩ ⟨rfl,rfl,rfl,rfl,rfl,rfl,rfl⟩ rfl)) (V _ rfl)
theorem TL.rest(d:TL c p x a r){b:AT}(e:b.ad=a.ad)(j:b.vl=a.vl)(o:b.set=a.set)(q:b.st=a.st)(s:b.code=3\/b.code=4\/b.code=6\/b.code=9):TL c p x b.rest r/\b.rest.busy=true:=by
 unfold AT.rest
 split
 ·exact⟨d.off (by dsimp only;rw[e,j];exact d.len) o q rfl s,rfl⟩
 ·exact⟨d.off (by dsimp only;rw[e,j];exact d.len) o q rfl s,rfl⟩
theorem q44(b:AT):b.rest.dn=b.dn/\b.rest.code=b.code/\b.rest.busy=true:=by
 unfold AT.rest
 split <;>exact⟨rfl,rfl,rfl⟩
theorem q00.lk(z:TL c p x a r)(B:a.dn=false){s:Int}{ld:Bool}(he:a.ph= .lk s ld):q00 c p t m x a r i:=by
 have v:∀k,a.ph≠ .ent k:=fun k e=>by rw[he] at e;cases e
 have q:a.ph.back=false:=by rw[he];rfl
 have w:∀(y:AT),y.dn=a.dn->y.dn=true->a.ph= .dc:=fun y e h=>by rw[e,B] at h;cases h
 have o:fl a= []:=q1O fun _ _ _ e=>by rw[he] at e;cases e
 have j:∀(y:AT),(∃s ld,y.ph= .lk s ld)\/(∃b,y.ph= .tn b)->q2i a y->y.code=a.code->∀i,p[x.th.pc]? =some i->q2S c x a r i->q2S c x y r i:=fun y A C e i _ j=>by
  unfold q2S at j ⊢;rw[he] at j
  rcases A with ⟨s,ld,A⟩|⟨b,A⟩ <;>rw[A] <;>dsimp only at j ⊢ <;>rw[e] <;>exact⟨j.1,C.out j.2⟩
 have d:=q34 (c:=c) (t:=t) (m:=m) he;cases ld with
 |false=>
  rw[if_pos rfl] at d;exact q00.b2 d rfl o (fun _=>z.to v q ⟨rfl,rfl,rfl,rfl,rfl,rfl,rfl⟩ (j _ (.inl ⟨_,_,rfl⟩) ⟨rfl,rfl,rfl,rfl,rfl,rfl,rfl⟩ rfl)) (w _ rfl)
 |true=>
  rw[if_neg Yc] at d
  by_cases hw:m.o.getD (a.oc.getD a.old.length 0).toNat 0=s
  ·rw[if_pos hw] at d
   by_cases hd:a.old.length+1=a.oc.length
   ·rw[if_pos hd] at d;exact q00.b2 d rfl o (fun _=>z.to v q ⟨rfl,rfl,rfl,rfl,rfl,rfl,rfl⟩ (j _ (.inr ⟨_,rfl⟩) ⟨rfl,rfl,rfl,rfl,rfl,rfl,rfl⟩ rfl)) (w _ rfl)
   ·rw[if_neg hd] at d;exact q00.b2 d rfl o (fun _=>z.to v q ⟨rfl,rfl,rfl,rfl,rfl,rfl,rfl⟩ (j _ (.inl ⟨_,_,rfl⟩) ⟨rfl,rfl,rfl,rfl,rfl,rfl,rfl⟩ rfl)) (w _ rfl)
  ·rw[if_neg hw] at d;exact q00.b2 d rfl o (fun _=>z.to v q ⟨rfl,rfl,rfl,rfl,rfl,rfl,rfl⟩ (j _ (.inl ⟨_,_,rfl⟩) ⟨rfl,rfl,rfl,rfl,rfl,rfl,rfl⟩ rfl)) (w _ rfl)
theorem q00.tnk(w:TL c p x a r)(B:a.dn=false)(he:(∃b,a.ph= .tn b)\/(∃l,a.ph= .ck l)\/a.ph= .dc):q00 c p t m x a r i:=by
 have s:∀k,a.ph≠ .ent k:=fun k e=>by rcases he with ⟨b,h⟩|⟨l,h⟩|h <;>rw[h] at e <;>cases e
 have q:a.ph.back=false:=by rcases he with ⟨b,h⟩|⟨l,h⟩|h <;>rw[h] <;>rfl
 have o:∀(y:AT),y.dn=a.dn->y.dn=true->a.ph= .dc:=fun y e h=>by rw[e,B] at h;cases h
 have j:fl a= []:=q1O fun _ _ _ e=>by rcases he with ⟨b,h⟩|⟨l,h⟩|h <;>rw[h] at e <;>cases e
 have C:∀i,q2S c x a r i->a.code≠0/\qc9 c x a r i a.code:=fun i v=>by
  unfold q2S at v
  rcases he with ⟨b,h⟩|⟨l,h⟩|h <;>rw[h] at v <;>exact v
 have v:∀(y:AT),(∃b,y.ph= .tn b)\/(∃l,y.ph= .ck l)\/y.ph= .dc->q2i a y->y.code=a.code->∀i,p[x.th.pc]? =some i->q2S c x a r i->q2S c x y r i:=fun y D K e i _ v=>by
  have:=C i v;unfold q2S
  rcases D with ⟨b,h⟩|⟨l,h⟩|h <;>rw[h] <;>dsimp only <;>rw[e] <;>exact⟨this.1,K.out this.2⟩
 have A:∀(y:AT),(qf c t m a).2.1=y.rest->y.ad=a.ad->y.vl=a.vl->y.set=a.set->y.st=a.st->y.dn=a.dn->(y.code=3\/y.code=4\/y.code=6\/y.code=9)->q00 c p t m x a r i:=fun y D E F G H I J=>by
  have h:=w.rest E F G H J;exact q00.busy D h.2 (q01 j) (fun _=>h.1) (o _ ((q44 y).1.trans I))
 rcases he with ⟨b,he⟩|⟨l,he⟩|he
 ·cases b with
  |false=>
   have d:=q3h (c:=c) (t:=t) (m:=m) he;exact q00.b2 d rfl j (fun _=>w.to s q ⟨rfl,rfl,rfl,rfl,rfl,rfl,rfl⟩ (v _ (.inl ⟨_,rfl⟩) ⟨rfl,rfl,rfl,rfl,rfl,rfl,rfl⟩ rfl)) (o _ rfl)
  |true=>
   have d:=q3i (c:=c) (t:=t) (m:=m) he
   split at d
   ·split at d
    ·exact q00.b2 d rfl j (fun _=>w.to s q ⟨rfl,rfl,rfl,rfl,rfl,rfl,rfl⟩ (v _ (.inr (.inr rfl)) ⟨rfl,rfl,rfl,rfl,rfl,rfl,rfl⟩ rfl)) (o _ rfl)
    ·exact q00.b2 d rfl j (fun _=>w.to s q ⟨rfl,rfl,rfl,rfl,rfl,rfl,rfl⟩ (v _ (.inr (.inl ⟨_,rfl⟩)) ⟨rfl,rfl,rfl,rfl,rfl,rfl,rfl⟩ rfl)) (o _ rfl)
   ·exact q00.b2 d (by unfold AT.busy;rw[he]) j (fun _=>w) (o _ rfl)
 ·have d:=q6t (c:=c) (t:=t) (m:=m) he
  split at d
  ·exact A {a with code:=9} (congrArg (fun z=>z.2.1) d) rfl rfl rfl rfl rfl (.inr (.inr (.inr rfl)))
  ·split at d
   ·exact q00.b2 d rfl j (fun _=>w.to s q ⟨rfl,rfl,rfl,rfl,rfl,rfl,rfl⟩ (v _ (.inr (.inr rfl)) ⟨rfl,rfl,rfl,rfl,rfl,rfl,rfl⟩ rfl)) (o _ rfl)
   ·exact q00.b2 d rfl j (fun _=>w.to s q ⟨rfl,rfl,rfl,rfl,rfl,rfl,rfl⟩ (v _ (.inr (.inl ⟨_,rfl⟩)) ⟨rfl,rfl,rfl,rfl,rfl,rfl,rfl⟩ rfl)) (o _ rfl)
 ·have d:=q33 (c:=c) (t:=t) (m:=m) he
  split at d
  ·exact A {a with ck:=m.ck,code:=6} (congrArg (fun z=>z.2.1) d) rfl rfl rfl rfl rfl (.inr (.inr (.inl rfl)))
  ·split at d
   ·exact q00.b2 d rfl j (fun h=>by cases h) (fun _=>he)
   ·refine q00.b2 d (q44 _).2.2 j (fun h=>?_) (fun _=>he);rw[(q44 _).1] at h;cases h
theorem q00.back(d:TL c p x a r)(s:a.dn=false)(he:(∃l w,a.ph= .rl l w)\/a.ph= .ps\/∃j b h,a.ph= .ph j b h):q00 c p t m x a r i:=by
 have B:∀(y:AT),y.dn=a.dn->y.dn=true->a.ph= .dc:=fun y e h=>by rw[e,s] at h;cases h
 have A:fl a= []:=q1O fun _ _ _ e=>by rcases he with ⟨l,w,h⟩|h|⟨_,_,_,h⟩ <;>rw[h] at e <;>cases e
 have o:a.code=3\/a.code=4\/a.code=6\/a.code=9:=by
  rcases d.ph with ⟨k,e,_⟩|⟨_,_,_,i,_,e⟩|⟨_,e⟩
  ·rcases he with ⟨l,w,h⟩|h|⟨_,_,_,h⟩ <;>rw[h] at e <;>cases e
  ·unfold q2S at e
   rcases he with ⟨l,w,h⟩|h|⟨_,_,_,h⟩ <;>rw[h] at e <;>exact e.elim
  ·exact e
 rcases he with ⟨l,w,he⟩|he|⟨j,b,h,he⟩
 ·have v:(qf c t m a).2.1=if l.tail= [] then{a with ph:=if a.dn/\a.sto then .sp else .ps} else{a with ph:= .rl l.tail w.tail}:=by unfold qf;rw[he]
  have e:(if a.dn=true/\a.sto=true then AP.sp else AP.ps)=AP.ps:=if_neg (fun h=>by rw[s] at h;cases h.1);rw[e] at v
  split at v
  ·exact q00.busy v rfl (q01 A) (fun _=>d.off d.len rfl rfl rfl o) (B _ rfl)
  ·exact q00.busy v rfl (q01 A) (fun _=>d.off d.len rfl rfl rfl o) (B _ rfl)
 ·exact q00.fin (y:=a) d (by unfold qf;rw[he]) d.len rfl s (fun q C=>(d.rr q C).2.2) o
 ·cases e:(q0p c m j b h).2.1 with
  |none=>exact q00.fin (y:={a with pu:=a.pu+1}) d (by unfold qf;rw[he];dsimp only;revert e;generalize q0p c m j b h=q;obtain⟨m',z,ac,p⟩:=q;rintro rfl;rfl) d.len rfl s (fun q C=>(d.rr q C).2.2) o
  |some z=>exact q00.busy (y:={a with ph:= .ph z.1 b z.2}) (by unfold qf;rw[he];dsimp only;revert e;generalize q0p c m j b h=q;obtain⟨m',z',ac,p⟩:=q;rintro rfl;rfl) rfl (q01 A) (fun _=>d.off d.len rfl rfl rfl o) (B _ rfl)
theorem TL.adv(z:PrO p)(B:COk c)(e:TL c p x a r)(o:AI c t m a)(E:PpB c m a)(D:∀k h nx,a.ph= .pp 2 k h nx->m.hd.getD k.toNat 0=h->0<=q02 h/\q02 h∉a.al)(hi:p[x.th.pc]? =some i)(hb:a.busy=true)(d:a.dn=false)(C:a.ph≠ .lv):q00 c p t m x a r i:=by
 cases he:a.ph with
 |idle=>unfold AT.busy at hb;rw[he] at hb;cases hb
 |loc q=>exact q00.loc z B e hi d he
 |ent j=>exact q00.ent z e hi d he
 |rd j b v=>exact q00.rd z B e o hi he
 |pp j k h nx=>exact q00.pp z B e o hi he E D
 |ph j b h=>exact q00.back e d (.inr (.inr ⟨j,b,h,he⟩))
 |lk s ld=>exact q00.lk e d he
 |tn b=>exact q00.tnk e d (.inl ⟨b,he⟩)
 |ck l=>exact q00.tnk e d (.inr (.inl ⟨l,he⟩))
 |dc=>exact q00.tnk e d (.inr (.inr he))
 |wr A V=>
  have:=o.ph;unfold PhA at this;rw[he] at this;rw[this.1] at d;cases d
 |rl l w=>exact q00.back e d (.inl ⟨l,w,he⟩)
 |sp=>
  have:=o.ph;unfold PhA at this;rw[he] at this;rw[this.1] at d;cases d
 |ps=>exact q00.back e d (.inr (.inl he))
 |lv=>exact absurd he C
end
open Go
section
variable{c:Cfg}{p:jf}{x x':GT}{a b:AT}{r r':List (Int×Int)}{i:Ins}{t n k:Nat}{m:MS}
theorem AI.idle(d:AI c t m a)(j:a.ph= .idle){y:AT}(q:y.oc=a.oc)(e:y.ad=a.ad)(v:y.vl=a.vl)(w:y.set=a.set)(z:y.rv=a.rv)(B:PhA c m y)(C:y.ph.tick=false)(A:y.ph.hold=false)(hd:y.held= []):AI c t m y:=
 ⟨B,fun _=>by rw[z];exact d.rv (by rw[j];rfl),fun h=>(by rw[C] at h;cases h),fun h=>(by rw[A] at h;cases h),fun o s=>(by rw[hd] at s;cases s),by rw[q];exact d.oc,by rw[q];exact d.nd,by rw[e];exact d.an,by rw[e];exact d.ar,by rw[e,v];exact d.al,by rw[w];exact d.st⟩
theorem qaC(hC:COk c)(hT:TL c p x a r)(X:AI c t m a)(D:a.ph= .idle)(hi:p[x.th.pc]? =some i)(hop:(8<=i.op/\i.op<=11)\/i.op=14\/i.op=15):
  TL c p x (q11 c x.th.rg a i) r/\AI c t m (q11 c x.th.rg a i)/\(q11 c x.th.rg a i).busy=true/\(q11 c x.th.rg a i).dn=a.dn/\(q11 c x.th.rg a i).rv=a.rv/\(fl (q11 c x.th.rg a i)= [])/\(q11 c x.th.rg a i).ph.tick=false/\(q11 c x.th.rg a i).ph≠ .lv/\(∀A V,(q11 c x.th.rg a i).ph≠ .wr A V)/\q2i a (q11 c x.th.rg a i)/\(q11 c x.th.rg a i).pu=a.pu/\(q11 c x.th.rg a i).code=a.code/\((∀n k h v,(q11 c x.th.rg a i).ph≠ .pp n k h v)\/(i.op=14/\(q11 c x.th.rg a i).ph= .pp 0 i.imm 0 0))/\∀n b h,(q11 c x.th.rg a i).ph≠ .ph n b h:=by
 have O:∀k,a.ph≠ .ent k:=fun k e=>by rw[D] at e;cases e
 have N:a.ph.back=false:=by rw[D];rfl
 have hf:a.fresh:=by have:=X.ph;unfold PhA at this;rw[D] at this;exact this
 have s:a.code=0:=by
  obtain⟨_,_,_,j,_,P⟩:=hT.req O N;unfold q2S at P;rw[D] at P;exact P
 have key:∀(y:AT),y.oc=a.oc->y.old=a.old->y.ad=a.ad->y.vl=a.vl->y.set=a.set->y.rv=a.rv->y.seen=a.seen->y.st=a.st->y.dn=a.dn->y.code=a.code->y.al=a.al->y.fr=a.fr->y.pu=a.pu->(∃q,y.ph= .loc q/\(∀w v,q= .wr w v->0<=w)/\∀b v,q= .fd b v->0<=b/\b<qh c)\/(y.ph= .rd 0 0 0/\0<=y.addr/\y.addr<c.words+qh c/\(0<=y.us->y.us<qh c))\/(i.op=14/\y.ph= .pp 0 i.imm 0 0)->(q2S c x y r i)->
   TL c p x y r/\AI c t m y/\y.busy=true/\y.dn=a.dn/\y.rv=a.rv/\(fl y= [])/\y.ph.tick=false/\y.ph≠ .lv/\(∀A V,y.ph≠ .wr A V)/\q2i a y/\y.pu=a.pu/\y.code=a.code/\((∀n k h v,y.ph≠ .pp n k h v)\/(i.op=14/\y.ph= .pp 0 i.imm 0 0))/\∀n b h,y.ph≠ .ph n b h:=by
  intro y R h2 S T U J h7 K W o B Y G af P;have F:q2i a y:=⟨S,T,h7,U,K,B,Y⟩
  have I:y.fresh:=by unfold AT.fresh at hf ⊢;rw[W,R,h2];exact hf
  have H:TL c p x y r:=hT.to O N F fun j hj _=>by rw[hi] at hj;cases hj;exact P
  rcases af with ⟨q,e,hw⟩|⟨e,hr⟩|⟨z,e⟩
  ·exact⟨H,X.idle D R S T U J (by unfold PhA;rw[e];exact⟨I,hw⟩) (by rw[e];rfl) (by rw[e];rfl) (by unfold AT.held;rw[e]),by unfold AT.busy;rw[e],W,J,by unfold fl;rw[e],by rw[e];rfl,fun h=>(by rw[e] at h;cases h),fun A V h=>(by rw[e] at h;cases h),F,G,o, .inl fun _ _ _ _ h=>(by rw[e] at h;cases h),fun _ _ _ h=>by rw[e] at h;cases h⟩
  ·exact⟨H,X.idle D R S T U J (by unfold PhA;rw[e];exact⟨I,Yb,hr⟩) (by rw[e];rfl) (by rw[e];rfl) (by unfold AT.held;rw[e]),by unfold AT.busy;rw[e],W,J,by unfold fl;rw[e];exact if_pos (.inl rfl),by rw[e];rfl,fun h=>(by rw[e] at h;cases h),fun A V h=>(by rw[e] at h;cases h),F,G,o, .inl fun _ _ _ _ h=>(by rw[e] at h;cases h),fun _ _ _ h=>by rw[e] at h;cases h⟩
  ·exact⟨H,X.idle D R S T U J (by unfold PhA;rw[e];exact⟨I,Yb⟩) (by rw[e];rfl) (by rw[e];rfl) (by unfold AT.held;rw[e]),by unfold AT.busy;rw[e],W,J,by unfold fl;rw[e],by rw[e];rfl,fun h=>(by rw[e] at h;cases h),fun A V h=>(by rw[e] at h;cases h),F,G,o, .inr ⟨z,e⟩,fun _ _ _ h=>by rw[e] at h;cases h⟩
 unfold q11
 by_cases o:i.op=10
 ·rw[if_pos o];unfold AT.read
  by_cases hw:c.words<=adr x.th.rg i.b i.imm
  ·rw[if_pos hw];refine key _ rfl rfl rfl rfl rfl rfl rfl rfl rfl rfl rfl rfl rfl (.inl ⟨_,rfl,(fun _ _ e=>by cases e),fun _ _ e=>by cases e⟩) ⟨s,Yc,fun tk d Z hh hl=>?_⟩;unfold q0d q1K;dsimp only;rw[if_pos o,if_pos hw]
  ·rw[if_neg hw];have hbb:=qP c;cases M:q14 a.ad a.vl (adr x.th.rg i.b i.imm) with
   |some v=>exact key _ rfl rfl rfl rfl rfl rfl rfl rfl rfl rfl rfl rfl rfl (.inl ⟨_,rfl,(fun _ _ e=>by cases e),fun _ _ e=>by cases e⟩) ⟨s,o,Yb,M⟩
   |none=>exact key _ rfl rfl rfl rfl rfl rfl rfl rfl rfl rfl rfl rfl rfl (.inr (.inl ⟨rfl,q4P _ _ _,(by dsimp only;omega),fun h=>absurd h (by show ¬(0:Int)<= -1;decide)⟩)) ⟨s,M, .inl ⟨(by show(-1:Int)<0;decide),o,rfl,by dsimp only;omega⟩⟩
 ·rw[if_neg o]
  by_cases B:i.op=11
  ·rw[if_pos B];exact key _ rfl rfl rfl rfl rfl rfl rfl rfl rfl rfl rfl rfl rfl (.inl ⟨_,rfl,(fun w v e=>by cases e;exact q4P _ _ _),fun _ _ e=>by cases e⟩) ⟨s,B,rfl,rfl⟩
  ·rw[if_neg B]
   by_cases z:i.op=14
   ·rw[if_pos z];unfold AT.alloc
    split
    ·exact key _ rfl rfl rfl rfl rfl rfl rfl rfl rfl rfl rfl rfl rfl (.inl ⟨_,rfl,(fun _ _ e=>by cases e),fun _ _ e=>by cases e⟩) ⟨s,rfl⟩
    ·exact key _ rfl rfl rfl rfl rfl rfl rfl rfl rfl rfl rfl rfl rfl (.inr (.inr ⟨z,rfl⟩)) ⟨s,z,rfl⟩
   ·rw[if_neg z]
    by_cases C:i.op=15
    ·rw[if_pos C];unfold AT.free;have hlf:=q3w c (x.th.rg.get i.a.toNat)
     by_cases hb:qJ c (x.th.rg.get i.a.toNat)<0
     ·rw[if_pos hb];refine key _ rfl rfl rfl rfl rfl rfl rfl rfl rfl rfl rfl rfl rfl (.inl ⟨_,rfl,(fun _ _ e=>by cases e),fun _ _ e=>by cases e⟩) ⟨s,Yc,fun tk d Z hh hl=>?_⟩;unfold q0d q1K;dsimp only;rw[if_neg o,if_neg B,if_neg z,if_pos C,if_pos (.inl hb)]
     ·rw[if_neg hb];have E:0<=qJ c (x.th.rg.get i.a.toNat)/\qJ c (x.th.rg.get i.a.toNat)<qh c:=Yb;have ae:=(qK hC.ck).1;unfold okW at ae;cases M:q14 a.ad a.vl (c.words+qJ c (x.th.rg.get i.a.toNat)) with
      |some v=>exact key _ rfl rfl rfl rfl rfl rfl rfl rfl rfl rfl rfl rfl rfl (.inl ⟨_,rfl,(fun _ _ e=>by cases e),fun _ _ e=>by cases e;exact E⟩) ⟨s,C,rfl,E,M⟩
      |none=>exact key _ rfl rfl rfl rfl rfl rfl rfl rfl rfl rfl rfl rfl rfl (.inr (.inl ⟨rfl,(by dsimp only;omega),(by dsimp only;omega),fun _=>E.2⟩)) ⟨s,M, .inr ⟨E,C,rfl,rfl⟩⟩
    ·rw[if_neg C]
     by_cases K:i.op=8
     ·rw[if_pos K];refine key _ rfl rfl rfl rfl rfl rfl rfl rfl rfl rfl rfl rfl rfl (.inl ⟨_,rfl,(fun _ _ e=>by cases e),fun _ _ e=>by cases e⟩) ⟨s,Yc,fun tk d Z hh hl=>?_⟩;unfold q0d;rw[if_neg o,if_neg B,if_neg z,if_neg C,if_pos K]
     ·rw[if_neg K];refine key _ rfl rfl rfl rfl rfl rfl rfl rfl rfl rfl rfl rfl rfl (.inl ⟨_,rfl,(fun _ _ e=>by cases e),fun _ _ e=>by cases e⟩) ⟨s,Yc,fun tk d Z hh hl=>?_⟩;unfold q0d;rw[if_neg o,if_neg B,if_neg z,if_neg C,if_neg K,if_pos Yb]
theorem TL.locI(C:PrO p)(s:TL c p x a r)(o:a.ph= .idle)(hi:p[x.th.pc]? =some i)(hop:0<=i.op/\i.op<=6):
  TL c p {x with th:={q1r x.th i with dn:=decide ((q1r x.th i).pc=p.length)}} a r:=by
 have B:∀k,a.ph≠ .ent k:=fun k e=>by rw[o] at e;cases e
 have A:a.ph.back=false:=by rw[o];rfl
 obtain⟨J,K,h3,j,G,v⟩:=s.req B A;rw[hi] at G;cases G;obtain⟨ib,z,F⟩:=s.bg;obtain⟨H,I,e3,_⟩:=q7F C z F J K;obtain⟨c',hc,_,hl,_⟩:=q0v C.ck z F;obtain⟨M,l2,D,_⟩:=qdh C.ck hi Yb;have D:=D (by rw[H];omega) Yb;rw[I] at D;have w:decide ((q1r x.th i).pc=p.length)=false:=decide_eq_false (by show q1B x.th i≠_;omega);have E:({q1r x.th i with dn:=decide ((q1r x.th i).pc=p.length)}:Thr)=q1r x.th i:=by
  rw[w];unfold q1r;rw[s.dn]
 unfold q2S at v;rw[o] at v;refine s.next C B A hi Yb ⟨rfl,rfl,rfl,rfl,rfl,rfl,by dsimp only;rw[w];exact s.dn.symm,rfl,rfl,rfl,rfl⟩ (.inr ⟨M,D⟩) o v s.st s.len s.rr (fun q v=>v) (fun _ h=>h) (qhv.same rfl rfl (fun q v=>v) (fun _ _=>rfl) fun tk d Z _=>?_);unfold q0d q1K;rw[if_neg Yb,if_neg Yb,if_neg Yb,if_neg Yb,if_neg Yb,if_neg Yb];dsimp only;rw[E]
theorem TL.start(j:x.stg=false)(hi:p[x.th.pc]? =some i)(o:i.op=7)(d:x.th.dn=false)(e:x.fn=none):TL c p {x with bg:=x.th.pc,sv:=x.th.rg,tr:=x.tr+1,seen:= [],ct:=x.ct+1} {AT.new with st:=1,ph:= .ent 0} []:=
 ⟨j,⟨i,hi,o⟩,d,e,Nat.succ_ne_zero _,rfl,rfl,fun q s=>(by cases s), .inl ⟨0,rfl,rfl,rfl,rfl,rfl,rfl,rfl,rfl,rfl,rfl,rfl⟩,(z7.1 hi).1⟩
theorem AI.start:AI c t m {AT.new with st:=1,ph:= .ent 0}:=
 ⟨⟨⟨rfl,rfl,rfl⟩,Yc⟩,fun h=>(by cases h),fun h=>(by cases h),fun h=>(by cases h),fun o d=>(by cases d),fun o d=>(by cases d),ym,ym,fun o d=>(by cases d),rfl,fun o d=>(by cases d)⟩
end
open Go
section
variable{c:Cfg}{p:jf}{x x':GT}{a b:AT}{r r':List (Int×Int)}{i:Ins}{t n k:Nat}{m:MS}
theorem q56{q:AP}(d:q.late=true)(e:q.back=true):False:=by cases q <;>first|exact Bool.noConfusion d|exact Bool.noConfusion e
theorem TS.at(h:TS c p x a r)(z:Option AT):TS c p {x with at':=z} a r:=⟨h.sg,h.dn,h.fn,h.tr,h.st,h.out,h.rr,h.bl,h.ph⟩
theorem q00.sy{y:AT}(o:x.stg=true)(q:(qf c t m a).2.1=y)(d:y.st≠2)(j:y.dn=false->TS c p x y (rUp a y r))(hd:y.dn=true->a.ph= .dc):q00 c p t m x a r i:=by
 unfold q00;rw[q37,q,qiy d o];have e:(if y.busy=true then{x with at':=some y} else{x with at':=some y})=({x with at':=some y}:GT):=by split <;>rfl
 rw[e];exact⟨q1W.at,rfl,fun h=> .inr ((j h).at _),fun h=>⟨hd h,rfl⟩⟩
theorem q00.sb{y:AT}(d:TS c p x a r)(hi:p[x.th.pc]? =some i)(B:(qf c t m a).2.1=y)(A:y.set=a.set)(e:y.st=a.st)(q:y.dn=false)(o:y.al= []/\y.fr= [])(hb:y.ph.back=true)(z:y.code=9\/(y.code=6/\i.op=13)):q00 c p t m x a r i:=by
 refine q00.sy d.sg B (by rw[e,d.st];decide) (fun _=>?_) (fun h=>by rw[q] at h;cases h);obtain⟨j,s,v,w,_⟩:=d.ph;rw[hi] at s;cases s;rw[qaz hb];exact⟨d.sg,d.dn,d.fn,d.tr,e.trans d.st,d.out,by rw[A];exact d.rr,o,i,hi,v,w, .inr (.inr ⟨hb,z⟩)⟩
theorem TS.to{y:AT}(d:TS c p x a r)(w:∃i,p[x.th.pc]? =some i/\qim x a r i/\1<=x.ask)(o:q2i a y)(C:y.val=a.val)(A:(y.code=0/\(y.ph= .idle\/y.ph= .loc (.en 1)))\/(y.code=1/\y.ph.late=true)):TS c p x y r:=by
 obtain⟨j,B,s,v,_⟩:=d.ph;obtain⟨i,hi,q,z⟩:=w;have e:i=j:=Option.some.inj (hi.symm.trans B);subst e;refine⟨d.sg,d.dn,d.fn,d.tr,o.ss.trans d.st,d.out,by rw[o.st];exact d.rr,by rw[o.al,o.fr];exact d.bl,i,hi,s,v, .inr (.inl ⟨?_,z,A⟩)⟩;unfold qim at q ⊢;rw[o.ad,o.vl,o.sn,C];exact q
theorem TS.late(A:TS c p x a r)(hi:p[x.th.pc]? =some i)(v:a.ph.late=true):qim x a r i/\1<=x.ask/\a.code=1:=by
 obtain⟨j,s,_,_,h⟩:=A.ph;rw[hi] at s;cases s;have o:∀q:AP,a.ph=q->q.late=true:=fun q e=>by rw[<-e];exact v
 rcases h with ⟨_,_,h⟩|⟨w,z,d⟩|⟨h,_⟩
 ·exfalso
  rcases h with ⟨_,⟨k,e⟩|e⟩|⟨_,_,⟨_,_,_,e⟩,_⟩|⟨_,_,e⟩ <;>exact absurd (o _ e) (fun h=>by cases h)
 ·rcases d with ⟨_,e|e⟩|⟨d,_⟩
  ·exact absurd (o _ e) Yc
  ·exact absurd (o _ e) Yc
  ·exact⟨w,z,d⟩
 ·exact(q56 v h).elim
theorem TS.adv(hC:COk c)(o:TS c p x a r)(hA:AI c t m a)(hi:p[x.th.pc]? =some i)(hb:a.busy=true)(D:a.dn=false)(aI:a.ph≠ .lv):q00 c p t m x a r i:=by
 have aF:=qK hC.ck;have aH:=aF.2.2.1;unfold okL at aH;obtain⟨j,hj,af,Y,h⟩:=o.ph;rw[hi] at hj;cases hj;have O:∀y:AT,y.st=a.st->y.st≠2:=fun y e=>by rw[e,o.st];decide
 have K:∀y:AT,y.dn=a.dn->y.dn=true->a.ph= .dc:=fun y e h=>by rw[e,D] at h;cases h
 have P:∀y:AT,(qf c t m a).2.1=y.fin->y.set=a.set->y.st=a.st->y.dn=a.dn->y.al=a.al->y.fr=a.fr->(y.code=9\/(y.code=6/\i.op=13))->q00 c p t m x a r i:=fun y d H T U W Z hk=>by
  obtain⟨_,_,f3,f4,f5,f6,f7,f8,_⟩:=qfy y;refine q00.sb o hi d (f3.trans H) (f4.trans T) (f6.trans (U.trans D)) ?_ f7 (by rw[f5];exact hk);have:y.fin.al=y.al/\y.fin.fr=y.fr:=by unfold AT.fin;split <;>exact⟨rfl,rfl⟩
  rw[this.1,this.2,W,Z];exact o.bl
 have aj:∀{y:AT},qkN a r->y.ad=a.ad->y.vl=a.vl->y.seen=a.seen->y.set=a.set->qkN y r:=fun h H T U W=>by
  unfold qkN at h ⊢;rw[H,T,U,W];exact h
 have F:∀q:AP,a.ph=q->q.late=true->a.ph.late=true:=fun q e h=>by rw[e];exact h
 have G:∀y:AT,a.ph.late=true->fl a= []->(qf c t m a).2.1=y->q2i a y->y.val=a.val->y.code=a.code->y.dn=a.dn->y.ph.late=true->q00 c p t m x a r i:=fun y E C d hs hv hc hd aM=>by
  obtain⟨g1,g2,g3⟩:=o.late hi E;refine q00.sy o.sg d (by rw[hs.ss,o.st];decide) (fun _=>?_) (K y hd);rw[q01 C];exact o.to ⟨i,hi,g1,g2⟩ hs hv (.inr ⟨hc.trans g3,aM⟩)
 have M:∀y:AT,(qf c t m a).2.1=y.rest->y.set=a.set->y.st=a.st->y.al=a.al->y.fr=a.fr->((y.dn=a.dn/\(y.code=9\/(y.code=6/\i.op=13)))\/(y.dn=true/\a.ph= .dc))->q00 c p t m x a r i:=fun y d H T W Z hk=>by
  have h1:y.rest.set=y.set/\y.rest.st=y.st/\y.rest.al=y.al/\y.rest.fr=y.fr/\y.rest.dn=y.dn/\y.rest.code=y.code/\y.rest.ph.back=true:=by unfold AT.rest;split <;>exact⟨rfl,rfl,rfl,rfl,rfl,rfl,rfl⟩
  obtain⟨f1,f2,f3,f4,f5,f6,f7⟩:=h1
  rcases hk with ⟨h1,h2⟩|⟨h1,h2⟩
  ·exact q00.sb o hi d (f1.trans H) (f2.trans T) (f5.trans (h1.trans D)) (by rw[f3,f4,W,Z];exact o.bl) f7 (by rw[f6];exact h2)
  ·exact q00.sy o.sg d (by rw[f2,T,o.st];decide) (fun h=>by rw[f5,h1] at h;cases h) (fun _=>h2)
 have I:∀y:AT,a.ph.back=true->(qf c t m a).2.1=y->y.set=a.set->y.st=a.st->y.dn=a.dn->y.al=a.al->y.fr=a.fr->y.code=a.code->y.ph.back=true->q00 c p t m x a r i:=fun y B d H T U W Z e6 e7=>by
  refine q00.sb o hi d H T (U.trans D) (by rw[W,Z];exact o.bl) e7 ?_;rw[e6]
  rcases h with ⟨_,_,h⟩|⟨_,_,R⟩|⟨_,h⟩
  ·exfalso
   rcases h with ⟨_,⟨k,e⟩|e⟩|⟨_,_,⟨_,_,_,e⟩,_⟩|⟨_,_,e⟩ <;>rw[e] at B <;>cases B
  ·exfalso
   rcases R with ⟨_,e|e⟩|⟨_,e⟩
   ·rw[e] at B;cases B
   ·rw[e] at B;cases B
   ·exact q56 e B
  ·exact h
 have hcode1:a.ph.back=true->a.code≠1:=fun B H=>by
  rcases h with ⟨_,e,_⟩|⟨_,_,⟨e,_⟩|⟨_,e⟩⟩|⟨_,e|⟨e,_⟩⟩
  ·rw[H] at e;cases e
  ·rw[H] at e;cases e
  ·exact q56 e B
  ·rw[H] at e;cases e
  ·rw[H] at e;cases e
 cases he:a.ph with
 |idle=>unfold AT.busy at hb;rw[he] at hb;cases hb
 |loc q=>
  have C:fl a= []:=q1O fun _ _ _ e=>by rw[he] at e;cases e
  have d:(qf c t m a).2.1={a with ph:= .idle}.kont c q:=by unfold qf;rw[he]
  rcases h with ⟨hE,J,h⟩|⟨E,ha,R⟩|⟨h,_⟩
  ·rcases h with ⟨_,⟨k,e⟩|e⟩|⟨_,_,⟨_,_,_,e⟩,_⟩|⟨ae,au,e⟩
   ·rw[he] at e;cases e
   ·rw[he] at e;cases e
   ·rw[he] at e;cases e
   ·rw[he] at e;cases e;obtain⟨hr,S,aL,av,aq⟩:=hE;have aJ:q2Q c.writes a.ad a.vl (q1D x i) (x.th.rg.get i.b.toNat)=some ([q1D x i],[x.th.rg.get i.b.toNat]):=by
     rw[S,aL];unfold q2Q;dsimp only[List.idxOf?_nil];rw[if_neg (by simp;omega)];rfl
    have d:(qf c t m a).2.1={a with ph:= .idle,ad:= [q1D x i],vl:= [x.th.rg.get i.b.toNat]}:=by
     rw[d];unfold AT.kont;dsimp only;rw[if_neg Yb,aJ]
    refine q00.sy o.sg d (by dsimp only;rw[o.st];decide) (fun _=>?_) (K _ rfl);rw[q01 C];exact⟨o.sg,o.dn,o.fn,o.tr,o.st,o.out,o.rr,o.bl,i,hi,af,Y, .inr (.inl ⟨.inr ⟨au,hr,rfl,rfl,av⟩,ae, .inl ⟨J, .inl rfl⟩⟩)⟩
  ·rcases R with ⟨J,e|e⟩|⟨_,e⟩
   ·rw[he] at e;cases e
   ·rw[he] at e;cases e;have d:(qf c t m a).2.1=AT.endA c {a with ph:= .idle} 1:=d;unfold AT.endA at d
    split at d
    ·refine q00.sy o.sg d (by dsimp only;rw[o.st];decide) (fun _=>?_) (K _ rfl);rw[q01 C];exact o.to ⟨i,hi,E,ha⟩ ⟨rfl,rfl,rfl,rfl,rfl,rfl,rfl⟩ rfl (.inr ⟨rfl,rfl⟩)
    ·refine q00.sy o.sg d (by dsimp only;rw[o.st];decide) (fun _=>?_) (K _ rfl);rw[q01 C];exact o.to ⟨i,hi,E,ha⟩ ⟨rfl,rfl,rfl,rfl,rfl,rfl,rfl⟩ rfl (.inr ⟨rfl,rfl⟩)
   ·rw[he] at e;cases e
  ·rw[he] at h;cases h
 |ent q=>
  have C:fl a= []:=q1O fun _ _ _ e=>by rw[he] at e;cases e
  rcases h with ⟨hE,J,h⟩|⟨_,_,R⟩|⟨h,_⟩
  ·rcases h with ⟨h0,_⟩|⟨_,_,⟨_,_,_,e⟩,_⟩|⟨_,_,e⟩
   ·have key:∀y:AT,(qf c t m a).2.1=y->y.st=a.st->y.dn=a.dn->y.set=a.set->y.ad=a.ad->y.vl=a.vl->y.seen=a.seen->y.code=a.code->y.al=a.al->y.fr=a.fr->((∃k,y.ph= .ent k)\/y.ph= .idle)->q00 c p t m x a r i:=fun y d H T U W Z e6 e7 e8 e9 hp=>by
     refine q00.sy o.sg d (O y H) (fun _=>?_) (K y T);rw[q01 C];exact⟨o.sg,o.dn,o.fn,o.tr,H.trans o.st,o.out,by rw[U];exact o.rr,by rw[e8,e9];exact o.bl,i,hi,af,Y, .inl ⟨aj hE W Z e6 U,e7.trans J, .inl ⟨h0,hp⟩⟩⟩
    by_cases q0:q=0
    ·exact key {a with ph:= .ent 1} (by unfold qf;rw[he];dsimp only;rw[if_pos q0]) rfl rfl rfl rfl rfl rfl rfl rfl rfl (.inl ⟨_,rfl⟩)
    ·by_cases q1:q=1
     ·exact key {a with rv:=m.ck,ph:= .ent 2} (by unfold qf;rw[he];dsimp only;rw[if_neg q0,if_pos q1]) rfl rfl rfl rfl rfl rfl rfl rfl rfl (.inl ⟨_,rfl⟩)
     ·exact key {a with ph:= .idle} (by unfold qf;rw[he];dsimp only;rw[if_neg q0,if_neg q1]) rfl rfl rfl rfl rfl rfl rfl rfl rfl (.inr rfl)
   ·rw[he] at e;cases e
   ·rw[he] at e;cases e
  ·rcases R with ⟨_,e|e⟩|⟨_,e⟩ <;>rw[he] at e <;>cases e
  ·rw[he] at h;cases h
 |rd q bf v=>
  have X:=hA.ph;unfold PhA at X;rw[he] at X;dsimp only at X
  rcases h with ⟨hE,J,h⟩|⟨_,_,R⟩|⟨h,_⟩
  ·rcases h with ⟨_,⟨k,e⟩|e⟩|⟨ae,aw,_,S,az⟩|⟨_,_,e⟩
   ·rw[he] at e;cases e
   ·rw[he] at e;cases e
   ·have key:∀y:AT,fl a= []->(qf c t m a).2.1=y->y.st=a.st->y.dn=a.dn->y.set=a.set->y.ad=a.ad->y.vl=a.vl->y.seen=a.seen->y.code=a.code->y.al=a.al->y.fr=a.fr->y.addr=a.addr->y.us=a.us->(∃n b v,y.ph= .rd n b v)->q00 c p t m x a r i:=fun y C d H T U W Z e6 e7 e8 e9 aA aB hp=>by
     refine q00.sy o.sg d (O y H) (fun _=>?_) (K y T);rw[q01 C];exact⟨o.sg,o.dn,o.fn,o.tr,H.trans o.st,o.out,by rw[U];exact o.rr,by rw[e8,e9];exact o.bl,i,hi,af,Y, .inl ⟨aj hE W Z e6 U,e7.trans J, .inr (.inl ⟨ae,aw,hp,aA.trans S,by rw[aB];exact az⟩)⟩⟩
    by_cases q0:q=0
    ·have d:(qf c t m a).2.1=if q3R (m.o.getD (qC c a.addr).toNat 0)>=0\/q5J (m.o.getD (qC c a.addr).toNat 0)>a.rv then a.undo 9 else{a with ph:= .rd 1 (m.o.getD (qC c a.addr).toNat 0) 0}:=by
      unfold qf;rw[he];dsimp only;rw[if_pos q0]
     have C:fl a= []:=by unfold fl;rw[he];dsimp only;rw[if_pos (.inl q0)]
     split at d
     ·exact P {a with code:=9} d rfl rfl rfl rfl rfl (.inl rfl)
     ·exact key _ C d rfl rfl rfl rfl rfl rfl rfl rfl rfl rfl rfl ⟨_,_,_,rfl⟩
    ·by_cases q1:q=1
     ·have C:fl a= []:=by unfold fl;rw[he];dsimp only;rw[if_pos (.inr q1)]
      exact key {a with ph:= .rd 2 bf (m.d.getD a.addr.toNat 0)} C (by unfold qf;rw[he];dsimp only;rw[if_neg q0,if_pos q1]) rfl rfl rfl rfl rfl rfl rfl rfl rfl rfl rfl ⟨_,_,_,rfl⟩
     ·have aG:fl a= [(a.addr,v)]:=by unfold fl;rw[he];dsimp only;rw[if_neg Yb]
      obtain⟨hr,aC,aE,av,aq⟩:=hE;have ay:q60 c.reads a.set (qC c a.addr)=some [qC c a.addr]:=by
       rw[aq];unfold q60;rw[if_neg Yd,if_neg (by simp;omega)];rfl
      have aK:a.saw c= [a.addr]:=by
       unfold AT.saw;rw[if_pos (by rw[S];exact Y),av];rfl
      have d:(qf c t m a).2.1=if m.o.getD (qC c a.addr).toNat 0≠bf then a.undo 9 else{a with seen:= [a.addr],set:= [qC c a.addr],val:=v,ph:= .idle}:=by
       unfold qf;rw[he];dsimp only;rw[if_neg q0,if_neg q1,ay,aK];unfold AT.got;dsimp only;rw[if_pos az]
      split at d
      ·exact P {a with code:=9} d rfl rfl rfl rfl rfl (.inl rfl)
      ·refine q00.sy o.sg d (O _ rfl) (fun _=>?_) (K _ rfl);rw[qaA rfl,aG,hr];refine⟨o.sg,o.dn,o.fn,o.tr,o.st,o.out,fun q hq=>?_,o.bl,i,hi,af,Y, .inr (.inl ⟨.inl ⟨aw,by rw[S];rfl,aC,aE,by rw[S]⟩,ae, .inl ⟨J, .inl rfl⟩⟩)⟩;rw[zj,zf] at hq;rw[hq];exact⟨X.2.2.1,X.2.2.2.1,zf.2 rfl⟩
   ·rw[he] at e;cases e
  ·rcases R with ⟨_,e|e⟩|⟨_,e⟩ <;>rw[he] at e <;>cases e
  ·rw[he] at h;cases h
 |pp q k hh nx=>
  exfalso
  rcases h with ⟨_,_,h⟩|⟨_,_,R⟩|⟨h,_⟩
  ·rcases h with ⟨_,⟨k,e⟩|e⟩|⟨_,_,⟨_,_,_,e⟩,_⟩|⟨_,_,e⟩ <;>rw[he] at e <;>cases e
  ·rcases R with ⟨_,e|e⟩|⟨_,e⟩ <;>rw[he] at e <;>cases e
  ·rw[he] at h;cases h
 |lk s ld=>
  have C:fl a= []:=q1O fun _ _ _ e=>by rw[he] at e;cases e
  have N:=q34 (c:=c) (t:=t) (m:=m) he;have E:=F _ he rfl;cases ld with
  |false=>
   rw[if_pos rfl] at N;have d:=congrArg (fun z=>z.2.1) N;exact G _ E C d ⟨rfl,rfl,rfl,rfl,rfl,rfl,rfl⟩ rfl rfl rfl rfl
  |true=>
   rw[if_neg Yc] at N
   by_cases hw:m.o.getD (a.oc.getD a.old.length 0).toNat 0=s
   ·rw[if_pos hw] at N;have d:=congrArg (fun z=>z.2.1) N;refine G _ E C d ⟨rfl,rfl,rfl,rfl,rfl,rfl,rfl⟩ rfl rfl rfl ?_;dsimp only
    split <;>rfl
   ·rw[if_neg hw] at N;have d:=congrArg (fun z=>z.2.1) N;exact G _ E C d ⟨rfl,rfl,rfl,rfl,rfl,rfl,rfl⟩ rfl rfl rfl rfl
 |tn b=>
  have C:fl a= []:=q1O fun _ _ _ e=>by rw[he] at e;cases e
  have E:=F _ he rfl;cases b with
  |false=>
   have d:=congrArg (fun z=>z.2.1) (q3h (c:=c) (t:=t) (m:=m) he);exact G _ E C d ⟨rfl,rfl,rfl,rfl,rfl,rfl,rfl⟩ rfl rfl rfl rfl
  |true=>
   have d:=congrArg (fun z=>z.2.1) (q3i (c:=c) (t:=t) (m:=m) he);dsimp only at d
   split at d
   ·split at d
    ·exact G _ E C d ⟨rfl,rfl,rfl,rfl,rfl,rfl,rfl⟩ rfl rfl rfl rfl
    ·exact G _ E C d ⟨rfl,rfl,rfl,rfl,rfl,rfl,rfl⟩ rfl rfl rfl rfl
   ·exact G _ E C d ⟨rfl,rfl,rfl,rfl,rfl,rfl,rfl⟩ rfl rfl rfl E
 |ck l=>
  have C:fl a= []:=q1O fun _ _ _ e=>by rw[he] at e;cases e
  have E:=F _ he rfl;have d:=congrArg (fun z=>z.2.1) (q6t (c:=c) (t:=t) (m:=m) he);dsimp only at d
  split at d
  ·exact M {a with code:=9} d rfl rfl rfl rfl (.inl ⟨rfl, .inl rfl⟩)
  ·split at d
   ·exact G _ E C d ⟨rfl,rfl,rfl,rfl,rfl,rfl,rfl⟩ rfl rfl rfl rfl
   ·exact G _ E C d ⟨rfl,rfl,rfl,rfl,rfl,rfl,rfl⟩ rfl rfl rfl rfl
 |dc=>
  have E:=F _ he rfl;obtain⟨g1,g2,g3⟩:=o.late hi E;have d:=congrArg (fun z=>z.2.1) (q33 (c:=c) (t:=t) (m:=m) he);dsimp only at d
  split at d
  ·rename_i hs;have hs:(a.code=1/\a.ad≠ [])/\c.clock<=m.ck:=by simpa [AT.sto] using hs
   refine M {a with ck:=m.ck,code:=6} d rfl rfl rfl rfl (.inl ⟨rfl, .inr ⟨rfl,?_⟩⟩)
   rcases g1 with ⟨_,_,e,_⟩|⟨au,_⟩
   ·exact absurd e hs.1.2
   ·exact au
  ·split at d
   ·exact q00.sy o.sg d (O _ rfl) (fun h=>by cases h) (fun _=>he)
   ·exact M {a with ck:=m.ck,dn:=true} d rfl rfl rfl rfl (.inr ⟨rfl,he⟩)
 |wr A V=>
  have:=hA.ph;unfold PhA at this;rw[he] at this;rw[this.1] at D;cases D
 |rl l w=>
  have B:a.ph.back=true:=by rw[he];rfl
  have d:(qf c t m a).2.1=if l.tail= [] then{a with ph:=if a.dn/\a.sto then .sp else .ps} else{a with ph:= .rl l.tail w.tail}:=by unfold qf;rw[he]
  have e:(if a.dn=true/\a.sto=true then AP.sp else AP.ps)=AP.ps:=if_neg (fun h=>by rw[D] at h;cases h.1);rw[e] at d
  split at d
  ·exact I _ B d rfl rfl rfl rfl rfl rfl rfl
  ·exact I _ B d rfl rfl rfl rfl rfl rfl rfl
 |sp=>
  have:=hA.ph;unfold PhA at this;rw[he] at this;rw[this.1] at D;cases D
 |ps=>
  have B:a.ph.back=true:=by rw[he];rfl
  have d:(qf c t m a).2.1=a.fin:=by unfold qf;rw[he]
  rcases h with ⟨_,_,h⟩|⟨_,_,R⟩|⟨_,h⟩
  ·exfalso
   rcases h with ⟨_,⟨k,e⟩|e⟩|⟨_,_,⟨_,_,_,e⟩,_⟩|⟨_,_,e⟩ <;>rw[he] at e <;>cases e
  ·exfalso
   rcases R with ⟨_,e|e⟩|⟨_,e⟩ <;>rw[he] at e <;>cases e
  ·exact P a d rfl rfl rfl rfl rfl h
 |ph q b hh=>
  have B:a.ph.back=true:=by rw[he];rfl
  cases e:(q0p c m q b hh).2.1 with
  |none=>
   have d:(qf c t m a).2.1=AT.fin {a with pu:=a.pu+1}:=by unfold qf;rw[he];dsimp only;revert e;generalize q0p c m q b hh=z;obtain⟨m',z,ac,p⟩:=z;rintro rfl;rfl
   rcases h with ⟨_,_,h⟩|⟨_,_,R⟩|⟨_,h⟩
   ·exfalso
    rcases h with ⟨_,⟨k,e⟩|e⟩|⟨_,_,⟨_,_,_,e⟩,_⟩|⟨_,_,e⟩ <;>rw[he] at e <;>cases e
   ·exfalso
    rcases R with ⟨_,e|e⟩|⟨_,e⟩ <;>rw[he] at e <;>cases e
   ·exact P {a with pu:=a.pu+1} d rfl rfl rfl rfl rfl h
  |some z=>
   have d:(qf c t m a).2.1={a with ph:= .ph z.1 b z.2}:=by unfold qf;rw[he];dsimp only;revert e;generalize q0p c m q b hh=z;obtain⟨m',z,ac,p⟩:=z;rintro rfl;rfl
   exact I _ B d rfl rfl rfl rfl rfl rfl rfl
 |lv=>exact absurd he aI
theorem TS.start(hi:p[x.th.pc]? =some i)(o:i.op=12\/i.op=13)(hw:q1D x i<c.words)(e:x.th.dn=false)(j:x.fn=none)(s:x.tr=0)(d:stB p x.th.pc<0):TS c p {x with seen:= [],ct:=x.ct+1,stg:=true,ask:=0} {AT.new with st:=1,ph:= .ent 0} []:=
 ⟨rfl,e,j,s,rfl,d,fun q v=>(by cases v),⟨rfl,rfl⟩,i,hi,o,hw, .inl ⟨⟨rfl,rfl,rfl,rfl,rfl⟩,rfl, .inl ⟨rfl, .inl ⟨0,rfl⟩⟩⟩⟩
theorem TS.ask(z:TS c p x a r)(P:AI c t m a)(s:a.ph= .idle)(hi:p[x.th.pc]? =some i):TS c p {x with ask:=x.ask+1} (q1i c x a i) r/\AI c t m (q1i c x a i)/\(q1i c x a i).busy=true/\(q1i c x a i).dn=a.dn/\(q1i c x a i).rv=a.rv/\fl (q1i c x a i)= []/\(q1i c x a i).ph.tick=false/\(q1i c x a i).ph≠ .lv/\(∀A V,(q1i c x a i).ph≠ .wr A V)/\q2i a (q1i c x a i)/\(q1i c x a i).pu=a.pu/\(q1i c x a i).code=a.code/\(∀n k h v,(q1i c x a i).ph≠ .pp n k h v)/\∀n b h,(q1i c x a i).ph≠ .ph n b h:=by
 obtain⟨j,Y,S,U,h⟩:=z.ph;rw[hi] at Y;cases Y;have hbb:=qP c;have X:a.fresh:=by have:=P.ph;unfold PhA at this;rw[s] at this;exact this
 have K:0<=q1D x i:=q4P _ _ _;have key:∀(y:AT),q2i a y->y.oc=a.oc->y.old=a.old->y.rv=a.rv->y.dn=a.dn->y.code=a.code->y.pu=a.pu->(∃q,y.ph= .loc q/\(∀w v,q= .wr w v->0<=w)/\∀b v,q= .fd b v->0<=b/\b<qh c)\/(y.ph= .rd 0 0 0/\0<=y.addr/\y.addr<c.words+qh c/\(0<=y.us->y.us<qh c))->TS c p {x with ask:=x.ask+1} y r->
   TS c p {x with ask:=x.ask+1} y r/\AI c t m y/\y.busy=true/\y.dn=a.dn/\y.rv=a.rv/\fl y= []/\y.ph.tick=false/\y.ph≠ .lv/\(∀A V,y.ph≠ .wr A V)/\q2i a y/\y.pu=a.pu/\y.code=a.code/\(∀n k h v,y.ph≠ .pp n k h v)/\∀n b h,y.ph≠ .ph n b h:=by
  intro y d N h2 M O F G T H;have I:y.fresh:=by unfold AT.fresh at X ⊢;rw[O,N,h2];exact X
  rcases T with ⟨q,e,hw⟩|⟨e,Z⟩
  ·exact⟨H,P.idle s N d.ad d.vl d.st M (by unfold PhA;rw[e];exact⟨I,hw⟩) (by rw[e];rfl) (by rw[e];rfl) (by unfold AT.held;rw[e]),by unfold AT.busy;rw[e],O,M,by unfold fl;rw[e],by rw[e];rfl,fun h=>(by rw[e] at h;cases h),fun A V h=>(by rw[e] at h;cases h),d,G,F,fun _ _ _ _ h=>(by rw[e] at h;cases h),fun _ _ _ h=>by rw[e] at h;cases h⟩
  ·exact⟨H,P.idle s N d.ad d.vl d.st M (by unfold PhA;rw[e];exact⟨I,Yb,Z⟩) (by rw[e];rfl) (by rw[e];rfl) (by unfold AT.held;rw[e]),by unfold AT.busy;rw[e],O,M,by unfold fl;rw[e];exact if_pos (.inl rfl),by rw[e];rfl,fun h=>(by rw[e] at h;cases h),fun A V h=>(by rw[e] at h;cases h),d,G,F,fun _ _ _ _ h=>(by rw[e] at h;cases h),fun _ _ _ h=>by rw[e] at h;cases h⟩
 have C:∀y:AT,q2i a y->y.val=a.val->y.code=a.code->((qkN a r/\a.code=0/\((i.op=12/\(∃n b v,y.ph= .rd n b v)/\y.addr=q1D x i/\y.us<0)\/(i.op=13/\y.ph= .loc (.wr (q1D x i) (x.th.rg.get i.b.toNat)))))\/(qim x a r i/\a.code=0/\y.ph= .loc (.en 1)))->TS c p {x with ask:=x.ask+1} y r:=fun y d hv W J=>by
  refine⟨z.sg,z.dn,z.fn,z.tr,d.ss.trans z.st,z.out,by rw[d.st];exact z.rr,by rw[d.al,d.fr];exact z.bl,i,hi,S,U,?_⟩
  rcases J with ⟨D,o,J⟩|⟨E,o,J⟩
  ·refine .inl ⟨?_,W.trans o, .inr (J.imp (fun h=>⟨yF (zl _),h⟩) fun h=>⟨yF (zl _),h⟩)⟩;unfold qkN at D ⊢;rw[d.ad,d.vl,d.sn,d.st];exact D
  ·refine .inr (.inl ⟨?_,yF (zl _), .inl ⟨W.trans o, .inr J⟩⟩);have E:qim {x with ask:=x.ask+1} a r i:=E;unfold qim at E ⊢;rw[d.ad,d.vl,d.sn,hv];exact E
 unfold q1i
 rcases h with ⟨D,o,h⟩|⟨E,ha,h3⟩|⟨h,_⟩
 ·rcases h with ⟨h0,_⟩|⟨_,_,⟨_,_,_,e⟩,_⟩|⟨_,_,e⟩
  ·rw[if_neg Yb];obtain⟨Z,R,hvl,hsn,hset⟩:=id D
   by_cases B:i.op=12
   ·rw[if_pos B];unfold AT.read;rw[if_neg Yb];have hg:q14 a.ad a.vl (q1D x i)=none:=by rw[R];exact q2G
    rw[hg];exact key _ ⟨rfl,rfl,rfl,rfl,rfl,rfl,rfl⟩ rfl rfl rfl rfl rfl rfl (.inr ⟨rfl,K,(by dsimp only;omega),fun h=>absurd h (by show ¬(0:Int)<= -1;decide)⟩) (C _ ⟨rfl,rfl,rfl,rfl,rfl,rfl,rfl⟩ rfl rfl (.inl ⟨D,o, .inl ⟨B,⟨_,_,_,rfl⟩,rfl,(by show(-1:Int)<0;decide)⟩⟩))
   ·rw[if_neg B];exact key _ ⟨rfl,rfl,rfl,rfl,rfl,rfl,rfl⟩ rfl rfl rfl rfl rfl rfl (.inl ⟨_,rfl,(fun w v e=>by cases e;exact K),fun _ _ e=>by cases e⟩) (C _ ⟨rfl,rfl,rfl,rfl,rfl,rfl,rfl⟩ rfl rfl (.inl ⟨D,o, .inr ⟨Yb,rfl⟩⟩))
  ·rw[s] at e;cases e
  ·rw[s] at e;cases e
 ·rcases h3 with ⟨o,_⟩|⟨_,e⟩
  ·rw[if_pos ha];exact key _ ⟨rfl,rfl,rfl,rfl,rfl,rfl,rfl⟩ rfl rfl rfl rfl rfl rfl (.inl ⟨_,rfl,(fun _ _ e=>by cases e),fun _ _ e=>by cases e⟩) (C _ ⟨rfl,rfl,rfl,rfl,rfl,rfl,rfl⟩ rfl rfl (.inr ⟨E,o,rfl⟩))
  ·rw[s] at e;cases e
 ·rw[s] at h;cases h
end
open Go
def q6v(h:Int):Int:=h/65536
def chn(nx:jd):Int->jd->Prop
 |b,[]=>b= -1
 |b,q::l=>b=q/\0<=b/\chn nx (nx.getD b.toNat 0-1) l
def q4D(a:AT):jd:=if a.dn=true/\a.code=1 then a.fr else a.al.drop a.pu
def q5V(f:Option FT):jd:=match f with
 |some ⟨_,_,_,some (l,_,_)⟩=>l
 |_=> []
def q0L(x:GT):jd:=(match x.at' with
 |some a=>q4D a
 |none=> [])++(q5V x.fn++x.lm.map (·.1))
def q5Y(m:MS)(n:Nat)(b h:Int):Prop:=n<=2/\(1<=n-> -1<=q02 h/\q02 h<64)/\(n=2->m.nx.getD b.toNat 0=q02 h+1)
def qhs(c:Cfg)(m:MS)(n:Nat)(k h v:Int):Prop:=(0<=k/\k<4)/\(1<=n->0<=q02 h/\q02 h<qh c/\q6v h<=q6v (m.hd.getD k.toNat 0))/\(n=2->(0<=v/\v<=64)/\(m.hd.getD k.toNat 0=h->m.nx.getD (q02 h).toNat 0=v))
def qbY(c:Cfg)(m:MS)(a:AT):Prop:=match a.ph with
 | .pp n k h v=>qhs c m n k h v
 | .ph n b h=>a.al[a.pu]? =some b/\q5Y m n b h/\a.code≠1
 | .lv=>a.code=1\/a.pu=a.al.length
 |_=>True
def AP.puh:AP->Bool
 | .ph _ _ _=>true
 | .lv=>true
 |_=>false
structure PuA(c:Cfg)(m:MS)(a:AT):Prop where
 po:qbY c m a
 le:a.pu<=a.al.length
 z:a.ph.puh=false->a.pu=0
def q7j(m:MS)(f:Option FT):Prop:=match f with
 |some ⟨ld,_,_,some (l,n,h)⟩=>ld=true/\l≠ []/\q5Y m n (l.headD 0) h
 |_=>True
structure qkX(c:Cfg)(m:MS)(xs:List GT)(tk:List Bool)(L:Nat->jd)(ow:Int->Option Nat):Prop where
 ch:∀j,j<4->chn m.nx (q02 (m.hd.getD j 0)) (L j)
 nd:∀j,j<4->(L j).Nodup/\∀b∈L j,ow b=some j/\ql c b=j
 ox:∀(t:Nat) x,xs[t]? =some x->(q0L x).Nodup/\∀b∈q0L x,ow b=some (4+t)
 fr:∀b j,ow b=some j->(0<=b/\b<qh c)/\tk.getD b.toNat false=false
structure q0o(c:Cfg)(k:Nat)(m:MS)(xs:List GT)(tk:List Bool):Prop where
 ex:∃L ow,qkX c m xs tk L ow
 pa:∀(t:Nat) x a,xs[t]? =some x->x.at'=some a->PuA c m a
 pf:∀(t:Nat) x,xs[t]? =some x->q7j m x.fn
 hl:m.hd.length=4
 nl:(m.nx.length:Int)=qh c
 nr:∀j,0<=m.nx.getD j 0/\m.nx.getD j 0<=64
 ht:∀j,0<=m.hd.getD j 0/\q6v (m.hd.getD j 0)<=k
section
variable{c:Cfg}{k n:Nat}{m m':MS}{xs:List GT}{tk tk':List Bool}{t u:Nat}{x x':GT}{a b:AT}{h:Int}
theorem qiC{h b:Int}(h0:0<=h/\q6v h<=1000000)(hb: -1<=b/\b<64):q02 (q05 h b)=b/\q6v (q05 h b)=q6v h+1/\0<=q05 h b:=by
 unfold q02 q6v q05 at*;rw[if_neg Yb];omega
theorem qcx{nx:jd}{i:Nat}{v:Int}:∀{L:jd} {b:Int},chn nx b L->(∀q∈L,q.toNat≠i)->chn (nx.set i v) b L
 | [],_,h,_=>h
 |y::L,b,h,d=>by
  obtain⟨rfl,j,o⟩:=h;refine⟨rfl,j,?_⟩;rw[q3c (fun e=>d b zp e.symm)];exact qcx o fun q s=>d q (zr _ s)
theorem qkK{h:Int}(_:0<=h): -1<=q02 h:=by unfold q02;omega
theorem qkX.head{L:Nat->jd}{w:Int->Option Nat}(h:qkX c m xs tk L w){j:Nat}(v:j<4)(h0:0<=q02 (m.hd.getD j 0)):∃l,L j=q02 (m.hd.getD j 0)::l/\chn m.nx (m.nx.getD (q02 (m.hd.getD j 0)).toNat 0-1) l:=by
 have d:=h.ch j v;cases e:L j with
 |nil=>rw[e] at d;have:q02 (m.hd.getD j 0)= -1:=d;omega
 |cons q l=>
  rw[e] at d;obtain⟨o,_,s⟩:=d;exact⟨l,by rw[<-o],s⟩
theorem q0o.topB(h:q0o c k m xs tk){j:Nat}(o:j<4): -1<=q02 (m.hd.getD j 0)/\q02 (m.hd.getD j 0)<qh c:=by
 obtain⟨L,ow,d⟩:=h.ex;have s:=qkK (h.ht j).1;have hb:=qP c;refine⟨s,?_⟩
 by_cases q:0<=q02 (m.hd.getD j 0)
 ·obtain⟨l,e,_⟩:=d.head o q;exact(d.fr _ _ ((d.nd j o).2 _ (by rw[e];exact zp)).1).1.2
 ·omega
theorem q0o.pop0(h:q0o c k m xs tk)(z:xs[t]? =some x)(v:x.at'=some a)(hd:a.dn=false):(PpB c m a)/\∀k h nx,a.ph= .pp 2 k h nx->m.hd.getD k.toNat 0=h->0<=q02 h/\q02 h∉a.al:=by
 obtain⟨L,ow,q⟩:=h.ex;have w:=h.pa t x a z v;have key:∀k h nx,a.ph= .pp 2 k h nx->m.hd.getD k.toNat 0=h->0<=q02 h/\q02 h∉a.al/\q02 h<qh c/\ql c (q02 h)=k:=fun k h nx e hw=>by
  have o:=w.po;unfold qbY qhs at o;rw[e] at o;obtain⟨⟨k0,k4⟩,d,h3⟩:=o;obtain⟨d,B,_⟩:=d Yc;have s:=q.head (j:=k.toNat) Yb (by rw[hw];exact d);rw[hw] at s;obtain⟨l,A,_⟩:=s;obtain⟨C,h7⟩:=(q.nd k.toNat Yb).2 (q02 h) (by rw[A];exact zp);refine⟨d,fun hm=>?_,B,Yb⟩;have D:=w.z (by rw[e];rfl);have:=(q.ox t x z).2 (q02 h) (by
   unfold q0L q4D;rw[v];dsimp only;rw[if_neg (by rw[hd];simp),D];exact zq _ hm)
  rw[C] at this;simp only[Option.some.injEq] at this;omega
 exact⟨fun k h nx e hw h0=>(key k h nx e hw).2.2,fun k h nx e hw=>⟨(key k h nx e hw).1,(key k h nx e hw).2.1⟩⟩
theorem q5Y.keep{q:Nat}{b h:Int}(d:q5Y m q b h)(j:m'.nx.getD b.toNat 0=m.nx.getD b.toNat 0):q5Y m' q b h:=⟨d.1,d.2.1,fun e=>j.trans (d.2.2 e)⟩
structure qbX(c:Cfg)(t:Nat)(m m':MS)(xs:List GT):Prop where
 tg:∀j,q6v (m.hd.getD j 0)<=q6v (m'.hd.getD j 0)
 hd:∀j:Int,0<=j/\j<4->m'.hd.getD j.toNat 0=m.hd.getD j.toNat 0\/q6v (m.hd.getD j.toNat 0)<q6v (m'.hd.getD j.toNat 0)
 tn:∀j:Int,0<=j/\j<4->0<=q02 (m.hd.getD j.toNat 0)->m'.nx.getD (q02 (m.hd.getD j.toNat 0)).toNat 0=m.nx.getD (q02 (m.hd.getD j.toNat 0)).toNat 0
 on:∀(u:Nat) y,u≠t->xs[u]? =some y->∀b∈q0L y,m'.nx.getD b.toNat 0=m.nx.getD b.toNat 0
theorem qbX.same(d:m'.hd=m.hd)(e:m'.nx=m.nx):qbX c t m m' xs:=⟨fun j=>by rw[d];exact zK _,fun j _=> .inl (by rw[d]),fun j _ _=>by rw[e],fun u y _ _ b _=>by rw[e]⟩
theorem qbX.pop(h:qbX c t m m' xs){q:Nat}{j w v:Int}(d:qhs c m q j w v):qhs c m' q j w v:=by
 have z:=d.1;refine⟨z,fun e=>⟨(d.2.1 e).1,(d.2.1 e).2.1,Int.le_trans (d.2.1 e).2.2 (h.tg _)⟩,fun e=>⟨(d.2.2 e).1,fun A=>?_⟩⟩;have B:=d.2.1 Yb
 rcases h.hd j z with o|o
 ·have s:m.hd.getD j.toNat 0=w:=o.symm.trans A;have C:=h.tn j z (by rw[s];exact B.1);rw[s] at C;exact C.trans ((d.2.2 e).2 s)
 ·rw[A] at o;have:=B.2.2;omega
theorem qi3{q:Int}(j:x.at'=some a)(hd:¬(a.dn=true/\a.code=1))(o:a.al[a.pu]? =some q):q∈q0L x:=by
 unfold q0L q4D;rw[j];dsimp only;rw[if_neg hd];obtain⟨d,e⟩:=z7.1 o;rw[Zd d,e];exact zp
theorem qbX.pu(h:qbX c t m m' xs)(hu:u≠t)(q:xs[u]? =some x)(o:x.at'=some a)(j:PuA c m a):PuA c m' a:=by
 refine⟨?_,j.le,j.z⟩;have d:=j.po;unfold qbY at d ⊢;cases e:a.ph <;>rw[e] at d <;>dsimp only at d ⊢
 case pp=>exact h.pop d
 case ph=>exact⟨d.1,d.2.1.keep (h.on u x hu q _ (qi3 o (fun h=>d.2.2 h.2) d.1)),d.2.2⟩
 case lv=>exact d
theorem qbX.dr(h:qbX c t m m' xs)(hu:u≠t)(o:xs[u]? =some x)(d:q7j m x.fn):q7j m' x.fn:=by
 have j:=h.on u x hu o;unfold q7j at d ⊢;cases e:x.fn with
 |none=>trivial
 |some f=>
  obtain⟨ld,lim,nx,dr⟩:=f;rw[e] at d;cases dr with
  |none=>trivial
  |some z=>
   obtain⟨l,q,h0⟩:=z;refine⟨d.1,d.2.1,d.2.2.keep (j _ ?_)⟩;unfold q0L q5V;rw[e];exact zz _ (zq _ (q54 d.2.1))
theorem q0o.put{D:Nat}{L L':Nat->jd}{E ow':Int->Option Nat}(h:q0o c k m xs tk)(J:qkX c m xs tk L E)(B:xs[t]? =some x)(C:qbX c t m m' xs)(o:∀j,j<4->chn m'.nx (q02 (m'.hd.getD j 0)) (L' j))(s:∀j,j<4->(L' j).Nodup/\∀b∈L' j,ow' b=some j/\ql c b=j)
  (w:(q0L x').Nodup/\∀b∈q0L x',ow' b=some (4+t)) (v:∀b u,u≠t->E b=some (4+u)->ow' b=some (4+u)) (q:∀b j,ow' b=some j->(0<=b/\b<qh c)/\tk'.getD b.toNat false=false)
  (z:∀a,x'.at'=some a->PuA c m' a) (A:q7j m' x'.fn) (F:m'.hd.length=4) (G:(m'.nx.length:Int)=qh c) (H:∀j,0<=m'.nx.getD j 0/\m'.nx.getD j 0<=64) (I:∀j,0<=m'.hd.getD j 0/\q6v (m'.hd.getD j 0)<=(D:Int)):q0o c D m' (xs.set t x') tk':=by
 refine⟨⟨L',ow',⟨o,s,fun u y d=>?_,q⟩⟩,fun u y b d hb=>?_,fun u y d=>?_,F,G,H,I⟩
 ·by_cases e:u=t
  ·subst e;rw[zx,if_pos rfl,if_pos (z7.1 B).1] at d;cases d;exact w
  ·rw[zx,if_neg (fun e'=>e e'.symm)] at d;obtain⟨g1,g2⟩:=J.ox u y d;exact⟨g1,fun b hb=>v b u e (g2 b hb)⟩
 ·by_cases e:u=t
  ·subst e;rw[zx,if_pos rfl,if_pos (z7.1 B).1] at d;cases d;exact z b hb
  ·rw[zx,if_neg (fun e'=>e e'.symm)] at d;exact C.pu e d hb (h.pa u y b d hb)
 ·by_cases e:u=t
  ·subst e;rw[zx,if_pos rfl,if_pos (z7.1 B).1] at d;cases d;exact A
  ·rw[zx,if_neg (fun e'=>e e'.symm)] at d;exact C.dr e d (h.pf u y d)
theorem q0o.ht'(h:q0o c k m xs tk){d:Nat}(hk:k<=d)(j:Nat):0<=m.hd.getD j 0/\q6v (m.hd.getD j 0)<=(d:Int):=⟨(h.ht j).1,by have:=(h.ht j).2;omega⟩
theorem q0o.same{A:Nat}(C:k<=A)(h:q0o c k m xs tk)(z:xs[t]? =some x)(o:m'.hd=m.hd)(q:m'.nx=m.nx)(w:(q0L x').Nodup/\∀b∈q0L x',b∈q0L x)(s:∀a,x'.at'=some a->PuA c m' a)(v:q7j m' x'.fn):q0o c A m' (xs.set t x') tk:=by
 obtain⟨L,ow,d⟩:=h.ex;refine h.put d z (qbX.same o q) (fun j B=>by rw[o,q];exact d.ch j B) d.nd ⟨w.1,fun b hb=>(d.ox t x z).2 b (w.2 b hb)⟩ (fun b u _ e=>e) d.fr s v (by rw[o];exact h.hl) (by rw[q];exact h.nl) (by rw[q];exact h.nr) (by rw[o];exact h.ht' C)
end
open Go
section
variable{c:Cfg}{k n:Nat}{m m':MS}{xs:List GT}{tk tk':List Bool}{t u:Nat}{x x':GT}{a b:AT}{h:Int}
theorem qme{nx:jd}{i:Nat}{v:Int}(h:∀j,0<=nx.getD j 0/\nx.getD j 0<=64)(o:0<=v/\v<=64)(j:Nat):0<=(nx.set i v).getD j 0/\(nx.set i v).getD j 0<=64:=by
 by_cases e:i=j
 ·subst e
  by_cases d:i<nx.length
  ·rw[q51 d];exact o
  ·rw[List.set_eq_of_length_le Yb];exact h i
 ·rw[q3c e];exact h j
theorem q0o.head(h:q0o c k m xs tk)(hk:k<=100000){j:Int}(hj:0<=j/\j<4){q:Int}(s: -1<=q/\q<64):
  qbX c t m {m with hd:=m.hd.set j.toNat (q05 (m.hd.getD j.toNat 0) q)} xs/\(m.hd.set j.toNat (q05 (m.hd.getD j.toNat 0) q)).length=4/\(∀i,0<=(m.hd.set j.toNat (q05 (m.hd.getD j.toNat 0) q)).getD i 0/\q6v ((m.hd.set j.toNat (q05 (m.hd.getD j.toNat 0) q)).getD i 0)<=((k+1:Nat):Int))/\
   q02 ((m.hd.set j.toNat (q05 (m.hd.getD j.toNat 0) q)).getD j.toNat 0)=q:=by
 have hlen:=h.hl;have o:j.toNat<m.hd.length:=Yb;have hb:=qiC (h:=m.hd.getD j.toNat 0) (b:=q) ⟨(h.ht _).1,by have:=(h.ht j.toNat).2;omega⟩ s;have he:(m.hd.set j.toNat (q05 (m.hd.getD j.toNat 0) q)).getD j.toNat 0=q05 (m.hd.getD j.toNat 0) q:=q51 o;have d:∀i,i≠j.toNat->(m.hd.set j.toNat (q05 (m.hd.getD j.toNat 0) q)).getD i 0=m.hd.getD i 0:=fun i e=>q3c fun e'=>e e'.symm
 refine⟨⟨fun i=>?_,fun i hi=>?_,fun i hi h0=>rfl,fun u y _ _ b _=>rfl⟩,by rw[zm];exact hlen,fun i=>?_,by rw[he];exact hb.1⟩
 ·dsimp only
  by_cases e:i=j.toNat
  ·subst e;rw[he,hb.2.1];omega
  ·rw[d i e];exact zK _
 ·dsimp only
  by_cases e:i.toNat=j.toNat
  ·rw[e,he,hb.2.1];exact .inr Yb
  ·exact .inl (d _ e)
 ·by_cases e:i=j.toNat
  ·subst e;rw[he,hb.2.1];exact⟨hb.2.2,by have:=(h.ht j.toNat).2;omega⟩
  ·rw[d i e];exact h.ht' (zU k) i
theorem q0o.take(h:q0o c k m xs tk)(M:k<=100000)(G:xs[t]? =some x){j s v:Int}(O:qhs c m 2 j s v)(hw:m.hd.getD j.toNat 0=s)(N:q02 s∉q0L x->(q0L x').Nodup/\∀b∈q0L x',b=q02 s\/b∈q0L x)
  (B:∀a,x'.at'=some a->PuA c {m with hd:=m.hd.set j.toNat (q05 s (v-1))} a) (C:q7j {m with hd:=m.hd.set j.toNat (q05 s (v-1))} x'.fn):q0o c (k+1) {m with hd:=m.hd.set j.toNat (q05 s (v-1))} (xs.set t x') tk:=by
 obtain⟨L,H,o⟩:=h.ex;obtain⟨K,z,J⟩:=O;obtain⟨z,h4,_⟩:=z Yc;obtain⟨h5,A⟩:=J rfl;subst hw;have A:=A rfl;obtain⟨l,w,F⟩:=o.head (j:=j.toNat) Yb z;rw[A] at F;obtain⟨g1,g2,g3,g4⟩:=h.head (t:=t) M K (q:=v-1) Yb;obtain⟨E,n2⟩:=o.nd j.toNat Yb;rw[w,ZA] at E;have d:H (q02 (m.hd.getD j.toNat 0))=some j.toNat:=(n2 _ (by rw[w];exact zp)).1;obtain⟨x1,I⟩:=o.ox t x G;obtain⟨T,U⟩:=N fun hm=>by
  have:=I _ hm;rw[d] at this;simp only[Option.some.injEq] at this;omega
 refine h.put (L':=fun i=>if i=j.toNat then l else L i) (ow':=fun b=>if b=q02 (m.hd.getD j.toNat 0) then some (4+t) else H b) o G g1 (fun i hi=>?_) (fun i hi=>?_) ⟨T,fun b hb=>?_⟩ (fun b u hu e=>?_) (fun b i e=>?_) B C g2 h.nl h.nr g3
 ·dsimp only
  by_cases e:i=j.toNat
  ·subst e;rw[if_pos rfl,g4];exact F
  ·rw[if_neg e,q3c (fun e'=>e e'.symm)];exact o.ch i hi
 ·by_cases e:i=j.toNat
  ·subst e;rw[if_pos rfl];refine⟨E.2,fun b hb=>?_⟩;rw[if_neg (fun e=>E.1 (by rw[<-e];exact hb))];exact n2 b (by rw[w];exact zr _ hb)
  ·rw[if_neg e];obtain⟨P,R⟩:=o.nd i hi;refine⟨P,fun b hb=>?_⟩;obtain⟨D,S⟩:=R b hb;rw[if_neg (fun e'=>e (by rw[e',d] at D;exact(Option.some.inj D).symm))];exact⟨D,S⟩
 ·rcases U b hb with rfl|hm
  ·rw[if_pos rfl]
  ·split
   ·rfl
   ·exact I b hm
 ·rw[if_neg (fun e'=>by rw[e',d] at e;simp only[Option.some.injEq] at e;omega)];exact e
 ·split at e
  ·rename_i e';rw[e'];exact o.fr _ _ d
  ·exact o.fr b i e
theorem q0o.link(h:q0o c k m xs tk)(C:xs[t]? =some x){b v:Int}(hb:b∈q0L x)(I:0<=v/\v<=64)(H:q0L x'=q0L x)(A:∀a,x'.at'=some a->PuA c {m with nx:=m.nx.set b.toNat v} a)(B:q7j {m with nx:=m.nx.set b.toNat v} x'.fn):q0o c (k+1) {m with nx:=m.nx.set b.toNat v} (xs.set t x') tk:=by
 obtain⟨L,D,d⟩:=h.ex;obtain⟨K,E⟩:=d.ox t x C;have w:=E b hb;have hbr:=(d.fr b _ w).1;have o:∀q i,D q=some i->i≠4+t->q.toNat≠b.toNat:=fun q i s hi e=>by
  have:=(d.fr q i s).1;have e:q=b:=Yb;rw[e,w] at s;exact hi (Option.some.inj s).symm
 refine h.put (L':=L) (ow':=D) d C ⟨fun j=>zK _,fun j _=> .inl rfl,fun j z G=>?_,fun u y hu J q s=>?_⟩ (fun j z=>qcx (d.ch j z) fun q s=>o q j ((d.nd j z).2 q s).1 Yb) d.nd (by rw[H];exact⟨K,E⟩) (fun _ _ _ e=>e) d.fr A B h.hl (by dsimp only;rw[zm];exact h.nl) (qme h.nr I) (h.ht' (zU k))
 ·obtain⟨l,F,_⟩:=d.head (j:=j.toNat) Yb G;exact q3c fun e=>o _ _ ((d.nd j.toNat Yb).2 _ (by rw[F];exact zp)).1 Yb e.symm
 ·exact q3c fun e=>o q _ ((d.ox u y J).2 q s) Yb e.symm
theorem q0o.push(h:q0o c k m xs tk)(J:k<=100000)(F:xs[t]? =some x){b A:Int}(K:q5Y m 2 b A)(hw:m.hd.getD (ql c b).toNat 0=A)(hb:b∈q0L x)(E:(q0L x').Nodup/\∀q∈q0L x',q∈q0L x/\q≠b)
  (C:∀a,x'.at'=some a->PuA c {m with hd:=m.hd.set (ql c b).toNat (q05 A b)} a) (D:q7j {m with hd:=m.hd.set (ql c b).toNat (q05 A b)} x'.fn):q0o c (k+1) {m with hd:=m.hd.set (ql c b).toNat (q05 A b)} (xs.set t x') tk:=by
 obtain⟨L,M,d⟩:=h.ex;obtain⟨x1,I⟩:=d.ox t x F;have o:=I b hb;have v:=(d.fr b _ o).1;have hcl:=q0J v.1 v.2;have hbb:=qP c;obtain⟨_,_,B⟩:=K;have B:=B rfl;subst hw;obtain⟨g1,g2,g3,g4⟩:=h.head (t:=t) J (j:=ql c b) Yb (q:=b) Yb;have w:∀i,i<4->b∉L i:=fun i hi hm=>by
  have:=((d.nd i hi).2 b hm).1;rw[o] at this;simp only[Option.some.injEq] at this;omega
 refine h.put (L':=fun i=>if i=(ql c b).toNat then b::L i else L i) (ow':=fun q=>if q=b then some (ql c b).toNat else M q) d F g1 (fun i hi=>?_) (fun i hi=>?_) ⟨E.1,fun q s=>?_⟩ (fun q u hu e=>?_) (fun q i e=>?_) C D g2 h.nl h.nr g3
 ·dsimp only
  by_cases e:i=(ql c b).toNat
  ·subst e;rw[if_pos rfl,g4];refine⟨rfl,v.1,?_⟩;rw[B,show q02 (m.hd.getD (ql c b).toNat 0)+1-1=q02 (m.hd.getD (ql c b).toNat 0) by omega];exact d.ch _ hi
  ·rw[if_neg e,q3c (fun e'=>e e'.symm)];exact d.ch i hi
 ·obtain⟨G,H⟩:=d.nd i hi
  by_cases e:i=(ql c b).toNat
  ·rw[if_pos e];refine⟨ZA.2 ⟨w i hi,G⟩,fun q s=>?_⟩
   rcases zX.1 s with rfl|s
   ·rw[if_pos rfl,e];exact⟨rfl,Yb⟩
   ·have z:q≠b:=fun e'=>w i hi (e' ▸ s)
    rw[if_neg z];exact H q s
  ·rw[if_neg e];refine⟨G,fun q s=>?_⟩;have z:q≠b:=fun e'=>w i hi (e' ▸ s)
   rw[if_neg z];exact H q s
 ·obtain⟨N,O⟩:=E.2 q s;rw[if_neg O];exact I q N
 ·rw[if_neg (fun e'=>by rw[e',o] at e;simp only[Option.some.injEq] at e;omega)];exact e
 ·split at e
  ·rename_i e';rw[e'];exact d.fr _ _ o
  ·exact d.fr q i e
theorem q0o.commit(h:q0o c k m xs tk)(G:xs[t]? =some x)(s:m'.hd=m.hd)(v:m'.nx=m.nx){al fr:jd}(w:∀b∈al,b∈q0L x)(F:(q0L x').Nodup/\∀b∈q0L x',b∈fr\/(b∈q0L x/\b∉al))
  (d:∀b∈fr,(0<=b/\b<qh c)/\tk'.getD b.toNat false=false/\(b∈al\/tk.getD b.toNat false=true)) (z:∀b,0<=b->b<qh c->tk.getD b.toNat false=false->b∉al->tk'.getD b.toNat false=false)
  (B:∀a,x'.at'=some a->PuA c m' a) (C:q7j m' x'.fn):q0o c (k+1) m' (xs.set t x') tk':=by
 obtain⟨L,I,o⟩:=h.ex;obtain⟨x1,J⟩:=o.ox t x G;have q:∀b i,I b=some i->i≠4+t->b∉fr/\b∉al:=fun b i hb hi=>by
  have D:b∉al:=fun hm=>by
   have:=J b (w b hm);rw[hb] at this;exact hi (Option.some.inj this)
  refine⟨fun hm=>?_,D⟩
  rcases (d b hm).2.2 with h|h
  ·exact D h
  ·rw[(o.fr b i hb).2] at h;cases h
 refine h.put (L':=L) (ow':=fun b=>if b∈fr then some (4+t) else if b∈al then none else I b) o G (qbX.same s v) (fun j A=>by rw[s,v];exact o.ch j A) (fun j A=>?_) ⟨F.1,fun b hb=>?_⟩ (fun b u hu e=>?_) (fun b i e=>?_) B C (by rw[s];exact h.hl) (by rw[v];exact h.nl) (by rw[v];exact h.nr) (by rw[s];exact h.ht' (zU k))
 ·obtain⟨K,M⟩:=o.nd j A;refine⟨K,fun b hb=>?_⟩;obtain⟨H,N⟩:=M b hb;obtain⟨f1,f2⟩:=q b j H Yb;rw[if_neg f1,if_neg f2];exact⟨H,N⟩
 ·rcases F.2 b hb with hm|⟨hm,E⟩
  ·rw[if_pos hm]
  ·split
   ·rfl
   ·exact J b hm
 ·obtain⟨f1,f2⟩:=q b _ e Yb;rw[if_neg f1,if_neg f2];exact e
 ·split at e
  ·rename_i hm;exact⟨(d b hm).1,(d b hm).2.1⟩
  ·split at e
   ·cases e
   ·rename_i E;obtain⟨r1,r2⟩:=o.fr b i e;exact⟨r1,z b r1.1 r1.2 r2 E⟩
end
open Go
section
variable{c:Cfg}{k n:Nat}{m m':MS}{xs:List GT}{tk tk':List Bool}{t u:Nat}{x x':GT}{a b y:AT}{h:Int}
theorem PuA.fin(hle:y.pu<=y.al.length):PuA c m y.fin:=by
 unfold AT.fin
 by_cases d:y.code=1\/y.pu=y.al.length
 ·rw[if_pos d];exact⟨d,hle,fun h=>by cases h⟩
 ·rw[if_neg d];have j:y.pu<y.al.length:=Yb;refine⟨⟨?_,⟨Yc,fun h=>absurd h Yc,fun h=>absurd h Yc⟩,fun e=>d (.inl e)⟩,hle,fun h=>by cases h⟩;dsimp only;rw[zg,z6 j];rfl
theorem PuA.off(hle:y.pu<=y.al.length)(q:y.ph.puh=false->y.pu=0)(d:∀n k h v,y.ph≠ .pp n k h v)(j:∀n b h,y.ph≠ .ph n b h)(o:y.ph≠ .lv):PuA c m y:=by
 refine⟨?_,hle,q⟩;unfold qbY;cases e:y.ph <;>first|trivial|exact absurd e (d _ _ _ _)|exact absurd e (j _ _ _)|exact absurd e o
structure q04(a y:AT):Prop where
 al:y.al=a.al
 pu:y.pu=a.pu
 own:q4D y=q4D a
theorem q04.un(d:y.al=a.al)(e:y.pu=a.pu)(j:a.dn=false)(o:y.dn=false):q04 a y:=by
 refine⟨d,e,?_⟩;unfold q4D;rw[j,o,if_neg Yd,if_neg Yd,d,e]
theorem q04.de(d:y.al=a.al)(e:y.pu=a.pu)(j:y.dn=a.dn)(o:y.code=a.code)(q:y.fr=a.fr):q04 a y:=by
 refine⟨d,e,?_⟩;unfold q4D;rw[d,e,j,o,q]
theorem q0U(d:x.at'=some a):q0L x=q4D a++(q5V x.fn++x.lm.map (·.1)):=by unfold q0L;rw[d]
theorem q0o.keep{B:Nat}(H:k<=B)(h:q0o c k m xs tk)(q:xs[t]? =some x)(G:x.at'=some a)(D:m'.hd=m.hd)(v:m'.nx=m.nx)(d:x'.at'=some y)(j:x'.fn=x.fn)(s:x'.lm=x.lm)(E:q04 a y)(F:PuA c m' y):q0o c B m' (xs.set t x') tk:=by
 have o:∃L C,qkX c m xs tk L C:=h.ex
 obtain⟨L,C,o⟩:=o;have e:q0L x'=q0L x:=by rw[q0U G,q0U d,j,s,E.own]
 refine h.same H q D v (by rw[e];exact⟨(o.ox t x q).1,fun b h=>h⟩) (fun z A=>by rw[d] at A;cases A;exact F) ?_;have w:=h.pf t x q;rw[j];unfold q7j q5Y at w ⊢;rw[v];exact w
theorem q7j.up{f:Option FT}(hd:∀b∈q5V f,m'.nx.getD b.toNat 0=m.nx.getD b.toNat 0)(h:q7j m f):q7j m' f:=by
 unfold q7j at h ⊢
 match f with
 |none=>trivial
 |some ⟨_,_,_,none⟩=>trivial
 |some ⟨ld,_,_,some (l,q,h0)⟩=>exact⟨h.1,h.2.1,h.2.2.keep (hd _ (by unfold q5V;exact q54 h.2.1))⟩
theorem qmk{q:Int}(h:q∈q5V x.fn):q∈q0L x:=zz _ (zq _ h)
theorem q5d(hd:a.dn=false):q4D a=a.al.drop a.pu:=if_neg (by rw[hd];simp)
theorem AT.fin_al(y:AT):y.fin.al=y.al/\y.fin.pu=y.pu/\y.fin.fr=y.fr/\y.fin.dn=y.dn/\y.fin.code=y.code:=by unfold AT.fin;split <;>exact⟨rfl,rfl,rfl,rfl,rfl⟩
theorem q0o.step(hk:k<=100000)(h:q0o c k m xs tk)(hx:xs[t]? =some x)(ha:x.at'=some a)(hA:AI c t m a)(aF:a.ph≠ .lv)(M:x'.at'=some (qf c t m a).2.1)(R:x'.fn=x.fn)(af:x'.lm=x.lm)(Z:(qf c t m a).2.1.dn=a.dn):q0o c (k+1) (qf c t m a).1 (xs.set t x') tk:=by
 have hP:=h.pa t x a hx ha;have G:=hA.ph;have kk:=zU k
 --aC lists stay as they aE
 have same:∀(m':MS) (y:AT),(qf c t m a).1=m'->(qf c t m a).2.1=y->m'.hd=m.hd->m'.nx=m.nx->q04 a y->PuA c m' y->q0o c (k+1) (qf c t m a).1 (xs.set t x') tk:=fun m' y D C H N I T=>by
  rw[D];exact h.keep kk hx ha H N (by rw[M,C]) R af I T
 have off:∀(m':MS) (y:AT),(qf c t m a).1=m'->(qf c t m a).2.1=y->m'.hd=m.hd->m'.nx=m.nx->q04 a y->(y.ph.puh=false->a.ph.puh=false)->(∀n k h v,y.ph≠ .pp n k h v)->(∀n b h,y.ph≠ .ph n b h)->y.ph≠ .lv->q0o c (k+1) (qf c t m a).1 (xs.set t x') tk:=fun m' y D C H N I T W X h7=>
  same m' y D C H N I (PuA.off (by rw[I.al,I.pu];exact hP.le) (fun e=>by rw[I.pu];exact hP.z (T e)) W X h7)
 have K:∀{m':MS} {y:AT} {z:AcM×Int},qf c t m a=(m',y,z)->m'.hd=m.hd->m'.nx=m.nx->q04 a y->(y.ph.puh=false->a.ph.puh=false)->(∀n k h v,y.ph≠ .pp n k h v)->(∀n b h,y.ph≠ .ph n b h)->y.ph≠ .lv->q0o c (k+1) (qf c t m a).1 (xs.set t x') tk:=fun{m' y z} E H N I T W X h7=>off m' y (by rw[E]) (by rw[E]) H N I T W X h7
 have fin:∀(m':MS) (y:AT),(qf c t m a).1=m'->(qf c t m a).2.1=y.fin->m'.hd=m.hd->m'.nx=m.nx->q04 a y->q0o c (k+1) (qf c t m a).1 (xs.set t x') tk:=fun m' y D C H N I=>by
  obtain⟨f1,f2,f3,f4,f5⟩:=AT.fin_al y;refine same m' y.fin D C H N ⟨f1.trans I.al,f2.trans I.pu,?_⟩ (PuA.fin (by rw[I.al,I.pu];exact hP.le));have:q4D y.fin=q4D y:=by unfold q4D;rw[f1,f2,f3,f4,f5]
  rw[this,I.own]
 have endA:∀(m':MS) (y:AT) (q:Int),(qf c t m a).1=m'->(qf c t m a).2.1=y.endA c q->m'.hd=m.hd->m'.nx=m.nx->a.ph.puh=false->y.al=a.al->y.pu=a.pu->a.dn=false->y.dn=false->q0o c (k+1) (qf c t m a).1 (xs.set t x') tk:=fun m' y q D C H N F I T W X=>by
  unfold AT.endA at C
  split at C
  ·exact off m' _ D C H N (q04.un I T W X) (fun _=>F) (fun _ _ _ _ e=>by cases e) (fun _ _ _ e=>by cases e) (fun e=>by cases e)
  ·exact off m' _ D C H N (q04.un I T W X) (fun _=>F) (fun _ _ _ _ e=>by cases e) (fun _ _ _ e=>by cases e) (fun e=>by cases e)
 have frd:∀(m':MS) (y:AT) (b v:Int),(qf c t m a).1=m'->(qf c t m a).2.1=y.frd c b v->m'.hd=m.hd->m'.nx=m.nx->a.ph.puh=false->y.ph= .idle->y.al=a.al->y.pu=a.pu->a.dn=false->y.dn=false->q0o c (k+1) (qf c t m a).1 (xs.set t x') tk:=fun m' y b v D C H N F av I T W X=>by
  unfold AT.frd at C
  split at C
  ·exact endA m' y 8 D C H N F I T W X
  ·split at C
   ·exact fin m' {y with code:=3} D C H N (q04.un I T W X)
   ·split at C
    ·exact off m' _ D C H N (q04.un I T W X) (fun _=>F) (fun _ _ _ _ e=>by rw[show(_:AT).ph=y.ph from rfl,av] at e;cases e) (fun _ _ _ e=>by rw[show(_:AT).ph=y.ph from rfl,av] at e;cases e) (fun e=>by rw[show(_:AT).ph=y.ph from rfl,av] at e;cases e)
    ·exact fin m' {y with code:=3} D C H N (q04.un I T W X)
 have hno:∀(y:AT) {q:AP},y.ph=q->(∀n k h v,q≠ .pp n k h v)->(∀n b h,q≠ .ph n b h)->q≠ .lv->(∀n k h v,y.ph≠ .pp n k h v)/\(∀n b h,y.ph≠ .ph n b h)/\y.ph≠ .lv:=fun y q e H N I=>by rw[e];exact⟨H,N,I⟩
 unfold PhA at G;cases he:a.ph with
 |idle=>
  exact off m a (by unfold qf;rw[he]) (by unfold qf;rw[he]) rfl rfl ⟨rfl,rfl,rfl⟩ (fun e=>e) (fun _ _ _ _ e=>by rw[he] at e;cases e) (fun _ _ _ e=>by rw[he] at e;cases e) (fun e=>by rw[he] at e;cases e)
 |loc q=>
  rw[he] at G;have B:a.dn=false:=G.1.1;have hb:a.ph.puh=false:=by rw[he];rfl
  have D:(qf c t m a).1=m:=by unfold qf;rw[he]
  have C:(qf c t m a).2.1={a with ph:= .idle}.kont c q:=by unfold qf;rw[he]
  cases q with
  |en q=>exact endA m {a with ph:= .idle} q D C rfl rfl hb rfl rfl B B
  |tk v=>exact off m _ D C rfl rfl (q04.un rfl rfl B B) (fun _=>hb) (fun _ _ _ _ e=>by cases e) (fun _ _ _ e=>by cases e) (fun e=>by cases e)
  |wr w v=>
   unfold AT.kont at C;dsimp only at C
   split at C
   ·exact endA m {a with ph:= .idle} 7 D C rfl rfl hb rfl rfl B B
   ·split at C
    ·exact off m _ D C rfl rfl (q04.un rfl rfl B B) (fun _=>hb) (fun _ _ _ _ e=>by cases e) (fun _ _ _ e=>by cases e) (fun e=>by cases e)
    ·exact fin m {a with ph:= .idle,code:=3} D C rfl rfl (q04.un rfl rfl B B)
  |ud q=>exact fin m {a with ph:= .idle,code:=q} D C rfl rfl (q04.un rfl rfl B B)
  |fd b v=>exact frd m {a with ph:= .idle} b v D C rfl rfl hb rfl rfl rfl B B
 |ent j=>
  rw[he] at G;have B:a.dn=false:=G.1.1;have hb:a.ph.puh=false:=by rw[he];rfl
  by_cases F:j=0
  ·exact off {m with sl:=m.sl.set t 1} {a with ph:= .ent 1} (by unfold qf;rw[he];dsimp only;rw[if_pos F];rfl) (by unfold qf;rw[he];dsimp only;rw[if_pos F]) rfl rfl (q04.un rfl rfl B B) (fun _=>hb) (fun _ _ _ _ e=>by cases e) (fun _ _ _ e=>by cases e) (fun e=>by cases e)
  ·by_cases H:j=1
   ·exact off m {a with rv:=m.ck,ph:= .ent 2} (by unfold qf;rw[he];dsimp only;rw[if_neg F,if_pos H]) (by unfold qf;rw[he];dsimp only;rw[if_neg F,if_pos H]) rfl rfl (q04.un rfl rfl B B) (fun _=>hb) (fun _ _ _ _ e=>by cases e) (fun _ _ _ e=>by cases e) (fun e=>by cases e)
   ·exact off {m with sl:=m.sl.set t (qV (a.rv+2))} {a with ph:= .idle} (by unfold qf;rw[he];dsimp only;rw[if_neg F,if_neg H];rfl) (by unfold qf;rw[he];dsimp only;rw[if_neg F,if_neg H]) rfl rfl (q04.un rfl rfl B B) (fun _=>hb) (fun _ _ _ _ e=>by cases e) (fun _ _ _ e=>by cases e) (fun e=>by cases e)
 |rd j bf v=>
  rw[he] at G;have B:a.dn=false:=G.1.1;have hb:a.ph.puh=false:=by rw[he];rfl
  have D:(qf c t m a).1=m:=by
   unfold qf;rw[he];dsimp only
   split
   ·rfl
   ·split <;>rfl
  by_cases F:j=0
  ·have C:(qf c t m a).2.1=if q3R (m.o.getD (qC c a.addr).toNat 0)>=0\/q5J (m.o.getD (qC c a.addr).toNat 0)>a.rv then a.undo 9 else{a with ph:= .rd 1 (m.o.getD (qC c a.addr).toNat 0) 0}:=by
    unfold qf;rw[he];dsimp only;rw[if_pos F]
   split at C
   ·exact fin m {a with code:=9} D C rfl rfl (q04.un rfl rfl B B)
   ·exact off m _ D C rfl rfl (q04.un rfl rfl B B) (fun _=>hb) (fun _ _ _ _ e=>by cases e) (fun _ _ _ e=>by cases e) (fun e=>by cases e)
  ·by_cases H:j=1
   ·exact off m {a with ph:= .rd 2 bf (m.d.getD a.addr.toNat 0)} D (by unfold qf;rw[he];dsimp only;rw[if_neg F,if_pos H]) rfl rfl (q04.un rfl rfl B B) (fun _=>hb) (fun _ _ _ _ e=>by cases e) (fun _ _ _ e=>by cases e) (fun e=>by cases e)
   ·have C:(qf c t m a).2.1=if m.o.getD (qC c a.addr).toNat 0≠bf then a.undo 9 else match q60 c.reads a.set (qC c a.addr) with
     |none=>{a with seen:=a.saw c}.undo 3
     |some s=>AT.got c {a with seen:=a.saw c,set:=s,ph:= .idle} v:=by
     unfold qf;rw[he];dsimp only;rw[if_neg F,if_neg H];rfl
    split at C
    ·exact fin m {a with code:=9} D C rfl rfl (q04.un rfl rfl B B)
    ·split at C
     ·exact fin m {a with seen:=a.saw c,code:=3} D C rfl rfl (q04.un rfl rfl B B)
     ·unfold AT.got at C
      split at C
      ·exact off m _ D C rfl rfl (q04.un rfl rfl B B) (fun _=>hb) (fun _ _ _ _ e=>by cases e) (fun _ _ _ e=>by cases e) (fun e=>by cases e)
      ·exact frd m _ _ _ D C rfl rfl hb rfl rfl rfl B B
 |pp j kc F v=>
  rw[he] at G;have B:a.dn=false:=G.1.1;have hb:a.ph.puh=false:=by rw[he];rfl
  have O:a.pu=0:=hP.z hb;have J:=hP.po;unfold qbY at J;rw[he] at J;dsimp only at J;have aw:=J.1;have pp:∀(y:AT) {q:Nat} {w v':Int},(qf c t m a).1=m->(qf c t m a).2.1={a with ph:= .pp q kc w v'}->qhs c m q kc w v'->q0o c (k+1) (qf c t m a).1 (xs.set t x') tk:=fun _ q w v' D C hp=>
   same m _ D C rfl rfl (q04.un rfl rfl B B) ⟨hp,hP.le,fun _=>O⟩
  by_cases P:j=0
  ·have D:(qf c t m a).1=m:=by unfold qf;rw[he];dsimp only;rw[if_pos P]
   have C:(qf c t m a).2.1=if q02 (m.hd.getD kc.toNat 0)<0 then AT.allo c {a with ph:= .idle} kc (-1) else{a with ph:= .pp 1 kc (m.hd.getD kc.toNat 0) v}:=by
    unfold qf;rw[he];dsimp only;rw[if_pos P]
   split at C
   ·exact fin m {a with ph:= .idle,code:=4} D (by rw[C];unfold AT.allo;rw[if_pos Yc];rfl) rfl rfl (q04.un rfl rfl B B)
   ·have az:=h.topB (j:=kc.toNat) Yb;exact pp a D C ⟨aw,fun _=>⟨Yb,az.2,zK _⟩,fun e=>absurd e Yc⟩
  ·by_cases U:j=1
   ·have D:(qf c t m a).1=m:=by unfold qf;rw[he];dsimp only;rw[if_neg P,if_pos U]
    subst U;exact pp a D (by unfold qf;rw[he];dsimp only;rw[if_neg P,if_pos rfl]) ⟨aw,fun _=>J.2.1 Yc,fun _=>⟨h.nr _,fun _=>rfl⟩⟩
   ·have j2:j=2:=by have:=G.2;omega
    subst j2
    by_cases hw:m.hd.getD kc.toNat 0=F
    ·have D:(qf c t m a).1={m with hd:=m.hd.set kc.toNat (q05 F (v-1))}:=by
      unfold qf;rw[he];dsimp only;rw[if_neg P,if_neg U,if_pos hw]
     have C:(qf c t m a).2.1=AT.allo c {a with ph:= .idle} kc (q02 F):=by
      unfold qf;rw[he];dsimp only;rw[if_neg P,if_neg U,if_pos hw]
     have N:=J.2.1 Yc
     --what it is behind aC step
     have hy:∃y:AT,(qf c t m a).2.1=y/\y.al=a.al++ [q02 F]/\y.pu=0/\y.dn=false/\PuA c {m with hd:=m.hd.set kc.toNat (q05 F (v-1))} y:=by
      unfold AT.allo at C;rw[if_neg Yb] at C
      split at C
      ·refine⟨_,C,?_⟩;obtain⟨f1,f2,f3,f4,f5⟩:=AT.fin_al {a with ph:= .idle,al:=a.al++ [q02 F],code:=3};exact⟨f1,f2.trans O,f4.trans B,PuA.fin (by dsimp only;rw[O];exact zl _)⟩
      ·split at C
       ·exact⟨_,C,rfl,O,B,PuA.off (by dsimp only;rw[O];exact zl _) (fun _=>O) (fun _ _ _ _ e=>by cases e) (fun _ _ _ e=>by cases e) (fun e=>by cases e)⟩
       ·refine⟨_,C,?_⟩;rename_i l _ _;obtain⟨f1,f2,f3,f4,f5⟩:=AT.fin_al {a with ph:= .idle,al:=a.al++ [q02 F],ad:=(q1J c.writes (2 ^ kc.toNat) (qs c (q02 F)) l).1.1,vl:=(q1J c.writes (2 ^ kc.toNat) (qs c (q02 F)) l).1.2,code:=3};exact⟨f1,f2.trans O,f4.trans B,PuA.fin (by dsimp only;rw[O];exact zl _)⟩
     obtain⟨y,ey,y1,y2,y3,y4⟩:=hy;rw[ey] at M;rw[D];have eo:q0L x=a.al++(q5V x.fn++x.lm.map (·.1)):=by rw[q0U ha,q5d B,O];rfl
     have ae:q0L x'=a.al++ [q02 F]++(q5V x.fn++x.lm.map (·.1)):=by rw[q0U M,q5d y3,y1,y2,R,af];rfl
     refine h.take hk hx J hw (fun hn=>?_) (fun z hz=>by rw[M] at hz;cases hz;exact y4) (by rw[R];exact(h.pf t x hx).up fun _ _=>rfl);obtain⟨L,ow,hL⟩:=h.ex;have aB:=(hL.ox t x hx).1;rw[eo] at aB hn ⊢;rw[ae];refine⟨?_,fun b hb=>?_⟩
     ·rw[zd];exact Z2.nodup_iff.2 (ZA.2 ⟨hn,aB⟩)
     ·rcases zw.1 hb with hb|hb
      ·rcases zw.1 hb with hb|hb
       ·exact .inr (zq _ hb)
       ·exact .inl (zf.1 hb)
      ·exact .inr (zz _ hb)
    ·have D:(qf c t m a).1=m:=by unfold qf;rw[he];dsimp only;rw[if_neg P,if_neg U,if_neg hw]
     exact pp a D (by unfold qf;rw[he];dsimp only;rw[if_neg P,if_neg U,if_neg hw]) ⟨aw,fun e=>absurd e Yc,fun e=>absurd e Yc⟩
 |lk s ld=>
  rw[he] at G;have B:a.dn=false:=G.1;have hb:a.ph.puh=false:=by rw[he];rfl
  have E:=q34 (c:=c) (t:=t) (m:=m) he
  split at E
  ·exact K E rfl rfl (q04.un rfl rfl B B) (fun _=>hb) (fun _ _ _ _ e=>by cases e) (fun _ _ _ e=>by cases e) (fun e=>by cases e)
  ·split at E
   ·refine K E rfl rfl (q04.un rfl rfl B B) (fun _=>hb) (fun _ _ _ _ e=>?_) (fun _ _ _ e=>?_) fun e=>?_
    ·dsimp only at e;split at e <;>cases e
    ·dsimp only at e;split at e <;>cases e
    ·dsimp only at e;split at e <;>cases e
   ·exact K E rfl rfl (q04.un rfl rfl B B) (fun _=>hb) (fun _ _ _ _ e=>by cases e) (fun _ _ _ e=>by cases e) (fun e=>by cases e)
 |tn b=>
  rw[he] at G;have B:a.dn=false:=G.1;have hb:a.ph.puh=false:=by rw[he];rfl
  cases b with
  |false=>
   have E:=q3h (c:=c) (t:=t) (m:=m) he;exact K E rfl rfl (q04.un rfl rfl B B) (fun _=>hb) (fun _ _ _ _ e=>by cases e) (fun _ _ _ e=>by cases e) (fun e=>by cases e)
  |true=>
   have E:=q3i (c:=c) (t:=t) (m:=m) he
   split at E
   ·split at E
    ·exact K E rfl rfl (q04.un rfl rfl B B) (fun _=>hb) (fun _ _ _ _ e=>by cases e) (fun _ _ _ e=>by cases e) (fun e=>by cases e)
    ·exact K E rfl rfl (q04.un rfl rfl B B) (fun _=>hb) (fun _ _ _ _ e=>by cases e) (fun _ _ _ e=>by cases e) (fun e=>by cases e)
   ·exact K E rfl rfl ⟨rfl,rfl,rfl⟩ (fun e=>e) (fun _ _ _ _ e=>by rw[he] at e;cases e) (fun _ _ _ e=>by rw[he] at e;cases e) (fun e=>by rw[he] at e;cases e)
 |ck l=>
  rw[he] at G;have B:a.dn=false:=G.1;have hb:a.ph.puh=false:=by rw[he];rfl
  have E:=q6t (c:=c) (t:=t) (m:=m) he;have D:=congrArg (fun z=>z.1) E;have C:=congrArg (fun z=>z.2.1) E;dsimp only at D C
  split at C
  ·unfold AT.rest at C
   split at C
   ·exact off _ _ D C rfl rfl (q04.un rfl rfl B B) (fun _=>hb) (fun _ _ _ _ e=>by cases e) (fun _ _ _ e=>by cases e) (fun e=>by cases e)
   ·exact off _ _ D C rfl rfl (q04.un rfl rfl B B) (fun _=>hb) (fun _ _ _ _ e=>by cases e) (fun _ _ _ e=>by cases e) (fun e=>by cases e)
  ·split at C
   ·exact off _ _ D C rfl rfl (q04.un rfl rfl B B) (fun _=>hb) (fun _ _ _ _ e=>by cases e) (fun _ _ _ e=>by cases e) (fun e=>by cases e)
   ·exact off _ _ D C rfl rfl (q04.un rfl rfl B B) (fun _=>hb) (fun _ _ _ _ e=>by cases e) (fun _ _ _ e=>by cases e) (fun e=>by cases e)
 |dc=>
  rw[he] at G;have B:a.dn=false:=G.1;have hb:a.ph.puh=false:=by rw[he];rfl
  have E:=q33 (c:=c) (t:=t) (m:=m) he;have D:=congrArg (fun z=>z.1) E;have C:=congrArg (fun z=>z.2.1) E;dsimp only at D C
  split at C
  ·unfold AT.rest at C
   split at C
   ·exact off _ _ D C rfl rfl (q04.un rfl rfl B B) (fun _=>hb) (fun _ _ _ _ e=>by cases e) (fun _ _ _ e=>by cases e) (fun e=>by cases e)
   ·exact off _ _ D C rfl rfl (q04.un rfl rfl B B) (fun _=>hb) (fun _ _ _ _ e=>by cases e) (fun _ _ _ e=>by cases e) (fun e=>by cases e)
  ·exfalso;rw[B,C] at Z
   split at Z
   ·cases Z
   ·rw[(q44 _).1] at Z;cases Z
 |wr A V=>
  have hb:a.ph.puh=false:=by rw[he];rfl
  have C:(qf c t m a).2.1=if A.tail= [] then{a with ph:= .rl a.oc (a.oc.map fun _=>(a.ck+1)*64)} else{a with ph:= .wr A.tail V.tail}:=by unfold qf;rw[he]
  have D:(qf c t m a).1={m with d:=m.d.set (A.headD 0).toNat (V.headD 0)}:=by unfold qf;rw[he]
  split at C
  ·exact off _ _ D C rfl rfl (q04.de rfl rfl rfl rfl rfl) (fun _=>hb) (fun _ _ _ _ e=>by cases e) (fun _ _ _ e=>by cases e) (fun e=>by cases e)
  ·exact off _ _ D C rfl rfl (q04.de rfl rfl rfl rfl rfl) (fun _=>hb) (fun _ _ _ _ e=>by cases e) (fun _ _ _ e=>by cases e) (fun e=>by cases e)
 |rl l w=>
  have hb:a.ph.puh=false:=by rw[he];rfl
  have C:(qf c t m a).2.1=if l.tail= [] then{a with ph:=if a.dn/\a.sto then .sp else .ps} else{a with ph:= .rl l.tail w.tail}:=by unfold qf;rw[he]
  have D:(qf c t m a).1={m with o:=m.o.set (l.headD 0).toNat (w.headD 0)}:=by unfold qf;rw[he]
  split at C
  ·refine off _ _ D C rfl rfl (q04.de rfl rfl rfl rfl rfl) (fun _=>hb) (fun _ _ _ _ e=>?_) (fun _ _ _ e=>?_) fun e=>?_
   ·dsimp only at e;split at e <;>cases e
   ·dsimp only at e;split at e <;>cases e
   ·dsimp only at e;split at e <;>cases e
  ·exact off _ _ D C rfl rfl (q04.de rfl rfl rfl rfl rfl) (fun _=>hb) (fun _ _ _ _ e=>by cases e) (fun _ _ _ e=>by cases e) (fun e=>by cases e)
 |sp=>
  have hb:a.ph.puh=false:=by rw[he];rfl
  exact off {m with ck:=qV (a.ck+1)} {a with ph:= .ps} (by unfold qf;rw[he]) (by unfold qf;rw[he]) rfl rfl (q04.de rfl rfl rfl rfl rfl) (fun _=>hb) (fun _ _ _ _ e=>by cases e) (fun _ _ _ e=>by cases e) (fun e=>by cases e)
 |ps=>exact fin {m with sv:=qV (a.tk+1)} a (by unfold qf;rw[he]) (by unfold qf;rw[he]) rfl rfl ⟨rfl,rfl,rfl⟩
 |ph j b F=>
  have J:=hP.po;unfold qbY at J;rw[he] at J;obtain⟨Y,ay,au⟩:=J;have S:¬(a.dn=true/\a.code=1):=fun e=>au e.2
  have aq:=qi3 ha S Y;obtain⟨L,ow,hL⟩:=h.ex;obtain⟨x1,x2⟩:=hL.ox t x hx;have aA:=(hL.fr b _ (x2 b aq)).1;have hbb:=qP c;have hcl:=q0J aA.1 aA.2;have aj:∀(m':MS) (z:Nat×Int),(qf c t m a).1=m'->(qf c t m a).2.1={a with ph:= .ph z.1 b z.2}->m'.hd=m.hd->m'.nx=m.nx->q5Y m' z.1 b z.2->q0o c (k+1) (qf c t m a).1 (xs.set t x') tk:=fun m' z D C H N hp=>
   same m' _ D C H N (q04.de rfl rfl rfl rfl rfl) ⟨⟨Y,hp,au⟩,hP.le,fun e=>by cases e⟩
  by_cases P:j=0
  ·have az:=h.topB (j:=(ql c b).toNat) Yb;refine aj m (1,m.hd.getD (ql c b).toNat 0) ?_ ?_ rfl rfl (show q5Y m 1 b (m.hd.getD (ql c b).toNat 0) from ⟨Yc,fun _=>⟨az.1,Yb⟩,fun e=>absurd e Yc⟩)
   ·unfold qf q0p;rw[he];dsimp only;rw[if_pos P]
   ·unfold qf q0p;rw[he];dsimp only;rw[if_pos P]
  ·by_cases U:j=1
   ·have hr:=ay.2.1 Yb;have D:(qf c t m a).1={m with nx:=m.nx.set b.toNat (q02 F+1)}:=by unfold qf q0p;rw[he];dsimp only;rw[if_neg P,if_pos U]
    have C:(qf c t m a).2.1={a with ph:= .ph 2 b F}:=by unfold qf q0p;rw[he];dsimp only;rw[if_neg P,if_pos U]
    rw[D];rw[C] at M;have hnl:=h.nl;have eo:q0L x'=q0L x:=by rw[q0U ha,q0U M,R,af];rfl
    have aG:(m.nx.set b.toNat (q02 F+1)).getD b.toNat 0=q02 F+1:=q51 Yb;refine h.link hx aq (v:=q02 F+1) Yb eo (fun z hz=>by rw[M] at hz;cases hz;exact⟨⟨Y,⟨Yc,fun _=>hr,fun _=>aG⟩,au⟩,hP.le,fun e=>by cases e⟩) ?_;rw[R];refine(h.pf t x hx).up fun q hq=>q3c fun e=>?_
    --aC fence's blocks aE others
    have hqr:=(hL.fr q _ (x2 q (qmk hq))).1;have eq:b=q:=Yb;rw[q0U ha] at x1;refine(yv.1 x1).2.2 b ?_ q (zq _ hq) eq;unfold q4D;rw[if_neg S];obtain⟨g1,g2⟩:=z7.1 Y;rw[Zd g1,g2];exact zp
   ·have j2:j=2:=by have:=ay.1;omega
    subst j2
    by_cases hw:m.hd.getD (ql c b).toNat 0=F
    ·have D:(qf c t m a).1={m with hd:=m.hd.set (ql c b).toNat (q05 F b)}:=by unfold qf q0p;rw[he];dsimp only;rw[if_neg P,if_neg U,if_pos hw]
     have C:(qf c t m a).2.1=AT.fin {a with pu:=a.pu+1}:=by unfold qf q0p;rw[he];dsimp only;rw[if_neg P,if_neg U,if_pos hw]
     rw[D];rw[C] at M;obtain⟨f1,f2,f3,f4,f5⟩:=AT.fin_al {a with pu:=a.pu+1};obtain⟨g1,g2⟩:=z7.1 Y;have eo:q0L x=b::(a.al.drop (a.pu+1)++(q5V x.fn++x.lm.map (·.1))):=by
      rw[q0U ha];unfold q4D;rw[if_neg S,Zd g1,g2];rfl
     have ae:q0L x'=a.al.drop (a.pu+1)++(q5V x.fn++x.lm.map (·.1)):=by
      rw[q0U M,R,af];unfold q4D;rw[f1,f2,f4,f5];dsimp only;rw[if_neg S]
     rw[eo,ZA] at x1;refine h.push hk hx ay hw aq ⟨by rw[ae];exact x1.2,fun q hq=>?_⟩ (fun z hz=>by rw[M] at hz;cases hz;exact PuA.fin (by dsimp only;omega)) (by rw[R];exact(h.pf t x hx).up fun _ _=>rfl);rw[ae] at hq;rw[eo];exact⟨zr _ hq,fun e=>x1.1 (e ▸ hq)⟩
    ·refine aj m (0,F) ?_ ?_ rfl rfl (show q5Y m 0 b F from ⟨Yc,fun e=>absurd e Yc,fun e=>absurd e Yc⟩)
     ·unfold qf q0p;rw[he];dsimp only;rw[if_neg P,if_neg U,if_neg hw]
     ·unfold qf q0p;rw[he];dsimp only;rw[if_neg P,if_neg U,if_neg hw]
 |lv=>exact absurd he aF
end
open Go
section
variable{c:Cfg}{k n:Nat}{m m':MS}{xs:List GT}{tk tk':List Bool}{t u:Nat}{x x':GT}{a b y:AT}{h:Int}{p:jf}{i:Ins}
theorem qhX{A B:jd}:(A++B).Nodup↔A.Nodup/\B.Nodup/\∀b∈A,b∉B:=by
 rw[yv];exact⟨fun⟨d,j,o⟩=>⟨d,j,fun b q s=>o b q b s rfl⟩,fun⟨d,j,o⟩=>⟨d,j,fun x v y w e=>o x v (e ▸ w)⟩⟩
theorem q0o.decide(h:q0o c k m xs tk)(D:xs[t]? =some x)(J:x.at'=some a)(O:a.dn=false)(R:a.ph= .dc)(X:m'.hd=m.hd)(I:m'.nx=m.nx)(w:x'.at'=some y)(A:x'.fn=x.fn)(E:x'.lm=x.lm)
  (S:y.dn=true) (F:y.code=a.code) (G:y.al=a.al) (T:y.fr=a.fr) (o:y.pu=a.pu) (U:∀n k h v,y.ph≠ .pp n k h v) (V:∀n b h,y.ph≠ .ph n b h) (W:y.ph≠ .lv)
  (K:a.code≠1->tk'=tk) (j:a.code=1->∀b∈a.fr,(0<=b/\b<qh c)/\tk'.getD b.toNat false=false/\(b∈a.al\/tk.getD b.toNat false=true)) (M:a.code=1->∀b,0<=b->b<qh c->tk.getD b.toNat false=false->b∉a.al->tk'.getD b.toNat false=false) (N:a.code=1->a.fr.Nodup):q0o c (k+1) m' (xs.set t x') tk':=by
 have hP:=h.pa t x a D J;have s:a.pu=0:=hP.z (by rw[R];rfl);have C:PuA c m' y:=PuA.off (by rw[o,s];exact zl _) (fun _=>o.trans s) U V W;have P:q7j m' x'.fn:=by rw[A];exact(h.pf t x D).up fun _ _=>by rw[I]
 by_cases d:a.code=1
 ·obtain⟨L,ow,Y⟩:=h.ex;obtain⟨x1,x2⟩:=Y.ox t x D;have H:q0L x=a.al++(q5V x.fn++x.lm.map (·.1)):=by rw[q0U J,q5d O,s];rfl
  have B:q0L x'=a.fr++(q5V x.fn++x.lm.map (·.1)):=by
   rw[q0U w,A,E];unfold q4D;rw[if_pos ⟨S,F.trans d⟩,T]
  rw[H] at x1;obtain⟨n1,n2,n3⟩:=qhX.1 x1;have j:=j d;refine h.commit D X I (al:=a.al) (fr:=a.fr) (fun b hb=>by rw[H];exact zq _ hb) ⟨?_,fun b hb=>?_⟩ j (M d) (fun z Z=>by rw[w] at Z;cases Z;exact C) P
  ·rw[B];refine qhX.2 ⟨N d,n2,fun b hb hm=>?_⟩
   rcases (j b hb).2.2 with q|ht
   ·exact n3 b q hm
   ·have:=(Y.fr b _ (x2 b (by rw[H];exact zz _ hm))).2;rw[ht] at this;cases this
  ·rw[B] at hb;rw[H]
   rcases zw.1 hb with hb|hb
   ·exact .inl hb
   ·exact .inr ⟨zz _ hb,fun q=>n3 b q hb⟩
 ·rw[K d];refine h.keep (zU k) D J X I w A E ⟨G,o,?_⟩ C;unfold q4D;rw[if_neg (fun e=>d (F.symm.trans e.2)),if_neg (fun e=>d e.2),G,o]
theorem q0o.gone(h:q0o c k m xs tk)(s:xs[t]? =some x)(D:x.at'=some a)(A:a.ph= .lv)(w:a.code=1->a.dn=true)(H:m'.hd=m.hd)(C:m'.nx=m.nx)(o:x'.at'=none)(q:x'.fn=x.fn)(B:x'.lm.map (·.1)=x.lm.map (·.1)++(if a.code=1 then a.fr else [])):q0o c (k+1) m' (xs.set t x') tk:=by
 have J:=h.pa t x a s D;have d:=J.po;unfold qbY at d;rw[A] at d;obtain⟨L,ow,I⟩:=h.ex;have K:=(I.ox t x s).1;have G:q0L x=(if a.code=1 then a.fr else [])++(q5V x.fn++x.lm.map (·.1)):=by
  rw[q0U D];unfold q4D
  by_cases e:a.code=1
  ·rw[if_pos ⟨w e,e⟩,if_pos e]
  ·rw[if_neg (fun h=>e h.2),if_neg e,d.resolve_left e,Zw]
 have v:q0L x'=q5V x.fn++(x.lm.map (·.1)++(if a.code=1 then a.fr else [])):=by
  unfold q0L;rw[o,q,B];rfl
 generalize (if a.code=1 then a.fr else [])=F at*;have j:(q0L x').Perm (q0L x):=by
  rw[G,v,<-zd];exact Zc
 exact h.same (zU k) s H C ⟨j.nodup_iff.2 K,fun b hb=>j.mem_iff.1 hb⟩ (fun z E=>by rw[o] at E;cases E) (by rw[q];exact(h.pf t x s).up fun _ _=>by rw[C])
theorem q0o.start(h:q0o c k m xs tk)(s:xs[t]? =some x)(D:x.at'=none)(o:x'.at'=some y)(q:x'.fn=x.fn)(v:x'.lm=x.lm)(w:y.al= [])(d:y.pu=0)(A:y.dn=false)(j:y.ph= .ent 0):q0o c k m (xs.set t x') tk:=by
 obtain⟨L,ow,C⟩:=h.ex;have e:q0L x'=q0L x:=by
  rw[q0U o,q5d A,w,d,q,v];unfold q0L;rw[D];rfl
 refine h.same (zN k) s rfl rfl (by rw[e];exact⟨(C.ox t x s).1,fun b h=>h⟩) (fun z B=>?_) (by rw[q];exact h.pf t x s);rw[o] at B;cases B;exact PuA.off (by rw[d];exact zl _) (fun _=>d) (fun _ _ _ _ e=>by rw[j] at e;cases e) (fun _ _ _ e=>by rw[j] at e;cases e) (fun e=>by rw[j] at e;cases e)
theorem q0o.req(h:q0o c k m xs tk)(G:xs[t]? =some x)(F:x.at'=some a)(s:a.ph= .idle)(q:a.dn=false)(w:x'.at'=some y)(z:x'.fn=x.fn)(A:x'.lm=x.lm)(B:y.al=a.al)(d:y.pu=a.pu)(C:y.dn=a.dn)(o:(∀n k h v,y.ph≠ .pp n k h v)\/∃kc,(0<=kc/\kc<4)/\y.ph= .pp 0 kc 0 0)(D:∀n b h,y.ph≠ .ph n b h)(E:y.ph≠ .lv):q0o c k m (xs.set t x') tk:=by
 have H:=h.pa t x a G F;have j:a.pu=0:=H.z (by rw[s];rfl);refine h.keep (zN k) G F rfl rfl w z A (q04.un B d q (C.trans q)) ?_
 rcases o with o|⟨kc,I,e⟩
 ·exact PuA.off (by rw[d,j];exact zl _) (fun _=>d.trans j) o D E
 ·refine⟨?_,by rw[d,j];exact zl _,fun _=>d.trans j⟩;unfold qbY qhs;rw[e];exact⟨I,fun h=>absurd h Yc,fun h=>absurd h Yc⟩
theorem q0o.calm{v:Nat}(B:k<=v)(h:q0o c k m xs tk)(o:xs[t]? =some x)(A:x.at'=none)(d:x'.at'=none)(j:x'.fn=x.fn)(q:x'.lm=x.lm):q0o c v m (xs.set t x') tk:=by
 obtain⟨L,ow,w⟩:=h.ex;have e:q0L x'=q0L x:=by unfold q0L;rw[d,A,j,q]
 exact h.same B o rfl rfl (by rw[e];exact⟨(w.ox t x o).1,fun b h=>h⟩) (fun z s=>by rw[d] at s;cases s) (by rw[j];exact h.pf t x o)
theorem qdg(lim:Int):∀l:List (Int×Int),(lmL lim l++(lmR lim l).map (·.1)).Perm (l.map (·.1))
 | []=> .refl _
 |q::l=>by
  have d:=qdg lim l;unfold lmL lmR at*
  by_cases e:q.2<=lim
  ·rw[List.filter_cons_of_pos (by simpa using e),List.filter_cons_of_neg (by simp;omega),zG,zG,zk];exact d.cons _
  ·rw[List.filter_cons_of_neg (by simpa using e),List.filter_cons_of_pos (by simp;omega),zG,zG];exact Z2.trans (d.cons _)
theorem qhH(f:FT):(q1c t m f).1.ld=true/\(q1c t m f).1.dr=if f.ld then f.dr else none:=by
 obtain⟨ld,lim,nx,dr⟩:=f;unfold q1c;cases ld with
 |false=>exact⟨rfl,rfl⟩
 |true=>
  rw[if_neg (fun e=>by cases e)];dsimp only
  split <;>exact⟨rfl,rfl⟩
theorem q5Y.z{b h:Int}:q5Y m 0 b h:=⟨Yc,fun e=>absurd e Yc,fun e=>absurd e Yc⟩
theorem q0o.fence(hk:k<=100000)(h:q0o c k m xs tk)(F:xs[t]? =some x)(s:x.at'=none){f:FT}(W:x.fn=some f\/(x.fn=none/\f=⟨false,0,0,none⟩)):q0o c (k+1) (qM c n p t m x f).1 (xs.set t (qM c n p t m x f).2.1) tk:=by
 obtain⟨L,ow,V⟩:=h.ex;obtain⟨I,x2⟩:=V.ox t x F;have H:=h.pf t x F;have C:q0L x=q5V x.fn++x.lm.map (·.1):=by unfold q0L;rw[s];rfl
 have mk:∀x':GT,x'.at'=none->q0L x'=q5V x'.fn++x'.lm.map (·.1):=fun x' e=>by unfold q0L;rw[e];rfl
 unfold qM;cases o:f.dr with
 |none=>
  dsimp only;have A:q5V x.fn= []:=by
   rcases W with e|⟨e,_⟩
   ·rw[e];obtain⟨_,_,_,_⟩:=f;dsimp only at o;rw[o];rfl
   ·rw[e];rfl
  have D:=(qhH (t:=t) (m:=m) f)
  rw[o,ite_self] at D;rw[A,zj] at C;have w:=qdg (q1c t m f).1.lim x.lm;rw[<-C] at w
  split
  ·split
   ·rename_i he;rw[he,zj] at w;refine h.same (zU k) F rfl rfl ?_ (fun z d=>by rw[show((x.lmX (q1c t m f).1.lim).fenD p).at'=x.at' from rfl,s] at d;cases d) trivial;rw[mk _ (by exact s)];exact⟨w.nodup_iff.2 I,fun b hb=>w.mem_iff.1 hb⟩
   ·rename_i he;refine h.same (zU k) F rfl rfl ?_ (fun z d=>by have d:x.at'=some z:=d;rw[s] at d;cases d) ⟨D.1,he,q5Y.z⟩;rw[mk _ (by exact s)];exact⟨w.nodup_iff.2 I,fun b hb=>w.mem_iff.1 hb⟩
  ·have U:q5V (some (q1c t m f).1)= []/\q7j m (some (q1c t m f).1):=by
    generalize (q1c t m f).1=f' at*;obtain⟨_,_,_,_⟩:=f';dsimp only at D;rw[D.2];exact⟨rfl,trivial⟩
   refine h.same (zU k) F rfl rfl ?_ (fun z d=>by have d:x.at'=some z:=d;rw[s] at d;cases d) U.2;rw[mk _ (by exact s),U.1,zj,<-C];exact⟨I,fun b h=>h⟩
 |some z=>
  obtain⟨l,q,B⟩:=z;dsimp only;have M:x.fn=some f:=by
   rcases W with e|⟨_,e⟩
   ·exact e
   ·rw[e] at o;cases o
  have A:q5V x.fn=l:=by rw[M];obtain⟨_,_,_,_⟩:=f;dsimp only at o;rw[o];rfl
  have N:f.ld=true/\l≠ []/\q5Y m q (l.headD 0) B:=by
   rw[M] at H;obtain⟨_,_,_,_⟩:=f;dsimp only at o;rw[o] at H;exact H
  obtain⟨d1,d2,d3⟩:=N;rw[A] at C;obtain⟨b,l2,rfl⟩:=yC d2;rw[List.headD_cons] at d3 ⊢;have G:b∈q0L x:=by rw[C];exact zp
  have J:=(V.fr b _ (x2 b G)).1;have hbb:=qP c;have hcl:=q0J J.1 J.2;have K:∀(z:Nat×Int),q5V (some {f with dr:=some (b::l2,z.1,z.2)})=b::l2:=fun z=>rfl
  have E:∀(m':MS) (z:Nat×Int),m'.hd=m.hd->m'.nx=m.nx->q5Y m' z.1 b z.2->q0o c (k+1) m' (xs.set t {x with fn:=some {f with dr:=some (b::l2,z.1,z.2)}}) tk:=fun m' z h1 h2 hp=>by
   refine h.same (zU k) F h1 h2 ?_ (fun z d=>by have d:x.at'=some z:=d;rw[s] at d;cases d) ⟨d1,d2,hp⟩;rw[mk _ (by exact s),K z,<-C];exact⟨I,fun b h=>h⟩
  unfold q0p
  by_cases X:q=0
  ·have S:=h.topB (j:=(ql c b).toNat) Yb;rw[if_pos X];exact E m (1,_) rfl rfl (show q5Y m 1 b (m.hd.getD (ql c b).toNat 0) from ⟨Yc,fun _=>⟨S.1,Yb⟩,fun e=>absurd e Yc⟩)
  ·rw[if_neg X]
   by_cases Y:q=1
   ·rw[if_pos Y];have hr:=d3.2.1 Yb;have hnl:=h.nl;have P:(m.nx.set b.toNat (q02 B+1)).getD b.toNat 0=q02 B+1:=q51 Yb;refine h.link F G (v:=q02 B+1) Yb (by rw[mk _ (by exact s),K (2,B),<-C]) (fun z d=>by have d:x.at'=some z:=d;rw[s] at d;cases d) ⟨d1,d2,(show q5Y _ 2 b B from ⟨Yc,fun _=>hr,fun _=>P⟩)⟩
   ·rw[if_neg Y];have j2:q=2:=by have:=d3.1;omega
    subst j2
    by_cases hw:m.hd.getD (ql c b).toNat 0=B
    ·rw[if_pos hw];dsimp only;rw[C,zk,ZA] at I;have key:∀x':GT,x'.at'=none->q0L x'=l2++x.lm.map (·.1)->q7j {m with hd:=m.hd.set (ql c b).toNat (q05 B b)} x'.fn->q0o c (k+1) {m with hd:=m.hd.set (ql c b).toNat (q05 B b)} (xs.set t x') tk:=fun x' Z T e3=>by
      refine h.push hk F d3 hw G ⟨by rw[T];exact I.2,fun q R=>?_⟩ (fun z d=>by rw[Z] at d;cases d) e3;rw[T] at R;rw[C];exact⟨zr _ R,fun e=>I.1 (e ▸ R)⟩
     rw[List.tail_cons]
     split
     ·rename_i O;exact key _ (by exact s) (by rw[mk _ (by exact s),O];rfl) trivial
     ·rename_i O;exact key _ (by exact s) (by rw[mk _ (by exact s)];rfl) ⟨d1,O,q5Y.z⟩
    ·rw[if_neg hw];exact E m (0,B) rfl rfl q5Y.z
end
open Go
def pnd(b:AT):jd:=match b.ph with
 | .wr _ _=>b.oc
 | .rl l _=>l
 |_=> []
def Pd(xs:List GT)(o:Int):Prop:=∃(u:Nat) (y:GT) (b:AT),xs[u]? =some y/\y.at'=some b/\b.dn=true/\o∈pnd b
def qn6(c:Cfg)(m:MS)(a:AT)(r:List (Int×Int)):Prop:=∃q∈r,a.rv<q1T m (qC c q.1)
def VAq(c:Cfg)(m:MS)(xs:List GT)(d:jd)(a:AT)(q:Int×Int):Prop:=q1T m (qC c q.1)<=a.rv->Pd xs (qC c q.1)\/d.getD q.1.toNat 0=q.2
def VA(c:Cfg)(m:MS)(xs:List GT)(d:jd)(a:AT)(r:List (Int×Int)):Prop:=qn6 c m a r\/∀q∈r++fl a,VAq c m xs d a q
def ql5(p:jf)(x:GT)(a:AT):Thr:=match p[x.th.pc]? with
 |some i=>x.th.nxt p.length (if i.op=12 then x.th.rg.set i.a.toNat a.val else x.th.rg)
 |none=>x.th
def q2U(p:jf)(x:GT)(a:AT):List ObM:=match p[x.th.pc]? with
 |some i=>if i.op=12 then [⟨x.th.pc,4,a.val⟩] else [⟨x.th.pc,5,x.th.rg.get i.b.toNat⟩]
 |none=> []
structure TD(c:Cfg)(p:jf)(x:GT)(a:AT):Prop where
 fn:x.fn=none
 st:a.st=1
 dn:x.th.dn=false
 pl:x.th.pc<p.length
 kd:(x.stg=false/\(∃ib,p[x.bg]? =some ib/\ib.op=7)/\x.tr≠0/\(a.code=1\/a.code=2\/a.code=7\/a.code=8))\/(x.stg=true/\x.tr=0/\stB p x.th.pc<0/\a.code=1/\a.fr= []/\∃i,p[x.th.pc]? =some i/\(i.op=12\/i.op=13))
def qbZ(p:jf)(x:GT)(a:AT):Thr:=if x.stg=true then ql5 p x a else⟨q0B p x.bg+1,if a.code=1 then x.th.rg else x.sv,a.code,decide (q0B p x.bg+1=p.length)⟩
def qc0(p:jf)(x:GT)(a:AT):List ObM:=if x.stg=true then q2U p x a else(if a.code=1 then x.seen else [])++ [⟨x.bg,3,a.code⟩]
def q7k(x:GT):Thr:=if x.stg=true then x.th else⟨x.bg,x.sv,x.th.oc,false⟩
def ThR(c:Cfg)(p:jf)(gt:Option Thr)(go:List ObM)(x:GT)(r:List (Int×Int)):Prop:=
 match x.at' with
 |none=>gt=some x.th/\go=x.obs/\x.th.pc<=p.length/\stB p x.th.pc<0/\x.th.dn=decide (x.th.pc=p.length)/\(x.fn≠none->x.tr=0/\∃i,p[x.th.pc]? =some i/\i.op=16)/\(x.tr≠0->∃i,p[x.th.pc]? =some i/\i.op=7)/\x.stg=false
 |some a=>if a.dn=true then gt=some (qbZ p x a)/\go=x.obs++qc0 p x a/\TD c p x a else gt=some (q7k x)/\go=x.obs/\TX c p x a r
def MR(xs:List GT)(md d:jd):Prop:=
 (∃(u:Nat) (y:GT) (b:AT) (A V:jd),xs[u]? =some y/\y.at'=some b/\b.ph= .wr A V/\d=lay A V md)\/
 ((∀(u:Nat) (y:GT) (b:AT),xs[u]? =some y->y.at'=some b->∀A V,b.ph≠ .wr A V)/\d=md)
structure q0m(c:Cfg)(ps:List (jf))(n k:Nat)(m:MS)(xs:List GT)(g:GS)(r:Nat->List (Int×Int)):Prop where
 gm:GM c n k m
 xl:xs.length=n
 pl:ps.length=n
 tl:g.T.length=n
 ol:g.O.length=n
 dl:(g.d.length:Int)=c.words
 ai:∀(t:Nat) x a,xs[t]? =some x->x.at'=some a->AI c t m a
 ds:∀(u v:Nat) y z a b,xs[u]? =some y->xs[v]? =some z->y.at'=some a->z.at'=some b->u≠v->a.ph.tick=true->b.ph.tick=true->a.tk≠b.tk
 th:∀(t:Nat) x p,xs[t]? =some x->ps[t]? =some p->ThR c p g.T[t]? (g.O.getD t []) x (r t)
 va:∀(t:Nat) x a,xs[t]? =some x->x.at'=some a->a.dn=false->VA c m xs (mix c g.d g.tk) a (r t)
 mr:MR xs m.d (mix c g.d g.tk)
 kl:(g.tk.length:Int)=qh c
 ho:q0o c k m xs g.tk
theorem q55{a:AP}(h:a.hold=true):a.tick=true:=by
 cases a <;>first|rfl|cases h
section
variable{c:Cfg}{ps:List (jf)}{n k:Nat}{m m':MS}{xs:List GT}{g g':GS}{r r':Nat->List (Int×Int)}{t u:Nat}{x x':GT}{a b:AT}{p:jf}{i:Ins}{rl:List (Int×Int)}
theorem TX.rr(h:TX c p x a rl):∀q∈rl,0<=q.1/\q.1<c.words+qh c/\qC c q.1∈a.set:=h.elim (fun h=>h.rr) fun h=>h.rr
theorem TX.fn(h:TX c p x a rl):x.fn=none:=h.elim (fun h=>h.fn) fun h=>h.fn
theorem TX.st(h:TX c p x a rl):a.st=1:=h.elim (fun h=>h.st) fun h=>h.st
theorem TX.pl(h:TX c p x a rl):x.th.pc<p.length:=h.elim (fun h=>h.pl) fun h=>by obtain⟨i,hi,_⟩:=h.ph;exact(z7.1 hi).1
theorem TX.ent(h:TX c p x a rl){j:Nat}(he:a.ph= .ent j):rl= []:=by
 rcases h with h|h
 ·rcases h.ph with ⟨_,_,d,_⟩|⟨_,_,_,i,_,d⟩|⟨d,_⟩
  ·exact d
  ·unfold q2S at d;rw[he] at d;exact d.elim
  ·rw[he] at d;cases d
 ·obtain⟨i,_,_,_,h⟩:=h.ph
  rcases h with ⟨h,_⟩|⟨_,_,⟨_,e|e⟩|⟨_,e⟩⟩|⟨e,_⟩
  ·exact h.1
  ·rw[he] at e;cases e
  ·rw[he] at e;cases e
  ·rw[he] at e;cases e
  ·rw[he] at e;cases e
theorem TX.adv(w:PrO p)(v:COk c)(d:TX c p x a rl)(s:AI c t m a)(q:PpB c m a)(o:∀k h nx,a.ph= .pp 2 k h nx->m.hd.getD k.toNat 0=h->0<=q02 h/\q02 h∉a.al)(hi:p[x.th.pc]? =some i)(hb:a.busy=true)(e:a.dn=false)(j:a.ph≠ .lv):q00 c p t m x a rl i:=by
 rcases d with d|d
 ·exact d.adv w v s q o hi hb e j
 ·exact d.adv v s hi hb e j
theorem q0m.one(h:q0m c ps n k m xs g r)(q:xs[t]? =some x)(o:x.at'=some a)(d:a.ph.hold=true){y:GT}(s:xs[u]? =some y)(hb:y.at'=some b)(j:b.ph.hold=true):u=t:=by
 refine Decidable.byContradiction fun e=>?_
 have v:=(h.ai t x a q o).ho d;have w:=(h.ai u y b s hb).ho j;exact h.ds t u x y a b q s o hb (fun e'=>e e'.symm) (q55 d) (q55 j) (v.trans w.symm)
theorem qg0{o:Int}(h:o∈pnd b):b.ph.hold=true:=by
 unfold pnd at h;cases e:b.ph <;>rw[e] at h <;>first|rfl|cases h
theorem q0R{l:List GT}{z:GT}(h:u≠t):(l.set t z)[u]? =l[u]? :=by rw[zx,if_neg (fun e=>h e.symm)]
theorem q0H{l:List GT}{z:GT}(h:l[t]? =some x):(l.set t z)[t]? =some z:=by
 rw[zx,if_pos rfl,if_pos (z7.1 h).1]
theorem qn6.step(d:FrM t a m m')(hb:b.rv<=m.ck)(h:qn6 c m b rl):qn6 c m' b rl:=by
 obtain⟨q,j,hv⟩:=h;refine⟨q,j,?_⟩
 rcases d.ver (qC c q.1) with e|⟨_,_,e⟩ <;>rw[e] <;>omega
theorem VA.step(z:FrM t a m m'){j:List GT}{w s:jd}(hb:b.rv<=m.ck)(C:∀o,Pd xs o->Pd j o\/m.ck<q1T m' o)(hd:∀q∈rl++fl b,s.getD q.1.toNat 0=w.getD q.1.toNat 0\/Pd j (qC c q.1))(h:VA c m xs w b rl):VA c m' j s b rl:=by
 rcases h with h|h
 ·exact .inl (h.step z hb)
 ·refine .inr fun q A B=>?_
  rcases z.ver (qC c q.1) with e|⟨_,_,e⟩
  ·rw[e] at B
   rcases h q A B with v|v
   ·rcases C _ v with d|d
    ·exact .inl d
    ·rw[e] at d;omega
   ·rcases hd q A with d|d
    ·exact .inr (d.trans v)
    ·exact .inl d
  ·omega
end
end Go.Proofs.YtfnghamklcdgnaaGreatDoor
