/- What the laws share, part 12. No condition. -/
import Derived.Test.YtikpjajangpdjaaGreatDoorQ11
set_option maxHeartbeats 8000000
set_option maxRecDepth 10000
namespace Go.Proofs.YtikpjajangpdjaaGreatDoor
open Go
inductive qhr (c:Cfg) (P:List (jg)) (fo:je):GS->List ChM->GS->List ChM->Prop
 |done {s:GS} {l:List ChM} (h:q2E s=true):qhr c P fo s l s l
 |loc {s s':GS} {l l':List ChM} {t:Nat} (ht:t<s.T.length) (hd:dnB s t=false) (ha:dnB (q0X c P t 64 s l).1 t=true) (h:qhr c P fo (q0X c P t 64 s l).1 (q0X c P t 64 s l).2 s' l'):qhr c P fo s l s' l'
 |step {s s':GS} {l l':List ChM} {t:Nat} {k:Int} (ht:t<s.T.length) (hd:dnB s t=false) (ha:dnB (q0X c P t 64 s l).1 t=false) (hk:k∈q2B fo (nxM P (q0X c P t 64 s l).1 t))
   (h:qhr c P fo (doM c P (q0X c P t 64 s l).1 ⟨t,k,[]⟩).2 ((q0X c P t 64 s l).2++ [⟨t,k,[]⟩]) s' l'):qhr c P fo s l s' l'
section
variable{α:Type}{g:SS->α->SS}
theorem q38(b:∀x a,x.stop=true->g x a=x):∀(l:List α) (x:SS),x.stop=true->l.foldl g x=x
 | [],_,_=>rfl
 |a::l,x,h=>by rw[y9,b x a h];exact q38 b l x h
theorem q81(e:∀x a,x.stop=true->g x a=x):∀(l:List α) (x:SS),(l.foldl g x).stop=false->x.stop=false/\∀a∈l,∃y,y.stop=false/\(g y a).stop=false
 | [],_,h=>⟨h,fun _ h=>(by cases h)⟩
 |a::l,x,h=>by
  rw[y9] at h;obtain⟨d,o⟩:=q81 e l (g x a) h;have m:x.stop=false:=by
   cases j:x.stop with
   |false=>rfl
   |true=>rw[e x a j,j] at d;cases d
  refine⟨m,fun b hb=>?_⟩
  rcases zN.1 hb with rfl|hb
  ·exact⟨x,m,d⟩
  ·exact o b hb
end
theorem q4G{x:SS}(h:x.stop=false):x.racy=false/\x.many=false:=by
 unfold SS.stop at h;exact Yb.1 h
theorem q8d{s:GS}{t:Nat}(b:t<s.T.length)(hd:dnB s t=false):q2E s=false:=by
 cases h:q2E s with
 |false=>rfl
 |true=>
  unfold q2E at h;have:=zX.1 h _ (ZO b);unfold dnB at hd;rw[z6 b] at hd;dsimp only at hd this;rw[this] at hd;cases hd
section
variable{rc:jl->Bool}{c:Cfg}{P:List (jg)}{fo:je}{lim:Int}
theorem qb1(b:q99 P)(e:∀k∈fo,3<=k/\k<=6):∀(n:Nat) (s:GS) (l:List ChM) (x:SS),GOk c P s->qP P s<n->(q55 rc c P fo lim n s l x).stop=false->∀s' l',qhr c P fo s l s' l'->rc s'.E=false
 |0,_,_,_,_,B,_,_,_,_=>absurd B Yu
 |n+1,s,l,x,E,B,h,s',l',q=>by
  unfold q55 at h;cases q with
  |done hd=>
   rw[if_pos hd] at h;unfold qeU at h
   split at h
   ·have:=(q4G h).2;cases this
   ·split at h
    ·have:=(q4G h).1;cases this
    ·rename_i M
     simpa using M
  | @loc _ _ _ _ t w hd d q=>
   rw[if_neg (by rw[q8d w hd];simp)] at h;obtain⟨-,A⟩:=q81 (fun x a u=>by rw[if_pos u]) _ x h;obtain⟨y,C,o⟩:=A t (Z9.2 w);rw[if_neg (by rw[C];simp),if_neg (by rw[hd];simp),if_pos d] at o;obtain⟨g1,g2,g3,g4, -⟩:=q5t (t:=t) b 64 s l E;refine qb1 b e n _ _ y g1 ?_ o s' l' q
   rcases g4 with g4|g4
   ·rw[g4] at d;rw[hd] at d;cases d
   ·omega
  | @step _ _ _ _ t k w hd d m q=>
   rw[if_neg (by rw[q8d w hd];simp)] at h;obtain⟨-,A⟩:=q81 (fun x a u=>by rw[if_pos u]) _ x h;obtain⟨y,C,o⟩:=A t (Z9.2 w);rw[if_neg (by rw[C];simp),if_neg (by rw[hd];simp),if_neg (by rw[d];simp)] at o;obtain⟨-,J⟩:=q81 (fun x a u=>by rw[if_pos u]) _ y o;obtain⟨z,N,D⟩:=J k m;rw[if_neg (by rw[N];simp)] at D;obtain⟨g1,g2,g3,g4, -⟩:=q5t (t:=t) b 64 s l E;obtain⟨i,G⟩:=qi3 g1 d;obtain⟨-,O,m2,m3,m4,I⟩:=q1H g1 b G (k:=k) (by
    rcases qew e m with m|⟨j,H,L,m⟩
    ·exact .inl m
    ·rw[G] at H;obtain rfl:=Option.some.inj H;exact .inr ⟨L,m⟩)
   refine qb1 b e n _ _ z O ?_ D s' l' q
   rcases g4 with g4|g4
   ·rw[g4] at I ⊢;exact yq I (Nat.le_of_lt_succ B)
   ·omega
end
open Go
def evZ(e:EvM):EvM:={e with ev:=0}
structure Sz(s s1:GS)(F:List Thr->List Thr):Prop where
 d:s1.d=s.d
 k:s1.tk=s.tk
 T:s1.T=F s.T
 O:s1.O=s.O
 E:s1.E.map evZ=s.E.map evZ
structure Fx(F:List Thr->List Thr)(t:Nat):Prop where
 set:∀T th,F (T.set t th)=(F T).set t th
 get:∀T,(F T)[t]? =T[t]?
def SzO(F:List Thr->List Thr):Option GS->Option GS->Prop
 |some a,some b=>Sz a b F
 |none,none=>True
 |_,_=>False
section
variable{c:Cfg}{P:List (jg)}{s s1:GS}{F:List Thr->List Thr}{t:Nat}{th:Thr}{p:jg}{i:Ins}{f:Int}{ad:je}
theorem Sz.fin(w:Sz s s1 F)(b:Fx F t)(l:List ObM):Sz (s.fin t th l) (s1.fin t th l) F:=
 ⟨w.d,w.k,by show s1.T.set t th=F (s.T.set t th);rw[w.T,b.set],by show s1.O.set t (s1.O.getD t []++l)=_;rw[w.O];rfl,w.E⟩
theorem Sz.ev(w:Sz s s1 F){l b:jl}(d:b.map evZ=l.map evZ):Sz (s.ev l) (s1.ev b) F:=
 ⟨w.d,w.k,w.T,w.O,by show(s1.E++b).map evZ=(s.E++l).map evZ;rw[zB,zB,w.E,d]⟩
theorem Sz.mem(w:Sz s s1 F)(d:je)(tk:List Bool):Sz (s.mem d tk) (s1.mem d tk) F:=⟨rfl,rfl,w.T,w.O,w.E⟩
theorem qq4{n m t:Nat}{k a:Int}:(plE c n t k a).map evZ=(plE c m t k a).map evZ:=by
 unfold plE
 split <;>rfl
theorem Sz.sg(w:Sz s s1 F)(b:Fx F t):SzO F (sgM c p s th t f i) (sgM c p s1 th t f i):=by
 unfold sgM;generalize adr th.rg (if i.op=12 then i.b else i.a) i.imm=a;dsimp only;rw[w.d,w.k]
 split
 ·split
  ·split
   ·exact w.fin b _
   ·exact trivial
  ·split
   ·exact w.fin b _
   ·split
    ·exact(w.ev qq4).fin b _
    ·exact((w.mem _ _).ev qq4).fin b _
 ·split
  ·exact trivial
  ·exact w.fin b _
theorem Sz.tx(w:Sz s s1 F)(d:Fx F t):SzO F (txM c p s th t f ad) (txM c p s1 th t f ad):=by
 unfold txM;rw[w.d,w.k]
 split
 ·split
  ·exact w.fin d _
  ·exact trivial
 ·generalize q2c c p p.length _=r;obtain⟨b,o⟩:=r;dsimp only
  split
  ·exact trivial
  ·split
   ·refine Sz.fin (s:=(s.mem b.d b.tk).ev _) (s1:=(s1.mem b.d b.tk).ev _) ((w.mem b.d b.tk).ev ?_) d _;rfl
   ·refine Sz.fin (s:=s.ev _) (s1:=s1.ev _) (w.ev ?_) d _;rfl
theorem Sz.ch(w:Sz s s1 F)(b:Fx F t):SzO F (chM c P s ⟨t,f,ad⟩) (chM c P s1 ⟨t,f,ad⟩):=by
 unfold chM;dsimp only;have e:s1.T[t]? =s.T[t]? :=by rw[w.T,b.get]
 rw[if_neg Yu,if_neg Yu,zD,e];cases hT:s.T[t]? with
 |none=>exact trivial
 |some th=>
  cases hp:P[t]? with
  |none=>exact trivial
  |some p=>
   dsimp only
   split
   ·exact trivial
   ·cases hx:p[th.pc]? with
    |none=>exact trivial
    |some i=>
     dsimp only
     split
     ·exact w.tx b
     ·split
      ·exact w.sg b
      ·exact trivial
theorem Sz.do(w:Sz s s1 F)(e:Fx F t):(doM c P s1 ⟨t,f,ad⟩).1=(doM c P s ⟨t,f,ad⟩).1/\Sz (doM c P s ⟨t,f,ad⟩).2 (doM c P s1 ⟨t,f,ad⟩).2 F:=by
 have:=w.ch (c:=c) (P:=P) (f:=f) (ad:=ad) e;unfold doM;cases d:chM c P s ⟨t,f,ad⟩ with
 |none=>
  cases hb:chM c P s1 ⟨t,f,ad⟩ with
  |none=>exact⟨rfl,w⟩
  |some b=>rw[d,hb] at this;exact this.elim
 |some a=>
  cases hb:chM c P s1 ⟨t,f,ad⟩ with
  |none=>rw[d,hb] at this;exact this.elim
  |some b=>rw[d,hb] at this;exact⟨rfl,⟨this.d,this.k,this.T,this.O,this.E⟩⟩
theorem q1C:Fx id t:=⟨fun _ _=>rfl,fun _=>rfl⟩
theorem qbF{x:Nat}{h:Thr}(b:t≠x):Fx (fun T=>T.set x h) t:=⟨fun _ _=>List.set_comm _ _ b,fun _=>Zz (fun e=>b e.symm)⟩
abbrev EqS(s s1:GS):Prop:=Sz s s1 id
theorem EqS.refl:EqS s s:=⟨rfl,rfl,rfl,rfl,rfl⟩
theorem EqS.symm(h:EqS s s1):EqS s1 s:=⟨h.d.symm,h.k.symm,h.T.symm,h.O.symm,h.E.symm⟩
theorem EqS.trans{s2:GS}(h:EqS s s1)(g:EqS s1 s2):EqS s s2:=⟨g.d.trans h.d,g.k.trans h.k,g.T.trans h.T,g.O.trans h.O,g.E.trans h.E⟩
theorem Sz.eqs{u v:GS}(a:Sz s u F)(b:Sz s v F):EqS u v:=⟨b.d.trans a.d.symm,b.k.trans a.k.symm,b.T.trans a.T.symm,b.O.trans a.O.symm,b.E.trans a.E.symm⟩
theorem q96{x:Nat}(b:s.T[x]? =some th)(j:P[x]? =some p)(hd:th.dn=false)(l:p[th.pc]? =some i)(d:isL i=true):
  Sz s (doM c P s (ch0 x)).2 (fun T=>T.set x {q1h th i with dn:=decide ((q1h th i).pc=p.length)}):=by
 have hop':(0<=i.op/\i.op<=6)\/i.op=17:=of_decide_eq_true d;obtain⟨-,h⟩:=qpU (c:=c) b j hd l ⟨Yu,Yu,Yu,Yu⟩;refine⟨h.d,h.k,h.T,h.O,?_⟩;have e:chM c P s ⟨x,0,[]⟩=some (s.fin x {q1h th i with dn:=decide ((q1h th i).pc=p.length)} []):=by
  rw[qcW b j hd l,if_neg Yu];unfold sgM;generalize adr th.rg (if i.op=12 then i.b else i.a) i.imm=a;rw[if_neg Yu,if_neg Yw,if_neg Yu]
 unfold doM;rw[e];rfl
end
def q0j(c:Cfg)(P:List (jg))(s:GS)(l:jj):GS:=l.foldl (fun s t=>(doM c P s (ch0 t)).2) s
def Val(c:Cfg)(P:List (jg)):GS->jj->Prop
 |_,[]=>True
 |s,t::l=>(∃i,nxM P s t=some i)/\Val c P (doM c P s (ch0 t)).2 l
def q6V(c:Cfg)(P:List (jg)):GS->jj->Prop
 |_,[]=>True
 |s,t::l=>q2J P s t=true/\q6V c P (doM c P s (ch0 t)).2 l
section
variable{c:Cfg}{P:List (jg)}{s s1:GS}{t x:Nat}
theorem q9g{l:jj}:q0j c P s (t::l)=q0j c P (doM c P s (ch0 t)).2 l:=rfl
theorem q8m{l m:jj}:q0j c P s (l++m)=q0j c P (q0j c P s l) m:=yY ..
theorem qaw{F:List Thr->List Thr}(h:Sz s s1 F)(b:Fx F t):nxM P s1 t=nxM P s t:=by unfold nxM;rw[h.T,b.get]
theorem q5Q{F:List Thr->List Thr}(h:Sz s s1 F)(b:Fx F t):q2J P s1 t=q2J P s t:=by unfold q2J;rw[qaw h b]
theorem dn_eq{F:List Thr->List Thr}(h:Sz s s1 F)(b:Fx F t):dnB s1 t=dnB s t:=by unfold dnB;rw[h.T,b.get]
theorem q2T:∀(l:jj) (s s1:GS),EqS s s1->EqS (q0j c P s l) (q0j c P s1 l)
 | [],_,_,h=>h
 |_::l,_,_,h=>q2T l _ _ (h.do q1C).2
theorem qhi:∀(l:jj) (s s1:GS),EqS s s1->Val c P s l->Val c P s1 l
 | [],_,_,_,_=>trivial
 |_::l,_,_,h,⟨⟨i,d⟩,b⟩=>⟨⟨i,(qaw h q1C).trans d⟩,qhi l _ _ (h.do q1C).2 b⟩
theorem q3y:∀(l:jj) (s s1:GS),EqS s s1->q6V c P s l->q6V c P s1 l
 | [],_,_,_,_=>trivial
 |_::l,_,_,h,⟨b,d⟩=>⟨(q5Q h q1C).trans b,q3y l _ _ (h.do q1C).2 d⟩
theorem q1q:∀(l:jj) (s:GS),q6V c P s l->Val c P s l
 | [],_,_=>trivial
 |t::l,s,⟨b,d⟩=>by
  obtain⟨i,e, -⟩:=q4T b;exact⟨⟨i,e⟩,q1q l _ d⟩
theorem qb0:∀(l m:jj) (s:GS),Val c P s (l++m)↔Val c P s l/\Val c P (q0j c P s l) m
 | [],_,_=>⟨fun h=>⟨trivial,h⟩,fun h=>h.2⟩
 |t::l,m,s=>by
  show(_/\Val c P _ (l++m))↔(_/\Val c P _ l)/\_;rw[qb0 l m,and_assoc];rfl
theorem ql1{h:Thr}:∀(l:jj) (s s1:GS),(∀t∈l,t≠x)->Sz s s1 (fun T=>T.set x h)->Sz (q0j c P s l) (q0j c P s1 l) (fun T=>T.set x h)
 | [],_,_,_,h=>h
 |t::l,_,_,b,h=>ql1 l _ _ (fun u hu=>b u (zl _ hu)) (h.do (qbF (b t zj))).2
theorem qkb{h:Thr}:∀(l:jj) (s s1:GS),(∀t∈l,t≠x)->Sz s s1 (fun T=>T.set x h)->q6V c P s1 l->q6V c P s l
 | [],_,_,_,_,_=>trivial
 |t::l,_,_,b,h,⟨d,e⟩=>⟨(q5Q h (qbF (b t zj))).symm.trans d,qkb l _ _ (fun u hu=>b u (zl _ hu)) (h.do (qbF (b t zj))).2 e⟩
theorem qdg:∀(l:jj) (s:GS),(∀t∈l,t≠x)->(q0j c P s l).T[x]? =s.T[x]?
 | [],_,_=>rfl
 |t::l,_,b=>(qdg l _ (fun u hu=>b u (zl _ hu))).trans (qre (fun e=>b t zj e.symm))
theorem qrV(h:s1.T[x]? =s.T[x]?):nxM P s1 x=nxM P s x:=by unfold nxM;rw[h]
theorem qfr(h:s1.T[x]? =s.T[x]?):q2J P s1 x=q2J P s x:=by unfold q2J;rw[qrV h]
theorem qsS(h:s1.T[x]? =s.T[x]?):dnB s1 x=dnB s x:=by unfold dnB;rw[h]
theorem qsB(o:q2J P s x=true)(l:jj)(h:∀t∈l,t≠x):EqS (q0j c P (doM c P s (ch0 x)).2 l) (doM c P (q0j c P s l) (ch0 x)).2:=by
 obtain⟨i,m,e⟩:=q4T o;obtain⟨th,p,d,j,hd,b⟩:=q4v m;exact(ql1 l _ _ h (q96 (c:=c) d j hd b e)).eqs (q96 (c:=c) ((qdg l s h).trans d) j hd b e)
theorem qrn(t:Nat):∀(u:jj) (s:GS),q6V c P s u->q6V c P s (u.filter (· ==t))/\EqS (q0j c P s u) (q0j c P (q0j c P s (u.filter (· ==t))) (u.filter (· !=t)))/\q6V c P (q0j c P s (u.filter (· ==t))) (u.filter (· !=t))
 | [],s,_=>⟨trivial,EqS.refl,trivial⟩
 |x::u,s,⟨b,q⟩=>by
  obtain⟨g1,g2,g3⟩:=qrn t u _ q
  by_cases d:x=t
  ·subst d;simp only[yL,beq_self_eq_true,if_true,bne_self_eq_false,zL,if_false];exact⟨⟨b,g1⟩,g2,g3⟩
  ·have hb:(x==t)=false:=by simpa using d
   have h:(x !=t)=true:=by simpa using d
   simp only[yL,hb,h,if_true,zL,if_false];have l:∀y∈u.filter (· ==t),y≠x:=fun y B e=>by
    have:=(Zt.1 B).2;simp only[beq_iff_eq] at this;exact d (e.symm.trans this)
   have o:=qsB (c:=c) b _ l;obtain⟨i,z,w⟩:=q4T b;obtain⟨th,p,m,A,hd,j⟩:=q4v z;refine⟨qkb _ _ _ l (q96 (c:=c) m A hd j w) g1,g2.trans (q2T _ _ _ o),?_,q3y _ _ _ o g3⟩;rw[qfr (qdg _ s l)];exact b
theorem push(t:Nat):∀(u:jj) (s:GS),(∀y∈u,y≠t)->q6V c P s u->EqS (doM c P (q0j c P s u) (ch0 t)).2 (q0j c P (doM c P s (ch0 t)).2 u)/\q6V c P (doM c P s (ch0 t)).2 u
 | [],s,_,_=>⟨EqS.refl,trivial⟩
 |x::u,s,hu,⟨h,l⟩=>by
  obtain⟨g1,g2⟩:=push t u _ (fun y d=>hu y (zl _ d)) l;have b:=hu x zj;have j:=qsB (c:=c) h [t] (fun y d=>by rw[zf.1 d];exact fun e=>b e.symm);refine⟨g1.trans (q2T u _ _ j),?_,q3y u _ _ j g2⟩;rw[qfr (qre b)];exact h
theorem qby:∀(l:jj) (s:GS),Val c P s l->q6V c P s l\/∃u t w,l=u++t::w/\q6V c P s u/\q2J P (q0j c P s u) t=false
 | [],_,_=> .inl trivial
 |x::l,s,⟨h1,d⟩=>by
  cases b:q2J P s x with
  |false=>exact .inr ⟨[],x,l,rfl,trivial,b⟩
  |true=>
   rcases qby l _ d with h|⟨u,t,w,he,e,j⟩
   ·exact .inl ⟨b,h⟩
   ·exact .inr ⟨x::u,t,w,by rw[he];rfl,⟨b,e⟩,j⟩
theorem q7H(t:Nat):∀(n:Nat) (s:GS) (l:List ChM),∃m,q0X c P t n s l=(q0j c P s (List.replicate m t),l++List.replicate m (ch0 t))/\q6V c P s (List.replicate m t)
 |0,s,l=>⟨0,by simp[q0X,q0j],trivial⟩
 |n+1,s,l=>by
  unfold q0X;cases hb:q2J P s t with
  |false=>exact⟨0,by simp[q0j],trivial⟩
  |true=>
   rw[if_pos rfl];obtain⟨m,b,d⟩:=q7H t n (doM c P s (ch0 t)).2 (l++ [ch0 t]);refine⟨m+1,?_,hb,d⟩;rw[b,ZY,ZY,q9g];simp
theorem q4d(t:Nat):∀(m k:Nat) (s:GS),q6V c P s (List.replicate m t)->q6V c P s (List.replicate k t)->q2J P (q0j c P s (List.replicate m t)) t=false->q2J P (q0j c P s (List.replicate k t)) t=false->m=k
 |0,0,_,_,_,_,_=>rfl
 |0,k+1,s,_,⟨b,_⟩,d,_=>by rw[show q2J P s t=false from d] at b;cases b
 |m+1,0,s,⟨b,_⟩,_,_,d=>by rw[show q2J P s t=false from d] at b;cases b
 |m+1,k+1,s,⟨_,b⟩,⟨_,d⟩,e,h=>by rw[q4d t m k _ b d e h]
theorem q7Z(t:Nat)(u:jj):∃m,u.filter (· ==t)=List.replicate m t:=⟨_,List.eq_replicate_iff.2 ⟨rfl,fun y b=>by have:=(Zt.1 b).2;simpa using this⟩⟩
end
open Go
section
variable{c:Cfg}{P:List (jg)}{fo:je}
theorem qhp{o:Option Ins}:(0:Int)∈q2B fo o:=by
 unfold q2B
 split
 ·split
  ·exact zj
  ·exact zf.2 rfl
 ·exact zf.2 rfl
theorem q2U(b:q99 P):∀(l:jj) (s:GS),GOk c P s->Val c P s l->GOk c P (q0j c P s l)/\(q0j c P s l).n+qP P (q0j c P s l)<=s.n+qP P s/\qP P (q0j c P s l)+l.length<=qP P s
 | [],_,d,_=>⟨d,zq _,zq _⟩
 |t::l,s,d,⟨⟨i,m⟩,e⟩=>by
  obtain⟨-,g1,g2, -,g4,g5⟩:(doM c P s (ch0 t)).1=0/\GOk c P (doM c P s (ch0 t)).2/\(doM c P s (ch0 t)).2.n=s.n+1/\q4V P (doM c P s (ch0 t)).2 t<q4V P s t/\(doM c P s (ch0 t)).2.n+qP P (doM c P s (ch0 t)).2<=s.n+qP P s/\qP P (doM c P s (ch0 t)).2<qP P s:=q1H d b m (.inl rfl);obtain⟨h,j,h5⟩:=q2U b l _ g1 e;exact⟨h,Zc j g4,by rw[zm];show qP P (q0j c P (doM c P s (ch0 t)).2 l)+(l.length+1)<=_;omega⟩
theorem q7S{s s1:GS}(h:EqS s s1):q2E s1=q2E s:=by unfold q2E;rw[h.T];rfl
theorem qlS{s:GS}(h:q2E s=true)(t:Nat):dnB s t=true:=by
 unfold dnB;cases b:s.T[t]? with
 |none=>rfl
 |some th=>exact zX.1 h th (zg b)
theorem qmU{s:GS}{t:Nat}{i:Ins}(h:nxM P s t=some i):t<s.T.length:=by
 obtain⟨th,p,b, -⟩:=q4v h;exact(z7.1 b).1
theorem qqe{m t:Nat}{l:jj}(h:l=List.replicate m t)(hm:t∈l):m≠0:=by
 intro e;subst e;subst h;cases hm
theorem qlN(j:q99 P):∀(n:Nat) (s:GS) (l:jj),GOk c P s->qP P s<n->Val c P s l->q2E (q0j c P s l)=true->∀s1 D,EqS s s1->GOk c P s1->∃s' l',qhr c P fo s1 D s' l'/\EqS (q0j c P s l) s'
 |0,_,_,_,hn,_,_,_,_,_,_=>absurd hn Yu
 |n+1,s,[],_,_,_,hd,s1,D,he,_=>⟨s1,D, .done ((q7S he).trans hd),he⟩
 |n+1,s,x::l,L,hn,hv,hd,s1,D,he,B=>by
  rcases qby _ _ hv with V|⟨u,t,w,hl,hu,ay⟩
  · --all steps are local:those of O A x come first
   obtain⟨G,H,p3⟩:=qrn x _ _ V;obtain⟨m,hm⟩:=q7Z x (x::l);rw[hm] at G H p3;have hm0:m≠0:=qqe hm (Zt.2 ⟨zj,Yw⟩);obtain⟨i,Q⟩:=hv.1;have N:x<s1.T.length:=by rw[he.T];exact qmU Q
   have aq:dnB s1 x=false:=by
    rw[dn_eq he q1C];cases hb:dnB s x with
    |false=>rfl
    |true=>rw[(q21 L).2 hb] at Q;cases Q
   have I:dnB (q0j c P s (List.replicate m x)) x=true:=by
    rw[<-qsS (qdg (x:=x) ((x::l).filter (· !=x)) (c:=c) (P:=P) _ (fun y hy e=>by have:=(Zt.1 hy).2;simp[e] at this)),<-dn_eq H.symm q1C];exact qlS hd x
   obtain⟨k,M,E⟩:=q7H (c:=c) (P:=P) x 64 s1 D;obtain⟨a1,a2,a3,a4,a5⟩:=q5t (t:=x) j 64 s1 D B;have d:=a5 (q9c B);rw[M] at d a1 a2 a4;have b:=q2T (c:=c) (P:=P) (List.replicate m x) _ _ he;have aw:q2J P (q0j c P s1 (List.replicate m x)) x=false:=by
    rw[q5Q b q1C];unfold q2J;rw[(q21 (q2U j _ _ L (q1q _ _ G)).1).2 I]
   obtain rfl:=q4d x _ _ _ (q3y _ _ _ he G) E aw d;have o:qP P (q0j c P s (List.replicate m x))<n:=by
    have:=(q2U j _ _ L (q1q _ _ G)).2.2;rw[zO] at this;omega
   obtain⟨s',l',h1,R⟩:=qlN j n (q0j c P s (List.replicate m x)) ((x::l).filter (· !=x)) (q2U j _ _ L (q1q _ _ G)).1 o (q1q _ _ p3) ((q7S H).trans hd) (q0j c P s1 (List.replicate m x)) (D++List.replicate m (ch0 x)) b a1;exact⟨s',l', .loc N aq (by rw[M];exact(dn_eq b q1C).trans I) (by rw[M];exact h1),H.trans R⟩
  · --O first step aj is not local,of O A t,comes first,behind O local ones of t
   rw[hl] at hv hd ⊢;obtain⟨hvu,⟨⟨i,Q⟩,aA⟩⟩:=(qb0 u (t::w) s).1 hv;obtain⟨G,H,p3⟩:=qrn t _ _ hu;obtain⟨m,hm⟩:=q7Z t u;rw[hm] at G H p3;have J:∀y∈u.filter (· !=t),y≠t:=fun y hy e=>by have:=(Zt.1 hy).2;simp[e] at this
   obtain⟨q1,q2⟩:=push (c:=c) (P:=P) t _ _ J p3;have T:=(q2U j _ _ L (q1q _ _ G))
   have U:(q0j c P (q0j c P s (List.replicate m t)) (u.filter (· !=t))).T[t]? =(q0j c P s (List.replicate m t)).T[t]? :=qdg _ _ J;have X:nxM P (q0j c P s (List.replicate m t)) t=some i:=by rw[<-qrV U,qaw H q1C];exact Q
   have ax:q2J P (q0j c P s (List.replicate m t)) t=false:=by rw[<-qfr U,q5Q H q1C];exact ay
   have b:=q2T (c:=c) (P:=P) (List.replicate m t) _ _ he;obtain⟨k,M,E⟩:=q7H (c:=c) (P:=P) t 64 s1 D;obtain⟨a1,a2,a3,a4,a5⟩:=q5t (t:=t) j 64 s1 D B;have d:=a5 (q9c B);rw[M] at d a1;obtain rfl:=q4d t _ _ _ (q3y _ _ _ he G) E ((q5Q b q1C).trans ax) d;have az:∀{z:GS},GOk c P z->nxM P z t=some i->dnB z t=false:=fun{z} hz af=>by
    cases hb:dnB z t with
    |false=>rfl
    |true=>rw[(q21 hz).2 hb] at af;cases af
   have q:nxM P (q0j c P s1 (List.replicate m t)) t=some i:=(qaw b q1C).trans X;have N:t<s1.T.length:=by
    rw[he.T];have h0:=qmU Q;have h1:=(q2U j _ _ L (q1q _ _ hu)).1.tl;have R:=L.tl;show t<s.T.length;omega
   have au:dnB s1 t=false:=by
    cases hb:dnB s1 t with
    |false=>rfl
    |true=>
     --a A aj is done stays done
     have Z:=(q21 B).2 hb;cases m with
     |zero=>rw[show q0j c P s1 (List.replicate 0 t)=s1 from rfl] at q;rw[Z] at q;cases q
     |succ m=>
      have:=E.1;unfold q2J at this;rw[Z] at this;cases this
   obtain⟨-,g1,g2, -,g4,g5⟩:(doM c P (q0j c P s (List.replicate m t)) (ch0 t)).1=0/\GOk c P (doM c P (q0j c P s (List.replicate m t)) (ch0 t)).2/\_/\_/\_/\qP P (doM c P (q0j c P s (List.replicate m t)) (ch0 t)).2<qP P (q0j c P s (List.replicate m t)):=q1H T.1 j X (.inl rfl);have o:qP P (doM c P (q0j c P s (List.replicate m t)) (ch0 t)).2<n:=by
    have:=T.2.2;omega
   have C:EqS (doM c P (q0j c P s u) (ch0 t)).2 (q0j c P (doM c P (q0j c P s (List.replicate m t)) (ch0 t)).2 (u.filter (· !=t))):=EqS.trans (H.do q1C).2 q1;have hw:=q2T (c:=c) (P:=P) w _ _ C;have ae:Val c P (doM c P (q0j c P s (List.replicate m t)) (ch0 t)).2 (u.filter (· !=t)++w):=(qb0 _ _ _).2 ⟨q1q _ _ q2,qhi _ _ _ C aA⟩;have W:q0j c P s (u++t::w)=q0j c P (doM c P (q0j c P s u) (ch0 t)).2 w:=by rw[q8m,q9g]
   rw[W] at hd ⊢;have S:=qcY a1 (ch:=ch0 t) (fun _ h=>(by cases h));obtain⟨s',l',h1,R⟩:=qlN j n (doM c P (q0j c P s (List.replicate m t)) (ch0 t)).2 (u.filter (· !=t)++w) g1 o ae (by rw[q8m];exact(q7S hw).trans hd) (doM c P (q0j c P s1 (List.replicate m t)) (ch0 t)).2 (D++List.replicate m (ch0 t)++ [ch0 t]) (b.do q1C).2 S;rw[q8m] at R;exact⟨s',l', .step (t:=t) (k:=0) N au (by rw[M];exact az a1 q) qhp (by rw[M];exact h1),hw.trans R⟩
end
open Go
structure EvS(s:GS):Prop where
 st:s.E.Pairwise (fun a b=>a.ev<=b.ev)
 le:∀e∈s.E,e.ev<=s.n
section
variable{c:Cfg}{P:List (jg)}{s s':GS}{t:Nat}{th:Thr}{p:jg}{i:Ins}{f:Int}{ad:je}{fo:je}
def qox(s s':GS):Prop:=∃F,s'.E=s.E++F/\∀e∈F,e.ev=s.n
theorem qib{l:List ObM}{E:jl}{d:je}{tk:List Bool}(h:some (((s.mem d tk).ev E).fin t th l)=some s')(b:∀e∈E,e.ev=s.n):qox s s':=by
 obtain rfl:=Option.some.inj h;exact⟨E,rfl,b⟩
theorem qbw{l:List ObM}(h:some (s.fin t th l)=some s'):qox s s':=by
 obtain rfl:=Option.some.inj h;exact⟨[],(zz _).symm,fun _ h=>(by cases h)⟩
theorem qkQ{n:Nat}{k a:Int}:∀e∈plE c n t k a,e.ev=n:=by
 unfold plE
 split
 ·intro e he;simp only[zN,List.not_mem_nil,or_false] at he
  rcases he with rfl|rfl <;>rfl
 ·intro e he;rw[zf.1 he]
theorem qt4(h:sgM c p s th t f i=some s'):qox s s':=by
 unfold sgM at h;generalize adr th.rg (if i.op=12 then i.b else i.a) i.imm=a at h;dsimp only at h
 split at h
 ·split at h
  ·split at h
   ·exact qbw h
   ·cases h
  ·split at h
   ·exact qbw h
   ·split at h
    ·exact qib (d:=s.d) (tk:=s.tk) h qkQ
    ·exact qib h qkQ
 ·split at h
  ·cases h
  ·exact qbw h
theorem qla{n:Nat}{r w:je}:∀e∈ [(⟨n,t,3,0,[],[]⟩:EvM),⟨n,t,4,0,r,w⟩],e.ev=n:=by
 intro e he;simp only[zN,List.not_mem_nil,or_false] at he
 rcases he with rfl|rfl <;>rfl
theorem qt8(h:txM c p s th t f ad=some s'):qox s s':=by
 unfold txM at h
 split at h
 ·split at h
  ·exact qbw h
  ·cases h
 ·generalize q2c c p p.length _=r at h;obtain⟨b,o⟩:=r;dsimp only at h
  split at h
  ·cases h
  ·split at h
   ·exact qib h qla
   ·exact qib (d:=s.d) (tk:=s.tk) h qla
theorem qeA(h:EvS s)(ch:ChM):EvS (doM c P s ch).2:=by
 unfold doM;cases d:chM c P s ch with
 |none=>exact h
 |some s'=>
  have o:qox s s':=by
   unfold chM at d
   split at d
   ·cases d
   ·split at d
    ·split at d
     ·cases d
     ·split at d
      ·split at d
       ·exact qt8 d
       ·split at d
        ·exact qt4 d
        ·cases d
      ·cases d
    ·cases d
  obtain⟨F,m,j⟩:=o;refine⟨?_,fun e he=>?_⟩
  ·show s'.E.Pairwise _;rw[m];refine yE.2 ⟨h.st,?_,fun a d b hb=>by rw[j b hb];exact h.le a d⟩;refine List.Pairwise.imp_of_mem ?_ (List.pairwise_of_forall (R:=fun _ _=>True) fun _ _=>trivial);intro a b d hb _;rw[j a d,j b hb];exact zW _
  ·have l:e∈s.E++F:=m ▸ he;show e.ev<=((s.n+1:Nat):Int)
   rcases zy.1 l with he|he
   ·have:=h.le e he;omega
   ·rw[j e he];omega
theorem qfA{il:je}:EvS (q19 c il P):=⟨List.Pairwise.nil,fun _ h=>(by cases h)⟩
theorem q9Z(t:Nat):∀(n:Nat) (s:GS) (l:List ChM),EvS s->EvS (q0X c P t n s l).1
 |0,_,_,h=>h
 |n+1,s,l,h=>by
  unfold q0X
  split
  ·exact q9Z t n _ _ (qeA h _)
  ·exact h
theorem qhr.evS{l l':List ChM}(h:qhr c P fo s l s' l'):EvS s->EvS s':=by
 induction h with
 |done h=>exact fun h=>h
 |loc e hd d _ b=>exact fun h=>b (q9Z _ _ _ _ h)
 |step e hd d hk _ b=>exact fun h=>b (qeA (q9Z _ _ _ _ h) _)
end
open Go
def q62(c:Cfg)(P:List (jg))(s:GS)(l:List (Nat×Int)):GS:=l.foldl (fun s z=>(doM c P s ⟨z.1,z.2,[]⟩).2) s
def q9W(c:Cfg)(P:List (jg))(fo:je):GS->List (Nat×Int)->Prop
 |_,[]=>True
 |s,z::l=>(∃i,nxM P s z.1=some i/\(z.2=0\/(i.op=7/\z.2∈fo)))/\q9W c P fo (doM c P s ⟨z.1,z.2,[]⟩).2 l
abbrev zK(u:jj):List (Nat×Int):=u.map fun t=>(t,0)
section
variable{c:Cfg}{P:List (jg)}{fo:je}{s s1:GS}{t x:Nat}
theorem q64:∀(u:jj) (s:GS),q62 c P s (zK u)=q0j c P s u
 | [],_=>rfl
 |_::u,_=>q64 u _
theorem q5l{l m:List (Nat×Int)}:q62 c P s (l++m)=q62 c P (q62 c P s l) m:=yY ..
theorem qch:∀(l:List (Nat×Int)) (s s1:GS),EqS s s1->EqS (q62 c P s l) (q62 c P s1 l)
 | [],_,_,h=>h
 |_::l,_,_,h=>qch l _ _ (h.do q1C).2
theorem qcL:∀(l:List (Nat×Int)) (s s1:GS),EqS s s1->q9W c P fo s l->q9W c P fo s1 l
 | [],_,_,_,_=>trivial
 |_::l,_,_,h,⟨⟨i,b⟩,d⟩=>⟨⟨i,(qaw h q1C).trans b.1,b.2⟩,qcL l _ _ (h.do q1C).2 d⟩
theorem q5o:∀(l m:List (Nat×Int)) (s:GS),q9W c P fo s (l++m)↔q9W c P fo s l/\q9W c P fo (q62 c P s l) m
 | [],_,_=>⟨fun h=>⟨trivial,h⟩,fun h=>h.2⟩
 |z::l,m,s=>by
  show(_/\q9W c P fo _ (l++m))↔(_/\q9W c P fo _ l)/\_;rw[q5o l m,and_assoc];rfl
theorem qle:∀(u:jj) (s:GS),Val c P s u->q9W c P fo s (zK u)
 | [],_,_=>trivial
 |_::u,_,⟨⟨i,d⟩,b⟩=>⟨⟨i,d, .inl rfl⟩,qle u _ b⟩
theorem qqa(t:Nat)(k:Int):∀(u:jj) (s:GS),(∀y∈u,y≠t)->q6V c P s u->EqS (doM c P (q0j c P s u) ⟨t,k,[]⟩).2 (q0j c P (doM c P s ⟨t,k,[]⟩).2 u)/\q6V c P (doM c P s ⟨t,k,[]⟩).2 u
 | [],s,_,_=>⟨EqS.refl,trivial⟩
 |x::u,s,hu,⟨j,q⟩=>by
  obtain⟨g1,g2⟩:=qqa t k u _ (fun y z=>hu y (zl _ z)) q;have b:=hu x zj;have m:EqS (doM c P (doM c P s (ch0 x)).2 ⟨t,k,[]⟩).2 (doM c P (doM c P s ⟨t,k,[]⟩).2 (ch0 x)).2:=by
   obtain⟨i,w,l⟩:=q4T j;obtain⟨th,p,h,o,hd,d⟩:=q4v w;exact((q96 (c:=c) h o hd d l).do (qbF fun e=>b e.symm)).2.eqs (q96 (c:=c) ((qre (fun e=>b e)).trans h) o hd d l)
  refine⟨g1.trans (q2T u _ _ m),?_,q3y u _ _ m g2⟩;rw[qfr (qre b)];exact j
theorem q8X:∀(l:List (Nat×Int)) (s:GS),q9W c P fo s l->(∃u,l=zK u/\q6V c P s u)\/∃u t k w,l=zK u++(t,k)::w/\q6V c P s u/\q2J P (q0j c P s u) t=false
 | [],_,_=> .inl ⟨[],rfl,trivial⟩
 |(x,k)::l,s,⟨⟨i,o,q⟩,e⟩=>by
  cases b:q2J P s x with
  |false=>exact .inr ⟨[],x,k,l,rfl,trivial,b⟩
  |true=>
   have d:k=0:=q.resolve_right fun h=>by
    unfold q2J at b;rw[o] at b;have:(0<=i.op/\i.op<=6)\/i.op=17:=of_decide_eq_true b;omega
   subst d
   rcases q8X l _ e with ⟨u,hu,h⟩|⟨u,t,k,w,he,j,m⟩
   ·exact .inl ⟨x::u,by rw[hu];rfl,b,h⟩
   ·exact .inr ⟨x::u,t,k,w,by rw[he];rfl,⟨b,j⟩,m⟩
theorem qkm(d:q99 P)(L:∀k∈fo,3<=k/\k<=6):∀(n:Nat) (s:GS) (l:List (Nat×Int)),GOk c P s->qP P s<n->q9W c P fo s l->q2E (q62 c P s l)=true->∀s1 D,EqS s s1->GOk c P s1->∃s' l',qhr c P fo s1 D s' l'/\EqS (q62 c P s l) s'
 |0,_,_,_,hn,_,_,_,_,_,_=>absurd hn Yu
 |n+1,s,l,U,hn,hv,hd,s1,D,he,A=>by
  rcases q8X _ _ hv with ⟨u,rfl,I⟩|⟨u,t,k,w,hl,hu,aq⟩
  ·rw[q64] at hd ⊢;exact qlN d (n+1) s u U hn (q1q _ _ I) hd s1 D he A
  ·rw[hl] at hv hd ⊢;obtain⟨hvu,⟨⟨i,hi,M⟩,S⟩⟩:=(q5o (zK u) ((t,k)::w) s).1 hv;rw[q64] at hi S;obtain⟨p1,W,p3⟩:=qrn t _ _ hu;obtain⟨m,hm⟩:=q7Z t u;rw[hm] at p1 W p3;have B:∀y∈u.filter (· !=t),y≠t:=fun y hy e=>by have:=(Zt.1 hy).2;simp[e] at this
   obtain⟨q1,q2⟩:=qqa (c:=c) (P:=P) t k _ _ B p3;have G:=(q2U d _ _ U (q1q _ _ p1))
   have H:(q0j c P (q0j c P s (List.replicate m t)) (u.filter (· !=t))).T[t]? =(q0j c P s (List.replicate m t)).T[t]? :=qdg _ _ B;have N:nxM P (q0j c P s (List.replicate m t)) t=some i:=by rw[<-qrV H,qaw W q1C];exact hi
   have aj:q2J P (q0j c P s (List.replicate m t)) t=false:=by rw[<-qfr H,q5Q W q1C];exact aq
   have j:=q2T (c:=c) (P:=P) (List.replicate m t) _ _ he;obtain⟨k',V,O⟩:=q7H (c:=c) (P:=P) t 64 s1 D;obtain⟨a1,a2,a3,a4,a5⟩:=q5t (t:=t) d 64 s1 D A;have q:=a5 (q9c A);rw[V] at q a1;obtain rfl:=q4d t _ _ _ (q3y _ _ _ he p1) O ((q5Q j q1C).trans aj) q;have au:∀{z:GS},GOk c P z->nxM P z t=some i->dnB z t=false:=fun{z} hz T=>by
    cases hb:dnB z t with
    |false=>rfl
    |true=>rw[(q21 hz).2 hb] at T;cases T
   have b:nxM P (q0j c P s1 (List.replicate m t)) t=some i:=(qaw j q1C).trans N;have aw:t<s1.T.length:=by
    rw[he.T];have h0:=qmU hi;have h1:=(q2U d _ _ U (q1q _ _ hu)).1.tl;have X:=U.tl;show t<s.T.length;omega
   have Z:dnB s1 t=false:=by
    cases hb:dnB s1 t with
    |false=>rfl
    |true=>
     have Q:=(q21 A).2 hb;cases m with
     |zero=>rw[show q0j c P s1 (List.replicate 0 t)=s1 from rfl] at b;rw[Q] at b;cases b
     |succ m=>
      have:=O.1;unfold q2J at this;rw[Q] at this;cases this
   have af:k=0\/(i.op=7/\3<=k/\k<=6):=M.imp id fun h=>⟨h.1,L _ h.2⟩
   obtain⟨-,g1,g2, -,g4,g5⟩:=q1H G.1 d N af;have C:qP P (doM c P (q0j c P s (List.replicate m t)) ⟨t,k,[]⟩).2<n:=by
    have:=G.2.2;omega
   have o:EqS (doM c P (q0j c P s u) ⟨t,k,[]⟩).2 (q0j c P (doM c P (q0j c P s (List.replicate m t)) ⟨t,k,[]⟩).2 (u.filter (· !=t))):=EqS.trans (W.do q1C).2 q1;have hw:=qch (c:=c) (P:=P) w _ _ o;have R:q9W c P fo (doM c P (q0j c P s (List.replicate m t)) ⟨t,k,[]⟩).2 (zK (u.filter (· !=t))++w):=(q5o _ _ _).2 ⟨qle _ _ (q1q _ _ q2),by rw[q64];exact qcL _ _ _ o S⟩;have J:q62 c P s (zK u++(t,k)::w)=q62 c P (doM c P (q0j c P s u) ⟨t,k,[]⟩).2 w:=by rw[q5l,q64];rfl
   rw[J] at hd ⊢;have E:=qcY a1 (ch:=⟨t,k,[]⟩) (fun _ h=>(by cases h));obtain⟨s',l',h1,X⟩:=qkm d L n (doM c P (q0j c P s (List.replicate m t)) ⟨t,k,[]⟩).2 (zK (u.filter (· !=t))++w) g1 C R (by rw[q5l,q64];exact(q7S hw).trans hd) (doM c P (q0j c P s1 (List.replicate m t)) ⟨t,k,[]⟩).2 (D++List.replicate m (ch0 t)++ [⟨t,k,[]⟩]) (j.do q1C).2 E;rw[q5l,q64] at X;refine⟨s',l', .step (t:=t) (k:=k) aw Z (by rw[V];exact au a1 b) ?_ (by rw[V];exact h1),hw.trans X⟩;rw[V];show k∈q2B fo (nxM P (q0j c P s1 (List.replicate m t)) t);rw[b];unfold q2B
   rcases M with h|⟨h7,ae⟩
   ·subst h;dsimp only
    split <;>exact zj
   ·dsimp only;rw[if_pos h7];exact zl _ ae
end
open Go
abbrev q9S(x:ChM):jf:= [j5 x.t,j5 x.f,j7]
section
variable{W0:World}{own:Own}
theorem q2W{a:j9}{l:List ChM}{cap:Nat}(d:RdE q9S 3 W0 own a l)(hl:l.length<=1000000000):
  jn W0 18 [.slice a l.length cap] own fun v own'=>∃s:j9×Nat×Own,(v= .slice s.1 l.length s.2.1/\qo q9S 61 3 s.1 s.2.1 l s.2.2)/\Ent W0 own' (s.2.2++own):=by
 refine sH [] ?_;cases a with
 |none=>
  have e:l= []:=by
   by_cases h:l= []
   ·exact h
   ·have:=d.isS h;cases this
  subst e
  repeat'((try conv=>whnf);first|refine fE ?_)
  exact⟨(none,0,[]),⟨rfl,qo.nil⟩,(eC)⟩
 |some a=>
  repeat'((try conv=>whnf);first|refine fD ?_|refine q5v (enc:=q9S) (l:= []) (l2:=l) qo.nil (At.head (D:= []) (r:=_)) d.up rfl rfl Yu (fun _ _=>rfl) (fun _=>by simp;omega) fun a1 c1 D1 b=>?_;rw[zE,zA l.length];apply Stop.h|refine qf fun bk hbk=>?_)
  refine Stop.mk ?_;rw[zk] at b;exact⟨(a1,c1,D1),⟨rfl,b⟩,Ent.of_sub ((zR _ own).append_left D1)⟩
theorem q6L{a:j9}{l:ji}{cap:Nat}(d:RdE EH.enc 6 W0 own a l)(hl:l.length<=1000000000):
  jn W0 45 [.slice a l.length cap] own fun v own'=>∃s:j9×Nat×Own,(v= .slice s.1 l.length s.2.1/\qo EH.enc 100 6 s.1 s.2.1 l s.2.2)/\Ent W0 own' (s.2.2++own):=by
 refine sH [] ?_;cases a with
 |none=>
  have e:l= []:=by
   by_cases h:l= []
   ·exact h
   ·have:=d.isS h;cases this
  subst e
  repeat'((try conv=>whnf);first|refine fE ?_)
  exact⟨(none,0,[]),⟨rfl,qo.nil⟩,(eC)⟩
 |some a=>
  repeat'((try conv=>whnf);first|refine fD ?_|refine q5v (enc:=EH.enc) (l:= []) (l2:=l) qo.nil (At.head (D:= []) (r:=_)) d.up rfl rfl Yu (fun _ _=>rfl) (fun _=>by simp;omega) fun a1 c1 D1 b=>?_;rw[zE,zA l.length];apply Stop.h|refine qf fun bk hbk=>?_)
  refine Stop.mk ?_;rw[zk] at b;exact⟨(a1,c1,D1),⟨rfl,b⟩,Ent.of_sub ((zR _ own).append_left D1)⟩
theorem qsg{a:j9}{n sz:Nat}:slA a n 0 sz=a:=by
 unfold slA
 split
 ·rfl
 ·cases a with
  |none=>rfl
  |some a=>rw[Nat.zero_mul];show some (a.add 0)=some a;simp[Addr.add]
theorem qsh{a:j9}{n c sz:Nat}{K:Value->Prop}(b:n<=c)(h:K (.slice a n n)):qon a n c sz none (some (n:Int)) (some (n:Int)) K:=
 ⟨0,n,n,rfl,rfl,rfl,zv _,fun _=>zq _,fun _=>b,fun _=>rfl,by rw[qsg];exact h⟩
theorem qnm{a:j9}{n c:Nat}(b:n<=c):jo W0 24 [.slice a n c] own (.slice a n n):=by
 refine qg (sH [] ?_)
 repeat'((try conv=>whnf);first|refine qsh b ?_)
 exact⟨rfl,(eC)⟩
end
abbrev GP.A(g:GP)(c:Cfg)(b:Nat)(s:GS):Own:=(g.gb,j8 (g.cells c b s).toArray 115 (0,0))::(g.dD++((g.mb,q3r (mpV g.ml))::(g.tD++(g.eD++(g.oD++q3B g.S)))))
section
variable{W0:World}{Kp Y:Own}{g g':GP}{c:Cfg}{ps:jk}{s s':GS}
theorem GP.back{d b:Nat}{q:Own}(h:∃Z,g'.X=Z++g.X):Ent W0 (g'.O c b s'++(g.A c d s++q)) (g.O c d s++q):=by
 obtain⟨Z,l⟩:=h;have:∀e:Own,e=Z++g.X->Ent W0 (({g' with X:=e}:GP).O c b s'++(g.A c d s++q)) (g.O c d s++q):=fun e j=>by
  subst j;refine qu (({g' with X:= []}:GP).O c b s'++Z) fun a=>?_
  simp only[GP.O,GP.A,GP.cells,q1s,q3R,q5B];omega
 exact this g'.X l
theorem qm0{j l m o:jd}{dD tD eD oD S D1 b d e h X q:Own}:Ent W0 (e++(h++(d++(b++(D1++(m::(j::((l::(dD++(o::(tD++(eD++(oD++(S++X)))))))++q)))))))) ((j::(D1++(m::(b++(d++(e++(h++X)))))))++((l::(dD++(o::(tD++(eD++(oD++S))))))++q)):=
 qu []
theorem qm1{b1:jd}{D b d R:Own}:Ent W0 (b1::(D++(b++(d++R)))) (b++((d++D)++R)):=qu [b1]
theorem q9t(h:g.ok W0 Kp ps s)(d:g.ev W0 Y)(J:SzG s)(q:Own):
  jn W0 21 [jp g.gb] (g.O c ps.length s++q) fun v own'=>∃g':GP,
   (v= jp g'.gb/\g'.ok W0 Kp ps s/\g'.ev W0 g.X)/\Ent W0 own' (g'.O c ps.length s++(g.A c ps.length s++q)):=by
 have hEl:g.L.length=s.E.length:=by rw[<-h.em,zi]
 have hSl:g.S.length=s.O.length:=by rw[<-h.ol,zi]
 have C:=h.o.rd (W0:=W0);have hd:=J.d;have ht:=J.t;have hE:=J.e;have hO:=J.o;refine sH [3,7,1,5,10,12,14,15,18,0,10,5,12,14,15,18,0] ?_;have R:=fun(own':Own) [qr own' g.dD] [qy g.mb (q3r (mpV g.ml)) own']=>q4Y (own:=own') (dc:=g.dc) (mb:=g.mb) (ml:=g.ml) (RdE.up (h.d.rd (W0:=W0))) Yu
 have U:=fun(own':Own) [qr own' g.tD]=>q2Y (cap:=g.tc) (RdE.up (own:=own') (h.t.rd (W0:=W0))) Yu
 have Q:=fun(own':Own) [qr own' g.eD]=>q6L (cap:=g.ec) (RdE.up (own:=own') (h.e.rd (W0:=W0))) Yu
 repeat'((try conv=>whnf);first|refine qf fun b3 h3=>?_|(apply qe;first|refine qi (R _) fun y v d=>?_;obtain⟨⟨a1,c1,D1⟩,u⟩:=y;obtain⟨rfl,w⟩:=d;dsimp only at w|refine qi (U _) fun y v d=>?_;obtain⟨a2,c2,Z⟩:=y;obtain⟨rfl,z⟩:=d;dsimp only at z|refine qi (Q _) fun y v d=>?_;obtain⟨a3,c3,D3⟩:=y;obtain⟨rfl,A⟩:=d;dsimp only at A)|refine fA ?_|refine fL ?_|refine fQ ?_|refine fN ?_|refine fM ?_)
 refine qK (σ:=Nat×List ObS×j9×Nat×Own) (fun y=> [(33,j5 y.1)])
  (fun y=>y.2.2.2.2++(q3B y.2.1++(D3++(Z++(D1++((u,q3r (mpV g.ml))::((b3,j8 (.slice a1 s.d.length c1:: .map (some u)::cfL c [.slice g.ka ps.length g.kc, .slice a2 s.T.length c2, .slice a3 g.L.length c3, .slice y.2.2.1 y.2.1.length y.2.2.2.1,j5 s.n]).toArray 115 (0,0))::(g.O c ps.length s++q))))))))
  (fun y=>y.1<=g.S.length/\y.2.1.map ObS.l=(g.S.take y.1).map ObS.l/\qo ObS.enc 92 1 y.2.2.1 y.2.2.2.1 y.2.1 y.2.2.2.2/\∀x∈y.2.1,qo ObM.enc 94 3 x.a x.cap x.l x.D)
  (fun y=>g.S.length-y.1) (0,[],none,0,[]) ⟨zv _,rfl,qo.nil,fun _ h=>by cases h⟩ (eF) ?_ rfl ?_
 ·exact Ent.refl
 ·rintro⟨j,L,oa,oc,oD⟩ junk ⟨hj,b,l,m⟩;dsimp only at hj b l m ⊢;have hllS:=qiu b hj
  by_cases D:j<g.S.length
  ·obtain⟨x,G⟩:∃x,g.S[j]? =some x:=⟨_,z6 D⟩
   have I:=zg G;have H:=(h.os x I).rd (W0:=W0);have W:=J.ol x.l (by rw[<-h.ol];exact Zi I);have E:=q28 G;obtain⟨xa,xc,X,xD⟩:=x;dsimp only at H W E;have S:=fun(own':Own) [qr own' xD]=>q2X (cap:=xc) (RdE.up (own:=own') H) Yu
   dsimp only[GP.O];rw[E]
   repeat'((try conv=>whnf);first|refine fF ?_|apply q0z (enc:=ObS.enc) (T:=92) ⟨a4,N,X,M⟩ l;exact rfl;exact rfl;omega;exact rfl;exact rfl;omega;intro a9 c9 D5 O|apply gLd;refine q0l C G rfl ?_|(apply qF;first|refine ixE C G ?_ ?_;(first|rfl|omega))|(apply qe;first|refine qi (S _) fun y v d=>?_;obtain⟨a4,N,M⟩:=y;obtain⟨rfl,B⟩:=d;dsimp only at B)|refine fB ?_|refine fA ?_|refine fN ?_|refine qf fun bk hbk=>?_|refine q1a.mk ?_ ?_)
   all_goals
    refine⟨(j+1,L++ [⟨a4,N,X,M⟩],a9,c9,D5),⟨D,qcE b G rfl,O,fun e he=>?_⟩,(by show g.S.length-(j+1)<g.S.length-j;omega),(eF),?_⟩
    ·rcases zy.1 he with he|he
     ·exact m e he
     ·rw[zf.1 he];exact B
    ·have hlen:(L++ [(⟨a4,N,X,M⟩:ObS)]).length=L.length+1:=Yw;dsimp only;rw[hlen,qc3]
     first|exact ent_cl2|exact qm1
  ·have V:j=g.S.length:=Yu;subst V;rw[Z4] at b
   repeat'((try conv=>whnf);first|refine fG ?_)
   refine⟨⟨b3,u,g.ml,a1,c1,D1,g.ka,g.kc,a2,c2,Z,a3,c3,D3,g.L,g.X,oa,oc,oD,L⟩,⟨rfl,⟨w,h.m,h.k,h.kp,z,A,h.em,l,m,by rw[b,h.ol]⟩,d.1,[],rfl⟩,?_⟩;dsimp only[GP.O,GP.A];exact qm0
end
open Go
section
variable{P:Program}{W0:World}{own own2:Own}{k k0:FuncId}{args args0:jf}{v:Value}
theorem q2k{K:Value->Own->Prop}(h:qA P W0 k0 args0 own2 v)(he:Ent W0 own own2)(b:k=k0)(ea:args=args0)(j:K v own2):q0k P W0 own k args K:=by
 subst b;subst ea;exact⟨fun w hw=>(h w (he w hw)).mono fun _ _ ⟨d,e⟩=>⟨v,own2,d,e,j⟩⟩
end
theorem qdv(W0:World)(own:Own)(i:Ins):jo W0 46 [i.v] own (.bool (isL i)):=by
 refine qg (sH [] ?_);unfold isL;obtain⟨op,a,b,c,imm⟩:=i;dsimp only[Ins.v]
 repeat'((try conv=>whnf);first|refine fF ?_|refine fA ?_|refine qf fun bk hbk=>?_|apply q8M;exact rfl;all_goals intro hc)
 all_goals first|exact⟨q0a (vb (dt Yu)),(eC)⟩|exact⟨q0a (vb (df Yu)),(eC)⟩
def nxV(o:Option Ins):Ins:=o.getD ⟨0,0,0,0,0⟩
section
variable{W0:World}{Kp K Y:Own}{g:GP}{c:Cfg}{ps:jk}{P:List (jg)}{s:GS}
theorem qjk(h:g.ok W0 Kp ps s)(o:GOk c P s)(u:ps.map PH.p=P)(t:Nat)(q:Own) [ek:qr q Kp]:
  jo W0 20 [jp g.gb,j5 t] (g.O c ps.length s++q) (.tuple #[(nxV (nxM P s t)).v, .bool (nxM P s t).isSome]):=by
 cases j:nxM P s t with
 |none=>
  have hd:=(q21 o).1 j;refine q9y h ?_ q;unfold dnB at hd
  by_cases m:t<s.T.length
  ·rw[z6 m] at hd;exact .inr (.inr ⟨t,s.T[t],rfl,z6 m,hd⟩)
  ·exact .inr (.inl Yu)
 |some i=>
  obtain⟨th,p,e,l,b,w⟩:=q4v j;subst u;rw[zI] at l;obtain⟨ph,d,rfl⟩:=Zb.1 l;exact q9z h e d b w q
theorem qlW{b:jd}{G D q:Own}:Ent W0 (b::(G++(D++q))) (G++(D++(b::q))):=qu []
theorem qlX{d b:jd}{G D q:Own}:Ent W0 (b::(G++(D++(d::q)))) (G++(b::(D++(d::q)))):=qu []
theorem qlY{b l e d:jd}{G D q:Own}:Ent W0 (b::(l::(G++(d::(D++(e::q)))))) (G++(b::(D++q))):=qu [l,d,e]
theorem qlZ{b:jd}{G D q:Own}:Ent W0 (G++(b::(D++q))) (G++(D++(b::q))):=qu []
theorem qeI{b:jd}{G D q:Own}:Ent W0 (G++(D++(b::q))) (G++(D++q)):=qu [b]
theorem qhJ{t n:Nat}{l:List ChM}(h:q2J P s t=true):q0X c P t (n+1) s l=q0X c P t n (doM c P s (ch0 t)).2 (l++ [ch0 t]):=by
 rw[q0X,if_pos h]
theorem qhK{t n:Nat}{l:List ChM}(h:q2J P s t=false):q0X c P t n s l=(s,l):=by
 cases n with
 |zero=>rfl
 |succ n=>rw[q0X,h];rfl
theorem qe7(t:Nat):∀(n:Nat) (s:GS) (l:List ChM),(q0X c P t n s l).2.length<=l.length+n
 |0,_,_=>zq _
 |n+1,s,l=>by
  unfold q0X
  split
  ·have:=qe7 t n (doM c P s (ch0 t)).2 (l++ [ch0 t]);rw[z8,zH] at this;omega
  ·show l.length<=_;omega
theorem qdm(hF:qz W0)(h:g.ok W0 Kp ps s)(S:g.ev W0 Y)(hG:GOk c P s)(aw:q99 P)(hP:ps.map PH.p=P)(hn:s.n+qP P s<=5000)(t:Nat){la:j9}{l:List ChM}{lc:Nat}(hL:RdE q9S 3 W0 K la l)(hll:l.length<=100000)(q:Own) [ek:qr q Kp] [ek2:qr q K]:
  jn W0 22 [jp g.gb,j5 t, .slice la l.length lc] (g.O c ps.length s++q) fun v own'=>∃y:GP×j9×Nat×Own,
   (v= .slice y.2.1 (q0X c P t 64 s l).2.length y.2.2.1/\y.1.ok W0 Kp ps (q0X c P t 64 s l).1/\y.1.ev W0 Y/\y.1.gb=g.gb/\qo q9S 61 3 y.2.1 y.2.2.1 (q0X c P t 64 s l).2 y.2.2.2)/\Ent W0 own' (y.1.O c ps.length (q0X c P t 64 s l).1++(y.2.2.2++q)):=by
 refine sH [] ?_;have af:=fun(own':Own) [qr own' K]=>q2W (cap:=lc) (hL.up (own:=own')) Yu
 have ay:=fun(q:Own) [qr q Kp]=>qjk (c:=c) h hG hP t q
 have O:=fun own' i=>qdv W0 own' i
 have R:=q9c (t:=t) hG
 repeat'((try conv=>whnf);first|refine qf fun b8 hb8=>?_|(apply qe;first|refine qi (af _) fun y v S=>?_;obtain⟨a1,c1,D1⟩:=y;obtain⟨rfl,L⟩:=S;dsimp only at L|refine q2k (ay (D1++q)) ?_ ?_ ?_ ?_;(exact qu [] fun a=>by simp only[q1s,q5B];omega);exact rfl;exact rfl)|refine fO ?_|refine fM ?_)
 generalize C:q0X c P t 64 s l=res at*;obtain⟨rs,rl⟩:=res;have hrl:rl.length<=l.length+64:=by have:=qe7 (c:=c) (P:=P) t 64 s l;rw[C] at this;exact this
 refine qK (σ:=Nat×GP×GS×List ChM×(j9×Nat×Own)×Nat) (fun y=> [(8,jp y.2.2.2.2.2),(9, .bool (nxM P y.2.2.1 t).isSome),(7, .slice y.2.2.2.2.1.1 y.2.2.2.1.length y.2.2.2.2.1.2.1)])
  (fun y=>y.2.1.O c ps.length y.2.2.1++(y.2.2.2.2.1.2.2++((y.2.2.2.2.2,j8 (nxV (nxM P y.2.2.1 t)).enc.toArray 64 (0,0))::q)))
  (fun y=>y.2.1.ok W0 Kp ps y.2.2.1/\y.2.1.ev W0 Y/\y.2.1.gb=g.gb/\GOk c P y.2.2.1/\y.2.2.1.n+qP P y.2.2.1<=5000/\q4V P y.2.2.1 t<=y.1/\y.2.2.2.1.length+y.1<=l.length+64/\q0X c P t y.1 y.2.2.1 y.2.2.2.1=(rs,rl)/\qo q9S 61 3 y.2.2.2.2.1.1 y.2.2.2.2.1.2.1 y.2.2.2.1 y.2.2.2.2.1.2.2)
  (fun y=>q4V P y.2.2.1 t) (64,g,s,l,(a1,c1,D1),b8) ⟨h,S,rfl,hG,hn,R,zq _,C,L⟩ (eF) ?_ rfl ?_
 ·exact qlW
 ·rintro⟨k,g1,s1,V,⟨a2,c2,D2⟩,b9⟩ junk ⟨u,j,m,E,au,az,aq,b,w⟩;dsimp only at u j m E au az aq b w ⊢;cases d:q2J P s1 t with
  |true=>
   obtain⟨i,hi,G⟩:=q4T d;obtain⟨-,D,X,J,Z, -⟩:(doM c P s1 (ch0 t)).1=0/\GOk c P (doM c P s1 (ch0 t)).2/\(doM c P s1 (ch0 t)).2.n=s1.n+1/\q4V P (doM c P s1 (ch0 t)).2 t<q4V P s1 t/\(doM c P s1 (ch0 t)).2.n+qP P (doM c P s1 (ch0 t)).2<=s1.n+qP P s1/\qP P (doM c P s1 (ch0 t)).2<qP P s1:=q1H E aw hi (.inl rfl);obtain⟨U,rfl⟩:∃U,k=U+1:=⟨k-1,Yu⟩
   rw[qhJ d] at b;have H:=fun(Q:Own) [qr Q Kp]=>ql2 (K:=Kp) (c:=c) hF m u j E hP Yu t 0 (aa:=none) (ad:= []) (ac:=0) RdE.nil (zq _) (fun _ h=>(by cases h)) Q
   have M:∀g2:GP,g2.ok W0 Kp ps (doM c P s1 (ch0 t)).2->g2.gb=g.gb->∀(Q:Own) [qr Q Kp],jo W0 20 [jp g.gb,j5 t] (g2.O c ps.length (doM c P s1 (ch0 t)).2++Q) (.tuple #[(nxV (nxM P (doM c P s1 (ch0 t)).2 t)).v, .bool (nxM P (doM c P s1 (ch0 t)).2 t).isSome]):=fun g2 h2 aj Q _=>aj ▸ qjk (c:=c) h2 D hP t Q
   have hlen:(V++ [ch0 t]).length=V.length+1:=Yw;rw[hi]
   change ∀(Q:Own) [qr Q Kp],qq _ _ _ _ _ (fun v own'=>∃g':GP,(v= j5 (doM c P s1 (ch0 t)).1/\g'.ok W0 Kp ps (doM c P s1 (ch0 t)).2/\g'.ev W0 Y/\g'.gb=g.gb)/\Ent W0 own' (g'.O c ps.length (doM c P s1 (ch0 t)).2++Q)) at H
   generalize doM c P s1 (ch0 t)=z at*;obtain⟨zc,s2⟩:=z;dsimp only at D X J Z b H M;have I:(nxV (some i))=i:=rfl;rw[I];have e:=fun own'=>O own' i
   rw[G] at e
   repeat'((try conv=>whnf);first|refine fH ?_|refine fE ?_|refine qf fun W hb10=>?_|apply q0z (enc:=q9S) (T:=61) (ch0 t) w;exact rfl;exact rfl;omega;exact rfl;exact rfl;omega;intro a3 c3 D3 ae|(apply qe;first|refine qd (e _) ?_|refine ql (H _) qlX ?_ ?_ fun g2 v S=>?_;exact rfl;exact rfl;obtain⟨rfl,B,N,A⟩:=S|refine q2k (M g2 B A _) qlY ?_ ?_ ?_;exact rfl;exact rfl)|refine fO ?_|refine fL ?_|refine fM ?_)
   all_goals exact⟨(U,g2,s2,V++ [ch0 t],(a3,c3,D3),W),⟨B,N,A,D,by show s2.n+qP P s2<=5000;omega,by show q4V P s2 t<=U;omega,by show(V++ [ch0 t]).length+U<=l.length+64;rw[hlen];omega,b,ae⟩,J,by rw[hlen];exact(eF),qlZ⟩
  |false=>
   rw[qhK d] at b;simp only[Prod.mk.injEq] at b;obtain⟨rfl,rfl⟩:=b;cases ax:nxM P s1 t with
   |none=>
    repeat'((try conv=>whnf);first|refine fI ?_|refine fD ?_)
    all_goals exact⟨(g1,a2,c2,D2),⟨rfl,u,j,m,w⟩,qeI⟩
   |some i=>
    have G:isL i=false:=by unfold q2J at d;rw[ax] at d;exact d
    have I:(nxV (some i))=i:=rfl;rw[I];have e:=fun own'=>O own' i
    rw[G] at e
    repeat'((try conv=>whnf);first|refine fH ?_|refine fD ?_|apply qe;refine qd (e _) ?_|refine fL ?_)
    all_goals exact⟨(g1,a2,c2,D2),⟨rfl,u,j,m,w⟩,qeI⟩
end
open Go
def qhx{α:Type}(p:α->Bool)(l:List α):Int:=match l.findIdx? p with
 |some i=>i
 |none=> -1
theorem qbL{α:Type}(p:α->Bool)(l:List α):decide (qhx p l>=0)=l.any p:=by
 unfold qhx;cases h:l.findIdx? p with
 |none=>
  have:=Zl.1 h;rw[show l.any p=false from yy.2 fun x e=>by simpa using this x e]
  decide
 |some i=>
  obtain⟨b,d, -⟩:=Z6.1 h;rw[show l.any p=true from yj.2 ⟨_,ZO b,d⟩];show decide (((i:Nat):Int)>=0)=true;exact decide_eq_true Yu
section
variable{W0:World}{own:Own}{a:j9}{cap:Nat}
theorem q6i{g:FuncId}{p:Ins->Bool}{l:jg}(B:okF Tryz.prog g=true)(q:RdE Ins.enc 5 W0 own a l)(hl:l.length<=9223372036854775807)(C:∀x∈l,jo W0 g [x.v] own (.bool (p x))):
  jo W0 103 [.slice a l.length cap, .func (.func g) #[] #[]] own (j5 (qhx p l)):=by
 refine qg (sH [] ?_);refine q1o (σ:=Nat) (fun i=> [(8,j5 i)]) (fun i=>i<=l.length/\∀j x,j<i->l[j]? =some x->p x=false) (fun i=>l.length-i) 0 ⟨Yu,fun j x h=>by omega⟩ (eF) rfl ?_;rintro i junk ⟨hi,u⟩
 by_cases m:i<l.length
 ·obtain⟨x,d⟩:∃x,l[i]? =some x:=⟨_,z6 m⟩
  have o:(i:Int)<l.length:=Yu;have b:=C x (zg d);cases hb:p x with
  |true=>
   rw[hb] at b
   repeat'((try conv=>whnf);first|refine fE ?_|refine fF ?_|refine⟨B,qm b ?_⟩|(apply qF;first|refine ixE q d ?_ ?_;(first|rfl|omega))|apply q24;refine q0C q d rfl ?_)
   refine⟨q0a (vi ?_),(eC)⟩;have:l.findIdx? p=some i:=by
    rw[Z6];have z:=(z7.1 d).2;refine⟨m,by rw[z];exact hb,fun j e=>?_⟩;have:=u j (l[j]' Yu) e (z6 Yu);simp[this]
   unfold qhx;rw[this]
  |false=>
   rw[hb] at b
   repeat'((try conv=>whnf);first|refine fD ?_|refine fF ?_|refine⟨B,qm b ?_⟩|(apply qF;first|refine ixE q d ?_ ?_;(first|rfl|omega))|apply q24;refine q0C q d rfl ?_|refine fB ?_)
   refine⟨i+1,⟨Yu,fun j y e A=>?_⟩,Yu,(eF),(eC)⟩
   by_cases w:j=i
   ·subst w;rw[d] at A;obtain rfl:=Option.some.inj A;exact hb
   ·exact u j y Yu A
 ·have o:¬(i:Int)<l.length:=Yu
  repeat'((try conv=>whnf);first|refine fG ?_)
  refine⟨q0a (vi ?_),(eC)⟩;have:l.findIdx? p=none:=by
   rw[Zl];intro x d;obtain⟨j,e⟩:=Zn d;exact u j x (by have:=(z7.1 e).1;omega) e
  unfold qhx;rw[this]
theorem q45{g:FuncId}{p:Ins->Bool}{l:jg}(d:okF Tryz.prog g=true)(b:RdE Ins.enc 5 W0 own a l)(j:l.length<=9223372036854775807)(m:∀x∈l,jo W0 g [x.v] own (.bool (p x))):
  jo W0 69 [.slice a l.length cap, .func (.func g) #[] #[]] own (.bool (l.any p)):=by
 refine qg (sH [] ?_);have h:=q6i (cap:=cap) d b j m;have e:=qbL p l;generalize qhx p l=z at*
 repeat'((try conv=>whnf);first|apply qe;refine qd (h) ?_)
 all_goals exact⟨q0a (vb e),(eC)⟩
theorem q47{g:FuncId}{p:PH->Bool}{l:jk}(B:okF Tryz.prog g=true)(q:RdE PH.enc 1 W0 own a l)(hl:l.length<=9223372036854775807)(C:∀x∈l,jo W0 g [.slice x.a x.p.length x.cap] own (.bool (p x))):
  jo W0 68 [.slice a l.length cap, .func (.func g) #[] #[]] own (j5 (qhx p l)):=by
 refine qg (sH [] ?_);refine q1o (σ:=Nat) (fun i=> [(8,j5 i)]) (fun i=>i<=l.length/\∀j x,j<i->l[j]? =some x->p x=false) (fun i=>l.length-i) 0 ⟨Yu,fun j x h=>by omega⟩ (eF) rfl ?_;rintro i junk ⟨hi,u⟩
 by_cases m:i<l.length
 ·obtain⟨x,d⟩:∃x,l[i]? =some x:=⟨_,z6 m⟩
  have o:(i:Int)<l.length:=Yu;have b:=C x (zg d);cases hb:p x with
  |true=>
   rw[hb] at b
   repeat'((try conv=>whnf);first|refine fE ?_|refine fF ?_|refine⟨B,qm b ?_⟩|apply gLd;refine q0l q d rfl ?_|(apply qF;first|refine ixE q d ?_ ?_;(first|rfl|omega)))
   refine⟨q0a (vi ?_),(eC)⟩;have:l.findIdx? p=some i:=by
    rw[Z6];have z:=(z7.1 d).2;refine⟨m,by rw[z];exact hb,fun j e=>?_⟩;have:=u j (l[j]' Yu) e (z6 Yu);simp[this]
   unfold qhx;rw[this]
  |false=>
   rw[hb] at b
   repeat'((try conv=>whnf);first|refine fD ?_|refine fF ?_|refine⟨B,qm b ?_⟩|apply gLd;refine q0l q d rfl ?_|(apply qF;first|refine ixE q d ?_ ?_;(first|rfl|omega))|refine fB ?_)
   refine⟨i+1,⟨Yu,fun j y e A=>?_⟩,Yu,(eF),(eC)⟩
   by_cases w:j=i
   ·subst w;rw[d] at A;obtain rfl:=Option.some.inj A;exact hb
   ·exact u j y Yu A
 ·have o:¬(i:Int)<l.length:=Yu
  repeat'((try conv=>whnf);first|refine fG ?_)
  refine⟨q0a (vi ?_),(eC)⟩;have:l.findIdx? p=none:=by
   rw[Zl];intro x d;obtain⟨j,e⟩:=Zn d;exact u j x (by have:=(z7.1 e).1;omega) e
  unfold qhx;rw[this]
theorem q2Z{g:FuncId}{p:PH->Bool}{l:jk}(d:okF Tryz.prog g=true)(b:RdE PH.enc 1 W0 own a l)(j:l.length<=9223372036854775807)(m:∀x∈l,jo W0 g [.slice x.a x.p.length x.cap] own (.bool (p x))):
  jo W0 38 [.slice a l.length cap, .func (.func g) #[] #[]] own (.bool (l.any p)):=by
 refine qg (sH [] ?_);have h:=q47 (cap:=cap) d b j m;have e:=qbL p l;generalize qhx p l=z at*
 repeat'((try conv=>whnf);first|apply qe;refine qd (h) ?_)
 all_goals exact⟨q0a (vb e),(eC)⟩
def alI(x:Ins):Bool:=decide (x.op=14)||decide (x.op=15)
def alQ(ps:jk):Bool:=ps.any fun h=>h.p.any alI
theorem qoF{ps:jk}(h:alQ ps=false):q99 (ps.map PH.p):=by
 intro p e x j;obtain⟨y,l,rfl⟩:=zM.1 e;have d:=yy.1 h y l;have b:=yy.1 (by simpa using d) x j;unfold alI at b;simp only[Zd,decide_eq_true_eq,not_or] at b;exact b
theorem qqo(W0:World)(own:Own)(x:Ins):jo W0 70 [x.v] own (.bool (alI x)):=by
 refine qg (sH [] ?_);unfold alI;obtain⟨op,a,b,c,imm⟩:=x;dsimp only[Ins.v]
 by_cases e:op=14
 ·rw[decide_eq_true e,Bool.true_or]
  repeat'((try conv=>whnf);first|refine fI ?_|refine fJ ?_|refine fA ?_|refine qf fun h d=>?_)
  all_goals exact⟨q0a rfl,(eC)⟩
 ·rw[decide_eq_false e,yP]
  repeat'((try conv=>whnf);first|refine fH ?_|refine fK ?_|refine fA ?_|refine qf fun h d=>?_)
  all_goals exact⟨q0a rfl,(eC)⟩
theorem qq1:okF Tryz.prog 70=true:=by kernel_rfl
theorem qq2:okF Tryz.prog 39=true:=by kernel_rfl
theorem qqp{l:jg}(b:RdE Ins.enc 5 W0 own a l)(d:l.length<=9223372036854775807):jo W0 39 [.slice a l.length cap] own (.bool (l.any alI)):=by
 refine qg (sH [] ?_);have h:=q45 (cap:=cap) qq1 b d fun x _=>qqo W0 own x
 generalize l.any alI=z at*
 repeat'((try conv=>whnf);first|apply qe;refine qd (h) ?_)
 all_goals exact⟨rfl,(eC)⟩
theorem qnk{ps:jk}(e:RdE PH.enc 1 W0 own a ps)(j:ps.length<=9223372036854775807)(b:∀h∈ps,RdE Ins.enc 5 W0 own h.a h.p/\h.p.length<=9223372036854775807):
  jo W0 38 [.slice a ps.length cap, .func (.func 39) #[] #[]] own (.bool (alQ ps)):=
 q2Z qq2 e j fun x d=>qqp (b x d).1 (b x d).2
end
def foB(fo:je):Bool:=fo.all fun k=>decide (3<=k/\k<=6)
def qcR(c:Cfg)(il:Nat)(ps:jk)(fo:je)(lim:Int):Int:=
 if(csM c il ps []).2.2≠0 then(csM c il ps []).2.2 else if c.strong=true\/alQ ps=true then 1 else if lim<1\/100000<lim\/(4:Int)<fo.length then 2 else if foB fo then 0 else 2
section
variable{W0:World}{own:Own}{c:Cfg}{ia pa ka:j9}{ic pc kc:Nat}{ps:jk}{il ks:je}{fa:j9}{fc:Nat}{fo:je}
theorem qmp{i:Nat}{x:Int}(d:fo[i]? =some x)(h:foB (fo.take i)=true)(b:3<=x/\x<=6):foB (fo.take (i+1))=true:=by
 unfold foB at*;rw[zZ,d,Yg,h];simp[b]
theorem qpB{i:Nat}{x:Int}(d:fo[i]? =some x)(b:¬(3<=x/\x<=6)):foB fo=false:=by
 unfold foB;rw[List.all_eq_false];exact⟨x,zg d,by simpa using b⟩
theorem qgh(I:qz W0)(J:RdE q05 1 W0 own ia il)(hil:il.length<=500000)(D:RdE PH.enc 1 W0 own pa ps)(hpl:ps.length<=1000000)(E:∀h∈ps,RdE Ins.enc 5 W0 own h.a h.p)(d:RdE qv 1 W0 own fa fo)(lim:Int):
  jn W0 15 [q9i c ia il.length ic pa ps.length pc ka ks.length kc, .slice fa fo.length fc,j5 lim] own fun v own'=>v= j5 (qcR c il.length ps fo lim)/\Ent W0 own' own:=by
 refine sH [] ?_;have o:=fun(own':Own) [qr own' own]=>qgA (own:=own') (c:=c) (ic:=ic) (pc:=pc) (ka:=ka) (ks:=ks) (kc:=kc) I J.up Yu D.up (fun h q=>(E h q).up)
 repeat'((try conv=>whnf);first|refine qf fun b3 h3=>?_;apply Stop.h)
 refine Stop.mk ?_
 repeat'((try conv=>whnf);first|(apply qe;first|refine q2j (o _) Ent.refl ?_ ?_ (fun v A=>?_) fun y v A=>?_;exact rfl;exact rfl;all_goals(apply Stop.h))|refine fL ?_)
 ·obtain⟨rfl,he⟩:=A;unfold qcR;rw[if_pos he];refine Stop.mk ?_
  repeat'((try conv=>whnf);first|refine fF ?_|refine fO ?_)
  all_goals exact⟨rfl,(eC)⟩
 ·obtain⟨g,ys,N⟩:=y;obtain⟨rfl,B, -⟩:=A;obtain⟨-,hc0,hpl2,hiw,u⟩:=qi0 (by rw[B]:(csM c il.length ps []).2.2=0);unfold qcR;rw[B,if_neg Yw];have l:=fun(own':Own) [qr own' own]=>qnk (own:=own') (cap:=pc) D.up Yu (fun h q=>⟨(E h q).up,by have:=q5z (u h q);omega⟩)
  generalize alQ ps=z at*;generalize g.O c (ys.map PB.h).length (q19 c il (ps.map PH.p))=G;generalize N++q3W ys=KD;clear o;obtain⟨q0,q1,q2,q3,q4,q5,q6,q7,q8,q9,q10,q11,st⟩:=c;dsimp only at*;refine Stop.mk ?_
  by_cases b:st=true\/z=true
  ·rw[if_pos b];cases st with
   |true=>
    repeat'((try conv=>whnf);first|refine fI ?_|refine fE ?_|refine fD ?_|refine fO ?_|refine fA ?_)
    all_goals exact⟨rfl,(eC)⟩
   |false=>
    have M:z=true:=by rcases b with b|b;(cases b);exact b
    subst M
    repeat'((try conv=>whnf);first|refine fH ?_|refine fE ?_|refine fD ?_|apply qe;refine qd (l _) ?_|refine fO ?_|refine fA ?_)
    all_goals exact⟨rfl,(eC)⟩
  ·rw[if_neg b];obtain rfl:st=false:=by simpa using fun h=>b (.inl h)
   obtain rfl:z=false:=by simpa using fun h=>b (.inr h)
   by_cases C:lim<1\/100000<lim\/(4:Int)<fo.length
   ·rw[if_pos C]
    repeat'((try conv=>whnf);first|refine fH ?_|refine fI ?_|refine fE ?_|refine fD ?_|refine fF ?_|apply qe;refine qd (l _) ?_|refine fO ?_|refine fA ?_|apply q4J;exact rfl;exact rfl;all_goals intro L)
    all_goals exact⟨rfl,(eC)⟩
   ·rw[if_neg C];have h2':(fo.length:Int)<=4:=Yu
    repeat'((try conv=>whnf);first|refine fH ?_|refine fD ?_|refine fG ?_|refine fK ?_|apply qe;refine qd (l _) ?_|refine fO ?_|refine fA ?_)
    refine qK (σ:=Nat) (fun i=> [(44,j5 i)]) (fun _=>own) (fun i=>i<=fo.length/\foB (fo.take i)=true) (fun i=>fo.length-i) 0 ⟨zv _,rfl⟩ (eF) ?_ rfl ?_
    ·exact(eC)
    rintro i junk ⟨hi,j⟩
    by_cases e:i<fo.length
    ·obtain⟨x,m⟩:∃x,fo[i]? =some x:=⟨_,z6 e⟩
     by_cases H:3<=x/\x<=6
     ·repeat'((try conv=>whnf);first|refine fH ?_|refine fF ?_|refine fG ?_|refine fK ?_|apply gLd;refine q0l d m rfl ?_|(apply qF;first|refine ixE d m ?_ ?_;(first|rfl|omega))|refine fB ?_)
      all_goals exact⟨i+1,⟨e,qmp m j H⟩,Yu,(eF),Ent.refl⟩
     ·rw[qpB m H]
      repeat'((try conv=>whnf);first|refine fH ?_|refine fI ?_|refine fE ?_|refine fF ?_|apply gLd;refine q0l d m rfl ?_|(apply qF;first|refine ixE d m ?_ ?_;(first|rfl|omega))|apply q4J;exact rfl;exact rfl;all_goals intro L)
      all_goals first|exact⟨rfl,(eC)⟩|exfalso;omega
    ·have w:i=fo.length:=Yu;subst w;rw[Z4] at j;rw[j]
     repeat'((try conv=>whnf);first|refine fG ?_)
     all_goals exact⟨rfl,(eC)⟩
end
open Go
structure RG.at(r:RG)(W0:World)(s:GS)(own:Own):Prop where
 d:RdE q05 1 W0 own r.da s.d
 t:RdE Thr.enc 11 W0 own r.ta s.T
 e:RdE EH.enc 6 W0 own r.ea r.L
 em:r.L.map EH.m=s.E
 ev:∀e∈r.L,RdE qv 1 W0 own e.ra e.rl/\RdE qv 1 W0 own e.wa e.wl
 o:RdE ObS.enc 1 W0 own r.oa r.S
 os:∀x∈r.S,RdE ObM.enc 3 W0 own x.a x.l
 ol:r.S.map ObS.l=s.O
section
variable{W0:World}{own:Own}{r r1 r2:RG}{s s1 s2:GS}
theorem qi7{S:List ObS}{x:ObS}(d:x∈S):Ent W0 (q3B S) x.D:=by
 obtain⟨j,b⟩:=Zn d;rw[q28 b];exact qu (q3B (S.take j)++q3B (S.drop (j+1)))
theorem RG.ok.at(h:r.ok W0 s)(he:Ent W0 own r.D):r.at W0 s own:=by
 unfold RG.D at he;have j:Ent W0 own r.dD:=he.trans (qu (r.tD++(r.eD++(r.X++(r.oD++q3B r.S)))) fun a=>by simp only[q1s]);have l:Ent W0 own r.tD:=he.trans (qu (r.dD++(r.eD++(r.X++(r.oD++q3B r.S)))));have m:Ent W0 own r.eD:=he.trans (qu (r.dD++(r.tD++(r.X++(r.oD++q3B r.S)))));have b:Ent W0 own r.X:=he.trans (qu (r.dD++(r.tD++(r.eD++(r.oD++q3B r.S)))));have o:Ent W0 own r.oD:=he.trans (qu (r.dD++(r.tD++(r.eD++(r.X++q3B r.S)))));have q:Ent W0 own (q3B r.S):=he.trans (qu (r.dD++(r.tD++(r.eD++(r.X++r.oD)))));exact⟨h.d.rd.ent j,h.t.rd.ent l,h.e.rd.ent m,h.em,fun e he=>⟨(h.ev e he).1.ent b,(h.ev e he).2.ent b⟩,h.o.rd.ent o,fun x d=>(h.os x d).rd.ent (q.trans (qi7 d)),h.ol⟩
theorem RG.at.el(h:r.at W0 s own):r.L.length=s.E.length:=by rw[<-h.em,zi]
end
open Go
section
variable(rc:jl->Bool)(c:Cfg)(P:List (jg))(fo:je)(lim:Int)(n:Nat)
def q6t(b:GS)(l:List ChM)(t:Nat)(x:SS)(k:Int):SS:=if x.stop then x else q55 rc c P fo lim n (doM c P b ⟨t,k,[]⟩).2 (l++ [⟨t,k,[]⟩]) x
def q6N(s:GS)(l:List ChM)(x:SS)(t:Nat):SS:=if x.stop then x else if dnB s t then x else
 if dnB (q0X c P t 64 s l).1 t then q55 rc c P fo lim n (q0X c P t 64 s l).1 (q0X c P t 64 s l).2 x
 else(q2B fo (nxM P (q0X c P t 64 s l).1 t)).foldl (q6t rc c P fo lim n (q0X c P t 64 s l).1 (q0X c P t 64 s l).2 t) x
theorem qlf(s:GS)(l:List ChM)(x:SS):q55 rc c P fo lim (n+1) s l x=if q2E s then qeU rc lim s l x else(List.range s.T.length).foldl (q6N rc c P fo lim n s l) x:=rfl
end
section
variable{rc:jl->Bool}{c:Cfg}{P:List (jg)}{fo:je}{lim:Int}
theorem qh7{n:Nat}{b:GS}{l:List ChM}{t:Nat}(x:SS)(k:Int)(h:x.stop=true):q6t rc c P fo lim n b l t x k=x:=by unfold q6t;rw[if_pos h]
theorem q4c{n:Nat}{s:GS}{l:List ChM}(x:SS)(t:Nat)(h:x.stop=true):q6N rc c P fo lim n s l x t=x:=by unfold q6N;rw[if_pos h]
theorem q5K{α:Type}{g:SS->α->SS}{Q:SS->Prop}(b:∀x a,Q x->Q (g x a)):∀(l:List α) (x:SS),Q x->Q (l.foldl g x)
 | [],_,h=>h
 |a::l,x,h=>q5K b l _ (b x a h)
theorem q5p{Q:SS->Prop}(e:∀s l x,x.stop=false->Q x->Q (qeU rc lim s l x)):∀(n:Nat) (s:GS) (l:List ChM) (x:SS),x.stop=false->Q x->Q (q55 rc c P fo lim n s l x)
 |0,_,_,_,_,h=>h
 |n+1,s,l,x,q,h=>by
  rw[qlf]
  split
  ·exact e s l x q h
  ·refine q5K (fun y t d=>?_) _ x h;unfold q6N
   split
   ·exact d
   ·rename_i j;have b:y.stop=false:=by simpa using j
    split
    ·exact d
    ·split
     ·exact q5p e n _ _ y b d
     ·refine q5K (fun z k o=>?_) _ y d;unfold q6t
      split
      ·exact o
      ·rename_i m;exact q5p e n _ _ z (by simpa using m) o
theorem qcM{n:Nat}{s:GS}{l:List ChM}{x:SS}(b:x.stop=false)(h:(x.runs:Int)<=lim):((q55 rc c P fo lim n s l x).runs:Int)<=lim:=by
 refine q5p (Q:=fun x=>(x.runs:Int)<=lim) (fun s l x _ h=>?_) n s l x b h;unfold qeU
 split
 ·exact h
 ·split
  ·show((x.runs+1:Nat):Int)<=lim;omega
  ·show((x.runs+1:Nat):Int)<=lim;omega
theorem q9P{n:Nat}{s:GS}{l:List ChM}{x:SS}(e:x.stop=false)(h:x.found= [])(d:(q55 rc c P fo lim n s l x).racy=false):(q55 rc c P fo lim n s l x).found= []:=by
 refine q5p (Q:=fun x=>x.racy=false->x.found= []) (fun s l x _ h=>?_) n s l x e (fun _=>h) d;unfold qeU
 split
 ·exact h
 ·split
  ·intro b;cases b
  ·exact h
theorem qdd{N t:Nat}(h:t<N):(List.range N).drop t=t::(List.range N).drop (t+1):=by
 have:(List.range N)[t]? =some t:=by rw[List.getElem?_range h]
 exact q1Z this
theorem qoE(b:q99 P)(t:Nat):∀(n:Nat) (s:GS) (l:List ChM),GOk c P s->l.length<=s.n->(q0X c P t n s l).2.length<=(q0X c P t n s l).1.n
 |0,_,_,_,h=>h
 |n+1,s,l,e,h=>by
  unfold q0X;cases hb:q2J P s t with
  |false=>exact h
  |true=>
   rw[if_pos rfl];obtain⟨i,j, -⟩:=q4T hb;obtain⟨-,d,h2, -⟩:(doM c P s (ch0 t)).1=0/\GOk c P (doM c P s (ch0 t)).2/\(doM c P s (ch0 t)).2.n=s.n+1/\_:=q1H e b j (.inl rfl);exact qoE b t n _ _ d (by rw[z8,zH];omega)
end
end Go.Proofs.YtikpjajangpdjaaGreatDoor
