/- What the laws share, part 17. No condition. -/
import Derived.Test.YtikpjajangpdjaaGreatDoorQ16
set_option maxHeartbeats 64000000
set_option maxRecDepth 10000
namespace Go.Proofs.YtikpjajangpdjaaGreatDoor
open Go
inductive AtN (c:Cfg) (p:jg) (t:Nat) (m:MS) (x:GT):AT->Prop
 |same (b:AT):x.at'=some b->AtN c p t m x b
 |adv (a:AT):x.at'=some a->AI c t m a->AtN c p t m x (qh c t m a).2.1
 |req (a:AT) (i:Ins):x.at'=some a->a.ph= .idle->p[x.th.pc]? =some i->(8<=i.op/\i.op<=11)->AI c t m (q1D c x.th.rg a i)->AtN c p t m x (qh c t m (q1D c x.th.rg a i)).2.1
 |new:x.at'=none->AtN c p t m x (qh c t m {AT.new with st:=1,ph:= .ent 0}).2.1
section
variable{c:Cfg}{ps:List (jg)}{n k:Nat}{q:RM}{m:MS}{g g':GS}{r r':Nat->List (Int×Int)}{t u:Nat}{x:GT}{a b:AT}{p:jg}{i:Ins}
theorem q5N(hb:a.busy=false):a.ph= .idle:=by
 unfold AT.busy at hb;cases e:a.ph <;>rw[e] at hb <;>first|rfl|cases hb
theorem q23.req(h:q23 c ps n k q g r)(y:q.xs[t]? =some x)(B:ps[t]? =some p)(w:x.at'=some a)(o:a.ph= .idle)(A:p[x.th.pc]? =some i)(C:8<=i.op/\i.op<=11):AI c t q.m (q1D c x.th.rg a i):=by
 have v:=h.gi.ai t x a y w;have d:=h.gi.th t x p y B;have j:a.dn=false:=by
  have:=v.ph;unfold PhA at this;rw[o] at this;exact this.1
 unfold ThR at d;rw[w] at d;dsimp only at d;rw[if_neg (by rw[j];decide)] at d;exact(qcf d.2.2 v o A C).2.1
theorem qed(h:q23 c ps n k q g r)(G:q.xs[t]? =some x)(I:ps[t]? =some p)(F:PrO p)(hd:x.th.dn=false)(hb:(qH c p n t q.m x).2.1.at'=some b):AtN c p t q.m x b:=by
 obtain⟨f1,f2⟩:=h.fn G I F;obtain⟨i,D,f3⟩:=f2 hd;have hw:x.at'=none->∀f,(q0x n p t q.m x f).2.1.at'=none:=fun d f=>by unfold q0x;dsimp only;split <;>exact d
 unfold qH at hb;rw[D] at hb;dsimp only at hb;cases C:x.fn with
 |some f=>
  rw[C] at hb;dsimp only at hb;rw[hw (f1 (by rw[C];exact fun e=>by cases e)) f] at hb;cases hb
 |none=>
  rw[C] at hb;dsimp only at hb;cases d:x.at' with
  |some a=>
   rw[d] at hb;dsimp only at hb;have L:=h.gi.ai t x a G d
   split at hb
   ·rw[q3x hb];exact .adv a d L
   ·rename_i B;have v:a.busy=false:=by simpa using B
    obtain⟨b1,b2,b3,J⟩:=f3 a d v;have w:=q5N v;unfold q2I at hb;rw[if_neg Yu,if_neg J] at hb;unfold q1f at hb;rw[if_neg b1] at hb
    by_cases j:8<=i.op/\i.op<=11
    ·rw[if_pos j,d] at hb;dsimp only at hb;rw[q3x hb];exact .req a i d w D j (h.req G I d w D j)
    ·rw[if_neg j] at hb;exact .same b hb
  |none=>
   rw[d] at hb;dsimp only at hb;unfold q2I at hb
   by_cases y:i.op=12\/i.op=13
   ·rw[if_pos y] at hb;exfalso;unfold q04 at hb
    by_cases A:c.words<=q0V x i
    ·rw[if_pos A] at hb;have e:x.at'=some b:=hb;rw[d] at e;cases e
    ·rw[if_neg A] at hb
     split at hb
     ·have e:x.at'=some b:=hb;rw[d] at e;cases e
     ·have e:x.at'=some b:=hb;rw[d] at e;cases e
   ·rw[if_neg y] at hb
    by_cases o:i.op=16
    ·rw[if_pos o,hw d] at hb;cases hb
    ·rw[if_neg o] at hb;unfold q1f at hb
     by_cases H:i.op=7
     ·rw[if_pos H] at hb;rw[q3x hb];exact .new d
     ·rw[if_neg H] at hb;exfalso
      by_cases j:8<=i.op/\i.op<=11
      ·rw[if_pos j,d] at hb;dsimp only at hb;rw[d] at hb;cases hb
      ·rw[if_neg j] at hb;have e:x.at'=some b:=hb;rw[d] at e;cases e
theorem q69{w:Int}(h:w∈(qh c t m a).2.1.seen):w∈a.seen\/((∃j b v,a.ph= .rd j b v)/\w=a.addr):=by
 have d:∀y:AT,y.rest.seen=y.seen:=fun y=>by unfold AT.rest;split <;>rfl
 have o:∀(y:AT) q,(y.endA c q).seen=y.seen:=fun y q=>by unfold AT.endA;split <;>rfl
 have C:∀(y:AT) q,(y.kont c q).seen=y.seen:=fun y q=>by
  cases q with
  |en q=>exact o y q
  |tk v=>rfl
  |wr w v=>
   unfold AT.kont;dsimp only
   split
   ·exact o y 7
   ·split <;>rfl
 have B:∀(l:je) (v:Int),w∈q1Y l v->w∈l\/w=v:=fun l v hw=>by
  unfold q1Y at hw
  split at hw
  ·exact .inl hw
  ·rcases zy.1 hw with h|h
   ·exact .inl h
   ·exact .inr (zf.1 h)
 unfold qh at h;cases e:a.ph with
 |idle=>rw[e] at h;exact .inl h
 |loc q=>rw[e] at h;dsimp only at h;rw[C] at h;exact .inl h
 |ent j=>
  rw[e] at h;dsimp only at h
  split at h
  ·exact .inl h
  ·split at h <;>exact .inl h
 |rd j b v=>
  rw[e] at h;dsimp only at h
  split at h
  ·dsimp only at h;split at h <;>exact .inl h
  ·split at h
   ·exact .inl h
   ·dsimp only at h
    split at h
    ·exact .inl h
    ·refine(B a.seen a.addr ?_).imp id fun e=>⟨⟨j,b,v,rfl⟩,e⟩
     split at h <;>exact h
 |lk s ld=>
  rw[e] at h;dsimp only at h
  split at h
  ·exact .inl h
  ·split at h <;>exact .inl h
 |tn b=>
  rw[e] at h;dsimp only at h
  split at h
  ·exact .inl h
  ·dsimp only at h
   split at h
   ·split at h <;>exact .inl h
   ·exact .inl h
 |ck l=>
  rw[e] at h;dsimp only at h
  split at h
  ·rw[d] at h;exact .inl h
  ·split at h <;>exact .inl h
 |dc=>
  rw[e] at h;dsimp only at h
  split at h
  ·rw[d] at h;exact .inl h
  ·split at h
   ·exact .inl h
   ·rw[d] at h;exact .inl h
 |wr A V=>rw[e] at h;dsimp only at h;split at h <;>exact .inl h
 |rl A V=>rw[e] at h;dsimp only at h;split at h <;>exact .inl h
 |sp=>rw[e] at h;exact .inl h
 |ps=>rw[e] at h;exact .inl h
 |lv=>rw[e] at h;exact .inl h
theorem qcg{rg:Rg}:(q1D c rg a i).seen=a.seen:=by
 unfold q1D AT.read
 (repeat' split) <;>rfl
def qdZ(c:Cfg)(xs:List GT):Prop:=∀(u:Nat) y b,xs[u]? =some y->y.at'=some b->∀w∈b.seen,0<=w/\w<c.words
theorem AI.addr(d:AI c t m a)(h:∃j b v,a.ph= .rd j b v):0<=a.addr/\a.addr<c.words:=by
 obtain⟨j,b,v,e⟩:=h;have:=d.ph;unfold PhA at this;rw[e] at this;exact this.2.2
theorem AtN.seen(h:AtN c p t m x b)(d:∀a,x.at'=some a->∀w∈a.seen,0<=w/\w<c.words):∀w∈b.seen,0<=w/\w<c.words:=by
 intro w hw;cases h with
 |same b e=>exact d b e w hw
 |adv a e j=>
  rcases q69 hw with h|⟨h,rfl⟩
  ·exact d a e w h
  ·exact j.addr h
 |req a i e hid hi hr j=>
  rcases q69 hw with h|⟨h,rfl⟩
  ·rw[qcg] at h;exact d a e w h
  ·exact j.addr h
 |new e=>
  rcases q69 hw with h|⟨⟨_,_,_,h⟩,_⟩
  ·cases h
  ·cases h
theorem q27{E:jl}{e:EvM}:q3l (E++ [e])=e.ev:=by unfold q3l;rw[List.getLast?_concat]
theorem qli.zero{m:MS}{xs:List GT}(h:∀(u:Nat) y,xs[u]? =some y->y.at'=none):qli n ⟨m,xs,[],[]⟩:=⟨.nil,zW _,zq _,fun u y b d hb=>by rw[h u y d] at hb;cases hb⟩
theorem qli.step(hw:c.words<=64)(X:k<=1000)(h:q23 c ps n k q g r)(B:qli n q)(Q:qdZ c q.xs)(Z:t<n)(W:∀p∈ps,PrO p):qli n (q0E c ps n q t)/\qdZ c (q0E c ps n q t).xs:=by
 obtain⟨x,D⟩:∃x,q.xs[t]? =some x:=⟨_,z6 (by rw[h.gi.xl];exact Z)⟩
 obtain⟨p,R⟩:∃p,ps[t]? =some p:=⟨_,z6 (by rw[h.gi.pl];exact Z)⟩
 have M:=W p (zg R);cases hd:x.th.dn with
 |true=>
  rw[(qax (c:=c) (ps:=ps) (n:=n) D hd).1];exact⟨B,Q⟩
 |false=>
  rw[(q2S (c:=c) (ps:=ps) (n:=n) D R hd).1];have I:=qh9 h D R M hd;have G:=fun b=>qed (b:=b) h D R M hd
  generalize qH c p n t q.m x=z at I G ⊢;obtain⟨m',x',s,es⟩:=z;dsimp only at I G ⊢;have hlen:(q.S++ [s]).length=q.S.length+1:=by rw[z8,zH]
  have H:=B.ev;have hel:=B.el;have v:∀(u:Nat) y,u≠t->(q.xs.set t x')[u]? =some y->q.xs[u]? =some y:=fun u y hu j=>by rw[q0t hu] at j;exact j
  have A:∀y,(q.xs.set t x')[t]? =some y->y=x':=fun y j=>by rw[q0c D] at j;cases j;rfl
  refine⟨?_,fun u y b j hb=>?_⟩
  ·cases I with
   |no V=>
    rw[Z5,zz];refine⟨B.tr,?_,?_,fun u y b j hb d o=>?_⟩
    ·dsimp only;omega
    ·dsimp only;omega
    ·by_cases hu:u=t
     ·subst hu;obtain rfl:=A y j;obtain⟨a,F,L,J⟩:=V b hb d o;exact B.lk u x a D F L J
     ·exact B.lk u y b (v u y hu j) hb d o
   |bg a a' F L J S T=>
    refine⟨.snoc B.tr ⟨⟨?_,?_⟩,?_,?_,?_,?_,?_,?_,?_,?_⟩,?_,?_,fun u y b j hb d o=>?_⟩
    ·show(0:Int)<=t;omega
    ·show(t:Int)<n;omega
    ·exact⟨by show(1:Int)<=3;decide,by show(3:Int)<=4;decide⟩
    ·exact⟨by show(0:Int)<=0;decide,by show(0:Int)<64;decide⟩
    ·intro w hw;cases hw
    ·intro w hw;cases hw
    ·intro e;exact absurd e (by show ¬(3:Int)=4;decide)
    ·intro _;exact⟨rfl,rfl⟩
    ·exact H
    ·exact⟨zv _,zv _⟩
    ·show q3l (q.E++ [_])<=_;rw[q27,hlen];show(q.S.length:Int)<=_;omega
    ·show(q.E++ [_]).length<=_;rw[hlen,z8,zH];omega
    ·show lkE (q.E++ [_]) u=3;rw[q3a (by show(3:Int)≠0;decide)]
     by_cases hu:u=t
     ·subst hu;exact if_pos rfl
     ·rw[if_neg (by show ¬(t:Int)=u;omega)];exact B.lk u y b (v u y hu j) hb d o
   |en a a' F L J S T=>
    have U:=h.gi.ai t x a D F;have h3:=B.lk t x a D F J (by rw[L];rfl);refine⟨.snoc B.tr ⟨⟨?_,?_⟩,?_,?_,?_,?_,?_,?_,?_,?_⟩,?_,?_,fun u y b j hb d o=>?_⟩
    ·show(0:Int)<=t;omega
    ·show(t:Int)<n;omega
    ·exact⟨by show(1:Int)<=4;decide,by show(4:Int)<=4;decide⟩
    ·exact⟨by show(0:Int)<=0;decide,by show(0:Int)<64;decide⟩
    ·intro w hw;have:=Q t x a D F w hw;omega
    ·intro w hw;have C:w∈(if a.code=1 then a.ad.filter fun x=>decide (x<c.words) else []):=hw
     split at C
     ·have:=U.ar w (Zt.1 C).1;omega
     ·cases C
    ·intro _;exact h3
    ·intro e;exact absurd rfl e
    ·exact H
    ·refine⟨Zc ((h.xt t x D).at' a F).ln X,?_⟩;show(if a.code=1 then a.ad.filter fun x=>decide (x<c.words) else []).length<=64
     split
     ·exact Zc (Y3 ..) (qfz 64 a.ad U.an fun w C=>by have:=U.ar w C;omega)
     ·exact zv _
    ·show q3l (q.E++ [_])<=_;rw[q27,hlen];show(q.S.length:Int)<=_;omega
    ·show(q.E++ [_]).length<=_;rw[hlen,z8,zH];omega
    ·show lkE (q.E++ [_]) u=3;rw[q3a (by show(4:Int)≠0;decide)]
     by_cases hu:u=t
     ·subst hu;obtain rfl:=A y j;rw[S] at hb;cases hb;rw[T] at d;cases d
     ·rw[if_neg (by show ¬(t:Int)=u;omega)];exact B.lk u y b (v u y hu j) hb d o
   |pl i F L J S T e6=>
    have h0:0<=q0V x i:=q4N _ _ _;have X:(if i.op=12 then(1:Int) else 2)=1\/(if i.op=12 then(1:Int) else 2)=2:=by split;exact .inl rfl;exact .inr rfl
    refine⟨.snoc B.tr ⟨⟨?_,?_⟩,?_,?_,?_,?_,?_,?_,?_,?_⟩,?_,?_,fun u y b j hb d o=>?_⟩
    ·show(0:Int)<=t;omega
    ·show(t:Int)<n;omega
    ·show 1<=(if i.op=12 then(1:Int) else 2)/\(if i.op=12 then(1:Int) else 2)<=4;omega
    ·show 0<=q0V x i/\q0V x i<64;omega
    ·intro w hw;cases hw
    ·intro w hw;cases hw
    ·intro e;have e:(if i.op=12 then(1:Int) else 2)=4:=e;omega
    ·intro _;exact⟨rfl,rfl⟩
    ·exact H
    ·exact⟨zv _,zv _⟩
    ·show q3l (q.E++ [_])<=_;rw[q27,hlen];show(q.S.length:Int)<=_;omega
    ·show(q.E++ [_]).length<=_;rw[hlen,z8,zH];omega
    ·show lkE (q.E++ [_]) u=3;rw[q3a (by show(if i.op=12 then(1:Int) else 2)≠0;omega)]
     by_cases hu:u=t
     ·subst hu;obtain rfl:=A y j;rw[J] at hb;cases hb
     ·rw[if_neg (by show ¬(t:Int)=u;omega)];exact B.lk u y b (v u y hu j) hb d o
  ·by_cases hu:u=t
   ·subst hu;obtain rfl:=A y j;exact(G b hb).seen fun a ha=>Q u x a D ha
   ·exact Q u y b (v u y hu j) hb
end
open Go Go.Proofs.YtikpjajangpdjaaGreatDoor.Ord
section
variable{n:Nat}
structure EvV(n:Nat)(E:jl)(e:EvM):Prop where
 t:0<=e.t/\e.t<n
 k:1<=e.k/\e.k<=4
 w:0<=e.w/\e.w<64
 r:∀w∈e.r,0<=w/\w<64
 wl:∀w∈e.wl,0<=w/\w<64
 en:e.k=4->lkE E e.t=3
 pl:e.k≠4->e.r= []/\e.wl= []
 ev:q3l E<=e.ev
inductive TrV (n:Nat):jl->Prop
 |nil:TrV n []
 |snoc {E:jl} {e:EvM}:TrV n E->EvV n E e->TrV n (E++ [e])
theorem TrW.v{E:jl}(h:TrW n E):TrV n E:=by
 induction h with
 |nil=>exact .nil
 |snoc _ h d=>exact .snoc d ⟨h.t,h.k,h.w,h.r,h.wl,h.en,h.pl,h.ev⟩
theorem ql8(F:1<=n)(I:n<=16){E:jl}(h:TrV n E):∀l:ji,l.map EH.m=E->l.length<=65536->WF0 l n/\(∀t,lkL l t l.length=lkE E t)/\(l= []\/q3m l l.length=q3l E):=by
 induction h with
 |nil=>
  intro l A _;have:l= []:=by cases l with|nil=>rfl|cons a l=>cases A
  subst this;exact⟨⟨F,I,zv _,fun k y=>(by simp at y)⟩,fun t=>rfl, .inl rfl⟩
 | @snoc E e hE he L=>
  intro l A hle;obtain⟨l',z,rfl⟩:∃l' z,l=l'++ [z]:=⟨l.dropLast,l.getLast (fun e=>by rw[e] at A;simp at A),(List.dropLast_concat_getLast _).symm⟩
  rw[zB,zF,Z5] at A;obtain⟨G,H⟩:=List.append_inj' A rfl;have J:z.m=e:=by simpa using H
  rw[z8,zH] at hle;obtain⟨i1,i2,i3⟩:=L l' G Yu;subst J;have y:=he.k;have C:=he.t;have hw:=he.w;have D:=he.r;have v:=he.wl;have j:=he.en;have d:=he.pl;have o:=he.ev;unfold EH.m at y C hw D v j d o;dsimp only at y C hw D v j d o;refine⟨i1.snoc Yu ?_,fun t=>?_, .inr ?_⟩
  ·unfold q12;have a1:decide (0<=z.t/\z.t<(n:Int)/\1<=z.k/\z.k<=4/\((l'.length==0)=true\/q3m l' l'.length<=z.ev)/\0<=z.w/\z.w<64)=true:=by
    refine decide_eq_true ⟨C.1,C.2,y.1,y.2,?_,hw.1,hw.2⟩
    rcases i3 with h|h
    ·exact .inl (by rw[h];rfl)
    ·exact .inr (by rw[h];exact o)
   have a2:z.rl.all inW=true:=zX.2 fun w hw=>decide_eq_true (D w hw)
   have a3:z.wl.all inW=true:=zX.2 fun w hw=>decide_eq_true (v w hw)
   rw[a1,a2,a3,i2]
   by_cases B:z.k=4
   ·rw[if_pos B,j B];rfl
   ·rw[if_neg B,(d B).1,(d B).2];rfl
  ·rw[z8,zH,qfp,i2,q3a (by unfold EH.m;dsimp only;omega)];rfl
  ·rw[z8,zH,q27,q5V (e:=z) Yw];rfl
theorem ql9(d:1<=n)(o:n<=16){E:jl}(h:TrW n E)(l:ji)(j:l.map EH.m=E)(hle:l.length<=65536):WF0 l n/\(∀t,lkL l t l.length=lkE E t)/\(l= []\/q3m l l.length=q3l E):=ql8 d o h.v l j hle
theorem q4f{e:EH}{w:Int}(h:toB e w=true):((e.k=1\/e.k=2)/\e.w=w)\/(e.k=4/\(w∈e.rl\/w∈e.wl)):=by
 unfold toB wrB at h;simp only[Zd,zu,decide_eq_true_eq,Zw] at h
 rcases h with (⟨d,j⟩|⟨d,j⟩)|⟨d,j⟩|⟨d,j⟩
 ·exact .inl ⟨.inr d,j⟩
 ·exact .inr ⟨d, .inr j⟩
 ·exact .inl ⟨.inl d,j⟩
 ·exact .inr ⟨d, .inl j⟩
theorem qrU{l:ji}(hw:Wf l n)(h:∀x y,x<y->y<l.length->knd l x≠3->knd l y≠3->thr l x≠thr l y->¬(knd l x=4/\knd l y=4)->∀w,toB (at' l x) w=true->toB (at' l y) w=true->(wrB (at' l x) w=true\/wrB (at' l y) w=true)->HB l x (toP l y)):rcA l l.length= []:=by
 refine List.eq_nil_iff_forall_not_mem.2 fun r j=>?_
 obtain⟨y,w,A,_,o,j⟩:=qaA.1 j;obtain⟨x,I,_,hb⟩:=qfQ j;unfold rcB at hb;simp only[zu,yx,decide_eq_false_iff_not] at hb;obtain⟨d,H,v⟩:=hb;have B:=hw.kd x Yu;have C:=hw.kd y A;obtain⟨c1,c2,D,F,G⟩:=qhY H ⟨B.1,B.2.1,d⟩ ⟨C.1,C.2.1,o⟩;have:=h x y I A d o c1 c2 _ D F G;rw[hbB_iff.2 this] at v;cases v
theorem qcG{l:ji}{E:jl}(j:1<=n)(v:n<=16)(h:TrW n E)(o:l.map EH.m=E)(hle:l.length<=65536)(A:∀x y,x<y->y<l.length->knd l x≠3->knd l y≠3->thr l x≠thr l y->¬(knd l x=4/\knd l y=4)->∀w,toB (at' l x) w=true->toB (at' l y) w=true->(wrB (at' l x) w=true\/wrB (at' l y) w=true)->HB l x (toP l y)):
  (q4n l n).2=0/\frR l n=(-1, -1, -1):=by
 obtain⟨hw,_⟩:=ql9 j v h l o hle;have d:(q4n l n).2=0:=q8R.2 ⟨Yu,by rw[zD];exact hw⟩;refine⟨d,?_⟩;unfold frR;rw[if_pos d];exact q2O (qrU hw.wf A)
end
open Go Go.Proofs.YtikpjajangpdjaaGreatDoor.Ord
structure qdY(c:Cfg)(il:je)(O:Nat)(ps:List (jg))(l:jj)(g:GS):Prop where
 r:qlj c il O ps l g
 e:(q16 c il O ps l).E.length<=65536
 t:∀es:ji,es.map EH.m=(q16 c il O ps l).E->(q4n es ps.length).2=0/\frR es ps.length=(-1, -1, -1)
 b:∀e∈(q16 c il O ps l).E,e.r.length<=1000/\e.wl.length<=64
theorem TrW.lb{n:Nat}{E:jl}(h:TrW n E):∀e∈E,e.r.length<=1000/\e.wl.length<=64:=by
 induction h with
 |nil=>intro e he;cases he
 |snoc _ d j=>
  intro e he
  rcases zy.1 he with h|h
  ·exact j e h
  ·rw[zf.1 h];exact d.lb
section
variable{W0:World}{own:Own}{c:Cfg}{ia pa ka:j9}{il:je}{ic pc kc O:Nat}{ps:jk}{l:jj}{g:GS}
theorem qgE(o:qz W0)(y:q0y W0 0 noneV)(C:qoA c il O (ps.map PH.p) l)(d:∃g,qdY c il O (ps.map PH.p) l g)(v:RdE q05 1 W0 own ia il)(A:RdE PH.enc 1 W0 own pa ps)(B:∀h∈ps,RdE Ins.enc 5 W0 own h.a h.p)(w:RdE qv 1 W0 own ka (l.map fun t=>((t:Nat):Int))):
  jo W0 8 [q9i c ia il.length ic pa ps.length pc ka (l.map fun t=>((t:Nat):Int)).length kc] own (.bool true):=by
 obtain⟨g,d⟩:=d;have j:=d.t;rw[zi] at j;exact qjo o y C d.r d.e j d.b v A B w
end
open Go
def plT(a n:Int):Int:=IntKind.u64.wrap a % n
theorem q4x(a:Int){n:Int}(h:0<n):0<=plT a n/\plT a n<n:=⟨Yf _ Yu,yR _ h⟩
def cfF:Cfg:=⟨4,3,0,0,0,0,0,8,8,0,0,1000,false⟩
def iF(v w:Int):jg:= [⟨1,2,0,0,v⟩,⟨1,1,0,0,0⟩,⟨7,0,0,0,2⟩,⟨10,3,0,0,0⟩,⟨6,3,0,0,2⟩,⟨11,0,2,0,0⟩,⟨1,1,0,0,1⟩,⟨8,0,0,0,0⟩,⟨5,1,0,0,8⟩,⟨16,0,0,0,0⟩,⟨12,4,0,0,w⟩,⟨3,4,4,2,0⟩,
 ⟨13,0,4,0,w⟩,⟨1,5,0,0,0⟩,⟨7,0,0,0,8⟩,⟨11,0,5,0,0⟩,⟨8,0,0,0,0⟩,⟨7,0,0,0,3⟩,⟨10,3,0,0,0⟩,⟨6,3,0,0,3⟩,⟨10,4,0,0,w⟩,⟨3,4,4,2,5⟩,⟨11,0,4,0,w⟩,⟨8,0,0,0,0⟩]
def q2D(v w:Int):Nat->jg
 |0=> []
 |k+1=>iF v w++q2D v w k
theorem q4r(v w:Int):∀k,q2D v w k++iF v w=q2D v w (k+1)
 |0=>by rw[q2D,q2D,q2D,zz,zk]
 |k+1=>by rw[q2D,zd,q4r v w k];rfl
theorem q5C(v w:Int):∀k,(q2D v w k).length=24*k
 |0=>rfl
 |k+1=>by rw[q2D,z8,q5C v w k,show(iF v w).length=24 from rfl];omega
structure PW where
 h:PH
 D:Own
abbrev PW.ok(x:PW):Prop:=qo Ins.enc 64 5 x.h.a x.h.cap x.h.p x.D
def qfG(l:List PW):Own:=(l.map PW.D).flatten
theorem qfH{l:List PW}{x:PW}:qfG (l++ [x])=qfG l++x.D:=by simp[qfG]
theorem qmZ{W0:World}{l:List PW}{x:PW}(h:x∈l):Ent W0 (qfG l) x.D:=by
 obtain⟨l1,l2,rfl⟩:=ZB h;unfold qfG;rw[zB,zF,zY,Z8];exact Ent.right.trans Ent.left
def PgF(t:Nat)(p:jg):Prop:=∃(w:Int) (k:Nat),(1<=w/\w<=3)/\(1<=k/\k<=2)/\p=q2D ((t:Int)+1) w k
abbrev scP(c:Cfg)(i p k:Value):Obj->Prop:=fun z=>z=Obj.cells #[j5 c.words,j5 c.orecs,j5 c.base,j5 c.c0,j5 c.c1,j5 c.c2,j5 c.c3,j5 c.reads,j5 c.writes,j5 c.allocs,j5 c.frees,j5 c.clock, .bool c.strong,i,p,k] 32 (0,0)
abbrev zS:Obj->Prop:=fun z=>z=Obj.cells #[j5 0,j5 0,j5 0,j5 0,j5 0,j5 0,j5 0,j5 0,j5 0,j5 0,j5 0,j5 0, .bool false,j7,j7,j7] 32 (0,0)
abbrev inF:Obj->Prop:=fun z=>z=Obj.cells #[j6 0,j6 5,j6 6,j6 7] 72 (0,0)
section
variable{W0:World}{own:Own}{a:j9}{l:je}{cap:Nat}
theorem q9A(W0:World)(own:Own)(a:Int){n:Int}(d:0<n/\n<=9223372036854775807):jo W0 28 [j5 a,j5 n] own (j5 (plT a n)):=by
 refine qg (sH [] ?_);refine arw ?_;have hu:=q0u a;have hp:=q4x a d.1;unfold plT qQ okU at*;generalize IntKind.u64.wrap a=u at*
 repeat'((try conv=>whnf);first|refine fB ?_|refine fC ?_|refine q3Z ?_ ?_;omega)
 exact⟨rfl,(eC)⟩
theorem qoI{α:Type}{enc:α->jf}{sz:Nat}{a:j9}{l:List α}{cap:Nat}{T:TypeId}{bytes m:Nat}{zs:jf}{D:Own}{C:Own->Own}{a2:j9}{l2:List α}{K:Value->Own->Prop}(v:qo enc T sz a cap l D)(A:RdE enc sz W0 own a2 l2) [mm:AtC D own C](hm:m=l2.length)
  (B:zs.length=sz) (y:0<sz) (o:∀x∈l2,(enc x).all q2G=true) (hb:(l.length+l2.length)*bytes<=140737488355328)
  (w:∀j d h,qo enc T sz j d (l++l2) h->K (.slice j (l.length+l2.length) d) (C h)):qb3 W0 own T sz bytes zs a l.length cap a2 m K:=
 qhM v A hm B y o (fun _=>hb) w
theorem qpY{A A':jh}{T:TypeId}{fz:Nat×Nat}{K:Nat->Own->Prop}(e:A=A')(h:∀b,W0.heap.size<=b->K b ((b,(· =Obj.cells A' T fz))::own)):New W0 own (Obj.cells A T fz) K:=by subst e;exact qf h
theorem qkV{k:IntKind}{m n:Int}{K:Int->Prop}(d:n≠0)(h:K (k.wrap (m.tdiv n))):Quo k m n K:=⟨d,h⟩
theorem qns(h:RdE qv 1 W0 own a l)(j:Nat):jo W0 27 [.slice a l.length cap,j5 j] own (j5 (l.getD j 0)):=by
 refine qg (sH [] ?_);rw[zh]
 by_cases o:j<l.length
 ·obtain⟨x,d⟩:∃x,l[j]? =some x:=⟨_,z6 o⟩
  repeat'((try conv=>whnf);first|refine fH ?_|refine fF ?_|apply gLd;refine q0l h d rfl ?_|(apply qF;first|refine ixE h d ?_ ?_;(first|rfl|omega)))
  all_goals exact⟨by rw[d];rfl,(eC)⟩
 ·repeat'((try conv=>whnf);first|refine fH ?_|refine fG ?_)
  all_goals exact⟨by rw[zV Yu];rfl,(eC)⟩
end
section
variable{W0:World}{own:Own}
theorem qj7{la ka:j9}{lc kc n:Nat}{ls ks:je}(hL:RdE qv 1 W0 own la ls)(hK:RdE qv 1 W0 own ka ks)(hkl:ks.length<=1000)(hn:1<=n/\n<=16):
  jn W0 9 [j5 n, .slice la ls.length lc, .slice ka ks.length kc] own fun v own'=>
   ∃s:(j9×Nat×Own)×List PW×(j9×Nat×Own)×Nat,(v=q9i cfF (some ⟨s.2.2.2,0,none⟩) 4 4 s.1.1 (s.2.1.map PW.h).length s.1.2.1 s.2.2.1.1 (ks.map fun z=>plT z n).length s.2.2.1.2.1/\qo PH.enc 82 1 s.1.1 s.1.2.1 (s.2.1.map PW.h) s.1.2.2/\s.2.1.length=n/\(∀t x,s.2.1[t]? =some x->x.ok/\PgF t x.h.p)/\qo qv 3 1 s.2.2.1.1 s.2.2.1.2.1 (ks.map fun z=>plT z n) s.2.2.1.2.2)/\
    Ent W0 own' ((s.2.2.2,inF)::(s.1.2.2++(qfG s.2.1++(s.2.2.1.2.2++own)))):=by
 refine sH (jq 8 3 [20,22,23,26,0]) ?_
 repeat'((try conv=>whnf);first|refine qf fun bk hbk=>?_|refine fM ?_)
 rename_i b6 hb6 d hb16;refine qK (σ:=Nat×(j9×Nat×Own)×List PW) (fun s=> [(8,j5 s.1)]) (fun s=>(b6,zS)::(d,inF)::(bk,scP cfF (.slice (some ⟨d,0,none⟩) 4 4) (.slice s.2.1.1 (s.2.2.map PW.h).length s.2.1.2.1) (j7))::(s.2.1.2.2++(qfG s.2.2++own)))
  (fun s=>s.1<=n/\qo PH.enc 82 1 s.2.1.1 s.2.1.2.1 (s.2.2.map PW.h) s.2.1.2.2/\s.2.2.length=s.1/\∀t x,s.2.2[t]? =some x->x.ok/\PgF t x.h.p) (fun s=>n-s.1) (0,(none,0,[]),[]) ⟨zv _,qo.nil,rfl,fun _ _ h=>(by cases h)⟩ (eF) (by dsimp only[qfG,List.map_nil,List.flatten_nil];simp only[zk];exact sbE) rfl ?_
 rintro⟨i,⟨H,I,pD⟩,ps⟩ junk ⟨hi,A,w,F⟩;dsimp only at hi A w F ⊢;have hpl2:(ps.map PW.h).length=i:=by rw[zi];exact w
 by_cases af:i<n
 ·have V:(i:Int)<n:=Yu;have L:=fun own' (m:qr own' own)=>qns (W0:=W0) (own:=own') (cap:=lc) hL.up i
  have au:=fun own' z=>q9A W0 own' z (n:=3) Yv
  have aq:=fun own' z=>q9A W0 own' z (n:=2) Yv
  generalize ls.getD i 0=z at L;have hw:=q4x z (n:=3) Yv
  repeat'((try conv=>whnf);first|refine fF ?_|(apply qe;first|refine qd (L _ Yx) ?_|refine qd (au _ z) ?_)|refine fB ?_)
  have hR:=q4x (IntKind.i64.wrap (z.tdiv 3)) (n:=2) Yv;have C:=fun own'=>aq own' (IntKind.i64.wrap (z.tdiv 3))
  generalize plT (IntKind.i64.wrap (z.tdiv 3)) 2=R at hR C;generalize plT z 3=o at hw;refine qK (σ:=Nat×j9×Nat×Own) (fun s=> [(13,j5 s.1),(12, .slice s.2.1 (q2D ((i:Int)+1) (1+o) s.1).length s.2.2.1)]) (fun s=>(b6,zS)::(d,inF)::(bk,scP cfF (.slice (some ⟨d,0,none⟩) 4 4) (.slice H (ps.map PW.h).length I) (j7))::(s.2.2.2++(pD++(qfG ps++own))))
   (fun s=>(s.1:Int)<=1+R/\qo Ins.enc 64 5 s.2.1 s.2.2.1 (q2D ((i:Int)+1) (1+o) s.1) s.2.2.2) (fun s=>2-s.1) (0,none,0,[]) ⟨by show((0:Nat):Int)<=_;omega,qo.nil⟩ (eF) (by simp only[zk];exact sbE) rfl ?_
  rintro⟨k,a,cap,D⟩ G ⟨hk,y⟩;dsimp only at hk y ⊢;have hcl:=q5C ((i:Int)+1) (1+o) k
  by_cases ae:(k:Int)<1+R
  ·repeat'((try conv=>whnf);first|refine fF ?_|refine qkV Yv ?_|(with_reducible show New _ _ _ _);apply Stop.h|apply qe;refine qd (C _) ?_|refine fB ?_)
   refine Stop.mk ?_;refine qpY (A':=(((iF ((i:Int)+1) (1+o)).map Ins.enc).flatten).toArray) (by kernel_rfl) fun be Q=>?_
   conv=>whnf
   refine qoI y (q1V (l:=iF ((i:Int)+1) (1+o)) (by(repeat(first|exact List.Mem.head _|apply List.Mem.tail))) (fun _ _=>rfl) (by rw[zU])) rfl rfl Yu (fun _ _=>rfl) (by have:(iF ((i:Int)+1) (1+o)).length=24:=rfl;omega) fun a2 c2 D2 M=>?_
   repeat'((try conv=>whnf);first|refine fB ?_)
   all_goals
    rw[q4r] at M;refine⟨(k+1,a2,c2,D2),⟨by show((k+1:Nat):Int)<=_;omega,M⟩,by simp only;omega,?_,sbE⟩;dsimp only;rw[show(q2D ((i:Int)+1) (1+o) (k+1)).length=(q2D ((i:Int)+1) (1+o) k).length+(iF ((i:Int)+1) (1+o)).length by rw[<-q4r,z8]];exact(eF)
  ·have hkt':¬(k:Int)<1+R:=ae;have hkR:(k:Int)=1+R:=Yu
   repeat'((try conv=>whnf);first|refine fG ?_|refine qkV Yv ?_|refine qf fun be Q=>?_|apply q0z (enc:=PH.enc) (T:=82) (⟨a,cap,q2D ((i:Int)+1) (1+o) k⟩:PH) A;exact rfl;exact rfl;omega;exact rfl;exact rfl;omega;intro a5 c5 Z B|apply qe;refine qd (C _) ?_|refine fB ?_|refine fA ?_|refine fN ?_)
   all_goals
    refine⟨(i+1,(a5,c5,Z),ps++ [⟨⟨a,cap,q2D ((i:Int)+1) (1+o) k⟩,D⟩]),⟨af,by dsimp only;rw[zB];exact B,by dsimp only;rw[z8,w];rfl,fun t x J=>?_⟩,by simp only;omega,(eF),?_⟩
    ·dsimp only at J
     by_cases X:t<ps.length
     ·rw[zG X] at J;exact F t x J
     ·have aj:=(z7.1 J).1;rw[z8,zH] at aj;obtain rfl:t=i:=Yu;rw[zT Yu,w,yd] at J;cases J;exact⟨y,1+o,k,Yu,Yu,rfl⟩
    ·dsimp only;rw[qfH,zB,z8];simp only[zd];exact sbE
 ·obtain rfl:i=n:=Yu;have V:¬(i:Int)<i:=Yu
  repeat'((try conv=>whnf);first|refine fG ?_)
  refine qK (σ:=Nat×j9×Nat×Own) (fun s=> [(14,j5 s.1)]) (fun s=>(b6,zS)::(d,inF)::(bk,scP cfF (.slice (some ⟨d,0,none⟩) 4 4) (.slice H (ps.map PW.h).length I) (.slice s.2.1 ((ks.take s.1).map fun z=>plT z i).length s.2.2.1))::(s.2.2.2++(pD++(qfG ps++own))))
   (fun s=>s.1<=ks.length/\qo qv 3 1 s.2.1 s.2.2.1 ((ks.take s.1).map fun z=>plT z i) s.2.2.2) (fun s=>ks.length-s.1) (0,none,0,[]) ⟨zv _,qo.nil⟩ (eF) (by simp only[zk];exact sbE) rfl ?_
  rintro⟨j,a,cap,D⟩ G ⟨hj,y⟩;dsimp only at hj y ⊢;have X:((ks.take j).map fun z=>plT z i).length=j:=by rw[zi,zQ];omega
  by_cases S:j<ks.length
  ·obtain⟨z,hz⟩:∃z,ks[j]? =some z:=⟨_,z6 S⟩
   have U:(j:Int)<ks.length:=Yu;have aw:∀own':Own,jo W0 28 [j5 z,j5 i] own' (j5 (plT z i)):=fun own'=>q9A W0 own' z (n:=(i:Int)) Yu
   have W:(ks.take (j+1)).map (fun z=>plT z i)=((ks.take j).map fun z=>plT z i)++ [plT z i]:=by rw[zZ,hz,zB];rfl
   repeat'((try conv=>whnf);first|refine fF ?_|refine qf fun be Q=>?_|apply q0z (enc:=qv) (T:=3) (plT z i) y;exact rfl;exact rfl;omega;exact rfl;exact rfl;omega;intro a5 c5 Z B|apply gLd;refine q0l hK hz rfl ?_|(apply qF;first|refine ixE hK hz ?_ ?_;(first|rfl|omega))|apply qC;refine qj (fun ex=>aw _) ?_|refine fB ?_|refine fA ?_|refine fN ?_)
   all_goals
    refine⟨(j+1,a5,c5,Z),⟨S,by dsimp only;rw[W];exact B⟩,by simp only;omega,(eF),?_⟩;dsimp only;rw[W,z8];exact sbE
  ·obtain rfl:j=ks.length:=Yu;have U:¬(ks.length:Int)<ks.length:=Yu;rw[Z4] at y ⊢
   repeat'((try conv=>whnf);first|refine fG ?_|refine fL ?_|refine fM ?_)
   all_goals exact⟨((H,I,pD),ps,(a,cap,D),d),⟨rfl,A,w,F,y⟩,sbE⟩
end
open Go Go.Proofs.YtikpjajangpdjaaGreatDoor.Ord
theorem qex{c:Cfg}(h:qG c=0)(hb:0<=qT c)(ho:1<=c.orecs):COk c:=⟨fun w d h1=>by
 unfold qB;rw[if_pos ⟨h,d,Yu⟩];exact⟨Yf _ Yu,yR _ Yu⟩⟩
theorem qiT{c:Cfg}{il:je}{O:Nat}{ps:List (jg)}(v:CfO c)(h:(il.length:Int)=c.words)(w:c.orecs=(O:Int))(hw:q4w il):qlj c il O ps [] (q19 c il ps):=by
 have d:=q23.zero (c:=c) (ps:=ps) (O:=O) h w hw;have hcw:=v.hcw;refine⟨fun k t A=>(by cases A),zv _,fun x j=>?_,fun u x a j y=>?_,rfl,by rw[d.gi.ol,<-d.gi.xl];rfl,d.obs,d.dat,by have:=d.gi.dl;omega⟩
 ·obtain⟨t,B,o⟩:=ZZ j;have:=(d.xt t x (by rw[<-o];exact z6 B)).ob;omega
 ·have:=((d.xt u x j).at' a y).ck;omega
def iZ:Ins:=⟨0,0,0,0,0⟩
def cfA:Cfg:=⟨1,1,0,0,0,0,0,1,1,0,0,0,false⟩
theorem qrD:CfO cfA:=⟨Yv,Yv,Yv,rfl,Yv,qex Yv Yv Yv⟩
theorem qrF:CfO cfF:=⟨Yv,Yv,Yv,rfl,Yv,qex Yv Yv Yv⟩
theorem qq6:PrO [iZ]:=⟨Yv,Yv⟩
theorem qmV{l:je}(h:(l.all fun x=>decide (okU x))=true):q4w l:=fun v d=>of_decide_eq_true (zX.1 h v d)
theorem qqi:∃g,qlj cfA [5] 1 [[iZ]] [0] g:=by
 obtain⟨g,_,h,_⟩:=qnb (P:=fun _ _ _=>True) (c:=cfA) (ps:= [[iZ]]) (il:= [5]) (O:=1) (l:= [0]) qrD Yv (fun p j=>by rw[zf.1 j];exact qq6) (fun p j=>by rw[zf.1 j];decide) rfl rfl (qmV Yv) trivial (fun k q g r t _ _ _ o x p i _ j _ w _ _ d _=>by
  have o:t<1:=o;obtain rfl:t=0:=Yu;cases j;have v:i=iZ:=by
   have:=zg w;exact zf.1 this
  rw[v] at d;exact absurd d Yv) (fun _ _ _ _ _ _ _ _ _ _ _ _ _=>trivial) Yv Yv
 exact⟨g,h⟩
theorem qs6:(q16 cfA [5] 1 [[iZ]] [0]).S.length=1/\∃x,(q16 cfA [5] 1 [[iZ]] [0]).xs= [x]/\x.th.dn=true:=⟨by rfl,⟨_,rfl,by rfl⟩⟩
section
variable{W0:World}{own:Own}
theorem qdo(S:qz W0)(own:Own):jo W0 12 [] own (.bool true):=by
 refine qg (sH [] ?_);obtain⟨g,H⟩:=qqi;have X:=fun(own':Own) (ia pa ka:j9) (a:j9) (ic pc kc cap:Nat) (T:RdE q05 1 W0 own' ia [5]) (V:RdE PH.enc 1 W0 own' pa [⟨a,cap,[iZ]⟩]) (W:RdE Ins.enc 5 W0 own' a [iZ]) (U:RdE qv 1 W0 own' ka [0])=>
  ql3 (W0:=W0) (own:=own') (c:=cfA) (ic:=ic) (pc:=pc) (kc:=kc) (O:=1) (l:= [0]) S (by rfl) Yv ⟨rfl,rfl,rfl,rfl⟩ Yv T rfl Yv Yv rfl Yv V (fun h B=>by rw[zf.1 B];exact W) U (by show 1<=1;decide) (by show 1<=16;decide) (fun h B=>by rw[zf.1 B];exact qq6.ck) (fun h B=>by rw[zf.1 B];show 1<=_;decide) rfl Yv (fun t Z=>by rw[zf.1 Z];show 0<1;exact Nat.zero_lt_one) H.hg H.hS H.hob
 obtain⟨hS1,I⟩:=qs6
 repeat'((try conv=>whnf);first|refine qf fun Q F=>?_|refine fL ?_|refine fM ?_)
 rename_i b1 h1 b2 h2 b3 h3 M h4
 repeat'((try conv=>whnf);first|(apply qe;first|refine qi (X _ (some ⟨b1,0,none⟩) (some ⟨b3,0,none⟩) (some ⟨M,0,none⟩) (some ⟨b2,0,none⟩) 1 1 1 1 (q1V (by(repeat(first|exact List.Mem.head _|apply List.Mem.tail))) (fun _ _=>rfl) rfl) (q1V (by(repeat(first|exact List.Mem.head _|apply List.Mem.tail))) (fun _ _=>rfl) rfl) (q1V (by(repeat(first|exact List.Mem.head _|apply List.Mem.tail))) (fun _ _=>rfl) rfl) (q1V (by(repeat(first|exact List.Mem.head _|apply List.Mem.tail))) (fun _ _=>rfl) rfl)) fun y v hv=>?_;apply Stop.h))
 obtain⟨⟨cs,ta,tc,tD,sa,sc,sD,ea,ec,oa,oc,oD,ol,da,el,eD,gD⟩,L⟩:=y;obtain⟨rfl,d,o⟩:=hv;dsimp only at d o;have G:([⟨some ⟨b2,0,none⟩,1,[iZ]⟩]:jk).map PH.p= [[iZ]]:=rfl;rw[G] at d o ⊢;generalize q16 cfA [5] 1 [[iZ]] [0]=R at*;obtain⟨a1,a2,a3,a4,a5,n1,c1,n2,c2,n3,c3,n4,c4,n5,c5,x1,x2,x3,j⟩:=d.sh;dsimp only at j;subst j;obtain⟨x,hx,J⟩:=I;rw[hx] at o;obtain⟨y,rfl⟩:∃y,L= [y]:=List.length_eq_one_iff.1 (by have:=congrArg List.length o;rwa[zi] at this)
 have hy:y.x=x:=by simpa using o
 have w:=d.ht.rd (W0:=W0);obtain⟨th,D⟩:∃th,y.x.th=th:=⟨_,rfl⟩
 have A:th.dn=true:=by rw[<-D,hy];exact J
 have C:([y].map fun y=>y.x.th)[0]? =some th:=by rw[<-D];rfl
 obtain⟨pc,rg,ocn,dn⟩:=th;dsimp only at A;subst A;have hS2:(R.S.length:Int)=1:=Yu;refine Stop.mk ?_
 repeat'((try conv=>whnf);first|refine fH ?_|refine fJ ?_|apply gLd;refine qpR w C rfl ?_|(apply qF;first|refine ixE w C ?_ ?_;(first|rfl|omega))|refine fO ?_|refine fA ?_|refine fM ?_|refine qf fun Q F=>?_)
 all_goals exact⟨rfl,sbE⟩
end
open Go Go.Proofs.YtikpjajangpdjaaGreatDoor.Ord
theorem qhX{v w:Int}{k:Nat}(hv:1<=v/\v<=3)(hw:1<=w/\w<=3)(hk:1<=k/\k<=2):PrO (q2D v w k):=by
 have d:v=1\/v=2\/v=3:=Yu;have h:w=1\/w=2\/w=3:=Yu;have j:k=1\/k=2:=Yu
 rcases j with rfl|rfl <;>rcases d with rfl|rfl|rfl <;>rcases h with rfl|rfl|rfl <;>exact⟨Yv,Yv⟩
theorem qab{v w:Int}{k:Nat}(hk:1<=k/\k<=2):(q2D v w k).length<=64:=by rw[q5C];omega
abbrev ilF:je:= [0,5,6,7]
theorem qt2{ps:List (jg)}{l:jj}(o:1<=ps.length/\ps.length<=3)(v:∀(t:Nat) p,ps[t]? =some p->PgF t p)(d:l.length<=1000)(j:∀t∈l,t<ps.length):qoA cfF ilF 3 ps l/\(∀p∈ps,PrO p)/\∀p∈ps,p.length<=64:=by
 have h:∀p∈ps,PrO p/\p.length<=64:=fun p hm=>by
  obtain⟨t,y,rfl⟩:=ZZ hm;obtain⟨w,k,hw,d,e⟩:=v t _ (z6 y);rw[e];exact⟨qhX Yu hw d,qab d⟩
 exact⟨⟨Yv,⟨rfl,rfl,rfl,rfl⟩,Yv,rfl,Yv,Yv,qmV Yv,rfl,Yv,o.1,Yu,fun p hm=>(h p hm).1.ck,fun p hm=>Zc (h p hm).2 Yv,d,fun p hm=>(h p hm).1.na,rfl,j⟩,fun p hm=>(h p hm).1,fun p hm=>(h p hm).2⟩
section
variable{W0:World}{own:Own}
theorem qdp(M:qz W0)(S:q0y W0 0 noneV)(own:Own):jo W0 5 [] own (.bool true):=by
 refine qg (sH [] ?_);have C:=fun own=>qdo (W0:=W0) M own
 have D:=fun(own':Own)=>qj7 (W0:=W0) (own:=own') (la:=none) (ka:=none) (lc:=0) (kc:=0) (n:=2) (ls:= []) (ks:= []) RdE.nil RdE.nil (zv _) Yv
 obtain⟨J,L⟩:=qcG (n:=2) (l:= []) Yv Yv TrW.nil rfl (zv _) (fun x y _ X=>(by cases X));have A:=fun(own':Own)=>sp_trun (W0:=W0) (own:=own') (a:=none) (l:= []) (cap:=0) S RdE.nil (fun e he=>by cases he) (zv _) (2:Int)
 rw[show((2:Nat):Int)=2 from rfl] at J L;rw[J,L] at A
 repeat'((try conv=>whnf);first|(apply qe;first|refine qi (D _) fun y v W=>?_;apply Stop.h))
 obtain⟨⟨pa,pc,pD⟩,ps,⟨ka,kc,Z⟩,b⟩:=y;obtain⟨rfl,o,w,d,j⟩:=W;dsimp only at o w d j;have G:∀(t:Nat) p,((ps.map PW.h).map PH.p)[t]? =some p->PgF t p:=fun t p Q=>by
  rw[ya,zI] at Q;obtain⟨x,B,rfl⟩:=Zb.1 Q;exact(d t x B).2
 have hln:((ps.map PW.h).map PH.p).length=2:=by rw[zi,zi];exact w
 obtain⟨V,hpo,hp64⟩:=qt2 (ps:=(ps.map PW.h).map PH.p) (l:= []) Yu G (zv _) (fun t H=>by cases H);have U:=qiT (c:=cfF) (il:=ilF) (O:=3) (ps:=(ps.map PW.h).map PH.p) qrF rfl rfl (qmV Yv);have F:=o.rd (W0:=W0);have I:=fun(own':Own) (R:RdE q05 1 W0 own' (some ⟨b,0,none⟩) ilF) (m1:qr own' pD) (m2:qr own' (qfG ps)) (m3:qr own' Z)=>q7v (W0:=W0) (own:=own') (c:=cfF) (ia:=some ⟨b,0,none⟩) (ic:=4) (pa:=pa) (pc:=pc) (ka:=ka) (kc:=kc) (l:= []) M V U R F.up (fun h T=>by
  obtain⟨x,B,rfl⟩:=zM.1 T;obtain⟨t,H,rfl⟩:=ZZ B;exact((((d t _ (z6 H)).1.rd (W0:=W0)).ent (qmZ B))).up) ((j.rd (W0:=W0)).up)
 refine Stop.mk ?_
 repeat'((try conv=>whnf);first|refine fH ?_|(apply qe;first|refine qd (I _ (q1V (by(repeat(first|exact List.Mem.head _|apply List.Mem.tail))) (fun _ _=>rfl) rfl) Yx Yx Yx) ?_|refine qd (A _) ?_|refine qd (C _) ?_)|refine fO ?_|refine fA ?_|refine fL ?_|refine fM ?_|refine qf fun bk hbk=>?_)
 all_goals exact⟨rfl,(eC)⟩
end
open Go
def evN(e:EvM):EvM:={e with ev:=0}
def tE(E:jl):jl:=(E.filter fun e=>decide (e.k≠3)).map evN
theorem q1p{E F:jl}:tE (E++F)=tE E++tE F:=by unfold tE;rw[yn,zB]
theorem q3v:tE []= []:=rfl
theorem q7x{e:EvM}{E:jl}(h:e.k≠3):tE (e::E)=evN e::tE E:=by unfold tE;rw[List.filter_cons_of_pos (by simpa using h)];rfl
theorem qob{e:EvM}{E:jl}(h:e.k=3):tE (e::E)=tE E:=by unfold tE;rw[List.filter_cons_of_neg (by simpa using h)]
theorem qcD{e:EvM}{E:jl}(h:e∈tE E):∃z∈E,evN z=e/\e.k≠3:=by
 unfold tE at h;obtain⟨z,o,rfl⟩:=zM.1 h;obtain⟨d,j⟩:=Zt.1 o;exact⟨z,d,rfl,of_decide_eq_true j⟩
def pE(e:EvM):Prop:=e.k=1\/e.k=2
def cPP(x y:EvM):Prop:=x.w=y.w/\(x.k=2\/y.k=2)
def cPT(x y:EvM):Prop:=x.w∈y.wl\/(x.k=2/\x.w∈y.r)
structure qk7(L:jl):Prop where
 pp:∀A B C x y,L=A++x::(B++y::C)->pE x->pE y->x.t≠y.t->cPP x y->∃B1 B2 B3 e f,B=B1++e::(B2++f::B3)/\e.k=4/\e.t=x.t/\f.k=4/\f.t=y.t
 tp:∀A B C x y,L=A++x::(B++y::C)->x.k=4->pE y->x.t≠y.t->cPT y x->∃f∈B,f.k=4/\f.t=y.t
 pt:∀A B C x y,L=A++x::(B++y::C)->pE x->y.k=4->x.t≠y.t->cPT x y->∃e∈B,e.k=4/\e.t=x.t
def Rch(c:Cfg)(ps:List (jg))(g0 g:GS):Prop:=∃l:List ChM,(∀ch∈l,ch.ad= []/\(ch.f=0\/ch.f=5))/\q4o c ps g0 l=some g
section
variable{c:Cfg}{ps:List (jg)}{g0 g g':GS}{ch:ChM}{p:jg}{b:BM}{x:GT}{a:AT}{rr:List (Int×Int)}{u:Nat}
theorem Rch.run(h:Rch c ps g0 g){l:List ChM}(j:∀ch∈l,ch.ad= []/\(ch.f=0\/ch.f=5))(e:q4o c ps g l=some g'):Rch c ps g0 g':=by
 obtain⟨k,d,o⟩:=h;refine⟨k++l,fun z v=>?_,(q8l k _ o).trans e⟩
 rcases zy.1 v with h|h
 ·exact d z h
 ·exact j z h
theorem Rch.one(h:Rch c ps g0 g)(d:ch.ad= [])(j:ch.f=0\/ch.f=5)(e:chM c ps g ch=some g'):Rch c ps g0 {g' with n:=g.n+1}:=
 h.run (l:= [ch]) (fun z o=>by rw[zf.1 o];exact⟨d,j⟩) (q40 e)
theorem qfZ:∀(l:List ChM) (g:GS),GOk c ps g->(∀ch∈l,ch.ad= []/\(ch.f=0\/ch.f=5))->q4o c ps g l=some g'->GOk c ps g'
 | [],g,h,_,e=>by cases e;exact h
 |ch::l,g,h,v,e=>by
  unfold q4o at e;have j:=qcY h (ch:=ch) (fun z d=>by rw[(v ch zj).1] at d;cases d);unfold doM at j;cases o:chM c ps g ch with
  |none=>rw[o] at e;cases e
  |some g1=>
   rw[o] at e j;exact qfZ l _ j (fun z d=>v z (zl _ d)) e
theorem Rch.ok(d:GOk c ps g0)(h:Rch c ps g0 g):GOk c ps g:=by
 obtain⟨l,j,e⟩:=h;exact qfZ l _ d j e
theorem qr3{b:BM}{a:Nat}:∀n,(wrL b a n).r=b.r
 |0=>rfl
 |n+1=>(qr3 n:(wrM (wrL b a n) (a+n) 0).r=b.r)
theorem qqV{i:Ins}{w:Int}(h:w∈b.r):w∈(q0M c b i).1.r:=by
 unfold q0M
 split
 ·split
  ·exact h
  ·show w∈(if _∈b.w\/_∈b.r then b.r else b.r++ [_])
   split
   ·exact h
   ·exact zP _ h
 ·split
  ·split <;>exact h
  ·split
   ·split
    ·exact h
    ·unfold BM.put;dsimp only;rw[qr3];exact h
   ·split
    ·split <;>exact h
    ·split
     ·exact h
     ·split <;>exact h
theorem qg0{w:Int}:∀(f:Nat) (b:BM),w∈b.r->w∈(q2c c p f b).1.r
 |0,_,h=>h
 |f+1,b,h=>by
  unfold q2c
  split
  ·exact h
  ·split
   ·exact qg0 f _ (qqV h)
   ·exact qqV h
theorem qoi(hG:GOk c ps g)(V:q99 ps)(hp:ps[u]? =some p)(hT:TL c p x a rr)(B:g.T[u]? =some ⟨x.bg,x.sv,x.th.oc,false⟩)(hA:Agr rr g.d)(hs:∀z∈rr,z.1∈a.seen)(X:∀k,a.ph≠ .ent k)(W:a.ph.back=false){z:Int×Int}(hz:z∈rr++fl a)(af:a.addr=z.1\/z∈rr)(S:a.addr=z.1->a.addr∉a.ad/\0<=a.addr\/z∈rr):
  ∃(g1:GS) (b1 e:EvM),chM c ps g ⟨(u:Int),0,[]⟩=some g1/\g1.E=g.E++ [b1,e]/\b1.k=3/\e.k=4/\e.t=(u:Int)/\z.1∈e.r/\∀t,t≠u->g1.T[t]? =g.T[t]? :=by
 obtain⟨ib,C,h7⟩:=hT.bg;have Z:nxM ps g u=some ib:=qpZ B hp rfl C;obtain⟨g1,j,_⟩:=qkh hG V Z (k:=0) (.inl rfl);unfold doM at j;have A:=qcW (c:=c) B hp rfl C 0;rw[if_pos h7] at A;rw[A] at j ⊢;obtain⟨_,_,Q,i,hi,hq⟩:=hT.req X W;have M:=Q g.tk g.d hG.dl hA;obtain⟨J,T,G⟩:=M.run;have hk1:J+1<=p.length:=by
  have h1:x.bg+1+J<=x.th.pc:=T;have h2:=(z7.1 hi).1;omega
 have I:z.1∈(q2c c p p.length (q6H x g.tk g.d)).1.r:=by
  obtain⟨f,hf⟩:∃f,p.length=J+(f+1):=⟨p.length-J-1,Yu⟩
  rw[hf,G (f+1)]
  by_cases v:z∈rr
  ·exact qg0 _ _ (hs z v)
  ·have w:=(zy.1 hz).resolve_left v;have H:=af.resolve_right v;obtain⟨D,R⟩:=(S H).resolve_right v;unfold q2K at hq;unfold fl at w
   split at w
   ·rename_i e;rw[e] at hq;obtain⟨_,L,y,U,_⟩:=hq;rw[q2c,show p[(q2x x a g.tk g.d).t.pc]? =some i from hi];dsimp only;have ae:q0M c (q2x x a g.tk g.d) i=((rdM (q2x x a g.tk g.d) a.addr.toNat).put i.a 1 ((q2x x a g.tk g.d).d.getD a.addr.toNat 0),0):=by
     rw[y];exact qhe (d:=q2x x a g.tk g.d) L (by show adr x.th.rg i.b i.imm<c.words;rw[<-y];exact U)
    rw[ae,if_pos rfl];refine qg0 _ _ ?_;show z.1∈(if((a.addr.toNat:Nat):Int)∈a.ad\/((a.addr.toNat:Nat):Int)∈a.seen then a.seen else a.seen++ [((a.addr.toNat:Nat):Int)]);rw[Z2 R,<-H]
    split
    ·rename_i h;exact h.resolve_left D
    ·exact zJ _ (zf.2 rfl)
   ·cases w
 unfold txM at j ⊢;rw[if_neg Yv] at j ⊢;have e:(⟨g.d,g.tk,⟨x.bg+1,x.sv,x.th.oc,false⟩,[],[],[],[]⟩:BM)=q6H x g.tk g.d:=rfl;rw[e] at j ⊢;generalize q2c c p p.length (q6H x g.tk g.d)=z1 at I j ⊢;obtain⟨b1,o⟩:=z1;dsimp only at I j ⊢
 by_cases F:o= -1\/b1.ad≠ []
 ·rw[if_pos F] at j;cases j
 ·rw[if_neg F]
  split
  ·exact⟨_,_,_,rfl,rfl,rfl,rfl,rfl,I,fun t ht=>by show(g.T.set u _)[t]? =_;rw[zx,if_neg (fun e=>ht e.symm)]⟩
  ·exact⟨_,_,_,rfl,rfl,rfl,rfl,rfl,I,fun t ht=>by show(g.T.set u _)[t]? =_;rw[zx,if_neg (fun e=>ht e.symm)]⟩
theorem qq5{i:Ins}{th:Thr}(v:c.strong=false)(w:g.T[u]? =some th)(A:ps[u]? =some p)(hd:th.dn=false)(y:p[th.pc]? =some i)(o:i.op=12\/i.op=13)(hw:adr th.rg (if i.op=12 then i.b else i.a) i.imm<c.words):
  ∃(g1:GS) (e:EvM),chM c ps g ⟨(u:Int),0,[]⟩=some g1/\g1.E=g.E++ [e]/\e.k=(if i.op=12 then 1 else 2)/\e.t=(u:Int)/\e.w=adr th.rg (if i.op=12 then i.b else i.a) i.imm:=by
 have h:=qcW (c:=c) w A hd y 0;rw[if_neg Yu] at h;rw[h];unfold sgM;rw[if_pos o];generalize adr th.rg (if i.op=12 then i.b else i.a) i.imm=a at hw ⊢;dsimp only;rw[if_neg Yv,if_neg Yu];have j:∀k,plE c g.n u k a= [⟨g.n,u,k,a,[],[]⟩]:=fun k=>by unfold plE;rw[v,if_neg Yv]
 by_cases d:i.op=12
 ·rw[if_pos d,if_pos d,j];exact⟨_,_,rfl,rfl,rfl,rfl,rfl⟩
 ·rw[if_neg d,if_neg d,j];exact⟨_,_,rfl,rfl,rfl,rfl,rfl⟩
end
open Go
section
variable{c:Cfg}{t:Nat}{m:MS}{a:AT}
theorem qhI{l:je}{v w:Int}(h:w∈l):w∈q1Y l v:=by
 unfold q1Y
 split
 ·exact h
 ·exact zP _ h
theorem qe4{l:je}{v:Int}:v∈q1Y l v:=by
 unfold q1Y
 split
 ·rename_i h;exact h
 ·exact zJ _ (zf.2 rfl)
theorem q8o{w:Int}(h:w∈a.seen):w∈(qh c t m a).2.1.seen:=by
 have d:∀y:AT,y.rest.seen=y.seen:=fun y=>by unfold AT.rest;split <;>rfl
 have o:∀(y:AT) q,(y.endA c q).seen=y.seen:=fun y q=>by unfold AT.endA;split <;>rfl
 have B:∀(y:AT) q,(y.kont c q).seen=y.seen:=fun y q=>by
  cases q with
  |en q=>exact o y q
  |tk v=>rfl
  |wr w v=>
   unfold AT.kont;dsimp only
   split
   ·exact o y 7
   ·split <;>rfl
 unfold qh;cases e:a.ph with
 |idle=>exact h
 |loc q=>dsimp only;rw[B];exact h
 |ent j=>dsimp only;(repeat' split) <;>exact h
 |rd j b v=>
  dsimp only
  split
  ·split <;>exact h
  ·split
   ·exact h
   ·split
    ·exact h
    ·split <;>exact qhI h
 |lk s ld=>dsimp only;(repeat' split) <;>exact h
 |tn b=>dsimp only;(repeat' split) <;>exact h
 |ck l=>
  dsimp only
  split
  ·rw[d];exact h
  ·split <;>exact h
 |dc=>
  dsimp only
  split
  ·rw[d];exact h
  ·split
   ·exact h
   ·rw[d];exact h
 |wr A V=>dsimp only;split <;>exact h
 |rl A V=>dsimp only;split <;>exact h
 |sp=>exact h
 |ps=>exact h
 |lv=>exact h
theorem qiV{q:Int×Int}(d:q∈fl a)(hb:(qh c t m a).2.1.busy=false):q.1∈(qh c t m a).2.1.seen:=by
 unfold fl at d
 split at d
 ·rename_i j b v e
  split at d
  ·cases d
  ·rename_i h;rw[zf.1 d];unfold qh at hb ⊢;rw[e] at hb ⊢;dsimp only at hb ⊢;rw[if_neg (fun e=>h (.inl e)),if_neg (fun e=>h (.inr e))] at hb ⊢
   split at hb
   ·exfalso;cases hb
   ·rename_i hw;rw[if_neg hw]
    split <;>exact qe4
 ·cases d
end
section
variable{c:Cfg}{t:Nat}{m:MS}{a:AT}
theorem qlP(h:a.ph≠ .dc):(qh c t m a).2.1.dn=a.dn:=by
 unfold qh;cases e:a.ph with
 |idle=>rfl
 |loc q=>exact qbO _ q
 |ent j=>dsimp only;(repeat' split) <;>rfl
 |rd j b v=>dsimp only;(repeat' split) <;>rfl
 |lk s ld=>dsimp only;(repeat' split) <;>rfl
 |tn b=>dsimp only;(repeat' split) <;>rfl
 |ck l=>
  dsimp only
  split
  ·exact(q3d _).1
  ·split <;>rfl
 |dc=>exact absurd e h
 |wr A V=>dsimp only;split <;>rfl
 |rl A V=>dsimp only;split <;>rfl
 |sp=>rfl
 |ps=>rfl
 |lv=>rfl
end
structure qow(c:Cfg)(p:jg)(t:Nat)(x:GT)(z:MS×GT×StM×jl):Prop where
 st:z.2.2.1.t=t
 ph:z.2.2.1.ph≠16/\z.2.2.1.ph≠24
 o7:x.at'=none->∀i,p[x.th.pc]? =some i->i.op≠7
 ev:(z.2.2.2= []/\(x.at'=none->∀i,p[x.th.pc]? =some i->(i.op=12\/i.op=13)->c.words<=q0V x i))\/∃i,x.at'=none/\p[x.th.pc]? =some i/\(i.op=12\/i.op=13)/\q0V x i<c.words/\z.2.2.2= [⟨0,t,if i.op=12 then 1 else 2,q0V x i,[],[]⟩]/\z.2.2.1.at'=0/\z.2.1.rest=true
inductive qhs (c:Cfg) (p:jg) (t:Nat) (m:MS) (x:GT):MS×GT×StM×jl->Prop
 |calm (z:MS×GT×StM×jl):z.1.o=m.o->z.1.ck=m.ck->z.2.1.at'=x.at'->(∀a,x.at'=some a->a.dn=false)->(z.1.d=m.d\/∃i v,x.at'=none/\p[x.th.pc]? =some i/\i.op=13/\z.1.d=m.d.set (q0V x i).toNat v)->qow c p t x z->qhs c p t m x z
 |adv (i:Ins) (x0:GT) (a:AT):((x.at'=some a/\x0=x)\/(a.dn=false/\a.st=1/\a.ph≠ .dc/\a.ph≠ .lv/\∀a0,x.at'=some a0->a0.dn=false))->AI c t m a->qhs c p t m x (q0H c p t m x0 a i)
section
variable{c:Cfg}{ps:List (jg)}{n k:Nat}{q:RM}{m:MS}{g g':GS}{r r':Nat->List (Int×Int)}{t u:Nat}{x x':GT}{a b:AT}{p:jg}{i:Ins}{z:MS×GT×StM×jl}
theorem qap(d:AI c t m a)(h:a.ph= .idle):a.dn=false:=by
 have:=d.ph;unfold PhA at this;rw[h] at this;exact this.1
theorem qqK(h:q23 c ps n k q g r)(C:q.xs[t]? =some x)(I:ps[t]? =some p)(T:PrO p)(hd:x.th.dn=false):qhs c p t q.m x (qH c p n t q.m x):=by
 obtain⟨f1,f2⟩:=h.fn C I T;obtain⟨i,B,f3⟩:=f2 hd;have no:x.at'=none->∀a,x.at'=some a->a.dn=false:=fun e a h=>by rw[e] at h;cases h
 have at1:∀{j},p[x.th.pc]? =some j->j=i:=fun e=>by rw[B] at e;cases e;rfl
 have hw:x.at'=none->i.op=16->∀f,qhs c p t q.m x (q0x n p t q.m x f):=fun d o f=> .calm _ rfl rfl (by unfold q0x;dsimp only;split <;>rfl) (no d) (.inl rfl)
  ⟨rfl,by unfold q0x q3q;dsimp only;split <;>first|exact⟨fun e=>absurd e (show ¬(25:Int)=16 by decide),fun e=>absurd e (show ¬(25:Int)=24 by decide)⟩|exact⟨fun e=>absurd e (show ¬(26:Int)=16 by decide),fun e=>absurd e (show ¬(26:Int)=24 by decide)⟩,fun _ j e=>by rw[at1 e];omega, .inl ⟨rfl,fun _ j e h=>by rw[at1 e] at h;omega⟩⟩
 unfold qH;rw[B];dsimp only;cases M:x.fn with
 |some f=>
  have d:=f1 (by rw[M];exact fun e=>by cases e);obtain⟨j,S,o⟩:=((h.gi.out C I d).2.2.2.2.2.1 (by rw[M];exact fun e=>by cases e)).2;rw[at1 S] at o;exact hw d o f
 |none=>
  dsimp only;cases d:x.at' with
  |some a=>
   dsimp only;have Z:=h.gi.ai t x a C d
   split
   ·exact .adv i x a (.inl ⟨d,rfl⟩) Z
   ·rename_i Q;have F:a.busy=false:=by simpa using Q
    obtain⟨b1,b2,b3,b4⟩:=f3 a d F;have G:=q5N F;have A:=qap Z G;have H:∀a0,x.at'=some a0->a0.dn=false:=fun a0 e=>by rw[d] at e;cases e;exact A
    unfold q2I;rw[if_neg Yu,if_neg b4];unfold q1f;rw[if_neg b1]
    by_cases U:8<=i.op/\i.op<=11
    ·rw[if_pos U,d];have V:a.st=1:=by
      have D:=h.gi.th t x p C I;unfold ThR at D;rw[d] at D;dsimp only at D;rw[if_neg (by rw[A];decide)] at D;exact D.2.2.st
     exact .adv i x _ (.inr ⟨by rw[(q9d (i:=i)).2.2];exact A,by unfold q1D AT.read;(repeat' split) <;>exact V,(q9d (i:=i)).2.1,by unfold q1D AT.read;(repeat' split) <;>exact fun e=>(by cases e),H⟩) (h.req C I d G B U)
    ·rw[if_neg U];exact .calm _ rfl rfl rfl H (.inl rfl) ⟨rfl,⟨(by show(0:Int)≠16;decide),by show(0:Int)≠24;decide⟩,fun e=>(by rw[d] at e;cases e), .inl ⟨rfl,fun e=>(by rw[d] at e;cases e)⟩⟩
  |none=>
   dsimp only;have L:i.op≠7->x.tr=0:=fun w=>Decidable.byContradiction fun e=>by
    obtain⟨j,S,h⟩:=(h.gi.out C I d).2.2.2.2.2.2 e;rw[at1 S] at h;exact w h
   unfold q2I
   by_cases v:i.op=12\/i.op=13
   ·rw[if_pos v];have w:x.at'=none->∀j,p[x.th.pc]? =some j->j.op≠7:=fun _ j e=>by rw[at1 e];omega
    have J:∀X:GT,X.at'=none->X.fn=none->X.tr=0->(X.to p.length (x.th.pc+1)).rest=true:=fun X h1 h2 h3=>by unfold GT.rest GT.to;dsimp only;rw[h1,h2,h3];rfl
    unfold q04
    split
    ·rename_i R;exact .calm _ rfl rfl rfl (no d) (.inl rfl) ⟨rfl,⟨(by show(0:Int)≠16;decide),by show(0:Int)≠24;decide⟩,w, .inl ⟨rfl,fun _ j e _=>by rw[at1 e];exact R⟩⟩
    ·rename_i hlt
     split
     ·rename_i y;exact .calm _ rfl rfl rfl (no d) (.inl rfl) ⟨rfl,⟨(by show(1:Int)≠16;decide),by show(1:Int)≠24;decide⟩,w, .inr ⟨i,d,B,v,Yu,by rw[if_pos y],rfl,J _ d M (L Yu)⟩⟩
     ·rename_i y;exact .calm _ rfl rfl rfl (no d) (.inr ⟨i,_,d,B,Yu,rfl⟩) ⟨rfl,⟨(by show(1:Int)≠16;decide),by show(1:Int)≠24;decide⟩,w, .inr ⟨i,d,B,v,Yu,by rw[if_neg y],rfl,J _ d M (L Yu)⟩⟩
   ·rw[if_neg v]
    by_cases o:i.op=16
    ·rw[if_pos o];exact hw d o _
    ·rw[if_neg o];unfold q1f
     by_cases w:i.op=7
     ·rw[if_pos w];exact .adv i _ _ (.inr ⟨rfl,rfl,fun e=>(by cases e),fun e=>(by cases e),no d⟩) AI.start
     ·rw[if_neg w];have hE:∀z:MS×GT×StM×jl,z.2.2.1=⟨t,0,0,acz⟩->z.2.2.2= []->qow c p t x z:=fun z W e2=>⟨by rw[W],by rw[W];exact⟨(by show(0:Int)≠16;decide),by show(0:Int)≠24;decide⟩,fun _ j e=>by rw[at1 e];exact w, .inl ⟨e2,fun _ j e h=>by rw[at1 e] at h;exact absurd h v⟩⟩
      split
      ·rw[d];exact .calm _ rfl rfl rfl (no d) (.inl rfl) (hE _ rfl rfl)
      ·exact .calm _ rfl rfl rfl (no d) (.inl rfl) (hE _ (by rw[d];rfl) rfl)
theorem qiL(B:AI c t m a)(hd:a.dn=true){o:Int}(d:o∈pnd a):(o∈pnd (qh c t m a).2.1/\(qh c t m a).2.1.busy=true)\/m.ck<q17 (qh c t m a).1 o:=by
 have h:=B.ph;unfold PhA at h;unfold pnd at d;cases e:a.ph with
 |wr A V=>
  rw[e] at d;left;unfold qh;rw[e];dsimp only
  split <;>exact⟨d,rfl⟩
 |rl l w=>
  rw[e] at d h;obtain⟨y,F,G,q4,H⟩:=h
  rcases H with ⟨_,_,_,q8,I⟩|⟨C,_⟩
  ·by_cases j:o∈l.tail
   ·left;unfold qh;rw[e];dsimp only;rw[if_neg (yr j)];exact⟨j,rfl⟩
   ·right;have D:o=l.headD 0:=by
     rw[<-q84 y,zN] at d;exact d.resolve_right j
    subst D;have v:w≠ []:=fun e=>y (zC.1 (by rw[G,e];rfl))
    unfold qh q17;rw[e];dsimp only;rw[q91 (B.oc _ (F _ (q5L y))).2,I _ (q5L v),(qf2 _).1];omega
  ·rw[hd] at C;cases C
 |_=>rw[e] at d;cases d
theorem qoZ(j:AI c t m a)(hd:a.dn=true):(qh c t m a).2.1.ad=a.ad/\(pnd (qh c t m a).2.1≠ []->pnd a≠ []):=by
 rcases j.dec_ph hd with ⟨A,V,e⟩|⟨l,w,e⟩|e|e|e
 ·unfold qh pnd;rw[e];dsimp only
  split <;>exact⟨rfl,fun h=>h⟩
 ·have d:=j.ph;unfold PhA at d;rw[e] at d;unfold qh;rw[e];dsimp only;have:pnd a≠ []:=by unfold pnd;rw[e];exact d.1
  split <;>exact⟨rfl,fun _=>this⟩
 ·unfold qh;rw[e];exact⟨rfl,fun h=>absurd rfl h⟩
 ·unfold qh;rw[e];exact⟨rfl,fun h=>absurd rfl h⟩
 ·unfold qh;rw[e];exact⟨rfl,fun h=>absurd rfl h⟩
theorem qez(D:AI c t m a)(o:a.ph= .dc)(hd:(qh c t m a).2.1.dn=true):(qh c t m a).2.1.ad=a.ad/\(qh c t m a).2.1.seen=a.seen/\(qh c t m a).2.1.code=a.code/\(qh c t m a).2.1.busy=true/\(qh c t m a).2.2.2=16/\(a.ad= []->pnd (qh c t m a).2.1= [])/\(a.code=1->a.ad≠ []->pnd (qh c t m a).2.1=a.oc):=by
 have d:=D.ph;unfold PhA at d;rw[o] at d;obtain⟨C,_,⟨_,w⟩,_⟩:=d;have F:∀y:AT,y.rest.ad=y.ad/\y.rest.seen=y.seen/\y.rest.code=y.code/\y.rest.busy=true/\pnd y.rest=y.oc:=fun y=>by unfold AT.rest;split <;>first|exact⟨rfl,rfl,rfl,rfl,rfl⟩|rename_i h;exact⟨rfl,rfl,rfl,rfl,h.symm⟩
 rw[q3u o] at hd ⊢;dsimp only at hd ⊢
 split
 ·rename_i v;rw[if_pos v,(q3d _).1] at hd;rw[show({a with ck:=m.ck,code:=6}:AT).dn=a.dn from rfl,C] at hd;cases hd
 ·split
  ·rename_i j;have j:a.code=1/\a.ad≠ []:=by unfold AT.sto at j;exact of_decide_eq_true j
   exact⟨rfl,rfl,rfl,rfl,rfl,fun e=>absurd e j.2,fun _ _=>rfl⟩
  ·rename_i j;obtain⟨r1,r2,r3,r4,r5⟩:=F {a with ck:=m.ck,dn:=true};refine⟨r1,r2,r3,r4,rfl,fun e=>?_,fun A B=>?_⟩
   ·rw[r5];exact Decidable.byContradiction fun e'=>(w e').2 e
   ·exact absurd (by unfold AT.sto;exact decide_eq_true ⟨A,B⟩) j
theorem qhs.ver(v:COk c)(y:n<=16)(w:k<=100000)(h:q0d c ps n k q.m q.xs g r)(A:t<n)(B:qhs c p t q.m x z)(o:Int):q17 z.1 o=q17 q.m o\/q17 z.1 o=q.m.ck+1:=by
 cases B with
 |calm _ d=>exact .inl (q33 d o)
 |adv i x0 a _ j=>
  obtain⟨_,_,C⟩:=j.step v y A w h.gm
  rcases C.ver o with e|⟨_,_,e⟩
  ·exact .inl e
  ·exact .inr e
theorem qhs.pd(D:q.xs[t]? =some x)(F:qhs c p t q.m x z){o:Int}(C:Pd q.xs o):Pd (q.xs.set t z.2.1) o\/q.m.ck<q17 z.1 o:=by
 refine Pd.set D (fun a j hd d=>?_) C;cases F with
 |calm _ _ _ _ A=>rw[A a j] at hd;cases hd
 |adv i x0 a1 v B=>
  rcases v with ⟨e,_⟩|⟨_,_,_,_,e⟩
  ·rw[j] at e;cases e
   rcases qiL B hd d with ⟨w,y⟩|h
   ·exact .inl ⟨(qh c t q.m a).2.1,by rw[q5u,if_pos y],by rw[qlP fun e=>by unfold pnd at d;rw[e] at d;cases d];exact hd,w⟩
   ·exact .inr h
  ·rw[e a j] at hd;cases hd
theorem qsF(h:q0d c ps n k m q.xs g r){C D:je}(T:MR (q.xs.set t x') C D)(S:q.xs[t]? =some x)(W:∀a,x.at'=some a->∀A V,a.ph≠ .wr A V)(U:∀a,x'.at'=some a->∀A V,a.ph≠ .wr A V){w:Nat}(X:w<m.d.length)(M:w<C.length)(e:C.getD w 0=m.d.getD w 0):D.getD w 0=g.d.getD w 0:=by
 rcases h.mr with ⟨u,y,b,A,V,G,hb,he,L⟩|⟨Q,L⟩
 ·have R:u≠t:=fun e=>by subst e;rw[S] at G;cases G;exact W b hb A V he
  rcases T with ⟨J,y',I,A',H,d,j,o,B⟩|⟨F,_⟩
  ·have v:J≠t:=fun e=>by subst e;rw[q0c S] at d;cases d;exact U I j A' H o
   rw[q0t v] at d;obtain rfl:=h.one G hb (by rw[he];rfl) d j (by rw[o];rfl);rw[G] at d;cases d;rw[hb] at j;cases j;rw[he] at o;cases o;rw[L,B,q4S M,q4S X,e]
  ·exact absurd he (F u y b (by rw[q0t R];exact G) hb A V)
 ·rcases T with ⟨J,y',I,A',H,d,j,o,_⟩|⟨_,B⟩
  ·have v:J≠t:=fun e=>by subst e;rw[q0c S] at d;cases d;exact U I j A' H o
   rw[q0t v] at d;exact absurd o (Q J y' I d j A' H)
  ·rw[L,B,e]
theorem qoj{A V:je}(h:a.ph= .wr A V):(qh c t m a).2.1.busy=true:=by
 unfold qh;rw[h];dsimp only
 split <;>rfl
theorem qsH(hC:COk c)(hn:n<=16)(hk:k<=1000)(I:q23 c ps n k q g r)(J:q23 c ps n (k+1) (q0E c ps n q t) g' r')(au:PkR c ps n q g r t g' r')(H:q.xs[t]? =some x)(hp:ps[t]? =some p)(Z:PrO p)(hd:x.th.dn=false)(hz:qhs c p t q.m x (qH c p n t q.m x)):
  ((∀w:Nat,(w:Int)<c.words->g'.d.getD w 0=g.d.getD w 0\/∃e∈(qH c p n t q.m x).2.2.2,e.k=2/\e.w=(w:Int))/\∀b,(qH c p n t q.m x).2.1.at'=some b->b.dn=true->∃a,x.at'=some a/\a.dn=true/\b=(qh c t q.m a).2.1)\/
  ∃a,x.at'=some a/\a.ph= .dc/\a.dn=false/\(qH c p n t q.m x).2.1.at'=some (qh c t q.m a).2.1/\(qh c t q.m a).2.1.dn=true/\g'={q5d p g x a t with n:=g.n+1}/\(qH c p n t q.m x).2.2.2= [⟨0,t,4,0,a.seen,if a.code=1 then a.ad.filter fun x=>decide (x<c.words) else []⟩]:=by
 obtain⟨i0,aj,_⟩:=(I.fn H hp Z).2 hd;have B:=au.ch;rw[(q2S H hp hd).2] at B;have M:=J.gi.mr;have T:=I.gi.gm.dl;have G:=J.gi.gm.dl;have j:=fun b=>J.gi.ai t (qH c p n t q.m x).2.1 b
 rw[(q2S H hp hd).1] at M G j;have j:=fun b=>j b (q0c H)
 generalize qH c p n t q.m x=z at*;cases hz with
 |calm _ h1 h2 h3 h4 h5 h6=>
  left;have X:∀a,x.at'=some a->∀A V,a.ph≠ .wr A V:=fun a D=>(I.gi.ai t x a H D).nwr (h4 a D)
  refine⟨fun w hw=>?_,fun b hb y=>by rw[h3] at hb;rw[h4 b hb] at y;cases y⟩;have ae:z.1.d.getD w 0=q.m.d.getD w 0->g'.d.getD w 0=g.d.getD w 0:=fun e=>qsF I.gi M H X (fun a D=>X a (by rw[<-h3];exact D)) (by have:=T;omega) (by have:=G;dsimp only at this;omega) e
  rcases h5 with e|⟨i,v,o,hi,af,e⟩
  ·exact .inl (ae (by rw[e]))
  ·by_cases aw:w=(q0V x i).toNat
   ·have hw0:0<=q0V x i:=q4N _ _ _
    rcases h6.ev with ⟨_,h⟩|⟨i',_,U,_,_,h,_⟩
    ·have:=h o i hi (.inr af);omega
    ·rw[hi] at U;cases U;exact .inr ⟨_,by rw[h];exact zf.2 rfl,by rw[if_neg Yu],by show q0V x i=_;omega⟩
   ·refine .inl (ae ?_);rw[e,zh,Zz (fun h=>aw h.symm),<-zh]
 |adv i R a Q hA=>
  by_cases L:(qh c t q.m a).2.1.busy=true
  ·have o:(q0H c p t q.m R a i).2.1.at'=some (qh c t q.m a).2.1:=by rw[q5u,if_pos L]
   cases d:(qh c t q.m a).2.1.dn with
   |false=>
    left;rw[q4Q o d] at B;cases B;exact⟨fun _ _=> .inl rfl,fun b hb y=>by rw[o] at hb;cases hb;rw[d] at y;cases y⟩
   |true=>
    cases C:a.dn with
    |false=>
     right;have F:a.ph= .dc:=Classical.byContradiction fun e=>by rw[qlP e,C] at d;cases d
     have D:x.at'=some a:=(Q.resolve_right fun h=>h.2.2.1 F).1;obtain⟨o1,o2,o3,_,o5,_⟩:=qez hA F d;obtain⟨_,_,h3,_⟩:=q0d.advB hC hn Yu I.gi H D (by unfold AT.busy;rw[F]) hp Z aj C (by rw[F];exact fun e=>by cases e) d;have e1:chN x (q0H c p t q.m R a i).2.1 (q0H c p t q.m R a i).2.2.1= [⟨t,0,[]⟩]:=by
      unfold chN;rw[if_pos (show(q0H c p t q.m R a i).2.2.1.ph=16 from o5),if_pos (by unfold GT.dec;rw[o];exact d)];rfl
     rw[e1,h3] at B;refine⟨a,D,F,C,o,d,(Option.some.inj B).symm,?_⟩;show evA c t (qh c t q.m a).2.1 (qh c t q.m a).2.2.2=_;unfold evA;rw[if_neg (by rw[o5];decide),if_pos ⟨o5,d⟩,o1,o2,o3]
    |true=>
     left;have D:x.at'=some a:=(Q.resolve_right fun h=>by rw[C] at h;cases h.1).1;have aq:(q0H c p t q.m R a i).2.2.1.ph≠16:=fun e=>by
      have e:=qaW (c:=c) (t:=t) (m:=q.m) e;have:=hA.ph;unfold PhA at this;rw[e] at this;rw[this.1] at C;cases C
     rw[qa4 o aq] at B;cases B;exact⟨fun _ _=> .inl rfl,fun b hb _=>by rw[o] at hb;cases hb;exact⟨a,D,C,rfl⟩⟩
  ·left;have W:∀A V,a.ph≠ .wr A V:=fun A V e=>L (qoj e)
   have S:∀b,(q0H c p t q.m R a i).2.1.at'=some b->b.dn=false:=fun b hb=>by
    have h1:=q3x hb;have h2:=j b hb;subst h1;exact qap h2 (q5N (by simpa using L))
   refine⟨fun w hw=> .inl (qsF I.gi M H (fun a0 D A V e=>?_) (fun b hb=>(j b hb).nwr (S b hb)) (by have:=T;omega) (by have:=G;dsimp only at this;omega) ?_),fun b hb y=>by rw[S b hb] at y;cases y⟩
   ·rcases Q with ⟨h,_⟩|⟨_,_,_,_,h⟩
    ·rw[D] at h;cases h;exact W A V e
    ·exact(I.gi.ai t x a0 H D).nwr (h a0 D) A V e
   ·show(qh c t q.m a).1.d.getD w 0=_;rw[qcC W]
end
open Go
section
variable{c:Cfg}{ps:List (jg)}{n k:Nat}{q:RM}{m:MS}{g g':GS}{r r':Nat->List (Int×Int)}{t u:Nat}{x x':GT}{a b:AT}{p:jg}{i:Ins}{z:MS×GT×StM×jl}
theorem qo8(h:a.ph≠ .lv):(qh c t m a).2.1.st=a.st:=by
 have d:∀y:AT,y.rest.st=y.st:=fun y=>by unfold AT.rest;split <;>rfl
 have o:∀(y:AT) q,(y.endA c q).st=y.st:=fun y q=>by unfold AT.endA;split <;>rfl
 unfold qh;cases e:a.ph with
 |idle=>rfl
 |loc q=>
  dsimp only;cases q with
  |en q=>exact o _ q
  |tk v=>rfl
  |wr w v=>
   unfold AT.kont;dsimp only
   split
   ·exact o _ 7
   ·split <;>rfl
 |ent j=>dsimp only;(repeat' split) <;>rfl
 |rd j b v=>dsimp only;(repeat' split) <;>rfl
 |lk s ld=>dsimp only;(repeat' split) <;>rfl
 |tn b=>dsimp only;(repeat' split) <;>rfl
 |ck l=>
  dsimp only
  split
  ·exact d _
  ·split <;>rfl
 |dc=>
  dsimp only
  split
  ·exact d _
  ·split
   ·rfl
   ·exact d _
 |wr A V=>dsimp only;split <;>rfl
 |rl A V=>dsimp only;split <;>rfl
 |sp=>rfl
 |ps=>rfl
 |lv=>exact absurd e h
structure NcA(b:AT):Prop where
 cd:b.code≠3/\b.code≠6
 nd:b.set.Nodup
 lo:match b.ph with
  | .loc (.en k)=>k≠3/\k≠6
  |_=>True
theorem NcA.to(h:NcA a)(d:b.code=a.code)(j:b.set=a.set)(o:match b.ph with
  | .loc (.en k)=>k≠3/\k≠6
  |_=>True):NcA b:=⟨by rw[d];exact h.cd,by rw[j];exact h.nd,o⟩
theorem NcA.endA(h:NcA a){k:Int}(d:k≠3/\k≠6):NcA (a.endA c k):=by
 unfold AT.endA
 split <;>exact⟨d,h.nd,trivial⟩
theorem NcA.rest(h:NcA a):NcA a.rest:=by
 unfold AT.rest
 split <;>exact⟨h.cd,h.nd,trivial⟩
theorem qls{cap o:Int}{l s:je}(h:q6D cap l o=some s)(d:l.Nodup):s.Nodup:=by
 unfold q6D at h
 split at h
 ·cases h;exact d
 ·rename_i j
  split at h
  ·cases h
  ·cases h;exact List.nodup_append.2 ⟨d,Yw,fun x v y w=>by rw[zf.1 w];exact fun e=>j (e ▸ v)⟩
theorem qlt{cap o:Int}{l:je}(h:q6D cap l o=none):cap<=l.length:=by
 unfold q6D at h
 split at h
 ·cases h
 ·split at h
  ·rename_i h;omega
  ·cases h
theorem qn1{cap w v:Int}{ad vl:je}(h:q5Y cap ad vl w v=none):(ad.length:Int)=cap:=by
 unfold q5Y at h
 split at h
 ·cases h
 ·split at h
  ·rename_i d;exact d
  ·cases h
theorem NcA.step(C:AI c t m a)(ho:(m.o.length:Int)<c.reads)(hw:0<=c.words/\c.words<c.writes)(hck:m.ck<c.clock)(h:NcA a):NcA (qh c t m a).2.1:=by
 have B:=h.lo;unfold qh;cases e:a.ph with
 |idle=>exact h
 |loc q=>
  rw[e] at B;dsimp only;have D:NcA {a with ph:= .idle}:=⟨h.cd,h.nd,trivial⟩
  cases q with
  |en q=>exact D.endA B
  |tk v=>exact⟨h.cd,h.nd,trivial⟩
  |wr w v=>
   unfold AT.kont;dsimp only
   split
   ·exact D.endA Yv
   ·split
    ·exact⟨h.cd,h.nd,trivial⟩
    ·rename_i d;exfalso;have F:=qn1 d;have G:=qfz c.words.toNat a.ad C.an fun w o=>by have:=C.ar w o;omega
     omega
 |ent j=>dsimp only;(repeat' split) <;>exact h.to rfl rfl trivial
 |rd j b v=>
  dsimp only
  split
  ·dsimp only
   split
   ·exact⟨(by show(9:Int)≠3/\(9:Int)≠6;decide),h.nd,trivial⟩
   ·exact h.to rfl rfl trivial
  ·split
   ·exact h.to rfl rfl trivial
   ·dsimp only
    split
    ·exact⟨(by show(9:Int)≠3/\(9:Int)≠6;decide),h.nd,trivial⟩
    ·split
     ·rename_i d;exfalso;have F:=qlt d;have G:=qfz m.o.length a.set h.nd fun w o=>by have:=C.st w o;omega
      omega
     ·rename_i s H;exact⟨h.cd,qls H h.nd,trivial⟩
 |lk s ld=>dsimp only;(repeat' split) <;>first|exact h.to rfl rfl trivial|(refine h.to rfl rfl ?_;dsimp only;split <;>rename_i y <;>(split at y <;>first|cases y|trivial))
 |tn b=>dsimp only;(repeat' split) <;>first|exact h.to rfl rfl trivial|exact h
 |ck l=>
  dsimp only
  split
  ·exact NcA.rest (a:={a with code:=9}) ⟨(by show(9:Int)≠3/\(9:Int)≠6;decide),h.nd,by show match a.ph with| .loc (.en k)=>k≠3/\k≠6|_=>True;rw[e];trivial⟩
  ·split <;>exact h.to rfl rfl trivial
 |dc=>
  dsimp only;rw[if_neg Yu]
  split
  ·exact h.to rfl rfl trivial
  ·exact NcA.rest (a:={a with ck:=m.ck,dn:=true}) (h.to rfl rfl (by show match a.ph with| .loc (.en k)=>k≠3/\k≠6|_=>True;rw[e];trivial))
 |wr A V=>dsimp only;split <;>exact h.to rfl rfl trivial
 |rl A V=>dsimp only;split <;>first|exact h.to rfl rfl trivial|(refine h.to rfl rfl ?_;dsimp only;split <;>rename_i y <;>(split at y <;>first|cases y|trivial))
 |sp=>exact h.to rfl rfl trivial
 |ps=>exact h.to rfl rfl trivial
 |lv=>exact h.to rfl rfl trivial
theorem NcA.req(h:NcA a){rg:Rg}:NcA (q1D c rg a i):=by
 unfold q1D AT.read
 (repeat' split) <;>exact⟨h.cd,h.nd,(by first|trivial|decide)⟩
theorem NcA.new:NcA {AT.new with st:=1,ph:= .ent 0}:=⟨⟨(by show(0:Int)≠3;decide),by show(0:Int)≠6;decide⟩,Y0,trivial⟩
theorem qmg{ph:Int}{K:Nat}(h:b.dn=false\/(ph≠16)):tE ((evA c t b ph).map (q77 K))= []:=by
 unfold evA
 split
 ·rw[zF,Z5,qob rfl];rfl
 ·split
  ·rename_i d
   rcases h with h|h
   ·rw[d.2] at h;cases h
   ·exact absurd d.1 h
  ·rfl
theorem qkZ{ch:ChM}(h:q4o c ps g [ch]=some g'):∃g1,chM c ps g ch=some g1/\g'={g1 with n:=g.n+1}:=by
 unfold q4o at h;cases e:chM c ps g ch with
 |none=>rw[e] at h;cases h
 |some g1=>rw[e] at h;exact⟨g1,rfl,(Option.some.inj h).symm⟩
theorem qt0(hC:COk c)(au:c.strong=false)(hn:n<=16)(hk:k<=1000)(hR:q23 c ps n k q g r)(af:q23 c ps n (k+1) (q0E c ps n q t) g' r')(aj:PkR c ps n q g r t g' r')(V:q.xs[t]? =some x)(S:ps[t]? =some p)(aq:PrO p)(hd:x.th.dn=false)(ay:∀a,x.at'=some a->a.code≠3/\a.code≠6)(hz:qhs c p t q.m x (qH c p n t q.m x))(K:Nat):
  (∀ch∈chN x (qH c p n t q.m x).2.1 (qH c p n t q.m x).2.2.1,ch.ad= []/\(ch.f=0\/ch.f=5))/\tE g'.E=tE g.E++tE ((qH c p n t q.m x).2.2.2.map (q77 K)):=by
 have hD:=qsH hC hn hk hR af aj V S aq hd hz;obtain⟨i0,F,_⟩:=(hR.fn V S aq).2 hd;have v:=aj.ch;rw[(q2S V S hd).2] at v;have D:=fun b=>af.gi.ai t (qH c p n t q.m x).2.1 b
 rw[(q2S V S hd).1] at D;have D:=fun b=>D b (q0c V)
 generalize qH c p n t q.m x=z at*;have nil:∀l,l= []->q4o c ps g l=some g'->(∀ch∈l,ch.ad= []/\(ch.f=0\/ch.f=5))/\g'=g:=fun l e h=>by subst e;cases h;exact⟨fun _ h=>(by cases h),rfl⟩
 rcases hD with ⟨_,hN⟩|⟨a,G,T,Q,d,o,rfl,H⟩
 ·cases hz with
  |calm _ L h2 h3 h4 h5 J=>
   by_cases B:z.2.2.1.at'≠0\/z.2.1.rest=false
   ·have e:chN x z.2.1 z.2.2.1= []:=by unfold chN;rw[if_neg J.ph.1,if_neg J.ph.2,if_pos B]
    obtain⟨f1,rfl⟩:=nil _ e v;refine⟨f1,?_⟩
    rcases J.ev with ⟨X,_⟩|⟨_,_,_,_,_,_,e3,e4⟩
    ·rw[X,Z5,q3v,zz]
    ·rcases B with h|h
     ·exact absurd e3 h
     ·rw[e4] at h;cases h
   ·have e:chN x z.2.1 z.2.2.1= [⟨t,0,[]⟩]:=by unfold chN;rw[if_neg J.ph.1,if_neg J.ph.2,if_neg B,J.st]
    rw[e] at v ⊢;refine⟨fun ch h=>by rw[zf.1 h];exact⟨rfl, .inl rfl⟩,?_⟩;have ae:x.at'=none:=by
     rw[<-h3];have hr:z.2.1.rest=true:=by
      cases e:z.2.1.rest with
      |true=>rfl
      |false=>exact absurd (.inr e) B
     unfold GT.rest at hr;cases e:z.2.1.at' with
     |none=>rfl
     |some b=>rw[e] at hr;simp at hr
    have aE:=(hR.gi.out V S ae).1;obtain⟨g1,A,rfl⟩:=qkZ v;rw[q5b aE hd S F (J.o7 ae i0 F)] at A;have aB:adr x.th.rg (if i0.op=12 then i0.b else i0.a) i0.imm=q0V x i0:=rfl;unfold sgM at A
    by_cases U:i0.op=12\/i0.op=13
    ·rw[if_pos U,aB] at A;dsimp only at A;rw[if_neg Yv] at A
     by_cases hw:c.words<=q0V x i0
     ·rw[if_pos hw] at A;cases A
      rcases J.ev with ⟨X,_⟩|⟨i,_,W,_,h8,_⟩
      ·rw[X,Z5,q3v,zz];rfl
      ·rw[F] at W;cases W;omega
     ·rw[if_neg hw] at A
      rcases J.ev with ⟨_,X⟩|⟨i,_,W,_,h8,h9,_⟩
      ·exact absurd (X ae i0 F U) hw
      ·rw[F] at W;cases W;have hs:∀k,plE c g.n t k (q0V x i0)= [⟨g.n,t,k,q0V x i0,[],[]⟩]:=fun k=>by unfold plE;rw[au,if_neg Yv]
       rw[h9,zF,Z5,q7x (by show(if i0.op=12 then(1:Int) else 2)≠3;split <;>decide)]
       by_cases M:i0.op=12
       ·rw[if_pos M,hs] at A;cases A;show tE (g.E++ [_])=_;rw[q1p,q7x (by show(1:Int)≠3;decide),if_pos M];rfl
       ·rw[if_neg M,hs] at A;cases A;show tE (g.E++ [_])=_;rw[q1p,q7x (by show(2:Int)≠3;decide),if_neg M];rfl
    ·rw[if_neg U,if_neg Yv] at A;cases A
     rcases J.ev with ⟨X,_⟩|⟨i,_,W,h8,_⟩
     ·rw[X,Z5,q3v,zz];rfl
     ·rw[F] at W;cases W;exact absurd h8 U
  |adv i C a I hA=>
   have H:(q0H c p t q.m C a i).2.2.2=evA c t (qh c t q.m a).2.1 (qh c t q.m a).2.2.2:=rfl
   by_cases Z:(qh c t q.m a).2.1.busy=true
   ·have d:(q0H c p t q.m C a i).2.1.at'=some (qh c t q.m a).2.1:=by rw[q5u,if_pos Z]
    cases o:(qh c t q.m a).2.1.dn with
    |false=>
     obtain⟨f1,rfl⟩:=nil _ (q4Q d o) v;exact⟨f1,by rw[H,qmg (.inl o),zz]⟩
    |true=>
     obtain⟨a1,f1,f2,f3⟩:=hN _ d o
     rcases I with ⟨G,_⟩|⟨_,_,_,_,h⟩
     ·rw[G] at f1;cases f1;have T:(qh c t q.m a).2.2.2≠16:=fun e=>by
       have e:=qaW (c:=c) (t:=t) (m:=q.m) e;have:=hA.ph;unfold PhA at this;rw[e] at this;rw[this.1] at f2;cases f2
      obtain⟨f1,rfl⟩:=nil _ (qa4 d T) v;exact⟨f1,by rw[H,qmg (.inr T),zz]⟩
     ·rw[h a1 f1] at f2;cases f2
   ·cases d:(q0H c p t q.m C a i).2.1.at' with
    |some b=>
     have L:=q3x d;have h2:=D b d;subst L;have o:=qap h2 (q5N (by simpa using Z));obtain⟨f1,rfl⟩:=nil _ (q4Q d o) v;exact⟨f1,by rw[H,qmg (.inl o),zz]⟩
    |none=>
     have aC:a.st=1:=by
      rcases I with ⟨G,_⟩|⟨_,h,_⟩
      ·have w:=hR.gi.th t x p V S;unfold ThR at w;rw[G] at w;dsimp only at w
       split at w
       ·exact w.2.2.st
       ·exact w.2.2.st
      ·exact h
     have R:a.ph= .lv:=Classical.byContradiction fun e=>by
      rw[q5u,if_neg Z] at d;unfold GT.ans at d;rw[if_neg (by rw[qo8 e,aC];decide)] at d
      split at d <;>cases d
     obtain⟨G,rfl⟩:=I.resolve_right fun h=>h.2.2.2.1 R
     have w:=hR.gi.th t C p V S;rw[qe8 R] at v ⊢;dsimp only at v ⊢;rw[Z5,q3v,zz]
     by_cases B:C.dec=true\/(C.endG p {a with ph:= .idle,st:=2}).rest=false
     ·have e:∀y,chN C (C.endG p {a with ph:= .idle,st:=2}) ⟨t,24,C.ct,y⟩= []:=fun y=>by unfold chN;rw[if_neg (by show ¬(24:Int)=16;decide),if_pos rfl,if_pos B]
      obtain⟨f1,rfl⟩:=nil _ (e _) v;exact⟨f1,rfl⟩
     ·have e:∀y,chN C (C.endG p {a with ph:= .idle,st:=2}) ⟨t,24,C.ct,y⟩= [⟨t,(C.endG p {a with ph:= .idle,st:=2}).th.oc,[]⟩]:=fun y=>by unfold chN;rw[if_neg (by show ¬(24:Int)=16;decide),if_pos rfl,if_neg B]
      rw[e] at v ⊢;have Q:a.dn=false:=by
       cases e:a.dn with
       |false=>rfl
       |true=>exact absurd (.inl (by unfold GT.dec;rw[G];exact e)) B
      unfold ThR at w;rw[G] at w;dsimp only at w;rw[if_neg (by rw[Q];decide)] at w;obtain⟨ax,_,hT⟩:=w;have aw:a.code=9:=by
       have:=ay a G
       rcases hT.ph with ⟨j,e,_⟩|⟨_,_,_,i,_,e⟩|⟨_,e⟩
       ·rw[R] at e;cases e
       ·unfold q2K at e;rw[R] at e;exact e.elim
       ·omega
      have aA:(C.endG p {a with ph:= .idle,st:=2}).th.oc=5:=by
       by_cases hr:a.code=9/\(C.tr:Int)<((p[C.bg]?).map (·.imm)).getD 0
       ·exfalso;refine B (.inr ?_);rw[qi5 (a:={a with ph:= .idle,st:=2}) hr.1 hr.2];unfold GT.rest GT.to;dsimp only;rw[decide_eq_false hT.tr,Y1]
       ·rw[qlU (a:={a with ph:= .idle,st:=2}) (by show a.code≠1;omega) hr];show qot {a with ph:= .idle,st:=2}=5;unfold qot;rw[if_pos aw]
      rw[aA] at v ⊢;refine⟨fun ch h=>by rw[zf.1 h];exact⟨rfl, .inr rfl⟩,?_⟩;obtain⟨g1,A,rfl⟩:=qkZ v;rw[q74 ax S hT.bg Yv] at A;cases A;rfl
 ·have A:chN x z.2.1 z.2.2.1= [⟨t,0,[]⟩]\/chN x z.2.1 z.2.2.1= []:=by
   cases hz with
   |calm _ _ _ h3 h4 _ _=>
    rw[h3,G] at d;have:a.dn=true:=by rw[Option.some.inj d];exact o
    rw[this] at Q;cases Q
   |adv i C a1 I hA=>
    unfold chN
    split
    ·split
     ·exact .inl rfl
     ·exact .inr rfl
    ·rename_i az;exfalso
     rcases I with ⟨h,_⟩|⟨_,_,_,_,_⟩
     ·rw[G] at h;cases h;exact az (by show(qh c t q.m a).2.2.2=16;rw[q3u T])
     ·have L:=q3x d;rename_i d1 _ d2 _ _;rw[L,qlP d2,d1] at o;cases o
  refine⟨fun ch h=>?_,?_⟩
  ·rcases A with e|e <;>rw[e] at h
   ·rw[zf.1 h];exact⟨rfl, .inl rfl⟩
   ·cases h
  ·rw[H,zF,Z5,q7x (by show(4:Int)≠3;decide)];have hA:=hR.gi.ai t x a V G;have key:∀l:je,tE (g.E++ [⟨g.n,t,3,0,[],[]⟩,⟨g.n,t,4,0,a.seen,l⟩])=tE g.E++ [evN ⟨0,t,4,0,a.seen,l⟩]:=fun l=>by
    rw[q1p,qob rfl,q7x (by show(4:Int)≠3;decide)];rfl
   show tE (q5d p g x a t).E=_;unfold q5d
   by_cases L:a.code=1
   ·rw[if_pos L,if_pos L,Yl.2 fun z hz=>decide_eq_true (hA.ar z hz).2];exact key _
   ·rw[if_neg L,if_neg L];exact key _
end
open Go
def MSt(E:jl):Prop:=∀A B C x y,E=A++x::(B++y::C)->pE x->y.k=4->x.t≠y.t->cPT x y->∃B1 B2 d e p,B=B1++e::(B2++p::d)/\e.k=4/\e.t=x.t/\p.k=3/\p.t=y.t
section
variable{c:Cfg}{ps:List (jg)}{n k:Nat}{q:RM}{m:MS}{g0 g g':GS}{r r':Nat->List (Int×Int)}{t u:Nat}{x x':GT}{a b:AT}{p:jg}{i:Ins}
def HsQ(c:Cfg)(ps:List (jg))(g0:GS)(E:jl)(m:MS)(xs:List GT)(g:GS)(u:Nat)(y:GT)(b:AT):Prop:=
 ∃A b0 R,E=A++b0::R/\b0.k=3/\b0.t=(u:Int)/\(∀e∈R,e.t≠(u:Int))/\∀d j,R=d++j->∃h,Rch c ps g0 h/\tE h.E=tE (A++b0::d)/\h.T[u]? =some ⟨y.bg,y.sv,y.th.oc,false⟩/\
  ∀w:Int,0<=w->w<c.words->h.d.getD w.toNat 0=g.d.getD w.toNat 0\/(∃e∈j,e.k=2/\e.w=w)\/b.rv<q17 m (qB c w)\/Pd xs (qB c w)
structure DQ(c:Cfg)(ps:List (jg))(n:Nat)(g0:GS)(q:RM)(g:GS)(r:Nat->List (Int×Int)):Prop where
 he:qli n q
 hs:qdZ c q.xs
 tr:tE q.E=tE g.E
 rc:Rch c ps g0 g
 nc:∀(u:Nat) y b,q.xs[u]? =some y->y.at'=some b->NcA b
 rs:∀(u:Nat) y b,q.xs[u]? =some y->y.at'=some b->b.dn=false->∀z∈r u,z.1∈b.seen
 wl:∀(u:Nat) y b,q.xs[u]? =some y->y.at'=some b->b.dn=true->pnd b≠ []->∃A z B,q.E=A++z::B/\z.k=4/\z.t=(u:Int)/\z.wl=b.ad/\∀e∈B,e.k≠4
 hi:∀(u:Nat) y b,q.xs[u]? =some y->y.at'=some b->b.dn=false->b.ph.past=true->HsQ c ps g0 q.E q.m q.xs g u y b
 ms:MSt q.E
structure DOk(c:Cfg)(ps:List (jg))(g0:GS)(K:Nat):Prop where
 co:COk c
 str:c.strong=false
 gk:GOk c ps g0
 na:q99 ps
 h:∀g,Rch c ps g0 g->qk7 (tE g.E)
 ro:c.orecs<c.reads
 ww:0<=c.words/\c.words<c.writes
 cw:c.words<=64
 cl:(K:Int)<c.clock
theorem qr2(d:q23 c ps n k q g r)(v:q.xs[u]? =some x)(o:ps[u]? =some p)(j:x.at'=some a)(hd:a.dn=false):g.T[u]? =some ⟨x.bg,x.sv,x.th.oc,false⟩/\TL c p x a (r u):=by
 have h:=d.gi.th u x p v o;unfold ThR at h;rw[j] at h;dsimp only at h;rw[if_neg (by rw[hd];decide)] at h;exact⟨h.1,h.2.2⟩
theorem qmk(d:q23 c ps n k q g r)(h:t<n):(∃x,q.xs[t]? =some x)/\∃p,ps[t]? =some p:=
 ⟨⟨_,z6 (by rw[d.gi.xl];exact h)⟩,⟨_,z6 (by rw[d.gi.pl];exact h)⟩⟩
theorem qif{z:Int×Int}(h:z∈fl a):z.1=a.addr/\∃j bf v,a.ph= .rd j bf v:=by
 unfold fl at h
 split at h
 ·rename_i e
  split at h
  ·cases h
  ·exact⟨by rw[zf.1 h],_,_,_,e⟩
 ·cases h
theorem DQ.safe{K:Nat}(S:DOk c ps g0 K)(J:q23 c ps n k q g r)(R:DQ c ps n g0 q g r):qoz c ps q r t:=by
 intro x p i hx hp hd hi ha _ af hw;have aq:=(J.gi.out hx hp ha).1;have o:adr x.th.rg (if i.op=12 then i.b else i.a) i.imm=q0V x i:=rfl;have hG:=R.rc.ok S.gk;refine⟨fun u y b C hb A V e hm=>?_,fun h13 u y b hu C hb d z G aw=>?_⟩
 ·have hA:=J.gi.ai u y b C hb;have Q:=hA.ph;unfold PhA at Q;rw[e] at Q;obtain⟨d,_,h3,_,_,_,_,h8,h9⟩:=Q;have aG:pnd b≠ []:=by
   unfold pnd;rw[e];obtain⟨w,l,e⟩:=yI h3;exact yr (h9 w (by rw[e];exact zj))
  obtain⟨A0,z,B,hE,aO,aP,aw,hB⟩:=R.wl u y b C hb d aG;obtain⟨g1,T,L,I,X,aJ,aM⟩:=qq5 S.str aq hp hd hi af (by rw[o];exact hw);have hut:u≠t:=fun h=>by
   subst h;rw[hx] at C;cases C;rw[ha] at hb;cases hb
  have H:=S.h _ (R.rc.one rfl (.inl rfl) L);rw[show({g1 with n:=g.n+1}:GS).E=g1.E from rfl,I,q1p,<-R.tr,hE,q1p,q7x Yu,q7x (by rw[X];split <;>decide),q3v,zd,zp] at H;obtain⟨f,hf,aE,_⟩:=H.tp _ _ [] _ _ rfl aO (by show T.k=1\/T.k=2;rw[X];split;exact .inl rfl;exact .inr rfl) (by show z.t≠T.t;rw[aP,aJ];omega) (.inl (by show T.w∈z.wl;rw[aM,o,aw];exact h8 _ hm));obtain⟨f',aC,rfl,_⟩:=qcD hf;exact hB f' aC aE
 ·by_cases hD:qhC c q.m q.xs b (r u)
  ·exact .inl hD
  ·by_cases hv:b.rv<q17 q.m (qB c z.1)
   ·exact .inr (.inl hv)
   ·by_cases hP:Pd q.xs (qB c z.1)
    ·exact .inr (.inr hP)
    ·exfalso;have aL:=(J.gi.va u y b C hb d).resolve_left hD;obtain⟨py,aj⟩:=(qmk J (by rw[<-J.gi.xl];exact(z7.1 C).1)).2;obtain⟨aF,U⟩:=qr2 J C aj hb d;have hA:=J.gi.ai u y b C hb;have az:Agr (r u) g.d:=fun s hs=>by
      have H:=aL s (zP _ hs);have h2:¬(b.rv<q17 q.m (qB c s.1)\/Pd q.xs (qB c s.1)):=fun h=>hD (.inr ⟨s,hs,h⟩)
      rcases H Yu with h|h
      ·exact absurd (.inr h) h2
      ·exact h
     have ae:∀k,b.ph≠ .ent k:=fun k e=>by
      rcases U.ph with ⟨_,_,h,_⟩|⟨_,_,_,i,_,h⟩|⟨h,_⟩
      ·rw[h] at G;unfold fl at G;rw[e] at G;cases G
      ·unfold q2K at h;rw[e] at h;exact h
      ·rw[e] at h;cases h
     have Z:b.ph.back=false:=by
      cases e:b.ph.back with
      |false=>rfl
      |true=>exact absurd (.inl e) hD
     have aQ:b.addr=z.1\/z∈r u:=by
      rcases zy.1 G with h|h
      ·exact .inr h
      ·exact .inl (qif h).1.symm
     have hz0:0<=z.1:=by
      rcases zy.1 G with h|h
      ·exact(U.rr z h).1
      ·rw[(qif h).1];exact(hA.addr (qif h).2).1
     obtain⟨g1,b1,e,L,I,aA,aB,het,D,ay⟩:=qoi hG S.na aj U aF az (R.rs u y b C hb d) ae Z G aQ (fun h=>by
      by_cases D:z∈r u
      ·exact .inr D
      ·left;obtain⟨T,j,bf,v,F⟩:=qif ((zy.1 G).resolve_left D);refine⟨?_,Yu⟩;obtain⟨_,_,_,i',_,hq⟩:=U.req ae Z;unfold q2K at hq;rw[F] at hq;exact(q0I U.len).1 hq.2.2.2.2)
     have aI:=R.rc.one rfl (.inl rfl) L;have au:({g1 with n:=g.n+1}:GS).T[t]? =some x.th:=by show g1.T[t]? =_;rw[ay t (fun e=>hu e.symm)];exact aq
     obtain⟨g2,F,W,ax,M,aK,aN⟩:=qq5 (g:={g1 with n:=g.n+1}) S.str au hp hd hi af (by rw[o];exact hw);have H:=S.h _ (aI.one rfl (.inl rfl) W);rw[show({g2 with n:=({g1 with n:=g.n+1}:GS).n+1}:GS).E=g2.E from rfl,ax,q1p,show({g1 with n:=g.n+1}:GS).E=g1.E from rfl,I,q1p,qob aA,q7x Yu,q7x (by rw[M];split <;>decide),q3v,zd] at H;have aH:q0V x i=z.1:=by
      have h:=q4N x.th.rg (if i.op=12 then i.b else i.a) i.imm;rw[o] at h;omega
     obtain⟨f,hf,_⟩:=H.tp (tE g.E) [] [] (evN e) (evN F) rfl aB (by show F.k=1\/F.k=2;rw[M];split;exact .inl rfl;exact .inr rfl) (by show e.t≠F.t;rw[het,aK];omega) (.inr ⟨by show F.k=2;rw[M,if_neg Yu],by show F.w∈e.r;rw[aN,o];rw[aH];exact D⟩);cases hf
end
open Go
theorem qeb{R es w o:jl}(h:R++es=w++o)(hes:es.length<=1):(∃y,R=w++y/\o=y++es)\/(w=R++es/\o= []):=by
 rcases List.append_eq_append_iff.1 h with ⟨a,v,j⟩|⟨d,v,j⟩
 ·cases a with
  |nil=>exact .inl ⟨[],by rw[v,zz,zz],by rw[j];rfl⟩
  |cons z a=>
   have A:=congrArg List.length j;rw[z8,zm] at A;obtain rfl:o= []:=zC.1 Yu;rw[zz] at j;exact .inr ⟨by rw[v,j],rfl⟩
 ·exact .inl ⟨d,v,j⟩
theorem qdi{E A B C:jl}{v x y:EvM}(h:E++ [v]=A++x::(B++y::C)):(C= []/\v=y/\E=A++x::B)\/∃D,C=D++ [v]/\E=A++x::(B++y::D):=by
 rcases List.eq_nil_or_concat C with rfl|⟨D,z,rfl⟩
 ·have d:E++ [v]=(A++x::B)++ [y]:=by rw[h];simp
  obtain⟨j,o⟩:=List.append_inj' d rfl;exact .inl ⟨rfl,by simpa using o,j⟩
 ·have d:E++ [v]=(A++x::(B++y::D))++ [z]:=by rw[h];simp
  obtain⟨j,o⟩:=List.append_inj' d rfl;exact .inr ⟨D,by rw[show v=z by simpa using o,List.concat_eq_append],j⟩
theorem q5J{P:EvM->Prop}:∀(B:jl),(∃e∈B,P e)->∃B1 e B2,B=B1++e::B2/\P e/\∀z∈B1,¬P z
 | [],⟨e,h,_⟩=>by cases h
 |z::B,h=>by
  by_cases j:P z
  ·exact⟨[],z,B,rfl,j,fun _ h=>by cases h⟩
  ·obtain⟨e,he,o⟩:=h
   rcases zN.1 he with rfl|he
   ·exact absurd o j
   ·obtain⟨B1,v,B2,w,A,C⟩:=q5J B ⟨e,he,o⟩;refine⟨z::B1,v,B2,by rw[w];rfl,A,fun y d=>?_⟩
    rcases zN.1 d with rfl|d
    ·exact j
    ·exact C y d
section
variable{c:Cfg}{ps:List (jg)}{n k K:Nat}{q:RM}{m:MS}{g0 g g':GS}{r r':Nat->List (Int×Int)}{t u:Nat}{x x':GT}{a b:AT}{p:jg}{i:Ins}
theorem qlO(hO:DOk c ps g0 K)(hR:q23 c ps n k q g r)(hx:q.xs[t]? =some x)(hp:ps[t]? =some p)(V:x.at'=some a)(F:a.ph= .dc)(J:a.dn=false)(aP:∀z∈r t,z.1∈a.seen){y:EvM}(aw:y.k=4)(ay:y.t=(t:Int))(ax:y.r=a.seen)(aS:y.wl=if a.code=1 then a.ad else [])
  (H:qk7 (tE q.E++ [evN y])) {A0 R:jl} {b0:EvM} (az:q.E=A0++b0::R) (W:b0.k=3) (aE:b0.t=(t:Int)) (U:∀e∈R,e.t≠(t:Int))
  (hf:∀R1 R2,R=R1++R2->∃h,Rch c ps g0 h/\tE h.E=tE (A0++b0::R1)/\h.T[t]? =some ⟨x.bg,x.sv,x.th.oc,false⟩/\∀w:Int,0<=w->w<c.words->h.d.getD w.toNat 0=g.d.getD w.toNat 0\/(∃e∈R2,e.k=2/\e.w=w)\/a.rv<q17 q.m (qB c w)\/Pd q.xs (qB c w)):
  ∀(N:Nat) (A:jl) (v:EvM) (B:jl),B.length<=N->q.E=A++v::B->pE v->v.t≠(t:Int)->cPT v y->∃B1 B2 B3 e,B=B1++e::(B2++b0::B3)/\e.k=4/\e.t=v.t:=by
 obtain⟨hgt,hT⟩:=qr2 hR hx hp V J;have aB:=hR.gi.agr hx V hT J F;have C:=(hR.gi.ai t x a hx V).ph;unfold PhA at C;rw[F] at C;have aq:=C.2.2.2.2;have nP:∀o,¬Pd q.xs o:=fun o ⟨u,y,b,hy,hb,hd,ho⟩=>by
  have e:=hR.gi.one hx V (by rw[F];rfl) hy hb (q8h ho);subst e;rw[hx] at hy;cases hy;rw[V] at hb;cases hb;rw[J] at hd;cases hd
 intro N
 induction N with
 |zero=>
  intro A v B hB T M G L;obtain rfl:B= []:=zC.1 Yu;have Q:=H;rw[T,q1p,q7x (by unfold pE at M;omega),q3v,zd,zp] at Q;obtain⟨e,he,_⟩:=Q.pt _ _ [] _ _ rfl M aw (by show v.t≠y.t;rw[ay];exact G) L;cases he
 |succ N ih=>
  intro A v B hB T M G L;have aj:v.k≠3:=by unfold pE at M;omega
  have Q:=H;rw[T,q1p,q7x aj,zd,zp] at Q;obtain⟨e',aG,X,Z⟩:=Q.pt _ _ [] _ _ rfl M aw (by show v.t≠y.t;rw[ay];exact G) L;obtain⟨e,he,rfl,_⟩:=qcD aG;obtain⟨B1,e,B2,rfl,⟨j,het⟩,aO⟩:=q5J (P:=fun e=>e.k=4/\e.t=v.t) B ⟨e,he,X,Z⟩;have af:(A++v::B1)++(e::B2)=A0++(b0::R):=by rw[<-az,T];simp
  rcases List.append_eq_append_iff.1 af with ⟨d,h2,S⟩|⟨d,h2,S⟩
  ·cases d with
   |nil=>
    have:e=b0:=(List.cons.inj S).1;rw[this,W] at j;exact absurd j Yv
   |cons z d=>
    obtain⟨rfl,rfl⟩:=List.cons.inj S;exact⟨B1,d,R,e,rfl,j,het⟩
  ·exfalso;cases d with
   |nil=>
    have:b0=e:=(List.cons.inj S).1;rw[<-this,W] at j;exact absurd j Yv
   |cons z R1=>
    obtain⟨rfl,I⟩:=List.cons.inj S;obtain⟨h,ae,aL,aM,aN⟩:=hf R1 (e::B2) I;have aC:Agr (r t) h.d:=fun s hs=>by
     obtain⟨s0,s1,s2⟩:=hT.rr s hs
     rcases aN s.1 s0 s1 with h|⟨w,hw,au,aR⟩|h|h
     ·rw[h];exact aB s hs
     ·exfalso
      rcases zN.1 hw with rfl|hw
      ·omega
      ·have aQ:w∈R:=by rw[I];exact zJ _ (zl _ hw)
       obtain⟨C1,C2,rfl⟩:=ZB hw;obtain⟨D1,D2,D3,e2,hC,_,_⟩:=ih (A++v::(B1++e::C1)) w C2 (by rw[z8,zm,z8,zm] at hB;omega) (by rw[T];simp) (.inr au) (U w aQ) (.inr ⟨au,by rw[aR,ax];exact aP s hs⟩);have:b0∈R:=by rw[I,hC];simp
       exact U _ this aE
     ·have:=aq _ s2;omega
     ·exact absurd h (nP _)
    have aF:=qkg hT aM hp (ae.ok hO.gk).dl aC F;have h4:=hO.h _ (ae.one rfl (.inl rfl) aF);have key:∀l:je,tE (h.E++ [⟨h.n,t,3,0,[],[]⟩,⟨h.n,t,4,0,a.seen,l⟩])=tE h.E++ [evN ⟨0,t,4,0,a.seen,l⟩]:=fun l=>by
     rw[q1p,qob rfl,q7x (by show(4:Int)≠3;decide)];rfl
    have aA:tE (q5d p h x a t).E=tE h.E++ [evN ⟨0,t,4,0,a.seen,if a.code=1 then a.ad else []⟩]:=by
     unfold q5d
     by_cases D:a.code=1
     ·rw[if_pos D,if_pos D];exact key _
     ·rw[if_neg D,if_neg D];exact key _
    rw[show({q5d p h x a t with n:=h.n+1}:GS).E=(q5d p h x a t).E from rfl,aA,aL,<-h2,q1p,q7x aj,zd,zp] at h4;obtain⟨f,aI,aJ,aK⟩:=h4.pt _ _ [] _ _ rfl M (show(4:Int)=4 from rfl) (by show v.t≠(t:Int);exact G) (by unfold cPT at L ⊢;rw[ax,aS] at L;exact L);obtain⟨f',aH,rfl,_⟩:=qcD aI;exact aO f' aH ⟨aJ,aK⟩
theorem qsU{es:jl}(h:qe0 c p t x x' es):es.length<=1/\∀e∈es.map (q77 K),e.t=(t:Int):=by
 cases h with
 |no _=>exact⟨zv _,fun e h=>by cases h⟩
 |bg=>exact⟨zq _,fun e h=>by rw[zf.1 h];rfl⟩
 |en=>exact⟨zq _,fun e h=>by rw[zf.1 h];rfl⟩
 |pl=>exact⟨zq _,fun e h=>by rw[zf.1 h];rfl⟩
end
open Go
section
variable{c:Cfg}{ps:List (jg)}{n k K:Nat}{q:RM}{m:MS}{g0 g g':GS}{r r':Nat->List (Int×Int)}{t u:Nat}{x x':GT}{a b:AT}{p:jg}{i:Ins}
theorem qqg{rg:Rg}:(q1D c rg a i).rv=a.rv:=by
 unfold q1D AT.read
 (repeat' split) <;>rfl
theorem qrB(h:AtN c p t m x b)(d:x.at'=some a)(j:a.ph.past=true):b.rv=a.rv:=by
 cases h with
 |same b e=>rw[d] at e;cases e;rfl
 |adv o e v=>
  rw[d] at e;cases e
  rcases qaX (c:=c) (t:=t) (m:=m) (a:=a) with h|h
  ·exact h
  ·rw[h] at j;cases j
 |req o i e hid hi hr v=>
  rw[d] at e;cases e
  rcases qaX (c:=c) (t:=t) (m:=m) (a:=q1D c x.th.rg a i) with h|h
  ·exact h.trans qqg
  ·exact absurd h (q9d (i:=i)).1
 |new e=>rw[d] at e;cases e
theorem qrA(h:AtN c p t m x b)(hd:b.dn=false)(d:x.at'=some a):a.dn=false:=by
 cases h with
 |same b e=>rw[d] at e;cases e;exact hd
 |adv j e o=>rw[d] at e;cases e;exact q8w.1 hd
 |req j i e hid hi hr o=>rw[d] at e;cases e;have:=q8w.1 hd;rw[(q9d (i:=i)).2.2] at this;exact this
 |new e=>rw[d] at e;cases e
theorem qna{rt:List (Int×Int)}(h:AtN c p t m x b)(o:∀a,x.at'=some a->∀z∈rt,z.1∈a.seen):∀z∈(match x.at' with
  |none=> []
  |some a=>if b.busy then rt else rt++fl a),z.1∈b.seen:=by
 cases h with
 |same b e=>
  rw[e];dsimp only
  split
  ·exact o b e
  ·rename_i j;intro z d
   rcases zy.1 d with d|d
   ·exact o b e z d
   ·unfold fl at d;rw[q5N (by simpa using j)] at d;cases d
 |adv a e y=>
  rw[e];dsimp only
  split
  ·exact fun z d=>q8o (o a e z d)
  ·rename_i j;intro z d
   rcases zy.1 d with d|d
   ·exact q8o (o a e z d)
   ·exact qiV d (by simpa using j)
 |req a i e v hi hr y=>
  rw[e];dsimp only;have w:∀z∈rt,z.1∈(qh c t m (q1D c x.th.rg a i)).2.1.seen:=fun z d=>q8o (by rw[qcg];exact o a e z d)
  split
  ·exact w
  ·intro z d
   rcases zy.1 d with d|d
   ·exact w z d
   ·unfold fl at d;rw[v] at d;cases d
 |new e=>rw[e];exact fun z d=>by cases d
theorem MSt.ap{E:jl}{v:EvM}(h:MSt E)(I:v.k=4->∀A x B,E=A++x::B->pE x->x.t≠v.t->cPT x v->∃B1 B2 G e p,B=B1++e::(B2++p::G)/\e.k=4/\e.t=x.t/\p.k=3/\p.t=v.t):MSt (E++ [v]):=fun A B C x y H w F o j=>by
 rcases qdi H with ⟨rfl,rfl,d⟩|⟨D,rfl,d⟩
 ·exact I F A x B d w o j
 ·exact h A B D x y d w F o j
theorem DQ.step(X:DOk c ps g0 K)(hn:n<=16)(hk:k<=1000)(hkK:k<=K)(H:q23 c ps n k q g r)(D:DQ c ps n g0 q g r)(ht:t<n)(aL:∀p∈ps,PrO p)(T:PkR c ps n q g r t g' r')(aC:q23 c ps n (k+1) (q0E c ps n q t) g' r'):DQ c ps n g0 (q0E c ps n q t) g' r':=by
 obtain⟨⟨x,d⟩,p,Z⟩:=qmk H ht;have af:=aL p (zg Z);cases hd:x.th.dn with
 |true=>
  obtain⟨Q,e2⟩:=T.dn x d hd;rw[(qax (c:=c) (ps:=ps) (n:=n) d hd).1,Q,e2];exact D
 |false=>
  obtain⟨i1,i2⟩:=D.he.step X.cw hk H D.hs ht aL;have hN:=qqK H d Z af hd;have hD:=qsH X.co hn hk H aC T d Z af hd hN;obtain⟨c1,c2⟩:=qt0 X.co X.str hn hk H aC T d Z af hd (fun a S=>(D.nc t x a d S).cd) hN q.S.length;have M:=qh9 H d Z af hd;have au:=fun b=>qed (b:=b) H d Z af hd
  have aw:=T.ch;rw[(q2S d Z hd).2] at aw;have aU:=fun b=>T.rd x p d Z hd b
  have aq:=aC;have hck:=H.gi.gm.ck;have hol:=H.gi.gm.ol;have hro:=X.ro;have hcl:=X.cl;rw[(q2S (c:=c) (ps:=ps) (n:=n) d Z hd).1] at i1 i2 aq ⊢;have aM:=fun o=>hN.ver X.co hn Yu H.gi ht o
  have aS:=fun o (h:Pd q.xs o)=>hN.pd d h
  generalize qH c p n t q.m x=z at*;have U:∀(u:Nat) y,u≠t->(q.xs.set t z.2.1)[u]? =some y->q.xs[u]? =some y:=fun u y hu F=>by rw[q0t hu] at F;exact F
  have own:∀y,(q.xs.set t z.2.1)[t]? =some y->y=z.2.1:=fun y F=>by rw[q0c d] at F;cases F;rfl
  obtain⟨l1,l2⟩:=qsU (K:=q.S.length) M;have aB:tE (q.E++z.2.2.2.map (q77 q.S.length))=tE g'.E:=by rw[q1p,D.tr,<-c2]
  have aA:Rch c ps g0 g':=D.rc.run c1 aw;have aQ:∀b,z.2.1.at'=some b->NcA b:=fun b hb=>by
   cases au b hb with
   |same b e=>exact D.nc t x b d e
   |adv a e W=>exact(D.nc t x a d e).step W Yu X.ww Yu
   |req a i e hid hi hr W=>exact((D.nc t x a d e).req).step W Yu X.ww Yu
   |new e=>exact NcA.new.step AI.start Yu X.ww Yu
  --the words
  have star:∀w:Int,0<=w->w<c.words->g'.d.getD w.toNat 0=g.d.getD w.toNat 0\/(∃e∈z.2.2.2.map (q77 q.S.length),e.k=2/\e.w=w)\/Pd (q.xs.set t z.2.1) (qB c w):=fun w w0 w1=>by
   rcases hD with ⟨h,_⟩|⟨a,S,L,aH,ae,I,rfl,aI⟩
   ·rcases h w.toNat Yu with h|⟨e,he,G,V⟩
    ·exact .inl h
    ·exact .inr (.inl ⟨q77 _ e,zM.2 ⟨e,he,rfl⟩,G,by show e.w=w;omega⟩)
   ·have W:=H.gi.ai t x a d S;obtain⟨_,hT⟩:=qr2 H d Z S aH
    by_cases hm:a.code=1/\w∈a.ad
    ·have C:=W.ph;unfold PhA at C;rw[L] at C;refine .inr (.inr ⟨t,z.2.1,_,q0c d,ae,I,?_⟩);rw[(qez W L I).2.2.2.2.2.2 hm.1 (yr hm.2)];exact C.2.2.1.1 hm.1 w hm.2
    ·left;show(q5d p g x a t).d.getD _ _=_;rw[qbs]
     split
     ·rename_i G;have hdl:=H.gi.dl;rw[q4S Yu,Z2 w0,(q0I hT.len).2 fun h=>hm ⟨G,h⟩];rfl
     ·rfl
  have aK:∀(u:Nat) y b y' b',b.rv<=q.m.ck->HsQ c ps g0 q.E q.m q.xs g u y b->(⟨y'.bg,y'.sv,y'.th.oc,false⟩:Thr)=⟨y.bg,y.sv,y.th.oc,false⟩->b'.rv=b.rv->(u=t->z.2.2.2= [])->g'.T[u]? =some ⟨y'.bg,y'.sv,y'.th.oc,false⟩->HsQ c ps g0 (q.E++z.2.2.2.map (q77 q.S.length)) z.1 (q.xs.set t z.2.1) g' u y' b':=fun u y b y' b' hrv ⟨A,b0,R,G,V,h3,h4,h5⟩ aY aN aV J=>by
   refine⟨A,b0,R++z.2.2.2.map (q77 q.S.length),by rw[G];simp,V,h3,fun e he=>?_,fun R1 R2 aE=>?_⟩
   ·rcases zy.1 he with he|he
    ·exact h4 e he
    ·by_cases hu:u=t
     ·rw[aV hu] at he;cases he
     ·rw[l2 e he];omega
   ·rcases qeb aE (by rw[zi];exact l1) with ⟨R3,Q,rfl⟩|⟨rfl,rfl⟩
    ·obtain⟨h,f1,f2,f3,f4⟩:=h5 R1 R3 Q;refine⟨h,f1,f2,by rw[aY];exact f3,fun w w0 w1=>?_⟩;rw[aN]
     rcases f4 w w0 w1 with h6|⟨e,he,h6⟩|h6|h6
     ·rcases star w w0 w1 with h7|⟨e,he,h7⟩|h7
      ·exact .inl (h6.trans h7.symm)
      ·exact .inr (.inl ⟨e,zJ _ he,h7⟩)
      ·exact .inr (.inr (.inr h7))
     ·exact .inr (.inl ⟨e,zP _ he,h6⟩)
     ·rcases aM (qB c w) with e|e
      ·exact .inr (.inr (.inl (by rw[e];exact h6)))
      ·exact .inr (.inr (.inl (by rw[e];omega)))
     ·rcases aS _ h6 with h7|h7
      ·exact .inr (.inr (.inr h7))
      ·exact .inr (.inr (.inl Yu))
    ·exact⟨g',aA,by rw[<-aB,G];simp,J,fun w _ _=> .inl rfl⟩
  refine⟨i1,i2,aB,aA,fun u y b F hb=>?_,fun u y b F hb j=>?_,fun u y b F hb j az=>?_,fun u y b F hb j aF=>?_,?_⟩
  ·by_cases hu:u=t
   ·subst hu;obtain rfl:=own y F;exact aQ b hb
   ·exact D.nc u y b (U u y hu F) hb
  ·by_cases hu:u=t
   ·subst hu;obtain rfl:=own y F;rw[aU b hb j];exact qna (au b hb) fun a S=>D.rs u x a d S (qrA (au b hb) j S)
   ·rw[T.ot u hu];exact D.rs u y b (U u y hu F) hb j
  ·show ∃A z0 B,q.E++z.2.2.2.map (q77 q.S.length)=A++z0::B/\_
   rcases hD with ⟨_,ay⟩|⟨a,S,L,aH,ae,I,_,aI⟩
   ·have aP:∀e∈z.2.2.2.map (q77 q.S.length),e.k≠4:=fun e he=>by
     generalize z.2.2.2=es at M he;cases M with
     |no _=>cases he
     |bg=>rw[zf.1 he];show(3:Int)≠4;decide
     |en a a' Q e2 e3 e4 e5=>
      obtain⟨a0,G,V,_⟩:=ay a' e4 e5;rw[Q] at G;cases G;rw[e3] at V;cases V
     |pl i=>rw[zf.1 he];show(if i.op=12 then(1:Int) else 2)≠4;split <;>decide
    have key:(∃A z B,q.E=A++z::B/\z.k=4/\z.t=(u:Int)/\z.wl=b.ad/\∀e∈B,e.k≠4)->∃A z0 B,q.E++z.2.2.2.map (q77 q.S.length)=A++z0::B/\z0.k=4/\z0.t=(u:Int)/\z0.wl=b.ad/\∀e∈B,e.k≠4:=fun⟨A,z0,B,G,V,h3,h4,h5⟩=>
     ⟨A,z0,B++z.2.2.2.map (q77 q.S.length),by rw[G];simp,V,h3,h4,fun e he=>(zy.1 he).elim (h5 e) (aP e)⟩
    by_cases hu:u=t
    ·subst hu;obtain rfl:=own y F;obtain⟨a,S,aG,rfl⟩:=ay b hb j;obtain⟨f1,f2⟩:=qoZ (H.gi.ai u x a d S) aG;exact key (by rw[f1];exact D.wl u x a d S aG (f2 az))
    ·exact key (D.wl u y b (U u y hu F) hb j az)
   ·have W:=H.gi.ai t x a d S
    by_cases hu:u=t
    ·subst hu;obtain rfl:=own y F;rw[ae] at hb;cases hb;obtain⟨o1,_,_,_,_,o6,_⟩:=qez W L I;have aO:a.code=1:=Classical.byContradiction fun G=>by
      have C:=W.ph;unfold PhA at C;rw[L] at C;have aR:a.oc= []:=Classical.byContradiction fun h=>G (C.2.2.1.2 h).1
      refine az ?_;rw[q3u L] at I ⊢;dsimp only at I ⊢;have hs:¬a.sto=true:=fun h=>by unfold AT.sto at h;exact G (of_decide_eq_true h).1
      rw[if_neg (fun h=>hs h.1),if_neg hs];unfold AT.rest;dsimp only;rw[if_pos aR];rfl
     refine⟨q.E,_,[],by rw[aI];rfl,rfl,rfl,?_,fun e he=>(by cases he)⟩;show(if a.code=1 then a.ad.filter fun x=>decide (x<c.words) else [])=_;rw[if_pos aO,o1,Yl.2 fun z hz=>decide_eq_true (W.ar z hz).2]
    ·exfalso;obtain⟨o,ho⟩:=y8 _ az;exact hu (H.gi.one d S (by rw[L];rfl) (U u y hu F) hb (q8h ho))
  ·show HsQ c ps g0 (q.E++z.2.2.2.map (q77 q.S.length)) z.1 (q.xs.set t z.2.1) g' u y b;obtain⟨py,aT⟩:=(qmk aq (t:=u) (by have:=(z7.1 F).1;rw[<-aq.gi.xl];exact this)).2;have J:=(qr2 aq F aT hb j).1
   by_cases hu:u=t
   ·subst hu;obtain rfl:=own y F;generalize ax:z.2.2.2=es at M;cases M with
    |no ay=>
     obtain⟨a,G,V,h3⟩:=ay b hb j aF;have hg:g'=g:=by
      have:=q4Q (s:=z.2.2.1) (x:=x) hb j;rw[this] at aw;exact(Option.some.inj aw).symm
     have aJ:=(qr2 H d Z G V).1;rw[hg,aJ] at J;rw[<-ax];exact aK u x a z.2.1 b ((H.gi.ai u x a d G).rv h3).2 (D.hi u x a d G V h3) (Option.some.inj J).symm (qrB (au b hb) G h3) (fun _=>ax) (by rw[hg,aJ];exact J)
    |bg a a' Q e2 e3 e4 e5=>
     refine⟨q.E,_,[],rfl,rfl,rfl,(fun e he=>(by cases he)),fun R1 R2 aE=>?_⟩;obtain⟨rfl,rfl⟩:=List.append_eq_nil_iff.1 aE.symm;refine⟨g',aA,?_,J,fun w _ _=> .inl rfl⟩;rw[<-aB,ax];rfl
    |en a a' Q e2 e3 e4 e5=>
     rw[e4] at hb;cases hb;rw[e5] at j;cases j
    |pl i Q e2 e3=>
     rw[e3] at hb;cases hb
   ·exact aK u y b y b ((H.gi.ai u y b (U u y hu F) hb).rv aF).2 (D.hi u y b (U u y hu F) hb j aF) rfl rfl (fun h=>absurd h hu) J
  ·show MSt (q.E++z.2.2.2.map (q77 q.S.length));have aj:=X.h g' aA;rw[<-aB] at aj;generalize ax:z.2.2.2=es at M aj;cases M with
   |no _=>rw[Z5,zz];exact D.ms
   |bg=>exact D.ms.ap fun h=>absurd h (by show ¬(3:Int)=4;decide)
   |pl i=>exact D.ms.ap fun h=>absurd h (by show ¬(if i.op=12 then(1:Int) else 2)=4;split <;>decide)
   |en a a' Q e2 e3 e4 e5=>
    obtain⟨A0,b0,R,f1,f2,f3,f4,f5⟩:=D.hi t x a d Q e3 (by rw[e2];rfl);have W:=H.gi.ai t x a d Q;refine D.ms.ap fun _ A v B hE hv aW hc=>?_
    have aX:(q77 q.S.length ⟨0,t,4,0,a.seen,if a.code=1 then a.ad.filter fun x=>decide (x<c.words) else []⟩).wl=if a.code=1 then a.ad else []:=by
     show(if a.code=1 then a.ad.filter fun x=>decide (x<c.words) else [])=_;rw[Yl.2 fun z hz=>decide_eq_true (W.ar z hz).2]
    rw[zF,Z5,q1p,q7x (by show(4:Int)≠3;decide),q3v] at aj;obtain⟨B1,B2,B3,e,G,V,h3⟩:=qlO X H d Z Q e2 e3 (D.rs t x a d Q e3) (y:=q77 q.S.length ⟨0,t,4,0,a.seen,if a.code=1 then a.ad.filter fun x=>decide (x<c.words) else []⟩) rfl rfl rfl aX aj f1 f2 f3 f4 f5 B.length A v B (zq _) hE hv aW hc;exact⟨B1,B2,B3,e,b0,G,V,h3,f2,f3⟩
end
open Go Go.Proofs.YtikpjajangpdjaaGreatDoor.Ord
theorem q5n:∀(B:jl) {o A:jl} {e:EvM},tE B=o++e::A->∃j z d,B=j++z::d/\evN z=e/\tE d=A
 | [],o,A,e,h=>by rw[q3v] at h;simp at h
 |z::B,o,A,e,h=>by
  by_cases C:z.k=3
  ·rw[qob C] at h;obtain⟨j,F,d,v,y,D⟩:=q5n B h;exact⟨z::j,F,d,by rw[v];rfl,y,D⟩
  ·rw[q7x C] at h;cases o with
   |nil=>
    obtain⟨v,y⟩:=List.cons.inj h;exact⟨[],z,B,rfl,v,y⟩
   |cons w o=>
    obtain⟨_,y⟩:=List.cons.inj h;obtain⟨j,F,d,v,C,D⟩:=q5n B y;exact⟨z::j,F,d,by rw[v];rfl,C,D⟩
theorem qpM{E A B:jl}{v:EvM}(h:E=A++v::B):E[A.length]? =some v:=by rw[h];simp
theorem qir{E:jl}{i j:Nat}{x y:EvM}(hij:i<j)(w:E[i]? =some x)(d:E[j]? =some y):∃A B C,E=A++x::(B++y::C)/\A.length=i/\i+1+B.length=j:=by
 have hj:=(z7.1 d).1;have h:E=E.take i++x::E.drop (i+1):=by rw[<-q1Z w,ZJ]
 have o:(E.drop (i+1))[j-i-1]? =some y:=by rw[yo,show i+1+(j-i-1)=j by omega];exact d
 have v:E.drop (i+1)=(E.drop (i+1)).take (j-i-1)++y::(E.drop (i+1)).drop (j-i-1+1):=by rw[<-q1Z o,ZJ]
 refine⟨E.take i,(E.drop (i+1)).take (j-i-1),(E.drop (i+1)).drop (j-i-1+1),by rw[<-v];exact h,?_,?_⟩
 ·rw[zQ];omega
 ·rw[zQ,ZN];omega
theorem q2b{e:EH}{w:Int}(h:wrB e w=true):(e.k=2/\e.w=w)\/(e.k=4/\w∈e.wl):=by
 unfold wrB at h;simp only[Zd,zu,decide_eq_true_eq,Zw] at h;exact h
theorem qeD{n:Nat}{l:ji}{E:jl}(h1:1<=n)(hn:n<=16)(h:TrW n E)(hl:l.map EH.m=E)(hle:l.length<=65536)(aE:MSt E)(X:qk7 (tE E)):(q4n l n).2=0/\frR l n=(-1, -1, -1):=by
 refine qcG h1 hn h hl hle fun x y aj hy R aq ht U w af aw Q=>?_
 have hw:=(ql9 h1 hn h l hl hle).1.wf;have ge:∀i,i<l.length->E[i]? =some (at' l i).m:=fun i hi=>by
  rw[<-hl,zI,z6 hi,Zu,qbc (z6 hi)]
 have en:∀{A B:jl} {v:EvM},E=A++v::B->A.length<l.length/\v=(at' l A.length).m:=fun{A B v} h=>by
  have a1:=qpM h;have I:=(z7.1 a1).1;rw[<-hl,zi] at I;rw[ge _ I] at a1;exact⟨I,(Option.some.inj a1).symm⟩
 have S:x<l.length:=Yu;obtain⟨A,B,C,V,hA,hB⟩:=qir aj (ge x S) (ge y hy);have ae:(at' l x).m.k≠3:=R;have au:(at' l y).m.k≠3:=aq;have hL:tE E=tE A++evN (at' l x).m::(tE B++evN (at' l y).m::tE C):=by rw[V,q1p,q7x ae,q1p,q7x au]
 by_cases d:knd l y=4
 ·have j:=(q4f af).resolve_right fun h=>U ⟨h.1,d⟩
  have W:cPT (at' l x).m (at' l y).m:=by
   rcases Q with h|h
   ·have D:=(q2b h).resolve_right fun h=>U ⟨h.1,d⟩
    rcases q4f aw with F|⟨_,F⟩
    ·exfalso;have:(at' l y).k=4:=d;omega
    ·rcases F with F|F
     ·exact .inr ⟨D.1,by show(at' l x).w∈_;rw[D.2];exact F⟩
     ·exact .inl (by show(at' l x).w∈_;rw[D.2];exact F)
   ·rcases q2b h with D|D
    ·exfalso;have:(at' l y).k=4:=d;omega
    ·exact .inl (by show(at' l x).w∈_;rw[j.2];exact D.2)
  obtain⟨p,hp,o,hp3,hpt⟩:=q8L hw hy d;obtain⟨B1,B2,T,e,b0,rfl,H,het,hb3,az⟩:=aE A B C _ _ V j.1 d ht W;have G:E=(A++(at' l x).m::B1)++e::(B2++b0::(T++(at' l y).m::C)):=by rw[V];simp
  have ay:E=(A++(at' l x).m::(B1++e::B2))++b0::(T++(at' l y).m::C):=by rw[V];simp
  obtain⟨d1,d2⟩:=en G;obtain⟨f1,f2⟩:=en ay;have aB:(A++(at' l x).m::B1).length=x+1+B1.length:=by rw[z8,zm,hA];omega
  have aC:(A++(at' l x).m::(B1++e::B2)).length=x+2+B1.length+B2.length:=by rw[z8,zm,z8,zm,hA];omega
  rw[z8,zm,z8,zm] at hB;rw[aB] at d1 d2;rw[aC] at f1 f2;have Z:=q5i.2 hp;have hle0:x+2+B1.length+B2.length<=p:=Nat.le_of_not_lt fun h=>Z.2.2 _ h Yu (by show(at' l _).m.t=_;rw[<-f2];exact az)
  have M:toP l y=p:=by unfold toP;rw[if_pos d,hp];rfl
  rw[M];exact⟨Yu,⟨S, .inl R⟩,⟨Yu, .inr ⟨y,hy,Z,d⟩⟩, .inr (.inr ⟨fun h=>by unfold q0T at h;omega,x+1+B1.length,Yu,Yu,by show(at' l _).m.k=4;rw[<-d2];exact H,by show(at' l _).m.t=_;rw[<-d2];exact het⟩)⟩
 ·have M:toP l y=y:=by unfold toP;rw[if_neg d]
  have o:=(q4f aw).resolve_right fun h=>d h.1
  rw[M];refine⟨aj,⟨S, .inl R⟩,⟨hy, .inl aq⟩, .inr (.inl ⟨o.1,?_⟩)⟩;have end_in:∀{B1 B2:jl} {f:EvM},B=B1++f::B2->x+1+B1.length<y/\f=(at' l (x+1+B1.length)).m:=fun{B1 B2 f} h=>by
   have G:E=(A++(at' l x).m::B1)++f::(B2++(at' l y).m::C):=by rw[V,h];simp
   obtain⟨d1,d2⟩:=en G;rw[z8,zm,hA,show x+(B1.length+1)=x+1+B1.length by omega] at d1 d2;rw[h,z8,zm] at hB;exact⟨Yu,d2⟩
  rcases q4f af with j|j
  ·have W:cPP (at' l x).m (at' l y).m:=by
    refine⟨by show(at' l x).w=(at' l y).w;rw[j.2,o.2],?_⟩
    rcases Q with h|h
    ·rcases q2b h with h|h
     ·exact .inl h.1
     ·omega
    ·rcases q2b h with h|h
     ·exact .inr h.1
     ·exact absurd h.1 d
   obtain⟨D1,D2,D3,e,f,hD,H,het,J,L⟩:=X.pp _ _ _ _ _ hL j.1 o.1 ht W;obtain⟨B1,e',B4,rfl,rfl,ax⟩:=q5n B hD;obtain⟨B2,f',T,rfl,rfl,_⟩:=q5n B4 ax;obtain⟨d1,d2⟩:=end_in (B1:=B1) (B2:=B2++f'::T) (f:=e') rfl;obtain⟨f1,f2⟩:=end_in (B1:=B1++e'::B2) (B2:=T) (f:=f') Yw;rw[z8,zm] at f1 f2;exact⟨x+1+B1.length,x+1+(B1.length+(B2.length+1)),Yu,Yu,f1,by show(at' l _).m.k=4;rw[<-d2];exact H,by show(at' l _).m.k=4;rw[<-f2];exact J,by show(at' l _).m.t=_;rw[<-d2];exact het,by show(at' l _).m.t=_;rw[<-f2];exact L⟩
  ·have W:cPT (at' l y).m (at' l x).m:=by
    rcases Q with h|h
    ·have D:=(q2b h).resolve_left fun h=>by omega
     exact .inl (by show(at' l y).w∈_;rw[o.2];exact D.2)
    ·have D:=(q2b h).resolve_right fun h=>d h.1
     rcases j.2 with F|F
     ·exact .inr ⟨D.1,by show(at' l y).w∈_;rw[o.2];exact F⟩
     ·exact .inl (by show(at' l y).w∈_;rw[o.2];exact F)
   obtain⟨f,hf,J,L⟩:=X.tp _ _ _ _ _ hL j.1 o.1 ht W;obtain⟨f',aA,rfl,_⟩:=qcD hf;obtain⟨B1,B2,rfl⟩:=ZB aA;obtain⟨f1,f2⟩:=end_in (B1:=B1) (B2:=B2) (f:=f') rfl;exact⟨x,x+1+B1.length,zq x,Yu,f1,j.1,by show(at' l _).m.k=4;rw[<-f2];exact J,rfl,by show(at' l _).m.t=_;rw[<-f2];exact L⟩
open Go
structure Sim(l l':ji):Prop where
 len:l'.length=l.length
 kd:∀i,i<l.length->knd l' i=knd l i
 th:∀i j,i<l.length->j<l.length->(thr l' i=thr l' j↔thr l i=thr l j)
 wd:∀i,i<l.length->(at' l' i).w=(at' l i).w/\(at' l' i).rl=(at' l i).rl/\(at' l' i).wl=(at' l i).wl
section
variable{l l':ji}
theorem Sim.symm(h:Sim l l'):Sim l' l:=
 ⟨h.len.symm,fun i d=>(h.kd i (by rw[<-h.len];exact d)).symm,fun i j d o=>(h.th i j (by rw[<-h.len];exact d) (by rw[<-h.len];exact o)).symm,fun i d=>by
  obtain⟨a,b,c⟩:=h.wd i (by rw[<-h.len];exact d);exact⟨a.symm,b.symm,c.symm⟩⟩
theorem Sim.prev(h:Sim l l'){i p:Nat}(d:i<l.length)(a:qay l i p):qay l' i p:=by
 obtain⟨j,o,v⟩:=a;exact⟨j,(h.th p i Yu d).2 o,fun q w y e=>v q w y ((h.th q i Yu d).1 e)⟩
theorem Sim.cnt(h:Sim l l'){i:Nat}(a:q7Q l i):q7Q l' i:=by
 obtain⟨j,d⟩:=a;refine⟨by rw[h.len];exact j,?_⟩
 rcases d with d|⟨e,he,o,v⟩
 ·exact .inl (by rw[h.kd i j];exact d)
 ·exact .inr ⟨e,by rw[h.len];exact he,h.prev he o,by rw[h.kd e he];exact v⟩
theorem Sim.pl(h:Sim l l'){i:Nat}(d:i<l.length):q0T l' i↔q0T l i:=by unfold q0T;rw[h.kd i d]
theorem Sim.hb(h:Sim l l'){i j:Nat}(a:HB l i j):HB l' i j:=by
 obtain⟨D,y,A,o⟩:=a;have d:j<l.length:=A.1;have v:i<l.length:=y.1;refine⟨D,h.cnt y,h.cnt A,?_⟩
 rcases o with o|⟨w,e,f,a1,a2,a3,a4,a5,B,C⟩|⟨w,e,a1,a2,a3,a4⟩
 ·exact .inl ((h.th i j v d).2 o)
 ·exact .inr (.inl ⟨(h.pl d).2 w,e,f,a1,a2,a3,by rw[h.kd e Yu];exact a4,by rw[h.kd f Yu];exact a5,(h.th e i Yu v).2 B,(h.th f j Yu d).2 C⟩)
 ·exact .inr (.inr ⟨fun e=>w ((h.pl d).1 e),e,a1,a2,by rw[h.kd e Yu];exact a3,(h.th e i Yu v).2 a4⟩)
theorem Sim.hbB(h:Sim l l')(i j:Nat):Ord.hbB l' i j=Ord.hbB l i j:=by
 rw[yQ,Ord.hbB_iff,Ord.hbB_iff];exact⟨h.symm.hb,h.hb⟩
theorem Sim.bg(h:Sim l l'){y:Nat}(d:y<l.length):∀j,j<=l.length->Ord.bgL l' (thr l' y) j=Ord.bgL l (thr l y) j
 |0,_=>rfl
 |j+1,hj=>by
  unfold Ord.bgL;rw[h.bg d j Yu]
  by_cases e:thr l j=thr l y
  ·rw[if_pos e,if_pos ((h.th j y Yu d).2 e)]
  ·rw[if_neg e,if_neg fun o=>e ((h.th j y Yu d).1 o)]
theorem Sim.toP(h:Sim l l'){y:Nat}(d:y<l.length):Ord.toP l' y=Ord.toP l y:=by
 unfold Ord.toP;rw[h.kd y d,h.bg d y Yu]
theorem Sim.conf(h:Sim l l'){x y:Nat}(d:x<l.length)(j:y<l.length)(w:Int):Ord.confB (at' l' x) (at' l' y) w=Ord.confB (at' l x) (at' l y) w:=by
 have v:(at' l' x).k=(at' l x).k:=h.kd x d;have A:(at' l' y).k=(at' l y).k:=h.kd y j;obtain⟨B,C,D⟩:=h.wd x d;obtain⟨F,G,H⟩:=h.wd y j;have o:decide ((at' l' x).t=(at' l' y).t)=decide ((at' l x).t=(at' l y).t):=decide_eq_decide.2 (h.th x y d j);unfold Ord.confB Ord.cfP;rw[v,A,B,C,D,F,G,H,o]
theorem Sim.prs(h:Sim l l'):∀m,m<=l.length->Ord.prs l' m=Ord.prs l m
 |0,_=>rfl
 |m+1,hm=>by
  have d:=h.prs m Yu;unfold Ord.prs at d ⊢;rw[ZQ (n:=m),yg,yg,d,List.flatMap_singleton,List.flatMap_singleton,h.kd m Yu]
theorem qq7{m:Nat}{p:Nat×Int}(h:p∈Ord.prs l m):p.1<m:=(Ord.prs_mem h).1
theorem Sim.frst(h:Sim l l'):Ord.frst l'=Ord.frst l:=by
 unfold Ord.frst;rw[h.len,h.prs _ (zq _)]
 congr 1
 apply Ord.findSome_congr;intro p j;have d:=qq7 j
 congr 1
 unfold Ord.rcL
 congr 1
 apply List.filter_congr;intro x o;have hxl:=Z9.1 o;unfold Ord.rcB;rw[h.kd x Yu,h.conf Yu d,h.toP d,h.hbB]
end
def qfU(ρ:Int->Int):ji->ji->Prop
 | [],[]=>True
 |e::l,e'::l'=>(e'.t=ρ e.t/\e'.k=e.k/\e'.w=e.w/\e'.rl=e.rl/\e'.wl=e.wl)/\qfU ρ l l'
 |_,_=>False
theorem qfU.len{ρ:Int->Int}:∀{l l':ji},qfU ρ l l'->l'.length=l.length
 | [],[],_=>rfl
 |_::_,_::_,⟨_,h⟩=>by rw[zm,zm,h.len]
theorem qfU.get{ρ:Int->Int}:∀{l l':ji} (_:qfU ρ l l') (i:Nat),i<l.length->(at' l' i).t=ρ (at' l i).t/\(at' l' i).k=(at' l i).k/\(at' l' i).w=(at' l i).w/\(at' l' i).rl=(at' l i).rl/\(at' l' i).wl=(at' l i).wl
 |e::l,e'::l',⟨h,_⟩,0,_=>h
 |e::l,e'::l',⟨_,h⟩,i+1,d=>by
  have:=h.get i (by simpa using d)
  simpa [at'] using this
theorem qfU.sim{ρ:Int->Int}(hρ:∀a b,ρ a=ρ b->a=b){l l':ji}(h:qfU ρ l l'):Sim l l':=
 ⟨h.len,fun i d=>(h.get i d).2.1,fun i j d o=>by
  unfold thr;rw[(h.get i d).1,(h.get j o).1];exact⟨hρ _ _,fun e=>by rw[e]⟩,fun i d=>(h.get i d).2.2⟩
theorem qbj{n:Nat}{ρ:Int->Int}(hρ:∀a b,ρ a=ρ b->a=b)(A:∀t,(0<=ρ t/\ρ t<n)↔(0<=t/\t<n)):∀(l l':ji) (i:Nat) (pa o:Int) (last d:je),qfU ρ l l'->l.Pairwise (fun a b=>a.ev<=b.ev)->l'.Pairwise (fun a b=>a.ev<=b.ev)->(∀e∈l,i=0\/pa<=e.ev)->(∀e∈l',i=0\/o<=e.ev)->
  last.length=n->d.length=n->(∀t:Int,0<=t->t<n->d.getD (ρ t).toNat 0=last.getD t.toNat 0)->qcX n l' i o d=qcX n l i pa last
 | [],[],_,_,_,_,_,_,_,_,_,_,_,_,_=>rfl
 |e::l,e'::l',i,pa,o,last,d,⟨⟨J,L,Q,R,S⟩,h⟩,G,w,W,F,V,D,y=>by
  have U:q12 n (i==0) o (d.getD e'.t.toNat 0) e'=q12 n (i==0) pa (last.getD e.t.toNat 0) e:=by
   unfold q12;rw[J,L,Q,R,S];have T:((i==0)=true\/pa<=e.ev):=by
    rcases W e zj with h|h
    ·exact .inl (by rw[h];rfl)
    ·exact .inr h
   have hb:((i==0)=true\/o<=e'.ev):=by
    rcases F e' zj with h|h
    ·exact .inl (by rw[h];rfl)
    ·exact .inr h
   by_cases v:0<=e.t/\e.t<n
   ·rw[y e.t v.1 v.2];have:=(A e.t).2 v
    congr 3
    apply decide_eq_decide.2;constructor
    ·rintro⟨_,_,a,b,_,c⟩;exact⟨v.1,v.2,a,b,T,c⟩
    ·rintro⟨_,_,a,b,_,c⟩;exact⟨this.1,this.2,a,b,hb,c⟩
   ·have B:¬(0<=ρ e.t/\ρ e.t<n):=fun h=>v ((A e.t).1 h)
    rw[decide_eq_false (p:=0<=e.t/\_) fun h=>v ⟨h.1,h.2.1⟩,decide_eq_false (p:=0<=ρ e.t/\_) fun h=>B ⟨h.1,h.2.1⟩];simp
  unfold qcX;rw[U]
  split
  ·rename_i j;have C:0<=e.t/\e.t<n:=by
    unfold q12 at j;simp only[zu,decide_eq_true_eq] at j;exact⟨j.1.1.1.1,j.1.1.1.2.1⟩
   rw[yp] at G w;refine qbj hρ A l l' (i+1) e.ev e'.ev _ _ h G.2 w.2 (fun x H=> .inr (G.1 x H)) (fun x H=> .inr (w.1 x H)) (by rw[zn];exact V) (by rw[zn];exact D) fun t I B=>?_
   have hre:=(A e.t).2 C;have hrt:=(A t).2 ⟨I,B⟩;rw[J,L,zh,zh]
   by_cases v:t=e.t
   ·subst v;rw[Z0 Yu,Z0 Yu]
   ·have hne:ρ e.t≠ρ t:=fun M=>v (hρ _ _ M).symm
    rw[Zz Yu,Zz Yu];have:=y t I B;rw[zh,zh] at this;exact this
  ·rfl
theorem qpC{n:Nat}{ρ:Int->Int}(hρ:∀a b,ρ a=ρ b->a=b)(j:∀t,(0<=ρ t/\ρ t<n)↔(0<=t/\t<n)){l l':ji}(h:qfU ρ l l')(y:l.Pairwise (fun a b=>a.ev<=b.ev))(d:l'.Pairwise (fun a b=>a.ev<=b.ev)):Ord.frR l' n=Ord.frR l n:=by
 have v:q4n l' n=q4n l n:=by
  unfold q4n;rw[h.len,zD,qbj hρ j l l' 0 0 0 (List.replicate n 0) (List.replicate n 0) h y d (fun _ _=> .inl rfl) (fun _ _=> .inl rfl) zO zO fun t o w=>by
   have:=(j t).2 ⟨o,w⟩;rw[zh,zh,Zy,Zy,if_pos Yu,if_pos Yu]]
 unfold Ord.frR;rw[v,(h.sim hρ).frst]
def evH(e:EvM):EH:=⟨e.ev,e.t,e.k,e.w,none,e.r,0,none,e.wl,0⟩
def rcC(n:Nat)(E:jl):Bool:=decide ((q4n (E.map evH) n).2=0/\0<=(Ord.frstC (E.map evH)).2.1)
theorem qcb{n:Nat}{E:jl}:rcC n E=decide (0<=(Ord.frR (E.map evH) n).2.1):=by
 unfold rcC Ord.frR
 by_cases h:(q4n (E.map evH) n).2=0
 ·rw[if_pos h,Ord.frst_C (Ord.chk_wf h).1];simp only[h,true_and]
 ·rw[if_neg h];simp[h]
theorem qki{n:Nat}:∀(L:ji) (i:Nat) (pa:Int) (last:je),qcX n ((L.map EH.m).map evH) i pa last=qcX n L i pa last
 | [],_,_,_=>rfl
 |e::L,i,pa,last=>by
  have d:∀a b c,q12 n a b c (evH e.m)=q12 n a b c e:=fun _ _ _=>rfl
  simp only[zF,qcX];rw[d,qki L];rfl
theorem qkW:∀L:ji,qfU id L ((L.map EH.m).map evH)
 | []=>trivial
 |_::L=>⟨⟨rfl,rfl,rfl,rfl,rfl⟩,qkW L⟩
theorem qsV{n:Nat}{L:ji}{E:jl}(h:L.map EH.m=E):Ord.frR L n=Ord.frR (E.map evH) n/\q4n L n=q4n (E.map evH) n:=by
 subst h;have d:q4n ((L.map EH.m).map evH) n=q4n L n:=by
  unfold q4n;rw[zi,zi,qki]
 refine⟨?_,d.symm⟩;unfold Ord.frR;rw[d,((qkW L).sim fun _ _ h=>h).frst]
theorem qkS{E:jl}(h:E.Pairwise (fun a b=>a.ev<=b.ev)):(E.map evH).Pairwise (fun a b=>a.ev<=b.ev):=List.pairwise_map.2 h
theorem qkX:∀E d:jl,d.map evZ=E.map evZ->qfU id (E.map evH) (d.map evH)
 | [],[],_=>trivial
 | [],_::_,h=>by cases h
 |_::_,[],h=>by cases h
 |e::E,e'::d,h=>by
  simp only[zF,List.cons.injEq] at h;obtain⟨ev,t,k,w,r,wl⟩:=e;obtain⟨ev',t',k',w',r',wl'⟩:=e';have j:=h.1;unfold evZ at j;simp only[EvM.mk.injEq,true_and] at j;obtain⟨rfl,rfl,rfl,rfl,rfl⟩:=j;exact⟨⟨rfl,rfl,rfl,rfl,rfl⟩,qkX E d h.2⟩
theorem qqb{n:Nat}{s s':GS}(h:EqS s s')(d:EvS s)(j:EvS s'):rcC n s'.E=rcC n s.E:=by
 rw[qcb,qcb,qpC (ρ:=id) (fun _ _ h=>h) (fun _=>Iff.rfl) (qkX s.E s'.E h.E) (qkS d.st) (qkS j.st)]
open Go Go.Proofs.YtikpjajangpdjaaGreatDoor.Ord
section
variable{c:Cfg}{P:List (jg)}{s s':GS}{t:Nat}{th:Thr}{p:jg}{i:Ins}{f:Int}{ad:je}{n:Nat}{E:jl}
def FrE(s:GS)(t:Nat)(F:jl):Prop:=F= []\/(∃k a,F= [⟨s.n,t,k,a,[],[]⟩]/\(k=1\/k=2))\/∃r w,F= [⟨s.n,t,3,0,[],[]⟩,⟨s.n,t,4,0,r,w⟩]
theorem qsA(v:c.strong=false)(h:chM c P s ⟨t,f,ad⟩=some s'):t<s.T.length/\∃F,s'.E=s.E++F/\FrE s t F:=by
 unfold chM at h;rw[if_neg (by show ¬((t:Nat):Int)<0;omega)] at h;simp only[zD] at h
 split at h
 ·rename_i th p w hp;refine⟨(z7.1 w).1,?_⟩;have j:∀{l:List ObM} {th':Thr},some (s.fin t th' l)=some s'->∃F,s'.E=s.E++F/\FrE s t F:=fun e=>by
   obtain rfl:=Option.some.inj e;exact⟨[],(zz _).symm, .inl rfl⟩
  have d:∀k a,plE c s.n t k a= [⟨s.n,t,k,a,[],[]⟩]:=fun k a=>by unfold plE;rw[v,if_neg Yv]
  split at h
  ·cases h
  ·split at h
   ·split at h
    ·unfold txM at h
     split at h
     ·split at h
      ·exact j h
      ·cases h
     ·generalize q2c c p p.length _=z at h;obtain⟨b,o⟩:=z;dsimp only at h
      split at h
      ·cases h
      ·split at h
       ·obtain rfl:=Option.some.inj h;exact⟨_,rfl, .inr (.inr ⟨_,_,rfl⟩)⟩
       ·obtain rfl:=Option.some.inj h;exact⟨_,rfl, .inr (.inr ⟨_,_,rfl⟩)⟩
    ·split at h
     ·rename_i i _ _ _;unfold sgM at h;generalize adr th.rg (if i.op=12 then i.b else i.a) i.imm=a at h;dsimp only at h
      split at h
      ·split at h
       ·split at h
        ·exact j h
        ·cases h
       ·split at h
        ·exact j h
        ·split at h
         ·obtain rfl:=Option.some.inj h;exact⟨_,rfl, .inr (.inl ⟨1,_,d _ _, .inl rfl⟩)⟩
         ·obtain rfl:=Option.some.inj h;exact⟨_,rfl, .inr (.inl ⟨2,_,d _ _, .inr rfl⟩)⟩
      ·split at h
       ·cases h
       ·exact j h
     ·cases h
   ·cases h
 ·cases h
structure TrG(n:Nat)(s:GS):Prop where
 tr:TrV n s.E
 ev:q3l s.E<=s.n
theorem qrG(H:GOk c P s)(D:c.strong=false)(hw:c.words<=64)(h:TrG P.length s)(C:chM c P s ⟨t,f,[]⟩=some s'):TrG P.length {s' with n:=s.n+1}:=by
 have y:=qcY H (ch:=⟨t,f,[]⟩) (fun _ h=>(by cases h));unfold doM at y;rw[C] at y;obtain⟨R,F,v,M⟩:=qsA D C;rw[H.tl] at R;have A:∀e∈F,qrh c e:=fun e he=>y.ev.1 e (by show e∈s'.E;rw[v];exact zJ _ he)
 have j:∀(E:jl) (e:EvM),TrV P.length E->q3l E<=s.n->qrh c e->e.t=t->1<=e.k/\e.k<=4->e.ev=s.n->(e.k=4->lkE E e.t=3)->(e.k≠4->e.r= []/\e.wl= [])->TrV P.length (E++ [e]):=fun E e v hl B ht' I hv L Q=>
  .snoc v ⟨Yu,I,⟨B.1.1,by have:=B.1.2;omega⟩,fun w o=>⟨(B.2.1 w o).1,by have:=(B.2.1 w o).2;omega⟩,fun w o=>⟨(B.2.2.1 w o).1,by have:=(B.2.2.1 w o).2;omega⟩,L,Q,Yu⟩
 have d:∀(E:jl) (e:EvM),q3l (E++ [e])=e.ev:=fun E e=>q27
 rcases M with rfl|⟨k,a,rfl,I⟩|⟨r,w,rfl⟩
 ·rw[zz] at v;refine⟨by show TrV _ s'.E;rw[v];exact h.tr,?_⟩;show q3l s'.E<=((s.n+1:Nat):Int);rw[v];have:=h.ev;omega
 ·refine⟨?_,?_⟩
  ·show TrV _ s'.E;rw[v];exact j _ _ h.tr h.ev (A _ zj) rfl (by dsimp only;omega) rfl (fun h=>by dsimp only at h;omega) (fun _=>⟨rfl,rfl⟩)
  ·show q3l s'.E<=((s.n+1:Nat):Int);rw[v,d];dsimp only;omega
 ·have G:s.E++ [(⟨s.n,t,3,0,[],[]⟩:EvM),⟨s.n,t,4,0,r,w⟩]=(s.E++ [⟨s.n,t,3,0,[],[]⟩])++ [⟨s.n,t,4,0,r,w⟩]:=Yw;have J:=j _ ⟨s.n,t,3,0,[],[]⟩ h.tr h.ev (A _ zj) rfl (by dsimp only;omega) rfl (fun h=>by cases h) (fun _=>⟨rfl,rfl⟩);refine⟨?_,?_⟩
  ·show TrV _ s'.E;rw[v,G];refine j _ _ J (by rw[d];exact zW _) (A _ (zl _ zj)) rfl (by dsimp only;omega) rfl (fun _=>?_) (fun h=>absurd rfl h);rw[q3a (by dsimp only;omega)];exact if_pos rfl
  ·show q3l s'.E<=((s.n+1:Nat):Int);rw[v,G,d];dsimp only;omega
theorem qad{a b:EH}{w:Int}(o:a.t≠b.t)(y:a.w=w)(ka:a.k=1\/a.k=2)(hb:(b.k=4/\(w∈b.wl\/(a.k=2/\w∈b.rl)))\/((b.k=1\/b.k=2)/\b.w=w/\(a.k=2\/b.k=2))):confB a b w=true/\(b.k=4->confB b a w=true):=by
 have j:cfP a b w=true:=by
  unfold cfP;rw[zu,decide_eq_true_iff];refine⟨y,?_⟩
  rcases hb with ⟨d,h⟩|⟨d,h,v⟩
  ·rw[if_pos d];simp only[Zd,zu,decide_eq_true_eq,Zw];exact h
  ·rw[if_neg Yu];simp only[Zd,zu,decide_eq_true_eq];exact⟨h,v⟩
 unfold confB;refine⟨?_,fun d=>?_⟩
 ·rw[decide_eq_false o,if_neg Yu,j];rfl
 ·rw[decide_eq_false (fun e=>o e.symm),if_pos d,decide_eq_false Yu,j];rfl
theorem q4e:∀(B:jl) {o C:jl} {e:EvM},tE B=o++e::C->∃d z j,B=d++z::j/\evN z=e/\z.k≠3/\tE d=o/\tE j=C
 | [],o,C,e,h=>by rw[q3v] at h;simp at h
 |z::B,o,C,e,h=>by
  by_cases A:z.k=3
  ·rw[qob A] at h;obtain⟨d,H,j,v,y,D,F,G⟩:=q4e B h;exact⟨z::d,H,j,by rw[v];rfl,y,D,by rw[qob A];exact F,G⟩
  ·rw[q7x A] at h;cases o with
   |nil=>
    obtain⟨v,y⟩:=List.cons.inj h;exact⟨[],z,B,rfl,v,A,rfl,y⟩
   |cons w o=>
    obtain⟨I,y⟩:=List.cons.inj h;obtain⟨d,H,j,v,D,F,G,J⟩:=q4e B y;exact⟨z::d,H,j,by rw[v];rfl,D,F,by rw[q7x A,I,G],J⟩
theorem qjZ{B B1 B2:jl}{e:EvM}(h:B=B1++e::B2)(d:e.k≠3):tE B=tE B1++evN e::tE B2:=by rw[h,q1p,q7x d]
theorem qqd(h1:1<=n)(hn:n<=16)(h:TrV n E)(hle:E.length<=65536)(hr:rcC n E=false):qk7 (tE E):=by
 have hm:∀e:EvM,(evH e).m=e:=fun e=>rfl
 have hl:(E.map evH).map EH.m=E:=by rw[ya];exact(yO fun e _=>hm e).trans (List.map_id _)
 have az:(E.map evH).length=E.length:=zi ..;obtain⟨aq,_⟩:=ql8 h1 hn h (E.map evH) hl Yu;have hw:=aq.wf;have ay:(q4n (E.map evH) n).2=0:=q8R.2 ⟨Yu,by rw[zD];exact aq⟩;rw[qcb] at hr;have hr:=of_decide_eq_false hr;unfold frR at hr;rw[if_pos ay] at hr;have aj:rcA (E.map evH) (E.map evH).length= []:=Classical.byContradiction fun e=>hr (qf3.2 e)
 generalize hL:E.map evH=l at hw aj az;have ge:∀{A B:jl} {v:EvM},E=A++v::B->A.length<l.length/\at' l A.length=evH v:=fun{A B v} h=>by
  have a1:=qpM h;have hel:=(z7.1 a1).1;refine⟨Yu,?_⟩;have a2:l[A.length]? =some (evH v):=by rw[<-hL,zI,a1];rfl
  exact qbc a2
 have ax:∀{x y:Nat} {w:Int},x<y->y<l.length->knd l x≠3->knd l y≠3->0<=w->w<64->confB (at' l x) (at' l y) w=true->HB l x (toP l y):=fun{x y w} aC H k1 k2 w0 w1 F=>by
  refine Classical.byContradiction fun hn=>?_
  have:((x:Int),(y:Int),w)∈rcA l l.length:=by
   refine qaA.2 ⟨y,w.toNat,H,Yu,k2,?_⟩;rw[Z2 w0];unfold rcL;refine zM.2 ⟨x,Zt.2 ⟨Z9.2 aC,?_⟩,rfl⟩;unfold rcB;rw[decide_eq_false k1,F,Y2.2 (fun e=>hn (hbB_iff.1 e))];rfl
  rw[aj] at this;cases this
 have d:∀{A B C:jl} {x y:EvM},tE E=A++x::(B++y::C)->∃A' x' J y' V,E=A'++x'::(J++y'::V)/\evN x'=x/\evN y'=y/\x'.k≠3/\y'.k≠3/\tE J=B:=fun{A B C x y} h=>by
  obtain⟨A',x',D,e1,e2,e3,_,e4⟩:=q4e E h;obtain⟨J,y',V,f1,f2,f3,f4,_⟩:=q4e D e4;exact⟨A',x',J,y',V,by rw[e1,f1],e2,f2,e3,f3,f4⟩
 have aE:∀{A B C:jl} {x y:EvM} {j:Nat},E=A++x::(B++y::C)->A.length<j->j<A.length+1+B.length->∃B1 v B2,B=B1++v::B2/\A.length+1+B1.length=j/\at' l j=evH v:=fun{A B C x y j} h h1 h2=>by
  have hj:j-A.length-1<B.length:=Yu;obtain⟨B1,v,B2,hB,hlen⟩:∃B1 v B2,B=B1++v::B2/\B1.length=j-A.length-1:=⟨_,_,_,(show B=B.take (j-A.length-1)++B[j-A.length-1]::B.drop (j-A.length-1+1) by rw[<-q1Z (z6 hj),ZJ]),by rw[zQ];omega⟩
  refine⟨B1,v,B2,hB,Yu,?_⟩;have o:E=(A++x::B1)++v::(B2++y::C):=by rw[h,hB];simp
  have:=(ge o).2;rw[z8,zm,hlen,show A.length+(j-A.length-1+1)=j by omega] at this;exact this
 have wr:∀{A B:jl} {v:EvM},E=A++v::B->0<=v.w/\v.w<64:=fun{A B v} h=>by
  obtain⟨a1,a2⟩:=ge h;have:=(hw.kd _ a1).2.2.2.2.1;rw[a2] at this;exact of_decide_eq_true this
 have ae:∀{A B C:jl} {x y:EvM} {w:Int},E=A++x::(B++y::C)->x.k≠3->y.k≠3->0<=w->w<64->confB (evH x) (evH y) w=true->HB l A.length (toP l (A.length+1+B.length))/\knd l A.length=x.k/\knd l (A.length+1+B.length)=y.k/\thr l A.length=x.t/\thr l (A.length+1+B.length)=y.t/\A.length+1+B.length<l.length:=fun{A B C x y w} o G I w0 w1 F=>by
  have aw:E=(A++x::B)++y::C:=by rw[o];simp
  obtain⟨gx1,X⟩:=ge o;obtain⟨Z,U⟩:=ge aw;rw[show(A++x::B).length=A.length+1+B.length by rw[z8,zm];omega] at Z U;have kx:knd l A.length=x.k:=by unfold knd;rw[X];rfl
  have ky:knd l (A.length+1+B.length)=y.k:=by unfold knd;rw[U];rfl
  refine⟨ax (w:=w) Yu Z (by rw[kx];exact G) (by rw[ky];exact I) w0 w1 (by rw[X,U];exact F),kx,ky,by unfold thr;rw[X];rfl,by unfold thr;rw[U];rfl,Z⟩
 have T:∀{A B C:jl} {x y:EvM} {j:Nat},E=A++x::(B++y::C)->A.length<j->j<A.length+1+B.length->knd l j=4->∃B1 v B2,B=B1++v::B2/\A.length+1+B1.length=j/\v.k=4/\v.t=thr l j:=fun{A B C x y j} h h1 h2 S=>by
  obtain⟨B1,v,B2,e1,e2,e3⟩:=aE h h1 h2;unfold knd at S;rw[e3] at S;exact⟨B1,v,B2,e1,e2,S,by unfold thr;rw[e3];rfl⟩
 refine⟨fun A B C x y M L H W F=>?_,fun A B C x y M L H W F=>?_,fun A B C x y M L H W F=>?_⟩
 ·obtain⟨A',x',J,y',V,o,rfl,rfl,G,I,rfl⟩:=d M;have L:x'.k=1\/x'.k=2:=L;have H:y'.k=1\/y'.k=2:=H;have F:x'.w=y'.w/\(x'.k=2\/y'.k=2):=F;have R:=wr o;obtain⟨hb,kx,ky,tx,ty,af⟩:=ae o G I R.1 R.2 (qad (a:=evH x') (b:=evH y') W rfl L (.inr ⟨H,F.1.symm,F.2⟩)).1;have Q:toP l (A'.length+1+J.length)=A'.length+1+J.length:=by unfold toP;rw[if_neg Yu]
  rw[Q] at hb;obtain⟨_,_,_,hb⟩:=hb
  rcases hb with h|⟨_,e,f,h1,h2,h3,S,h5,h6,h7⟩|⟨h,_⟩
  ·rw[tx,ty] at h;exact absurd h W
  ·have aA:e≠A'.length:=fun e0=>by rw[e0,kx] at S;omega
   obtain⟨B1,v,B2,rfl,e2,e3,e4⟩:=T o Yu Yu S;obtain⟨D1,z,D2,f1,f2,f3,f4⟩:=T (A:=A'++x'::B1) (B:=B2) (x:=v) (y:=y') (C:=V) (j:=f) (by rw[o];simp) (by rw[z8,zm];omega) (by rw[z8,zm];rw[z8,zm] at h3;omega) h5;refine⟨tE B1,tE D1,tE D2,evN v,evN z,?_,e3,by show v.t=x'.t;rw[e4,h6,tx],f3,by show z.t=y'.t;rw[f4,h7,ty]⟩;rw[qjZ rfl Yu,qjZ f1 Yu]
  ·exact absurd (by unfold q0T;omega) h
 ·obtain⟨A',x',J,y',V,o,rfl,rfl,G,I,rfl⟩:=d M;have L:x'.k=4:=L;have H:y'.k=1\/y'.k=2:=H;have F:y'.w∈x'.wl\/(y'.k=2/\y'.w∈x'.r):=F;have au:=wr (A:=A'++x'::J) (v:=y') (B:=V) (by rw[o];simp);obtain⟨hb,kx,ky,tx,ty,af⟩:=ae o G I au.1 au.2 ((qad (a:=evH y') (b:=evH x') (fun e=>W e.symm) rfl H (.inl ⟨L,F⟩)).2 L);have Q:toP l (A'.length+1+J.length)=A'.length+1+J.length:=by unfold toP;rw[if_neg Yu]
  rw[Q] at hb;obtain⟨_,_,_,hb⟩:=hb
  rcases hb with h|⟨_,e,f,h1,h2,h3,S,h5,h6,h7⟩|⟨h,_⟩
  ·rw[tx,ty] at h;exact absurd h W
  ·obtain⟨B1,v,B2,f1,f2,f3,f4⟩:=T o Yu h3 h5;exact⟨evN v,by rw[qjZ f1 Yu];exact zJ _ zj,f3,by show v.t=y'.t;rw[f4,h7,ty]⟩
  ·exact absurd (by unfold q0T;omega) h
 ·obtain⟨A',x',J,y',V,o,rfl,rfl,G,I,rfl⟩:=d M;have L:x'.k=1\/x'.k=2:=L;have H:y'.k=4:=H;have F:x'.w∈y'.wl\/(x'.k=2/\x'.w∈y'.r):=F;have R:=wr o;obtain⟨hb,kx,ky,tx,ty,af⟩:=ae o G I R.1 R.2 (qad (a:=evH x') (b:=evH y') W rfl L (.inl ⟨H,F⟩)).1;obtain⟨p,hp,hpy,hp3,aB⟩:=q8L hw af (ky.trans H);have Q:toP l (A'.length+1+J.length)=p:=by unfold toP;rw[if_pos (ky.trans H),hp];rfl
  rw[Q] at hb;obtain⟨_,_,_,hb⟩:=hb
  rcases hb with h|⟨h,_⟩|⟨_,e,h1,h2,S,h6⟩
  ·rw[tx,aB,ty] at h;exact absurd h W
  ·unfold q0T at h;omega
  ·have aA:e≠A'.length:=fun e0=>by rw[e0,kx] at S;omega
   obtain⟨B1,v,B2,f1,f2,f3,f4⟩:=T o Yu Yu S;exact⟨evN v,by rw[qjZ f1 Yu];exact zJ _ zj,f3,by show v.t=x'.t;rw[f4,h6,tx]⟩
end
open Go
theorem qk7.pre{L R:jl}(h:qk7 (L++R)):qk7 L:=
 ⟨fun A B C x y e=>h.pp A B (C++R) x y (by rw[e];simp),fun A B C x y e=>h.tp A B (C++R) x y (by rw[e];simp),fun A B C x y e=>h.pt A B (C++R) x y (by rw[e];simp)⟩
section
variable{c:Cfg}{P:List (jg)}{s g:GS}{t:Nat}{fo:je}{i:Ins}{k:Int}
theorem qkn{s':GS}{ch:ChM}(h:chM c P s ch=some s'):doM c P s ch=(0,{s' with n:=s.n+1}):=by unfold doM;rw[h]
theorem qlJ{ch:ChM}{s':GS}(j:ch.ad= [])(d:ch.f=0\/ch.f=5)(h:chM c P s ch=some s'):∃t:Nat,ch=⟨t,ch.f,[]⟩/\∃i,nxM P s t=some i/\(ch.f=0\/(i.op=7/\ch.f∈ [(5:Int)])):=by
 obtain⟨t,f,ad⟩:=ch;have j:ad= []:=j;subst j;have d:f=0\/f=5:=d;unfold chM at h;dsimp only at h
 split at h
 ·cases h
 ·rename_i ht;refine⟨t.toNat,by rw[Z2 Yu],?_⟩
  split at h
  ·rename_i th p o w
   split at h
   ·cases h
   ·rename_i hd;have hd:th.dn=false:=by simpa using hd
    split at h
    ·rename_i x y;refine⟨x,qpZ o w hd y,?_⟩
     rcases d with d|d
     ·exact .inl d
     ·subst d;refine .inr ⟨Classical.byContradiction fun v=>?_,zj⟩;rw[if_neg v] at h;unfold sgM at h;generalize adr th.rg (if x.op=12 then x.b else x.a) x.imm=a at h;dsimp only at h
      split at h
      ·rw[if_pos Yv,if_neg (fun e=>absurd e.1 Yv)] at h;cases h
      ·rw[if_pos Yv] at h;cases h
    ·cases h
  ·cases h
theorem qcd:∀(l:List ChM) (s:GS),(∀ch∈l,ch.ad= []/\(ch.f=0\/ch.f=5))->q4o c P s l=some g->∃l',q9W c P [5] s l'/\q62 c P s l'=g
 | [],s,_,h=>⟨[],trivial,by cases h;rfl⟩
 |ch::l,s,d,h=>by
  unfold q4o at h;cases e:chM c P s ch with
  |none=>rw[e] at h;cases h
  |some s'=>
   rw[e] at h;obtain⟨a1,a2⟩:=d ch zj;obtain⟨t,j,i,o,v⟩:=qlJ a1 a2 e;obtain⟨l',g1,g2⟩:=qcd l _ (fun z w=>d z (zl _ w)) h;have hd:=qkn e;rw[j] at hd;refine⟨(t,ch.f)::l',⟨⟨i,o,v⟩,?_⟩,?_⟩
   ·rw[hd];exact g1
   ·show q62 c P (doM c P s ⟨t,ch.f,[]⟩).2 l'=g;rw[hd];exact g2
theorem ql7(j:q99 P):∀(n:Nat) (s:GS),GOk c P s->qP P s<n->∃l,q9W c P fo s l/\q2E (q62 c P s l)=true
 |0,_,_,h=>absurd h (Yh _)
 |n+1,s,w,hn=>by
  by_cases hd:q2E s=true
  ·exact⟨[],trivial,hd⟩
  ·obtain⟨t,o⟩:∃t,dnB s t=false:=Classical.byContradiction fun h=>hd (zX.2 fun th v=>by
    obtain⟨t,o,e⟩:=Ya.1 v;have d:dnB s t≠false:=fun e=>h ⟨t,e⟩
    unfold dnB at d;rw[z6 o,e] at d
    simpa using d)
   obtain⟨i,y⟩:=qi3 w o;obtain⟨-,d, -, -, -,h2⟩:=q1H w j y (.inl rfl);obtain⟨l,g1,g2⟩:=ql7 j n _ d Yu;exact⟨(t,0)::l,⟨⟨i,y, .inl rfl⟩,g1⟩,g2⟩
theorem q63(o:q99 P)(j:∀k∈fo,3<=k/\k<=6)(d:c.strong=false)(hw:c.words<=64):∀(l:List (Nat×Int)) (s:GS),GOk c P s->TrG P.length s->EvS s->q9W c P fo s l->GOk c P (q62 c P s l)/\TrG P.length (q62 c P s l)/\EvS (q62 c P s l)/\(q62 c P s l).n+qP P (q62 c P s l)<=s.n+qP P s/\∃F,(q62 c P s l).E=s.E++F
 | [],s,v,A,w,_=>⟨v,A,w,zq _,[],(zz _).symm⟩
 |z::l,s,v,A,w,⟨⟨i,I,J⟩,G⟩=>by
  obtain⟨C,L, -, -,M, -⟩:=q1H v o I (J.imp id fun h=>⟨h.1,j _ h.2⟩);have y:=qeA (c:=c) (P:=P) w ⟨z.1,z.2,[]⟩;cases e:chM c P s ⟨z.1,z.2,[]⟩ with
  |none=>unfold doM at C;rw[e] at C;exact absurd C (by show(70:Int)≠0;decide)
  |some s'=>
   have hd:=qkn e;have B:=qrG v d hw A e;obtain⟨-,F,H, -⟩:=qsA d e;obtain⟨g1,g2,g3,g4,D,g5⟩:=q63 o j d hw l _ L (by rw[hd];exact B) y G;refine⟨g1,g2,g3,Zc g4 M,F++D,?_⟩;show(q62 c P (doM c P s ⟨z.1,z.2,[]⟩).2 l).E=_;rw[g5,hd,<-zd,<-H]
theorem qmm{lim:Int}{n:Nat}{il:je}(v:GOk c P (q19 c il P))(d:q99 P)(y:c.strong=false)(hw:c.words<=64)(M:1<=P.length)(o:P.length<=16)(H:qP P (q19 c il P)<n)(U:(q55 (rcC P.length) c P [5] lim n (q19 c il P) [] ss0).stop=false)(Q:Rch c P (q19 c il P) g):qk7 (tE g.E):=by
 have h:∀k∈ [(5:Int)],3<=k/\k<=6:=fun k R=>by rw[zf.1 R];decide
 have C:TrG P.length (q19 c il P):=⟨.nil,zW _⟩
 obtain⟨l,S,T⟩:=Q;obtain⟨A,v1,B⟩:=qcd l _ S T;obtain⟨D,J,L,k4, -⟩:=q63 d h y hw A _ v C qfA v1;rw[B] at D J L k4;obtain⟨l2,v2,d2⟩:=ql7 (fo:= [5]) d (qP P g+1) g D (Z3 _);obtain⟨V,W,X,j4,F,Z⟩:=q63 d h y hw l2 _ D J L v2;have j:q62 c P (q19 c il P) (A++l2)=q62 c P g l2:=by rw[q5l,B]
 obtain⟨s',l',G,I⟩:=qkm d h n (q19 c il P) (A++l2) v H ((q5o A l2 _).2 ⟨v1,by rw[B];exact v2⟩) (by rw[j];exact d2) _ [] EqS.refl v;rw[j] at I;have w:=qb1 d h n _ _ _ v H U s' l' G;rw[qqb I X (G.evS qfA)] at w;have hm:=qfx v o;have hel:=V.el;have h0:(q19 c il P).n=0:=rfl;have:=qqd M o W.tr Yu w;rw[Z,q1p] at this;exact this.pre
end
open Go Go.Proofs.YtikpjajangpdjaaGreatDoor.Ord
section
variable{c:Cfg}{ps:List (jg)}{n:Nat}
theorem DQ.zero{m:MS}{il:je}:DQ c ps n (q19 c il ps) ⟨m,ps.map q3c,[],[]⟩ (q19 c il ps) fun _=> []:=by
 have j:∀(u:Nat) x,(ps.map q3c)[u]? =some x->x.at'=none:=fun u x o=>by
  rw[zI] at o;obtain⟨p,_,rfl⟩:=Zb.1 o;rfl
 have no:∀(u:Nat) y b,(ps.map q3c)[u]? =some y->y.at'=some b->False:=fun u y b d hb=>by rw[j u y d] at hb;cases hb
 exact⟨qli.zero j,fun u y b d hb=>(no u y b d hb).elim,rfl,⟨[],(fun _ h=>by cases h),rfl⟩,fun u y b d hb=>(no u y b d hb).elim,fun u y b d hb=>(no u y b d hb).elim,fun u y b d hb=>(no u y b d hb).elim,fun u y b d hb=>(no u y b d hb).elim,fun A B C x y h=>by simp at h⟩
theorem qeC{il:je}{O K:Nat}{lim:Int}{l:jj}(v:CfO c)(A:1<=ps.length)(D:ps.length<=16)(d:∀p∈ps,PrO p)(M:∀p∈ps,p.length<=64)(B:q99 ps)(y:(il.length:Int)=c.words)(X:c.orecs=(O:Int))(hw:q4w il)(T:qG c=0)(Q:c.orecs<c.reads)(R:c.words<c.writes)(G:(K:Int)<c.clock)(W:K<=1000)
  (hv:(q55 (rcC ps.length) c ps [5] lim (qP ps (q19 c il ps)+1) (q19 c il ps) [] ss0).stop=false) (hl:∀t∈l,t<ps.length) (L:l.length<=K):∃g,qdY c il O ps l g:=by
 have S:GOk c ps (q19 c il ps):=qfB T y hw (fun p j=>(d p j).ck) (fun p j=>(d p j).na) v.str;have h:=v.hcw;have F:DOk c ps (q19 c il ps) K:=⟨v.co,v.str,S,B,fun g Z=>qmm S B v.str h.2 A D (Z3 _) hv Z,Q,⟨h.1,R⟩,h.2,G⟩
 obtain⟨g,r,U,V,o⟩:=qci (P:=fun q g r=>DQ c ps ps.length (q19 c il ps) q g r) W v D d M y X hw DQ.zero (fun k q g r t _ H j _=>j.safe F H) (fun k q g r t g' r' hk H j ht J I=>j.step F D Yu Yu H ht d J I) hl L;have hle:(q16 c il O ps l).E.length<=65536:=by
  have a1:=o.he.el;have a2:=V.sl;omega
 have C:=F.h g o.rc;rw[<-o.tr] at C;exact⟨g,U,hle,fun es w=>qeD A D o.he.tr w (by have:=congrArg List.length w;rw[zi] at this;omega) o.ms C,o.he.tr.lb⟩
end
open Go
abbrev q3n(w o:Int):Cfg:=⟨w,o,0,0,0,0,0,16,32,0,0,1000,false⟩
theorem q5j{w o:Int}(hw:1<=w/\w<=12)(ho:1<=o/\o<=12):qG (q3n w o)=0:=
 (cm0 (by unfold okW;dsimp only;omega) (by unfold okH okC nB nW;dsimp only;omega) (by unfold okL;dsimp only;omega) (by unfold okK;dsimp only;omega)).symm
theorem qfY{w o:Int}(hw:1<=w/\w<=12)(d:1<=o/\o<=12):qT (q3n w o)=0:=by
 unfold qT;rw[if_pos (q5j hw d)];rfl
theorem qrE{w o:Int}(hw:1<=w/\w<=12)(d:1<=o/\o<=12):CfO (q3n w o):=
 ⟨⟨by dsimp only;omega,by dsimp only;omega⟩,⟨by dsimp only;omega,by dsimp only;omega⟩,⟨by dsimp only;omega,by dsimp only;omega⟩,rfl,⟨by dsimp only;omega,by dsimp only;omega⟩,qex (q5j hw d) (Int.le_of_eq (qfY hw d).symm) d.1⟩
theorem qt3{w:Int}{O:Nat}{il:je}{ps:List (jg)}{l:jj}(hw:1<=w/\w<=12)(C:1<=(O:Int)/\(O:Int)<=12)(B:(il.length:Int)=w)(h:∀x∈il,0<=x/\x<=3)(H:1<=ps.length/\ps.length<=3)(A:∀p∈ps,q0F p=(0,0)/\p.length<=14/\∀y∈p,y.op≠14/\y.op≠15)(G:l.length<=220)(v:∀t∈l,t<ps.length):
  qoA (q3n w O) il O ps l/\∀lim,(q55 (rcC ps.length) (q3n w O) ps [5] lim (qP ps (q19 (q3n w O) il ps)+1) (q19 (q3n w O) il ps) [] ss0).stop=false->∃g,qdY (q3n w O) il O ps l g:=by
 have o:q4w il:=fun x J=>by have:=h x J;unfold okU;omega
 have d:∀q∈ps,PrO q/\q.length<=64:=fun q hm=>by
  obtain⟨D,h2,F⟩:=A q hm;exact⟨⟨(qbi q).trans D,fun i h=>F i h⟩,Yu⟩
 have j:il≠ []:=fun e=>by rw[e] at B;simp at B;omega
 refine⟨⟨q5j hw C,⟨rfl,rfl,rfl,rfl⟩,qfY hw C,B,j,Yu,o,rfl,Yu,Yu,Yu,fun q hm=>(d q hm).1.ck,fun q hm=>Zc (d q hm).2 Yv,Yu,fun q hm=>(d q hm).1.na,rfl,v⟩,fun lim I=>?_⟩;exact qeC (K:=220) (qrE hw C) H.1 Yu (fun q hm=>(d q hm).1) (fun q hm=>(d q hm).2) (fun q hm i h=>(A q hm).2.2 i h) B rfl o (q5j hw C) (by dsimp only;omega) (by dsimp only;omega) (by dsimp only;omega) Yv I v G
open Go Go.Proofs.YtikpjajangpdjaaGreatDoor.Ord
theorem qmX{A B:List PB}{y:PB}:q3W (A++y::B)=q3W A++(y.D++q3W B):=by simp[q3W]
theorem qiF{W0:World}{l:List PB}{x:PB}(h:x∈l):Ent W0 (q3W l) x.D:=by
 obtain⟨l1,l2,rfl⟩:=ZB h;rw[qmX];exact Ent.right.trans Ent.left
def qr7(ls:List IH)(b:Nat)(i:Nat)(n:Int):Prop:=i<=3->(b:Int)<=n/\n<=b+i*17592186043904/\∀h∈ls.take i,(h.l.length:Int)<=n
theorem qr7.next{ls:List IH}{b i:Nat}{n:Int}{x:IH}(h:qr7 ls b i n)(hb:b<=17592186043904)(o:ls[i]? =some x)(hl:x.l.length<=17592186043904):qr7 ls b (i+1) (IntKind.i64.wrap (n+x.l.length)):=fun hi=>by
 obtain⟨h0,h1,j⟩:=h Yu;rw[q8C Yu Yu];refine⟨Yu,Yu,fun y d=>?_⟩;rw[zZ,o] at d
 rcases zy.1 d with d|d
 ·have:=j y d;omega
 ·rw[zf.1 d];omega
section
variable{W0:World}{own:Own}{la pka:j9}{lc pkc:Nat}{ls:List IH}{pks:je}
theorem qct(m:Int)(F:RdE IH.enc 1 W0 own la ls)(hll:ls.length<=17592186043904)(G:∀h∈ls,h.l.length<=17592186043904)(C:pks.length<=17592186043904):
  jn W0 4 [.slice la ls.length lc, .slice pka pks.length pkc,j5 m] own fun v own'=>∃z:Bool,(v= .bool z/\(z=true->ls.length<=3/\(pks.length:Int)<=m/\∀h∈ls,(h.l.length:Int)<=m))/\Ent W0 own' own:=by
 refine sH [] ?_;refine qK (σ:=Nat×Int) (fun y=> [(7,j5 y.2),(8,j5 y.1)]) (fun _=>own)
  (fun y=>y.1<=ls.length/\qr7 ls pks.length y.1 y.2) (fun y=>ls.length-y.1) (0,(pks.length:Int)) ⟨zv _,fun _=>⟨zW _,Yw,fun _ h=>(by cases h)⟩⟩ (eF) Ent.refl rfl ?_
 rintro⟨i,n⟩ junk ⟨I,o⟩;dsimp only at I o ⊢
 by_cases d:i<ls.length
 ·obtain⟨x,j⟩:∃x,ls[i]? =some x:=⟨_,z6 d⟩
  have D:=G x (zg j);have w:=o.next C j D;obtain⟨xa,xc,xl⟩:=x
  repeat'((try conv=>whnf);first|refine fF ?_|refine fB ?_|refine arw ?_|apply gLd;refine q0l F j rfl ?_|(apply qF;first|refine ixE F j ?_ ?_;(first|rfl|omega)))
  exact⟨(i+1,_),⟨d,w⟩,(by show ls.length-(i+1)<ls.length-i;omega),(eF),Ent.refl⟩
 ·have A:i=ls.length:=Yu;subst A
  by_cases hc:(ls.length:Int)<=3
  ·obtain⟨hn0, -,B⟩:=o Yu
   repeat'((try conv=>whnf);first|refine fH ?_|refine fG ?_|refine fJ ?_)
   all_goals exact⟨decide (n<=m),⟨rfl,fun J=>by
    have hn:n<=m:=of_decide_eq_true J;exact⟨Yu,Yu,fun h H=>by have:=B h (by rw[y0 Yu];exact H);omega⟩⟩,(eC)⟩
  ·repeat'((try conv=>whnf);first|refine fI ?_|refine fG ?_|refine fK ?_)
   all_goals exact⟨false,⟨rfl,fun h=>(by cases h)⟩,(eC)⟩
end
open Go
structure EB where
 vb:Nat
 mb:Nat
 tb:Nat
 ib:Nat
 fb:Nat
 nb:Nat
 lb:Nat
abbrev vB(vb:Nat)(x:SS)(fa:j9)(fc:Nat):jd:=(vb,j8 #[.bool x.racy, .slice fa x.found.length fc,j5 x.runs] 36 (0,0))
abbrev mB(mb:Nat)(x:SS):jd:=(mb,j8 #[.bool x.many] 4 (0,0))
abbrev iB(b:Nat)(n:Int):jd:=(b,j8 #[j5 n] 3 (0,0))
abbrev EB.fin(e:EB):Value:= .func (.func 16) #[] #[jp e.vb,jp e.lb,jp e.mb,jp e.tb]
abbrev EB.vis(e:EB):Value:= .func (.func 19) #[] #[jp e.tb,jp e.ib,jp e.fb,jp e.mb,jp e.vb,jp e.nb]
abbrev EB.F(e:EB)(N:Nat)(lim:Int)(foa:j9)(fol foc:Nat):Own:= [iB e.tb N,(e.ib,j8 #[e.vis] 62 (0,0)),(e.fb,j8 #[.slice foa fol foc] 23 (0,0)),(e.nb,j8 #[e.fin] 62 (0,0)),iB e.lb lim]
section
variable{W0:World}{Kp K Y:Own}{g:GP}{c:Cfg}{ps:jk}{P:List (jg)}{s:GS}{N:Nat}{lim:Int}{x:SS}{e:EB}
theorem qeJ{v m:jd}{F G q:Own}:Ent W0 (v::(m::(F++(G++q)))) (G++(v::(m::(F++q)))):=qu []
theorem qm3{b v m:jd}{D R F G q:Own}:Ent W0 (D++(b::(R++(G++(v::(m::(F++q))))))) (v::(m::(F++(G++(D++q))))):=qu (b::R)
theorem qm4{b v m:jd}{R F G q:Own}:Ent W0 (b::(R++(G++(v::(m::(F++q)))))) (v::(m::(F++(G++q)))):=qu (b::R)
theorem qm5{b v m:jd}{R F G q:Own}:Ent W0 (R++(G++(b::(v::(m::(F++q)))))) (v::(m::(F++(G++q)))):=qu (b::R)
theorem qm6{b v m:jd}{D R F G q:Own}:Ent W0 (D++(R++(G++(b::(v::(m::(F++q))))))) (v::(m::(F++(G++(D++q))))):=qu (b::R)
theorem qeK{b v m:jd}{F G q:Own}:Ent W0 (b::(v::(m::(F++(G++q))))) (G++(b::(v::(m::(F++q))))):=qu []
theorem qdP(W:q0y W0 0 Ord.noneV)(h:g.ok W0 Kp ps s)(d:g.ev W0 Y)(R:GOk c P s)(X:s.n<=5000)(C:P.length<=16)(S:x.found= []/\x.racy=false)(M:x.runs<=100000){la:j9}{l:List ChM}{lc:Nat}(V:RdE q9S 3 W0 K la l)(hll:l.length<=100000)
  {foa:j9} {fol foc:Nat} (q:Own) [ek2:qr q K]:
  jn W0 16 [jp g.gb, .slice la l.length lc,jp e.vb,jp e.lb,jp e.mb,jp e.tb]
   (vB e.vb x none 0::(mB e.mb x::(e.F N lim foa fol foc++(g.O c ps.length s++q)))) fun _ own'=>∃y:j9×Nat×Own,
    (RdE q9S 3 W0 y.2.2 y.1 (qeU (rcC N) lim s l x).found/\((qeU (rcC N) lim s l x).racy=false->y.1=none/\y.2.1=0))/\Ent W0 own' (vB e.vb (qeU (rcC N) lim s l x) y.1 y.2.1::(mB e.mb (qeU (rcC N) lim s l x)::(e.F N lim foa fol foc++(g.O c ps.length s++(y.2.2++q))))):=by
 refine sH [3,1,6,7,9,11,13,15,17,20,22,23,0,1,9,1,6,7,11,13,15,17,20,22,23,0,20,6,7,11,13,15,17,22,23,0,20,1,6,7,9,11,13,15,17,22,23,0,9,6,7,11,13,15,17,22,23,0] ?_;obtain⟨runs,racy,many,found⟩:=x;dsimp only at S M;obtain⟨rfl,rfl⟩:=S;dsimp only[vB,mB];have Q:=R.sz X C;unfold qeU;dsimp only
 by_cases o:(runs:Int)=lim
 ·rw[if_pos o]
  repeat'((try conv=>whnf);first|refine fF ?_|refine fA ?_|refine fN ?_)
  all_goals exact⟨(none,0,[]),⟨RdE.nil,fun _=>⟨rfl,rfl⟩⟩,(eC)⟩
 ·rw[if_neg o];have j:=fun q=>qnx (c:=c) rfl h d Q q
  have J:=fun(own':Own) [qr own' K]=>q2W (cap:=lc) (V.up (own:=own')) Yu
  have F:rcC N s.E=decide (0<=(Ord.frR (s.E.map evH) N).2.1):=qcb;have A:∀(r:RG) (own':Own) (_:r.at W0 s own'),jo W0 11 [.slice r.ea r.L.length r.ec,j5 N] own' (.tuple #[.agg (Ord.encRc (Ord.frR (s.E.map evH) N)).toArray,j5 (q4n r.L N).2]):=fun r own' w=>by
   have:=Ord.sp_trun (cap:=r.ec) W w.e (fun y H=>⟨(w.ev y H).1,(w.ev y H).2,by have:=(Q.ev y.m (by rw[<-w.em];exact Zi H)).1;exact Zc this Yv,by have:=(Q.ev y.m (by rw[<-w.em];exact Zi H)).2;exact Zc this Yv⟩) (by rw[w.el];have:=R.el;omega) N;rw[(qsV w.em).1] at this;exact this
  generalize Ord.frR (s.E.map evH) N=U at*;obtain⟨f1,f2,f3⟩:=U;dsimp only at F A;rw[F];have hst:(⟨runs+1,false,many,[]⟩:SS).runs=runs+1:=rfl
  by_cases G:0<=f2
  ·have L:f2>=0:=G;simp only[decide_eq_true G,if_true]
   repeat'((try conv=>whnf);first|refine fF ?_|refine fG ?_|refine qf fun T I=>?_|(apply qe;first|refine ql (j _) qeJ ?_ ?_ fun r v d=>?_;exact rfl;exact rfl;obtain⟨rfl,D⟩:=d|refine ql (j _) qeK ?_ ?_ fun r v d=>?_;exact rfl;exact rfl;obtain⟨rfl,D⟩:=d|refine qi (J _) fun y v d=>?_;obtain⟨a1,c1,D1⟩:=y;obtain⟨rfl,B⟩:=d;dsimp only at B)|apply qC;refine qj (fun ex=>A r _ (D.at (Ent.app Ent.left))) ?_|refine fB ?_|refine fO ?_|refine fA ?_|refine fN ?_|refine fM ?_|refine q1a.mk ?_ ?_)
   all_goals exact⟨(a1,c1,D1),⟨B.rd,fun h=>by cases h⟩,by first|exact qm3|exact qm6⟩
  ·have L:¬f2>=0:=G;simp only[decide_eq_false G,zL,if_false]
   repeat'((try conv=>whnf);first|refine fG ?_|refine qf fun T I=>?_|(apply qe;first|refine ql (j _) qeJ ?_ ?_ fun r v d=>?_;exact rfl;exact rfl;obtain⟨rfl,D⟩:=d|refine ql (j _) qeK ?_ ?_ fun r v d=>?_;exact rfl;exact rfl;obtain⟨rfl,D⟩:=d)|apply qC;refine qj (fun ex=>A r _ (D.at (Ent.app Ent.left))) ?_|refine fB ?_|refine fO ?_|refine fA ?_|refine fN ?_|refine fM ?_|refine q1a.mk ?_ ?_)
   all_goals exact⟨(none,0,[]),⟨RdE.nil,fun _=>⟨rfl,rfl⟩⟩,by first|exact qm4|exact qm5⟩
end
open Go
theorem qc0:okF Tryz.prog 19=true:=by kernel_rfl
theorem qq3:okF Tryz.prog 16=true:=by kernel_rfl
section
variable{W0:World}
theorem qkr{v m:jd}{F G q:Own}:Ent W0 (v::(m::(F++(G++q)))) (G++(v::(m::(F++q)))):=qu []
theorem qmc{b v m:jd}{F G q:Own}:Ent W0 (b::(G++(v::(m::(F++q))))) (v::(m::(F++(G++q)))):=qu [b]
theorem qpm{b:jd}{G Q:Own}:Ent W0 (b::(G++Q)) (G++Q):=Ent.drop
theorem qpn{d v m:jd}{B D1 A F q:Own}:Ent W0 (d::(B++(D1++(A++(v::(m::(F++q))))))) (v::(m::(F++(B++(D1++(A++(d::q))))))):=qu []
theorem qeL{l:jd}{v m d:jd}{F B y D1 A G q:Own}(h:∀r,Ent W0 (B++(A++r)) (G++r)):Ent W0 (l::(v::(m::(F++(B++(y++(D1++(A++(d::q))))))))) (v::(m::(F++(G++(y++q))))):=
 ((qu ([l,d]++D1) fun a=>by simp only[q1s,q3R,q5B];omega:Ent W0 _ (B++(A++(v::(m::(F++(y++q))))))).trans (h _)).trans (qu [])
theorem qks{v m:jd}{F G y q:Own}:Ent W0 (v::(m::(F++(G++(y++q))))) (v::(m::(F++(G++q)))):=qu y
theorem qkt{d v m:jd}{Dc B D1 A F q:Own}:Ent W0 (Dc++(d::(B++(D1++(A++(v::(m::(F++q)))))))) (v::(m::(F++(B++([]++(Dc++(D1++(A++q)))))))):=qu [d]
theorem qpo{v m:jd}{F B R:Own}:Ent W0 (v::(m::(F++(B++R)))) (B++(v::(m::(F++R)))):=qu []
theorem qpp{c v m:jd}{F B R:Own}:Ent W0 (c::(v::(m::(F++(B++R))))) (B++(c::(v::(m::(F++R))))):=qu []
theorem qpq{c:jd}{N A Q:Own}:Ent W0 (c::(N++(A++Q))) (N++(c::(A++Q))):=qu []
theorem qm9{c:jd}{N A Q:Own}:Ent W0 (N++(A++(c::Q))) (N++(c::(A++Q))):=qu []
theorem qma{l c v m:jd}{d N A F R:Own}:Ent W0 (d++(l::(N++(c::(A++(v::(m::(F++R)))))))) (v::(m::(F++(N++(d++(A++(l::(c::R)))))))):=qu []
theorem qmb{l c v m:jd}{d N A B F y j R:Own}(h:∀r,Ent W0 (N++(A++r)) (B++r)):Ent W0 (v::(m::(F++(N++(y++(d++(A++(l::(c::(j++R)))))))))) (v::(m::(F++(B++(y++R))))):=
 ((qu ([l,c]++(d++j)) fun a=>by simp only[q1s,q3R,q5B];omega:Ent W0 _ (N++(A++(v::(m::(F++(y++R))))))).trans (h _)).trans (qu [])
theorem qah{v m:jd}{F B y Dc D1 A G q:Own}(h:∀r,Ent W0 (B++(A++r)) (G++r)):Ent W0 (v::(m::(F++(B++(y++(Dc++(D1++(A++q)))))))) (v::(m::(F++(G++(y++q))))):=
 ((qu (Dc++D1) fun a=>by simp only[q1s,q3R];omega:Ent W0 _ (B++(A++(v::(m::(F++(y++q))))))).trans (h _)).trans (qu [])
end
theorem qfo{T:TypeId}{b:Nat}{w:Int}:qo qv T 1 (some ⟨b,0,none⟩) 1 [w] [(b,j8 #[j5 w] T)]:=q7K (l:= [w]) fun _ _=>rfl
theorem qrz{α:Type}{enc:α->jf}{sz:Nat}{W0:World}{own own':Own}{l:List α}{a:j9}{T:TypeId}{bytes cap m n:Nat}{zs:jf}{D:Own}{C:Own->Own}{a2:j9}{l2:List α}{K:Value->Own->Prop}(w:qo enc T sz a cap l D)(F:RdE enc sz W0 own' a2 l2) [mm:AtC D own C] [me:qr own own'](hm:m=l2.length)(A:n=l.length)
  (G:zs.length=sz) (B:0<sz) (v:∀x∈l2,(enc x).all q2G=true) (hb:(l.length+l2.length)*bytes<=140737488355328)
  (y:∀o d j,qo enc T sz o d (l++l2) j->K (.slice o (l++l2).length d) (C j)):qb3 W0 own T sz bytes zs a n cap a2 m K:=by
 subst A;refine qhM w F hm G B v (fun _=>hb) fun o d j h=>?_
 rw[<-z8];exact y o d j h
theorem qsY{l:je}:∀x∈l,(qv x).all q2G=true:=fun _ _=>rfl
section
variable{α:Type}{enc:α->jf}{sz:Nat}{W0:World}{own own':Own}{a:j9}{l:List α}
theorem qry{T:TypeId}{bytes cap m:Nat}{zs:jf}{a2:j9}{l2:List α}{K:Value->Own->Prop}(D:RdE enc sz W0 own a l)(hcap:cap<l.length+l2.length)(F:RdE enc sz W0 own a2 l2)(hm:m=l2.length)
  (hz:zs.length=sz) (hs:0<sz) (W:∀x∈l2,(enc x).all q2G=true) (hb:(l.length+l2.length)*bytes<=140737488355328)
  (Z:∀M y L,qo enc T sz M y (l++l2) L->K (.slice M (l.length+l2.length) y) (L++own)):qb3 W0 own T sz bytes zs a l.length cap a2 m K:=by
 subst hm;have holds:∀{a:j9} {l:List α},RdE enc sz W0 own a l->Kn W0 own (Holds a (l.map enc).flatten):=fun{a l} h w hw ad o j v U=>by
  have I:=(z7.1 U).1;rw[qZ l h.wid] at I;have A:j/sz<l.length:=Y8 (by rwa[Ym]);have hj2:j % sz<sz:=ye _ hs;have d:l[j/sz]? =some l[j/sz]:=z6 A;have hwd:=h.wid _ (zg d);have B:(enc l[j/sz])[j % sz]? =some (enc l[j/sz])[j % sz]:=z6 Yu;have he:j/sz*sz+j % sz=j:=Nat.div_add_mod' j sz;have S:=q2l l h.wid d B;rw[he,U] at S;have X:=h.isS (fun e=>by subst e;simp at A);rw[X] at o;have o:=Option.some.inj o;rw[<-o,qM];have R:=h.cell d B w hw;have V:ao a+j/sz*sz+j % sz=ao a+j:=Yu;rw[V] at R;rw[R,S]
 have C:∀x∈l++l2,(enc x).length=sz:=fun x h=>(zy.1 h).elim (D.wid x) (F.wid x)
 refine⟨(l.map enc).flatten,(l2.map enc).flatten,qZ l D.wid,qZ l2 F.wid,fun e=>?_,fun e=>?_,fun v J=>?_,holds D,holds F,fun hfit=>?_,fun hgr=>⟨hb,fun b Q hb' G=>?_⟩⟩
 ·cases l with
  |nil=>rfl
  |cons x r=>have:=D.isS Yw;rw[e] at this;cases this
 ·cases l2 with
  |nil=>rfl
  |cons x r=>have:=F.isS Yw;rw[e] at this;cases this
 ·obtain⟨cs,H,J⟩:=List.mem_flatten.1 J;obtain⟨x,d,rfl⟩:=zM.1 H;exact zX.1 (W x d) v J
 ·omega
 ·refine⟨_,Ent.refl,?_⟩;refine Z (some ⟨b,0,none⟩) Q [_] ⟨C, .inr ⟨b,(List.replicate (Q-(l.length+l2.length)) zs).flatten,rfl,?_,?_,by simpa using G⟩⟩
  ·rw[zB,zY]
  ·simp only[z8,Yk,ZU,yW,hz];rw[<-yD]
   congr 1
   omega
theorem qoH{T T2:TypeId}{bytes cap A:Nat}{zs:jf}{ys:jh}{K:Value->Own->Prop}(x:α)(C:RdE enc sz W0 own' a l)(h:cap=l.length) [I:qr own own'] [H:qy A (j8 ys T2) own](j:ys.toList=enc x)
  (G:zs.length=sz) (F:0<sz) (hw:(enc x).length=sz) (B:(enc x).all q2G=true) (hb:(l.length+1)*bytes<=140737488355328)
  (D:∀w d v,qo enc T sz w d (l++ [x]) v->K (.slice w (l.length+1) d) (v++own)):qb3 W0 own T sz bytes zs a l.length cap (some ⟨A,0,none⟩) 1 K:=
 qry (l2:= [x]) (C.ent (I.h W0)) (by rw[h];simp) (q1V H.h (fun y j=>by rw[zf.1 j];exact hw) (by simpa using j)) rfl G F (fun y j=>by rw[zf.1 j];exact B) hb D
end
section
variable{W0:World}{Kp Kf:Own}{c:Cfg}{ps:jk}{P:List (jg)}{N:Nat}{lim:Int}{e:EB}{fo:je}{foa:j9}{foc:Nat}
abbrev qsy(W0:World)(c:Cfg)(d:Nat)(N:Nat)(lim:Int)(e:EB)(foa:j9)(fol foc:Nat)(g:GP)(s:GS)(q:Own)(R:SS)(own':Own):Prop:=
 ∃y:j9×Nat×Own,(RdE q9S 3 W0 y.2.2 y.1 R.found/\(R.racy=false->y.1=none/\y.2.1=0))/\Ent W0 own' (vB e.vb R y.1 y.2.1::(mB e.mb R::(e.F N lim foa fol foc++(g.O c d s++(y.2.2++q)))))
theorem qcx(hF:qz W0)(hN:q0y W0 0 Ord.noneV)(ay:q99 P)(hP:ps.map PH.p=P)(U:P.length<=16)(bz:P.length=N)(bE:∀k∈fo,3<=k/\k<=6)(bU:fo.length<=4)(bF:lim<=100000)(bu:RdE qv 1 W0 Kf foa fo):
  ∀(n:Nat) (s:GS) (l:List ChM) (x:SS) (g:GP) (Y:Own) (la:j9) (lc:Nat) (K q:Own) (_:g.ok W0 Kp ps s) (_:g.ev W0 Y) (_:GOk c P s) (_:qP P s<n) (_:s.n+qP P s<=1024) (_:l.length<=s.n) (_:RdE q9S 3 W0 K la l) (_:x.stop=false) (_:x.found= []) (_:(x.runs:Int)<=lim) (_:qr q Kp) (_:qr q K) (_:qr q Kf),
   jn W0 19 [jp g.gb, .slice la l.length lc,jp e.tb,jp e.ib,jp e.fb,jp e.mb,jp e.vb,jp e.nb]
    (vB e.vb x none 0::(mB e.mb x::(e.F N lim foa fo.length foc++(g.O c ps.length s++q)))) fun _ own'=>qsy W0 c ps.length N lim e foa fo.length foc g s q (q55 (rcC N) c P fo lim n s l x) own'
 |0,_,_,_,_,_,_,_,_,_,_,_,_,hm,_,_,_,_,_,_,_,_,_=>absurd hm Yu
 |n+1,s,l,x,g,Y,la,lc,K,q,h,G,hG,hm,hsn,hl,hL,hx,bT,cj,i1,i2,i3=>by
  have ih:=qcx hF hN ay hP U bz bE bU bF bu n;refine sH [3,7,9,11,13,1,6,15,17,20,21,24,0,1,15,17,1,6,20,21,24,0,20,6,21,24,0,20,1,6,15,17,21,24,0,15,17,6,21,24,0,5,7,9,11,1,3,14,16,18,0,14,1,3,16,18,0,16,3,18,0] ?_;have bO:s.T.length=N:=hG.tl.trans bz;have hz:=hG.sz Yu U;have bV:=fun(I:SS) (h1:I.found= []/\I.racy=false) (h2:I.runs<=100000)=>qdP (N:=N) (lim:=lim) (e:=e) (foa:=foa) (fol:=fo.length) (foc:=foc) hN h G hG Yu U h1 h2 (lc:=lc) hL Yu q
  have bZ:=fun(Q:Own) [qr Q Kp] (t:Nat)=>qjk (c:=c) h hG hP t Q
  have bQ:=fun(Q:Own)=>q9t (c:=c) h G hz Q
  have D:=qlf (rcC N) c P fo lim n s l x;rw[bO] at D;generalize q55 (rcC N) c P fo lim (n+1) s l x=R at*
  repeat'((try conv=>whnf);first|refine fA ?_)
  refine qK (σ:=Nat×Bool×SS) (fun y=> [(23,j5 y.1),(10, .bool y.2.1)]) (fun y=>vB e.vb y.2.2 none 0::(mB e.mb y.2.2::(e.F N lim foa fo.length foc++(g.O c ps.length s++q))))
   (fun y=>y.1<=N/\y.2.2.stop=false/\y.2.2.found= []/\(y.2.2.runs:Int)<=lim/\(y.2.1=true->y.2.2=x/\∀u,u<y.1->dnB s u=true)/\(y.2.1=false->q2E s=false)/\(List.range N).foldl (q6N (rcC N) c P fo lim n s l) x=((List.range N).drop y.1).foldl (q6N (rcC N) c P fo lim n s l) y.2.2)
   (fun y=>N-y.1) (0,true,x) ⟨zv _,hx,bT,cj,fun _=>⟨rfl,fun u hu=>absurd hu Yu⟩,fun h=>(by cases h),rfl⟩ (eF) Ent.refl rfl ?_
  rintro⟨t,dn,I⟩ junk ⟨ht,H,A,F,aq,aF,d⟩;dsimp only at ht H A F aq aF d ⊢
  by_cases aL:t<N
  ·rw[qdd aL,y9] at d;obtain⟨hx1r,hx1m⟩:=q4G H;have X:=fun(Q:Own) [qr Q Kp]=>bZ Q t
   cases hd:dnB s t with
   |true=>
    have bY:=(q21 hG).2 hd;rw[bY] at X;have cm:q6N (rcC N) c P fo lim n s l I t=I:=by unfold q6N;rw[if_neg (by rw[H];simp),if_pos hd]
    rw[cm] at d
    repeat'((try conv=>whnf);first|refine q3k ?_ ?_;exact rfl|apply q2A;exact rfl;omega|(apply qe;first|refine q2k (X _) qkr ?_ ?_ ?_;exact rfl;exact rfl)|refine ari ?_ ?_;omega|refine fO ?_|refine fM ?_|refine qf fun bk aE=>?_)
    all_goals exact⟨(t+1,dn,I),⟨aL,H,A,F,fun h2=>⟨(aq h2).1,fun u hu=>by by_cases cp:u<t;exact(aq h2).2 u cp;rw[show u=t by omega];exact hd⟩,aF,d⟩,(by show N-(t+1)<N-t;omega),(eF),qmc⟩
   |false=>
    obtain⟨i,hi⟩:=qi3 hG hd;rw[hi] at X;have aZ:q2E s=false:=q8d Yu hd;rw[if_neg (by rw[aZ];simp)] at D;clear aq aF;obtain⟨a1,a2,a3,a4,a5⟩:=q5t (t:=t) ay 64 s l hG;have br:=qoE (c:=c) ay t 64 s l hG hl;have aN:=fun(g1:GP) (h1:g1.ok W0 Kp ps s) (h2:g1.ev W0 g.X) (Q:Own) [qr Q Kp] [qr Q K]=>qdm (c:=c) hF h1 h2 hG ay hP Yu t (lc:=lc) hL Yu Q
    have aA:q6N (rcC N) c P fo lim n s l I t=if dnB (q0X c P t 64 s l).1 t then q55 (rcC N) c P fo lim n (q0X c P t 64 s l).1 (q0X c P t 64 s l).2 I else(q2B fo (nxM P (q0X c P t 64 s l).1 t)).foldl (q6t (rcC N) c P fo lim n (q0X c P t 64 s l).1 (q0X c P t 64 s l).2 t) I:=by
     conv=>lhs;unfold q6N
     rw[if_neg (by rw[H];simp),if_neg (by rw[hd];simp)]
    rw[aA] at d;have bG:dnB (q0X c P t 64 s l).1 t=true->qP P (q0X c P t 64 s l).1<n:=fun aU=>by
     rcases a4 with a4|a4
     ·rw[a4] at aU;rw[hd] at aU;cases aU
     ·omega
    have bX:qP P (q0X c P t 64 s l).1<=qP P s:=by
     rcases a4 with a4|a4
     ·rw[a4];exact zq _
     ·omega
    clear aA a3 a4 a5;generalize q0X c P t 64 s l=av at*;obtain⟨s2,l2⟩:=av;dsimp only at a1 a2 br aN d bG bX;have bH:=fun(g1:GP) (h1:g1.ok W0 Kp ps s2) (Q:Own) [qr Q Kp]=>qjk (c:=c) h1 a1 hP t Q
    have hiv:(some i:Option Ins).isSome=true:=rfl
    --the copy,cq local instructions,cq next instruction
    repeat'((try conv=>whnf);first|apply q2A;exact rfl;omega|refine qf fun b12 hb12=>?_;apply Stop.h|(apply qe;first|refine q2k (X _) qkr ?_ ?_ ?_;exact rfl;exact rfl)|refine fO ?_)
    refine Stop.mk ?_
    repeat'((try conv=>whnf);first|refine fD ?_|(apply qe;first|refine ql (bQ _) qpm ?_ ?_ fun g1 v G=>?_;exact rfl;exact rfl;apply Stop.h)|refine fM ?_)
    obtain⟨rfl,bI,bD⟩:=G;refine Stop.mk ?_
    repeat'((try conv=>whnf);first|(apply qe;first|refine ql (aN g1 bI bD _) Ent.refl ?_ ?_ fun y v G=>?_;exact rfl;exact rfl;apply Stop.h))
    obtain⟨g2,ba,bc,D1⟩:=y;obtain⟨rfl,Z,W,aR,aC⟩:=G;dsimp only at Z W aR aC ⊢;rw[<-aR];have C:∀r,Ent W0 (g2.O c ps.length s2++(g.A c ps.length s++r)) (g.O c ps.length s++r):=fun r=>GP.back W.2
    have J:=fun(Q:Own) [qr Q Kp]=>bH g2 Z Q
    refine Stop.mk ?_;cases aj:dnB s2 t with
    |true=>
     rw[if_pos aj] at d;rw[(q21 a1).2 aj] at J;have bh:=fun(Q:Own) (j1:qr Q Kp) (j2:qr Q D1) (j3:qr Q Kf)=>ih s2 l2 I g2 g.X ba bc D1 Q Z W a1 (bG aj) Yu br aC.rd H A F j1 j2 j3
     have aK:=qcM (rc:=rcC N) (c:=c) (P:=P) (fo:=fo) (n:=n) (s:=s2) (l:=l2) H F;have aG:=q9P (rc:=rcC N) (c:=c) (P:=P) (fo:=fo) (lim:=lim) (n:=n) (s:=s2) (l:=l2) H A;generalize q55 (rcC N) c P fo lim n s2 l2 I=R3 at*;obtain⟨M,xc,xm,xf⟩:=R3;dsimp only at aK aG
     repeat'((try conv=>whnf);first|refine q3k ?_ ?_;exact rfl|refine q2f.mk ⟨qc0,?_⟩|(apply qe;first|refine q2k (J _) Ent.refl ?_ ?_ ?_;exact rfl;exact rfl|refine ql (bh _ Yx Yx Yx) qpn ?_ ?_ fun y v G=>?_;exact rfl;exact rfl;apply Stop.h)|refine fO ?_|refine fA ?_|refine fM ?_|refine qf fun bk aE=>?_)
     obtain⟨aB,S⟩:=G;obtain⟨fa,af,Fy⟩:=y;dsimp only at aB S ⊢;refine Stop.mk ?_;cases xm with
     |true=>
      rw[q38 (fun x a hs=>q4c x a hs) _ _ (show(⟨M,xc,true,xf⟩:SS).stop=true by cases xc <;>rfl)] at d;have hR:=D.trans d;subst hR;cases xc
      all_goals
       repeat'((try conv=>whnf);first|refine fI ?_|refine q3k ?_ ?_;exact rfl|refine fD ?_|refine q1y 1 ?_|refine fA ?_|refine qf fun bk aE=>?_)
       all_goals exact⟨(fa,af,Fy),⟨aB,S⟩,qeL C⟩
     |false=>
      cases xc with
      |true=>
       rw[q38 (fun x a hs=>q4c x a hs) _ _ (show(⟨M,true,false,xf⟩:SS).stop=true from rfl)] at d;have hR:=D.trans d;subst hR
       repeat'((try conv=>whnf);first|refine q0i ?_ ?_;exact rfl|refine fI ?_|refine q3k ?_ ?_;exact rfl|refine fD ?_|refine q1y 1 ?_|refine fA ?_|refine qf fun bk aE=>?_)
       all_goals exact⟨(fa,af,Fy),⟨aB,S⟩,qeL C⟩
      |false=>
       obtain rfl:=aG rfl;obtain⟨rfl,rfl⟩:=S rfl
       repeat'((try conv=>whnf);first|refine q0i ?_ ?_;exact rfl|refine fI ?_|refine fD ?_|refine q1y 1 ?_|refine ari ?_ ?_;omega|refine fA ?_|refine qf fun bk aE=>?_)
       all_goals exact⟨(t+1,false,⟨M,false,false,[]⟩),⟨aL,rfl,rfl,aK,fun h=>(by cases h),fun _=>aZ,d⟩,(by show N-(t+1)<N-t;omega),(eF),(qeL C).trans qks⟩
    |false=>
     obtain⟨i2,aY⟩:=qi3 a1 aj;rw[if_neg (by rw[aj];simp),aY] at d;rw[aY] at J
     by_cases h7:i2.op=7
     focus
      have cg:(nxV (some i2)).op=7:=h7;have V: [(0:Int)]++fo=q2B fo (some i2):=by show [(0:Int)]++fo=if i2.op=7 then 0::fo else [0];rw[if_pos h7];rfl
      rw[<-V] at d
      repeat'((try conv=>whnf);first|refine fD ?_|apply q2A;exact rfl;omega|refine qf fun ae bB=>?_;dsimp only[List.set]|refine qrz (qfo (w:=0)) bu ?_ ?_ ?_ ?_ qsY ?_ fun ca cc Dc bN=>?_;exact rfl;exact rfl;exact rfl;omega;simp only[zm,zE];omega|(apply qe;first|refine q2k (J _) Ent.refl ?_ ?_ ?_;exact rfl;exact rfl)|refine fO ?_|refine fA ?_|refine fM ?_)
      have aT:=bN.rd (W0:=W0);have bC:([(0:Int)]++fo).length<=5:=by simp;omega
      generalize [(0:Int)]++fo=cs at*;refine qK (σ:=Nat×SS×(j9×Nat×Own)) (fun y=> [(19,j5 y.1)]) (fun y=>vB e.vb y.2.1 y.2.2.1 y.2.2.2.1::(mB e.mb y.2.1::(e.F N lim foa fo.length foc++(g2.O c ps.length s2++(y.2.2.2.2++(Dc++(D1++(g.A c ps.length s++q))))))))
       (fun y=>y.1<=cs.length/\(y.2.1.stop=false->y.2.1.found= []/\y.2.2.1=none/\y.2.2.2.1=0)/\(y.2.1.runs:Int)<=lim/\(RdE q9S 3 W0 y.2.2.2.2 y.2.2.1 y.2.1.found/\(y.2.1.racy=false->y.2.2.1=none/\y.2.2.2.1=0))/\cs.foldl (q6t (rcC N) c P fo lim n s2 l2 t) I=(cs.drop y.1).foldl (q6t (rcC N) c P fo lim n s2 l2 t) y.2.1)
       (fun y=>cs.length-y.1) (0,I,none,0,[]) ⟨zv _,fun _=>⟨A,rfl,rfl⟩,F,⟨by rw[A];exact RdE.nil,fun _=>⟨rfl,rfl⟩⟩,rfl⟩ (eF) ?_ rfl ?_
      ·exact qkt (Dc:=Dc)
     rotate_left
     focus
      have cg:¬(nxV (some i2)).op=7:=h7;have V: [(0:Int)]=q2B fo (some i2):=by show [(0:Int)]=if i2.op=7 then 0::fo else [0];rw[if_neg h7]
      rw[<-V] at d
      repeat'((try conv=>whnf);first|refine fD ?_|apply q25;exact rfl;omega|refine qf fun ae bB=>?_;dsimp only[List.set]|(apply qe;first|refine q2k (J _) Ent.refl ?_ ?_ ?_;exact rfl;exact rfl)|refine fO ?_|refine fA ?_|refine fM ?_)
      have aT:=(qfo (T:=3) (b:=ae) (w:=0)).rd (W0:=W0);have bC:([(0:Int)]).length<=5:=Yw;generalize aP: [(0:Int)]=cs at*;have hcl1:cs.length=1:=by rw[<-aP];rfl
      refine qK (σ:=Nat×SS×(j9×Nat×Own)) (fun y=> [(19,j5 y.1)]) (fun y=>vB e.vb y.2.1 y.2.2.1 y.2.2.2.1::(mB e.mb y.2.1::(e.F N lim foa fo.length foc++(g2.O c ps.length s2++(y.2.2.2.2++([(ae,j8 #[j5 0] 3 (0,0))]++(D1++(g.A c ps.length s++q))))))))
       (fun y=>y.1<=cs.length/\(y.2.1.stop=false->y.2.1.found= []/\y.2.2.1=none/\y.2.2.2.1=0)/\(y.2.1.runs:Int)<=lim/\(RdE q9S 3 W0 y.2.2.2.2 y.2.2.1 y.2.1.found/\(y.2.1.racy=false->y.2.2.1=none/\y.2.2.2.1=0))/\cs.foldl (q6t (rcC N) c P fo lim n s2 l2 t) I=(cs.drop y.1).foldl (q6t (rcC N) c P fo lim n s2 l2 t) y.2.1)
       (fun y=>cs.length-y.1) (0,I,none,0,[]) ⟨zv _,fun _=>⟨A,rfl,rfl⟩,F,⟨by rw[A];exact RdE.nil,fun _=>⟨rfl,rfl⟩⟩,rfl⟩ (eF) ?_ rfl ?_
      ·exact qkt (Dc:= [(ae,j8 #[j5 0] 3 (0,0))])
      generalize [(ae,j8 #[j5 0] 3 (0,0))]=Dc at*;clear aP
     all_goals
      rintro⟨k,x2,fa,af,Fy⟩ junk2 ⟨hk,bm,L,aH,B⟩;dsimp only at hk bm L aH B ⊢;obtain⟨M,xc,xm,xf⟩:=x2;dsimp only at L aH ⊢
      by_cases aX:k<cs.length/\xc=false/\xm=false
      ·obtain⟨aJ,rfl,rfl⟩:=aX;obtain⟨rfl,rfl,rfl⟩:=bm rfl;obtain⟨kc,aI⟩:∃kc,cs[k]? =some kc:=⟨_,z6 aJ⟩
       rw[q1Z aI,y9,show q6t (rcC N) c P fo lim n s2 l2 t ⟨M,false,false,[]⟩ kc=q55 (rcC N) c P fo lim n (doM c P s2 ⟨t,kc,[]⟩).2 (l2++ [⟨t,kc,[]⟩]) ⟨M,false,false,[]⟩ from rfl] at B;have bP:kc=0\/(i2.op=7/\3<=kc/\kc<=6):=by
        rcases qew bE (V ▸ zg aI) with hh|⟨j,hj,bL,hh⟩
        ·exact .inl hh
        ·obtain rfl:=Option.some.inj hj;exact .inr ⟨bL,hh⟩
       obtain⟨-,m1,m2,m3,m4,m5⟩:=q1H a1 ay aY bP;have aO:=fun(Q:Own)=>q9t (c:=c) Z W (a1.sz Yu U) Q
       have aV:=fun(g3:GP) (h3:g3.ok W0 Kp ps s2) (h4:g3.ev W0 g2.X) (Q:Own) [qr Q Kp]=>ql2 (K:=Kp) (c:=c) hF rfl h3 h4 a1 hP Yu t kc (aa:=none) (ad:= []) (ac:=0) RdE.nil (zq _) (fun _ h=>(by cases h)) Q
       have hlen:(l2++ [(⟨t,kc,[]⟩:ChM)]).length=l2.length+1:=Yw;have bS:=fun own'=>qnm (W0:=W0) (own:=own') (a:=ba) aC.le
       generalize doM c P s2 ⟨t,kc,[]⟩=z at*;obtain⟨zc,s3⟩:=z;dsimp only at m1 m2 m3 m4 m5 aV B;have bh:∀(g4:GP) (h4:g4.ok W0 Kp ps s3) (h5:g4.ev W0 g2.X) (aM:j9) (bo:Nat) (D5:Own) (bw:RdE q9S 3 W0 D5 aM (l2++ [⟨t,kc,[]⟩])) (Q:Own) (_:qr Q Kp) (_:qr Q D5) (_:qr Q Kf),jn W0 19 [jp g4.gb, .slice aM (l2.length+1) bo,jp e.tb,jp e.ib,jp e.fb,jp e.mb,jp e.vb,jp e.nb]
         (vB e.vb ⟨M,false,false,[]⟩ none 0::(mB e.mb ⟨M,false,false,[]⟩::(e.F N lim foa fo.length foc++(g4.O c ps.length s3++Q)))) fun _ own'=>qsy W0 c ps.length N lim e foa fo.length foc g4 s3 Q (q55 (rcC N) c P fo lim n s3 (l2++ [⟨t,kc,[]⟩]) ⟨M,false,false,[]⟩) own':=fun g4 h4 h5 aM bo D5 bw Q j1 j2 j3=>by
        have:=ih s3 (l2++ [⟨t,kc,[]⟩]) ⟨M,false,false,[]⟩ g4 g2.X aM bo D5 Q h4 h5 m1 Yu Yu (by rw[hlen];omega) bw rfl rfl L j1 j2 j3;rw[hlen] at this;exact this
       have aK:=qcM (rc:=rcC N) (c:=c) (P:=P) (fo:=fo) (n:=n) (s:=s3) (l:=l2++ [⟨t,kc,[]⟩]) (x:=⟨M,false,false,[]⟩) rfl L;have aG:=q9P (rc:=rcC N) (c:=c) (P:=P) (fo:=fo) (lim:=lim) (n:=n) (s:=s3) (l:=l2++ [⟨t,kc,[]⟩]) (x:=⟨M,false,false,[]⟩) rfl rfl;generalize q55 (rcC N) c P fo lim n s3 (l2++ [⟨t,kc,[]⟩]) ⟨M,false,false,[]⟩=R3 at*
       repeat'((try conv=>whnf);first|refine q0i ?_ ?_;exact rfl|refine q3k ?_ ?_;exact rfl|apply q1l;exact rfl;omega|refine qf fun b21 hb21=>?_|apply qoH (enc:=q9S) (T:=61) (⟨t,kc,[]⟩:ChM) (aC.rd (W0:=W0));exact rfl;exact rfl;exact rfl;omega;exact rfl;exact rfl;omega;intro a5 c5 D5 bM|refine q2f.mk ⟨qc0,?_⟩|apply gLd;refine q0l aT aI rfl ?_|(apply qF;first|refine ixE aT aI ?_ ?_;(first|rfl|omega))|(apply qe;first|refine ql (aO _) qpo ?_ ?_ fun g3 v G=>?_;exact rfl;exact rfl;obtain⟨rfl,az,au⟩:=G|refine ql (aO _) qpp ?_ ?_ fun g3 v G=>?_;exact rfl;exact rfl;obtain⟨rfl,az,au⟩:=G|refine ql (aV g3 az au _) qpq ?_ ?_ fun g4 v G=>?_;exact rfl;exact rfl;obtain⟨rfl,aS,aw,ax⟩:=G;rw[<-ax]|refine ql (aV g3 az au _) qm9 ?_ ?_ fun g4 v G=>?_;exact rfl;exact rfl;obtain⟨rfl,aS,aw,ax⟩:=G;rw[<-ax]|refine ql (bh g4 aS aw a5 c5 D5 bM.rd _ Yx Yx Yx) qma ?_ ?_ fun y v G=>?_;exact rfl;exact rfl)|apply qC;refine qj (fun ex=>bS _) ?_|refine ari ?_ ?_;omega|refine q94 ?_ ?_;omega|refine fA ?_|refine fL ?_|refine fM ?_|refine q1a.mk ?_ ?_)
       all_goals
        obtain⟨aB,S⟩:=G;exact⟨(k+1,R3,y.1,y.2.1,y.2.2),⟨aJ,fun hs=>⟨aG (q4G hs).1,S (q4G hs).1⟩,aK,⟨aB,S⟩,B⟩,(by show cs.length-(k+1)<cs.length-k;omega),(eF),qmb fun r=>GP.back aw.2⟩
      ·have bK:cs.foldl (q6t (rcC N) c P fo lim n s2 l2 t) I=⟨M,xc,xm,xf⟩:=by
        rw[B]
        by_cases aJ:k<cs.length
        ·refine q38 (fun x a hs=>qh7 x a hs) _ _ ?_;cases xc with
         |true=>rfl
         |false=>
          cases xm with
          |true=>rfl
          |false=>exact absurd ⟨aJ,rfl,rfl⟩ aX
        ·rw[Zs Yu];rfl
       rw[bK] at d;cases xm with
       |true=>
        rw[q38 (fun x a hs=>q4c x a hs) _ _ (show(⟨M,xc,true,xf⟩:SS).stop=true by cases xc <;>rfl)] at d;have hR:=D.trans d;subst hR;cases xc
        all_goals
         repeat'((try conv=>whnf);first|refine q0i ?_ ?_;exact rfl|refine fI ?_|refine q3k ?_ ?_;exact rfl|refine fD ?_|refine fA ?_|apply q0p;exact rfl;exact rfl;all_goals intro hc)
         all_goals exact⟨(fa,af,Fy),aH,qah C⟩
       |false=>
        cases xc with
        |true=>
         rw[q38 (fun x a hs=>q4c x a hs) _ _ (show(⟨M,true,false,xf⟩:SS).stop=true from rfl)] at d;have hR:=D.trans d;subst hR
         repeat'((try conv=>whnf);first|refine q0i ?_ ?_;exact rfl|refine fI ?_|refine q3k ?_ ?_;exact rfl|refine fD ?_|refine fA ?_|apply q0p;exact rfl;exact rfl;all_goals intro hc)
         all_goals exact⟨(fa,af,Fy),aH,qah C⟩
        |false=>
         obtain⟨h1,h2,h3⟩:=bm rfl;dsimp only at h1 h2 h3;subst h1;subst h2;subst h3;have hkn:¬(k:Int)<cs.length:=by
          have:¬k<cs.length:=fun h=>aX ⟨h,rfl,rfl⟩
          omega
         repeat'((try conv=>whnf);first|refine q0i ?_ ?_;exact rfl|refine fI ?_|refine fD ?_|apply q1E;exact rfl;omega|refine ari ?_ ?_;omega|refine fA ?_)
         all_goals exact⟨(t+1,false,⟨M,false,false,[]⟩),⟨aL,rfl,rfl,L,fun h=>(by cases h),fun _=>aZ,d⟩,(by show N-(t+1)<N-t;omega),(eF),(qah C).trans qks⟩
  ·have bJ:t=N:=Yu;subst bJ;rw[Zs (by rw[List.length_range];exact zq _),List.foldl_nil] at d;cases dn with
   |true=>
    obtain⟨rfl,bA⟩:=aq rfl;have aW:q2E s=true:=by
     unfold q2E;refine zX.2 fun th cn=>?_
     obtain⟨u,hu⟩:=Zn cn;have:=bA u (by have:=(z7.1 hu).1;omega);unfold dnB at this;rw[hu] at this;exact this
    rw[if_pos aW] at D;have aQ:=bV I ⟨A,(q4G H).1⟩ Yu;rw[<-D] at aQ
    repeat'((try conv=>whnf);first|refine q3k ?_ ?_;exact rfl|apply q25;exact rfl;omega|refine q2f.mk ⟨qq3,?_⟩|(apply qe;first|refine ql aQ Ent.refl ?_ ?_ fun y v G=>?_;exact rfl;exact rfl;apply Stop.h)|refine fA ?_)
    refine Stop.mk ?_
    all_goals exact⟨y,G,Ent.refl⟩
   |false=>
    rw[if_neg (by rw[aF rfl];simp),d] at D;subst D
    repeat'((try conv=>whnf);first|refine fD ?_|apply q25;exact rfl;omega)
    all_goals exact⟨(none,0,[]),⟨by rw[A];exact RdE.nil,fun _=>⟨rfl,rfl⟩⟩,Ent.refl⟩
end
open Go
def qrM(c:Cfg)(il:je)(P:List (jg))(fo:je)(lim:Int):SS×Int:=
 let R:=q55 (rcC P.length) c P fo lim (qP P (q19 c il P)+1) (q19 c il P) [] ss0
 if R.many then(ss0,80) else(R,0)
def q52(c:Cfg)(il:je)(ps:jk)(fo:je)(lim:Int):SS×Int:=
 if qcR c il.length ps fo lim≠0 then(ss0,qcR c il.length ps fo lim) else qrM c il (ps.map PH.p) fo lim
theorem qoK{c:Cfg}{il:Nat}{ps:jk}{fo:je}{lim:Int}(h:qcR c il ps fo lim=0):(csM c il ps []).2.2=0/\c.strong=false/\alQ ps=false/\1<=lim/\lim<=100000/\fo.length<=4/\∀k∈fo,3<=k/\k<=6:=by
 unfold qcR at h
 by_cases j:(csM c il ps []).2.2=0
 ·rw[if_neg Yu] at h
  by_cases d:c.strong=true\/alQ ps=true
  ·rw[if_pos d] at h;cases h
  ·rw[if_neg d] at h
   by_cases v:lim<1\/100000<lim\/(4:Int)<fo.length
   ·rw[if_pos v] at h;cases h
   ·rw[if_neg v] at h
    by_cases o:foB fo=true
    ·refine⟨j,by simpa using fun h=>d (.inl h),by simpa using fun h=>d (.inr h),Yu,Yu,Yu,fun k w=>?_⟩;unfold foB at o
     simpa using zX.1 o k w
    ·rw[if_neg o] at h;cases h
 ·rw[if_pos j] at h;exact absurd h j
section
variable{W0:World}
theorem qeM{b3 v w y A d h j o:jd}{G K q:Own}:Ent W0 (G++(K++(o::(j::(h::(d::(A::(y::(w::(v::(b3::q))))))))))) (A::(d::([h,o,v,j,w]++(G++(K++(y::(b3::q))))))):=qu []
theorem qmd{v m d b3:jd}{F G y K q:Own}:Ent W0 (v::(m::(F++(G++(y++(K++(d::(b3::q)))))))) (y++q):=qu (v::m::d::b3::(F++(G++K)))
theorem qme{v m d b3:jd}{F G y K q:Own}:Ent W0 (v::(m::(F++(G++(y++(K++(d::(b3::q)))))))) ([]++q):=qu (v::m::d::b3::(F++(G++(y++K))))
end
section
variable{W0:World}{own:Own}{c:Cfg}{ia pa ka fa:j9}{ic pc kc fc:Nat}{ps:jk}{il ks fo:je}
theorem qdj(T:qz W0)(hN:q0y W0 0 Ord.noneV)(hI:RdE q05 1 W0 own ia il)(ae:il.length<=500000)(hw:∀x∈il,okU x)(hP:RdE PH.enc 1 W0 own pa ps)(aw:ps.length<=1000000)(hQ:∀h∈ps,RdE Ins.enc 5 W0 own h.a h.p)(G:RdE qv 1 W0 own fa fo)(lim:Int):
  jn W0 7 [q9i c ia il.length ic pa ps.length pc ka ks.length kc, .slice fa fo.length fc,j5 lim] own fun v own'=>∃y:j9×Nat×Own,
   (v= .tuple #[.agg #[.bool (q52 c il ps fo lim).1.racy, .slice y.1 (q52 c il ps fo lim).1.found.length y.2.1,j5 (q52 c il ps fo lim).1.runs],j5 (q52 c il ps fo lim).2]/\RdE q9S 3 W0 y.2.2 y.1 (q52 c il ps fo lim).1.found)/\Ent W0 own' (y.2.2++own):=by
 refine sH [] ?_;have j:=fun(own':Own) [qr own' own]=>qg (qgh (own:=own') (c:=c) (ic:=ic) (pc:=pc) (ka:=ka) (ks:=ks) (kc:=kc) (fc:=fc) T hI.up ae hP.up aw (fun h hh=>(hQ h hh).up) G.up lim)
 unfold q52
 by_cases S:qcR c il.length ps fo lim=0
 ·obtain⟨F,ay,C,hl1,aj,X,Z⟩:=qoK S;rw[if_neg Yu];rw[S] at j;have au:=fun(own':Own) [qr own' own]=>qgA (own:=own') (c:=c) (ic:=ic) (pc:=pc) (ka:=ka) (ks:=ks) (kc:=kc) T hI.up Yu hP.up (fun h hh=>(hQ h hh).up)
  obtain⟨-,W,hp16,af,D⟩:=qi0 F;have U:GOk c (ps.map PH.p) (q19 c il (ps.map PH.p)):=qfB W af hw (fun p hp=>by obtain⟨x,hx,rfl⟩:=zM.1 hp;exact D x hx) (qoF C) ay;have d:(ps.map PH.p).length<=16:=by rw[zi];omega
  have hml:=qfx U d;have aq:=qoF C;have H:=fun(K:Own) (qs:jk) (e:EB) (ax:qs.map PH.p=ps.map PH.p)=>qcx (c:=c) (Kp:=K) (Kf:=own) (ps:=qs) (N:=ps.length) (lim:=lim) (e:=e) (foc:=fc) T hN aq ax d (zi ..) Z X aj G (qP (ps.map PH.p) (q19 c il (ps.map PH.p))+1) (q19 c il (ps.map PH.p)) [] ss0
  unfold qrM;rw[zi];have hn0:(q19 c il (ps.map PH.p)).n=0:=rfl
  repeat'((try conv=>whnf);first|refine qf fun b3 V=>?_;apply Stop.h)
  refine Stop.mk ?_
  repeat'((try conv=>whnf);first|refine qf fun b4 hb4=>?_;apply Stop.h)
  refine Stop.mk ?_
  repeat'((try conv=>whnf);first|refine qf fun b5 hb5=>?_;apply Stop.h)
  refine Stop.mk ?_
  repeat'((try conv=>whnf);first|refine qf fun b6 hb6=>?_;apply Stop.h)
  refine Stop.mk ?_
  repeat'((try conv=>whnf);first|refine fD ?_|refine qf fun b9 hb9=>?_;apply Stop.h|apply qe;refine qd (j _) ?_|refine fA ?_|refine fL ?_)
  refine Stop.mk ?_
  repeat'((try conv=>whnf);first|refine qf fun J hb10=>?_;apply Stop.h)
  refine Stop.mk ?_
  repeat'((try conv=>whnf);first|refine qf fun L hb11=>?_;apply Stop.h|refine fA ?_|refine fN ?_)
  refine Stop.mk ?_
  repeat'((try conv=>whnf);first|refine qf fun M hb12=>?_;apply Stop.h|refine fN ?_)
  refine Stop.mk ?_
  repeat'((try conv=>whnf);first|refine qf fun Q hb13=>?_;apply Stop.h|refine fN ?_)
  refine Stop.mk ?_
  repeat'((try conv=>whnf);first|(apply qe;first|refine q2j (au _) Ent.refl ?_ ?_ (fun v B=>?_) fun y v B=>?_;exact rfl;exact rfl;all_goals(apply Stop.h))|refine fL ?_|refine fN ?_)
  ·obtain⟨rfl,he⟩:=B;exact absurd F he
  ·obtain⟨g,ys,kD⟩:=y;obtain⟨rfl, -,w,o,I, -⟩:=B;dsimp only at w o I ⊢;have A:=H (kD++q3W ys) (ys.map PB.h) ⟨b9,J,L,Q,b4,M,b5⟩ I;generalize q55 (rcC ps.length) c (ps.map PH.p) fo lim (qP (ps.map PH.p) (q19 c il (ps.map PH.p))+1) (q19 c il (ps.map PH.p)) [] ss0=R at*;refine Stop.mk ?_;obtain⟨xr,xc,xm,xf⟩:=R;dsimp only at A ⊢;cases xm with
   |true=>
    simp only[if_true]
    repeat'((try conv=>whnf);first|refine fE ?_|refine q2f.mk ⟨qc0,?_⟩|(apply qe;first|refine ql (A g _ none 0 (kD++q3W ys) _ w o U Yu Yu (zv _) RdE.nil rfl rfl (by show(0:Int)<=lim;omega) Yx Yx Yx) qeM ?_ ?_ fun y v B=>?_;exact rfl;exact rfl)|refine fO ?_|refine fA ?_|refine fL ?_|refine fM ?_)
    all_goals exact⟨(none,0,[]),⟨rfl,RdE.nil⟩,qme⟩
   |false=>
    simp only[zL,if_false]
    repeat'((try conv=>whnf);first|refine fD ?_|refine q2f.mk ⟨qc0,?_⟩|(apply qe;first|refine ql (A g _ none 0 (kD++q3W ys) _ w o U Yu Yu (zv _) RdE.nil rfl rfl (by show(0:Int)<=lim;omega) Yx Yx Yx) qeM ?_ ?_ fun y v B=>?_;exact rfl;exact rfl)|refine fO ?_|refine fA ?_|refine fL ?_|refine fM ?_)
    all_goals exact⟨y,⟨rfl,B.1⟩,qmd⟩
 ·rw[if_pos S];generalize qcR c il.length ps fo lim=z at*
  repeat'((try conv=>whnf);first|refine fF ?_|refine qf fun b3 V=>?_|apply qe;refine qd (j _) ?_|refine fA ?_|refine fL ?_|refine fM ?_)
  all_goals exact⟨(none,0,[]),⟨rfl,RdE.nil⟩,(eC)⟩
end
open Go Go.Proofs.YtikpjajangpdjaaGreatDoor.Ord
abbrev q2o(w:Int):Int:=1+plT w 12
theorem q61(w:Int):1<=q2o w/\q2o w<=12:=by
 have:=q4x w (n:=12) Yv;unfold q2o;omega
section
variable{W0:World}{own:Own}{la pka:j9}{lc pkc:Nat}{ls:List IH}{pks:je}
theorem qg6(w o:Int):jo W0 14 [j5 w,j5 o] own (q3n (q2o w) (q2o o)).v:=by
 refine qg (sH [] ?_);have hw:=q4x w (n:=12) Yv;have ho:=q4x o (n:=12) Yv;have d:=fun q=>q9A W0 q w (n:=12) Yv
 have h:=fun q=>q9A W0 q o (n:=12) Yv
 repeat'((try conv=>whnf);first|(apply qe;first|refine qd (d _) ?_|refine qd (h _) ?_)|refine fB ?_|refine fL ?_|refine fM ?_|refine qf fun bk hbk=>?_)
 all_goals exact⟨rfl,(eC)⟩
def qru(W0:World)(own:Own)(c:Cfg)(n:Int)(m:Nat)(v:Value)(own':Own):Prop:=
 ∃ia il ic d pa ps pc j ka ks kc h,v=q9i c ia (List.length il) ic pa (List.length ps) pc ka (List.length ks) kc/\qo q05 72 1 ia ic il d/\qo PH.enc 82 1 pa pc (ps.map PB.h) j/\qo qv 3 1 ka kc ks h/\
  (∀x∈ps,x.ok/\q0F x.h.p=(0,0)/\x.h.p.length<=14/\∀y∈x.h.p,y.op≠14/\y.op≠15)/\(il.length:Int)=c.words/\(∀x∈il,0<=x/\x<=3)/\(ps.length:Int)=n/\ks.length=m/\(∀k∈ks,0<=k/\k<n)/\Ent W0 own' (h++(j++(q3W ps++(d++own))))
theorem qnU(w o:Int)(X:RdE IH.enc 1 W0 own la ls)(hll:ls.length<=3)(M:∀h∈ls,RdE qv 1 W0 own h.a h.l/\h.l.length<=24)(Z:RdE qv 1 W0 own pka pks)(hpl:pks.length<=220):
  jn W0 6 [j5 w,j5 o, .slice la ls.length lc, .slice pka pks.length pkc] own (qru W0 own (q3n (q2o w) (q2o o)) (2+(ls.length:Int) % 2) pks.length):=by
 refine sH [] ?_;have hw:=q61 w;have I:=fun q=>qg6 (W0:=W0) (own:=q) w o
 have J:=fun(own':Own) (m:qr own' own)=>qdD (W0:=W0) (own:=own') (c:=q3n (q2o w) (q2o o)) (lc:=lc) (pkc:=pkc) (2+(ls.length:Int) % 2) (8-(2+(ls.length:Int) % 2)) false true (by dsimp only;omega) Yu Yu X.up (fun h Q=>⟨(M h Q).1.up,by have:=(M h Q).2;omega⟩) Z.up Yu
 generalize q3n (q2o w) (q2o o)=c at*
 repeat'((try conv=>whnf);first|(apply qe;first|refine qd (I _) ?_|(refine q0k.mk fun w hw=>?_);refine(J _ Yx w hw).mono ?_;rintro e w' ⟨v,own',he,R,ia,il,ic,T,pa,ps,pc,V,ka,ks,kc,U,rfl,W,B,A,d,D,C,H,F,G,L⟩;refine⟨_,_,he,L _ R,?_⟩;clear he R L e w' hw w own';apply Stop.h)|refine fB ?_|refine qf fun bk hbk=>?_|refine q3Z ?_ ?_;omega)
 refine Stop.mk ?_
 repeat'((try conv=>whnf);first|refine fL ?_|refine fM ?_)
 all_goals exact⟨ia,il,ic,T,pa,ps,pc,V,ka,ks,kc,U,rfl,W,B,A,fun x j=>⟨(d x j).1,(d x j).2.1,by have:=(d x j).2.2.1;omega,fun y S=>⟨fun h=>(by have:=((d x j).2.2.2 y S).2 (.inl h);cases this),fun h=>(by have:=((d x j).2.2.2 y S).2 (.inr h);cases this)⟩⟩,D,C,H,F,G,sbE⟩
end
theorem qoL{c:Cfg}{il:Nat}{ps:jk}(B:qG c=0)(A:c.strong=false)(v:1<=ps.length)(D:ps.length<=16)(o:(il:Int)=c.words)(j:∀h∈ps,qw h.p=(0,0))(w:∀h∈ps,∀y∈h.p,y.op≠14/\y.op≠15):qcR c il ps [5] 150=0:=by
 have d:alQ ps=false:=yy.2 fun h C e=>by
  obtain⟨y,F,he⟩:=yj.1 e;have:=w h C y F;unfold alI at he;simp at he;omega
 unfold qcR;rw[q7R (ks:= []) B v D o j (zv _) (fun z G=>by cases G),if_neg Yw,if_neg (by rw[d,A];simp),if_neg Yw,if_pos Yv]
theorem qd1{c:Cfg}{il:je}{ps:jk}{n:Nat}(h0:qcR c il.length ps [5] 150=0)(h:(ps.map PH.p).length=n):
  ((q52 c il ps [5] 150).2=80)\/((q52 c il ps [5] 150).2=0/\((q52 c il ps [5] 150).1.racy=true\/((q52 c il ps [5] 150).1.racy=false/\(q55 (rcC n) c (ps.map PH.p) [5] 150 (qP (ps.map PH.p) (q19 c il (ps.map PH.p))+1) (q19 c il (ps.map PH.p)) [] ss0).stop=false))):=by
 subst h;unfold q52;rw[if_neg Yu];unfold qrM;dsimp only;generalize q55 (rcC (ps.map PH.p).length) c (ps.map PH.p) [5] 150 (qP (ps.map PH.p) (q19 c il (ps.map PH.p))+1) (q19 c il (ps.map PH.p)) [] ss0=R;cases hm:R.many with
 |true=>exact .inl rfl
 |false=>
  refine .inr ⟨rfl,?_⟩;cases d:R.racy with
  |true=>exact .inl (by simp[d])
  |false=>exact .inr ⟨by simp[d],by unfold SS.stop;rw[d,hm];rfl⟩
section
variable{W0:World}{own:Own}{la pka:j9}{lc pkc:Nat}{ls:List IH}{pks:je}
theorem q6M(hF:qz W0)(hN:q0y W0 0 noneV)(w o:Int)(hL:RdE IH.enc 1 W0 own la ls)(V:ls.length<=17592186043904)(hQ:∀h∈ls,RdE qv 1 W0 own h.a h.l/\h.l.length<=17592186043904)(hP:RdE qv 1 W0 own pka pks)(au:pks.length<=17592186043904):
  jo W0 3 [j5 w,j5 o, .slice la ls.length lc, .slice pka pks.length pkc] own (.bool true):=by
 refine qg (sH [] ?_);have j:=fun own=>qdp (W0:=W0) hF hN own
 have aw:=qct (W0:=W0) (own:=own) (lc:=lc) (pka:=pka) (pkc:=pkc) (pks:=pks) 220 hL V (fun h d=>(hQ h d).2) au;have ax:=fun(own':Own) (m:qr own' own)=>qct (W0:=W0) (own:=own') (lc:=lc) (pka:=none) (pkc:=0) (pks:= []) 24 hL.up V (fun h d=>(hQ h d).2) Yw
 repeat'((try conv=>whnf);first|(apply qe;first|refine qi aw fun z v F=>?_;apply Stop.h))
 obtain⟨rfl,hz⟩:=F;refine Stop.mk ?_;cases z with
 |false=>
  repeat'((try conv=>whnf);first|refine fI ?_|refine fE ?_|apply qe;refine qd (j _) ?_)
  all_goals exact⟨rfl,(eC)⟩
 |true=>
  obtain⟨h3,h220, -⟩:=hz rfl
  repeat'((try conv=>whnf);first|refine fH ?_|(apply qe;first|refine qi (ax _ Yx) fun z v F=>?_;apply Stop.h))
  obtain⟨rfl,ay⟩:=F;refine Stop.mk ?_;cases z with
  |false=>
   repeat'((try conv=>whnf);first|refine fH ?_|refine fE ?_|apply qe;refine qd (j _) ?_)
   all_goals exact⟨rfl,(eC)⟩
  |true=>
   obtain⟨-, -,U⟩:=ay rfl;have Z:=fun(own':Own) (m:qr own' own)=>qnU (W0:=W0) (own:=own') (lc:=lc) (pkc:=pkc) w o hL.up h3 (fun h d=>⟨(hQ h d).1.up,by have:=U h d;omega⟩) hP.up Yu
   have hrw:=q61 w;have hro:=q61 o;obtain⟨O,hO⟩:∃O:Nat,q2o o=O:=⟨(q2o o).toNat,Yu⟩
   rw[hO] at Z
   repeat'((try conv=>whnf);first|refine fH ?_|refine fD ?_|(apply qe;first|(refine q0k.mk fun w hw=>?_);refine(Z _ Yx w hw).mono ?_;rintro e w' ⟨v,own',he,D,ia,il,ic,Di,pa,ps,pc,Dp,ka,ks,kc,Dk,rfl,hI,aj,af,W,C,aq,hpn,hkn,S,hE⟩;refine⟨_,_,he,hE _ D,?_⟩;clear he D hE e w' hw w own';apply Stop.h))
   refine Stop.mk ?_;have T:((ps.map PB.h).map PH.p).length=ps.length:=by rw[zi,zi]
   have Q:((ks.map Int.toNat).map fun t=>((t:Nat):Int))=ks:=by
    rw[ya]
    conv=>rhs;rw[<-List.map_id ks]
    refine yO fun z hz=>?_
    show((z.toNat:Nat):Int)=z;have:=(S z hz).1;omega
   have B:∀p∈(ps.map PB.h).map PH.p,q0F p=(0,0)/\p.length<=14/\∀y∈p,y.op≠14/\y.op≠15:=fun p hp=>by
    rw[ya] at hp;obtain⟨x,hx,rfl⟩:=zM.1 hp;exact(W x hx).2
   obtain⟨D,A⟩:=qt3 (w:=q2o w) (O:=O) (il:=il) (ps:=(ps.map PB.h).map PH.p) (l:=ks.map Int.toNat) Yu Yu C aq Yu B (by rw[zi];omega) (fun t ht=>by
    obtain⟨z,hz,rfl⟩:=zM.1 ht;have:=S z hz;omega)
   have J:qcR (q3n (q2o w) O) il.length (ps.map PB.h) [5] 150=0:=qoL D.hc rfl (by rw[zi];omega) (by rw[zi];omega) C (fun h d=>D.hck _ (Zi d)) (fun h d=>(B h.p (Zi d)).2.2);have M:=qd1 J (n:=ps.length) T;rw[T] at A;have A:=A 150;have G:=hI.rd (W0:=W0);have H:=aj.rd (W0:=W0);have ae:=af.rd (W0:=W0);have I:∀h∈ps.map PB.h,RdE Ins.enc 5 W0 (q3W ps) h.a h.p:=fun h d=>by
    obtain⟨x,hx,rfl⟩:=zM.1 d;have:=(W x hx).1;exact((this.rd (W0:=W0)).ent (qiF hx))
   repeat'((try conv=>whnf);first|refine qf fun bs hbs=>?_;apply Stop.h)
   refine Stop.mk ?_
   repeat'((try conv=>whnf);first|refine qf fun bf hbf=>?_;apply Stop.h|refine fL ?_|refine fM ?_)
   refine Stop.mk ?_;have hex:=fun(own':Own) (m0:qy bf (j8 #[j5 5] 3 (0,0)) own') (m1:qr own' Di) (m2:qr own' Dp) (m3:qr own' (q3W ps))=>qdj (W0:=W0) (own:=own') (c:=q3n (q2o w) O) (ia:=ia) (ic:=ic) (pa:=pa) (pc:=pc) (ka:=ka) (ks:=ks) (kc:=kc) (fa:=some ⟨bf,0,none⟩) (fc:=1) (fo:= [5]) hF hN G.up (by have:(il.length:Int)=q2o w:=C;omega) D.hiw H.up (by rw[zi];omega) (fun h d=>(I h d).up) (q1V m0.h (fun _ _=>rfl) rfl) 150
   rw[zi] at hex;generalize q52 (q3n (q2o w) O) il (ps.map PB.h) [5] 150=R at M hex
   repeat'((try conv=>whnf);first|(apply qe;first|refine qi (hex _ Yx Yx Yx Yx) fun y v F=>?_;apply Stop.h))
   obtain⟨fa,fc,_⟩:=y;obtain⟨rfl, -⟩:=F;refine Stop.mk ?_
   rcases M with he|⟨he,hr|⟨hr,F⟩⟩
   ·rw[he]
    repeat'((try conv=>whnf);first|refine fH ?_|refine fI ?_|refine fE ?_|apply qe;refine qd (j _) ?_|refine fO ?_|refine fM ?_|refine qf fun bk L=>?_)
    all_goals exact⟨rfl,(eC)⟩
   ·rw[he,hr]
    repeat'((try conv=>whnf);first|refine fH ?_|refine fI ?_|refine fE ?_|apply qe;refine qd (j _) ?_|refine fO ?_|refine fA ?_|refine fM ?_|refine qf fun bk L=>?_)
    all_goals exact⟨rfl,(eC)⟩
   ·rw[he,hr];have hq:=A F;have X:=fun(own':Own) (m1:qr own' Di) (m2:qr own' Dp) (m3:qr own' (q3W ps)) (m4:qr own' Dk)=>qgE (W0:=W0) (own:=own') (c:=q3n (q2o w) O) (ia:=ia) (ic:=ic) (pa:=pa) (pc:=pc) (ka:=ka) (kc:=kc) (l:=ks.map Int.toNat) hF hN D hq G.up H.up (fun h d=>(I h d).up) (by rw[Q];exact ae.up)
    rw[zi,Q] at X
    repeat'((try conv=>whnf);first|refine fH ?_|refine fD ?_|(apply qe;first|refine qd (X _ Yx Yx Yx Yx) ?_|refine qd (j _) ?_)|refine fO ?_|refine fA ?_|refine fL ?_|refine fM ?_|refine qf fun bk L=>?_)
    all_goals exact⟨rfl,(eC)⟩
end
end Go.Proofs.YtikpjajangpdjaaGreatDoor
