/- What the laws share, part 10. No condition. -/
import Derived.Test.YtfnghamklcdgnaaGreatDoorQ9
set_option maxRecDepth 10000
namespace Go.Proofs.YtfnghamklcdgnaaGreatDoor
open Go
abbrev jf:=List Ins
def qas(a n:Int):Int:=IntKind.u64.wrap a % n
theorem qhp(a:Int):0<=IntKind.u64.wrap a/\IntKind.u64.wrap a<=18446744073709551615:=by
 unfold IntKind.wrap;have b:((2:Int) ^ IntKind.u64.bits)=18446744073709551616:=rfl;simp only[b,IntKind.signed,yS,zV,if_false];omega
theorem q6X(a:Int){n:Int}(h:0<n):0<=qas a n/\qas a n<n:=⟨Y2 _ Yb,yK _ h⟩
theorem qkH{m n:Int}(h1: -9223372036854775808<=m/\0<n/\m<=9223372036854775807): -9223372036854775808<=m.tdiv n/\m.tdiv n<=9223372036854775807:=by
 have h2:(m.tdiv n).natAbs<=m.natAbs:=by rw[Int.natAbs_tdiv];exact Nat.div_le_self _ _
 have h4:m<0->m.tdiv n<=0:=fun h=>by
  have a:0<=(-m).tdiv n:=Int.tdiv_nonneg Yb Yb;rw[Int.neg_tdiv] at a;omega
 omega
theorem qo4{m n:Int}{K:Int->Prop}(a: -9223372036854775808<=m/\0<n/\m<=9223372036854775807)(h:K (m.tdiv n)):Quo .i64 m n K:=by
 have h2:=qkH a;refine⟨Yb,?_⟩;rw[q4L Yb Yb];exact h
theorem q7E(W0:World)(own:Own)(a n:Int)(b:0<n/\n<=9223372036854775807):jl W0 16 [j4 a,j4 n] own (j4 (qas a n)):=by
 refine qi (sH [] ?_);have hw:=qhp a;have c:=q6X a b.1;unfold qas at c
 repeat'((try conv=>whnf);first|refine arw (k:= .u64) (e:=a) ?_|refine fB ?_|refine fC ?_|refine q2R ?_ ?_;omega|exact Ent.refl|refine And.intro rfl ?_)
 all_goals exact⟨q0s rfl,eB⟩
def qjb:jd->Prop
 | []=>True
 |a::r=>(-9223372036854775808<=a/\a<=9223372036854775807)/\qjb r
def q52(c:Cfg):Prop:=4<=c.words/\c.words<=12/\1<=c.orecs/\c.orecs<=8/\c.base=2/\0<=c.c0/\c.c0<=2/\0<=c.c1/\c.c1<=2/\c.c2=0/\c.c3=0/\c.c0+c.c1*2<=c.words-2/\
 1<=c.reads/\c.reads<=8/\1<=c.writes/\c.writes<=8/\0<=c.allocs/\c.allocs<=2/\0<=c.frees/\c.frees<=2/\0<=c.clock/\c.clock<=50/\c.strong=false
section
variable{P:Program}{W0:World}{own:Own}
def qin(P:Program)(W0:World)(k:FuncId)(args:je)(own:Own)(Φ:Value->Prop):Prop:=
 ∀w,St W0 own w->Calls P k args.toArray w fun e a=>∃v,e= .returned v/\Φ v/\St W0 own a
theorem qg1{k:FuncId}{args:je}{Φ:Value->Prop}(h:qu P W0 k args own fun d own'=>Φ d/\Ent W0 own' own):qin P W0 k args own Φ:=fun w hw=>
 (h w hw).mono fun _ e ⟨v,_,he,b,c,a⟩=>⟨v,he,c,a e b⟩
theorem qlf{k:FuncId}{args:je}{Φ:Value->Prop}{K:Value->Own->Prop}(h:qin P W0 k args own Φ)(a:∀v,Φ v->K v own):q0g P W0 own k args K:=
 ⟨fun w hw=>(h w hw).mono fun _ _ ⟨v,he,c,b⟩=>⟨v,own,he,b,a v c⟩⟩
end
theorem q8C{W0:World}{own:Own}{a n:Int}{K:Value->Own->Prop}(b:0<n/\n<=9223372036854775807)(h:∀p,0<=p/\p<n->K (j4 p) own):
  q0g Tryz.prog W0 own 16 [j4 a,j4 n] K:=qp (q7E _ _ _ _ b) (h _ (q6X a b.1))
theorem q4R{W0:World}{own:Own}{a n:Int}{K:Value->Prop}(b:0<n/\n<=9223372036854775807)(h:∀p,0<=p/\p<n->K (j4 p)):
  q4q Tryz.prog W0 own 16 [j4 a,j4 n] K:=q2o (fun _=>q7E _ _ _ _ b) (h _ (q6X a b.1))
theorem qoR{m:Int}{K:Int->Prop}(h:K (m/1)):Shr .i64 m 0 K:=qmu 0 1 rfl rfl Yb rfl h
theorem qoS{m:Int}{K:Int->Prop}(h:K (m/2)):Shr .i64 m 1 K:=qmu 1 2 rfl rfl Yb rfl h
theorem qdV(W0:World)(own:Own)(a b c d e:Int)(g:qjb [a,b,c,d,e]):qin Tryz.prog W0 13 [j4 a,j4 b,j4 c,j4 d,j4 e] own (fun v=>∃c:Cfg,v=c.v/\q52 c):=by
 obtain⟨ha,hb,f,hd,he,_⟩:=g;refine qg1 (sH (jo 11 3 [0]) ?_)
 repeat'((try conv=>whnf);first|refine q8C ?_ fun p h=>?_;omega|refine q4R ?_ fun p h=>?_;omega|refine qo4 ?_ ?_;omega|refine qoR ?_|refine qoS ?_|refine q31 3 ?_|refine q26 ?_|refine q2W ?_|refine fB ?_|refine ix0 rfl ?_|refine ix1 rfl ?_|apply qU;exact eM;exact rfl|apply qZ;exact eM;exact rfl|apply q6u;exact eU;(solve|((try(conv=>arg 2;whnf));repeat'(first|exact Lis.nil|apply Lis.cons|apply q0M.here|apply q0M.there|apply q0a.done|apply q0a.put|apply q0a.skip)));exact rfl|apply q2A;exact eU;(solve|((try(conv=>arg 2;whnf));repeat'(first|exact Lis.nil|apply Lis.cons|apply q0M.here|apply q0M.there|apply q0a.done|apply q0a.put|apply q0a.skip)));exact rfl|refine qg fun bk hbk=>?_|refine q3p (fun f=>?_) fun f=>?_|refine qnn ?_ ?_;omega|refine qno ?_ ?_;omega|refine q5c ?_|refine qky rfl ?_)
 all_goals(refine⟨⟨⟨_,_,_,_,_,_,_,_,_,_,_,_,_⟩,q0s rfl,?_⟩,eB⟩;dsimp only[q52];(repeat' apply And.intro) <;>first|rfl|omega)
open Go
theorem q7q{W0:World}{own:Own}{a b c d e:Int}{K:Value->Own->Prop}(g:qjb [a,b,c,d,e])(h:∀c:Cfg,q52 c->K c.v own):
  q0g Tryz.prog W0 own 13 [j4 a,j4 b,j4 c,j4 d,j4 e] K:=
 qlf (qdV W0 own a b c d e g) (fun v ⟨c,i,f⟩=>by rw[i];exact h c f)
theorem qfR:∀(n:Nat) (l:jd),l.Nodup->(∀x∈l,0<=x/\x<n)->l.length<=n
 |0,[],_,_=>zN _
 |0,x::l,_,h=>by have:=h x zp;omega
 |n+1,l,b,h=>by
  have h1:(l.erase (n:Int)).length<=n:=qfR n _ (b.erase _) fun x d=>by
   have:=(List.Nodup.mem_erase_iff b).1 d;have h2:=h x this.2;have h3:x≠(n:Int):=this.1;omega
  have c:=List.length_erase (a:=(n:Int)) (l:=l)
  split at c <;>omega
def hmP(P:Nat)(a:Int):Nat:=a.toNat % P*5 % P
structure LI(P:Nat)(ix ad:jd):Prop where
 p0:0<P
 len:ix.length=P
 rng:∀(k:Nat) (v:Int),ix[k]? =some v->v= -1\/(0<=v/\v<ad.length)
 hit:∀(n:Nat) (a:Int),ad[n]? =some a->∃d:Nat,ix[(hmP P a+d) % P]? =some (n:Int)/\∀e,e<d->∀v:Int,ix[(hmP P a+e) % P]? =some v->0<=v
 inj:∀(j k:Nat) (v:Int),ix[j]? =some v->ix[k]? =some v->0<=v->j=k
 nd:ad.Nodup
 room:ad.length<P
def qbU(P:Nat)(ix ad:jd)(a:Int)(d:Nat):Prop:=∀v,ix[(hmP P a+d) % P]? =some v->v<0\/ad[v.toNat]? =some a
section
variable{P:Nat}{ix ad:jd}
theorem LI.at(h:LI P ix ad)(k:Nat):∃v,ix[k % P]? =some v:=
 ⟨_,z6 (by rw[h.len];exact yp _ h.p0)⟩
theorem LI.empty(h:LI P ix ad):∃k,k<P/\ix[k]? =some (-1):=by
 by_cases b:∃k,k<P/\ix[k]? =some (-1)
 ·exact b
 ·exfalso;have d:ix.Nodup:=by
   rw[List.Nodup,ZF];intro i j hi f hij he;have a:ix[i]? =some ix[i]:=z6 hi;have c:ix[j]? =some ix[i]:=by rw[he];exact z6 f
   rcases h.rng i _ a with e|⟨e, -⟩
   ·rw[e] at a;exact b ⟨i,by rw[<-h.len];exact hi,a⟩
   ·have:=h.inj i j _ a c e;omega
  have h2:=qfR ad.length ix d fun x g=>by
   obtain⟨i,hi,rfl⟩:=yj g;have a:ix[i]? =some ix[i]:=z6 hi
   rcases h.rng i _ a with e|e
   ·rw[e] at a;exact absurd ⟨i,by rw[<-h.len];exact hi,a⟩ b
   ·exact e
  have:=h.room;have:=h.len;omega
theorem LI.find(h:LI P ix ad)(a:Int):∃D,qbU P ix ad a D/\∀e,e<D->∃v,ix[(hmP P a+e) % P]? =some v/\0<=v/\ad[v.toNat]? ≠some a:=by
 obtain⟨k,m,f⟩:=h.empty;have hh:hmP P a<P:=yp _ h.p0;have i:qbU P ix ad a (k+P-hmP P a):=by
  intro v c;rw[show hmP P a+(k+P-hmP P a)=k+P by omega,Nat.add_mod_right,yV m,f] at c;left;have:=Option.some.inj c;omega
 obtain⟨D,j,l⟩:=qag (p:=qbU P ix ad a) _ i;refine⟨D,j,fun e he=>?_⟩;obtain⟨v,c⟩:=h.at (hmP P a+e);refine⟨v,c,?_⟩
 by_cases g:0<=v/\ad[v.toNat]? ≠some a
 ·exact g
 ·exfalso;have:qbU P ix ad a e:=by
   intro v' d;rw[c] at d;obtain rfl:=Option.some.inj d
   by_cases n:v<0
   ·exact .inl n
   ·right
    by_cases b:ad[v.toNat]? =some a
    ·exact b
    ·exact absurd ⟨Yb,b⟩ g
  have:=l e this;omega
theorem LI.found(h:LI P ix ad){a:Int}{D:Nat}(u:qbU P ix ad a D)(A:∀e,e<D->∃v,ix[(hmP P a+e) % P]? =some v/\0<=v/\ad[v.toNat]? ≠some a):
  ∃v,ix[(hmP P a+D) % P]? =some v/\match ad.idxOf? a with
   |some n=>v=n
   |none=>v= -1:=by
 obtain⟨v,c⟩:=h.at (hmP P a+D);refine⟨v,c,?_⟩;cases y:ad.idxOf? a with
 |some n=>
  show v=n;have m:ad[n]? =some a:=by
   have:=Zv.1 y;obtain⟨b,hb, -⟩:=this;rw[z6 b]
   simpa using hb
  obtain⟨d,hd,hd2⟩:=h.hit n a m
  rcases Nat.lt_trichotomy d D with b|rfl|i
  ·obtain⟨v',g,hp,o⟩:=A d b;rw[hd] at g;obtain rfl:=Option.some.inj g;exact absurd m (by simpa using o)
  ·rw[c] at hd;exact Option.some.inj hd
  ·have h0:=hd2 D i v c
   rcases u v c with f|f
   ·omega
   · --r entry found has r same address
    have hvn:v.toNat=n:=by
     have j:=(z7.1 f)
     have l:=(z7.1 m)
     obtain⟨z,s⟩:=j;obtain⟨l2,t⟩:=l;have:=ZF.1 h.nd
     rcases Nat.lt_trichotomy v.toNat n with q|q|q
     ·exact absurd (s.trans t.symm) (this _ _ z l2 q)
     ·exact q
     ·exact absurd (t.trans s.symm) (this _ _ l2 z q)
    omega
 |none=>
  show v= -1
  rcases h.rng _ v c with e|⟨e, -⟩
  ·exact e
  ·exfalso
   rcases u v c with f|f
   ·omega
   ·have:a∈ad:=zh f;have B:=ZQ.1 y a this;simp at B
theorem LI.put(h:LI P ix ad){a:Int}{D:Nat}(A:ix[(hmP P a+D) % P]? =some (-1))(B:∀e,e<D->∃v,ix[(hmP P a+e) % P]? =some v/\0<=v/\ad[v.toNat]? ≠some a)(E:a∉ad)(G:ad.length+1<P):
  LI P (ix.set ((hmP P a+D) % P) ad.length) (ad++ [a]):=by
 have F:(hmP P a+D) % P<ix.length:=by rw[h.len];exact yp _ h.p0
 generalize C:(hmP P a+D) % P=K at*;have c:∀(j:Nat) (v:Int),(ix.set K (ad.length:Int))[j]? =some v->(j=K/\v=ad.length)\/(j≠K/\ix[j]? =some v):=fun j v f=>by
  rw[zx] at f
  split at f
  ·rename_i he;left;exact⟨he.symm,(Option.some.inj f).symm⟩
  ·rename_i he;exact .inr ⟨fun e=>he e.symm,f⟩
 have l:∀(j:Nat) (v:Int),j≠K->ix[j]? =some v->(ix.set K (ad.length:Int))[j]? =some v:=fun j v o f=>by
  rw[zx,if_neg (fun e=>o e.symm)];exact f
 refine⟨h.p0,by rw[zm];exact h.len,fun k v f=>?_,fun n b m=>?_,fun i j v hi o t=>?_,?_,by rw[z8,zA];exact G⟩
 ·rcases c k v f with ⟨-,e⟩|⟨-,e⟩
  ·right;rw[z8,zA];omega
  ·rcases h.rng k v e with e|e
   ·exact .inl e
   ·right;rw[z8,zA];omega
 ·by_cases q:n<ad.length
  ·rw[zB q] at m;obtain⟨d,hd,hd2⟩:=h.hit n b m;refine⟨d,l _ _ (fun e=>?_) hd,fun e he v f=>?_⟩
   ·rw[e,A] at hd;have:=Option.some.inj hd;omega
   ·rcases c _ v f with ⟨-,g⟩|⟨-,g⟩
    ·omega
    ·exact hd2 e he v g
  ·have r:n=ad.length:=by
    have:=(z7.1 m).1;rw[z8,zA] at this;omega
   subst r;rw[zJ (zN _),ZC] at m;obtain rfl:a=b:=Option.some.inj m;refine⟨D,by rw[C,zx,if_pos rfl,if_pos F],fun e he v f=>?_⟩;obtain⟨v',s,t, -⟩:=B e he
   rcases c _ v f with ⟨-,g⟩|⟨-,g⟩
   ·omega
   ·rw[s] at g;have:=Option.some.inj g;omega
 ·rcases c i v hi with ⟨z,g⟩|⟨z,g⟩
  ·rcases c j v o with ⟨f1,f2⟩|⟨f1,f2⟩
   ·omega
   ·rcases h.rng j v f2 with e|e <;>omega
  ·rcases c j v o with ⟨f1,f2⟩|⟨f1,f2⟩
   ·rcases h.rng i v g with e|e <;>omega
   ·exact h.inj i j v g f2 t
 ·rw[yv];refine⟨h.nd,Yd,fun x I y u=>?_⟩;rw[zf] at u;subst u;exact fun e=>E (e ▸ I)
end
theorem LI.new{P:Nat}(d:0<P):LI P (List.replicate P (-1)) []:=
 ⟨d,zD,fun k v c=> .inl (by rw[Zi] at c;split at c;exact(Option.some.inj c).symm;cases c),fun n a e=>(by simp at e),fun j k v b _ h0=>(by
  rw[Zi] at b;split at b
  ·have:=Option.some.inj b;omega
  ·cases b),ym,d⟩
open Go
theorem q2G{vl:jd}{a:Int}:q14 [] vl a=none:=rfl
theorem q0y{x v a:Int}{ad vl:jd}:q14 (x::ad) (v::vl) a=if x=a then some v else q14 ad vl a:=by
 unfold q14;rw[List.idxOf?_cons]
 by_cases h:x=a
 ·subst h;simp
 ·rw[if_neg h,if_neg (by simpa using h)];cases ad.idxOf? a <;>simp
theorem q1Z{a:Int}:∀{ad vl:jd},ad.length=vl.length->(q14 ad vl a=none↔a∉ad)
 | [],_,_=>by simp[q2G]
 |x::ad,[],h=>by simp at h
 |x::ad,v::vl,h=>by
  have b:ad.length=vl.length:=by simpa using h
  rw[q0y,zX,not_or]
  by_cases e:x=a
  ·subst e;simp
  ·rw[if_neg e,q1Z b];exact⟨fun h=>⟨fun c=>e c.symm,h⟩,fun h=>h.2⟩
theorem qd4{a v:Int}:∀{ad vl:jd} {n:Nat},ad.length=vl.length->ad.idxOf? a=some n->∀k,q14 ad (vl.set n v) k=if a=k then some v else q14 ad vl k
 | [],_,_,_,h=>by simp at h
 |x::ad,[],_,c,_=>by simp at c
 |x::ad,w::vl,n,c,h=>by
  intro k;have d:ad.length=vl.length:=by simpa using c
  rw[List.idxOf?_cons] at h
  by_cases e:x=a
  ·subst e;simp at h;subst h;rw[yL,q0y,q0y]
   split <;>rfl
  ·rw[if_neg (by simpa using e)] at h;obtain⟨j,f,rfl⟩:=Zf.1 h;rw[List.set_cons_succ,q0y,q0y,qd4 d f k]
   by_cases b:x=k
   ·rw[if_pos b,if_pos b,if_neg (fun h=>e (b.trans h.symm))]
   ·rw[if_neg b,if_neg b]
theorem qa6{a v:Int}:∀{ad vl:jd},ad.length=vl.length->a∉ad->∀k,q14 (ad++ [a]) (vl++ [v]) k=if a=k then some v else q14 ad vl k
 | [],[],_,_=>fun k=>by rw[zj,zj,q0y]
 | [],_::_,h,_=>by simp at h
 |_::_,[],h,_=>by simp at h
 |x::ad,w::vl,e,c=>fun k=>by
  have d:ad.length=vl.length:=by simpa using e
  rw[zX,not_or] at c;rw[zk,zk,q0y,q0y,qa6 d c.2 k]
  by_cases b:x=k
  ·rw[if_pos b,if_pos b,if_neg (fun h=>c.1 (h.trans b.symm))]
  ·rw[if_neg b,if_neg b]
theorem q2s{cap a v:Int}{ad vl ad' vl':jd}(c:ad.length=vl.length)(h:q2Q cap ad vl a v=some (ad',vl')):
  ad'.length=vl'.length/\ad'=q2O ad a/\∀k,q14 ad' vl' k=if a=k then some v else q14 ad vl k:=by
 unfold q2Q at h
 split at h
 ·rename_i n b;simp only[Option.some.injEq,Prod.mk.injEq] at h;obtain⟨rfl,rfl⟩:=h;refine⟨by rw[zm];exact c,?_,qd4 c b⟩;unfold q2O;rw[if_pos]
  by_cases hm:a∈ad
  ·exact hm
  ·have d:=(List.idxOf?_eq_none_iff (l:=ad) (a:=a)).2 hm;rw[d] at b;cases b
 ·rename_i b
  split at h
  ·cases h
  ·simp only[Option.some.injEq,Prod.mk.injEq] at h;obtain⟨rfl,rfl⟩:=h;have hm:a∉ad:=List.idxOf?_eq_none_iff.1 b;refine⟨by simp[c],?_,qa6 c hm⟩;unfold q2O;rw[if_neg hm]
def lay(ad vl d:jd):jd:=d.mapIdx fun j y=>(q14 ad vl j).getD y
theorem q3d{ad vl d:jd}:(lay ad vl d).length=d.length:=yt
theorem q58{vl d:jd}:lay [] vl d=d:=by
 unfold lay;refine Z8 fun j=>?_
 rw[zW];cases d[j]? <;>rfl
theorem q69{ad vl d:jd}{k:Nat}(h:k<d.length):(lay ad vl d).getD k 0=(q14 ad vl k).getD (d.getD k 0):=by
 unfold lay;rw[zg,zW,zg,z6 h];rfl
theorem q8Z{ad vl ad' vl' d:jd}{a:Nat}{v:Int}(h:∀k,q14 ad' vl' k=if(a:Int)=k then some v else q14 ad vl k):lay ad' vl' d=(lay ad vl d).set a v:=by
 unfold lay;refine Z8 fun j=>?_
 rw[zW,zx,zW,yt]
 by_cases b:j<d.length
 ·rw[z6 b];simp only[Zm,h]
  by_cases e:a=j
  ·subst e;rw[if_pos rfl,if_pos rfl,if_pos b];rfl
  ·rw[if_neg Yb,if_neg e]
 ·rw[zR Yb];simp only[Option.map_none]
  by_cases e:a=j
  ·rw[if_pos e,if_neg Yb]
  ·rw[if_neg e]
theorem qfK{a:Nat}{v:Int}{ad vl d:jd}(c:ad.length=vl.length)(f:(a:Int)∉ad):lay ((a:Int)::ad) (v::vl) d=lay ad vl (d.set a v):=by
 unfold lay;refine Z8 fun j=>?_
 rw[zW,zW,zx]
 by_cases b:j<d.length
 ·rw[z6 b,q0y]
  by_cases e:a=j
  ·subst e;rw[if_pos rfl,if_pos rfl,if_pos b,(q1Z c).2 f];rfl
  ·rw[if_neg Yb,if_neg e]
 ·rw[zR Yb]
  by_cases e:a=j
  ·rw[if_pos e,if_neg Yb];rfl
  ·rw[if_neg e];rfl
theorem qdA{cap:Int}:∀(n:Nat) (a:Int) (l:jd×jd),l.1.length=l.2.length->(q1J cap n a l).2=true->
  (q1J cap n a l).1.1.length=(q1J cap n a l).1.2.length/\(∀k,q14 (q1J cap n a l).1.1 (q1J cap n a l).1.2 k=if a<=k/\k<a+n then some 0 else q14 l.1 l.2 k)
 |0,a,l,b,_=>⟨b,fun k=>by rw[if_neg Yb];rfl⟩
 |n+1,a,l,b,h=>by
  unfold q1J at h ⊢;cases e:q2Q cap l.1 l.2 a 0 with
  |none=>rw[e] at h;cases h
  |some l'=>
   rw[e] at h;obtain⟨f,h2,g⟩:=q2s (ad':=l'.1) (vl':=l'.2) b e;obtain⟨g1,g2⟩:=qdA n (a+1) l' f h;refine⟨g1,fun k=>?_⟩;dsimp only;rw[g2,g]
   by_cases d:a+1<=k/\k<a+1+n
   ·rw[if_pos d,if_pos Yb]
   ·rw[if_neg d]
    by_cases c:a=k
    ·rw[if_pos c,if_pos Yb]
    ·rw[if_neg c,if_neg Yb]
def fw(c:Cfg)(ad:jd):jd:=ad.filter fun w=>decide (w<c.words)
theorem qa5{c:Cfg}{ad:jd}{w:Int}:w∈fw c ad↔w∈ad/\w<c.words:=by
 unfold fw;rw[ZO,decide_eq_true_iff]
theorem qa4{c:Cfg}{ad:jd}{w:Int}:fw c (q2O ad w)=if w<c.words then q2O (fw c ad) w else fw c ad:=by
 unfold q2O
 by_cases h:w∈ad
 ·rw[if_pos h]
  split
  ·rw[if_pos (qa5.2 ⟨h,by assumption⟩)]
  ·rfl
 ·rw[if_neg h];have e:fw c (ad++ [w])=fw c ad++fw c [w]:=yq ..;rw[e]
  split
  ·rename_i hw;rw[if_neg fun a=>h (qa5.1 a).1];rw[show fw c [w]= [w] by simp[fw,hw]]
  ·rename_i hw;rw[show fw c [w]= [] by simp[fw,hw],zC]
def q4z(c:Cfg)(ad vl:jd)(tk:List Bool):List Bool:=tk.mapIdx fun b z=>match q14 ad vl (c.words+(b:Int)) with
 |some v=>decide (v≠0)
 |none=>z
theorem q4A{c:Cfg}{ad vl:jd}{tk:List Bool}:(q4z c ad vl tk).length=tk.length:=yt
theorem q6O{c:Cfg}{vl:jd}{tk:List Bool}:q4z c [] vl tk=tk:=by
 unfold q4z;refine Z8 fun j=>?_
 rw[zW];cases tk[j]? <;>rfl
theorem q57{c:Cfg}{ad vl:jd}{tk:List Bool}{b:Nat}(h:b<tk.length):(q4z c ad vl tk).getD b false=(match q14 ad vl (c.words+(b:Int)) with
 |some v=>decide (v≠0)
 |none=>tk.getD b false):=by
 unfold q4z;rw[zg,zW,zg,z6 h];rfl
theorem q7H{c:Cfg}{ad vl ad' vl':jd}{tk:List Bool}(h:∀b:Nat,b<tk.length->q14 ad' vl' (c.words+(b:Int))=q14 ad vl (c.words+(b:Int))):q4z c ad' vl' tk=q4z c ad vl tk:=by
 unfold q4z;refine Z8 fun j=>?_
 rw[zW,zW]
 by_cases a:j<tk.length
 ·rw[z6 a];simp only[Zm,h j a]
 ·rw[zR Yb];rfl
theorem qad{c:Cfg}{ad vl ad' vl':jd}{tk:List Bool}{b:Nat}{v:Int}(h:∀j:Nat,j<tk.length->q14 ad' vl' (c.words+(j:Int))=if b=j then some v else q14 ad vl (c.words+(j:Int))):q4z c ad' vl' tk=(q4z c ad vl tk).set b (decide (v≠0)):=by
 unfold q4z;refine Z8 fun j=>?_
 rw[zW,zx,zW,yt]
 by_cases a:j<tk.length
 ·rw[z6 a];simp only[Zm,h j a]
  by_cases e:b=j
  ·subst e;rw[if_pos rfl,if_pos rfl,if_pos a]
  ·rw[if_neg e,if_neg e]
 ·rw[zR Yb];simp only[Option.map_none]
  by_cases e:b=j
  ·rw[if_pos e,if_neg Yb]
  ·rw[if_neg e]
theorem qae{ad vl ad' vl' d:jd}(h:∀k:Nat,k<d.length->q14 ad' vl' k=q14 ad vl k):lay ad' vl' d=lay ad vl d:=by
 unfold lay;refine Z8 fun j=>?_
 rw[zW,zW]
 by_cases a:j<d.length
 ·rw[z6 a];simp only[Zm,h j a]
 ·rw[zR Yb];rfl
def mix(c:Cfg)(d:jd)(tk:List Bool):jd:=d++tk.mapIdx fun b z=>if z then ql c b+1 else 0
theorem q42{c:Cfg}{d:jd}{tk:List Bool}:(mix c d tk).length=d.length+tk.length:=by
 unfold mix;rw[z8,yt]
theorem qal{c:Cfg}{d:jd}{tk:List Bool}{k:Nat}(h:k<d.length):(mix c d tk).getD k 0=d.getD k 0:=by
 unfold mix;rw[zg,zB h,zg]
theorem q7I{c:Cfg}{d:jd}{tk:List Bool}{b:Nat}(h:b<tk.length):(mix c d tk).getD (d.length+b) 0=if tk.getD b false then ql c b+1 else 0:=by
 unfold mix;rw[zg,zJ (ZL ..),Za,zW,zg,z6 h];rfl
theorem qdk{c:Cfg}{ad vl d:jd}{tk:List Bool}(hd:(d.length:Int)=c.words)(h:∀(b:Nat) v,b<tk.length->q14 ad vl (c.words+(b:Int))=some v->v=0\/v=ql c b+1)(m:∀b:Nat,b<tk.length->ql c b+1≠0):mix c (lay ad vl d) (q4z c ad vl tk)=lay ad vl (mix c d tk):=by
 refine Z8 fun j=>?_
 by_cases f:j<d.length+tk.length
 ·have g:j<(mix c (lay ad vl d) (q4z c ad vl tk)).length:=by rw[q42,q3d,q4A];exact f
  have i:j<(lay ad vl (mix c d tk)).length:=by rw[q3d,q42];exact f
  have key:(mix c (lay ad vl d) (q4z c ad vl tk)).getD j 0=(lay ad vl (mix c d tk)).getD j 0:=by
   rw[q69 (by rw[q42];exact f)]
   by_cases a:j<d.length
   ·rw[qal (by rw[q3d];exact a),qal a,q69 a]
   ·obtain⟨b,rfl⟩:∃b,j=d.length+b:=⟨j-d.length,Yb⟩
    have hb:b<tk.length:=Yb;have l:((d.length+b:Nat):Int)=c.words+(b:Int):=Yb;rw[q7I hb,l,show d.length+b=(lay ad vl d).length+b by rw[q3d],q7I (by rw[q4A];exact hb),q57 hb];cases e:q14 ad vl (c.words+(b:Int)) with
    |none=>rfl
    |some v=>
     dsimp only[Option.getD_some]
     rcases h b v hb e with rfl|rfl
     ·rfl
     ·exact if_pos (decide_eq_true (m b hb))
  rw[zg,zg,z6 g,z6 i] at key;rw[z6 g,z6 i];exact congrArg some key
 ·rw[zR (by rw[q42,q3d,q4A];omega),zR (by rw[q3d,q42];omega)]
theorem q8u(b:BM)(a:Nat):∀n,wrL b a (n+1)=wrL (wrM b a 0) (a+1) n
 |0=>rfl
 |n+1=>by
  show wrM (wrL b a (n+1)) (a+(n+1)) 0=wrM (wrL (wrM b a 0) (a+1) n) (a+1+n) 0;rw[q8u b a n,show a+(n+1)=a+1+n by omega]
theorem qay{c:Cfg}{cap:Int}{tk:List Bool}{th:Thr}{r:jd}{o:List ObM}{z d:jd}:∀(n:Nat) (a:Nat) (l:jd×jd),l.1.length=l.2.length->((a+n:Nat):Int)<=c.words->(q1J cap n a l).2=true->
  wrL ⟨lay l.1 l.2 d,tk,th,r,fw c l.1,o,z⟩ a n=⟨lay (q1J cap n a l).1.1 (q1J cap n a l).1.2 d,tk,th,r,fw c (q1J cap n a l).1.1,o,z⟩
 |0,a,l,_,_,_=>rfl
 |n+1,a,l,j,ha,h=>by
  rw[q8u];unfold q1J at h ⊢;cases e:q2Q cap l.1 l.2 (a:Int) 0 with
  |none=>rw[e] at h;cases h
  |some l'=>
   rw[e] at h;obtain⟨f,g,i⟩:=q2s (ad':=l'.1) (vl':=l'.2) j e;have m:=qay (c:=c) (tk:=tk) (th:=th) (r:=r) (o:=o) (z:=z) (d:=d) n (a+1) l' f Yb h;show wrL ⟨(lay l.1 l.2 d).set a 0,tk,th,r,q2O (fw c l.1) a,o,z⟩ (a+1) n=_;rw[<-q8Z i];have b:q2O (fw c l.1) (a:Int)=fw c l'.1:=by rw[g,qa4,if_pos Yb]
   rw[b];exact m
inductive Rn (c:Cfg) (p:jf) (b:BM):BM->Prop
 |nil:Rn c p b b
 |snoc {b':BM} {i:Ins}:Rn c p b b'->p[b'.t.pc]? =some i->(q0d c b' i).2=0->Rn c p b (q0d c b' i).1
theorem qn4{b:BM}{a:Nat}:∀n,(wrL b a n).t=b.t
 |0=>rfl
 |n+1=>(qn4 n:(wrM (wrL b a n) (a+n) 0).t=b.t)
theorem qmW{c:Cfg}{b:BM}{i:Ins}(h:(q0d c b i).2=0):b.t.pc<(q0d c b i).1.t.pc:=by
 unfold q0d at h ⊢
 split
 ·split
  ·exact Zs _
  ·exact Zs _
 ·split
  ·split
   ·exact Zs _
   ·exact Zs _
  ·split
   ·rename_i a d e;rw[if_neg a,if_neg d,if_pos e] at h
    split
    ·rename_i f;rw[f] at h;cases h
    ·unfold BM.put;dsimp only;rw[qn4];exact Zs _
   ·split
    ·split
     ·exact Zs _
     ·exact Zs _
    ·split
     ·exact Zs _
     ·split
      ·exact Zs _
      ·show b.t.pc<q1B b.t i;unfold q1B
       split <;>omega
theorem Rn.run{c:Cfg}{p:jf}{b a:BM}(h:Rn c p b a):∃k,b.t.pc+k<=a.t.pc/\∀f,q4k c p (k+f) b=q4k c p f a:=by
 induction h with
 |nil=>exact⟨0,zN _,fun f=>by rw[zy]⟩
 | @snoc a i h1 hi d g=>
  obtain⟨k,hk,e⟩:=g;have:=qmW d;refine⟨k+1,Yb,fun f=>?_⟩;rw[yf,yR 1 f,e (f+1),q4k];simp only[hi];rw[if_pos d]
theorem Rn.fin{c:Cfg}{p:jf}{b a:BM}{i:Ins}(h:Rn c p b a)(hi:p[a.t.pc]? =some i)(d:(q0d c a i).2≠0):q4k c p p.length b=q0d c a i:=by
 obtain⟨k,hk,g⟩:=h.run;have hl:=(z7.1 hi).1;obtain⟨f,e⟩:∃f,p.length=k+(f+1):=⟨p.length-k-1,Yb⟩
 rw[e,g (f+1),q4k];simp only[hi];rw[if_neg d]
structure PrO(p:jf):Prop where
 ck:qB p=(0,0)
section
variable{p:jf}{k:Nat}{x:Ins}
theorem qhC(h:qB p=(0,0))(c:p[k]? =some x):0<=x.op/\x.op<18/\(stB p k<0->x.op≠8/\x.op≠9/\x.op≠10/\x.op≠11/\x.op≠14/\x.op≠15)/\(0<=stB p k->x.op≠7/\x.op≠12/\x.op≠13/\x.op≠16/\x.op≠17):=by
 have b:=qcB h c;have hi:=q2Z h c;have ho:¬(x.op<0\/18<=x.op):=fun e=>by
  have:=hi.1;unfold qH at this;rw[if_pos e] at this;cases this
 refine⟨Yb,Yb,fun hb=>⟨fun e=>by have:=hi.2.2.1 e;omega,fun e=>by have:=hi.2.2.2.2 (.inl e);omega,fun e=>by have:=hi.2.2.2.2 (.inr (.inl e));omega,fun e=>by have:=hi.2.2.2.2 (.inr (.inr (.inl e)));omega,fun e=>by have:=hi.2.2.2.2 (.inr (.inr (.inr (.inl e))));omega,fun e=>by have:=hi.2.2.2.2 (.inr (.inr (.inr (.inr e))));omega⟩,fun hb=>?_⟩;have g:x.op≠7:=fun e=>by have:=hi.2.1 e;omega
 unfold q7K at b;rw[if_neg (by rw[hi.1];decide),if_neg Yb] at b;have a:¬q1q x=2:=fun e=>by
  rw[if_pos (.inr ⟨e,hb⟩)] at b;cases b
 refine⟨g,?_⟩;unfold q1q at a;rw[if_pos hi.1] at a
 by_cases d:x.op=8\/x.op=9\/x.op=10\/x.op=11\/x.op=14\/x.op=15
 ·omega
 ·rw[if_neg d] at a
  by_cases f:x.op=7\/x.op=12\/x.op=13\/x.op=16\/x.op=17
  ·rw[if_pos f] at a;exact absurd rfl a
  ·omega
theorem qjj(h:qB p=(0,0)){th:Thr}(g:p[th.pc]? =some x)(e:x.op≠9):((q1B th x:Nat):Int)∈q2V p th.pc x:=by
 have a:=q4w h g;unfold q2V at a ⊢;unfold q1B
 by_cases b:x.op=4
 ·rw[if_pos b] at a ⊢;rw[if_pos (.inl b)];obtain⟨j,f,d,_⟩:=a _ (zf.2 rfl);rw[zf];omega
 ·rw[if_neg b] at a ⊢
  by_cases c:x.op=5\/x.op=6
  ·rw[if_pos c] at a ⊢
   split
   ·obtain⟨j,f,d,_⟩:=a _ (zr _ (zf.2 rfl));refine zr _ (zf.2 ?_);omega
   ·exact zX.2 (.inl Yb)
  ·rw[if_neg c,if_neg e] at a ⊢;rw[if_neg Yb,zf];omega
theorem qdh(h:qB p=(0,0)){th:Thr}(c:p[th.pc]? =some x)(a:x.op≠9):th.pc<q1B th x/\q1B th x<=p.length/\(0<=stB p th.pc->x.op≠8->q1B th x<=q1y (p.drop th.pc) th.pc)/\
  (stB p th.pc<0->∀(b:Nat) (y:Ins),th.pc<b->p[b]? =some y->y.op=7->q1B th x<=b\/q0B p b<q1B th x):=by
 obtain⟨j,hj,e,f,g,i⟩:=q4w h c _ (qjj h c a);obtain rfl:q1B th x=j:=Yb;exact⟨e,f,fun d l=>(g d l).1 a,i⟩
theorem q7F(d:PrO p){b:Nat}{ib:Ins}(hb:p[b]? =some ib)(m:ib.op=7)(j:b<k)(f:k<=q0B p b):stB p k=b/\q1y (p.drop k) k=q0B p b/\k<p.length/\∃i,p[k]? =some i/\
  (i.op=8\/i.op=9\/i.op=10\/i.op=11\/i.op=14\/i.op=15\/(0<=i.op/\i.op<=6))/\qH i=0/\(k<q0B p b->i.op≠8):=by
 obtain⟨c,n,h3,h4,_,_,l⟩:=q0v d.ck hb m;rw[n] at f ⊢;obtain⟨e,g,h⟩:=l k j f;refine⟨e,g,Yb,?_⟩;obtain⟨i,hi⟩:∃i,p[k]? =some i:=⟨_,z6 Yb⟩
 obtain⟨r1,r2,_,r3⟩:=qhC d.ck hi;have r3:=r3 (by rw[e];omega);exact⟨i,hi,Yb,(q2Z d.ck hi).1,fun a=>(h a i hi).2⟩
theorem qi2(b:PrO p)(a:stB p k<0)(c:p[k]? =some x):x.op=7\/x.op=12\/x.op=13\/x.op=16\/x.op=17\/(0<=x.op/\x.op<=6):=by
 obtain⟨r1,r2,r3,_⟩:=qhC b.ck c;have:=r3 a;omega
theorem qkx(h:qB p=(0,0)){j:Nat}(hk:stB p k<0)(hkj:k<j)(q:j<=p.length)(B:p[k]? =some x)(v:x.op≠7)(A:∀(b:Nat) (y:Ins),k<b->p[b]? =some y->y.op=7->j<=b\/q0B p b<j):stB p j<0:=by
 rcases (qcA h q).bb with e|⟨s,h1,t⟩
 ·omega
 ·exfalso
  --the begin lies behind k
  have f:∀(n:Nat),n<=p.length->0<=stB p n->∃y,p[(stB p n).toNat]? =some y/\y.op=7:=by
   intro n
   induction n with
   |zero=>intro _ h;simp[stB] at h
   |succ n C=>
    intro hn d;obtain⟨z,r⟩:∃z,p[n]? =some z:=⟨_,z6 Yb⟩
    rw[q2d r] at d ⊢;unfold q0w at d ⊢
    by_cases i:z.op=7
    ·rw[if_pos i];exact⟨z,by simpa using r,i⟩
    ·rw[if_neg i] at d ⊢
     by_cases o:z.op=8
     ·rw[if_pos o] at d;omega
     ·rw[if_neg o] at d ⊢;exact C Yb d
  obtain⟨y,g,a⟩:=f j q s;obtain⟨c,hc,h3,h4,_,h5,u⟩:=q0v h g a;have hle:j<=q0B p (stB p j).toNat:=by rw[t];exact(q3b _ _).1
  by_cases m:k<(stB p j).toNat
  ·rcases A _ y m g a with e|e <;>omega
  ·by_cases l:k=(stB p j).toNat
   ·rw[<-l,B] at g;cases g;exact v a
   ·have:=(u k Yb Yb).1;omega
end
open Go Go.ChangeShapes Go.WideShapes Go.ChangeAt Go.RowKit
theorem qdf{α:Type}{Q:Nat->α->Prop}:∀n,(∀i,i<n->∃y,Q i y)->∃l:List α,l.length=n/\∀i y,l[i]? =some y->Q i y
 |0,_=>⟨[],rfl,fun i y h=>by simp at h⟩
 |n+1,h=>by
  obtain⟨l,c,d⟩:=qdf n (fun i hi=>h i Yb);obtain⟨y,e⟩:=h n Yb;refine⟨l++ [y],by simp[c],fun i z a=>?_⟩
  by_cases hi:i<l.length
  ·rw[zB hi] at a;exact d i z a
  ·rw[zJ Yb] at a;have:i-l.length=0:=by
    by_cases b:i-l.length=0
    ·exact b
    ·rw[zR (by simp;omega)] at a;cases a
   rw[this] at a;simp only[Zr,Option.some.injEq] at a;subst a;have:i=n:=Yb;subst this;exact e
section
variable{H:Type}{enc:TypeId×Value->H}{P:Program}{w:World}{spare:Nat->Bool}{held:Bool}
theorem qiK{own:Own}{a:Addr}{v:Value}(h:w.cell? a=some v):Kn w own (fun b=>b.cell? a=some v):=fun b hw=>by
 have hb:a.block<w.heap.size:=by
  unfold World.cell? at h
  split at h
  ·rename_i hb;exact(Zg.1 hb).1
  ·cases h
 exact(World.cell?_of_block (w:=w) (hw.base a.block hb)).trans h
theorem qhm{fuel:Nat}{t:TypeId}{cs:je}{x:DataW H×List MemPlace}{k:IntKind}(a:P.underlying t=some (.int k))(h:DataW.trod enc P w 0 spare held fuel t cs=some x):∃n,cs= [.int k n]/\inK k n:=by
 obtain⟨n,rfl,_,hw⟩:=DataW.trod_int a h;refine⟨n,rfl,qd6 ?_⟩;simp only[Lit.wf,zH,decide_eq_true_eq] at hw;exact hw
end
end Go.Proofs.YtfnghamklcdgnaaGreatDoor
