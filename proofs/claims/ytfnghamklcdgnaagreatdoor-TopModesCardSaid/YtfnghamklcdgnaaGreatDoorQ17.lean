/- What the laws share, part 17. No condition. -/
import Derived.Test.YtfnghamklcdgnaaGreatDoorQ16
set_option maxHeartbeats 16000000
set_option maxRecDepth 10000
namespace Go.Proofs.YtfnghamklcdgnaaGreatDoor
open Go
def upR(r:Nat->List (Int×Int))(t:Nat)(l:List (Int×Int)):Nat->List (Int×Int):=fun u=>if u=t then l else r u
section
variable{c:Cfg}{ps:List (jf)}{n k:Nat}{m m':MS}{xs:List GT}{g g':GS}{r r':Nat->List (Int×Int)}{t u:Nat}{x x':GT}{a b:AT}{p:jf}{i:Ins}
theorem q6x{l:List (Int×Int)}:upR r t l t=l:=if_pos rfl
theorem qb6{l:List (Int×Int)}(h:u≠t):upR r t l u=r u:=if_neg h
structure Qt(y z:AT):Prop where
 fl:fl z= []
 rv:z.rv=y.rv
 tk:z.ph.tick=false
 wr:∀A V,z.ph≠ .wr A V
theorem Qt.of{y z:AT}{q:AP}(e:z.ph=q)(d:∀n b v,q≠ .rd n b v)(j:q.tick=false)(o:∀A V,q≠ .wr A V)(w:z.rv=y.rv):Qt y z:=⟨q1O fun _ _ _ h=>d _ _ _ (e.symm.trans h),w,by rw[e];exact j,fun _ _ h=>o _ _ (e.symm.trans h)⟩
theorem Qt.id{y z:AT}(e:z.ph= .idle)(d:z.rv=y.rv):Qt y z:=Qt.of e (fun _ _ _ h=>by cases h) rfl (fun _ _ h=>by cases h) d
theorem Qt.tr{w y z:AT}(h:Qt y z)(e:y.rv=w.rv):Qt w z:=⟨h.fl,h.rv.trans e,h.tk,h.wr⟩
theorem Qt.endA(y:AT)(q:Int):Qt y (y.endA c q):=by
 unfold AT.endA
 split
 ·exact Qt.of rfl (fun _ _ _ h=>by cases h) rfl (fun _ _ h=>by cases h) rfl
 ·exact Qt.of rfl (fun _ _ _ h=>by cases h) rfl (fun _ _ h=>by cases h) rfl
theorem Qt.fin(y:AT):Qt y y.fin:=by
 unfold AT.fin
 split
 ·exact Qt.of rfl (fun _ _ _ h=>by cases h) rfl (fun _ _ h=>by cases h) rfl
 ·exact Qt.of rfl (fun _ _ _ h=>by cases h) rfl (fun _ _ h=>by cases h) rfl
theorem Qt.undo(y:AT)(q:Int):Qt y (y.undo q):=(Qt.fin {y with code:=q}).tr rfl
theorem Qt.frd(y:AT)(d:y.ph= .idle)(b v:Int):Qt y (y.frd c b v):=by
 unfold AT.frd
 split
 ·exact Qt.endA y 8
 ·split
  ·exact Qt.undo y 3
  ·split
   ·exact Qt.id d rfl
   ·exact Qt.undo y 3
theorem Qt.allo(y:AT)(d:y.ph= .idle)(kc b:Int):Qt y (y.allo c kc b):=by
 unfold AT.allo
 split
 ·exact Qt.undo y 4
 ·split
  ·exact(Qt.undo {y with al:=y.al++ [b]} 3).tr rfl
  ·split
   ·exact Qt.id d rfl
   ·exact(Qt.undo {y with al:=y.al++ [b],ad:=_,vl:=_} 3).tr rfl
theorem Qt.kont(y:AT)(d:y.ph= .idle)(q:Ko):Qt y (y.kont c q):=by
 cases q with
 |en q=>exact Qt.endA y q
 |tk v=>exact Qt.id d rfl
 |wr w v=>
  unfold AT.kont;dsimp only
  split
  ·exact Qt.endA y 7
  ·split
   ·exact Qt.id d rfl
   ·exact Qt.undo y 3
 |ud q=>exact Qt.undo y q
 |fd b v=>exact Qt.frd y d b v
theorem qdB:Qt a (qf c t m a).2.1\/a.ph= .ent 1\/(∃b v,a.ph= .rd 0 b v\/a.ph= .rd 1 b v)\/a.ph.tick=true\/∃s ld,a.ph= .lk s ld\/a.ph= .tn false:=by
 cases e:a.ph with
 |idle=>left;rw[show(qf c t m a).2.1=a by unfold qf;rw[e]];exact Qt.id e rfl
 |loc q=>left;rw[show(qf c t m a).2.1=AT.kont c {a with ph:= .idle} q by unfold qf;rw[e]];exact(Qt.kont {a with ph:= .idle} rfl q).tr rfl
 |ent j=>
  by_cases o:j=1
  ·subst o;exact .inr (.inl rfl)
  ·left;unfold qf;rw[e];dsimp only
   by_cases d:j=0
   ·rw[if_pos d];exact Qt.of rfl (fun _ _ _ h=>by cases h) rfl (fun _ _ h=>by cases h) rfl
   ·rw[if_neg d,if_neg o];exact Qt.id rfl rfl
 |rd j b v=>
  by_cases d:j=0
  ·subst d;exact .inr (.inr (.inl ⟨b,v, .inl rfl⟩))
  ·by_cases o:j=1
   ·subst o;exact .inr (.inr (.inl ⟨b,v, .inr rfl⟩))
   ·left;unfold qf;rw[e];dsimp only;rw[if_neg d,if_neg o];dsimp only
    split
    ·exact Qt.undo a 9
    ·split
     ·exact(Qt.undo {a with seen:=a.saw c} 3).tr rfl
     ·unfold AT.got
      split
      ·exact Qt.id rfl rfl
      ·exact(Qt.frd {a with seen:=a.saw c,set:=_,ph:= .idle} rfl _ _).tr rfl
 |pp j kc h v=>
  left;unfold qf;rw[e];dsimp only
  split
  ·dsimp only
   split
   ·exact(Qt.allo {a with ph:= .idle} rfl _ _).tr rfl
   ·exact Qt.of rfl (fun _ _ _ h=>by cases h) rfl (fun _ _ h=>by cases h) rfl
  ·split
   ·exact Qt.of rfl (fun _ _ _ h=>by cases h) rfl (fun _ _ h=>by cases h) rfl
   ·split
    ·exact(Qt.allo {a with ph:= .idle} rfl _ _).tr rfl
    ·exact Qt.of rfl (fun _ _ _ h=>by cases h) rfl (fun _ _ h=>by cases h) rfl
 |lk s ld=>exact .inr (.inr (.inr (.inr ⟨s,ld, .inl rfl⟩)))
 |tn b=>cases b with
  |false=>exact .inr (.inr (.inr (.inr ⟨0,false, .inr rfl⟩)))
  |true=>exact .inr (.inr (.inr (.inl rfl)))
 |ck l=>exact .inr (.inr (.inr (.inl rfl)))
 |dc=>exact .inr (.inr (.inr (.inl rfl)))
 |wr A V=>exact .inr (.inr (.inr (.inl rfl)))
 |rl l w=>exact .inr (.inr (.inr (.inl rfl)))
 |sp=>exact .inr (.inr (.inr (.inl rfl)))
 |ps=>exact .inr (.inr (.inr (.inl rfl)))
 |ph j b h=>
  left;unfold qf;rw[e];dsimp only;generalize q0p c m j b h=q;obtain⟨m',z,ac,p⟩:=q;cases z with
  |none=>exact(Qt.fin {a with pu:=a.pu+1}).tr rfl
  |some z=>exact Qt.of rfl (fun _ _ _ h=>by cases h) rfl (fun _ _ h=>by cases h) rfl
 |lv=>left;unfold qf;rw[e];exact Qt.id rfl rfl
theorem q9a(b:AT):b.rest.tk=b.tk:=by unfold AT.rest;split <;>rfl
theorem qlR(b:AT):b.fin.tk=b.tk:=by unfold AT.fin;split <;>rfl
theorem qkE(h:(qf c t m a).2.1.ph.tick=true):(a.ph.tick=true/\(qf c t m a).2.1.tk=a.tk)\/(qf c t m a).2.1.tk=m.tk:=by
 rcases qdB (c:=c) (t:=t) (m:=m) (a:=a) with j|e|⟨b,v,e⟩|d|⟨s,ld,e⟩
 ·rw[j.tk] at h;cases h
 ·unfold qf at h;rw[e] at h;cases h
 ·exfalso
  rcases e with e|e
  ·rw[q9u e] at h;dsimp only at h
   split at h
   ·rw[(Qt.undo a 9).tk] at h;cases h
   ·cases h
  ·unfold qf at h;rw[e] at h;cases h
 ·left;refine⟨d,?_⟩;unfold qf;cases e:a.ph with
  |tn b=>
   cases b with
   |false=>rw[e] at d;cases d
   |true=>
    dsimp only;rw[if_neg Yc];dsimp only
    split
    ·split <;>rfl
    ·rfl
  |ck l=>
   dsimp only
   split
   ·rw[q9a]
   ·split <;>rfl
  |dc=>
   dsimp only
   split
   ·rw[q9a]
   ·split
    ·rfl
    ·rw[q9a]
  |wr A V=>dsimp only;split <;>rfl
  |rl l w=>dsimp only;split <;>rfl
  |sp=>rfl
  |ps=>exact qlR a
  |_=>exact absurd ((congrArg AP.tick e).symm.trans d) (fun h=>Bool.noConfusion h)
 ·rcases e with e|e
  ·exfalso;rw[q34 e] at h
   split at h
   ·cases h
   ·split at h
    ·exact Bool.noConfusion (h.symm.trans (show(if a.old.length+1=a.oc.length then AP.tn false else AP.lk s false).tick=false by split <;>rfl))
    ·cases h
  ·rw[q3h e];exact .inr rfl
theorem Pd.set{o:Int}(z:xs[t]? =some x)(E:∀a,x.at'=some a->a.dn=true->o∈pnd a->(∃d,x'.at'=some d/\d.dn=true/\o∈pnd d)\/m.ck<q1T m' o)(h:Pd xs o):Pd (xs.set t x') o\/m.ck<q1T m' o:=by
 obtain⟨u,y,b,j,hb,hd,w⟩:=h
 by_cases e:u=t
 ·subst e;rw[z] at j;cases j
  rcases E b hb hd w with ⟨d,A,C,D⟩|h
  ·exact .inl ⟨u,x',d,q0H z,A,C,D⟩
  ·exact .inr h
 ·exact .inl ⟨u,y,b,by rw[q0R e];exact j,hb,hd,w⟩
theorem q0m.ppb(h:q0m c ps n k m xs g r)(o:xs[t]? =some x)(j:x.at'=some a):PpB c m a:=by
 cases d:a.dn with
 |false=>exact(h.ho.pop0 o j d).1
 |true=>
  intro k hh nx e;have:=(h.ai t x a o j).ph;unfold PhA at this;rw[e] at this;rw[this.1.1] at d;cases d
theorem q0m.put(hC:COk c)(hn:n<=16)(hk:k<=100000)(h:q0m c ps n k m xs g r)(F:xs[t]? =some x)(R:x.at'=some a)
  (Y:∀D,x'.at'=some D->D=(qf c t m a).2.1/\a.ph≠ .lv) (h1:g'.T.length=n) (h2:g'.O.length=n) (h3:(g'.d.length:Int)=c.words) (h4:(g'.tk.length:Int)=qh c) (aj:q0o c (k+1) (qf c t m a).1 (xs.set t x') g'.tk) (hu:∀u,u≠t->g'.T[u]? =g.T[u]? /\g'.O.getD u []=g.O.getD u []/\r' u=r u)
  (aw:∀p,ps[t]? =some p->ThR c p g'.T[t]? (g'.O.getD t []) x' (r' t)) (az:∀D,x'.at'=some D->D.dn=false->VA c (qf c t m a).1 (xs.set t x') (mix c g'.d g'.tk) D (r' t))
  (hP:a.dn=true->∀o∈pnd a,(∃D,x'.at'=some D/\D.dn=true/\o∈pnd D)\/m.ck<q1T (qf c t m a).1 o)
  (hd:∀(q:Int×Int),0<=q.1->q.1<c.words+qh c->(mix c g'.d g'.tk).getD q.1.toNat 0=(mix c g.d g.tk).getD q.1.toNat 0\/Pd (xs.set t x') (qC c q.1)) (aq:MR (xs.set t x') (qf c t m a).1.d (mix c g'.d g'.tk)):q0m c ps n (k+1) (qf c t m a).1 (xs.set t x') g' r':=by
 have ay:t<n:=by rw[<-h.xl];exact(z7.1 F).1
 have hA:=h.ai t x a F R;obtain⟨s1,s2,s3⟩:=hA.step hC hn ay hk h.gm (h.ppb F R);have av:a.ph.hold=true->a.ph.tick=true/\a.tk=m.sv:=fun e=>⟨q55 e,hA.ho e⟩
 have ae:∀o,Pd xs o->Pd (xs.set t x') o\/m.ck<q1T (qf c t m a).1 o:=fun o ho=>Pd.set F (fun b hb hd hm=>by rw[R] at hb;cases hb;exact hP hd o hm) ho
 refine⟨s2,by rw[zm];exact h.xl,h.pl,h1,h2,h3,fun u y b A hb=>?_,fun u v y z b d A L hb G W O K=>?_,fun u y p A hp=>?_,fun u y b A hb H=>?_,aq,h4,aj⟩
 ·by_cases e:u=t
  ·subst e;rw[q0H F] at A;cases A;obtain⟨rfl,V⟩:=Y b hb;exact s1 V
  ·rw[q0R e] at A;exact(h.ai u y b A hb).frame e s3 (fun f1 f2=>h.ds t u x y a b F A R hb (fun e'=>e e'.symm) f1 f2) av
 ·have own:∀(w:Nat) (q:GT) (d:AT),w≠t->xs[w]? =some q->q.at'=some d->d.ph.tick=true->∀D,x'.at'=some D->D.ph.tick=true->D.tk≠d.tk:=fun w q d hw C hd K D af O=>by
   obtain⟨rfl,V⟩:=Y D af
   rcases qkE O with ⟨f1,f2⟩|f2
   ·rw[f2];exact h.ds t w x q a d F C R hd (fun e'=>hw e'.symm) f1 K
   ·rw[f2];have:=((h.ai w q d C hd).tk K).2;omega
  by_cases Z:u=t
  ·subst Z;rw[q0H F] at A;cases A;have hv:v≠u:=fun e=>W e.symm
   rw[q0R hv] at L;exact own v z d hv L G K b hb O
  ·rw[q0R Z] at A
   by_cases ev:v=t
   ·subst ev;rw[q0H F] at L;cases L;exact fun e=>own u y b Z A hb O d G K e.symm
   ·rw[q0R ev] at L;exact h.ds u v y z b d A L hb G W O K
 ·by_cases e:u=t
  ·subst e;rw[q0H F] at A;cases A;exact aw p hp
  ·rw[q0R e] at A;obtain⟨f1,f2,f3⟩:=hu u e;rw[f1,f2,f3];exact h.th u y p A hp
 ·by_cases e:u=t
  ·subst e;rw[q0H F] at A;cases A;exact az b hb H
  ·rw[q0R e] at A;obtain⟨f1,f2,f3⟩:=hu u e;rw[f3];have T:=h.ai u y b A hb;have au:u<ps.length:=by rw[h.pl,<-h.xl];exact(z7.1 A).1
   have P:=h.th u y _ A (z6 au);unfold ThR at P;rw[hb] at P;dsimp only at P;rw[if_neg (by rw[H];decide)] at P;have J:=P.2.2
   by_cases I:b.ph.past=true
   ·refine(h.va u y b A hb H).step s3 (T.rv I).2 ae fun q C=>?_
    rcases zw.1 C with C|C
    ·exact hd q (J.rr q C).1 (J.rr q C).2.1
    ·unfold fl at C;have E:=T.ph;unfold PhA at E;cases eb:b.ph <;>rw[eb] at C E <;>dsimp only at C E <;>first|cases C|skip
     split at C
     ·cases C
     ·rw[zf.1 C];exact hd _ E.2.2.1 E.2.2.2.1
   ·right;intro q C;exfalso;have U:∃j,b.ph= .ent j:=by
     cases eb:b.ph <;>rw[eb] at I <;>first|exact⟨_,rfl⟩|exact absurd rfl I
    obtain⟨j,hj⟩:=U;rw[J.ent hj] at C;unfold fl at C;rw[hj] at C;cases C
end
open Go
section
variable{c:Cfg}{ps:List (jf)}{n k:Nat}{m m':MS}{xs:List GT}{g g':GS}{r r':Nat->List (Int×Int)}{t u:Nat}{x x':GT}{a b:AT}{p:jf}{i:Ins}
theorem q45(y:AT):fl y.rest= []/\y.rest.rv=y.rv:=by
 unfold AT.rest
 split <;>exact⟨rfl,rfl⟩
theorem qeS:(∀q,q∈fl (qf c t m a).2.1->q∈fl a\/((∃bf v,a.ph= .rd 1 bf v)/\q=(a.addr,m.d.getD a.addr.toNat 0)))/\((qf c t m a).2.1.rv=a.rv\/a.ph= .ent 1):=by
 have none:∀y:AT,fl y= []->y.rv=a.rv->(∀q,q∈fl y->q∈fl a\/((∃bf v,a.ph= .rd 1 bf v)/\q=(a.addr,m.d.getD a.addr.toNat 0)))/\(y.rv=a.rv\/a.ph= .ent 1):=fun y o C=>⟨fun q d=>(by rw[o] at d;cases d), .inl C⟩
 rcases qdB (c:=c) (t:=t) (m:=m) (a:=a) with d|e|⟨b,v,e⟩|j|⟨s,ld,e⟩
 ·exact none _ d.fl d.rv
 ·refine⟨fun q d=>?_, .inr e⟩;unfold qf at d;rw[e] at d;cases d
 ·rcases e with e|e
  ·rw[q9u e];dsimp only
   split
   ·exact none _ (Qt.undo a 9).fl (Qt.undo a 9).rv
   ·exact none _ (by unfold fl;exact if_pos (.inr rfl)) rfl
  ·rw[show(qf c t m a).2.1={a with ph:= .rd 2 b (m.d.getD a.addr.toNat 0)} by unfold qf;rw[e];rfl];refine⟨fun q d=> .inr ⟨⟨b,v,e⟩,?_⟩, .inl rfl⟩;unfold fl at d;dsimp only at d;rw[if_neg Yc] at d;exact zf.1 d
 ·obtain⟨z,e⟩:∃z,a.ph=z:=⟨_,rfl⟩
  cases z with
  |tn b=>
   cases b with
   |false=>rw[e] at j;cases j
   |true=>
    rw[q3i e];dsimp only
    split
    ·split
     ·exact none _ rfl rfl
     ·exact none _ rfl rfl
    ·exact⟨fun q d=> .inl d, .inl rfl⟩
  |ck l=>
   rw[q6t e];dsimp only
   split
   ·exact none _ (q45 _).1 (q45 _).2
   ·split
    ·exact none _ rfl rfl
    ·exact none _ rfl rfl
  |dc=>
   rw[q33 e];dsimp only
   split
   ·exact none _ (q45 _).1 (q45 _).2
   ·split
    ·exact none _ rfl rfl
    ·exact none _ (q45 _).1 (q45 _).2
  |wr A V=>
   rw[show(qf c t m a).2.1=if A.tail= [] then{a with ph:= .rl a.oc (a.oc.map fun _=>(a.ck+1)*64)} else{a with ph:= .wr A.tail V.tail} by unfold qf;rw[e]]
   split
   ·exact none _ rfl rfl
   ·exact none _ rfl rfl
  |rl l w=>
   rw[show(qf c t m a).2.1=if l.tail= [] then{a with ph:=if a.dn/\a.sto then .sp else .ps} else{a with ph:= .rl l.tail w.tail} by unfold qf;rw[e]]
   split
   ·exact none _ (q1O fun _ _ _ h=>by dsimp only at h;split at h <;>cases h) rfl
   ·exact none _ rfl rfl
  |sp=>
   rw[show(qf c t m a).2.1={a with ph:= .ps} by unfold qf;rw[e]];exact none _ rfl rfl
  |ps=>
   rw[show(qf c t m a).2.1=a.fin by unfold qf;rw[e]];exact none _ (Qt.fin a).fl (Qt.fin a).rv
  |_=>exact absurd ((congrArg AP.tick e).symm.trans j) (fun h=>Bool.noConfusion h)
 ·rcases e with e|e
  ·rw[q34 e]
   split
   ·exact none _ rfl rfl
   ·split
    ·exact none _ (q1O fun _ _ _ h=>by dsimp only at h;split at h <;>cases h) rfl
    ·exact none _ rfl rfl
  ·rw[q3h e];exact none _ rfl rfl
theorem qeR{q:Int×Int}(h:q∈fl (qf c t m a).2.1):q∈fl a\/((∃bf v,a.ph= .rd 1 bf v)/\q=(a.addr,m.d.getD a.addr.toNat 0)):=qeS.1 q h
theorem qkD:(qf c t m a).2.1.rv=a.rv\/a.ph= .ent 1:=(qeS (c:=c) (t:=t) (m:=m)).2
theorem qb2(h:∀A V,a.ph≠ .wr A V):(qf c t m a).1.d=m.d:=by
 unfold qf;cases e:a.ph with
 |wr A V=>exact absurd e (h A V)
 |ent j=>
  dsimp only
  split
  ·rfl
  ·split <;>rfl
 |rd j b v=>
  dsimp only
  split
  ·rfl
  ·split <;>rfl
 |pp j kc h v=>
  dsimp only
  split
  ·rfl
  ·split
   ·rfl
   ·split <;>rfl
 |lk s ld=>
  dsimp only
  split
  ·rfl
  ·split <;>rfl
 |tn b=>
  dsimp only
  split <;>rfl
 |ph j b h=>
  obtain⟨hd,nx,hm⟩:=qdy (c:=c) (m:=m) (j:=j) (b:=b) (h:=h);dsimp only
  revert hm
  generalize q0p c m j b h=q;obtain⟨m',z,ac,p⟩:=q;rintro rfl;cases z <;>rfl
 |_=>rfl
theorem Pd.keep{o:Int}(z:xs[t]? =some x)(w:∀a,x.at'=some a->a.dn=true->o∈pnd a->False)(h:Pd xs o):Pd (xs.set t x') o:=by
 obtain⟨u,y,b,d,hb,hd,j⟩:=h
 by_cases e:u=t
 ·subst e;rw[z] at d;cases d;exact(w b hb hd j).elim
 ·exact⟨u,y,b,by rw[q0R e];exact d,hb,hd,j⟩
theorem MR.keep{md o:jd}(w:xs[t]? =some x)(z:∀a,x.at'=some a->∀A V,a.ph≠ .wr A V)(C:∀a,x'.at'=some a->∀A V,a.ph≠ .wr A V)(h:MR xs md o):MR (xs.set t x') md o:=by
 rcases h with ⟨u,y,b,A,V,d,hb,he,j⟩|⟨h,j⟩
 ·by_cases e:u=t
  ·subst e;rw[w] at d;cases d;exact absurd he (z b hb A V)
  ·exact .inl ⟨u,y,b,A,V,by rw[q0R e];exact d,hb,he,j⟩
 ·refine .inr ⟨fun u y b d hb=>?_,j⟩
  by_cases e:u=t
  ·subst e;rw[q0H w] at d;cases d;exact C b hb
  ·rw[q0R e] at d;exact h u y b d hb
theorem AI.nwr(d:AI c t m a)(hd:a.dn=false):∀A V,a.ph≠ .wr A V:=fun A V e=>by
 have:=d.ph;unfold PhA at this;rw[e] at this;rw[this.1] at hd;cases hd
theorem q0m.word(h:q0m c ps n k m xs g r)(j:Int)(z:0<=j)(h1:j<c.words+qh c):Pd xs (qC c j)\/(mix c g.d g.tk).getD j.toNat 0=m.d.getD j.toNat 0:=by
 rcases h.mr with ⟨u,y,b,A,V,o,hb,he,d⟩|⟨_,d⟩
 ·have e:=(h.ai u y b o hb).ph;unfold PhA at e;rw[he] at e;obtain⟨C,q2,q3,q4,q5,D,q7,E,F⟩:=e;have hdl:=h.gm.dl
  by_cases hm:j∈A
  ·exact .inl ⟨u,y,b,o,hb,C,by unfold pnd;rw[he];exact F _ (E _ hm)⟩
  ·right;have w:((j.toNat:Nat):Int)=j:=Zj z;rw[d,q69 Yb,w,(q1Z D).2 hm];rfl
 ·exact .inr (by rw[d])
theorem qiw(d:q1W x (q0A c p t m x a i).2.1)(e:(qf c t m a).2.1.st≠2):q7k (q0A c p t m x a i).2.1=q7k x:=by
 unfold q7k;rw[d.sg]
 by_cases h:x.stg=true
 ·rw[if_pos h,if_pos h,q37,qiy e h]
  split <;>rfl
 ·rw[if_neg h,if_neg h,d.bg,d.sv,d.oc]
theorem q0m.advA(W:COk c)(hn:n<=16)(hk:k<=100000)(h:q0m c ps n k m xs g r)(z:xs[t]? =some x)(A:x.at'=some a)(hb:a.busy=true)(hp:ps[t]? =some p)(ae:PrO p)(hi:p[x.th.pc]? =some i)(j:a.dn=false)(E:a.ph≠ .lv)(w:(qf c t m a).2.1.dn=false):
  ∃rt,rt=rUp a (qf c t m a).2.1 (r t)/\q0m c ps n (k+1) (q0A c p t m x a i).1 (xs.set t (q0A c p t m x a i).2.1) g (upR r t rt)/\(∃J,(q0A c p t m x a i).2.1.at'=some J/\J.dn=false):=by
 have aj:t<n:=by rw[<-h.xl];exact(z7.1 z).1
 have I:=h.ai t x a z A;obtain⟨s1,s2,s3⟩:=I.step W hn aj hk h.gm (h.ppb z A);have O:=h.th t x p z hp;unfold ThR at O;rw[A] at O;dsimp only at O;rw[if_neg (by rw[j];decide)] at O;obtain⟨Y,Z,hT⟩:=O;obtain⟨V,y,C,_⟩:=hT.adv (t:=t) (m:=m) ae W I (h.ppb z A) (h.ho.pop0 z A j).2 hi hb j E;have C:=C w;have G:∀o,q1T (qf c t m a).1 o=q1T m o:=fun o=>by
  rcases s3.ver o with e|⟨e,_⟩
  ·exact e
  ·rw[j] at e;cases e
 have L:∀o,Pd xs o->Pd (xs.set t (q0A c p t m x a i).2.1) o:=fun o ho=>ho.keep z fun b hb hd _=>by rw[A] at hb;cases hb;rw[j] at hd;cases hd
 refine⟨_,rfl,?_,_,y,w⟩;have H:rUp a (qf c t m a).2.1 (r t)=r t\/rUp a (qf c t m a).2.1 (r t)=r t++fl a:=by unfold rUp;split;exact .inl rfl;exact .inr rfl
 generalize rUp a (qf c t m a).2.1 (r t)=rt at*;refine h.put W hn hk z A (fun J K=>⟨by rw[y] at K;exact(Option.some.inj K).symm,E⟩) h.tl h.ol h.dl h.kl (h.ho.step hk z A I E y V.fn V.lm (w.trans j.symm)) (fun u hu=>⟨rfl,rfl,qb6 hu⟩) (fun p' R=>?_) (fun J K h2=>?_) (fun e=>by rw[j] at e;cases e) (fun q _ _=> .inl rfl) ?_
 ·rw[hp] at R;cases R;unfold ThR;rw[y];dsimp only;rw[if_neg (by rw[w];decide),q6x,V.obs];refine⟨?_,Z,C⟩;rw[Y];exact congrArg some (qiw V (by rw[C.st];decide)).symm
 ·have ea:J=(qf c t m a).2.1:=by rw[y] at K;exact(Option.some.inj K).symm
  subst ea;rw[q6x]
  by_cases D:a.ph= .ent 1
  ·right;intro q d;exfalso;have af:r t= []:=hT.ent D;have P:fl a= []:=by unfold fl;rw[D]
   rcases zw.1 d with d|d
   ·rcases H with e|e <;>rw[e,af] at d
    ·cases d
    ·rw[P] at d;cases d
   ·rcases qeR d with d|⟨⟨_,_,e⟩,_⟩
    ·rw[P] at d;cases d
    ·rw[D] at e;cases e
  ·have T:(qf c t m a).2.1.rv=a.rv:=by rcases qkD (c:=c) (t:=t) (m:=m) (a:=a) with e|e;exact e;exact absurd e D
   have U:∀q∈r t,q∈rt:=fun q d=>by rcases H with e|e <;>rw[e];exact d;exact zq _ d
   rcases h.va t x a z A j with ⟨q,d,hv⟩|hv
   ·exact .inl ⟨q,U q d,by rw[T,G];exact hv⟩
   ·right;intro q d hle;rw[T,G] at hle;have hold:q∈r t++fl a->Pd (xs.set t (q0A c p t m x a i).2.1) (qC c q.1)\/(mix c g.d g.tk).getD q.1.toNat 0=q.2:=fun d=>(hv q d hle).imp (L _) id
    rcases zw.1 d with d|d
    ·rcases H with e|e <;>rw[e] at d
     ·exact hold (zq _ d)
     ·exact hold d
    ·rcases qeR d with d|⟨⟨bf,v,e⟩,rfl⟩
     ·exact hold (zz _ d)
     ·have F:=I.ph;unfold PhA at F;rw[e] at F;exact(h.word a.addr F.2.2.1 F.2.2.2.1).imp (L _) id
 ·rw[qb2 (I.nwr j)];refine h.mr.keep z (fun b hb=>by rw[A] at hb;cases hb;exact I.nwr j) fun b hb=>?_
  rw[y] at hb;cases hb;exact(s1 E).nwr w
end
open Go
def q70(c:Cfg)(ps:List (jf)):GS->List ChM->Option GS
 |g,[]=>some g
 |g,ch::l=>match chM c ps g ch with
  |some g'=>q70 c ps {g' with n:=g.n+1} l
  |none=>none
structure Dcd(c:Cfg)(p:jf)(g g':GS)(x:GT)(a:AT)(t:Nat):Prop where
 T:g'.T=g.T.set t (qbZ p x a)
 O:g'.O=g.O.set t (g.O.getD t []++qc0 p x a)
 m:mix c g'.d g'.tk=if a.code=1 then lay a.ad a.vl (mix c g.d g.tk) else mix c g.d g.tk
 dl:g'.d.length=g.d.length
 kl:g'.tk.length=g.tk.length
 t0:a.code≠1->g'.tk=g.tk
 t1:a.code=1->g'.tk=q4z c a.ad a.vl g.tk
section
variable{c:Cfg}{ps:List (jf)}{n k:Nat}{m m':MS}{xs:List GT}{g g':GS}{r r':Nat->List (Int×Int)}{t u:Nat}{x x':GT}{a b:AT}{p:jf}{i:Ins}
theorem q4H{ch:ChM}(h:chM c ps g ch=some g'):q70 c ps g [ch]=some {g' with n:=g.n+1}:=by
 unfold q70;rw[h];rfl
theorem qkF{b:BM}{q:Int}(h:q0d c b i=(b.go,q))(A:q≠0):q=1\/q=2\/q=7\/q=8:=by
 have C:b≠b.go:=fun e=>by
  have:b.t.pc=b.t.pc+1:=congrArg (fun z=>z.t.pc) e;omega
 have d:=congrArg (fun z=>z.2) h;have j:=congrArg (fun z=>z.1) h;unfold q0d at j d
 by_cases o:i.op=10
 ·rw[if_pos o] at d
  split at d
  ·exact .inr (.inr (.inl d.symm))
  ·exact absurd d.symm A
 ·rw[if_neg o] at j d
  by_cases w:i.op=11
  ·rw[if_pos w] at d
   split at d
   ·exact .inr (.inr (.inl d.symm))
   ·exact absurd d.symm A
  ·rw[if_neg w] at j d
   by_cases y:i.op=14
   ·rw[if_pos y] at j d
    split at d
    ·rename_i e;rw[e] at j;exact absurd j C
    ·exact absurd d.symm A
   ·rw[if_neg y] at d
    split at d
    ·split at d
     ·exact .inr (.inr (.inr d.symm))
     ·exact absurd d.symm A
    ·split at d
     ·exact .inl d.symm
     ·split at d
      ·exact .inr (.inl d.symm)
      ·exact absurd d.symm A
theorem qlq(C:TL c p x a (r t))(E:g.T[t]? =some (q7k x))(T:ps[t]? =some p)(A:Hyp c a.al (r t) g.tk g.d)(y:a.ph= .dc):
  (∃g',chM c ps g ⟨(t:Int),0,a.al.map (qs c)⟩=some g'/\Dcd c p g g' x a t)/\(a.code=1\/a.code=2\/a.code=7\/a.code=8)/\qhq c a.ad a.vl a.al a.fr (r t):=by
 have J:∀k,a.ph≠ .ent k:=fun k e=>by rw[y] at e;cases e
 obtain⟨_,_,R,i,hi,K⟩:=C.req J (by rw[y];rfl);unfold q2S at K;rw[y] at K;obtain⟨F,L⟩:=K;obtain⟨O,I⟩:=R g.tk g.d [] A;have z:=L g.tk g.d [] A I;have j:=O.fin hi (by rw[z];exact F);rw[z] at j;have G:=qkF z F;obtain⟨ib,H,P⟩:=C.bg;have hu:q7k x=⟨x.bg,x.sv,x.th.oc,false⟩:=by unfold q7k;rw[C.sg,if_neg Yc]
 rw[hu] at E;refine⟨?_,G,I⟩;have e:(⟨g.d,g.tk,⟨x.bg+1,x.sv,x.th.oc,false⟩,[],[],[],a.al.map (qs c)⟩:BM)=q5R c x a g.tk g.d []:=by unfold q5R;rw[zC]
 have o:qbZ p x a=⟨q0B p x.bg+1,if a.code=1 then x.th.rg else x.sv,a.code,decide (q0B p x.bg+1=p.length)⟩:=by unfold qbZ;rw[C.sg,if_neg Yc]
 have w:qc0 p x a=(if a.code=1 then x.seen else [])++ [⟨x.bg,3,a.code⟩]:=by unfold qc0;rw[C.sg,if_neg Yc]
 have D:∀g',txM c p g ⟨x.bg,x.sv,x.th.oc,false⟩ t 0 (a.al.map (qs c))=some g'->chM c ps g ⟨(t:Int),0,a.al.map (qs c)⟩=some g':=fun g' h=>by
  unfold chM;rw[if_neg (by dsimp only;omega),zF,E,T];dsimp only;rw[if_neg Yc,H];dsimp only;rw[if_pos P];exact h
 have hlen:∀tk:List Bool,(tk.length:Int)=qh c->∀b:Nat,b<tk.length->0<=(b:Int)/\(b:Int)<qh c:=fun tk h b hb=>by omega
 by_cases d:a.code=1
 ·refine⟨((g.mem (lay a.ad a.vl g.d) (q4z c a.ad a.vl g.tk)).ev [⟨g.n,t,3,0,[],[]⟩,⟨g.n,t,4,0,a.seen,fw c a.ad⟩]).fin t ⟨q0B p x.bg+1,x.th.rg,1,decide (q0B p x.bg+1=p.length)⟩ (x.seen++ [⟨x.bg,3,1⟩]),D _ ?_,?_⟩
  ·unfold txM;rw[if_neg Yc];dsimp only;rw[e,j];dsimp only;rw[if_neg (fun h=>by rcases h with h|h;omega;exact h rfl),if_pos d];rfl
  ·refine⟨by rw[o,if_pos d,d];rfl,by rw[w,if_pos d,d];rfl,?_,q3d,q4A,fun h=>absurd d h,fun _=>rfl⟩;rw[if_pos d];refine qdk A.dl (fun b v hb e=>?_) fun b hb=>?_
   ·have:=hlen _ A.tl b hb
    rcases I.l1 b v this.1 this.2 e with h|h
    ·exact .inl h.1
    ·exact .inr h.1
   ·have:=hlen _ A.tl b hb;have:=q0J this.1 this.2;omega
 ·refine⟨(g.ev [⟨g.n,t,3,0,[],[]⟩,⟨g.n,t,4,0,a.seen,[]⟩]).fin t ⟨q0B p x.bg+1,x.sv,a.code,decide (q0B p x.bg+1=p.length)⟩ [⟨x.bg,3,a.code⟩],D _ ?_,?_⟩
  ·unfold txM;rw[if_neg Yc];dsimp only;rw[e,j];dsimp only;rw[if_neg (fun h=>by rcases h with h|h;omega;exact h rfl),if_neg d];rfl
  ·exact⟨by rw[o,if_neg d];rfl,by rw[w,if_neg d];rfl,by rw[if_neg d];rfl,rfl,rfl,fun _=>rfl,fun h=>absurd h d⟩
theorem qlp(w:TS c p x a (r t))(F:g.T[t]? =some (q7k x))(W:ps[t]? =some p)(I:Hyp c a.al (r t) g.tk g.d)(O:a.ph= .dc):
  (∃g',chM c ps g ⟨(t:Int),0,a.al.map (qs c)⟩=some g'/\Dcd c p g g' x a t)/\a.code=1/\qhq c a.ad a.vl a.al a.fr (r t)/\∃i,p[x.th.pc]? =some i/\(i.op=12\/i.op=13):=by
 obtain⟨i,hi,H,hpw,_⟩:=w.ph;obtain⟨T,_,o⟩:=w.late hi (by rw[O];rfl);have hu:q7k x=x.th:=by unfold q7k;rw[w.sg,if_pos rfl]
 rw[hu] at F;have V:0<=q1D x i:=q4P _ _ _;have L:q1D x i=adr x.th.rg (if i.op=12 then i.b else i.a) i.imm:=rfl;have D:a.al= []:=w.bl.1;have z:qbZ p x a=x.th.nxt p.length (if i.op=12 then x.th.rg.set i.a.toNat a.val else x.th.rg):=by unfold qbZ ql5;rw[w.sg,if_pos rfl,hi]
 have A:qc0 p x a=if i.op=12 then [⟨x.th.pc,4,a.val⟩] else [⟨x.th.pc,5,x.th.rg.get i.b.toNat⟩]:=by unfold qc0 q2U;rw[w.sg,if_pos rfl,hi]
 have hdl:=I.dl;have E:∀g',sgM c p g x.th t 0 i=some g'->chM c ps g ⟨(t:Int),0,a.al.map (qs c)⟩=some g':=fun g' h=>by
  unfold chM;rw[if_neg (by dsimp only;omega),zF,F,W];dsimp only;rw[if_neg (by rw[w.dn];decide),hi];dsimp only;rw[if_neg Yb,D,Zx,if_pos rfl];exact h
 have y:sgM c p g x.th t 0 i=if i.op=12 then some ((g.ev (plE c g.n t 1 (q1D x i))).fin t (x.th.nxt p.length (x.th.rg.set i.a.toNat (g.d.getD (q1D x i).toNat 0))) [⟨x.th.pc,4,g.d.getD (q1D x i).toNat 0⟩])
   else some (((g.mem (g.d.set (q1D x i).toNat (x.th.rg.get i.b.toNat)) g.tk).ev (plE c g.n t 2 (q1D x i))).fin t (x.th.nxt p.length x.th.rg) [⟨x.th.pc,5,x.th.rg.get i.b.toNat⟩]):=by
  unfold sgM;rw[if_pos H];dsimp only;rw[<-L,if_neg Yc,if_neg Yb]
 refine⟨?_,o,?_,i,hi,H⟩
 ·rcases T with ⟨C,U,d,j,P⟩|⟨h13,U,d,j,P⟩
  ·have R:=I.rd (q1D x i,a.val) (by rw[U];exact zf.2 rfl);dsimp only at R;rw[qal Yb] at R;rw[if_pos C,R] at y;refine⟨_,E _ y,⟨by rw[z,if_pos C];rfl,by rw[A,if_pos C];rfl,?_,rfl,rfl,fun h=>absurd o h,fun _=>?_⟩⟩
   ·rw[if_pos o,d,q58];rfl
   ·rw[d,q6O];rfl
  ·rw[if_neg Yb] at y;have J:∀q,q14 [q1D x i] [x.th.rg.get i.b.toNat] q=if q1D x i=q then some (x.th.rg.get i.b.toNat) else none:=fun q=>by rw[q0y,q2G]
   have G:q4z c a.ad a.vl g.tk=g.tk:=by
    rw[q7H (ad:= []) (vl:= []) (fun b _=>by rw[d,j,J,q2G,if_neg Yb]),q6O]
   have K:lay a.ad a.vl g.d=g.d.set (q1D x i).toNat (x.th.rg.get i.b.toNat):=by
    rw[q8Z (ad:= []) (vl:= []) (a:=(q1D x i).toNat) (v:=x.th.rg.get i.b.toNat) (fun q=>by rw[d,j,J,Zj V,q2G]),q58]
   refine⟨_,E _ y,⟨by rw[z,if_neg Yb];rfl,by rw[A,if_neg Yb];rfl,?_,zm,rfl,fun h=>absurd o h,fun _=>G.symm⟩⟩;rw[if_pos o];show mix c (g.d.set _ _) g.tk=_;rw[<-K,<-qdk I.dl (tk:=g.tk) (fun b v hb e=>?_) fun b hb=>?_,G]
   ·rw[d,j,J,if_neg Yb] at e;cases e
   ·have htl:=I.tl;have:=q0J (c:=c) (b:=(b:Int)) Yb Yb;omega
 ·refine⟨fun b v h1 h2 e=>?_,fun b hb=>(by rw[w.bl.2] at hb;cases hb),fun b hb=>(by rw[D] at hb;cases hb),by rw[w.bl.2];exact ym⟩;exfalso
  rcases T with ⟨_,_,d,j,_⟩|⟨_,_,d,j,_⟩
  ·rw[d] at e;cases e
  ·rw[d,j,q0y,q2G,if_neg Yb] at e;cases e
theorem qdG(b:AT):(∀A V,b.rest.ph≠ .wr A V)/\b.rest.st=b.st/\b.rest.al=b.al/\b.rest.fr=b.fr/\b.rest.pu=b.pu/\(∀n k h v,b.rest.ph≠ .pp n k h v)/\(∀n q h,b.rest.ph≠ .ph n q h)/\b.rest.ph≠ .lv/\b.rest.val=b.val:=by
 unfold AT.rest
 split
 ·exact⟨fun A V h=>(by cases h),rfl,rfl,rfl,rfl,fun _ _ _ _ h=>(by cases h),fun _ _ _ h=>(by cases h),fun h=>(by cases h),rfl⟩
 ·exact⟨fun A V h=>(by cases h),rfl,rfl,rfl,rfl,fun _ _ _ _ h=>(by cases h),fun _ _ _ h=>(by cases h),fun h=>(by cases h),rfl⟩
theorem q0m.quiet(h:q0m c ps n k m xs g r)(o:xs[t]? =some x)(j:x.at'=some a)(w:a.ph.hold=true)(z:∀A V,a.ph≠ .wr A V):mix c g.d g.tk=m.d:=by
 rcases h.mr with ⟨u,y,b,A,V,d,hb,he,_⟩|⟨_,e⟩
 ·have e:=h.one o j w d hb (by rw[he];rfl);subst e;rw[o] at d;cases d;rw[j] at hb;cases hb;exact absurd he (z A V)
 ·exact e
theorem q0m.agr(h:q0m c ps n k m xs g r)(w:xs[t]? =some x)(o:x.at'=some a)(G:TX c p x a (r t))(d:a.dn=false)(j:a.ph= .dc):Hyp c a.al (r t) g.tk g.d:=by
 have J:=h.ai t x a w o;have z:=J.ph;unfold PhA at z;rw[j] at z;obtain⟨_,_,_,_,I⟩:=z;refine⟨h.dl,h.kl,fun q H=>?_,fun b hb=>?_⟩
 ·have hle:=I _ (G.rr q H).2.2
  rcases h.va t x a w o d with ⟨O,C,hlt⟩|D
  ·have:=I _ (G.rr O C).2.2;omega
  ·rcases D q (zq _ H) hle with ⟨u,y,b,E,hb,hd,K⟩|e
   ·have e:=h.one w o (by rw[j];rfl) E hb (qg0 K);subst e;rw[w] at E;cases E;rw[o] at hb;cases hb;rw[d] at hd;cases hd
   ·exact e
 ·obtain⟨L,ow,F⟩:=h.ho.ex;have A:=(h.ho.pa t x a w o).z (by rw[j];rfl);exact(F.fr b _ ((F.ox t x w).2 b (by rw[q0U o,q5d d,A];exact zq _ hb))).2
theorem q0m.advB(hC:COk c)(hn:n<=16)(hk:k<=100000)(h:q0m c ps n k m xs g r)(D:xs[t]? =some x)(E:x.at'=some a)(hb:a.busy=true)(hp:ps[t]? =some p)(aB:PrO p)(hi:p[x.th.pc]? =some i)(w:a.dn=false)(U:a.ph≠ .lv)(d:(qf c t m a).2.1.dn=true):
  a.ph= .dc/\(q0A c p t m x a i).2.1={x with at':=some (qf c t m a).2.1}/\(qf c t m a).2.1.al=a.al/\∃g':GS,q70 c ps g [⟨t,0,a.al.map (qs c)⟩]=some {g' with n:=g.n+1}/\
   q0m c ps n (k+1) (q0A c p t m x a i).1 (xs.set t (q0A c p t m x a i).2.1) {g' with n:=g.n+1} r:=by
 have ae:t<n:=by rw[<-h.xl];exact(z7.1 D).1
 have L:=h.ai t x a D E;have P:=h.th t x p D hp;unfold ThR at P;rw[E] at P;dsimp only at P;rw[if_neg (by rw[w];decide)] at P;obtain⟨R,af,z⟩:=P;obtain⟨_,_,_,hD⟩:=z.adv (t:=t) (m:=m) aB hC L (h.ppb D E) (h.ho.pop0 D E w).2 hi hb w U;obtain⟨A,hX⟩:=hD d;have hH:=h.agr D E z w A;have hq:=h.quiet D E (by rw[A];rfl) (L.nwr w)
 --aE choice
 have av:∃g',chM c ps g ⟨(t:Int),0,a.al.map (qs c)⟩=some g'/\Dcd c p g g' x a t/\qhq c a.ad a.vl a.al a.fr (r t)/\∀y:AT,y.st=1->y.code=a.code->y.fr=a.fr->TD c p {x with at':=some y} y:=by
  rcases z with z|z
  ·obtain⟨⟨g',o,G⟩,h3,h4⟩:=qlq z R hp hH A;exact⟨g',o,G,h4,fun y e1 O _=>⟨z.fn,e1,z.dn,z.pl, .inl ⟨z.sg,z.bg,z.tr,by rw[O];exact h3⟩⟩⟩
  ·obtain⟨⟨g',o,G⟩,h3,h4,h5⟩:=qlp z R hp hH A;exact⟨g',o,G,h4,fun y e1 O e3=>⟨z.fn,e1,z.dn,(z7.1 h5.choose_spec.1).1, .inr ⟨z.sg,z.tr,z.out,O.trans h3,by rw[e3];exact z.bl.2,h5⟩⟩⟩
 obtain⟨g',au,C,H,aj⟩:=av;have I:=L.ph;unfold PhA at I;rw[A] at I;obtain⟨_,hol,az,_,_⟩:=I
 --what aE step leaves
 have K:=q33 (c:=c) (t:=t) (m:=m) A;have V:(qf c t m a).1=m:=by rw[K]
 have hy:(qf c t m a).2.1=(if a.sto then{a with ck:=m.ck,dn:=true,ph:= .wr a.ad a.vl} else({a with ck:=m.ck,dn:=true}:AT).rest):=by
  rw[K];dsimp only
  split
  ·rename_i T;rw[K] at d;dsimp only at d;rw[if_pos T,(q44 _).1] at d;rw[show({a with ck:=m.ck,code:=6}:AT).dn=a.dn from rfl,w] at d;cases d
  ·rfl
 have aC:(qf c t m a).2.1.code=a.code/\(qf c t m a).2.1.st=a.st/\(qf c t m a).2.1.al=a.al/\(qf c t m a).2.1.fr=a.fr/\(qf c t m a).2.1.pu=a.pu/\(∀n k h v,(qf c t m a).2.1.ph≠ .pp n k h v)/\(∀n q h,(qf c t m a).2.1.ph≠ .ph n q h)/\(qf c t m a).2.1.ph≠ .lv/\(qf c t m a).2.1.val=a.val:=by
  rw[hy]
  split
  ·exact⟨rfl,rfl,rfl,rfl,rfl,fun _ _ _ _ h=>(by cases h),fun _ _ _ h=>(by cases h),fun h=>(by cases h),rfl⟩
  ·obtain⟨_,r2,r3,r4,r5,r6,r7,r8,r9⟩:=qdG {a with ck:=m.ck,dn:=true};exact⟨(q44 _).2.1,r2,r3,r4,r5,r6,r7,r8,r9⟩
 obtain⟨y1,y2,y3,y4,y5,y6,y7,y8,y9⟩:=aC;refine⟨A,hX,y3,g',q4H au,?_⟩;have aA:∀j∈a.ad,a.code=1->Pd (xs.set t {x with at':=some (qf c t m a).2.1}) (qC c j):=fun j hj o=>by
  refine⟨t,_,(qf c t m a).2.1,q0H D,rfl,d,?_⟩;rw[hy,if_pos (by unfold AT.sto;exact decide_eq_true ⟨o,List.ne_nil_of_mem hj⟩)];exact az.1 o j hj
 have Z:∀b:Int,0<=b->b<qh c->b.toNat<g.tk.length:=fun b o G=>by have:=h.kl;omega
 rw[hX];refine h.put hC hn hk D E (fun a' o=>⟨(Option.some.inj o).symm,U⟩) (by dsimp only;rw[C.T,zm,h.tl]) (by dsimp only;rw[C.O,zm,h.ol]) (by dsimp only;rw[C.dl];exact h.dl) (by dsimp only;rw[C.kl];exact h.kl)
  (h.ho.decide D E w A (by rw[V]) (by rw[V]) rfl rfl rfl d y1 y3 y4 y5 y6 y7 y8 (fun e=>C.t0 e) (fun e b hb=>?_) (fun e b b0 b1 hb ay=>?_) (fun _=>H.nd)) (fun u hu=>⟨?_,?_,rfl⟩) (fun p' W=>?_) (fun a' o G=>?_) (fun e=>by rw[w] at e;cases e) (fun q h0 o=>?_) ?_
 ·obtain⟨l1,l2,l3⟩:=H.l2 b hb;have F:=Z b l1.1 l1.2;have eb:((b.toNat:Nat):Int)=b:=Yb;refine⟨l1,?_,l3.imp id fun hm=>?_⟩
  ·dsimp only;rw[C.t1 e,q57 F,eb,l2];rfl
  ·have o:=hH.rd _ hm;have aw:=hH.dl;have T:=q0J l1.1 l1.2;dsimp only at o;rw[show(c.words+b).toNat=g.d.length+b.toNat by omega,q7I F,eb] at o;cases hz:g.tk.getD b.toNat false with
   |true=>rfl
   |false=>rw[hz,if_neg Yc] at o;omega
 ·have F:=Z b b0 b1;have eb:((b.toNat:Nat):Int)=b:=Yb;dsimp only;rw[C.t1 e,q57 F,eb];cases hz:q14 a.ad a.vl (c.words+b) with
  |none=>exact hb
  |some v=>
   rcases H.l1 b v b0 b1 hz with ⟨o,_⟩|⟨_,o,_⟩
   ·rw[o];rfl
   ·exact absurd o ay
 ·dsimp only;rw[C.T,zx,if_neg (fun e=>hu e.symm)]
 ·dsimp only;rw[C.O,zg,zx,if_neg (fun e=>hu e.symm),zg]
 ·rw[hp] at W;cases W;unfold ThR;dsimp only;rw[if_pos d];refine⟨?_,?_,aj _ (y2.trans z.st) y1 y4⟩
  ·rw[C.T,zx,if_pos rfl,if_pos (by rw[h.tl];exact ae)];unfold qbZ ql5;dsimp only;rw[y1,y9]
  ·rw[C.O,zg,zx,if_pos rfl,if_pos (by rw[h.ol];exact ae),af];unfold qc0 q2U;dsimp only;rw[y1,y9];rfl
 ·cases o;rw[d] at G;cases G
 ·dsimp only;rw[C.m];have O:((q.1.toNat:Nat):Int)=q.1:=Zj h0;have hml:(mix c g.d g.tk).length=g.d.length+g.tk.length:=q42;have aw:=h.dl;have hkl:=h.kl
  split
  ·rename_i aq
   by_cases hm:q.1∈a.ad
   ·exact .inr (aA _ hm aq)
   ·left;rw[q69 Yb,O,(q1Z L.al).2 hm];rfl
  ·exact .inl rfl
 ·dsimp only;rw[C.m,qb2 (L.nwr w)]
  by_cases Y:a.sto=true
  ·left;have J:a.code=1/\a.ad≠ []:=by unfold AT.sto at Y;exact of_decide_eq_true Y
   refine⟨t,_,(qf c t m a).2.1,a.ad,a.vl,q0H D,rfl,by rw[hy,if_pos Y],?_⟩;rw[if_pos J.1,hq]
  ·have J:¬(a.code=1/\a.ad≠ []):=fun e=>Y (by unfold AT.sto;exact decide_eq_true e)
   have e:(if a.code=1 then lay a.ad a.vl (mix c g.d g.tk) else mix c g.d g.tk)=mix c g.d g.tk:=by
    split
    ·rename_i o;have:a.ad= []:=Decidable.byContradiction fun e=>J ⟨o,e⟩
     rw[this,q58]
    ·rfl
   rw[e];refine h.mr.keep D (fun b hb=>by rw[E] at hb;cases hb;exact L.nwr w) fun b hb=>?_
   cases hb;rw[hy,if_neg Y];exact(qdG _).1
end
open Go
section
variable{c:Cfg}{ps:List (jf)}{n k:Nat}{m m':MS}{xs:List GT}{g g':GS}{r r':Nat->List (Int×Int)}{t u:Nat}{x x':GT}{a b:AT}{p:jf}{i:Ins}
theorem AI.dec_ph(o:AI c t m a)(hd:a.dn=true):(∃A V,a.ph= .wr A V)\/(∃l w,a.ph= .rl l w)\/a.ph= .sp\/a.ph= .ps\/a.ph= .lv\/∃j b h,a.ph= .ph j b h:=by
 have d:=o.ph;unfold PhA at d;cases e:a.ph with
 |wr A V=>exact .inl ⟨A,V,rfl⟩
 |rl l w=>exact .inr (.inl ⟨l,w,rfl⟩)
 |sp=>exact .inr (.inr (.inl rfl))
 |ps=>exact .inr (.inr (.inr (.inl rfl)))
 |lv=>exact .inr (.inr (.inr (.inr (.inl rfl))))
 |ph j b h=>exact .inr (.inr (.inr (.inr (.inr ⟨j,b,h,rfl⟩))))
 |pp j k h v=>rw[e] at d;have:=d.1.1;rw[hd] at this;cases this
 |idle=>rw[e] at d;have:=d.1;rw[hd] at this;cases this
 |loc q=>rw[e] at d;have:=d.1.1;rw[hd] at this;cases this
 |ent j=>rw[e] at d;have:=d.1.1;rw[hd] at this;cases this
 |rd j b v=>rw[e] at d;have:=d.1.1;rw[hd] at this;cases this
 |lk s l=>rw[e] at d;have:=d.1;rw[hd] at this;cases this
 |tn b=>rw[e] at d;have:=d.1;rw[hd] at this;cases this
 |ck l=>rw[e] at d;have:=d.1;rw[hd] at this;cases this
 |dc=>rw[e] at d;have:=d.1;rw[hd] at this;cases this
theorem qmU{A V:jd}(h:a.ph= .wr A V)(e:A.tail= []):qf c t m a=({m with d:=m.d.set (A.headD 0).toNat (V.headD 0)},{a with ph:= .rl a.oc (a.oc.map fun _=>(a.ck+1)*64)},acS 1 (A.headD 0) (m.d.getD (A.headD 0).toNat 0) (V.headD 0),17):=by
 unfold qf;simp only[h,e,if_true]
theorem qmV{A V:jd}(h:a.ph= .wr A V)(e:A.tail≠ []):qf c t m a=({m with d:=m.d.set (A.headD 0).toNat (V.headD 0)},{a with ph:= .wr A.tail V.tail},acS 1 (A.headD 0) (m.d.getD (A.headD 0).toNat 0) (V.headD 0),17):=by
 unfold qf;simp only[h,e,if_false]
theorem q0m.advD(hC:COk c)(hn:n<=16)(hk:k<=100000)(h:q0m c ps n k m xs g r)(F:xs[t]? =some x)(I:x.at'=some a)(hp:ps[t]? =some p)(D:a.dn=true)(O:a.ph≠ .lv):
  (qf c t m a).2.1.dn=true/\(qf c t m a).2.1.busy=true/\q0m c ps n (k+1) (qf c t m a).1 (xs.set t {x with at':=some (qf c t m a).2.1}) g r:=by
 have htn:t<n:=by rw[<-h.xl];exact(z7.1 F).1
 have Y:=h.ai t x a F I;have hR:=h.th t x p F hp;unfold ThR at hR;rw[I] at hR;dsimp only at hR;rw[if_pos D] at hR;obtain⟨au,av,Z⟩:=hR;have H:=Y.ph;unfold PhA at H;have main:∀(y:AT) (m':MS),qf c t m a=(m',y,(qf c t m a).2.2)->y.dn=true->y.busy=true->y.code=a.code->y.st=a.st->(y.fr=a.fr/\y.val=a.val)->(∀o∈pnd a,o∈pnd y\/m.ck<q1T m' o)->
   MR (xs.set t {x with at':=some y}) m'.d (mix c g.d g.tk)->(qf c t m a).2.1.dn=true/\(qf c t m a).2.1.busy=true/\q0m c ps n (k+1) (qf c t m a).1 (xs.set t {x with at':=some (qf c t m a).2.1}) g r:=by
  intro y m' af K h2 h3 h4 h7 h5 h6;have T:(qf c t m a).2.1=y:=by rw[af]
  have e2:(qf c t m a).1=m':=by rw[af]
  rw[T];refine⟨K,h2,?_⟩;refine h.put hC hn hk F I (fun a' h=>⟨by rw[T];exact(Option.some.inj h).symm,O⟩) h.tl h.ol h.dl h.kl (h.ho.step hk F I Y O (by rw[T]) rfl rfl (by rw[T,K,D])) (fun u _=>⟨rfl,rfl,rfl⟩) (fun p' ae=>?_) (fun a' aj W=>?_) (fun _ o C=>?_) (fun q _ _=> .inl rfl) (by rw[e2];exact h6)
  ·rw[hp] at ae;cases ae;unfold ThR;dsimp only;rw[if_pos K];refine⟨?_,?_,Z.fn,h4.trans Z.st,Z.dn,Z.pl,by rw[h3,h7.1];exact Z.kd⟩
   ·rw[au];unfold qbZ ql5;dsimp only;rw[h3,h7.2]
   ·rw[av];unfold qc0 q2U;dsimp only;rw[h3,h7.2]
  ·cases aj;rw[K] at W;cases W
  ·rw[e2]
   rcases h5 o C with h|h
   ·exact .inl ⟨y,rfl,K,h⟩
   ·exact .inr h
 have E:∀(y:AT),(∀A V,a.ph≠ .wr A V)->(∀A V,y.ph≠ .wr A V)->MR (xs.set t {x with at':=some y}) m.d (mix c g.d g.tk):=fun y K h2=>
  h.mr.keep F (fun b hb=>by rw[I] at hb;cases hb;exact K) fun b hb=>by cases hb;exact h2
 rcases Y.dec_ph D with ⟨A,V,e⟩|⟨l,w,e⟩|e|e|e|⟨j,b,h0,e⟩
 ·rw[e] at H;obtain⟨_,q1,q2,q3,q4,q5,P,q7,q8⟩:=H;have aq:∀w∈A,0<=w/\w<c.words+qh c:=fun w hw=>Y.ar w (q7 w hw)
  --the only writer
  have az:mix c g.d g.tk=lay A V m.d:=by
   rcases h.mr with ⟨u,y,b,A',V',G,hb,he,hg⟩|⟨aA,_⟩
   ·have e':=h.one F I (by rw[e];rfl) G hb (by rw[he];rfl);subst e';rw[F] at G;cases G;rw[I] at hb;cases hb;rw[e] at he;cases he;exact hg
   ·exact absurd e (aA t x a F I A V)
  obtain⟨j,R,rfl⟩:=yC q4;obtain⟨v,V2,rfl⟩:∃v V2,V=v::V2:=yC (fun e=>by rw[e] at q5;cases q5)
  have aw:=aq j zp;have ej:((j.toNat:Nat):Int)=j:=Zj aw.1;rw[ZA] at P;have ay:R.length=V2.length:=by simpa using q5
  have J:mix c g.d g.tk=lay R V2 (m.d.set j.toNat v):=by
   rw[az];have:=qfK (a:=j.toNat) (v:=v) (ad:=R) (vl:=V2) (d:=m.d) ay (by rw[ej];exact P.1);rw[ej] at this;exact this
  by_cases L:R= []
  ·refine main {a with ph:= .rl a.oc (a.oc.map fun _=>(a.ck+1)*64)} {m with d:=m.d.set j.toNat v} (by rw[qmU e L];rfl) D rfl rfl rfl ⟨rfl,rfl⟩ (fun o C=> .inl ?_) ?_
   ·unfold pnd at C ⊢;rw[e] at C;exact C
   ·right;refine⟨fun u y b G hb A V he=>?_,by rw[J,L,q58]⟩
    by_cases eu:u=t
    ·subst eu;rw[q0H F] at G;cases G;cases hb;cases he
    ·rw[q0R eu] at G;exact eu (h.one F I (by rw[e];rfl) G hb (by rw[he];rfl))
  ·refine main {a with ph:= .wr R V2} {m with d:=m.d.set j.toNat v} (by rw[qmV e L];rfl) D rfl rfl rfl ⟨rfl,rfl⟩ (fun o C=> .inl ?_) ?_
   ·unfold pnd at C ⊢;rw[e] at C;exact C
   ·exact .inl ⟨t,_,_,R,V2,q0H F,rfl,rfl,J⟩
 ·rw[e] at H;obtain⟨q1,q2,q3,q4,q5⟩:=H
  rcases q5 with ⟨_,P,q7,q8,q9⟩|⟨P,_⟩
  ·have aC:w≠ []:=fun e=>q1 (zL.1 (by rw[q3,e];rfl))
   have U:∀o∈l,o∉l.tail->m.ck<q1T {m with o:=m.o.set (l.headD 0).toNat (w.headD 0)} o:=fun o C aB=>by
    have T:o=l.headD 0:=by
     rw[<-q8V q1,zX] at C
     rcases C with C|C
     ·exact C
     ·exact absurd C aB
    subst T;have hlen:=Y.oc _ (q2 _ (q54 q1));unfold q1T;dsimp only;rw[q51 hlen.2,q9 _ (q54 aC),(qhJ _).1];omega
   by_cases ht:l.tail= []
   ·have hs:a.dn=true/\a.sto=true:=⟨D,by unfold AT.sto;exact decide_eq_true ⟨P,q7⟩⟩
    refine main {a with ph:= .sp} {m with o:=m.o.set (l.headD 0).toNat (w.headD 0)} (by unfold qf;rw[e];dsimp only;rw[if_pos ht,if_pos hs]) D rfl rfl rfl ⟨rfl,rfl⟩ (fun o C=> .inr (U o ?_ ?_)) (E _ (fun A V h=>by rw[e] at h;cases h) fun A V h=>by cases h)
    ·unfold pnd at C;rw[e] at C;exact C
    ·rw[ht];exact List.not_mem_nil
   ·refine main {a with ph:= .rl l.tail w.tail} {m with o:=m.o.set (l.headD 0).toNat (w.headD 0)} (by unfold qf;rw[e];dsimp only;rw[if_neg ht]) D rfl rfl rfl ⟨rfl,rfl⟩ (fun o C=>?_) (E _ (fun A V h=>by rw[e] at h;cases h) fun A V h=>by cases h);unfold pnd at C;rw[e] at C
    by_cases hm:o∈l.tail
    ·exact .inl hm
    ·exact .inr (U o C hm)
  ·rw[D] at P;cases P
 ·exact main {a with ph:= .ps} {m with ck:=qV (a.ck+1)} (by unfold qf;rw[e]) D rfl rfl rfl ⟨rfl,rfl⟩ (fun o C=>by unfold pnd at C;rw[e] at C;cases C) (E _ (fun A V h=>by rw[e] at h;cases h) fun A V h=>by cases h)
 ·obtain⟨_,_,_,f4,f5,f6,_,f8,_⟩:=qfy a;have U:a.fin.fr=a.fr/\a.fin.val=a.val:=by unfold AT.fin;split <;>exact⟨rfl,rfl⟩
  exact main a.fin {m with sv:=qV (a.tk+1)} (by unfold qf;rw[e]) (f6.trans D) f8 f5 f4 U (fun o C=>by unfold pnd at C;rw[e] at C;cases C) (E _ (fun A V h=>by rw[e] at h;cases h) (Qt.fin a).wr)
 ·exact absurd e O
 ·have hd:=qb2 (c:=c) (t:=t) (m:=m) (a:=a) fun A V h=>by rw[e] at h;cases h
  cases ez:(q0p c m j b h0).2.1 with
  |none=>
   have G:qf c t m a=((qf c t m a).1,AT.fin {a with pu:=a.pu+1},(qf c t m a).2.2):=by
    unfold qf;rw[e];dsimp only;revert ez;generalize q0p c m j b h0=q;obtain⟨m',z,ac,p⟩:=q;rintro rfl;rfl
   obtain⟨_,_,_,f4,f5,f6,_,f8,_⟩:=qfy {a with pu:=a.pu+1};have U:(AT.fin {a with pu:=a.pu+1}).fr=a.fr/\(AT.fin {a with pu:=a.pu+1}).val=a.val:=by unfold AT.fin;split <;>exact⟨rfl,rfl⟩
   exact main _ _ G (f6.trans D) f8 f5 f4 U (fun o C=>by unfold pnd at C;rw[e] at C;cases C) (by rw[hd];exact E _ (fun A V h=>by rw[e] at h;cases h) (Qt.fin _).wr)
  |some z=>
   have G:qf c t m a=((qf c t m a).1,{a with ph:= .ph z.1 b z.2},(qf c t m a).2.2):=by
    unfold qf;rw[e];dsimp only;revert ez;generalize q0p c m j b h0=q;obtain⟨m',z',ac,p⟩:=q;rintro rfl;rfl
   exact main _ _ G D rfl rfl rfl ⟨rfl,rfl⟩ (fun o C=>by unfold pnd at C;rw[e] at C;cases C) (by rw[hd];exact E _ (fun A V h=>by rw[e] at h;cases h) fun A V h=>by cases h)
end
open Go
def GT.endX(p:jf)(x:GT)(a:AT)(i:Ins):GT:=if x.stg=true then x.endS p a i else x.endG p a
section
variable{c:Cfg}{ps:List (jf)}{n k:Nat}{m m':MS}{xs:List GT}{g g':GS}{r r':Nat->List (Int×Int)}{t u:Nat}{x x':GT}{a b:AT}{p:jf}{i:Ins}
def qnl(a:AT):Int:=if a.code=9 then 5 else a.code
theorem qls(d:a.code≠1)(e:¬(a.code=9/\(x.tr:Int)<((p[x.bg]?).map (·.imm)).getD 0)):x.endG p a=({x with at':=none,th:={x.th with rg:=x.sv,oc:=qnl a},tr:=0,obs:=x.obs++ [⟨x.bg,3,qnl a⟩]}:GT).to p.length (q0B p x.bg+1):=by
 unfold GT.endG;rw[if_neg d,if_neg e];rfl
theorem q7v:(x.endG p a).at'=none/\(x.endG p a).fn=x.fn/\(x.endG p a).stg=x.stg/\(x.endG p a).lm=x.lm++(if a.code=1 then a.fr.map fun b=>(b,a.ver) else []):=by
 unfold GT.endG
 by_cases d:a.code=1
 ·rw[if_pos d,if_pos d];dsimp only
  split <;>exact⟨rfl,rfl,rfl,rfl⟩
 ·rw[if_neg d,if_neg d,zC];dsimp only
  split <;>exact⟨rfl,rfl,rfl,rfl⟩
theorem q7w:(x.endS p a i).at'=none/\(x.endS p a i).fn=x.fn/\(x.endS p a i).stg=false/\(x.endS p a i).lm=x.lm:=by
 unfold GT.endS
 split
 ·unfold GT.accG
  split <;>exact⟨rfl,rfl,rfl,rfl⟩
 ·split <;>exact⟨rfl,rfl,rfl,rfl⟩
theorem q8S:(x.endX p a i).at'=none:=by
 unfold GT.endX
 split
 ·exact q7w.1
 ·exact q7v.1
theorem qhx(he:a.ph= .lv):q0A c p t m x a i=((qf c t m a).1,x.endX p {a with ph:= .idle,st:=2} i,⟨t,24,x.ct,(qf c t m a).2.2.1⟩,[]):=by
 have d:qf c t m a=({m with sl:=m.sl.set (t:Int).toNat 0},{a with ph:= .idle,st:=2},acS 6 t (m.sl.getD (t:Int).toNat 0) 0,24):=by unfold qf;rw[he]
 unfold q0A;rw[d];dsimp only;rw[if_neg (q3e rfl)];unfold GT.ans GT.endX;rw[if_pos rfl];rfl
theorem qcI(j:PrO p)(hb:∃ib,p[x.bg]? =some ib/\ib.op=7):stB p (q0B p x.bg+1)<0/\q0B p x.bg+1<=p.length/\stB p x.bg<0/\x.bg<p.length:=by
 obtain⟨ib,d,e⟩:=hb;obtain⟨c',w,h1,h2,_,o,_⟩:=q0v j.ck d e;rw[w];refine⟨by rw[o];decide,Yb,(q2Z j.ck d).2.1 e,(z7.1 d).1⟩
theorem q6U(e:stB p k<0)(hi:p[k]? =some i)(d:i.op≠7):stB p (k+1)<0/\k+1<=p.length:=by
 refine⟨?_,(z7.1 hi).1⟩;rw[q2d hi];unfold q0w;rw[if_neg d]
 split
 ·decide
 ·exact e
theorem q0m.lvc(h:q0m c ps n k m xs g r)(C:xs[t]? =some x)(z:x.at'=some a)(A:ps[t]? =some p)(he:a.ph= .lv)(w:a.dn=false):(x.stg=false/\(a.code=3\/a.code=4\/a.code=6\/a.code=9))\/(x.stg=true/\∃i,p[x.th.pc]? =some i/\(i.op=12\/i.op=13)/\q1D x i<c.words/\(a.code=9\/(a.code=6/\i.op=13))):=by
 have d:=h.th t x p C A;unfold ThR at d;rw[z] at d;dsimp only at d;rw[if_neg (by rw[w];decide)] at d
 rcases d.2.2 with o|o
 ·left;refine⟨o.sg,?_⟩
  rcases o.ph with ⟨j,e,_⟩|⟨_,_,_,i,_,e⟩|⟨_,e⟩
  ·rw[he] at e;cases e
  ·unfold q2S at e;rw[he] at e;exact e.elim
  ·exact e
 ·right;obtain⟨i,hi,y,hw,h⟩:=o.ph;refine⟨o.sg,i,hi,y,hw,?_⟩
  rcases h with ⟨_,_,⟨_,⟨_,e⟩|e⟩|⟨_,_,⟨_,_,_,e⟩,_⟩|⟨_,_,e⟩⟩|⟨_,_,⟨_,e|e⟩|⟨_,e⟩⟩|⟨_,e⟩
  ·rw[he] at e;cases e
  ·rw[he] at e;cases e
  ·rw[he] at e;cases e
  ·rw[he] at e;cases e
  ·rw[he] at e;cases e
  ·rw[he] at e;cases e
  ·rw[he] at e;cases e
  ·exact e
theorem q0m.gone(K:COk c)(R:n<=16)(P:k<=100000)(h:q0m c ps n k m xs g r)(y:xs[t]? =some x)(w:x.at'=some a)(G:ps[t]? =some p)(he:a.ph= .lv)(d:x'.at'=none)(D:x'.fn=x.fn)(E:x'.lm.map (·.1)=x.lm.map (·.1)++(if a.code=1 then a.fr else []))(O:g'.T.length=n)(L:g'.O.length=n)(hd:g'.d=g.d)(j:g'.tk=g.tk)
  (hu:∀u,u≠t->g'.T[u]? =g.T[u]? /\g'.O.getD u []=g.O.getD u []) (H:∀p,ps[t]? =some p->ThR c p g'.T[t]? (g'.O.getD t []) x' (r t)):q0m c ps n (k+1) (qf c t m a).1 (xs.set t x') g' r:=by
 have hm:(qf c t m a).1={m with sl:=m.sl.set (t:Int).toNat 0}:=by unfold qf;rw[he]
 have z:a.code=1->a.dn=true:=fun e=>by
  cases C:a.dn with
  |true=>rfl
  |false=>
   rcases h.lvc y w G he C with ⟨_,J⟩|⟨_,_,_,_,_,J⟩
   ·omega
   ·omega
 refine h.put K R P y w (fun I h=>by rw[d] at h;cases h) O L (by rw[hd];exact h.dl) (by rw[j];exact h.kl) (by rw[j];exact h.ho.gone y w he z (by rw[hm]) (by rw[hm]) d D E) (fun u e=>⟨(hu u e).1,(hu u e).2,rfl⟩) H (fun I h=>by rw[d] at h;cases h) (fun _ o F=>by unfold pnd at F;rw[he] at F;cases F) (fun q _ _=> .inl (by rw[hd,j])) ?_;rw[qb2 (fun A V e=>by rw[he] at e;cases e),hd,j];exact h.mr.keep y (fun b hb A V e=>by rw[w] at hb;cases hb;rw[he] at e;cases e) fun b hb=>by rw[d] at hb;cases hb
theorem qcH(e:x.stg=true->a.fr= []):(x.endX p {a with ph:= .idle,st:=2} i).lm.map (·.1)=x.lm.map (·.1)++(if a.code=1 then a.fr else [])/\(x.endX p {a with ph:= .idle,st:=2} i).fn=x.fn:=by
 unfold GT.endX
 by_cases j:x.stg=true
 ·rw[if_pos j,q7w.2.2.2,e j,ite_self,zC];exact⟨rfl,q7w.2.1⟩
 ·rw[if_neg j,q7v.2.2.2];refine⟨?_,q7v.2.1⟩;rw[zv]
  by_cases d:a.code=1
  ·rw[if_pos d,if_pos d,ZV]
   congr 1
   exact List.map_id' _
  ·rw[if_neg d,if_neg d];rfl
theorem q0m.advE(Z:COk c)(hn:n<=16)(hk:k<=100000)(h:q0m c ps n k m xs g r)(Y:xs[t]? =some x)(W:x.at'=some a)(T:ps[t]? =some p)(U:PrO p)(hi:p[x.th.pc]? =some i)(O:a.dn=true)(he:a.ph= .lv):
  q0m c ps n (k+1) (qf c t m a).1 (xs.set t (x.endX p {a with ph:= .idle,st:=2} i)) g r:=by
 have D:=h.th t x p Y T;unfold ThR at D;rw[W] at D;dsimp only at D;rw[if_pos O] at D;obtain⟨K,L,C⟩:=D;have P:x.stg=true->a.fr= []:=fun y=>by
  rcases C.kd with ⟨e,_⟩|⟨_,_,_,_,e,_⟩
  ·rw[y] at e;cases e
  ·exact e
 obtain⟨f1,f2⟩:=qcH (p:=p) (i:=i) P;refine h.gone Z hn hk Y W T he q8S f2 f1 h.tl h.ol rfl rfl (fun u _=>⟨rfl,rfl⟩) fun p' G=>?_
 rw[T] at G;cases G;rw[K,L]
 rcases C.kd with ⟨y,hb,A,E⟩|⟨y,A,F,E,_,j,hj,hop⟩
 ·obtain⟨H,I,_,_⟩:=qcI U hb;have J:x.endX p {a with ph:= .idle,st:=2} i=x.endG p {a with ph:= .idle,st:=2}:=by unfold GT.endX;rw[y,if_neg Yc]
  rw[J];have o:qbZ p x a=⟨q0B p x.bg+1,if a.code=1 then x.th.rg else x.sv,a.code,decide (q0B p x.bg+1=p.length)⟩:=by unfold qbZ;rw[y,if_neg Yc]
  have w:qc0 p x a=(if a.code=1 then x.seen else [])++ [⟨x.bg,3,a.code⟩]:=by unfold qc0;rw[y,if_neg Yc]
  rw[o,w]
  by_cases z:a.code=1
  ·rw[qiQ (a:={a with ph:= .idle,st:=2}) z];unfold ThR GT.to;dsimp only;rw[if_pos z,if_pos z,z];exact⟨rfl,(zd ..).symm,I,H,rfl,fun e=>absurd C.fn e,fun e=>absurd rfl e,y⟩
  ·have V:a.code≠9:=Yb;rw[qls (a:={a with ph:= .idle,st:=2}) z (fun e=>V e.1)];have hf:qnl {a with ph:= .idle,st:=2}=a.code:=if_neg V;rw[hf];unfold ThR GT.to;dsimp only;rw[if_neg z,if_neg z];exact⟨rfl,rfl,I,H,rfl,fun e=>absurd C.fn e,fun e=>absurd rfl e,y⟩
 ·have R:i=j:=Option.some.inj (hi.symm.trans hj);subst R;obtain⟨H,I⟩:=q6U F hi Yb;have o:qbZ p x a=x.th.nxt p.length (if i.op=12 then x.th.rg.set i.a.toNat a.val else x.th.rg):=by unfold qbZ ql5;rw[y,if_pos rfl,hi]
  have w:qc0 p x a=if i.op=12 then [⟨x.th.pc,4,a.val⟩] else [⟨x.th.pc,5,x.th.rg.get i.b.toNat⟩]:=by unfold qc0 q2U;rw[y,if_pos rfl,hi]
  rw[o,w];have J:x.endX p {a with ph:= .idle,st:=2} i=GT.accG p {x with at':=none,stg:=false} i (if i.op=13 then x.th.rg.get i.b.toNat else a.val):=by
   unfold GT.endX GT.endS;rw[y,if_pos rfl,if_pos E]
  rw[J];unfold GT.accG
  by_cases d:i.op=12
  ·rw[if_pos d,if_pos d,if_pos d,if_neg Yb];unfold ThR GT.to Thr.nxt;dsimp only;exact⟨rfl,rfl,I,H,rfl,fun e=>absurd C.fn e,fun e=>absurd A e,rfl⟩
  ·rw[if_neg d,if_neg d,if_neg d,if_pos Yb];unfold ThR GT.to Thr.nxt;dsimp only;exact⟨rfl,rfl,I,H,rfl,fun e=>absurd C.fn e,fun e=>absurd A e,rfl⟩
theorem qbd(d:g.T[t]? =some ⟨x.bg,x.sv,x.th.oc,false⟩)(w:ps[t]? =some p)(hb:∃ib,p[x.bg]? =some ib/\ib.op=7){f:Int}(o:3<=f/\f<=6):
  chM c ps g ⟨(t:Int),f,[]⟩=some (g.fin t ⟨q0B p x.bg+1,x.sv,f,decide (q0B p x.bg+1=p.length)⟩ [⟨x.bg,3,f⟩]):=by
 obtain⟨ib,e,j⟩:=hb;unfold chM;rw[if_neg (by dsimp only;omega),zF,d,w];dsimp only;rw[if_neg Yc,e];dsimp only;rw[if_pos j];unfold txM;rw[if_pos Yb,if_pos ⟨o,rfl⟩]
theorem q0m.fin(F:COk c)(I:n<=16)(H:k<=100000)(h:q0m c ps n k m xs g r)(C:xs[t]? =some x)(G:x.at'=some a)(A:ps[t]? =some p)(he:a.ph= .lv)(o:x'.at'=none)(w:x'.fn=x.fn)(y:x'.lm.map (·.1)=x.lm.map (·.1)++(if a.code=1 then a.fr else []))(th:Thr)(l:List ObM)(z:ThR c p (some th) (g.O.getD t []++l) x' (r t)):q0m c ps n (k+1) (qf c t m a).1 (xs.set t x') {g.fin t th l with n:=g.n+1} r:=by
 have j:t<n:=by rw[<-h.xl];exact(z7.1 C).1
 refine h.gone F I H C G A he o w y ?_ ?_ rfl rfl (fun u hu=>⟨?_,?_⟩) fun p' d=>?_
 ·show(g.T.set t _).length=n;rw[zm];exact h.tl
 ·show(g.O.set t _).length=n;rw[zm];exact h.ol
 ·show(g.T.set t _)[u]? =_;rw[zx,if_neg (fun e=>hu e.symm)]
 ·show(g.O.set t _).getD u []=_;rw[zg,zx,if_neg (fun e=>hu e.symm),zg]
 ·rw[A] at d;cases d;have D:(g.T.set t th)[t]? =some th:=by rw[zx,if_pos rfl,if_pos (by rw[h.tl];exact j)]
  have E:(g.O.set t (g.O.getD t []++l)).getD t []=g.O.getD t []++l:=by
   rw[zg,zx,if_pos rfl,if_pos (by rw[h.ol];exact j)];rfl
  show ThR c p (g.T.set t _)[t]? ((g.O.set t _).getD t []) _ _;rw[D,E];exact z
theorem q0m.advC(G:COk c)(O:n<=16)(L:k<=100000)(h:q0m c ps n k m xs g r)(F:xs[t]? =some x)(E:x.at'=some a)(y:ps[t]? =some p)(Z:PrO p)(hi:p[x.th.pc]? =some i)(J:a.dn=false)(he:a.ph= .lv):
  (((x.endX p {a with ph:= .idle,st:=2} i).rest=false\/(x.stg=true/\a.code≠6))/\q0m c ps n (k+1) (qf c t m a).1 (xs.set t (x.endX p {a with ph:= .idle,st:=2} i)) g r)\/
  ((x.endX p {a with ph:= .idle,st:=2} i).rest=true/\¬(x.stg=true/\a.code≠6)/\∃g',q70 c ps g [⟨t,if x.stg then 6 else(x.endX p {a with ph:= .idle,st:=2} i).th.oc,[]⟩]=some g'/\q0m c ps n (k+1) (qf c t m a).1 (xs.set t (x.endX p {a with ph:= .idle,st:=2} i)) g' r):=by
 have K:=h.lvc F E y he J;have H:=h.th t x p F y;unfold ThR at H;rw[E] at H;dsimp only at H;rw[if_neg (by rw[J];decide)] at H;obtain⟨o,z,d⟩:=H;have C:x.stg=true->a.fr= []:=fun hs=>d.elim (fun h=>by rw[h.sg] at hs;cases hs) fun h=>h.bl.2
 obtain⟨f1,f2⟩:=qcH (p:=p) (i:=i) C
 rcases d with d|d
 ·obtain⟨_,I⟩:x.stg=false/\(a.code=3\/a.code=4\/a.code=6\/a.code=9):=K.resolve_right fun e=>by have:=e.1;rw[d.sg] at this;cases this
  obtain⟨o1,o2,o3,o4⟩:=qcI Z d.bg;have hu:q7k x=⟨x.bg,x.sv,x.th.oc,false⟩:=by unfold q7k;rw[d.sg,if_neg Yc]
  rw[hu] at o;have P:x.endX p {a with ph:= .idle,st:=2} i=x.endG p {a with ph:= .idle,st:=2}:=by unfold GT.endX;rw[d.sg,if_neg Yc]
  rw[P] at f1 f2 ⊢
  by_cases hr:a.code=9/\(x.tr:Int)<((p[x.bg]?).map (·.imm)).getD 0
  ·left;rw[qiR (a:={a with ph:= .idle,st:=2}) hr.1 hr.2] at f1 f2 ⊢;have D:(({x with at':=none,th:={x.th with rg:=x.sv}}:GT).to p.length x.bg).rest=false:=by
    unfold GT.rest GT.to;dsimp only;rw[decide_eq_false d.tr,Bool.and_false]
   refine⟨.inl D,h.gone G O L F E y he rfl f2 f1 h.tl h.ol rfl rfl (fun u _=>⟨rfl,rfl⟩) fun p' w=>?_⟩;rw[y] at w;cases w;rw[o,z];unfold ThR GT.to;dsimp only;have V:decide (x.bg=p.length)=false:=decide_eq_false Yb;rw[V];exact⟨rfl,rfl,Yb,o3,rfl,fun e=>absurd d.fn e,fun _=>d.bg,d.sg⟩
  ·right;rw[qls (a:={a with ph:= .idle,st:=2}) (by show a.code≠1;omega) hr] at f1 f2 ⊢;have hf:qnl {a with ph:= .idle,st:=2}=if a.code=9 then 5 else a.code:=rfl
   rw[hf] at f1 f2 ⊢;generalize T:(if a.code=9 then(5:Int) else a.code)=f at*;have C:3<=f/\f<=6:=by rw[<-T];split <;>omega
   have A:=qbd (c:=c) (x:=x) o y d.bg C;refine⟨by unfold GT.rest GT.to;dsimp only;rw[d.fn];rfl,by rw[d.sg];simp,_,by rw[d.sg,if_neg Yc];exact q4H A,?_⟩;refine h.fin G O L F E y he rfl f2 f1 _ _ ?_;rw[z];unfold ThR GT.to;dsimp only;exact⟨rfl,rfl,o2,o1,rfl,fun e=>absurd d.fn e,fun e=>absurd rfl e,d.sg⟩
 ·obtain⟨_,j,hj,W,hw,I⟩:=K.resolve_left fun e=>by have:=e.1;rw[d.sg] at this;cases this
  have U:i=j:=Option.some.inj (hi.symm.trans hj);subst U;have hu:q7k x=x.th:=by unfold q7k;rw[d.sg,if_pos rfl]
  rw[hu] at o;have P:x.endX p {a with ph:= .idle,st:=2} i=if a.code=6 then({x with at':=none,stg:=false,obs:=x.obs++ [⟨x.th.pc,7,6⟩]}:GT).to p.length (x.th.pc+1) else{x with at':=none,stg:=false}:=by
   unfold GT.endX GT.endS;rw[d.sg,if_pos rfl,if_neg (by show ¬a.code=1;omega)]
  have hpl:=(z7.1 hi).1;rw[P] at f1 f2 ⊢
  rcases I with h9|⟨h6,R⟩
  ·left;rw[if_neg Yb] at f1 f2 ⊢;refine⟨.inr ⟨d.sg,Yb⟩,h.gone G O L F E y he rfl f2 f1 h.tl h.ol rfl rfl (fun u _=>⟨rfl,rfl⟩) fun p' w=>?_⟩;rw[y] at w;cases w;rw[o,z];unfold ThR;dsimp only;exact⟨rfl,rfl,Yb,d.out,by rw[d.dn];exact(decide_eq_false Yb).symm,fun e=>absurd d.fn e,fun e=>absurd d.tr e,rfl⟩
  ·right;rw[if_pos h6] at f1 f2 ⊢;obtain⟨o1,o2⟩:=q6U d.out hi Yb;have Y:q1D x i=adr x.th.rg (if i.op=12 then i.b else i.a) i.imm:=rfl;have A:chM c ps g ⟨(t:Int),6,[]⟩=some (g.fin t (x.th.nxt p.length x.th.rg) [⟨x.th.pc,7,6⟩]):=by
    unfold chM;rw[if_neg (by dsimp only;omega),zF,o,y];dsimp only;rw[if_neg (by rw[d.dn];decide),hi];dsimp only;rw[if_neg Yb,if_pos rfl];unfold sgM;rw[if_pos W];dsimp only;rw[<-Y,if_pos Yc,if_pos ⟨rfl,G.st,R,hw⟩]
   refine⟨by unfold GT.rest GT.to;dsimp only;rw[d.fn,d.tr];rfl,fun e=>e.2 h6,_,by rw[d.sg,if_pos rfl];exact q4H A,?_⟩;refine h.fin G O L F E y he rfl f2 f1 _ _ ?_;rw[z];unfold ThR GT.to Thr.nxt;dsimp only;exact⟨rfl,rfl,o2,o1,rfl,fun e=>absurd d.fn e,fun e=>absurd d.tr e,rfl⟩
end
open Go
section
variable{tk:List Bool}{c:Cfg}{ps:List (jf)}{n k:Nat}{m m':MS}{xs:List GT}{g g':GS}{r r':Nat->List (Int×Int)}{t u:Nat}{x x':GT}{a b:AT}{p:jf}{i:Ins}
theorem q0o.up(h:q0o c k m xs tk):q0o c (k+1) m xs tk:=⟨h.ex,h.pa,h.pf,h.hl,h.nl,h.nr,h.ht' (zU k)⟩
theorem q0m.mono(h:q0m c ps n k m xs g r):q0m c ps n (k+1) m xs g r:=⟨h.gm.mono,h.xl,h.pl,h.tl,h.ol,h.dl,h.ai,h.ds,h.th,h.va,h.mr,h.kl,h.ho.up⟩
theorem q0m.calm{W:Nat}(hkk:k<=W)(h:q0m c ps n k m xs g r)(D:xs[t]? =some x)(E:m'.o=m.o)(J:m'.ck=m.ck)(K:m'.sv=m.sv)(F:m'.tk=m.tk)(h5:m'.sl=m.sl)(h6:m'.d.length=m.d.length)
  (w:∀o,x'.at'=some o->AI c t m o/\o.ph.tick=false) (hT:g'.T.length=n) (hO:g'.O.length=n) (hd:(g'.d.length:Int)=c.words) (O:(g'.tk.length:Int)=qh c) (L:q0o c W m' (xs.set t x') g'.tk) (hu:∀u,u≠t->g'.T[u]? =g.T[u]? /\g'.O.getD u []=g.O.getD u []/\r' u=r u)
  (R:∀p,ps[t]? =some p->ThR c p g'.T[t]? (g'.O.getD t []) x' (r' t)) (U:∀o,x'.at'=some o->o.dn=false->VA c m' (xs.set t x') (mix c g'.d g'.tk) o (r' t))
  (V:∀(u:Nat) y b,u≠t->xs[u]? =some y->y.at'=some b->b.dn=false->VA c m xs (mix c g.d g.tk) b (r u)->VA c m' (xs.set t x') (mix c g'.d g'.tk) b (r u)) (P:MR (xs.set t x') m'.d (mix c g'.d g'.tk)):q0m c ps n W m' (xs.set t x') g' r':=by
 refine⟨⟨by rw[E];exact h.gm.o,by rw[E];exact h.gm.ol,by rw[h6];exact h.gm.dl,by rw[h5];exact h.gm.sl,by rw[K,F];exact h.gm.sv,by rw[F];exact Int.le_trans h.gm.tk Yb,by rw[J];exact⟨h.gm.ck.1,Int.le_trans h.gm.ck.2 Yb⟩⟩,by rw[zm];exact h.xl,h.pl,hT,hO,hd,fun u y b j hb=>?_,fun u v y z b d j G hb C T H I=>?_,fun u y p j Z=>?_,fun u y b j hb A=>?_,P,O,L⟩
 ·by_cases e:u=t
  ·subst e;rw[q0H D] at j;cases j;exact(w b hb).1.cong E J K F
  ·rw[q0R e] at j;exact(h.ai u y b j hb).cong E J K F
 ·by_cases Y:u=t
  ·subst Y;rw[q0H D] at j;cases j;rw[(w b hb).2] at H;cases H
  ·by_cases ev:v=t
   ·subst ev;rw[q0H D] at G;cases G;rw[(w d C).2] at I;cases I
   ·rw[q0R Y] at j;rw[q0R ev] at G;exact h.ds u v y z b d j G hb C T H I
 ·by_cases e:u=t
  ·subst e;rw[q0H D] at j;cases j;exact R p Z
  ·rw[q0R e] at j;obtain⟨f1,f2,f3⟩:=hu u e;rw[f1,f2,f3];exact h.th u y p j Z
 ·by_cases e:u=t
  ·subst e;rw[q0H D] at j;cases j;exact U b hb A
  ·rw[q0R e] at j;rw[(hu u e).2.2];exact V u y b e j hb A (h.va u y b j hb A)
theorem VA.calm{rr:List (Int×Int)}{o:jd}(A:xs[t]? =some x)(w:m'.o=m.o)(e:∀a,x.at'=some a->a.dn=false)(h:VA c m xs o b rr):VA c m' (xs.set t x') o b rr:=by
 rcases h with ⟨q,j,d⟩|h
 ·exact .inl ⟨q,j,by rw[q3N w];exact d⟩
 ·exact .inr fun q j d=>by
   rw[q3N w] at d;exact(h q j d).imp (fun z=>z.keep A fun a y hd _=>by rw[e a y] at hd;cases hd) id
theorem q0m.solo{J:Nat}(C:k<=J)(j:m'.o=m.o)(D:m'.ck=m.ck)(E:m'.sv=m.sv)(F:m'.tk=m.tk)(G:m'.sl=m.sl)(o:m'.d=m.d)(h:q0m c ps n k m xs g r)(z:xs[t]? =some x)(K:x.at'=none)(d:x'.at'=none)(A:q0o c J m' (xs.set t x') g.tk)(l:List ObM)(th:Thr)(I:∀p,ps[t]? =some p->ThR c p (some th) (g.O.getD t []++l) x' (r t)):q0m c ps n J m' (xs.set t x') (g.fin t th l) r:=by
 have w:t<n:=by rw[<-h.xl];exact(z7.1 z).1
 have H:∀a,x.at'=some a->a.dn=false:=fun a e=>by rw[K] at e;cases e
 have hm:MR (xs.set t x') m'.d (mix c g.d g.tk):=by
  rw[o];exact h.mr.keep z (fun b hb=>by rw[K] at hb;cases hb) fun b hb=>by rw[d] at hb;cases hb
 refine h.calm C z j D E F G (by rw[o]) (fun L e=>by rw[d] at e;cases e) ?_ ?_ h.dl h.kl A (fun u hu=>⟨?_,?_,rfl⟩) (fun p R=>?_) (fun L e=>by rw[d] at e;cases e) (fun u y b _ _ _ _ T=>T.calm z j H) hm
 ·show(g.T.set t _).length=n;rw[zm];exact h.tl
 ·show(g.O.set t _).length=n;rw[zm];exact h.ol
 ·show(g.T.set t _)[u]? =_;rw[zx,if_neg (fun e=>hu e.symm)]
 ·show(g.O.set t _).getD u []=_;rw[zg,zx,if_neg (fun e=>hu e.symm),zg]
 ·have O:(g.T.set t th)[t]? =some th:=by rw[zx,if_pos rfl,if_pos (by rw[h.tl];exact w)]
  have P:(g.O.set t (g.O.getD t []++l)).getD t []=g.O.getD t []++l:=by
   rw[zg,zx,if_pos rfl,if_pos (by rw[h.ol];exact w)];rfl
  show ThR c p (g.T.set t _)[t]? ((g.O.set t _).getD t []) _ _;rw[O,P];exact I p R
theorem q0m.ask(h:q0m c ps n k m xs g r)(E:xs[t]? =some x)(j:∀a,x.at'=some a->a.dn=false/\∀A V,a.ph≠ .wr A V)(d:x'.at'=some a)(o:a.dn=false)(C:a.ph.tick=false)(F:AI c t m a)(w:q0o c k m (xs.set t x') g.tk)(rt:List (Int×Int))
  (z:∀p,ps[t]? =some p->ThR c p g.T[t]? (g.O.getD t []) x' rt) (D:VA c m (xs.set t x') (mix c g.d g.tk) a rt):q0m c ps n k m (xs.set t x') g (upR r t rt):=by
 refine h.calm (zN k) E rfl rfl rfl rfl rfl rfl (fun G e=>by rw[d] at e;cases e;exact⟨F,C⟩) h.tl h.ol h.dl h.kl w (fun u hu=>⟨rfl,rfl,qb6 hu⟩) (fun p I=>by rw[q6x];exact z p I) (fun G e _=>by rw[d] at e;cases e;rw[q6x];exact D) (fun u y b _ _ _ _ J=>J.calm E rfl fun a H=>(j a H).1) ?_;exact h.mr.keep E (fun b hb=>(j b hb).2) fun b hb=>by rw[d] at hb;cases hb;exact F.nwr o
end
open Go
def RdN(x x':GT)(l l':List (Int×Int)):Prop:=∀d,x'.at'=some d->d.dn=false->l'=match x.at' with
 |none=> []
 |some a=>rUp a d l
section
variable{c:Cfg}{ps:List (jf)}{n k:Nat}{m m':MS}{xs:List GT}{g g':GS}{r r':Nat->List (Int×Int)}{t u:Nat}{x x':GT}{a b:AT}{p:jf}{i:Ins}{s:StM}
theorem q9R(h:x'.at'=some a)(hd:a.dn=false):chN c x x' s= []:=by
 have d:x'.rest=false:=by unfold GT.rest;rw[h];rfl
 unfold chN;rw[h,d];dsimp only;rw[hd];simp
theorem qiL(h:x'.at'=some a)(e:s.ph≠16):chN c x x' s= []:=by
 have d:x'.rest=false:=by unfold GT.rest;rw[h];rfl
 unfold chN;rw[if_neg e,d];simp
theorem qeT(h:(qf c t m a).2.2.2=16):a.ph= .dc:=by
 unfold qf at h;cases e:a.ph with
 |dc=>rfl
 |ent j=>
  rw[e] at h;dsimp only at h
  split at h
  ·cases h
  ·split at h <;>cases h
 |rd j b v=>
  rw[e] at h;dsimp only at h
  split at h
  ·cases h
  ·split at h <;>cases h
 |pp j k o v=>
  rw[e] at h;dsimp only at h
  split at h
  ·cases h
  ·split at h
   ·cases h
   ·split at h <;>cases h
 |ph j b o=>
  rw[e] at h;dsimp only at h;exfalso;have d:(q0p c m j b o).2.2.2≠16:=by
   unfold q0p
   split
   ·show(21:Int)≠16;decide
   ·split
    ·show(22:Int)≠16;decide
    ·split
     ·show(23:Int)≠16;decide
     ·show(23:Int)≠16;decide
  revert h d
  generalize q0p c m j b o=q;obtain⟨m',z,ac,p⟩:=q;intro h d;cases z with
  |none=>exact d h
  |some z=>exact d h
 |lk s l=>
  rw[e] at h;dsimp only at h
  split at h
  ·cases h
  ·split at h <;>cases h
 |tn b=>
  rw[e] at h;dsimp only at h
  split at h <;>cases h
 |_=>rw[e] at h;cases h
theorem q0m.n'(h:q0m c ps n k m xs g r){z:Nat}:q0m c ps n k m xs {g with n:=z} r:=⟨h.gm,h.xl,h.pl,h.tl,h.ol,h.dl,h.ai,h.ds,h.th,h.va,h.mr,h.kl,h.ho⟩
def q0h(c:Cfg)(ps:List (jf))(n k:Nat)(xs:List GT)(g:GS)(r:Nat->List (Int×Int))(t:Nat)(x:GT)(z:MS×GT×StM×jj):Prop:=
 ∃g' r',q70 c ps g (chN c x z.2.1 z.2.2.1)=some g'/\q0m c ps n (k+1) z.1 (xs.set t z.2.1) g' r'/\(∀u,u≠t->r' u=r u)/\RdN x z.2.1 (r t) (r' t)
theorem q0m.busy(C:COk c)(F:n<=16)(E:k<=100000)(h:q0m c ps n k m xs g r)(z:xs[t]? =some x)(w:x.at'=some a)(hb:a.busy=true)(H:ps[t]? =some p)(y:PrO p)(hi:p[x.th.pc]? =some i):q0h c ps n k xs g r t x (q0A c p t m x a i):=by
 unfold q0h
 by_cases d:a.dn=true
 ·by_cases o:a.ph= .lv
  ·have hE:=h.advE C F E z w H y hi d o;rw[qhx o];refine⟨g,r,?_,hE,fun _ _=>rfl,fun J e=>?_⟩
   ·have hd:x.dec=true:=by unfold GT.dec;rw[w];exact d
    unfold chN;dsimp only;rw[if_neg Yc,if_pos rfl,if_pos (.inl hd)];rfl
   ·rw[show((_:MS),(_:GT),(_:StM),(_:jj)).2.1=_ from rfl,q8S] at e;cases e
  ·obtain⟨d1,d2,hD⟩:=h.advD C F E z w H d o;have L:(q0A c p t m x a i).2.1={x with at':=some (qf c t m a).2.1}:=by rw[q37,if_pos d2]
   refine⟨g,r,?_,by rw[L];exact hD,fun _ _=>rfl,fun J e A=>?_⟩
   ·rw[qiL (a:=(qf c t m a).2.1) (by rw[L])]
    ·rfl
    ·intro e;have:=qeT (c:=c) (t:=t) (m:=m) (a:=a) e;have:=(h.ai t x a z w).ph;unfold PhA at this;rename_i V;rw[V] at this;rw[this.1] at d;cases d
   ·rw[L] at e;cases e;rw[d1] at A;cases A
 ·have d:a.dn=false:=by simpa using d
  by_cases o:a.ph= .lv
  ·have G:∀l l',RdN x (x.endX p {a with ph:= .idle,st:=2} i) l l':=fun l l' J e=>by rw[q8S] at e;cases e
   have hd:x.dec=false:=by unfold GT.dec;rw[w];exact d
   rw[qhx o];have D:x.cod=a.code:=by unfold GT.cod;rw[w]
   rcases h.advC C F E z w H y hi d o with ⟨Z,P⟩|⟨Z,ae,g',W,P⟩
   ·refine⟨g,r,?_,P,fun _ _=>rfl,G _ _⟩;unfold chN;dsimp only;rw[if_neg Yc,if_pos rfl,if_pos (.inr (by rw[D];exact Z))];rfl
   ·refine⟨g',r,?_,P,fun _ _=>rfl,G _ _⟩;unfold chN;dsimp only;rw[if_neg Yc,if_pos rfl,if_neg (by rw[hd,Z,D];exact fun h=>h.elim Yc fun h=>h.elim Yc ae)];exact W
  ·by_cases j:(qf c t m a).2.1.dn=true
   ·obtain⟨Y,hX,R,g',I,hB⟩:=h.advB C F E z w hb H y hi d o j;refine⟨_,r,?_,hB,fun _ _=>rfl,fun J e A=>?_⟩
    ·have O:(q0A c p t m x a i).2.2.1.ph=16:=by
      show(qf c t m a).2.2.2=16;rw[q33 Y]
     unfold chN;rw[if_pos O,hX];dsimp only;rw[j,if_pos rfl,R];exact I
    ·rw[hX] at e;cases e;rw[j] at A;cases A
   ·have j:(qf c t m a).2.1.dn=false:=by simpa using j
    obtain⟨rt,af,hA,J,T,U⟩:=h.advA C F E z w hb H y hi d o j;refine⟨g,_,by rw[q9R T U];rfl,hA,fun u hu=>qb6 hu,fun K e _=>?_⟩;rw[q6x,af,w];dsimp only;have:K=(qf c t m a).2.1:=by
     rw[q37] at e
     split at e
     ·exact(Option.some.inj e).symm
     ·rename_i hb';unfold GT.ans at e
      split at e
      ·split at e
       ·rw[q7w.1] at e;cases e
       ·rw[q7v.1] at e;cases e
      ·split at e
       ·exact(Option.some.inj e).symm
       ·split at e <;>exact(Option.some.inj e).symm
    rw[this]
end
open Go
section
variable{c:Cfg}{ps:List (jf)}{n k:Nat}{m m':MS}{xs:List GT}{g g':GS}{r r':Nat->List (Int×Int)}{t u:Nat}{x x':GT}{a b:AT}{p:jf}{i:Ins}{s:StM}
theorem qhw(z:Option AT):q0A c p t m {x with at':=z} a i=q0A c p t m x a i:=by
 unfold q0A GT.ans GT.endG GT.endS GT.accG;rfl
theorem set_set(y z:GT):(xs.set t y).set t z=xs.set t z:=yr ..
theorem VA.own{y:jd}{rr:List (Int×Int)}(C:xs[t]? =some x)(o:∀a,x.at'=some a->a.dn=false)(d:b.rv=a.rv)(j:∀q,q∈fl b->q∈fl a)(h:VA c m xs y a rr):VA c m (xs.set t x') y b rr:=by
 rcases h with ⟨q,w,e⟩|h
 ·exact .inl ⟨q,w,by rw[d];exact e⟩
 ·exact .inr fun q w e=>by
   rw[d] at e;exact(h q ((zw.1 w).elim (fun h=>zq _ h) fun h=>zz _ (j q h)) e).imp (fun A=>A.keep C fun a z hd _=>by rw[o a z] at hd;cases hd) id
theorem q0m.virt(K:COk c)(Y:n<=16)(W:k<=100000)(Z:xs[t]? =some x){x0:GT}{rt:List (Int×Int)}(h:q0m c ps n k m (xs.set t {x0 with at':=some a}) g (upR r t rt))(hb:a.busy=true)(w:a.dn=false)(F:a.ph≠ .lv)(A:fl a= [])(E:a.ph≠ .dc)(L:ps[t]? =some p)(C:PrO p)(hi:p[x0.th.pc]? =some i)
  (H:rt=match x.at' with|none=> []|some _=>r t) (G:∀a,x.at'=some a->fl a= []):q0h c ps n k xs g r t x (q0A c p t m x0 a i):=by
 have d:=q0H (z:={x0 with at':=some a}) Z;have y:=h.busy K Y W d rfl hb L C hi;unfold q0h at y ⊢;rw[qhw,set_set] at y
 --the attempt goes on
 have D:=h.th t _ p d L;unfold ThR at D;dsimp only at D;rw[if_neg (by rw[w];decide)] at D;obtain⟨_,o,hT,V⟩:=D.2.2.adv (t:=t) (m:=m) C K (h.ai t _ a d rfl) (h.ppb d rfl) (h.ho.pop0 d rfl w).2 hi hb w F;rw[qhw] at o;have j:(qf c t m a).2.1.dn=false:=by
  refine Bool.eq_false_iff.2 fun e=>E (V e).1
 obtain⟨g',r',J,R,T,U⟩:=y;rw[q9R o j] at J;refine⟨g',r',by rw[q9R o j];exact J,R,fun u hu=>(T u hu).trans (qb6 hu),fun O e P=>?_⟩;have:=U O e P;dsimp only at this;rw[q6x,q01 A,H] at this;rw[this];cases I:x.at' with
 |none=>rfl
 |some b=>dsimp only;rw[q01 (G b I)]
theorem q6F{th:Thr}(e:g.T[t]? =some th)(d:th.dn=false)(o:ps[t]? =some p)(hi:p[th.pc]? =some i)(j:i.op≠7):chM c ps g ⟨(t:Int),0,[]⟩=sgM c p g th t 0 i:=by
 unfold chM;rw[if_neg (by dsimp only;omega),zF,e,o];dsimp only;rw[if_neg (by rw[d];decide),hi];dsimp only;rw[if_neg j,if_pos rfl]
theorem q0m.e'(h:q0m c ps n k m xs g r){z:jj}:q0m c ps n k m xs {g with E:=z} r:=⟨h.gm,h.xl,h.pl,h.tl,h.ol,h.dl,h.ai,h.ds,h.th,h.va,h.mr,h.kl,h.ho⟩
theorem q0h.solo(y:m'.o=m.o)(z:m'.ck=m.ck)(A:m'.sv=m.sv)(C:m'.tk=m.tk)(D:m'.sl=m.sl)(F:m'.d=m.d)(w:q0o c (k+1) m' (xs.set t x') g.tk)(h:q0m c ps n k m xs g r)(K:xs[t]? =some x)(I:x.at'=none)(d:x'.at'=none)(J:x'.rest=true)(j:s.at'=0/\s.ph≠16/\s.ph≠24/\s.t=t)(l:List ObM)(th:Thr)(G:∀p,ps[t]? =some p->ThR c p (some th) (g.O.getD t []++l) x' (r t))
  {E:jj} (o:chM c ps g ⟨(t:Int),0,[]⟩=some {g.fin t th l with E:=E}) (e:jj):q0h c ps n k xs g r t x (m',x',s,e):=by
 have H:=h.solo (zU k) y z A C D F K I d w l th G;refine⟨{{g.fin t th l with E:=E} with n:=g.n+1},r,?_,H.e'.n',fun _ _=>rfl,fun a' e=>by rw[d] at e;cases e⟩;unfold chN;rw[if_neg j.2.1,if_neg j.2.2.1,if_neg (by rw[j.1,J];decide),j.2.2.2];exact q4H o
theorem q0m.out(h:q0m c ps n k m xs g r)(j:xs[t]? =some x)(e:ps[t]? =some p)(d:x.at'=none):g.T[t]? =some x.th/\g.O.getD t []=x.obs/\x.th.pc<=p.length/\stB p x.th.pc<0/\x.th.dn=decide (x.th.pc=p.length)/\(x.fn≠none->x.tr=0/\∃i,p[x.th.pc]? =some i/\i.op=16)/\(x.tr≠0->∃i,p[x.th.pc]? =some i/\i.op=7)/\x.stg=false:=by
 have:=h.th t x p j e;unfold ThR at this;rw[d] at this;exact this
theorem ThR.rest(A:stB p x.th.pc<0)(hi:p[x.th.pc]? =some i)(y:i.op≠7){X:GT}(j:X.at'=none)(o:X.fn=none)(w:X.tr=0)(z:X.stg=false)(l:List ObM)(C:X.obs=l)(th:Thr)(d:th={X.th with pc:=x.th.pc+1,dn:=decide (x.th.pc+1=p.length)})(rr:List (Int×Int)):ThR c p (some th) l (X.to p.length (x.th.pc+1)) rr/\(X.to p.length (x.th.pc+1)).rest=true:=by
 obtain⟨D,E⟩:=q6U A hi y;refine⟨?_,?_⟩
 ·unfold ThR GT.to;dsimp only;rw[j];exact⟨by rw[d],C.symm,E,D,rfl,fun e=>absurd o e,fun e=>absurd w e,z⟩
 ·unfold GT.rest GT.to;dsimp only;rw[j,o,w];rfl
theorem qij(f:FT):(∃hd nx,(qM c n p t m x f).1={m with hd:=hd,nx:=nx})/\((qM c n p t m x f).2.2.1.at'=0/\(qM c n p t m x f).2.2.1.ph≠16/\(qM c n p t m x f).2.2.1.ph≠24/\(qM c n p t m x f).2.2.1.t=t)/\
  ((∃X:GT,(qM c n p t m x f).2.1=X.fenD p/\X.th=x.th/\X.at'=x.at'/\X.obs=x.obs/\X.tr=x.tr/\X.stg=x.stg)\/((qM c n p t m x f).2.1.th=x.th/\(qM c n p t m x f).2.1.at'=x.at'/\(qM c n p t m x f).2.1.obs=x.obs/\(qM c n p t m x f).2.1.tr=x.tr/\(qM c n p t m x f).2.1.stg=x.stg/\(qM c n p t m x f).2.1.fn.isSome=true)):=by
 unfold qM;cases f.dr with
 |none=>
  have e:(q1c t m f).2.2=25\/(q1c t m f).2.2=26:=by unfold q1c;split;exact .inl rfl;exact .inr rfl
  refine⟨⟨m.hd,m.nx,rfl⟩,⟨rfl,by dsimp only;omega,by dsimp only;omega,rfl⟩,?_⟩;dsimp only
  split
  ·split
   ·exact .inl ⟨_,rfl,rfl,rfl,rfl,rfl,rfl⟩
   ·exact .inr ⟨rfl,rfl,rfl,rfl,rfl,rfl⟩
  ·exact .inr ⟨rfl,rfl,rfl,rfl,rfl,rfl⟩
 |some z=>
  obtain⟨l,q,d⟩:=z;dsimp only;have e:(q0p c m q (l.headD 0) d).2.2.2=21\/(q0p c m q (l.headD 0) d).2.2.2=22\/(q0p c m q (l.headD 0) d).2.2.2=23:=by
   unfold q0p
   split
   ·exact .inl rfl
   ·split
    ·exact .inr (.inl rfl)
    ·split <;>exact .inr (.inr rfl)
  have hm:=qdy (c:=c) (m:=m) (j:=q) (b:=l.headD 0) (h:=d);generalize q0p c m q (l.headD 0) d=z at*;obtain⟨m',z,ac,ph⟩:=z;dsimp only at e hm;cases z with
  |none=>
   refine⟨hm,⟨rfl,by dsimp only;omega,by dsimp only;omega,rfl⟩,?_⟩;dsimp only
   split
   ·exact .inl ⟨x,rfl,rfl,rfl,rfl,rfl,rfl⟩
   ·exact .inr ⟨rfl,rfl,rfl,rfl,rfl,rfl⟩
  |some z=>exact⟨hm,⟨rfl,by dsimp only;omega,by dsimp only;omega,rfl⟩, .inr ⟨rfl,rfl,rfl,rfl,rfl,rfl⟩⟩
theorem q0h.wait(hk:k<=100000)(h:q0m c ps n k m xs g r)(D:xs[t]? =some x)(I:ps[t]? =some p)(A:x.at'=none)(hi:p[x.th.pc]? =some i)(F:i.op=16)(O:x.th.dn=false){f:FT}(hf:x.fn=some f\/(x.fn=none/\f=⟨false,0,0,none⟩)):q0h c ps n k xs g r t x (qM c n p t m x f):=by
 obtain⟨Y,Z,q3,q4,q5,q6,q7,q8⟩:=h.out D I A;have C:x.tr=0:=Decidable.byContradiction fun e=>by
  obtain⟨j,W,h7⟩:=q7 e;rw[hi] at W;cases W;omega
 clear q6 q7;have w:=h.ho.fence (n:=n) (p:=p) hk D A hf;obtain⟨⟨hd,nx,hm⟩,J,V⟩:=qij (c:=c) (n:=n) (p:=p) (t:=t) (m:=m) (x:=x) f;generalize qM c n p t m x f=z at*;obtain⟨m',x',s,e⟩:=z;dsimp only at hm J V w;subst hm
 rcases V with ⟨X,rfl,G,K,R,T,U⟩|⟨G,K,R,T,U,w6⟩
 ·obtain⟨r1,r2⟩:=ThR.rest (c:=c) (x:=x) q4 hi Yb (X:={X with fn:=none,obs:=X.obs++ [⟨X.th.pc,6,0⟩]}) (by exact K.trans A) rfl (by exact T.trans C) (by exact U.trans q8) (x.obs++ [⟨x.th.pc,6,0⟩]) (by dsimp only;rw[R,G]) {q1r x.th i with dn:=decide ((q1r x.th i).pc=p.length)} (by
   dsimp only;rw[G];unfold q1r q4C q1B;rw[if_neg Yb,if_neg Yb,if_neg Yb,if_neg Yb,if_neg Yb]) (r t)
  have ex:X.fenD p=({X with fn:=none,obs:=X.obs++ [⟨X.th.pc,6,0⟩]}:GT).to p.length (x.th.pc+1):=by unfold GT.fenD;rw[G]
  rw[ex] at w ⊢;refine q0h.solo (m:=m) (m':={m with hd:=hd,nx:=nx}) rfl rfl rfl rfl rfl rfl w (E:=g.E) h D A (by exact K.trans A) r2 J [⟨x.th.pc,6,0⟩] {q1r x.th i with dn:=decide ((q1r x.th i).pc=p.length)} (fun p' o=>?_) ?_ e
  ·rw[I] at o;cases o;rw[Z];exact r1
  ·rw[q6F Y O I hi Yb];unfold sgM;rw[if_neg Yb,if_neg Yc,if_pos F];rfl
 ·have d:x'.at'=none:=K.trans A;refine⟨g,r,?_,h.calm (zU k) D rfl rfl rfl rfl rfl rfl (fun L e=>by rw[d] at e;cases e) h.tl h.ol h.dl h.kl w (fun u _=>⟨rfl,rfl,rfl⟩) (fun p' o=>?_) (fun L e=>by rw[d] at e;cases e) (fun u y b _ _ _ _ hv=>hv.calm D rfl fun a e=>by rw[A] at e;cases e) (h.mr.keep D (fun b hb=>by rw[A] at hb;cases hb) fun b hb=>by rw[d] at hb;cases hb),fun _ _=>rfl,fun L H=>by have H:x'.at'=some L:=H;rw[d] at H;cases H⟩
  ·have hr:x'.rest=false:=by
    unfold GT.rest;rw[Zo] at w6;obtain⟨f',P⟩:=w6;rw[P,Option.isNone_some,Bool.and_false,yS]
   unfold chN;rw[if_neg J.2.1,if_neg J.2.2.1,if_pos (.inr hr)];rfl
  ·rw[I] at o;cases o;unfold ThR;rw[d];dsimp only;rw[G,R,T,U];exact⟨Y,Z,q3,q4,q5,fun _=>⟨C,i,hi,F⟩,fun e=>absurd C e,q8⟩
theorem q0h.locO(h:q0m c ps n k m xs g r)(D:xs[t]? =some x)(C:ps[t]? =some p)(y:PrO p)(d:x.at'=none)(o:x.fn=none)(hi:p[x.th.pc]? =some i)(hop:(0<=i.op/\i.op<=6)\/i.op=17)(A:x.th.dn=false):
  q0h c ps n k xs g r t x (m,{x with th:={q1r x.th i with dn:=decide ((q1r x.th i).pc=p.length)}},⟨t,0,0,acz⟩,[]):=by
 obtain⟨K,L,q3,G,q5,O,H,P⟩:=h.out D C d;have z:x.tr=0:=Decidable.byContradiction fun e=>by
  obtain⟨j,F,h7⟩:=H e;rw[hi] at F;cases F;omega
 clear O H;obtain⟨I,l2,_,J⟩:=qdh y.ck hi Yb;refine q0h.solo (m:=m) (s:=⟨t,0,0,acz⟩) (x':={x with th:={q1r x.th i with dn:=decide ((q1r x.th i).pc=p.length)}}) rfl rfl rfl rfl rfl rfl (h.ho.calm (zU k) D d (by exact d) rfl rfl) (E:=g.E) h D d (by exact d) ?_ ⟨rfl,by show(0:Int)≠16;decide,by show(0:Int)≠24;decide,rfl⟩ [] {q1r x.th i with dn:=decide ((q1r x.th i).pc=p.length)} (fun p' w=>?_) ?_ []
 ·unfold GT.rest;dsimp only;rw[d,o,z];rfl
 ·rw[C] at w;cases w;unfold ThR;dsimp only;rw[d];exact⟨rfl,by rw[L,zC],l2,qkx y.ck G I l2 hi Yb (J G),rfl,fun e=>absurd o e,fun e=>absurd z e,P⟩
 ·rw[q6F K A C hi Yb];unfold sgM;rw[if_neg Yb,if_neg Yc,if_neg Yb];rfl
end
open Go
section
variable{c:Cfg}{ps:List (jf)}{n k:Nat}{m m':MS}{xs:List GT}{g g':GS}{r r':Nat->List (Int×Int)}{t u:Nat}{x x':GT}{a b:AT}{p:jf}{i:Ins}{s:StM}
theorem qd2(h:qH i=0)(d:i.op=14):0<=i.imm/\i.imm<4:=by
 unfold qH at h;rw[if_neg Yb,d] at h
 split at h
 ·split at h
  ·rename_i e;unfold q3v at e;rw[if_neg Yc,if_neg Yc,if_neg Yc,if_neg Yc,if_pos rfl] at e;exact e
  ·cases h
 ·cases h
theorem q0h.plain(P:COk c)(U:n<=16)(T:k<=100000)(h:q0m c ps n k m xs g r)(y:xs[t]? =some x)(D:ps[t]? =some p)(H:PrO p)(w:x.at'=none)(A:x.fn=none)(hi:p[x.th.pc]? =some i)(C:i.op=12\/i.op=13)(z:x.th.dn=false):q0h c ps n k xs g r t x (q0c c p t m x i):=by
 obtain⟨J,K,q3,L,q5,Y,O,Z⟩:=h.out y D w;have F:x.tr=0:=Decidable.byContradiction fun e=>by
  obtain⟨j,I,h7⟩:=O e;rw[hi] at I;cases I;omega
 clear Y O;have G:q1D x i=adr x.th.rg (if i.op=12 then i.b else i.a) i.imm:=rfl;unfold q0c
 by_cases hw:c.words<=q1D x i
 ·have d:=q6F (c:=c) J z D hi Yb;unfold sgM at d;rw[if_pos C] at d;dsimp only at d;rw[<-G,if_neg Yc,if_pos hw] at d;rw[if_pos hw];obtain⟨r1,r2⟩:=ThR.rest (c:=c) (x:=x) L hi Yb (X:={x with th:={x.th with rg:=if i.op=12 then x.th.rg.set i.a.toNat 0 else x.th.rg},obs:=x.obs++ [⟨x.th.pc,7,7⟩]}) w A F Z (x.obs++ [⟨x.th.pc,7,7⟩]) rfl (x.th.nxt p.length (if i.op=12 then x.th.rg.set i.a.toNat 0 else x.th.rg)) rfl (r t);refine q0h.solo (m:=m) (s:=⟨t,0,0,acz⟩) (x':=({x with th:={x.th with rg:=if i.op=12 then x.th.rg.set i.a.toNat 0 else x.th.rg},obs:=x.obs++ [⟨x.th.pc,7,7⟩]}:GT).to p.length (x.th.pc+1)) rfl rfl rfl rfl rfl rfl (h.ho.calm (zU k) y w w rfl rfl) h y w w r2 ⟨rfl,by show(0:Int)≠16;decide,by show(0:Int)≠24;decide,rfl⟩ [⟨x.th.pc,7,7⟩] (x.th.nxt p.length (if i.op=12 then x.th.rg.set i.a.toNat 0 else x.th.rg)) (fun W o=>?_) (E:=g.E) d [];rw[D] at o;cases o;rw[K];exact r1
 ·rw[if_neg hw];have R:=TS.start (c:=c) hi C Yb z A F L;refine q0m.virt (a:={AT.new with st:=1,ph:= .ent 0}) (x0:={x with seen:= [],ct:=x.ct+1,stg:=true,ask:=0}) P U T y (rt:= []) (h.ask (a:={AT.new with st:=1,ph:= .ent 0}) (x':={x with seen:= [],ct:=x.ct+1,stg:=true,ask:=0,at':=some {AT.new with st:=1,ph:= .ent 0}}) y (fun a e=>by rw[w] at e;cases e) rfl rfl rfl AI.start (h.ho.start y w rfl rfl rfl rfl rfl rfl rfl) [] (fun W o=>?_) (.inr fun q V=>?_)) rfl rfl (fun e=>by cases e) rfl (fun e=>by cases e) D H hi (by rw[w]) (fun b e=>by rw[w] at e;cases e)
  ·rw[D] at o;cases o;unfold ThR;dsimp only;rw[if_neg Yc,J,K];exact⟨rfl,rfl, .inr (R.at _)⟩
  ·cases V
theorem q0h.ask(H:COk c)(K:n<=16)(J:k<=100000)(h:q0m c ps n k m xs g r)(w:xs[t]? =some x)(F:ps[t]? =some p)(E:PrO p)(o:x.at'=some a)(j:a.ph= .idle)(d:a.dn=false)(hi:p[x.th.pc]? =some i)(z:g.T[t]? =some (q7k x))(C:g.O.getD t []=x.obs)(I:TS c p x a (r t)):q0h c ps n k xs g r t x (q0A c p t m {x with ask:=x.ask+1} (q1i c x a i) i):=by
 have D:fl a= []:=by unfold fl;rw[j]
 obtain⟨f1,f2,f3,f4,f5,f6,f7,f8,f9,f10,f11,f12,f13,f14⟩:=I.ask (h.ai t x a w o) j hi;refine q0m.virt (a:=q1i c x a i) (x0:={x with ask:=x.ask+1}) H K J w (rt:=r t) (h.ask (a:=q1i c x a i) (x':={x with ask:=x.ask+1,at':=some (q1i c x a i)}) w (fun b e=>by rw[o] at e;cases e;exact⟨d,fun A V e=>by rw[j] at e;cases e⟩) rfl (by rw[f4];exact d) f7 f2 (h.ho.req w o j d rfl rfl rfl f10.al f11 f4 (.inl f13) f14 f8) (r t) (fun p' y=>?_) ?_) f3 (by rw[f4];exact d) f8 f6 (fun e=>?_) F E hi (by rw[o]) (fun b e=>by rw[o] at e;cases e;exact D)
 ·rw[F] at y;cases y;unfold ThR;dsimp only;rw[if_neg (by rw[f4,d];decide)];exact⟨z,C, .inr (f1.at _)⟩
 ·exact VA.own w (fun b e=>by rw[o] at e;cases e;exact d) f5 (fun q G=>by rw[f6] at G;cases G) (h.va t x a w o d)
 ·rw[e] at f7;cases f7
theorem q0h.locT(h:q0m c ps n k m xs g r)(w:xs[t]? =some x)(L:ps[t]? =some p)(J:PrO p)(j:x.at'=some a)(o:a.ph= .idle)(d:a.dn=false)(hi:p[x.th.pc]? =some i)(I:0<=i.op/\i.op<=6)
  (E:g.T[t]? =some (q7k x)) (F:g.O.getD t []=x.obs) (K:TL c p x a (r t)) (H:fl a= []):q0h c ps n k xs g r t x (m,{x with th:={q1r x.th i with dn:=decide ((q1r x.th i).pc=p.length)}},⟨t,0,if x.at'.isSome then x.ct else 0,acz⟩,[]):=by
 have G:=K.locI J o hi I;refine⟨g,r,?_,h.calm (zU k) (x':={x with th:={q1r x.th i with dn:=decide ((q1r x.th i).pc=p.length)}}) w rfl rfl rfl rfl rfl rfl (fun z e=>?_) h.tl h.ol h.dl h.kl (h.ho.keep (y:=a) (zU k) w j rfl rfl j rfl rfl ⟨rfl,rfl,rfl⟩ (h.ho.pa t x a w j)) (fun u _=>⟨rfl,rfl,rfl⟩) (fun p' D=>?_) (fun z e _=>?_) (fun u y b _ _ _ _ P=>P.calm w rfl fun b e=>by rw[j] at e;cases e;exact d) (h.mr.keep w (fun b e A V C=>by rw[j] at e;cases e;rw[o] at C;cases C) fun b e A V C=>?_),fun _ _=>rfl,fun z e _=>?_⟩
 ·rw[q9R (x':={x with th:={q1r x.th i with dn:=decide ((q1r x.th i).pc=p.length)}}) (a:=a) j d];rfl
 ·have e:x.at'=some z:=e;rw[j] at e;cases e;exact⟨h.ai t x a w j,by rw[o];rfl⟩
 ·rw[L] at D;cases D;unfold ThR;dsimp only;rw[j];dsimp only;rw[if_neg (by rw[d];decide)];refine⟨?_,F, .inl (G.at _)⟩;rw[E];unfold q7k;dsimp only;rw[K.sg,if_neg Yc,if_neg Yc];rfl
 ·have e:x.at'=some z:=e;rw[j] at e;cases e;exact VA.own w (fun b e=>by rw[j] at e;cases e;exact d) rfl (fun q O=>O) (h.va t x a w j d)
 ·have e:x.at'=some b:=e;rw[j] at e;cases e;rw[o] at C;cases C
 ·have e:x.at'=some z:=e;rw[j] at e ⊢;cases e;dsimp only;rw[q01 H]
theorem q0m.step(R:COk c)(Z:n<=16)(P:k<=100000)(h:q0m c ps n k m xs g r)(z:xs[t]? =some x)(E:ps[t]? =some p)(y:PrO p)(C:x.th.dn=false):q0h c ps n k xs g r t x (qY c p n t m x):=by
 have D:=h.th t x p z E;unfold qY;cases o:x.at' with
 |none=>
  obtain⟨q1,q2,q3,q4,q5,q6,q7,q8⟩:=h.out z E o;obtain⟨i,hi⟩:∃i,p[x.th.pc]? =some i:=by
   refine⟨_,z6 (yM q3 fun e=>?_)⟩;rw[C] at q5;exact of_decide_eq_false q5.symm e
  rw[hi];dsimp only;have au:∀b,x.at'=some b->fl b= []:=fun b e=>by rw[o] at e;cases e
  cases T:x.fn with
  |some f=>
   obtain⟨_,j,Y,G⟩:=q6 (by rw[T];exact fun e=>by cases e);rw[hi] at Y;cases Y;exact q0h.wait P h z E o hi G C (.inl T)
  |none=>
   dsimp only;unfold q2l;have ho:=qi2 y q4 hi
   by_cases K:i.op=12\/i.op=13
   ·rw[if_pos K];exact q0h.plain R Z P h z E y o T hi K C
   ·rw[if_neg K]
    by_cases G:i.op=16
    ·rw[if_pos G];exact q0h.wait P h z E o hi G C (.inr ⟨T,rfl⟩)
    ·rw[if_neg G];unfold q1m
     by_cases U:i.op=7
     ·rw[if_pos U];have F:=TL.start (c:=c) (x:=x) q8 hi U C T;refine q0m.virt (a:={AT.new with st:=1,ph:= .ent 0}) (x0:={x with bg:=x.th.pc,sv:=x.th.rg,tr:=x.tr+1,seen:= [],ct:=x.ct+1}) R Z P z (rt:= []) (h.ask (a:={AT.new with st:=1,ph:= .ent 0}) (x':={x with bg:=x.th.pc,sv:=x.th.rg,tr:=x.tr+1,seen:= [],ct:=x.ct+1,at':=some {AT.new with st:=1,ph:= .ent 0}}) z (fun a e=>by rw[o] at e;cases e) rfl rfl rfl AI.start (h.ho.start z o rfl rfl rfl rfl rfl rfl rfl) [] (fun p' H=>?_) (.inr fun q hq=>?_)) rfl rfl (fun e=>by cases e) rfl (fun e=>by cases e) E y hi (by rw[o]) au
      ·rw[E] at H;cases H;unfold ThR;dsimp only;rw[if_neg Yc,q1,q2];refine⟨?_,rfl, .inl (F.at _)⟩;unfold q7k;dsimp only;rw[q8,if_neg Yc,<-C]
      ·cases hq
     ·rw[if_neg U,if_neg Yb];have e:(if x.at'.isSome then(x.ct:Int) else 0)=0:=by rw[o];rfl
      rw[e];exact q0h.locO h z E y o T hi Yb C
 |some a=>
  have J:x.fn=none/\x.th.pc<p.length:=by
   unfold ThR at D;rw[o] at D;dsimp only at D
   split at D
   ·exact⟨D.2.2.fn,D.2.2.pl⟩
   ·exact⟨D.2.2.fn,D.2.2.pl⟩
  obtain⟨J,aq⟩:=J;obtain⟨i,hi⟩:∃i,p[x.th.pc]? =some i:=⟨_,z6 aq⟩
  rw[hi];dsimp only;rw[J];dsimp only
  by_cases hb:a.busy=true
  ·rw[if_pos hb];exact h.busy R Z P z o hb E y hi
  ·rw[if_neg hb];have w:a.ph= .idle:=by
    unfold AT.busy at hb;cases e:a.ph <;>rw[e] at hb <;>first|rfl|exact absurd rfl hb
   have d:a.dn=false:=by
    have:=(h.ai t x a z o).ph;unfold PhA at this;rw[w] at this;exact this.1
   unfold ThR at D;rw[o] at D;dsimp only at D;rw[if_neg (by rw[d];decide)] at D;obtain⟨L,O,F⟩:=D
   rcases F with F|F
   ·rw[if_neg (by rw[F.sg];decide)];obtain⟨i1,i2,_,_⟩:=F.req (fun k e=>by rw[w] at e;cases e) (by rw[w];rfl);obtain⟨ib,af,U⟩:=F.bg;obtain⟨_,_,_,j,Y,K,aj,_⟩:=q7F y af U i1 i2;rw[hi] at Y;cases Y;have W:fl a= []:=by unfold fl;rw[w]
    unfold q2l;rw[if_neg Yb,if_neg Yb];unfold q1m;rw[if_neg Yb]
    by_cases I:(8<=i.op/\i.op<=11)\/i.op=14\/i.op=15
    ·rw[if_pos I,o];dsimp only;obtain⟨f1,f2,f3,f4,f5,f6,f7,f8,f9,f10,f11,f12,f13,f14⟩:=qaC R F (h.ai t x a z o) w hi I;refine q0m.virt (a:=q11 c x.th.rg a i) (x0:=x) R Z P z (rt:=r t) (h.ask (a:=q11 c x.th.rg a i) (x':={x with at':=some (q11 c x.th.rg a i)}) z (fun b e=>by rw[o] at e;cases e;exact⟨d,fun A V e=>by rw[w] at e;cases e⟩) rfl (by rw[f4];exact d) f7 f2 (h.ho.req z o w d rfl rfl rfl f10.al f11 f4 (f13.imp id fun⟨ae,e⟩=>⟨i.imm,qd2 aj ae,e⟩) f14 f8) (r t) (fun p' H=>?_) ?_) f3 (by rw[f4];exact d) f8 f6 (fun e=>?_) E y hi (by rw[o]) (fun b e=>by rw[o] at e;cases e;exact W)
     ·rw[E] at H;cases H;unfold ThR;dsimp only;rw[if_neg (by rw[f4,d];decide)];exact⟨L,O, .inl (f1.at _)⟩
     ·exact VA.own z (fun b e=>by rw[o] at e;cases e;exact d) f5 (fun q hq=>by rw[f6] at hq;cases hq) (h.va t x a z o d)
     ·rw[e] at f7;cases f7
    ·rw[if_neg I];have hh:=q0h.locT h z E y o w d hi Yb L O F W;exact hh
   ·rw[if_pos F.sg];have hh:=q0h.ask R Z P h z E y o w d hi L O F;rw[o,J] at hh;exact hh
end
open Go
def PhX:AP->Prop
 | .loc (.en c)=>0<=c/\c<=9
 | .loc (.tk v)=>okU v
 | .loc (.wr _ v)=>okU v
 | .loc (.ud c)=>0<=c/\c<=9
 | .loc (.fd _ v)=>okU v
 | .rd n b v=>(n=0/\b=0/\v=0)\/(n=1/\v=0)\/(n=2/\okU v)
 | .wr _ V=>∀v∈V,okU v
 |_=>True
structure AtX(k:Nat)(a:AT):Prop where
 ls:a.set.length<=k
 ln:a.seen.length<=k
 cd:0<=a.code/\a.code<=9
 ck:0<=a.ck/\a.ck<=k
 vl:∀v∈a.vl,okU v
 val:okU a.val
 ph:PhX a.ph
 la:a.al.length<=k
 lf:a.fr.length<=k
 sw:∀w∈a.seen,0<=w/\w<64
def q3x(d:jd):Prop:=∀v∈d,okU v
section
variable{c:Cfg}{t:Nat}{n k:Nat}{m m':MS}{a b:AT}{x:GT}{p:jf}{i:Ins}
theorem qbW:okU 0:=⟨Yc,Yc⟩
theorem q3x.at{d:jd}(h:q3x d)(j:Nat):okU (d.getD j 0):=by
 rw[zg];cases e:d[j]? with
 |none=>exact qbW
 |some v=>exact h v (zh e)
theorem q3x.set{d:jd}(h:q3x d){j:Nat}{v:Int}(o:okU v):q3x (d.set j v):=fun z w=>by
 rcases Ze w with e|rfl
 ·exact h z e
 ·exact o
theorem AtX.up(h:AtX k a):AtX (k+1) a:=⟨Zn h.ls,Zn h.ln,h.cd,⟨h.ck.1,by have:=h.ck.2;omega⟩,h.vl,h.val,h.ph,Zn h.la,Zn h.lf,h.sw⟩
theorem AtX.to(h:AtX k a)(e:b.set=a.set)(d:b.seen=a.seen)(j:b.vl=a.vl)(o:b.val=a.val)(w:b.ck=a.ck)(A:b.al=a.al)(C:b.fr=a.fr)(y:0<=b.code/\b.code<=9)(z:PhX b.ph):AtX k b:=⟨by rw[e];exact h.ls,by rw[d];exact h.ln,y,by rw[w];exact h.ck,by rw[j];exact h.vl,by rw[o];exact h.val,z,by rw[A];exact h.la,by rw[C];exact h.lf,by rw[d];exact h.sw⟩
theorem AtX.endA(h:AtX k a){q:Int}(d:0<=q/\q<=9):AtX k (a.endA c q):=by
 unfold AT.endA
 split
 ·exact h.to rfl rfl rfl rfl rfl rfl rfl d trivial
 ·exact h.to rfl rfl rfl rfl rfl rfl rfl d trivial
theorem AtX.fin(h:AtX k a):AtX k a.fin:=by
 unfold AT.fin
 split
 ·exact h.to rfl rfl rfl rfl rfl rfl rfl h.cd trivial
 ·exact h.to rfl rfl rfl rfl rfl rfl rfl h.cd trivial
theorem AtX.undo(h:AtX k a){q:Int}(d:0<=q/\q<=9):AtX k (a.undo q):=AtX.fin (a:={a with code:=q}) ⟨h.ls,h.ln,d,h.ck,h.vl,h.val,h.ph,h.la,h.lf,h.sw⟩
theorem AtX.rest(h:AtX k a):AtX k a.rest:=by
 unfold AT.rest
 split
 ·exact h.to rfl rfl rfl rfl rfl rfl rfl h.cd trivial
 ·exact h.to rfl rfl rfl rfl rfl rfl rfl h.cd trivial
theorem qa7{ad vl:jd}{w v:Int}(h:q14 ad vl w=some v):v∈vl:=by
 unfold q14 at h
 split at h
 ·exact zh h
 ·cases h
theorem q3A{cap:Int}{ad vl ad' vl':jd}{w v:Int}(h:q2Q cap ad vl w v=some (ad',vl'))(j:okU v)(e:∀z∈vl,okU z):∀z∈vl',okU z:=by
 unfold q2Q at h
 split at h
 ·simp only[Option.some.injEq,Prod.mk.injEq] at h;obtain⟨rfl,rfl⟩:=h;exact q3x.set e j
 ·split at h
  ·cases h
  ·simp only[Option.some.injEq,Prod.mk.injEq] at h;obtain⟨rfl,rfl⟩:=h;intro z o
   rcases zw.1 o with d|d
   ·exact e z d
   ·rw[zf.1 d];exact j
theorem qax{cap:Int}:∀(n:Nat) (a:Int) (l:jd×jd),(∀z∈l.2,okU z)->∀z∈(q1J cap n a l).1.2,okU z
 |0,_,_,h=>h
 |n+1,a,l,h=>by
  unfold q1J;cases e:q2Q cap l.1 l.2 a 0 with
  |none=>exact h
  |some l'=>exact qax n (a+1) l' (q3A (ad':=l'.1) (vl':=l'.2) e qbW h)
theorem AtX.frd(h:AtX k a)(d:a.ph= .idle)(b v:Int):AtX (k+1) (a.frd c b v):=by
 unfold AT.frd
 split
 ·exact h.up.endA Yc
 ·split
  ·exact h.up.undo Yc
  ·split
   ·rename_i l e;refine⟨h.up.ls,h.up.ln,h.cd,h.up.ck,q3A (ad':=l.1) (vl':=l.2) e qbW h.vl,h.val,?_,h.up.la,?_,h.sw⟩
    ·show PhX a.ph;rw[d];trivial
    ·have:=h.lf;dsimp only;rw[z8,zA];omega
   ·exact h.up.undo Yc
theorem AtX.allo(h:AtX k a){kc b:Int}(hk:0<=kc/\kc<=3)(w:0<=b->okU (qs c b)):AtX (k+1) (a.allo c kc b):=by
 have j:(a.al++ [b]).length<=k+1:=by
  have:=h.la;rw[z8,zA];omega
 have hu:=h.up;unfold AT.allo
 split
 ·exact hu.undo Yc
 ·rename_i hb;have d:okU (kc+1):=⟨Yb,Yb⟩
  split
  ·exact AtX.undo (a:={a with al:=a.al++ [b]}) ⟨hu.ls,hu.ln,hu.cd,hu.ck,hu.vl,hu.val,hu.ph,j,hu.lf,hu.sw⟩ Yc
  ·rename_i l e;have o:=qax (cap:=c.writes) (2 ^ kc.toNat) (qs c b) l (q3A (ad':=l.1) (vl':=l.2) e d h.vl)
   split
   ·exact⟨hu.ls,hu.ln,hu.cd,hu.ck,o,w Yb,hu.ph,j,hu.lf,hu.sw⟩
   ·exact AtX.undo (a:={a with al:=a.al++ [b],ad:=_,vl:=(q1J c.writes (2 ^ kc.toNat) (qs c b) l).1.2}) ⟨hu.ls,hu.ln,hu.cd,hu.ck,o,hu.val,hu.ph,j,hu.lf,hu.sw⟩ Yc
theorem AtX.kont(h:AtX k a)(j:a.ph= .idle){q:Ko}(d:PhX (.loc q)):AtX (k+1) (a.kont c q):=by
 have hu:=h.up;cases q with
 |en q=>exact hu.endA d
 |tk v=>exact⟨hu.ls,hu.ln,hu.cd,hu.ck,hu.vl,d,hu.ph,hu.la,hu.lf,hu.sw⟩
 |wr w v=>
  unfold AT.kont;dsimp only
  split
  ·exact hu.endA Yc
  ·split
   ·rename_i e;exact⟨hu.ls,hu.ln,hu.cd,hu.ck,q3A e d h.vl,hu.val,hu.ph,hu.la,hu.lf,hu.sw⟩
   ·exact hu.undo Yc
 |ud q=>exact hu.undo d
 |fd b v=>exact h.frd j b v
theorem qf6{cap o:Int}{l s:jd}(h:q60 cap l o=some s):s.length<=l.length+1:=by
 unfold q60 at h
 split at h
 ·cases h;omega
 ·split at h
  ·cases h
  ·cases h;simp
theorem qf5(l:jd)(w:Int):(q2O l w).length<=l.length+1:=by
 unfold q2O
 split
 ·omega
 ·simp
theorem AtX.step(h:AtX k a)(hd:q3x m.d)(hk:0<=m.ck/\m.ck<=k)(D:∀n kc h v,a.ph= .pp n kc h v->(0<=kc/\kc<4)/\(n≠0->okU (qs c (q02 h))))(G:∀n b v,a.ph= .rd n b v->0<=a.addr)(hcw:c.words<=64):AtX (k+1) (qf c t m a).2.1/\q3x (qf c t m a).1.d:=by
 have d:=h.up;have o:=h.ph;unfold qf;cases e:a.ph with
 |idle=>exact⟨d,hd⟩
 |loc q=>
  rw[e] at o;exact⟨AtX.kont (AtX.to (b:={a with ph:= .idle}) h rfl rfl rfl rfl rfl rfl rfl h.cd trivial) rfl o,hd⟩
 |ent j=>
  dsimp only
  split
  ·exact⟨d.to rfl rfl rfl rfl rfl rfl rfl h.cd trivial,hd⟩
  ·split
   ·exact⟨d.to rfl rfl rfl rfl rfl rfl rfl h.cd trivial,hd⟩
   ·exact⟨d.to rfl rfl rfl rfl rfl rfl rfl h.cd trivial,hd⟩
 |rd j bf v=>
  dsimp only
  split
  ·dsimp only
   split
   ·exact⟨d.undo Yc,hd⟩
   ·exact⟨d.to rfl rfl rfl rfl rfl rfl rfl h.cd (.inr (.inl ⟨rfl,rfl⟩)),hd⟩
  ·split
   ·exact⟨d.to rfl rfl rfl rfl rfl rfl rfl h.cd (.inr (.inr ⟨rfl,hd.at _⟩)),hd⟩
   ·rename_i E J;rw[e] at o;have H:okU v:=by
     rcases o with ⟨o,_⟩|⟨o,_⟩|⟨_,o⟩
     ·exact absurd o E
     ·exact absurd o J
     ·exact o
    dsimp only
    split
    ·exact⟨d.undo Yc,hd⟩
    ·have h2:(a.saw c).length<=a.seen.length+1:=by
      unfold AT.saw
      split
      ·exact qf5 a.seen a.addr
      ·omega
     have h3:=h.ln;have y:∀w∈a.saw c,0<=w/\w<64:=fun w hw=>by
      unfold AT.saw at hw
      split at hw
      ·rcases q3m.1 hw with hw|rfl
       ·exact h.sw w hw
       ·have:=G j bf v e;omega
      ·exact h.sw w hw
     split
     ·refine⟨AtX.undo (a:={a with seen:=a.saw c}) ⟨d.ls,?_,h.cd,d.ck,h.vl,h.val,h.ph,d.la,d.lf,y⟩ Yc,hd⟩;dsimp only;omega
     ·rename_i s K;have h4:=qf6 K;have h5:=h.ls;unfold AT.got
      split
      ·exact⟨⟨by dsimp only;omega,by dsimp only;omega,h.cd,d.ck,h.vl,H,trivial,d.la,d.lf,y⟩,hd⟩
      ·refine⟨?_,hd⟩
       --the lists grow once
       have h6:=h.lf;have h7:=h.la;unfold AT.frd
       split
       ·exact AtX.endA (a:={a with seen:=a.saw c,set:=s,ph:= .idle}) ⟨by dsimp only;omega,by dsimp only;omega,h.cd,d.ck,h.vl,h.val,trivial,d.la,d.lf,y⟩ Yc
       ·split
        ·exact AtX.undo (a:={a with seen:=a.saw c,set:=s,ph:= .idle}) ⟨by dsimp only;omega,by dsimp only;omega,h.cd,d.ck,h.vl,h.val,trivial,d.la,d.lf,y⟩ Yc
        ·split
         ·rename_i l I;exact⟨by dsimp only;omega,by dsimp only;omega,h.cd,d.ck,q3A (ad':=l.1) (vl':=l.2) I qbW h.vl,h.val,trivial,d.la,by dsimp only;rw[z8,zA];omega,y⟩
         ·exact AtX.undo (a:={a with seen:=a.saw c,set:=s,ph:= .idle}) ⟨by dsimp only;omega,by dsimp only;omega,h.cd,d.ck,h.vl,h.val,trivial,d.la,d.lf,y⟩ Yc
 |pp j kc E v=>
  have D:=D j kc E v e;have F:AtX k {a with ph:= .idle}:=AtX.to (b:={a with ph:= .idle}) h rfl rfl rfl rfl rfl rfl rfl h.cd trivial;dsimp only
  split
  ·refine⟨?_,hd⟩;dsimp only
   split
   ·exact F.allo Yb (fun h=>absurd h Yc)
   ·exact d.to rfl rfl rfl rfl rfl rfl rfl h.cd trivial
  ·rename_i L
   split
   ·exact⟨d.to rfl rfl rfl rfl rfl rfl rfl h.cd trivial,hd⟩
   ·split
    ·exact⟨F.allo Yb (fun _=>D.2 L),hd⟩
    ·exact⟨d.to rfl rfl rfl rfl rfl rfl rfl h.cd trivial,hd⟩
 |lk s ld=>
  dsimp only
  split
  ·exact⟨d.to rfl rfl rfl rfl rfl rfl rfl h.cd trivial,hd⟩
  ·split
   ·refine⟨d.to rfl rfl rfl rfl rfl rfl rfl h.cd ?_,hd⟩;dsimp only
    split <;>trivial
   ·exact⟨d.to rfl rfl rfl rfl rfl rfl rfl h.cd trivial,hd⟩
 |tn q=>
  dsimp only
  split
  ·exact⟨d.to rfl rfl rfl rfl rfl rfl rfl h.cd trivial,hd⟩
  ·dsimp only
   split
   ·split
    ·exact⟨d.to rfl rfl rfl rfl rfl rfl rfl h.cd trivial,hd⟩
    ·exact⟨d.to rfl rfl rfl rfl rfl rfl rfl h.cd trivial,hd⟩
   ·exact⟨d,hd⟩
 |ck l=>
  dsimp only
  split
  ·exact⟨AtX.rest (a:={a with code:=9}) (d.to rfl rfl rfl rfl rfl rfl rfl (by dsimp only;decide) h.ph),hd⟩
  ·split
   ·exact⟨d.to rfl rfl rfl rfl rfl rfl rfl h.cd trivial,hd⟩
   ·exact⟨d.to rfl rfl rfl rfl rfl rfl rfl h.cd trivial,hd⟩
 |dc=>
  have C:0<=m.ck/\m.ck<=((k+1:Nat):Int):=Yb;dsimp only
  split
  ·exact⟨AtX.rest (a:={a with ck:=m.ck,code:=6}) ⟨d.ls,d.ln,by dsimp only;decide,C,h.vl,h.val,h.ph,d.la,d.lf,d.sw⟩,hd⟩
  ·split
   ·exact⟨⟨d.ls,d.ln,h.cd,C,h.vl,h.val,h.vl,d.la,d.lf,d.sw⟩,hd⟩
   ·exact⟨AtX.rest (a:={a with ck:=m.ck,dn:=true}) ⟨d.ls,d.ln,h.cd,C,h.vl,h.val,h.ph,d.la,d.lf,d.sw⟩,hd⟩
 |wr A V=>
  rw[e] at o;dsimp only;refine⟨?_,hd.set ?_⟩
  ·split
   ·exact d.to rfl rfl rfl rfl rfl rfl rfl h.cd trivial
   ·exact d.to rfl rfl rfl rfl rfl rfl rfl h.cd fun v H=>o v (Zy H)
  ·cases V with
   |nil=>exact qbW
   |cons v V=>exact o v zp
 |rl A V=>
  dsimp only;refine⟨?_,hd⟩
  split
  ·refine d.to rfl rfl rfl rfl rfl rfl rfl h.cd ?_;dsimp only
   split <;>trivial
  ·exact d.to rfl rfl rfl rfl rfl rfl rfl h.cd trivial
 |sp=>exact⟨d.to rfl rfl rfl rfl rfl rfl rfl h.cd trivial,hd⟩
 |ps=>exact⟨d.fin,hd⟩
 |ph j b E=>
  obtain⟨hd',nx,hm⟩:=qdy (c:=c) (m:=m) (j:=j) (b:=b) (h:=E);dsimp only
  revert hm
  generalize q0p c m j b E=q;obtain⟨m',z,ac,p⟩:=q;rintro rfl;cases z with
  |none=>exact⟨AtX.fin (a:={a with pu:=a.pu+1}) ⟨d.ls,d.ln,d.cd,d.ck,d.vl,d.val,d.ph,d.la,d.lf,d.sw⟩,hd⟩
  |some z=>exact⟨d.to rfl rfl rfl rfl rfl rfl rfl h.cd trivial,hd⟩
 |lv=>exact⟨d.to rfl rfl rfl rfl rfl rfl rfl h.cd trivial,hd⟩
end
open Go
structure ThX(n k:Nat)(x:GT):Prop where
 rg:x.th.rg.ok
 sv:x.sv.ok
 sn:x.seen.length<=k
 ob:x.obs.length+(if x.at'.isSome then x.seen.length else 0)<=2*k
 ct:x.ct<=k
 tr:x.tr<=k
 fn:∀f,x.fn=some f->f.ld=true/\f.nx<=n+1/\(f.dr=none->f.nx<n)/\0<=f.lim/\f.lim<=k
 at':∀a,x.at'=some a->AtX k a
 lm:∀q∈x.lm, -1<=q.2/\q.2<=k+1
section
variable{c:Cfg}{t:Nat}{n k:Nat}{m m':MS}{a b:AT}{x:GT}{p:jf}{i:Ins}
theorem ThX.up(h:ThX n k x):ThX n (k+1) x:=⟨h.rg,h.sv,Zn h.sn,by have:=h.ob;omega,Zn h.ct,Zn h.tr,fun f e=>by have:=h.fn f e;exact⟨this.1,this.2.1,this.2.2.1,this.2.2.2.1,Yb⟩,fun a d=>(h.at' a d).up,fun q j=>by have:=h.lm q j;exact⟨this.1,Yb⟩⟩
theorem ThX.too(h:ThX n k x)(q:Nat):ThX n k (x.to p.length q):=⟨h.rg,h.sv,h.sn,h.ob,h.ct,h.tr,h.fn,h.at',h.lm⟩
theorem ThX.endG(h:ThX n k x)(z:x.at'≠none){a:AT}(C:AtX (k+1) a):ThX n (k+1) (x.endG p a):=by
 have A:=h.ob;rw[show x.at'.isSome=true by cases e:x.at' with|none=>exact absurd e z|some _=>rfl,if_pos rfl] at A;have d:=h.up
 by_cases w:a.code=1
 ·rw[qiQ w];refine ThX.too ?_ _;refine⟨h.rg,h.sv,d.sn,?_,d.ct,zl _,d.fn,(fun a e=>by cases e),fun q j=>?_⟩
  ·simp;omega
  ·rcases zw.1 j with j|j
   ·exact d.lm q j
   ·obtain⟨b,_,rfl⟩:=zO.1 j;have:=C.ck;dsimp only;unfold AT.ver
    split <;>omega
 ·by_cases o:a.code=9
  ·by_cases y:(x.tr:Int)<((p[x.bg]?).map (·.imm)).getD 0
   ·rw[qiR o y];refine ThX.too ?_ _;refine⟨h.sv,h.sv,d.sn,?_,d.ct,d.tr,d.fn,(fun a e=>by cases e),d.lm⟩;simp;omega
   ·rw[qlr o y];refine ThX.too ?_ _;refine⟨h.sv,h.sv,d.sn,?_,d.ct,zl _,d.fn,(fun a e=>by cases e),d.lm⟩;simp;omega
  ·rw[qhE w o];refine ThX.too ?_ _;refine⟨h.sv,h.sv,d.sn,?_,d.ct,zl _,d.fn,(fun a e=>by cases e),d.lm⟩;simp;omega
theorem ThX.adv(h:ThX n k x)(C:x.at'≠none)(E:AtX k a)(hd:q3x m.d)(F:0<=m.ck/\m.ck<=k)(y:∀n kc h v,a.ph= .pp n kc h v->(0<=kc/\kc<4)/\(n≠0->okU (qs c (q02 h))))(z:∀n b v,a.ph= .rd n b v->0<=a.addr)(w:c.words<=64):ThX n (k+1) (q0A c p t m x a i).2.1/\q3x (q0A c p t m x a i).1.d:=by
 obtain⟨j,D⟩:=E.step (c:=c) (t:=t) hd F y z w;have G:=h.ob;have A:x.at'.isSome=true:=by cases e:x.at' with|none=>exact absurd e C|some _=>rfl
 rw[A,if_pos rfl] at G;have d:=h.up;refine⟨?_,D⟩;unfold q0A;dsimp only;generalize (qf c t m a).2.1=b at*
 split
 ·refine⟨h.rg,h.sv,d.sn,?_,d.ct,d.tr,d.fn,(fun o e=>by cases e;exact j),d.lm⟩;dsimp only[Option.isSome];rw[if_pos rfl];omega
 ·unfold GT.ans
  split
  ·split
   ·unfold GT.endS
    split
    ·unfold GT.accG;have H:okU (if i.op=13 then x.th.rg.get i.b.toNat else b.val):=by
      split
      ·exact h.rg _
      ·exact j.val
     split
     ·refine ThX.too ?_ _;refine⟨Rg.ok_set h.rg H,h.sv,d.sn,?_,d.ct,d.tr,d.fn,(fun a e=>by cases e),d.lm⟩;dsimp only;rw[z8,zA];dsimp only[Option.isSome];rw[if_neg Yc];omega
     ·refine ThX.too ?_ _;refine⟨h.rg,h.sv,d.sn,?_,d.ct,d.tr,d.fn,(fun a e=>by cases e),d.lm⟩;dsimp only;rw[z8,zA];dsimp only[Option.isSome];rw[if_neg Yc];omega
    ·split
     ·refine ThX.too ?_ _;refine⟨h.rg,h.sv,d.sn,?_,d.ct,d.tr,d.fn,(fun a e=>by cases e),d.lm⟩;dsimp only;rw[z8,zA];dsimp only[Option.isSome];rw[if_neg Yc];omega
     ·refine⟨h.rg,h.sv,d.sn,?_,d.ct,d.tr,d.fn,(fun a e=>by cases e),d.lm⟩;dsimp only[Option.isSome];rw[if_neg Yc];omega
   ·exact h.endG C j
  ·split
   ·refine⟨h.rg,h.sv,d.sn,?_,d.ct,d.tr,d.fn,(fun o e=>by cases e;exact j),d.lm⟩;dsimp only[Option.isSome];rw[if_pos rfl];omega
   ·split
    ·refine ThX.too ?_ _;refine⟨Rg.ok_set h.rg j.val,h.sv,?_,?_,d.ct,d.tr,d.fn,(fun o e=>by cases e;exact j),d.lm⟩
     ·dsimp only;rw[z8,zA];have:=h.sn;omega
     ·dsimp only[Option.isSome];rw[if_pos rfl,z8,zA];omega
    ·refine ThX.too ?_ _;refine⟨h.rg,h.sv,d.sn,?_,d.ct,d.tr,d.fn,(fun o e=>by cases e;exact j),d.lm⟩;dsimp only[Option.isSome];rw[if_pos rfl];omega
theorem AtX.read(h:AtX k a){w:Int}:AtX k (a.read c w):=by
 unfold AT.read
 split
 ·exact h.to rfl rfl rfl rfl rfl rfl rfl h.cd ⟨Yc,Yc⟩
 ·split
  ·rename_i v d;exact h.to rfl rfl rfl rfl rfl rfl rfl h.cd (h.vl v (qa7 d))
  ·exact h.to rfl rfl rfl rfl rfl rfl rfl h.cd (.inl ⟨rfl,rfl,rfl⟩)
theorem AtX.req(h:AtX k a)(d:x.th.rg.ok):AtX k (q11 c x.th.rg a i):=by
 unfold q11
 split
 ·exact h.read
 ·split
  ·exact h.to rfl rfl rfl rfl rfl rfl rfl h.cd (d _)
  ·split
   ·unfold AT.alloc
    split
    ·exact h.to rfl rfl rfl rfl rfl rfl rfl h.cd ⟨Yc,Yc⟩
    ·exact h.to rfl rfl rfl rfl rfl rfl rfl h.cd trivial
   ·split
    ·unfold AT.free
     split
     ·exact h.to rfl rfl rfl rfl rfl rfl rfl h.cd ⟨Yc,Yc⟩
     ·split
      ·rename_i v e;exact h.to rfl rfl rfl rfl rfl rfl rfl h.cd (h.vl v (qa7 e))
      ·exact h.to rfl rfl rfl rfl rfl rfl rfl h.cd (.inl ⟨rfl,rfl,rfl⟩)
    ·split
     ·exact h.to rfl rfl rfl rfl rfl rfl rfl h.cd ⟨Yc,Yc⟩
     ·exact h.to rfl rfl rfl rfl rfl rfl rfl h.cd ⟨Yc,Yc⟩
theorem AtX.ask(h:AtX k a)(d:x.th.rg.ok):AtX k (q1i c x a i):=by
 unfold q1i
 split
 ·exact h.to rfl rfl rfl rfl rfl rfl rfl h.cd ⟨Yc,Yc⟩
 ·split
  ·exact h.read
  ·exact h.to rfl rfl rfl rfl rfl rfl rfl h.cd (d _)
theorem ThX.new{x0:GT}(h:ThX n k x)(F:x.at'=none)(y:x0.th=x.th)(z:x0.sv.ok)(o:x0.seen= [])(A:x0.obs=x.obs)(h5:x0.ct=x.ct+1)(C:x0.tr<=k+1)(D:x0.fn=x.fn)(E:x0.lm=x.lm)(hd:q3x m.d):ThX n (k+1) (q0A c p t m x0 {AT.new with st:=1,ph:= .ent 0} i).2.1/\q3x (q0A c p t m x0 {AT.new with st:=1,ph:= .ent 0} i).1.d:=by
 have w:=h.up;have d:=h.ob;have hct:=h.ct;rw[F] at d;dsimp only[Option.isSome] at d;rw[if_neg Yc] at d;have j:qf c t m {AT.new with st:=1,ph:= .ent 0}=({m with sl:=m.sl.set (t:Int).toNat 1},{AT.new with st:=1,ph:= .ent 1},acS 6 t (m.sl.getD (t:Int).toNat 0) 1,2):=by unfold qf;rfl
 unfold q0A;rw[j];dsimp only;rw[if_pos (show({AT.new with st:=1,ph:= .ent 1}:AT).busy=true from rfl)];refine⟨⟨by dsimp only;rw[y];exact h.rg,z,by dsimp only;rw[o];exact zl _,?_,by dsimp only;omega,C,by dsimp only;rw[D];exact w.fn,fun a' e=>?_,by dsimp only;rw[E];exact w.lm⟩,hd⟩
 ·dsimp only[Option.isSome];rw[if_pos rfl,o,A];show x.obs.length+0<=_;omega
 ·cases e;exact⟨zl _,zl _,⟨Yc,Yc⟩,⟨Yc,Int.natCast_nonneg _⟩,fun _ h=>(by cases h),qbW,trivial,zl _,zl _,fun _ h=>(by cases h)⟩
def PpX(c:Cfg)(a:AT):Prop:=∀n kc h v,a.ph= .pp n kc h v->(0<=kc/\kc<4)/\(n≠0->okU (qs c (q02 h)))
theorem PuA.ppx(h:PuA c m a):PpX c a:=fun n kc h0 v e=>by
 have d:=h.po;unfold qbY qhs at d;rw[e] at d;refine⟨d.1,fun hn=>?_⟩;obtain⟨j,o,_⟩:=d.2.1 Yb;obtain⟨f1,f2,_⟩:=blk j o;have:=q6K j o;exact⟨f1,Yb⟩
theorem ThX.exe(h:ThX n k x)(hd:q3x m.d)(F:0<=m.ck/\m.ck<=k)(hb:i.op=7->x.at'=none)(C:qH i=0)(j:∀a,x.at'=some a->a.ph= .idle)(z:qI c=0):ThX n (k+1) (q1m c p t m x i).2.1/\q3x (q1m c p t m x i).1.d:=by
 have o:=h.up;unfold q1m
 split
 ·rename_i E;have:=h.tr;exact h.new (hb E) rfl h.rg rfl rfl rfl (by dsimp only;omega) rfl rfl hd
 ·split
  ·cases e:x.at' with
   |none=>exact⟨o,hd⟩
   |some a=>
    have w:=(qK z).1;unfold okW at w;refine h.adv (by rw[e];exact fun e=>by cases e) ((h.at' a e).req h.rg) hd F (fun n kc h0 v d=>?_) (fun n b v d=>?_) w.2.1;rotate_left
    ·have j:=j a e;have D:=q4P x.th.rg i.b i.imm;unfold q11 AT.read AT.alloc AT.free at d ⊢
     split
     ·split
      ·rw[if_pos (by assumption),if_pos (by assumption)] at d;cases d
      ·split
       ·rename_i A;rw[if_pos (by assumption),if_neg (by assumption),A] at d;cases d
       ·exact D
     ·split
      ·rw[if_neg (by assumption),if_pos (by assumption)] at d;cases d
      ·split
       ·split
        ·rw[if_neg (by assumption),if_neg (by assumption),if_pos (by assumption),if_pos (by assumption)] at d;cases d
        ·rw[if_neg (by assumption),if_neg (by assumption),if_pos (by assumption),if_neg (by assumption)] at d;cases d
       ·split
        ·split
         ·rw[if_neg (by assumption),if_neg (by assumption),if_neg (by assumption),if_pos (by assumption),if_pos (by assumption)] at d;cases d
         ·split
          ·rename_i A;rw[if_neg (by assumption),if_neg (by assumption),if_neg (by assumption),if_pos (by assumption),if_neg (by assumption),A] at d;cases d
          ·dsimp only;omega
        ·split
         ·rw[if_neg (by assumption),if_neg (by assumption),if_neg (by assumption),if_neg (by assumption),if_pos (by assumption)] at d;cases d
         ·rw[if_neg (by assumption),if_neg (by assumption),if_neg (by assumption),if_neg (by assumption),if_neg (by assumption)] at d;cases d
    --only a fresh pop
    have:i.op=14/\n=0/\kc=i.imm:=by
     have j:=j a e;unfold q11 AT.read AT.alloc AT.free at d
     (repeat' split at d) <;>first|cases d;exact⟨by assumption,rfl,rfl⟩|cases d
    obtain⟨y,rfl,rfl⟩:=this;exact⟨qd2 C y,fun h=>absurd rfl h⟩
  ·exact⟨⟨q91 h.rg,h.sv,o.sn,o.ob,o.ct,o.tr,o.fn,o.at',o.lm⟩,hd⟩
theorem ThX.plain(h:ThX n k x)(hd:q3x m.d)(e:x.at'=none):ThX n (k+1) (q0c c p t m x i).2.1/\q3x (q0c c p t m x i).1.d:=by
 have d:=h.up;have j:=h.ob;rw[e] at j;dsimp only[Option.isSome] at j;rw[if_neg Yc] at j;unfold q0c
 split
 ·refine⟨ThX.too ?_ _,hd⟩;refine⟨?_,h.sv,d.sn,?_,d.ct,d.tr,d.fn,d.at',d.lm⟩
  ·dsimp only
   split
   ·exact Rg.ok_set h.rg qbW
   ·exact h.rg
  ·dsimp only;rw[e,z8,zA];dsimp only[Option.isSome];rw[if_neg Yc];omega
 ·exact h.new e rfl h.sv rfl rfl rfl d.tr rfl rfl hd
theorem qlO{f:FT}(o:f.nx<=n+1)(y:f.ld=true->f.nx<n):(q1c t m f).1.nx<=n+1:=by
 have d:∀j,q9g t j<=j+1:=fun j=>by unfold q9g;split <;>omega
 unfold q1c
 split
 ·have:=d 0;dsimp only;omega
 ·dsimp only
  split
  ·rename_i w _;have:=d (f.nx+1);have:=y (by cases e:f.ld with|true=>rfl|false=>exact absurd e w);dsimp only;omega
  ·exact o
theorem ThX.wait(h:ThX n k x)(hd:q3x m.d)(U:0<=m.ck/\m.ck<=k)(K:x.at'=none){f:FT}(y:f=⟨false,0,0,none⟩\/(f.ld=true/\f.nx<=n+1/\(f.dr=none->f.nx<n)/\0<=f.lim/\f.lim<=k)):ThX n (k+1) (qM c n p t m x f).2.1/\q3x (qM c n p t m x f).1.d:=by
 have o:=h.up;have G:=h.ob;rw[K] at G;dsimp only[Option.isSome] at G;rw[if_neg Yc] at G;have done:∀l:List (Int×Int),(∀q∈l,q∈x.lm)->ThX n (k+1) (GT.fenD p {x with lm:=l}):=fun l F=>by
  refine ThX.too ?_ _;refine⟨h.rg,h.sv,o.sn,?_,o.ct,o.tr,(fun f e=>by cases e),o.at',fun q d=>o.lm q (F q d)⟩;dsimp only;rw[K,z8,zA];dsimp only[Option.isSome];rw[if_neg Yc];omega
 have go:∀(w:FT) (l:List (Int×Int)),(∀q∈l,q∈x.lm)->w.ld=true->w.nx<=n+1->(w.dr=none->w.nx<n)->0<=w.lim->w.lim<=k->ThX n (k+1) {x with fn:=some w,lm:=l}:=fun w l F L O P R e5=>
  ⟨h.rg,h.sv,o.sn,o.ob,o.ct,o.tr,fun g e=>by cases e;exact⟨L,O,P,R,Yb⟩,o.at',fun q d=>o.lm q (F q d)⟩
 have E:0<=(q1c t m f).1.lim/\(q1c t m f).1.lim<=k:=by
  unfold q1c
  rcases y with rfl|⟨T,h2,h3,I,J⟩
  ·rw[if_pos rfl];exact U
  ·rw[if_neg (by rw[T];decide)];dsimp only
   split
   ·exact⟨I,J⟩
   ·exact⟨I,J⟩
 unfold qM;cases A:f.dr with
 |none=>
  dsimp only;have D:(q1c t m f).1.nx<=n+1:=qlO (by rcases y with rfl|y;exact zl _;exact y.2.1) (fun e=>by rcases y with rfl|y;cases e;exact y.2.2.1 A);have C:=(qhH (t:=t) (m:=m) f).1;refine⟨?_,hd⟩
  split
  ·split
   ·exact done _ fun q d=>(ZO.1 d).1
   ·exact go {(q1c t m f).1 with dr:=some (lmL (q1c t m f).1.lim x.lm,0,0)} (lmR (q1c t m f).1.lim x.lm) (fun q d=>(ZO.1 d).1) C D (fun e=>by cases e) E.1 E.2
  ·exact go (q1c t m f).1 x.lm (fun q d=>d) C D (fun _=>by omega) E.1 E.2
 |some z=>
  obtain⟨l,q,H⟩:=z;obtain⟨f1,f2,_,f4,f5⟩:=y.resolve_left fun e=>by rw[e] at A;cases A
  dsimp only;obtain⟨hd',nx,hm⟩:=qdy (c:=c) (m:=m) (j:=q) (b:=l.headD 0) (h:=H)
  revert hm
  generalize q0p c m q (l.headD 0) H=q;obtain⟨m',z,ac,p⟩:=q;rintro rfl;cases z with
  |none=>
   refine⟨?_,hd⟩;dsimp only
   split
   ·exact done _ fun q d=>d
   ·exact go {f with dr:=some (l.tail,0,0)} _ (fun q d=>d) f1 f2 (fun e=>by cases e) f4 f5
  |some z=>exact⟨go {f with dr:=some (l,z.1,z.2)} _ (fun q d=>d) f1 f2 (fun e=>by cases e) f4 f5,hd⟩
theorem ThX.step(h:ThX n k x)(hd:q3x m.d)(z:0<=m.ck/\m.ck<=k)(hi:p[x.th.pc]? =some i)(D:x.fn≠none->x.at'=none)(hb:∀a,x.at'=some a->a.busy=false->x.stg=false->i.op≠7/\i.op≠12/\i.op≠13/\i.op≠16)(A:qH i=0)(G:∀a,x.at'=some a->PpX c a)(w:qI c=0)(H:∀a,x.at'=some a->∀n b v,a.ph= .rd n b v->0<=a.addr):ThX n (k+1) (qY c p n t m x).2.1/\q3x (qY c p n t m x).1.d:=by
 have hs:=h.up;have y:=(qK w).1;unfold okW at y;unfold qY;rw[hi];dsimp only;cases C:x.fn with
 |some f=>
  have d:=D (by rw[C];exact fun e=>by cases e);exact h.wait hd z d (.inr (h.fn f C))
 |none=>
  dsimp only;cases d:x.at' with
  |some a=>
   dsimp only
   split
   ·exact h.adv (by rw[d];exact fun e=>by cases e) (h.at' a d) hd z (G a d) (H a d) y.2.1
   ·rename_i o;have E:a.ph= .idle:=by
     unfold AT.busy at o;cases e:a.ph <;>rw[e] at o <;>first|rfl|exact absurd rfl o
    split
    ·have K:ThX n k {x with ask:=x.ask+1}:=⟨h.rg,h.sv,h.sn,h.ob,h.ct,h.tr,h.fn,h.at',h.lm⟩
     have I:=K.adv (c:=c) (p:=p) (t:=t) (i:=i) (by dsimp only;rw[d];exact fun e=>by cases e) ((h.at' a d).ask (c:=c) (x:=x) (i:=i) h.rg) hd z (fun n kc h0 v j=>by
      exfalso;unfold q1i AT.read at j
      (repeat' split at j) <;>cases j) (fun n b v j=>by
      have F:0<=q1D x i:=q4P _ _ _;unfold q1i AT.read at j ⊢
      split
      ·rw[if_pos (by assumption)] at j;cases j
      ·split
       ·split
        ·rw[if_neg (by assumption),if_pos (by assumption),if_pos (by assumption)] at j;cases j
        ·split
         ·rename_i L;rw[if_neg (by assumption),if_pos (by assumption),if_neg (by assumption),L] at j;cases j
         ·exact F
       ·rw[if_neg (by assumption),if_neg (by assumption)] at j;cases j) y.2.1
     rw[d,C] at I;exact I
    ·obtain⟨b1,b2,b3,J⟩:=hb a d (by simpa using o) (by simpa using (by assumption:¬x.stg=true));unfold q2l;rw[if_neg Yb,if_neg J];exact h.exe hd z (fun e=>absurd e b1) A (fun b e=>by rw[d] at e;cases e;exact E) w
  |none=>
   dsimp only;unfold q2l
   split
   ·exact h.plain hd d
   ·split
    ·exact h.wait hd z d (.inl rfl)
    ·exact h.exe hd z (fun _=>d) A (fun a e=>by rw[d] at e;cases e) w
end
open Go
structure q5L(c:Cfg)(ps:List (jf))(n k:Nat)(q:RM)(g:GS)(r:Nat->List (Int×Int)):Prop where
 gi:q0m c ps n k q.m q.xs g r
 xt:∀(t:Nat) x,q.xs[t]? =some x->ThX n k x
 dd:q3x q.m.d
 sl:q.S.length<=k
 ak:∀(t:Nat) x,q.xs[t]? =some x->x.ask<=k
section
variable{c:Cfg}{ps:List (jf)}{n k:Nat}{q:RM}{g g':GS}{r r':Nat->List (Int×Int)}{t u:Nat}{x:GT}{a:AT}{p:jf}{i:Ins}
def qff(n f:Nat):jd:=(List.range n).map fun i:Nat=>((f+i:Nat):Int)
theorem qcw{nx:jd}{n f:Nat}(h:∀i,i<n->nx.getD (f+i) 0=if i+1<n then((f+i+2:Nat):Int) else 0):∀(d j:Nat),j+d=n->chn nx (if j<n then((f+j:Nat):Int) else-1) ((List.range' j d).map fun i:Nat=>((f+i:Nat):Int))
 |0,j,e=>by
  rw[if_neg Yb];rfl
 |d+1,j,e=>by
  rw[if_pos Yb,List.range'_succ,zG];refine⟨rfl,Yb,?_⟩;have o:=qcw h d (j+1) Yb;rw[zF,h j Yb]
  by_cases w:j+1<n
  ·rw[if_pos w] at o ⊢;rw[show((f+j+2:Nat):Int)-1=((f+(j+1):Nat):Int) by omega];exact o
  ·rw[if_neg w] at o ⊢;exact o
theorem q7J{n f:Nat}{i:Nat}(h:i<n):(nxC n f).getD i 0=if i+1<n then((f+i+2:Nat):Int) else 0:=by
 unfold nxC;rw[zF,zg,zI,List.getElem?_range h];dsimp only[Option.map_some,Option.getD_some]
 split <;>split <;>omega
theorem qdn{n:Int}{f:Int}:(nxC n f).length=n.toNat:=by
 unfold nxC;rw[zi,List.length_range]
theorem qkP{A B:jd}{i:Nat}(h:i<A.length):(A++B).getD i 0=A.getD i 0:=by
 rw[zg,zB h,zg]
theorem qc1{A B:jd}{i j:Nat}(h:i=A.length+j):(A++B).getD i 0=B.getD j 0:=by
 subst h;rw[zg,zJ (ZL ..),Za,zg]
theorem qj6{n f:Nat}(h:f<1000):q02 (hdC n f)=if 0<n then((f:Nat):Int) else-1:=by
 unfold q02 hdC
 by_cases e:n=0
 ·rw[if_pos Yb,if_neg Yb];omega
 ·rw[if_neg Yb,if_pos Yb];omega
theorem q72{n f:Nat}{b:Int}:b∈qff n f↔(f:Int)<=b/\b<f+n:=by
 unfold qff;rw[zO];constructor
 ·rintro⟨i,hi,rfl⟩;have:=ZY.1 hi;omega
 ·intro h;exact⟨b.toNat-f,ZY.2 Yb,Yb⟩
theorem qaE{n f:Nat}:(qff n f).Nodup:=by
 unfold qff;refine List.pairwise_map.2 (List.nodup_range.imp ?_);intro i j h e;omega
theorem q0o.zero(O:COk c){xs:List GT}{d o:jd}{sl:jd}(T:∀(t:Nat) x,xs[t]? =some x->x.at'=none/\x.fn=none/\x.lm= []):q0o c 0 ⟨d,o,0,0,0,sl,hd0 c,nx0 c⟩ xs (List.replicate (qh c).toNat false):=by
 obtain⟨_,V,_,_⟩:=qK O.ck;have hB:qh c=nB c:=by unfold qh;rw[if_pos O.ck]
 unfold okH okC at V;unfold nB at V hB;obtain⟨w,H⟩:∃n:Nat,c.c0=n:=⟨c.c0.toNat,Yb⟩
 obtain⟨y,I⟩:∃n:Nat,c.c1=n:=⟨c.c1.toNat,Yb⟩
 obtain⟨n2,J⟩:∃n:Nat,c.c2=n:=⟨c.c2.toNat,Yb⟩
 obtain⟨G,K⟩:∃n:Nat,c.c3=n:=⟨c.c3.toNat,Yb⟩
 have D:∀b:Int,0<=b->b<qh c->ql c b=if b<w then 0 else if b<w+y then 1 else if b<w+y+n2 then 2 else 3:=fun b Y U=>by
  unfold ql;rw[if_pos ⟨O.ck,Y⟩,H,I,J,K]
  by_cases g0:b<w
  ·rw[if_pos g0,if_pos g0]
  ·rw[if_neg g0,if_neg g0]
   by_cases g1:b<(w:Int)+y
   ·rw[if_pos g1,if_pos g1]
   ·rw[if_neg g1,if_neg g1]
    by_cases g2:b<(w:Int)+y+n2
    ·rw[if_pos g2,if_pos g2]
    ·rw[if_neg g2,if_neg g2,if_pos Yb]
 have z:nx0 c=nxC w (0:Nat)++(nxC y (w:Nat)++(nxC n2 ((w+y:Nat):Int)++nxC G ((w+y+n2:Nat):Int))):=by
  unfold nx0;rw[H,I,J,K];rfl
 have F:hd0 c= [hdC w (0:Nat),hdC y (w:Nat),hdC n2 ((w+y:Nat):Int),hdC G ((w+y+n2:Nat):Int)]:=by
  unfold hd0;rw[H,I,J,K];rfl
 have C:∀n:Nat,∀f:Int,(nxC (n:Int) f).length=n:=fun n f=>by rw[qdn,zF]
 --one list
 have key:∀(n f:Nat),f<1000->(∀i,i<n->(nx0 c).getD (f+i) 0=(nxC n f).getD i 0)->chn (nx0 c) (q02 (hdC n f)) (qff n f):=fun n f P h=>by
  have:=qcw (nx:=nx0 c) (n:=n) (f:=f) (fun i hi=>by rw[h i hi];exact q7J hi) n 0 Yb;rw[qj6 P];unfold qff;rw[List.range_eq_range'];exact this
 have k0:=key w 0 Yb fun i hi=>by rw[z,zy,qkP (by rw[C];exact hi)]
 have k1:=key y w Yb fun i hi=>by rw[z,qc1 (j:=i) (by rw[C]),qkP (by rw[C];exact hi)]
 have k2:=key n2 (w+y) Yb fun i hi=>by rw[z,qc1 (j:=y+i) (by rw[C];omega),qc1 (j:=i) (by rw[C]),qkP (by rw[C];exact hi)]
 have k3:=key G (w+y+n2) Yb fun i hi=>by rw[z,qc1 (j:=y+n2+i) (by rw[C];omega),qc1 (j:=n2+i) (by rw[C];omega),qc1 (j:=i) (by rw[C])]
 refine⟨⟨fun j=>if j=0 then qff w 0 else if j=1 then qff y w else if j=2 then qff n2 (w+y) else qff G (w+y+n2),fun b=>if 0<=b/\b<qh c then some (ql c b).toNat else none,⟨fun j hj=>?_,fun j hj=>?_,fun t x h=>?_,fun b j h=>?_⟩⟩,fun t x a h W=>?_,fun t x h=>?_,by dsimp only;rw[F];rfl,?_,fun j=>?_,fun j=>?_⟩
 ·have L:j=0\/j=1\/j=2\/j=3:=Yb;dsimp only;rw[F]
  rcases L with rfl|rfl|rfl|rfl
  ·exact k0
  ·exact k1
  ·exact k2
  ·exact k3
 ·have L:j=0\/j=1\/j=2\/j=3:=Yb
  rcases L with rfl|rfl|rfl|rfl
  ·refine⟨qaE,fun b hb=>?_⟩;have hb:=q72.1 hb;have:=D b Yb Yb;rw[if_pos Yb] at this;rw[if_pos Yb,this];exact⟨rfl,rfl⟩
  ·refine⟨qaE,fun b hb=>?_⟩;have hb:=q72.1 hb;have:=D b Yb Yb;rw[if_neg Yb,if_pos Yb] at this;rw[if_pos Yb,this];exact⟨rfl,rfl⟩
  ·refine⟨qaE,fun b hb=>?_⟩;have hb:=q72.1 hb;have:=D b Yb Yb;rw[if_neg Yb,if_neg Yb,if_pos Yb] at this;rw[if_pos Yb,this];exact⟨rfl,rfl⟩
  ·refine⟨qaE,fun b hb=>?_⟩;have hb:=q72.1 hb;have:=D b Yb Yb;rw[if_neg Yb,if_neg Yb,if_neg Yb] at this;rw[if_pos Yb,this];exact⟨rfl,rfl⟩
 ·obtain⟨U,Z,h3⟩:=T t x h;have:q0L x= []:=by unfold q0L;rw[U,Z,h3];rfl
  rw[this];exact⟨ym,fun b hb=>by cases hb⟩
 ·split at h
  ·rename_i hb;refine⟨hb,?_⟩;rw[zg,Zi]
   split <;>rfl
  ·cases h
 ·rw[(T t x h).1] at W;cases W
 ·rw[(T t x h).2.1];trivial
 ·dsimp only;rw[z];simp only[z8,C];omega
 ·dsimp only;have R:∀v∈nx0 c,0<=v/\v<=64:=fun v A=>by
   have E:∀(n f:Nat),f+n<=64->∀v∈nxC n f,0<=v/\v<=64:=fun n f P v A=>by
    unfold nxC at A;obtain⟨i,hi,rfl⟩:=zO.1 A;have:=ZY.1 hi
    split <;>omega
   rw[z] at A
   rcases zw.1 A with h|A
   ·exact E w 0 Yb v h
   ·rcases zw.1 A with h|A
    ·exact E y w Yb v h
    ·rcases zw.1 A with h|h
     ·exact E n2 (w+y) Yb v h
     ·exact E G (w+y+n2) Yb v h
  rw[zg];cases e:(nx0 c)[j]? with
  |none=>exact⟨zK _,Yc⟩
  |some v=>exact R v (zh e)
 ·dsimp only;have R:∀v∈hd0 c,0<=v/\q6v v<=((0:Nat):Int):=fun v A=>by
   have E:∀(n f:Nat),f<=64->0<=hdC n f/\q6v (hdC n f)<=((0:Nat):Int):=fun n f P=>by
    unfold hdC q6v
    split <;>omega
   rw[F] at A;simp only[zX,List.not_mem_nil,or_false] at A
   rcases A with rfl|rfl|rfl|rfl
   ·exact E w 0 Yb
   ·exact E y w Yb
   ·exact E n2 (w+y) Yb
   ·exact E G (w+y+n2) Yb
  rw[zg];cases e:(hd0 c)[j]? with
  |none=>exact⟨zK _,Yc⟩
  |some v=>exact R v (zh e)
theorem qfN{il:jd}{n:Nat}:mix c il (List.replicate n false)=il++List.replicate n 0:=by
 unfold mix
 congr 1
 refine Z8 fun j=>?_
 rw[zW,Zi,Zi]
 split <;>rfl
theorem q5L.zero(G:COk c){il:jd}{O:Nat}(I:(il.length:Int)=c.words)(H:c.orecs=(O:Int))(hw:q3x il):q5L c ps ps.length 0 ⟨ms0 c il O ps.length,ps.map q3f,[],[]⟩ (q4j c il ps) (fun _=> []):=by
 have o:∀(t:Nat) x,(ps.map q3f)[t]? =some x->∃p,ps[t]? =some p/\x=q3f p:=fun t x d=>by
  rw[zI] at d;obtain⟨p,C,rfl⟩:=Zf.1 d;exact⟨p,C,rfl⟩
 have hbb:=qP c;have w:∀(t:Nat) x a,(ps.map q3f)[t]? =some x->x.at'=some a->False:=fun t x a d A=>by
  obtain⟨p,_,rfl⟩:=o t x d;cases A
 refine⟨⟨⟨fun j=>?_,by rw[H];exact congrArg _ (zD ..),by show((il++List.replicate _ _).length:Int)=_;rw[z8,zD];omega,zD ..,⟨zK _,zK _⟩,zK _,⟨zK _,zK _⟩⟩,zi ..,rfl,zi ..,zi ..,I,fun t x a d A=>(w t x a d A).elim,fun u v y z a b F _ A=>(w u y a F A).elim,fun t x p d C=>?_,fun t x a d A=>(w t x a d A).elim, .inr ⟨fun u y b F hb=>(w u y b F hb).elim,qfN⟩,by show((List.replicate _ false).length:Int)=_;rw[zD];omega,q0o.zero G fun t x d=>by obtain⟨p,_,rfl⟩:=o t x d;exact⟨rfl,rfl,rfl⟩⟩,fun t x d=>?_,fun v E=>?_,zN _,fun t x d=>?_⟩
 ·show okU ((List.replicate O (0:Int)).getD j 0);refine q3x.at (fun v E=>?_) j;rw[(yI.1 E).2];exact qbW
 ·obtain⟨p',D,rfl⟩:=o t x d;rw[C] at D;cases D;unfold ThR q3f;dsimp only;have e:decide (p.length=0)=decide (0=p.length):=decide_eq_decide.2 Yb;refine⟨?_,?_,zl _,(by show(-1:Int)<0;decide),rfl,fun h=>absurd rfl h,fun h=>absurd rfl h,rfl⟩
  ·unfold q4j;dsimp only;rw[zI,C,<-e];rfl
  ·unfold q4j;dsimp only;rw[zg,zI,C];rfl
 ·obtain⟨p,_,rfl⟩:=o t x d;exact⟨Rg.ok_0,Rg.ok_0,zl _,zl _,zl _,zl _,fun f e=>(by cases e),fun a e=>(by cases e),fun q J=>(by cases J)⟩
 ·rcases zw.1 E with h|h
  ·exact hw v h
  ·rw[(yI.1 h).2];exact qbW
 ·obtain⟨p,_,rfl⟩:=o t x d;exact zN _
theorem q95(d:q.xs[t]? =some x)(hd:x.th.dn=true):q1j c ps n q t=q/\chR c ps n q t= []:=by
 unfold q1j chR;simp only[d];cases ps[t]? with
 |none=>exact⟨rfl,rfl⟩
 |some p=>dsimp only;rw[if_pos hd,if_pos hd];exact⟨rfl,rfl⟩
theorem q96(e:q.xs[t]? =some x)(d:ps[t]? =some p)(hd:x.th.dn=false):q1j c ps n q t=⟨(qY c p n t q.m x).1,q.xs.set t (qY c p n t q.m x).2.1,q.S++ [(qY c p n t q.m x).2.2.1],q.E++(qY c p n t q.m x).2.2.2.map (qnf q.S.length)⟩/\
  chR c ps n q t=chN c x (qY c p n t q.m x).2.1 (qY c p n t q.m x).2.2.1:=by
 unfold q1j chR;simp only[e,d];rw[if_neg (by rw[hd];decide),if_neg (by rw[hd];decide)];exact⟨rfl,rfl⟩
theorem q4Q{x0:GT}{b:AT}{m:MS}:(q0A c p t m x0 b i).2.1.ask=x0.ask:=by
 rw[q37]
 split
 ·rfl
 ·unfold GT.ans
  split
  ·split
   ·unfold GT.endS GT.accG
    (repeat' split) <;>rfl
   ·unfold GT.endG;dsimp only
    (repeat' split) <;>rfl
  ·(repeat' split) <;>rfl
theorem qfm{m:MS}:(qY c p n t m x).2.1.ask<=x.ask+1:=by
 have hw:∀f,(qM c n p t m x f).2.1.ask<=x.ask+1:=fun f=>by
  have e:(qM c n p t m x f).2.1.ask=x.ask:=by
   unfold qM;cases f.dr with
   |none=>
    dsimp only
    (repeat' split) <;>rfl
   |some z=>
    obtain⟨l,q,d⟩:=z;dsimp only;generalize q0p c m q (l.headD 0) d=q;obtain⟨m',z,ac,ph⟩:=q;cases z with
    |none=>dsimp only;split <;>rfl
    |some z=>rfl
  omega
 have he:∀i,(q2l c p n t m x i).2.1.ask<=x.ask+1:=fun i=>by
  unfold q2l
  split
  ·unfold q0c
   split
   ·exact zU _
   ·rw[q4Q];exact zl _
  ·split
   ·exact hw _
   ·unfold q1m
    split
    ·rw[q4Q];exact zU _
    ·split
     ·split
      ·rw[q4Q];exact zU _
      ·exact zU _
     ·exact zU _
 unfold qY
 split
 ·exact zU _
 ·split
  ·exact hw _
  ·split
   ·split
    ·rw[q4Q];exact zU _
    ·split
     ·rw[q4Q];exact zN _
     ·exact he _
   ·exact he _
structure PkR(c:Cfg)(ps:List (jf))(n:Nat)(q:RM)(g:GS)(r:Nat->List (Int×Int))(t:Nat)(g':GS)(r':Nat->List (Int×Int)):Prop where
 ch:q70 c ps g (chR c ps n q t)=some g'
 ot:∀u,u≠t->r' u=r u
 rd:∀x p,q.xs[t]? =some x->ps[t]? =some p->x.th.dn=false->RdN x (qY c p n t q.m x).2.1 (r t) (r' t)
 dn:∀x,q.xs[t]? =some x->x.th.dn=true->g'=g/\r'=r
theorem q5L.fn(h:q5L c ps n k q g r)(H:q.xs[t]? =some x)(L:ps[t]? =some p)(E:PrO p):(x.fn≠none->x.at'=none)/\(x.th.dn=false->∃i,p[x.th.pc]? =some i/\∀a,x.at'=some a->a.busy=false->x.stg=false->i.op≠7/\i.op≠12/\i.op≠13/\i.op≠16):=by
 have d:=h.gi.th t x p H L;unfold ThR at d;cases C:x.at' with
 |none=>
  rw[C] at d;dsimp only at d;obtain⟨_,_,I,_,F,_⟩:=d;exact⟨fun _=>rfl,fun hd=>⟨_,z6 (yM I fun e=>by rw[hd,decide_eq_true e] at F;cases F),fun a e=>by cases e⟩⟩
 |some a=>
  rw[C] at d;dsimp only at d;have o:x.fn=none/\x.th.pc<p.length:=by
   split at d
   ·exact⟨d.2.2.fn,d.2.2.pl⟩
   ·exact⟨d.2.2.fn,d.2.2.pl⟩
  refine⟨fun e=>absurd o.1 e,fun _=>⟨_,z6 o.2,fun b e hb z=>?_⟩⟩;cases e;have K:=h.gi.ai t x a H C;have w:a.ph= .idle:=by
   unfold AT.busy at hb;cases e:a.ph <;>rw[e] at hb <;>first|rfl|cases hb
  have y:a.dn=false:=by
   have:=K.ph;unfold PhA at this;rw[w] at this;exact this.1
  rw[if_neg (by rw[y];decide)] at d;obtain⟨_,_,A⟩:=d;have A:=A.resolve_right fun h=>by rw[h.sg] at z;cases z
  obtain⟨i1,i2,_,_⟩:=A.req (fun k e=>by rw[w] at e;cases e) (by rw[w];rfl);obtain⟨ib,D,J⟩:=A.bg;obtain⟨_,_,_,j,G,hop,_⟩:=q7F E D J i1 i2;rw[z6 o.2] at G;cases G;omega
theorem q5L.step(J:COk c)(V:n<=16)(hk:k<=1000)(h:q5L c ps n k q g r)(K:t<n)(I:∀p∈ps,PrO p):∃g' r',PkR c ps n q g r t g' r'/\q5L c ps n (k+1) (q1j c ps n q t) g' r':=by
 obtain⟨x,w⟩:∃x,q.xs[t]? =some x:=⟨_,z6 (by rw[h.gi.xl];exact K)⟩
 obtain⟨p,C⟩:∃p,ps[t]? =some p:=⟨_,z6 (by rw[h.gi.pl];exact K)⟩
 have A:=I p (zh C);cases hd:x.th.dn with
 |true=>
  obtain⟨E,F⟩:=q95 (c:=c) (ps:=ps) (n:=n) w hd;refine⟨g,r,⟨by rw[F];rfl,fun _ _=>rfl,fun x' W d _ z=>?_,fun _ _ _=>⟨rfl,rfl⟩⟩,?_⟩
  ·rw[w] at d;cases d;rw[hd] at z;cases z
  ·rw[E];exact⟨h.gi.mono,fun u y o=>(h.xt u y o).up,h.dd,Zn h.sl,fun u y o=>Zn (h.ak u y o)⟩
 |false=>
  obtain⟨E,F⟩:=q96 (c:=c) (ps:=ps) (n:=n) w C hd;obtain⟨f1,f2⟩:=h.fn w C A;obtain⟨i,hi,f3⟩:=f2 hd;obtain⟨g',r',L,O,P,R⟩:=q0m.step J V Yb h.gi w C A hd;have H:=h.gi.gm.ck;obtain⟨T,U⟩:=ThX.step (c:=c) (p:=p) (t:=t) (m:=q.m) (h.xt t x w) h.dd H hi f1 f3 (q2Z A.ck hi).1 (fun a G=>(h.gi.ho.pa t x a w G).ppx) J.ck fun a G j b v e=>by
   have:=(h.gi.ai t x a w G).ph;unfold PhA at this;rw[e] at this;exact this.2.2.1
  refine⟨g',r',⟨by rw[F];exact L,P,fun x' W d D _=>?_,fun x' d z=>?_⟩,?_⟩
  ·rw[w] at d;cases d;rw[C] at D;cases D;exact R
  ·rw[w] at d;cases d;rw[hd] at z;cases z
  ·rw[E];refine⟨O,fun u y o=>?_,U,?_,fun u y o=>?_⟩
   ·dsimp only at o
    by_cases hu:u=t
    ·subst hu;rw[q0H w] at o;cases o;exact T
    ·rw[q0R hu] at o;exact(h.xt u y o).up
   ·have:=h.sl;show(q.S++ [_]).length<=k+1;rw[z8,zA];omega
   ·dsimp only at o
    by_cases hu:u=t
    ·subst hu;rw[q0H w] at o;cases o;exact Zq qfm (yF (h.ak u x w))
    ·rw[q0R hu] at o;exact Zn (h.ak u y o)
theorem qaD:∀(l:List ChM) (g:GS) {l2:List ChM} {g1:GS},q70 c ps g l=some g1->q70 c ps g (l++l2)=q70 c ps g1 l2
 | [],g,l2,g1,h=>by cases h;rfl
 |ch::l,g,l2,g1,h=>by
  unfold q70 at h;rw[zk];show q70 c ps g (ch::(l++l2))=_;rw[q70];cases e:chM c ps g ch with
  |none=>rw[e] at h;cases h
  |some g2=>rw[e] at h;exact qaD l _ h
theorem qdJ{P:RM->GS->(Nat->List (Int×Int))->Prop}{A:RM}{g0:GS}{r0:Nat->List (Int×Int)}(H:COk c)(I:n<=16)(y:∀p∈ps,PrO p)(D:q5L c ps n 0 A g0 r0)(o:P A g0 r0)
  (d:∀k q g r t g' r',k<=1000->q5L c ps n k q g r->P q g r->t<n->PkR c ps n q g r t g' r'->q5L c ps n (k+1) (q1j c ps n q t) g' r'->P (q1j c ps n q t) g' r'):
  ∀(j:Nat) (l:jh),l.length=j->(∀t∈l,t<n)->j<=1000->∃g r,q70 c ps g0 (q5Q c ps n A l)=some g/\q5L c ps n j (qg7 c ps n A l) g r/\P (qg7 c ps n A l) g r
 |0,l,w,_,_=>by
  obtain rfl:l= []:=zL.1 w;exact⟨g0,r0,rfl,D,o⟩
 |j+1,l,w,J,hj=>by
  obtain⟨l',t,rfl⟩:∃l' t,l=l'++ [t]:=⟨l.dropLast,l.getLast (fun e=>by rw[e] at w;cases w),(List.dropLast_concat_getLast _).symm⟩
  have C:l'.length=j:=by rw[z8,zA] at w;omega
  have z:=J t (zz _ (zf.2 rfl));obtain⟨g,r,K,E,L⟩:=qdJ H I y D o d j l' C (fun u hu=>J u (zq _ hu)) Yb;obtain⟨g',r',F,G⟩:=E.step H I Yb z y;rw[q7s,q5i];exact⟨g',r',(qaD _ _ K).trans F.ch,G,d j _ g r t g' r' Yb E L z F G⟩
end
open Go
def stS(l:jd)(n i:Nat):jd:=l.take i++List.replicate (n-i) 0
theorem q9v{l:jd}{n i:Nat}(hl:l.length=n)(h:i<=n):(stS l n i).length=n:=by
 unfold stS;rw[z8,zM,zD];omega
theorem qeO{l:jd}{n i:Nat}(hl:l.length=n)(h:i<n):(stS l n i)[i]? =some 0:=by
 unfold stS;rw[zJ (by rw[zM];omega),zM,yH Yb,ZC,Zi,if_pos Yb]
theorem q9w{l:jd}{n i:Nat}{v:Int}(hl:l.length=n)(h:i<n)(e:l[i]? =some v):(stS l n i).set i v=stS l n (i+1):=by
 have d:(l.take i).length=i:=by rw[zM];omega
 unfold stS;rw[ZG _ _ Yb,d,ZC,zY,e,show n-i=(n-(i+1))+1 by omega,yh,yL,zd];rfl
theorem qhd{l:jd}{n i:Nat}(d:l.length=n)(h:i<n)(o:l[i]? =some 0):stS l n i=stS l n (i+1):=by
 rw[<-q9w d h o];refine(Z8 fun j=>?_).symm;rw[zx]
 split
 ·rename_i e;subst e;rw[qeO d h,if_pos (by rw[q9v d Yb];exact h)]
 ·rfl
theorem qeN{l:jd}{n:Nat}(hl:l.length=n):stS l n n=l:=by
 unfold stS;rw[ZC,ZB Yb];exact zC l
structure Cnt(c:Cfg)(N:Nat)(n f:Nat->Nat):Prop where
 f0:f 0=0
 fs:∀k,k<4->f (k+1)=f k+n k
 f4:f 4=N
 le:N<=64
 hd:∀k,k<4->(hd0 c)[k]? =some (hdC (n k) (f k))
 nl:(nx0 c).length=N
 nx:∀k,k<4->∀j,j<n k->(nx0 c)[f k+j]? =some (if j+1<n k then((f k+j+2:Nat):Int) else 0)
 c0:c.c0=n 0
 c1:c.c1=n 1
 c2:c.c2=n 2
 c3:c.c3=n 3
theorem qlk{c:Cfg}(K:qI c=0):∃N n f,Cnt c N n f/\qh c=(N:Int):=by
 obtain⟨_,J,_,_⟩:=qK K;have P:qh c=nB c:=by unfold qh;rw[if_pos K]
 unfold okH okC at J;unfold nB at J P;obtain⟨d,E⟩:∃n:Nat,c.c0=n:=⟨c.c0.toNat,Yb⟩
 obtain⟨o,F⟩:∃n:Nat,c.c1=n:=⟨c.c1.toNat,Yb⟩
 obtain⟨n2,G⟩:∃n:Nat,c.c2=n:=⟨c.c2.toNat,Yb⟩
 obtain⟨D,H⟩:∃n:Nat,c.c3=n:=⟨c.c3.toNat,Yb⟩
 have y:nx0 c=nxC d (0:Nat)++(nxC o (d:Nat)++(nxC n2 ((d+o:Nat):Int)++nxC D ((d+o+n2:Nat):Int))):=by
  unfold nx0;rw[E,F,G,H];rfl
 have C:hd0 c= [hdC d (0:Nat),hdC o (d:Nat),hdC n2 ((d+o:Nat):Int),hdC D ((d+o+n2:Nat):Int)]:=by
  unfold hd0;rw[E,F,G,H];rfl
 have z:∀n:Nat,∀f:Int,(nxC (n:Int) f).length=n:=fun n f=>by rw[qdn,zF]
 have I:(nx0 c).length=d+o+n2+D:=by
  rw[y];simp only[z8,z];omega
 have A:∀i v,i<d+o+n2+D->(nx0 c).getD i 0=v->(nx0 c)[i]? =some v:=fun i v hi e=>by
  rw[zg,z6 Yb] at e;rw[z6 Yb,<-e];rfl
 refine⟨d+o+n2+D,fun k=>if k=0 then d else if k=1 then o else if k=2 then n2 else D,fun k=>if k=0 then 0 else if k=1 then d else if k=2 then d+o else if k=3 then d+o+n2 else d+o+n2+D,
  ⟨rfl,fun k L=>?_,rfl,Yb,fun k L=>?_,I,fun k L j w=>?_,E,F,G,H⟩,Yb⟩
 all_goals
  have O:k=0\/k=1\/k=2\/k=3:=Yb
  rcases O with rfl|rfl|rfl|rfl
 ·show d=0+d;omega
 ·rfl
 ·rfl
 ·rfl
 ·rw[C];rfl
 ·rw[C];rfl
 ·rw[C];rfl
 ·rw[C];rfl
 ·have w:j<d:=w;show(nx0 c)[0+j]? =some (if j+1<d then((0+j+2:Nat):Int) else 0);rw[zy];refine A j _ Yb ?_;rw[y,qkP (by rw[z];exact w),q7J w,zy]
 ·have w:j<o:=w;exact A (d+j) _ Yb (by rw[y,qc1 (j:=j) (by rw[z]),qkP (by rw[z];exact w)];exact q7J w)
 ·have w:j<n2:=w;exact A (d+o+j) _ Yb (by rw[y,qc1 (j:=o+j) (by rw[z];omega),qc1 (j:=j) (by rw[z]),qkP (by rw[z];exact w)];exact q7J w)
 ·have w:j<D:=w;exact A (d+o+n2+j) _ Yb (by rw[y,qc1 (j:=o+n2+j) (by rw[z];omega),qc1 (j:=n2+j) (by rw[z];omega),qc1 (j:=j) (by rw[z])];exact q7J w)
section
variable{c:Cfg}{N:Nat}{n f:Nat->Nat}
theorem Cnt.link(h:Cnt c N n f){k j:Nat}(w:k<4)(o:j+1<n k):f k+j<N/\(stS (nx0 c) N (f k+j)).set (f k+j) ((f k+j+2:Nat):Int)=stS (nx0 c) N (f k+j+1):=by
 have e:=h.nx k w j Yb;rw[if_pos o] at e;have d:=(z7.1 e).1;rw[h.nl] at d;exact⟨d,q9w h.nl d e⟩
theorem Cnt.last(h:Cnt c N n f){k:Nat}(j:k<4)(hn:0<n k):stS (nx0 c) N (f k+(n k-1))=stS (nx0 c) N (f (k+1)):=by
 have e:=h.nx k j (n k-1) Yb;rw[if_neg Yb] at e;have d:=(z7.1 e).1;rw[h.nl] at d;rw[qhd h.nl d e,h.fs k j,show f k+(n k-1)+1=f k+n k by omega]
theorem Cnt.f_le(h:Cnt c N n f){k:Nat}(hk:k<4):f k+n k<=N:=by
 have h0:f 1=f 0+n 0:=h.fs 0 Yc;have h1:f 2=f 1+n 1:=h.fs 1 Yc;have h2:f 3=f 2+n 2:=h.fs 2 Yc;have h3:f 4=f 3+n 3:=h.fs 3 Yc;have h4:=h.f4;have hf0:=h.f0;have d:k=0\/k=1\/k=2\/k=3:=Yb
 rcases d with rfl|rfl|rfl|rfl <;>omega
end
open Go
section
variable{W0:World}{own:Own}
theorem qgs{c:Cfg}{N:Nat}{n f:Nat->Nat}(e:Cnt c N n f)(hb:qh c=(N:Int)):jk W0 74 [c.v] own fun v own'=>
  ∃s:Nat×Nat,v= .tuple #[.slice (some ⟨s.1,0,none⟩) 4 4, .slice (some ⟨s.2,0,none⟩) N N]/\Ent W0 own' (q0S q06 45 s.1 (hd0 c)::q0S q06 45 s.2 (nx0 c)::own):=by
 refine sH [] ?_;have E:=fun own=>q3F W0 own c
 rw[hb] at E;have hH:=e.hd;have D:(hd0 c).length=4:=rfl;have link:=fun k j R hj=>e.link (k:=k) (j:=j) R hj
 have last:=fun k R hn=>e.last (k:=k) R hn
 have O:=e.fs;have I:=e.f0;have ae:=e.f4;have L:=fun k R=>e.f_le (k:=k) R
 have hle:=e.le;have F:=e.nl;have e0:=e.c0;have e1:=e.c1;have e2:=e.c2;have e3:=e.c3;have hw:∀{l:jd} (z:Int),z∈l->(q06 z).length=1:=fun _ _=>rfl
 have P:=fun(top:Int) (h: -1<=top/\top<64) own=>qaX (W0:=W0) (own:=own) 0 top Yc h
 clear e hb;generalize hd0 c=H at*;generalize nx0 c=X at*;obtain⟨w,o,b,c0,c1,c2,c3,r,wr,al,fr,ck,st⟩:=c;dsimp only at e0 e1 e2 e3;subst e0 e1 e2 e3;dsimp only[Cfg.v,Cfg.cs] at E ⊢
 repeat'((try conv=>whnf);first|refine mkC (enc:=q06) 4 0 rfl rfl rfl Yb fun b1=>?_;apply Stop.h|refine qg fun bk hbk=>?_)
 refine Stop.mk ?_
 repeat'((try conv=>whnf);first|refine mkC (enc:=q06) N 0 rfl rfl rfl Yb fun b2=>?_|apply qe;refine qd (E _) ?_|refine fL ?_|refine fQ ?_)
 refine qQ (σ:=Nat) (fun i=> [(15,j4 i),(4,j4 (f i))]) (fun i=>q0S q06 45 b1 (stS H 4 i)::q0S q06 45 b2 (stS X N (f i))::own) (fun i=>i<=4) (fun i=>4-i) 0 (zl _) (by rw[I];exact(eF)) (by rw[I];exact sbE) rfl ?_;rintro i junk hi;have C:i=4\/i=0\/i=1\/i=2\/i=3:=Yb
 rcases C with rfl|C
 ·rw[ae,qeN D,qeN F]
  repeat'((try conv=>whnf);first|refine fD ?_)
  all_goals exact⟨(b1,b2),rfl,sbE⟩
 ·have d:i<4:=Yb;have hx:=qeO D d;have y:=q9w D d (hH i d);have A:=last i d;have J:=O i d;have K:=L i d;have U:=fun j hj=>link i j d hj
  have V:(4:Nat)=(stS H 4 i).length:=(q9v D Yb).symm;obtain⟨G,aj⟩:∃G,G=i+1:=⟨_,rfl⟩
  rw[<-aj] at y A J;clear link last O L hH;obtain⟨m,Y⟩:∃m,n i=m:=⟨_,rfl⟩
  rw[Y] at y A J K;simp only[Y] at U;generalize f i=g at*
  by_cases hm:m=0
  ·have hh:∀own,jl W0 107 [j4 0,j4 (-1)] own (.tuple #[uv (hdC (m) (g)),j4 0]):=fun own=>by
    have:=P (-1) Yc own;rw[show(0:Int)*65536+(-1+1)=hdC (m) (g) by unfold hdC;rw[if_pos Yb];rfl] at this;exact this
   have af:f G=g:=Yb;generalize hdC (m) (g)=hv at*
   rcases C with rfl|rfl|rfl|rfl
   all_goals
    repeat'((try conv=>whnf);first|refine fE ?_|refine fG ?_|refine q31 1 ?_|(apply qL;first|refine ixC hx V ?_ ?_;(first|rfl|omega))|apply qe;refine qd (hh _) ?_|((with_reducible show StT _ _ _ _ _);first|refine stC (T:=45) (k:=0) (hv) hw hx ?_ ?_ ?_ ?_ ?_;exact rfl;omega;exact rfl;exact rfl)|refine fB ?_|refine fO ?_|refine ix0 rfl ?_|refine ix1 rfl ?_|refine ix2 rfl ?_|refine ix3 rfl ?_)
    all_goals exact⟨G,Yb,Yb,(eF),by rw[<-y,af];exact sbE⟩
  ·have hh:∀own,jl W0 107 [j4 0,j4 (g)] own (.tuple #[uv (hdC (m) (g)),j4 0]):=fun own=>by
    have:=P (g) Yb own;rw[show(0:Int)*65536+((g:Int)+1)=hdC (m) (g) by unfold hdC;rw[if_neg Yb];omega] at this;exact this
   have A:=A Yb;generalize hdC (m) (g)=hv at*
   rcases C with rfl|rfl|rfl|rfl
   all_goals
    repeat'((try conv=>whnf);first|refine fE ?_|refine fF ?_|(apply qL;first|refine ixC hx V ?_ ?_;(first|rfl|omega))|apply qe;refine qd (hh _) ?_|((with_reducible show StT _ _ _ _ _);first|refine stC (T:=45) (k:=0) (hv) hw hx ?_ ?_ ?_ ?_ ?_;exact rfl;omega;exact rfl;exact rfl)|refine fO ?_|refine ix0 rfl ?_|refine ix1 rfl ?_|refine ix2 rfl ?_|refine ix3 rfl ?_)
    refine qQ (σ:=Nat) (fun j=> [(8,j4 ((g:Int)+j))]) (fun j=>q0S q06 45 b1 (stS H 4 G)::q0S q06 45 b2 (stS X N (g+j))::own) (fun j=>j+1<=m) (fun j=>m-j) 0 Yb (eF) (by rw[<-y,ZI];exact sbE) rfl ?_;rintro j junk2 hj
    by_cases aq:j+1<m
    ·obtain⟨g1,g2⟩:=U j aq;have Z:=qeO F g1;have W:N=(stS X N (g+j)).length:=(q9v F (Nat.le_of_lt g1)).symm;rw[show((g+j+2:Nat):Int)=(g:Int)+j+2 by omega] at g2
     repeat'((try conv=>whnf);first|refine fF ?_|(apply qL;first|refine ixC Z W ?_ ?_;(first|rfl|omega))|((with_reducible show StT _ _ _ _ _);first|refine stC (T:=45) (k:=0) (((g:Int)+j+2)) hw Z ?_ ?_ ?_ ?_ ?_;exact rfl;omega;exact rfl;exact rfl)|refine fB ?_|refine fC ?_)
     all_goals exact⟨j+1,Yb,Yb,(eF),by rw[<-yf,<-g2];exact sbE⟩
    ·repeat'((try conv=>whnf);first|refine fG ?_|refine fB ?_)
     all_goals exact⟨G,Yb,Yb,(eF),by rw[<-A,show g+(m-1)=g+j by omega];exact sbE⟩
end
open Go
theorem qcT{a b:Int}{v:Value}:∀{ml:List (Value×Value)},(∀e∈ml,∃z,e.1= j4 z)->q1Y 0 (j4 a) (q5F 0 (j4 b) v ml)=if a=b then some (some v) else q1Y 0 (j4 a) ml
 | [],_=>by
  show(match some (decide (a=b)) with|some true=>some (some v)|some false=>some none|none=>none)=_
  by_cases h:a=b
  ·rw[if_pos h,decide_eq_true h]
  ·rw[if_neg h,decide_eq_false h];rfl
 |(k,w)::r,j=>by
  obtain⟨z,rfl⟩:∃z,k= j4 z:=j _ zp
  have A:=qcT (a:=a) (b:=b) (v:=v) (ml:=r) fun e he=>j e (zr _ he)
  have o:q5F 0 (j4 b) v ((j4 z,w)::r)=(match some (decide (b=z)) with|some true=>(j4 b,v)::r|_=>(j4 z,w)::q5F 0 (j4 b) v r):=rfl;have d:∀(q:Value) (s:List (Value×Value)) (y:Int),q1Y 0 (j4 a) ((j4 y,q)::s)=(match some (decide (a=y)) with|some true=>some (some q)|some false=>q1Y 0 (j4 a) s|none=>none):=fun _ _ _=>rfl
  rw[o,d]
  by_cases hb:b=z
  ·subst hb;simp only[decide_true];rw[d]
   by_cases h:a=b
   ·rw[if_pos h,decide_eq_true h]
   ·rw[if_neg h,decide_eq_false h]
  ·simp only[decide_eq_false hb];rw[d,A]
   by_cases h:a=b
   ·subst h;simp only[decide_eq_false hb,if_true]
   ·simp only[if_neg h]
theorem qb7{b:Int}{v:Value}:∀{ml:List (Value×Value)},(∀e∈ml,∃z,e.1= j4 z)->∀e∈q5F 0 (j4 b) v ml,∃z,e.1= j4 z
 | [],_,e,he=>by rw[show q5F 0 (j4 b) v []= [(j4 b,v)] from rfl,zf] at he;subst he;exact⟨b,rfl⟩
 |(k,w)::r,d,e,he=>by
  obtain⟨z,rfl⟩:∃z,k= j4 z:=d _ zp
  have j:q5F 0 (j4 b) v ((j4 z,w)::r)=(match some (decide (b=z)) with|some true=>(j4 b,v)::r|_=>(j4 z,w)::q5F 0 (j4 b) v r):=rfl;rw[j] at he
  by_cases hb:b=z
  ·simp only[decide_eq_true hb] at he
   rcases zX.1 he with rfl|he
   ·exact⟨b,rfl⟩
   ·exact d e (zr _ he)
  ·simp only[decide_eq_false hb] at he
   rcases zX.1 he with rfl|he
   ·exact⟨z,rfl⟩
   ·exact qb7 (fun e he=>d e (zr _ he)) e he
structure NX where
 mp:Nat
 ml:List (Value×Value)
 a1:j8
 c1:Nat
 D1:Own
 a5:j8
 c5:Nat
 D5:Own
 e:Nat->Nat
structure NB where
 ia:j8
 il:jd
 ic:Nat
 b3:Nat
 hb:Nat
 nb:Nat
 O:Nat
 n:Nat
 N:Nat
abbrev zsl(b k:Nat):Value:= .slice (some ⟨b,0,none⟩) k k
def vN(B:NB)(X:NX):Nat->Value
 |0=> .map (some X.mp)|1=> .slice B.ia B.il.length B.ic|2=> .slice X.a1 B.il.length X.c1|3=>zsl B.nb B.N|4=> j4 B.N|5=> .slice X.a5 (B.il.length+B.N) X.c5
 |7=> .pointer (some ⟨B.b3,0+1,none⟩)|8=> j4 B.O|9=>zsl (X.e 9) B.O|11=>zsl (X.e 11) 1|13=>zsl (X.e 13) 1|15=>zsl (X.e 15) 1|17=> j4 B.n|18=>zsl (X.e 18) B.n
 |20=>zsl B.hb 4|22=>zsl B.nb B.N|24=> .map (some X.mp)|25=> .agg #[.map (some X.mp)]|26=>ptr (X.e 26)|27=>ptr (X.e 26)|_=> j4 0
def dN(j:Nat):Nat:=([32,33,34,35,36,37,100,38,39,40,101,41,102,42,103,43,104,44,45,105,46,106,47,107,48,49,50,6,7]:jh).getD j 200
def muN(k:Nat):Nat:=([6,10,12,14,16,19,21,23]:jh).getD k 200
def crN(k:Nat):Nat:=([5,9,11,13,15,18,20,22]:jh).getD k 200
def clN:List (Nat×Nat):= [(5,2),(6,0),(6,5),(10,0),(10,9),(12,0),(12,11),(14,0),(14,13),(16,0),(16,15),(19,0),(19,18),(21,0),(21,20),(23,0),(23,22),(24,0),(25,24),(26,25),(27,26)]
theorem qcC:∀k,k<8->(muN k,crN k)∈clN:=Yc
theorem qlo:∀j,j<29->∀i,i<29->j≠i->dN j≠dN i:=Yc
abbrev rpP(k:Nat):Obj->Prop:=fun o=>o=Obj.cells (List.replicate k [uv 0]).flatten.toArray 45
abbrev mmP(mp:Nat):Obj->Prop:=fun o=>o=Obj.cells #[.map (some mp)] 158
def pq(b:Bool)(D:Own):Own:=bif b then D else []
def dP(d l2:Bool)(X:NX):Own:=bif d then X.D5 else pq l2 X.D1
def pcN(B:NB)(X:NX)(l:Nat->Bool):Own:=pq (l 0) [(X.mp,q2H X.ml)]++(dP (l 5) (l 2) X++(pq (l 9) [(X.e 9,rpP B.O)]++(pq (l 11) [(X.e 11,rpP 1)]++(pq (l 13) [(X.e 13,rpP 1)]++(pq (l 15) [(X.e 15,rpP 1)]++(pq (l 18) [(X.e 18,rpP B.n)]++pq (l 26) [(X.e 26,mmP X.mp)]))))))
abbrev q4I(l:Nat->Bool)(i:Nat):Nat->Bool:=fun n=>bif Nat.beq n i then true else l n
theorem qF{l:Nat->Bool}{i n:Nat}(h:n≠i):q4I l i n=l n:=by
 show(bif Nat.beq n i then true else l n)=l n;cases hb:Nat.beq n i with
 |false=>rfl
 |true=>exact absurd (ZH hb) h
theorem q5l{l:Nat->Bool}{i:Nat}:q4I l i i=true:=by
 show(bif Nat.beq i i then true else l i)=true;rw[Nat.beq_refl];rfl
theorem Ins.here{e:j9}{Y:Own}:(e::(pq false [e]++Y)).Perm (pq true [e]++Y):=List.Perm.refl _
theorem Ins.skip{e:j9}{A Y d:Own}(h:(e::Y).Perm d):(e::(A++Y)).Perm (A++d):=Z2.symm.trans (h.append_left A)
theorem Ins.base{e:j9}{A Y d:Own}(h:(e::Y).Perm d):(e::(Y++A)).Perm (d++A):=h.append_right A
structure JN(B:NB)(base:Own)(X:NX)(l:Nat->Bool)(f:Fr)(own:Own):Prop where
 v:∀j,j<29->dN j<100->l j=true->f (dN j)=vN B X j
 f1:f 1= j4 B.n
 f2:f 2= .slice B.ia B.il.length B.ic
 f3:f 3=ptr B.b3
 f9:f 9=zsl B.hb 4
 f10:f 10=zsl B.nb B.N
 cl:∀q∈clN,l q.1=true->l q.2=true
 m:l 0=true->(∀e∈X.ml,∃z,e.1= j4 z)/\∀k:Nat,k<8->q1Y 0 (j4 ((k:Int)+1)) X.ml=some (if l (muN k)=true then some (vN B X (crN k)) else none)
 b:l 2=true->l 5=false->qq q06 45 1 X.a1 X.c1 B.il X.D1
 b5:l 5=true->qq q06 45 1 X.a5 X.c5 (B.il++List.replicate B.N 0) X.D5
 o:own.Perm (pcN B X l++base)
section
variable{W0:World}{B:NB}{base own own':Own}{X X':NX}{l:Nat->Bool}{f:Fr}{i:Nat}{v:Value}
theorem JN.next(hJ:JN B base X l f own)(hi:i<29)(hdi:dN i<100)(h10:dN i=6\/dN i=7\/10<dN i)(I:∀j,l j=true->vN B X' j=vN B X j)(L:v=vN B X' i)(J:∀q∈clN,q.1=i->l q.2=true)(w:∀k:Nat,k<8->muN k≠i)
  (hm:q4I l i 0=true->(∀e∈X'.ml,∃z,e.1= j4 z)/\∀k:Nat,k<8->q1Y 0 (j4 ((k:Int)+1)) X'.ml=some (if l (muN k)=true then some (vN B X' (crN k)) else none))
  (hb:q4I l i 2=true->q4I l i 5=false->qq q06 45 1 X'.a1 X'.c1 B.il X'.D1) (o:q4I l i 5=true->qq q06 45 1 X'.a5 X'.c5 (B.il++List.replicate B.N 0) X'.D5) (K:own'.Perm (pcN B X' (q4I l i)++base)):JN B base X' (q4I l i) (updO f (some (dN i)) v) own':=by
 refine⟨fun j C hd d=>?_,by rw[q2e Yb];exact hJ.f1,by rw[q2e Yb];exact hJ.f2,by rw[q2e Yb];exact hJ.f3,by rw[q2e Yb];exact hJ.f9,by rw[q2e Yb];exact hJ.f10,fun q E d=>?_,fun F=>?_,hb,o,K⟩
 ·by_cases e:j=i
  ·subst e;rw[q8r];exact L
  ·rw[qF e] at d;rw[q2e (qlo j C i hi e),I j d];exact hJ.v j C hd d
 ·by_cases A:q.2=i
  ·rw[A];exact q5l
  ·rw[qF A]
   by_cases y:q.1=i
   ·exact J q E y
   ·rw[qF y] at d;exact hJ.cl q E d
 ·obtain⟨G,H⟩:=hm F;refine⟨G,fun k D=>?_⟩;rw[qF (w k D)];exact H k D
theorem JN.keep(hJ:JN B base X l f own)(hi:i<29)(j:dN i<100)(e:dN i=6\/dN i=7\/10<dN i)(z:v=vN B X i)(y:∀q∈clN,q.1=i->l q.2=true)(o:∀k:Nat,k<8->muN k≠i)(d:∀k:Nat,k∈([0,2,5,9,11,13,15,18,26]:jh)->k≠i):JN B base X (q4I l i) (updO f (some (dN i)) v) own:=by
 refine hJ.next hi j e (fun _ _=>rfl) z y o (fun h=>hJ.m (by rwa[qF (d 0 Yc)] at h)) (fun h w=>hJ.b (by rwa[qF (d 2 Yc)] at h) (by rwa[qF (d 5 Yc)] at w)) (fun h=>hJ.b5 (by rwa[qF (d 5 Yc)] at h)) ?_;have:pcN B X (q4I l i)=pcN B X l:=by unfold pcN;rw[qF (d 0 Yc),qF (d 2 Yc),qF (d 5 Yc),qF (d 9 Yc),qF (d 11 Yc),qF (d 13 Yc),qF (d 15 Yc),qF (d 18 Yc),qF (d 26 Yc)]
 rw[this];exact hJ.o
theorem JN.make(hJ:JN B base X l f own)(b:Nat)(p:Obj->Prop)(o:l i=false)(E:i=9\/i=11\/i=13\/i=15\/i=18\/i=26)(L:v=vN B {X with e:=fun k=>if k=i then b else X.e k} i)(K:∀q∈clN,q.1=i->l q.2=true)(y:(i=9->p=rpP B.O)/\(i=11\/i=13\/i=15->p=rpP 1)/\(i=18->p=rpP B.n)/\(i=26->p=mmP X.mp)):JN B base {X with e:=fun k=>if k=i then b else X.e k} (q4I l i) (updO f (some (dN i)) v) ((b,p)::own):=by
 have F:∀j,l j=true->vN B {X with e:=fun k=>if k=i then b else X.e k} j=vN B X j:=by
  intro j A;have hne:j≠i:=fun e=>by rw[e,o] at A;cases A
  have h27:j=27->i≠26:=fun e G=>by
   subst e;subst G;have:=hJ.cl (27,26) Yc A;rw[o] at this;cases this
  unfold vN
  split <;>first|rfl|dsimp only;rw[if_neg Yb]
 have D:∀k:Nat,k<8->muN k≠i:=by
  intro k C;have:∀k:Nat,k<8->∀j,(j=9\/j=11\/j=13\/j=15\/j=18\/j=26)->muN k≠j:=by
   intro k C j A
   rcases A with rfl|rfl|rfl|rfl|rfl|rfl <;>(revert k;decide)
  exact this k C i E
 have w:i<29/\dN i<100/\10<dN i:=by rcases E with rfl|rfl|rfl|rfl|rfl|rfl <;>decide
 refine hJ.next w.1 w.2.1 (.inr (.inr w.2.2)) F L K D (fun h=>?_) (fun h H=>hJ.b (by rwa[qF Yb] at h) (by rwa[qF Yb] at H)) (fun h=>hJ.b5 (by rwa[qF Yb] at h)) ?_
 ·rw[qF Yb] at h;obtain⟨I,J⟩:=hJ.m h;refine⟨I,fun k C=>?_⟩;rw[J k C]
  by_cases d:l (muN k)=true
  ·rw[if_pos d,if_pos d];refine congrArg (fun z=>some (some z)) (F (crN k) ?_).symm;exact hJ.cl _ (qcC k C) d
  ·rw[if_neg d,if_neg d]
 ·refine(hJ.o.cons _).trans ?_;unfold pcN
  rcases E with rfl|rfl|rfl|rfl|rfl|rfl
  ·rw[o,y.1 rfl];exact Ins.base (Ins.skip (Ins.skip Ins.here))
  ·rw[o,y.2.1 (.inl rfl)];exact Ins.base (Ins.skip (Ins.skip (Ins.skip Ins.here)))
  ·rw[o,y.2.1 (.inr (.inl rfl))];exact Ins.base (Ins.skip (Ins.skip (Ins.skip (Ins.skip Ins.here))))
  ·rw[o,y.2.1 (.inr (.inr rfl))];exact Ins.base (Ins.skip (Ins.skip (Ins.skip (Ins.skip (Ins.skip Ins.here)))))
  ·rw[o,y.2.2.1 rfl];exact Ins.base (Ins.skip (Ins.skip (Ins.skip (Ins.skip (Ins.skip (Ins.skip Ins.here))))))
  ·rw[o,y.2.2.2 rfl];exact Ins.base (Ins.skip (Ins.skip (Ins.skip (Ins.skip (Ins.skip (Ins.skip (Ins.skip (List.Perm.refl _))))))))
end
open Go
theorem qa1(l:jd):(l.map q06).flatten=l.map uv:=by
 induction l with
 |nil=>rfl
 |cons x l d=>rw[zG,Z1,d,zG];rfl
theorem q7B(k:Nat):(List.replicate k [uv 0]).flatten=List.replicate k (uv 0):=by
 induction k with
 |zero=>rfl
 |succ k d=>rw[yh,Z1,d,yh];rfl
theorem qlj:∀k,k<8->∀q∈clN,q.1=muN k->q.2=0\/q.2=crN k:=Yc
theorem qjm:∀k,k<8->∀j,j<8->k≠j->muN k≠muN j:=Yc
theorem qjl:∀k,k<8->100<=dN (muN k):=Yc
theorem qam:∀k,k<8->∀j,j∈([0,2,5,9,11,13,15,18,26]:jh)->j≠muN k:=Yc
theorem Ins.app{D A Y d:Own}(h:(D++Y).Perm d):(D++(A++Y)).Perm (A++d):=by
 rw[<-zd];refine(Zc.append_right Y).trans ?_;rw[zd];exact h.append_left A
section
variable{W0:World}{B:NB}{base own own':Own}{X X':NX}{l:Nat->Bool}{f:Fr}{i:Nat}{v:Value}
theorem JN.ent(hJ:JN B base X l f own):Ent W0 own base:=(Ent.of_perm hJ.o).trans Ent.right
theorem JN.mkm(hJ:JN B base X l f own)(z:l 0=false)(b:Nat):JN B base {X with mp:=b,ml:= []} (q4I l 0) (updO f (some 32) (.map (some b))) ((b,q2H [])::own):=by
 have A:∀j,(j,0)∈clN->l j=false:=fun j d=>by
  cases h:l j with
  |false=>rfl
  |true=>have:=hJ.cl _ d h;rw[z] at this;cases this
 have o:=A 24 Yc;have w:l 25=false:=by
  cases h:l 25 with
  |false=>rfl
  |true=>have:=hJ.cl (25,24) Yc h;rw[o] at this;cases this
 have y:l 26=false:=by
  cases h:l 26 with
  |false=>rfl
  |true=>have:=hJ.cl (26,25) Yc h;rw[w] at this;cases this
 refine hJ.next (i:=0) Yc Yc Yc (fun j d=>?_) rfl (fun q D e=>absurd e ((by decide:∀q∈clN,q.1≠0) q D)) Yc (fun _=>⟨fun _ h=>(by cases h),fun k hk=>?_⟩) (fun h C=>hJ.b h C) (fun h=>hJ.b5 h) ?_
 ·unfold vN
  split <;>first|rfl|rw[z] at d;cases d|rw[o] at d;cases d|rw[w] at d;cases d
 ·have hm:l (muN k)=false:=A _ (by revert k;decide);rw[hm];rfl
 ·refine(hJ.o.cons _).trans ?_;unfold pcN;rw[z,y];show((b,q2H [])::(([]++_)++base)).Perm (([(b,q2H [])]++(dP (l 5) (l 2) _++(pq (l 9) _++(pq (l 11) _++(pq (l 13) _++(pq (l 15) _++(pq (l 18) _++pq (l 26) _)))))))++base);rw[y];exact List.Perm.refl _
theorem JN.cln(hJ:JN B base X l f own)(d:l 2=false){a:j8}{c:Nat}{D:Own}(E:qq q06 45 1 a c B.il D):JN B base {X with a1:=a,c1:=c,D1:=D} (q4I l 2) (updO f (some 34) (.slice a B.il.length c)) (D++own):=by
 have o:l 5=false:=by
  cases h:l 5 with
  |false=>rfl
  |true=>have:=hJ.cl (5,2) Yc h;rw[d] at this;cases this
 have w:∀j,l j=true->vN B {X with a1:=a,c1:=c,D1:=D} j=vN B X j:=by
  intro j y;unfold vN
  split <;>first|rfl|rw[d] at y;cases y
 refine hJ.next (i:=2) Yc Yc Yc w rfl (fun q F e=>absurd e ((by decide:∀q∈clN,q.1≠2) q F)) Yc (fun h=>?_) (fun _ _=>E) (fun h=>by rw[qF Yc,o] at h;cases h) ?_
 ·obtain⟨A,C⟩:=hJ.m h;refine⟨A,fun k z=>?_⟩;rw[C k z]
  by_cases hm:l (muN k)=true
  ·rw[if_pos hm,if_pos hm,w _ (hJ.cl _ (qcC k z) hm)]
  ·rw[if_neg hm,if_neg hm]
 ·refine(hJ.o.append_left D).trans ?_;rw[<-zd];refine List.Perm.append_right base ?_;unfold pcN;rw[qF (i:=2) (n:=5) Yc,o,d];exact Ins.app (List.Perm.refl _)
theorem JN.mup(hJ:JN B base X l f own)(k:Nat)(o:k<8)(E:l 0=true)(G:l (crN k)=true):∃own',Up X.mp (q2H X.ml) (q2H (q5F 0 (j4 ((k:Int)+1)) (vN B X (crN k)) X.ml)) own own'/\(q1Y 0 (j4 ((k:Int)+1)) X.ml).isSome=true/\JN B base {X with ml:=q5F 0 (j4 ((k:Int)+1)) (vN B X (crN k)) X.ml} (q4I l (muN k)) f own':=by
 obtain⟨z,D⟩:=hJ.m E;obtain⟨R,P,F⟩:∃R,pcN B X l=(X.mp,q2H X.ml)::R/\pcN B {X with ml:=q5F 0 (j4 ((k:Int)+1)) (vN B X (crN k)) X.ml} (q4I l (muN k))=(X.mp,q2H (q5F 0 (j4 ((k:Int)+1)) (vN B X (crN k)) X.ml))::R:=by
  have d:=fun j w=>qF (l:=l) (qam k o j w)
  unfold pcN;rw[d 0 Yc,d 2 Yc,d 5 Yc,d 9 Yc,d 11 Yc,d 13 Yc,d 15 Yc,d 18 Yc,d 26 Yc,E];exact⟨_,rfl,rfl⟩
 have I:=hJ.o;rw[P] at I;obtain⟨A,C,rfl⟩:=Zz (I.mem_iff.2 zp);refine⟨A++(X.mp,q2H (q5F 0 (j4 ((k:Int)+1)) (vN B X (crN k)) X.ml))::C,Up.head.app A,by rw[D k o];rfl,?_⟩;refine⟨fun j w hd y=>?_,hJ.f1,hJ.f2,hJ.f3,hJ.f9,hJ.f10,fun q L y=>?_,fun _=>⟨qb7 z,fun j w=>?_⟩,fun h O=>hJ.b (by rwa[qF (qam k o 2 Yc)] at h) (by rwa[qF (qam k o 5 Yc)] at O),fun h=>hJ.b5 (by rwa[qF (qam k o 5 Yc)] at h),?_⟩
 ·have H:j≠muN k:=fun e=>by have:=qjl k o;rw[<-e] at this;omega
  rw[qF H] at y;exact hJ.v j w hd y
 ·by_cases K:q.2=muN k
  ·rw[K];exact q5l
  ·rw[qF K]
   by_cases J:q.1=muN k
   ·rcases qlj k o q L J with e|e
    ·rw[e];exact E
    ·rw[e];exact G
   ·rw[qF J] at y;exact hJ.cl q L y
 ·show q1Y 0 _ (q5F 0 _ _ X.ml)=_;rw[qcT z]
  by_cases e:j=k
  ·subst e;rw[if_pos rfl,q5l,if_pos rfl];rfl
  ·rw[if_neg Yb,D j w,qF (qjm j w k o e)];rfl
 ·rw[F];exact Z2.trans (((Z2.symm.trans I).cons_inv).cons _)
abbrev JE(B:NB)(base:Own)(l:Nat->Bool)(f:Fr)(own:Own):Prop:=∃X,JN B base X l f own
theorem pc5(d:l 2=true)(e:l 5=false):∃R,(pcN B X l).Perm (X.D1++R)/\∀a c D,(pcN B {X with a5:=a,c5:=c,D5:=D} (q4I l 5)).Perm (D++R):=by
 refine⟨pq (l 0) [(X.mp,q2H X.ml)]++(pq (l 9) [(X.e 9,rpP B.O)]++(pq (l 11) [(X.e 11,rpP 1)]++(pq (l 13) [(X.e 13,rpP 1)]++(pq (l 15) [(X.e 15,rpP 1)]++(pq (l 18) [(X.e 18,rpP B.n)]++pq (l 26) [(X.e 26,mmP X.mp)]))))),?_,fun a c D=>?_⟩
 ·unfold pcN dP;rw[e,d];exact Z4 _ _ _
 ·unfold pcN dP;rw[qF Yc,q5l,qF Yc,qF Yc,qF Yc,qF Yc,qF Yc,qF Yc,qF Yc];exact Z4 _ _ _
theorem JN.set5(hJ:JN B base X l f own)(A:l 2=true)(o:l 5=false){a:j8}{c:Nat}{D:Own}(C:qq q06 45 1 a c (B.il++List.replicate B.N 0) D)(E:own'.Perm (pcN B {X with a5:=a,c5:=c,D5:=D} (q4I l 5)++base)):JN B base {X with a5:=a,c5:=c,D5:=D} (q4I l 5) (updO f (some (dN 5)) (.slice a (B.il.length+B.N) c)) own':=by
 refine hJ.next (i:=5) Yc Yc Yc (fun j w=>?_) rfl (fun q F e=>by have:=(by decide:∀q∈clN,q.1=5->q.2=2) q F e;rw[this];exact A) Yc (fun h=>?_) (fun _ h=>by rw[q5l] at h;cases h) (fun _=>C) E
 ·unfold vN
  split <;>first|rfl|rw[o] at w;cases w
 ·obtain⟨g1,g2⟩:=hJ.m h;refine⟨g1,fun k y=>?_⟩;rw[g2 k y]
  by_cases hm:l (muN k)=true
  ·rw[if_pos hm,if_pos hm];have d:=hJ.cl _ (qcC k y) hm;refine congrArg (fun z=>some (some z)) ?_;generalize crN k=q at d;unfold vN
   split <;>first|rfl|rw[o] at d;cases d
  ·rw[if_neg hm,if_neg hm]
theorem JN.app0(hJ:JN B base X l f own)(d:l 2=true)(e:l 5=false)(o:B.N=0):JE B base (q4I l 5) (updO f (some (dN 5)) (.slice X.a1 B.il.length X.c1)) own:=by
 obtain⟨R,w,j⟩:=pc5 (B:=B) (X:=X) d e;have h:=hJ.set5 (own':=own) d e (a:=X.a1) (c:=X.c1) (D:=X.D1) (by rw[o,yg,zC];exact hJ.b d e) (hJ.o.trans ((w.trans (j _ _ _).symm).append_right base));rw[o] at h;exact⟨_,h⟩
abbrev d5E(B:NB)(b:Nat)(rs:je):j9:=(b,j7 (((B.il++List.replicate B.N (0:Int)).map q06).flatten++rs).toArray 45)
theorem JN.app(hJ:JN B base X l f own)(G:l 2=true)(H:l 5=false)(L:B.il≠ [])(hl:B.il.length<=1000/\B.N<=64):qn5 W0 own 45 8 [uv 0] X.a1 B.il.length X.c1 B.N fun v own'=>JE B base (q4I l 5) (updO f (some (dN 5)) v) own':=by
 have U:=hJ.b G H
 rcases U.how with ⟨e, -⟩|⟨b0,rest,Y,V,hlen,hle⟩
 ·exact absurd e L
 obtain⟨R,W,J⟩:=pc5 (B:=B) (X:=X) G H;have O:=hJ.o.trans (W.append_right base);rw[V] at O;have hm:=O.mem_iff.2 zp;obtain⟨A,C,rfl⟩:=Zz hm;have I:(A++C).Perm (R++base):=(Z2.symm.trans O).cons_inv;have d:(B.il.map q06).flatten.length=B.il.length:=by rw[qa1,zi]
 have fin:∀(b:Nat) (c:Nat) (rs:je) (T:Own),B.il.length+B.N+rs.length=c->T.Perm (d5E B b rs::(A++C))->JE B base (q4I l 5) (updO f (some (dN 5)) (.slice (some ⟨b,0,none⟩) (B.il.length+B.N) c)) T:=fun b c rs T Z hp=>
  ⟨_,hJ.set5 G H (D:= [d5E B b rs]) ⟨fun _ _=>rfl, .inr ⟨b,rs,rfl,rfl,by rw[z8,zD];omega,by rw[z8,zD];omega⟩⟩ (hp.trans ((I.cons _).trans ((J (some ⟨b,0,none⟩) c [d5E B b rs]).append_right base).symm))⟩
 have z:((List.replicate B.N (0:Int)).map q06).flatten=List.replicate B.N (uv 0):=by rw[qa1,ZS]
 rw[Y];refine⟨(B.il.map q06).flatten,by rw[d];exact(yo _).symm,fun e=>(by cases e),fun v hv=>(by rw[zf.1 hv];rfl),fun w hw ad K j v F=>?_,fun hfit=>?_,fun hgr=>⟨Yb,fun b E hb Z=>?_⟩⟩
 ·cases K;rw[qN];refine q0E (W0:=W0) hm ?_ w hw;rw[zQ,zy,zB (z7.1 F).1];exact F
 ·have y:((B.il.map q06).flatten++rest).take B.il.length++(List.replicate B.N [uv 0]).flatten++((B.il.map q06).flatten++rest).drop (B.il.length+(List.replicate B.N [uv 0]).flatten.length)=((B.il++List.replicate B.N 0).map q06).flatten++rest.drop B.N:=by
   rw[q7B,zD,Zh Yb,ZB Yb,yE,ZN Yb,zj,d,Za,zv,zP,z]
  refine⟨A++d5E B b0 (rest.drop B.N)::C,⟨b0,0,none⟩,rfl,fun w hw=>?_,fin b0 X.c1 (rest.drop B.N) _ (by rw[ZM];omega) Z2⟩;have hu:=Up.app (Up.head (b:=b0) (p:=fun o=>o=Obj.cells ((B.il.map q06).flatten++rest).toArray 45) (q:=fun o=>o=Obj.cells (((B.il.map q06).flatten++rest).take B.il.length++(List.replicate B.N [uv 0]).flatten++((B.il.map q06).flatten++rest).drop (B.il.length+(List.replicate B.N [uv 0]).flatten.length)).toArray 45) (r:=C)) A;have P:=q47 (vs:=(List.replicate B.N [uv 0]).flatten) (off:=B.il.length) hw hu (by rw[q7B,z8,d,zD];omega);rw[y] at P;rw[qN,show 0+B.il.length* [uv 0].length=B.il.length by simp];refine⟨fun j F=>?_,P.2⟩;rw[qN];exact P.1 j (by rw[q7B,zD];simpa using F)
 ·refine⟨_,?_,fin b E (List.replicate (E-(B.il.length+B.N)) (uv 0)) _ (by rw[zD];omega) (List.Perm.refl _)⟩;unfold d5E;rw[q7B,zv,zP,z,zd,ZP,show B.N+(E-(B.il.length+B.N))=E-B.il.length by omega];exact Ent.of_sub (((List.Sublist.refl A).append (zT _ _)).cons_cons _)
variable(hJ:JN B base X l f own)
include hJ
theorem JN.xmov(i t:Nat){w:Value}(e:f t=w)(hi:i<29/\dN i<100/\(dN i=6\/dN i=7\/10<dN i)/\(∀k:Nat,k<8->muN k≠i)/\∀k:Nat,k∈([0,2,5,9,11,13,15,18,26]:jh)->k≠i)(j:w=vN B X i)(d:∀q∈clN,q.1=i->l q.2=true):XO Tryz.prog W0 f own (.mov (.tmp t)) fun v own'=>JE B base (q4I l i) (updO f (some (dN i)) v) own':=by
 unfold XO;dsimp only[ev];refine Mv.mk ?_;rw[e];exact⟨X,hJ.keep hi.1 hi.2.1 hi.2.2.1 j d hi.2.2.2.1 hi.2.2.2.2⟩
theorem JN.xmk(i:Nat)(n:Nat)(x y:Operand)(w:ev f x= j4 n)(z:ev f y= j4 n)(hn:n<=1000000)(j:l i=false)(o:i=9\/i=11\/i=13\/i=15\/i=18)(d:(i=9->n=B.O)/\(i=11\/i=13\/i=15->n=1)/\(i=18->n=B.n))(e:∀q∈clN,q.1=i->l q.2=true):XO Tryz.prog W0 f own (.mk 45 1 8 [j5 0] x y) fun v own'=>JE B base (q4I l i) (updO f (some (dN i)) v) own':=by
 unfold XO;dsimp only;rw[w,z];refine⟨n,n,rfl,rfl,zN _,Yb,fun b _=>⟨_,hJ.make b (rpP n) j Yb ?_ e ⟨fun h=>by rw[d.1 h],fun h=>by rw[d.2.1 h],fun h=>by rw[d.2.2 h],fun h=>by omega⟩⟩⟩
 rcases o with rfl|rfl|rfl|rfl|rfl
 ·rw[d.1 rfl];rfl
 ·rw[d.2.1 (.inl rfl)];rfl
 ·rw[d.2.1 (.inr (.inl rfl))];rfl
 ·rw[d.2.1 (.inr (.inr rfl))];rfl
 ·rw[d.2.2 rfl];rfl
theorem JN.xmup(k:Nat)(t:Nat)(o:Int)(C:k<8)(j:o=(k:Int)+1)(D:f t=vN B X (crN k))(d:f 32= .map (some X.mp))(w:l 0=true)(e:l (crN k)=true):XO Tryz.prog W0 f own (.mup 0 (.tmp 32) (.const (j4 o)) (.tmp t)) fun v own'=>JE B base (q4I l (muN k)) (updO f none v) own':=by
 subst j;obtain⟨own',y,z,A⟩:=hJ.mup k C w e;unfold XO;dsimp only[ev];rw[d,D];exact⟨_,own',y,z,_,A⟩
end
open Go
theorem q9c(n:Nat):(List.replicate n [uv 0]).flatten=(List.replicate n (0:Int)).map uv++ []:=by rw[zC,ZS,q7B]
theorem qhB{T:TypeId}{b:Nat}(l:jd):q0S q06 T b l=(b,j7 (l.map uv++ []).toArray T):=by
 unfold q0S;rw[qa1,zC]
theorem qlP{W0:World}{own:Own}{f:Fr}{b:Nat}{K:Value->Own->Prop}(d:f 6=ptr b)(e:f 7= j4 0)(j:K (.tuple #[ptr b,j4 0]) own):qba W0 f own [.tmp 6, .tmp 7] fun vs=>K (qib vs) own:=by
 unfold qba;dsimp only;rw[d];refine Mv.mk ?_;rw[e];exact Mv.mk j
section
variable{W0:World}{own:Own}{c:Cfg}
theorem qjQ{ia:j8}{il:jd}{ic O n:Nat}(hc:qI c=0)(hI:RdE q06 1 W0 own ia il)(au:(il.length:Int)=c.words)(U:il≠ [])(aq:il.length<=1000)(hO:c.orecs=(O:Int))(hO2:O<=1000)(hn1:1<=n)(hn:n<=16):
  jk W0 45 [c.v,j4 n, .slice ia il.length ic] own fun v own'=>∃J:MH,(v= .tuple #[ptr J.mb,j4 0]/\J.ok (ms0 c il O n).L)/\Ent W0 own' (J.O (ms0 c il O n)++own):=by
 refine sH [2] ?_;have H:=fun own=>q1v W0 own c
 rw[hc] at H;obtain⟨N,nf,ff,hN,G⟩:=qlk hc;have W:=fun(own':Own)=>qgs (W0:=W0) (own:=own') hN G
 have Y:ms0 c il O n=⟨il++List.replicate N 0,List.replicate O 0,0,0,0,List.replicate n 0,hd0 c,nx0 c⟩:=by unfold ms0;rw[G,zF]
 rw[Y];have aw:=hN.nl;have T:=hN.le;clear Y hN G;generalize nx0 c=F at*;have aj:(hd0 c).length=4:=rfl;generalize hd0 c=E at*;obtain⟨w,o,bs,c0,c1,c2,c3,r,wr,al,fr,ck,st⟩:=c;dsimp only at au hO;dsimp only[Cfg.v,Cfg.cs] at H W ⊢;subst hO
 repeat'((try conv=>whnf);first|refine fH ?_|refine fD ?_|refine fG ?_|refine fK ?_|refine qg fun b3 hb3=>?_|(apply qe;first|refine qd (H _) ?_|refine qk (W _) fun y v hv=>?_;obtain⟨hb,L⟩:=y;subst hv)|refine fO ?_|refine fA ?_|refine fL ?_)
 refine qi5 (JE ⟨ia,il,ic,b3,hb,L,O,n,N⟩ (q0S q06 45 hb E::q0S q06 45 L F::(b3,fun z=>z=Obj.cells #[j4 w,j4 O,j4 bs,j4 c0,j4 c1,j4 c2,j4 c3,j4 r,j4 wr,j4 al,j4 fr,j4 ck, .bool st] 30)::own))
  ⟨⟨0,[],none,0,[],none,0,[],fun _=>0⟩,⟨fun _ _ _ h=>(by cases h),rfl,rfl,rfl,rfl,rfl,fun _ _ h=>(by cases h),fun h=>(by cases h),fun h=>(by cases h),fun h=>(by cases h),List.Perm.refl _⟩⟩ ?_ ?_
 ·rintro l f own' ⟨X,hJ⟩ A;have C:∀j,j<29->l j=true:=A
  clear A;have hB:=hJ.b5 (C 5 Yc);have V:(il++List.replicate N (0:Int)).length=il.length+N:=by rw[z8,zD]
  obtain⟨hm1,av⟩:=hJ.m (C 0 Yc)
  rcases hB.how with ⟨e, -⟩|⟨b0,rest,ha,hD,hlen,hle⟩
  ·exact absurd (List.append_eq_nil_iff.1 e).1 U
  have I:(il++List.replicate N (0:Int)).length*1+rest.length=X.c5*1:=hlen;rw[V] at I;have ae:=hJ.v 27 Yc Yc (C 27 Yc);have af:=hJ.v 28 Yc Yc (C 28 Yc);have hT:pcN ⟨ia,il,ic,b3,hb,L,O,n,N⟩ X l= [(X.mp,q2H X.ml)]++(X.D5++([(X.e 9,rpP O)]++([(X.e 11,rpP 1)]++([(X.e 13,rpP 1)]++([(X.e 15,rpP 1)]++([(X.e 18,rpP n)]++ [(X.e 26,mmP X.mp)])))))):=by
   unfold pcN dP;rw[C 0 Yc,C 5 Yc,C 9 Yc,C 11 Yc,C 13 Yc,C 15 Yc,C 18 Yc,C 26 Yc];rfl
  have hE:=Ent.of_perm (W0:=W0) hJ.o;rw[hT,hD] at hE;refine qlP (W0:=W0) (K:=fun v own'=>∃J:MH,(v= .tuple #[ptr J.mb,j4 0]/\J.ok (⟨il++List.replicate N 0,List.replicate O 0,0,0,0,List.replicate n 0,E,F⟩:MS).L)/\Ent W0 own' (J.O (⟨il++List.replicate N 0,List.replicate O 0,0,0,0,List.replicate n 0,E,F⟩:MS)++own)) ae af ?_;refine⟨⟨X.e 26,X.mp,fun k=>([b0,X.e 9,X.e 11,X.e 13,X.e 15,X.e 18,hb,L]:jh).getD k 0,fun k=>if k=0 then rest else [],fun k=>([il.length+N,O,1,1,1,n,4,N]:jh).getD k 0,X.ml⟩,⟨rfl,?_⟩,?_⟩
  ·refine⟨fun k hk=>?_,fun k hk=>?_,rfl,fun k hk=>?_⟩
   ·rw[av k hk,if_pos (C _ (by revert k;decide))];have P:k=0\/k=1\/k=2\/k=3\/k=4\/k=5\/k=6\/k=7:=Yb
    rcases P with rfl|rfl|rfl|rfl|rfl|rfl|rfl|rfl
    ·show some (some (Value.slice X.a5 (il.length+N) X.c5))=some (some (Value.slice (some ⟨b0,0,none⟩) (il.length+N) (il.length+N+rest.length)));rw[ha,show X.c5=il.length+N+rest.length by omega]
    all_goals rfl
   ·have P:k=0\/k=1\/k=2\/k=3\/k=4\/k=5\/k=6\/k=7:=Yb
    rcases P with rfl|rfl|rfl|rfl|rfl|rfl|rfl|rfl <;>first|rfl|exact zD|exact V|exact aj|exact aw
   ·have P:k=0\/k=1\/k=2\/k=3\/k=4\/k=5\/k=6\/k=7:=Yb
    rcases P with rfl|rfl|rfl|rfl|rfl|rfl|rfl|rfl
    ·show il.length+N<=1000000;omega
    ·show O<=1000000;omega
    ·show 1<=1000000;decide
    ·show 1<=1000000;decide
    ·show 1<=1000000;decide
    ·show n<=1000000;omega
    ·show 4<=1000000;decide
    ·show N<=1000000;omega
  ·refine hE.trans ?_;unfold rpP;rw[q9c,q9c,q9c,qa1,qhB,qhB];show Ent W0 _ ((X.e 26,mmP X.mp)::(X.mp,q2H X.ml)::(b0,j7 ((il++List.replicate N (0:Int)).map uv++rest).toArray 45)::(X.e 9,j7 ((List.replicate O (0:Int)).map uv++ []).toArray 45)::(X.e 11,j7 ((List.replicate 1 (0:Int)).map uv++ []).toArray 45)::(X.e 13,j7 ((List.replicate 1 (0:Int)).map uv++ []).toArray 45)::(X.e 15,j7 ((List.replicate 1 (0:Int)).map uv++ []).toArray 45)::(X.e 18,j7 ((List.replicate n (0:Int)).map uv++ []).toArray 45)::(hb,j7 (E.map uv++ []).toArray 45)::(L,j7 (F.map uv++ []).toArray 45)::own);simp only[zk,zj];exact sbE
 ·exact⟨fun l f own' A _ ⟨X,hJ⟩=>⟨fun b _=>⟨_,hJ.mkm A b⟩⟩,
  fun l f own' _ _ ⟨X,hJ⟩=>hJ.xmov 1 2 hJ.f2 Yc rfl (fun q d e=>absurd e ((by decide:∀q∈clN,q.1≠1) q d)),
  fun l f own' A hd ⟨X,hJ⟩=>by
   change q0g Tryz.prog W0 own' _ [f 33] _
   rw[show f 33= .slice ia il.length ic from (hJ.v 1 Yc Yc (hd 1 Yc))];refine qcv (qW (W0:=W0) (own:=own') (cap:=ic) (hI.ent (hJ.ent.trans (Ent.of_sub ((zT _ _).trans ((zT _ _).trans (zT _ _)))))) Yb) rfl rfl fun y v hv=>?_
   obtain⟨a,c,D⟩:=y;obtain⟨rfl,hB⟩:=hv;exact⟨_,hJ.cln A hB⟩,
  fun l f own' _ _ ⟨X,hJ⟩=>hJ.xmov 3 10 hJ.f10 Yc rfl (fun q d e=>absurd e ((by decide:∀q∈clN,q.1≠3) q d)),
  fun l f own' _ hd ⟨X,hJ⟩=>by
   unfold XO;dsimp only[ev];rw[show f 35=zsl L N from (hJ.v 3 Yc Yc (hd 3 Yc))];exact⟨X,hJ.keep (i:=4) Yc Yc Yc rfl (fun q d e=>absurd e ((by decide:∀q∈clN,q.1≠4) q d)) Yc Yc⟩,
  fun l f own' A hd ⟨X,hJ⟩=>by
   have Z:=hd 2 Yc;unfold XO;dsimp only[ev];rw[show f 34= .slice X.a1 il.length X.c1 from (hJ.v 2 Yc Yc Z),show f 36= j4 (N:Int) from (hJ.v 4 Yc Yc (hd 4 Yc))]
   by_cases R:N=0
   ·exact⟨.inl (.inl ⟨by rw[R];rfl,(hJ.b Z A).le,hJ.app0 Z A R⟩)⟩
   ·exact⟨.inl (.inr ⟨N,rfl,Yb,Yb,hJ.app Z A U ⟨aq,T⟩⟩)⟩,
  fun l f own' _ hd ⟨X,hJ⟩=>hJ.xmup 0 37 1 Yc Yc (hJ.v 5 Yc Yc (hd 5 Yc)) (hJ.v 0 Yc Yc (hd 0 Yc)) (hd 0 Yc) (hd 5 Yc),
  fun l f own' _ _ ⟨X,hJ⟩=>by
   unfold XO;dsimp only[ev];rw[hJ.f3];exact⟨X,hJ.keep (i:=7) Yc Yc Yc rfl (fun q d e=>absurd e ((by decide:∀q∈clN,q.1≠7) q d)) Yc Yc⟩,
  fun l f own' _ hd ⟨X,hJ⟩=>by
   unfold XO;dsimp only[ev];rw[show f 38= .pointer (some ⟨b3,0+1,none⟩) from (hJ.v 7 Yc Yc (hd 7 Yc))];exact⟨j4 O,q0E (hJ.o.mem_iff.2 (zz _ (zr _ (zr _ zp)))) rfl,X,hJ.keep (i:=8) Yc Yc Yc rfl (fun q d e=>absurd e ((by decide:∀q∈clN,q.1≠8) q d)) Yc Yc⟩,
  fun l f own' A hd ⟨X,hJ⟩=>hJ.xmk 9 O _ _ (hJ.v 8 Yc Yc (hd 8 Yc)) (hJ.v 8 Yc Yc (hd 8 Yc)) Yb A Yc ⟨fun _=>rfl,fun h=>by omega,fun h=>by omega⟩ (fun q d e=>absurd e ((by decide:∀q∈clN,q.1≠9) q d)),
  fun l f own' _ hd ⟨X,hJ⟩=>hJ.xmup 1 40 2 Yc Yc (hJ.v 9 Yc Yc (hd 9 Yc)) (hJ.v 0 Yc Yc (hd 0 Yc)) (hd 0 Yc) (hd 9 Yc),
  fun l f own' A _ ⟨X,hJ⟩=>hJ.xmk 11 1 _ _ rfl rfl Yc A Yc ⟨fun h=>by omega,fun _=>rfl,fun h=>by omega⟩ (fun q d e=>absurd e ((by decide:∀q∈clN,q.1≠11) q d)),
  fun l f own' _ hd ⟨X,hJ⟩=>hJ.xmup 2 41 3 Yc Yc (hJ.v 11 Yc Yc (hd 11 Yc)) (hJ.v 0 Yc Yc (hd 0 Yc)) (hd 0 Yc) (hd 11 Yc),
  fun l f own' A _ ⟨X,hJ⟩=>hJ.xmk 13 1 _ _ rfl rfl Yc A Yc ⟨fun h=>by omega,fun _=>rfl,fun h=>by omega⟩ (fun q d e=>absurd e ((by decide:∀q∈clN,q.1≠13) q d)),
  fun l f own' _ hd ⟨X,hJ⟩=>hJ.xmup 3 42 4 Yc Yc (hJ.v 13 Yc Yc (hd 13 Yc)) (hJ.v 0 Yc Yc (hd 0 Yc)) (hd 0 Yc) (hd 13 Yc),
  fun l f own' A _ ⟨X,hJ⟩=>hJ.xmk 15 1 _ _ rfl rfl Yc A Yc ⟨fun h=>by omega,fun _=>rfl,fun h=>by omega⟩ (fun q d e=>absurd e ((by decide:∀q∈clN,q.1≠15) q d)),
  fun l f own' _ hd ⟨X,hJ⟩=>hJ.xmup 4 43 5 Yc Yc (hJ.v 15 Yc Yc (hd 15 Yc)) (hJ.v 0 Yc Yc (hd 0 Yc)) (hd 0 Yc) (hd 15 Yc),
  fun l f own' _ _ ⟨X,hJ⟩=>hJ.xmov 17 1 hJ.f1 Yc rfl (fun q d e=>absurd e ((by decide:∀q∈clN,q.1≠17) q d)),
  fun l f own' A hd ⟨X,hJ⟩=>hJ.xmk 18 n _ _ (hJ.v 17 Yc Yc (hd 17 Yc)) (hJ.v 17 Yc Yc (hd 17 Yc)) Yb A Yc ⟨fun h=>by omega,fun h=>by omega,fun _=>rfl⟩ (fun q d e=>absurd e ((by decide:∀q∈clN,q.1≠18) q d)),
  fun l f own' _ hd ⟨X,hJ⟩=>hJ.xmup 5 45 6 Yc Yc (hJ.v 18 Yc Yc (hd 18 Yc)) (hJ.v 0 Yc Yc (hd 0 Yc)) (hd 0 Yc) (hd 18 Yc),
  fun l f own' _ _ ⟨X,hJ⟩=>hJ.xmov 20 9 hJ.f9 Yc rfl (fun q d e=>absurd e ((by decide:∀q∈clN,q.1≠20) q d)),
  fun l f own' _ hd ⟨X,hJ⟩=>hJ.xmup 6 46 7 Yc Yc (hJ.v 20 Yc Yc (hd 20 Yc)) (hJ.v 0 Yc Yc (hd 0 Yc)) (hd 0 Yc) (hd 20 Yc),
  fun l f own' _ _ ⟨X,hJ⟩=>hJ.xmov 22 10 hJ.f10 Yc rfl (fun q d e=>absurd e ((by decide:∀q∈clN,q.1≠22) q d)),
  fun l f own' _ hd ⟨X,hJ⟩=>hJ.xmup 7 47 8 Yc Yc (hJ.v 22 Yc Yc (hd 22 Yc)) (hJ.v 0 Yc Yc (hd 0 Yc)) (hd 0 Yc) (hd 22 Yc),
  fun l f own' _ hd ⟨X,hJ⟩=>hJ.xmov 24 32 (hJ.v 0 Yc Yc (hd 0 Yc)) Yc rfl (fun q d e=>by have:=(by decide:∀q∈clN,q.1=24->q.2=0) q d e;rw[this];exact hd _ Yc),
  fun l f own' _ hd ⟨X,hJ⟩=>by
   unfold XO;dsimp only;simp only[q22,qc7,ev,show f 48= .map (some X.mp) from (hJ.v 24 Yc Yc (hd 24 Yc))];exact⟨X,hJ.keep (i:=25) Yc Yc Yc rfl (fun q d e=>by have:=(by decide:∀q∈clN,q.1=25->q.2=24) q d e;rw[this];exact hd _ Yc) Yc Yc⟩,
  fun l f own' A hd ⟨X,hJ⟩=>by
   unfold XO;dsimp only[ev];rw[show f 49= .agg #[.map (some X.mp)] from (hJ.v 25 Yc Yc (hd 25 Yc))];exact⟨fun b _ _=>⟨_,hJ.make (i:=26) b (mmP X.mp) A Yc rfl (fun q d e=>by have:=(by decide:∀q∈clN,q.1=26->q.2=25) q d e;rw[this];exact hd _ Yc) ⟨fun h=>by omega,fun h=>by omega,fun h=>by omega,fun _=>rfl⟩⟩⟩,
  fun l f own' _ hd ⟨X,hJ⟩=>hJ.xmov 27 50 (hJ.v 26 Yc Yc (hd 26 Yc)) Yc rfl (fun q d e=>by have:=(by decide:∀q∈clN,q.1=27->q.2=26) q d e;rw[this];exact hd _ Yc),
  fun l f own' _ _ ⟨X,hJ⟩=>by
   unfold XO;dsimp only[ev];exact⟨X,hJ.keep (i:=28) Yc Yc Yc rfl (fun q d e=>absurd e ((by decide:∀q∈clN,q.1≠28) q d)) Yc Yc⟩,
  trivial⟩
end
open Go
theorem q9E{c:Cfg}{n:Nat}{y:TW}:∀(L:List TW) (k:Nat),TsO c n k (L++ [y])=TsO c n k L++ThO c n (k+L.length) y
 | [],k=>by
  show ThO c n k y++ []= []++ThO c n (k+0) y;rw[zC,zj,ZI]
 |z::L,k=>by
  rw[zk,TsO,TsO,q9E L (k+1),zd,zu,show k+1+L.length=k+(L.length+1) by omega]
theorem qhS{α β γ:Type}{L:List α}{l:List β}{f:α->γ}{g:β->γ}(w:L.length=l.length)(h:∀(t:Nat) (y:α),L[t]? =some y->∃z,l[t]? =some z/\f y=g z):L.map f=l.map g:=by
 refine Z8 fun j=>?_
 rw[zI,zI];cases e:L[j]? with
 |none=>rw[zR (by rw[<-w];exact List.getElem?_eq_none_iff.1 e)];rfl
 |some y=>obtain⟨z,d,o⟩:=h j y e;rw[d];exact congrArg some o
section
variable{W0:World}{own:Own}{c:Cfg}
theorem qjX{ia pa ka:j8}{il ks:jd}{ic pc kc O:Nat}{ps:ji}(hF:qE W0)(af:csM c il.length ps ks=(0,0,0))(hc:qI c=0)(hI:RdE q06 1 W0 own ia il)(au:(il.length:Int)=c.words)(aj:il≠ [])(aq:il.length<=1000)(hO:c.orecs=(O:Int))(Y:O<=1000)
  (Z:RdE PH.enc 1 W0 own pa ps) (hQ:∀h∈ps,RdE Ins.enc 5 W0 own h.a h.p) (hK:RdE qw 1 W0 own ka ks) (aw:1<=ps.length) (hn:ps.length<=16) (w:∀h∈ps,qB h.p=(0,0)) (C:∀h∈ps,h.p.length<=100000):
  jk W0 24 [q9e c ia il.length ic pa ps.length pc ka ks.length kc] own fun v own'=>∃M:MQ,(v= .tuple #[ptr M.b,j4 0,j4 0,j4 0]/\M.ok W0 c ps.length (ms0 c il O ps.length) [] []/\M.L.map TW.p=ps.map PH.p/\M.L.map TW.x=ps.map fun h=>q3f h.p)/\Ent W0 own' (M.O c ps.length (ms0 c il O ps.length) [] own):=by
 refine sH [] ?_;have o:=fun(own':Own) (m:qx own' own)=>qmz (c:=c) (ia:=ia) (il:=il.length) (ic:=ic) (pc:=pc) (kc:=kc) (own:=own') hF Z.up (fun h hh=>(hQ h hh).up) hK.up
 rw[af] at o;have F:=fun(own':Own) (m:qx own' own)=>qjQ (W0:=W0) (own:=own') (ic:=ic) hc hI.up au aj aq hO Y aw hn
 have I:=fun(own':Own) (t:Nat) (a:j8) (cap:Nat) (p:jf) (w:qB p=(0,0)) (C:p.length<=100000) (ht:t<ps.length) (hR:RdE Ins.enc 5 W0 own' a p)=>qkn (W0:=W0) (own:=own') (t:=t) (n:=ps.length) (cap:=cap) hF hc w ht hn hR C
 dsimp only[Cfg.v,Cfg.cs] at F I;dsimp only[qoD] at o
 repeat'((try conv=>whnf);first|refine fD ?_|refine qg fun bk hbk=>?_|(apply qe;first|refine qd (o _ Ye) ?_|refine qk (F _ Ye) fun mh v hv=>?_;obtain⟨rfl,av⟩:=hv)|refine fO ?_|refine fA ?_|refine fL ?_|refine fQ ?_|refine fN ?_)
 rename_i b1 hb1;refine qQ (σ:=Nat×List TW×j8×Nat×Own) (fun s=> [(40,j4 s.1)]) (fun s=>(bk,fun z=>z=Obj.cells #[ptr mh.mb, .slice s.2.2.1 (s.2.1.map fun y=>y.h.b).length s.2.2.2.1,j6,j6] 105 (0,0))::
   (b1,fun z=>z=Obj.cells #[j4 c.words,j4 c.orecs,j4 c.base,j4 c.c0,j4 c.c1,j4 c.c2,j4 c.c3,j4 c.reads,j4 c.writes,j4 c.allocs,j4 c.frees,j4 c.clock, .bool c.strong, .slice ia il.length ic, .slice pa ps.length pc, .slice ka ks.length kc] 34 (0,0))::
   (mh.O (ms0 c il O ps.length)++(s.2.2.2.2++(TsO c ps.length 0 s.2.1++own))))
  (fun s=>s.1<=ps.length/\s.2.1.length=s.1/\qq qf9 112 1 s.2.2.1 s.2.2.2.1 (s.2.1.map fun y=>y.h.b) s.2.2.2.2/\∀(t:Nat) (y:TW),s.2.1[t]? =some y->y.ok W0 c ps.length t/\∃h,ps[t]? =some h/\y.x=q3f h.p/\y.p=h.p) (fun s=>ps.length-s.1) (0,[],none,0,[]) ⟨zl _,rfl,qq.nil,fun _ _ h=>(by simp at h)⟩ (eF) (by dsimp only[TsO];simp only[zj];exact sbE) rfl ?_
 rintro⟨i,L,ta,tc,tD⟩ junk ⟨hi,d,j,e⟩;dsimp only at hi d j e ⊢
 by_cases A:i<ps.length
 ·obtain⟨x,U⟩:∃x,ps[i]? =some x:=⟨_,z6 A⟩
  have G:(i:Int)<ps.length:=Yb;have D:=zh U;have J:=hQ x D;have K:=w x D;have P:=C x D;obtain⟨xa,xc,xp⟩:=x;dsimp only at J K P;have az:=fun(own':Own) (m:qx own' own)=>I own' i xa xc xp K P A J.up
  have hml:(L.map fun y=>y.h.b).length<=16:=by rw[zi];omega
  repeat'((try conv=>whnf);first|refine fF ?_|refine qg fun be hbe=>?_|apply q0f (enc:=qf9) (T:=112) y.h.b j;exact rfl;exact rfl;omega;exact rfl;exact rfl;omega;intro a5 c5 D5 ae|apply gLd;refine q0n Z U rfl ?_|(apply qL;first|refine ixE Z U ?_ ?_;(first|rfl|omega))|(apply qe;first|refine qk (az _ Ye) fun y v hv=>?_;obtain⟨rfl,aA,aB,hyp⟩:=hv)|refine fB ?_|refine fO ?_|refine fA ?_|refine fQ ?_|refine fN ?_)
  all_goals
   have H:(L.map fun y=>y.h.b)++ [y.h.b]=(L++ [y]).map fun y=>y.h.b:=by rw[zv];rfl
   refine⟨(i+1,L++ [y],a5,c5,D5),⟨A,by dsimp only;rw[z8,d];rfl,by dsimp only;rw[<-H];exact ae,fun t z E=>?_⟩,by simp only;omega,(eF),?_⟩
   ·dsimp only at E
    by_cases ht:t<L.length
    ·rw[zB ht] at E;exact e t z E
    ·have ay:t=L.length:=by
      have:=(z7.1 E).1;rw[z8,zA] at this;omega
     subst ay;rw[zJ (zN _),ZC] at E;cases E;rw[d];exact⟨aA,_,U,aB,hyp⟩
   ·dsimp only;rw[q9E,d,zy i,<-H,z8];simp only[zd];exact sbE
 ·obtain rfl:i=ps.length:=Yb;have G:¬(ps.length:Int)<ps.length:=Yb
  repeat'((try conv=>whnf);first|refine fG ?_)
  all_goals exact⟨⟨bk,mh,ta,tc,tD,none,0,[],none,0,[],[],[],L⟩,⟨rfl,⟨av,j.rd,qq.nil,qq.nil,fun _ h=>(by cases h),fun t y R=>(e t y R).1,zN _,rfl⟩,qhS d fun t y R=>by obtain⟨_,h,V,_,W⟩:=e t y R;exact⟨h,V,W⟩,qhS d fun t y R=>by obtain⟨_,h,V,W,_⟩:=e t y R;exact⟨h,V,W⟩⟩,by dsimp only[MQ.O];simp only[zj];exact sbE⟩
end
open Go
section
variable{W0:World}{own:Own}{c:Cfg}{t n:Nat}{p:jf}{h:TH}{x:GT}
theorem q76{a:j8}{l:List StM}{cap:Nat}(e:RdE StM.enc 9 W0 own a l)(hl:l.length<=1000000000):
  jk W0 33 [.slice a l.length cap] own fun v own'=>∃s:j8×Nat×Own,(v= .slice s.1 l.length s.2.1/\qq StM.enc 111 9 s.1 s.2.1 l s.2.2)/\Ent W0 own' (s.2.2++own):=by
 refine sH [] ?_;cases a with
 |none=>
  have j:l= []:=by
   by_cases h:l= []
   ·exact h
   ·have:=e.isS h;cases this
  subst j
  repeat'((try conv=>whnf);first|refine fE ?_)
  exact⟨(none,0,[]),⟨rfl,qq.nil⟩,(eC)⟩
 |some a=>
  repeat'((try conv=>whnf);first|refine fD ?_|refine q6C (enc:=StM.enc) (l:= []) (l2:=l) qq.nil (At.head (D:= []) (r:=_)) e.up rfl rfl Yb (fun _ _=>rfl) (fun _=>by simp;omega) fun a1 c1 D1 d=>?_;rw[zE,zy l.length];apply Stop.h|refine qg fun bk hbk=>?_)
  refine Stop.mk ?_;rw[zj] at d;exact⟨(a1,c1,D1),⟨rfl,d⟩,Ent.of_sub ((zT _ own).append_left D1)⟩
theorem qeD [mm:qy h.b (thP c t n p h x) own]:jl W0 34 [ptr h.b] own (.agg x.th.enc.toArray):=by
 refine qi (sH [] ?_);have y:∀{own':Own} {K:jg->Prop},Ent W0 own' own->K x.th.enc.toArray->LdN W0 own' ⟨h.b,0+32,none⟩ 11 K:=fun he o=>by
  obtain⟨vs,d,e,j⟩:=q1A (W0:=W0) (own:=own) (n:=11) (off:=0+32) (K:=fun v=>v=x.th.enc.toArray) x.th.enc mm.h rfl rfl rfl;subst j;exact⟨_,d,fun w hw=>e w (he w hw),o⟩
 repeat'((try conv=>whnf);first|refine fD ?_|refine y ?_ ?_;exact sbE|refine fL ?_|refine fM ?_|refine qg fun bk hbk=>?_)
 all_goals exact⟨rfl,(eC)⟩
theorem qko [mm:qy h.b (thP c t n p h x) own] [me:qx own h.oD](z:qq ObM.enc 77 3 h.oa h.oc x.obs h.oD)(hl:x.obs.length<=1000000):jk W0 35 [ptr h.b] own fun v own'=>
  ∃s:j8×Nat×Own,(v= .slice s.1 x.obs.length s.2.1/\qq ObM.enc 77 3 s.1 s.2.1 x.obs s.2.2)/\Ent W0 own' (s.2.2++own):=by
 refine sH [] ?_;have w:Cl W0 own h.b 44 (.slice h.oa x.obs.length h.oc):=qj mm rfl;have e:=q4n (W0:=W0) (own:=own) (cap:=h.oc) ((z.rd (W0:=W0)).up) Yb
 repeat'((try conv=>whnf);first|refine fD ?_|refine q0k w ?_|(apply qe;first|refine qk e fun y v A=>?_;obtain⟨a3,o,j⟩:=y;obtain⟨rfl,d⟩:=A;dsimp only at d))
 all_goals exact⟨(a3,o,j),⟨rfl,d⟩,sbE⟩
end
open Go
structure OB where
 a:j8
 c:Nat
 l:List ObM
 D:Own
abbrev OB.enc(o:OB):je:= [.slice o.a o.l.length o.c]
abbrev OB.ok(o:OB):Prop:=qq ObM.enc 77 3 o.a o.c o.l o.D
def qfe(l:List OB):Own:=(l.map OB.D).flatten
theorem qdr{l:List OB}{o:OB}:qfe (l++ [o])=qfe l++o.D:=by simp[qfe]
theorem q35{c:Cfg}{n:Nat}{L:List TW}{t:Nat}{y:TW}(h:L[t]? =some y):(y.h.b,thP c t n y.p y.h y.x)∈TsO c n 0 L:=by
 rw[q2T L 0 t y h,zy];exact zz _ (zq _ zp)
theorem qis{W0:World}{c:Cfg}{n:Nat}{L:List TW}{t:Nat}{y:TW}(h:L[t]? =some y):Ent W0 (TsO c n 0 L) y.h.oD:=by
 rw[q2T L 0 t y h,zy,ThO];exact Ent.right.trans (Ent.left.trans (Ent.of_sub ((List.sublist_append_left _ _).trans ((Zl _ _).trans ((Zl _ _).trans (zT _ _))))))
structure RS4 where
 cs:je
 ta:j8
 tc:Nat
 tD:Own
 sa:j8
 sc:Nat
 sD:Own
 ea:j8
 ec:Nat
 oa:j8
 oc:Nat
 oD:Own
 ol:List OB
 da:Own
 el:List EH
 eD:Own
 gD:Own
abbrev RS4.O(r:RS4)(Q:Own):Own:=r.tD++(r.sD++(r.oD++(qfe r.ol++(r.da++(r.eD++(r.gD++Q))))))
structure RS4.ok(W0:World)(r:RS4)(L:List TW)(m:MS)(S:List StM)(es:jj):Prop where
 sh:Sh8 r.cs
 dd:DaA W0 r.da m.d (r.cs.getD 0 (.bool false))
 ht:qq Thr.enc 88 11 r.ta r.tc (L.map fun y=>y.x.th) r.tD
 hs:qq StM.enc 111 9 r.sa r.sc S r.sD
 ho:qq OB.enc 75 1 r.oa r.oc r.ol r.oD
 ob:r.ol.map OB.l=L.map fun y=>y.x.obs
 hv:∀o∈r.ol,o.ok
 he:qq EH.enc 83 6 r.ea r.ec r.el r.eD
 ev:∀e∈r.el,RdE qw 1 W0 r.gD e.ra e.rl/\RdE qw 1 W0 r.gD e.wa e.wl
 em:r.el.map EH.m=es
abbrev RS4.vs(r:RS4)(L:List TW)(S:List StM):je:=r.cs++ [.slice r.ta (L.map fun y=>y.x.th).length r.tc, .slice r.sa S.length r.sc, .slice r.ea r.el.length r.ec, .slice r.oa r.ol.length r.oc]
section
variable{W0:World}{own Q:Own}{c:Cfg}{n:Nat}{M:MQ}{m:MS}{S:List StM}{ev:jj}
theorem q8c(E:M.ok W0 c n m S ev)(hn:M.L.length<=16)(hS:S.length<=1000)(aK:∀y∈M.L,y.x.obs.length<=100000)(Q:Own):jk W0 19 [ptr M.b] (M.O c n m S Q) fun v own'=>
  ∃r:RS4,(v= .agg (r.vs M.L S).toArray/\r.ok W0 M.L m S ev)/\Ent W0 own' (r.O (M.O c n m S Q)):=by
 refine sH [3,5,7,9,13,15,17,1,12,19,1,22,23,26,28,0,26,22,23,28,0,1,19,1,12,1,22,23,26,28,0,26,22,23,28,0,26,12,22,23,28,0,26,1,12,19,22,23,28,0,19,12,22,23,28,0,3,5,7,9,12,14,15,18,0,3,7,1,5,10,12,14,15,18,0,10,5,12,14,15,18,0,3,5,9,1,8,11,15,14,18,19,22,0,11,8,15,14,18,19,22,0] ?_;have aI:∀g,g=2\/g=3\/g=4->0<M.mh.n g:=fun g hg=>by
  rw[<-E.hM.ln g Yb]
  rcases hg with rfl|rfl|rfl <;>exact Nat.zero_lt_one
 have aJ:=fun Q=>qgp (W0:=W0) E.hM aI Q
 have aG:=fun(own':Own) (m:qx own' M.sD)=>q76 (W0:=W0) (own:=own') (cap:=M.sc) ((E.hs.rd (W0:=W0)).up) Yb
 have aw:=E.ht;have hle:=E.le
 repeat'((try conv=>whnf);first|refine fD ?_|(apply qe;first|refine q4x (D:=M.mh.O m) (aJ _) fun cs v G=>?_;obtain⟨cs,H⟩:=cs;obtain⟨rfl,⟨a1,a2,a3,a4,a5,n1,c1,n2,c2,n3,c3,n4,c4,n5,c5,x1,x2,x3,rfl⟩,Z⟩:=G;dsimp only at Z|refine qk (aG _ Ye) fun y v G=>?_;obtain⟨sa,sc,sD⟩:=y;obtain⟨rfl,hB⟩:=G;dsimp only at hB)|refine fA ?_|refine fM ?_|refine qg fun bk hbk=>?_|refine q1k.mk ?_ ?_)
 all_goals
  rename_i b2 hb2;refine qQ (σ:=Nat×(j8×Nat×Own)×(j8×Nat×Own)×List OB) (fun s=> [(27,j4 s.1)]) (fun s=>(b2,fun z=>z=Obj.cells #[j6,j6,j5 0,j5 0,j5 0,j6,j6,j6,j6,j6,j6,j6] 53 (0,0))::
    (bk,fun z=>z=Obj.cells #[.slice a1 n1 c1, .slice a2 n2 c2,uv x1,uv x2,uv x3, .slice a3 n3 c3, .slice a4 n4 c4, .slice a5 n5 c5, .slice s.2.1.1 ((M.L.take s.1).map fun y=>y.x.th).length s.2.1.2.1, .slice sa S.length sc,j6, .slice s.2.2.1.1 s.2.2.2.length s.2.2.1.2.1] 53 (0,0))::
    (sD++(s.2.1.2.2++(s.2.2.1.2.2++(qfe s.2.2.2++(H++M.O c n m S Q))))))
   (fun s=>s.1<=M.L.length/\qq Thr.enc 88 11 s.2.1.1 s.2.1.2.1 ((M.L.take s.1).map fun y=>y.x.th) s.2.1.2.2/\qq OB.enc 75 1 s.2.2.1.1 s.2.2.1.2.1 s.2.2.2 s.2.2.1.2.2/\s.2.2.2.map OB.l=((M.L.take s.1).map fun y=>y.x.obs)/\∀o∈s.2.2.2,o.ok)
   (fun s=>M.L.length-s.1) (0,(none,0,[]),(none,0,[]),[]) ⟨zl _,qq.nil,qq.nil,rfl,fun _ h=>(by cases h)⟩ (eF) (by dsimp only[qfe,List.map_nil,List.flatten_nil];simp only[Zx,yD,zj,zd];exact sbE) rfl ?_
  rintro⟨i,⟨aA,aB,az⟩,⟨oa,oc,oD⟩,ol⟩ junk ⟨hi,C,J,A,L⟩;dsimp only at hi C J A L ⊢;have hll:(M.L.map fun y=>y.h.b).length=M.L.length:=zi ..;have aN:((M.L.take i).map fun y=>y.x.th).length=i:=by rw[zi,zM];omega
  have hol:ol.length=i:=by have:=congrArg List.length A;rw[zi,zi,zM] at this;omega
  by_cases au:i<M.L.length
  ·obtain⟨y,O⟩:∃y,M.L[i]? =some y:=⟨_,z6 au⟩
   have av:(i:Int)<(M.L.map fun y=>y.h.b).length:=Yb;have hb:=qhl O;have aO:=zh O;have aP:=(E.hL i y O).ok;have hyl:=aK y aO;have hm1:qy y.h.b (thP c i n y.p y.h y.x) (TsO c n 0 M.L):=⟨q35 O⟩
   have hm2:qx (TsO c n 0 M.L) y.h.oD:=⟨fun W=>qis O⟩
   have aM:=fun(own':Own) (mm:qy y.h.b (thP c i n y.p y.h y.x) own')=>qeD (W0:=W0) (own:=own') (c:=c) (t:=i) (n:=n) (p:=y.p) (h:=y.h) (x:=y.x)
   have aL:=fun(own':Own) (mm:qy y.h.b (thP c i n y.p y.h y.x) own') (me:qx own' y.h.oD)=>qko (W0:=W0) (own:=own') (c:=c) (t:=i) (n:=n) (p:=y.p) (h:=y.h) (x:=y.x) aP.ho Yb
   have F:(M.L.take (i+1)).map (fun y=>y.x.th)=((M.L.take i).map fun y=>y.x.th)++ [y.x.th]:=by rw[zY,O,zv];rfl
   have ay:(M.L.take (i+1)).map (fun y=>y.x.obs)=((M.L.take i).map fun y=>y.x.obs)++ [y.x.obs]:=by rw[zY,O,zv];rfl
   repeat'((try conv=>whnf);first|refine fF ?_|refine qg fun be aE=>?_|apply q0f (enc:=Thr.enc) (T:=88) y.x.th C;exact rfl;exact rfl;omega;exact rfl;exact rfl;omega;intro a6 c6 D6 K|apply q0f (enc:=OB.enc) (T:=75) (⟨a8,c8,y.x.obs,D8⟩:OB) J;exact rfl;exact rfl;omega;exact rfl;exact rfl;omega;intro a7 c7 D7 aC|apply gLd;refine q0n aw hb rfl ?_|(apply qL;first|refine ixE aw hb ?_ ?_;(first|rfl|omega))|(apply qe;first|refine qk (aL _ Ye Ye) fun y v G=>?_;obtain⟨a8,c8,D8⟩:=y;obtain⟨rfl,U⟩:=G;dsimp only at U)|apply qz;refine qm (fun ex=>aM _ Ye) ?_|refine fB ?_|refine fA ?_|refine fN ?_|refine q1k.mk ?_ ?_)
   all_goals
    refine⟨(i+1,(a6,c6,D6),(a7,c7,D7),ol++ [⟨a8,c8,y.x.obs,D8⟩]),⟨au,by dsimp only;rw[F];exact K,aC,by dsimp only;rw[zv,A,ay];rfl,fun o R=>?_⟩,by simp only;omega,(eF),?_⟩
    ·rcases zw.1 R with R|R
     ·exact L o R
     ·rw[zf] at R;subst R;exact U
    ·dsimp only;rw[F,z8,qdr,z8];simp only[zd];exact sbE
  ·obtain rfl:i=M.L.length:=Yb;have av:¬(M.L.length:Int)<(M.L.map fun y=>y.h.b).length:=Yb;rw[Z3] at C A aN ⊢
   repeat'((try conv=>whnf);first|refine fG ?_|refine fA ?_)
   refine qQ (σ:=Nat×j8×Nat×Own×List EH×Own) (fun s=> [(51,j4 s.1)]) (fun s=>(b2,fun z=>z=Obj.cells #[j6,j6,j5 0,j5 0,j5 0,j6,j6,j6,j6,j6,j6,j6] 53 (0,0))::
     (bk,fun z=>z=Obj.cells #[.slice a1 n1 c1, .slice a2 n2 c2,uv x1,uv x2,uv x3, .slice a3 n3 c3, .slice a4 n4 c4, .slice a5 n5 c5, .slice aA (M.L.map fun y=>y.x.th).length aB, .slice sa S.length sc, .slice s.2.1 s.2.2.2.2.1.length s.2.2.1, .slice oa ol.length oc] 53 (0,0))::
     (sD++(az++(oD++(qfe ol++(H++(s.2.2.2.1++(s.2.2.2.2.2++M.O c n m S Q))))))))
    (fun s=>s.1<=M.el.length/\qq EH.enc 83 6 s.2.1 s.2.2.1 s.2.2.2.2.1 s.2.2.2.1/\s.2.2.2.2.1.map EH.m=(M.el.take s.1).map EH.m/\∀e∈s.2.2.2.2.1,RdE qw 1 W0 s.2.2.2.2.2 e.ra e.rl/\RdE qw 1 W0 s.2.2.2.2.2 e.wa e.wl) (fun s=>M.el.length-s.1) (0,none,0,[],[],[]) ⟨zl _,qq.nil,rfl,fun _ h=>(by cases h)⟩ (eF) (by simp only[zj];exact sbE) rfl ?_
   rintro⟨j,ea,ec,eD,el,gD⟩ junk2 ⟨hj,I,d,w⟩;dsimp only at hj I d w ⊢;have hell:el.length=j:=by have:=congrArg List.length d;rw[zi,zi,zM] at this;omega
   by_cases aj:j<M.el.length
   ·obtain⟨e,he⟩:∃e,M.el[j]? =some e:=⟨_,z6 aj⟩
    have aq:(j:Int)<M.el.length:=Yb;have af:=E.hv e (zh he);have ae:=E.he.rd (W0:=W0);have aF:=fun(own':Own) (mm:qx own' M.gD)=>qR (W0:=W0) (own:=own') (cap:=e.rc) (af.1.1.up) Yb
    have aH:=fun(own':Own) (mm:qx own' M.gD)=>qR (W0:=W0) (own:=own') (cap:=e.wc) (af.1.2.up) Yb
    repeat'((try conv=>whnf);first|refine fF ?_|refine qg fun be aE=>?_|apply q0f (enc:=EH.enc) (T:=83) {e with ra:=ra,rc:=rc,wa:=wa,wc:=wc} I;exact rfl;exact rfl;omega;exact rfl;exact rfl;omega;intro a6 c6 D6 K|(apply qL;first|refine ixE ae he ?_ ?_;(first|rfl|omega))|apply q27;refine q0O ae he rfl ?_|(apply qe;first|refine qk (aF _ Ye) fun y v G=>?_;obtain⟨ra,rc,rD⟩:=y;obtain⟨rfl,V⟩:=G;dsimp only at V|refine qk (aH _ Ye) fun y v G=>?_;obtain⟨wa,wc,wD⟩:=y;obtain⟨rfl,Y⟩:=G;dsimp only at Y)|refine fB ?_|refine fA ?_|refine fL ?_|refine fN ?_|refine fM ?_|refine q1k.mk ?_ ?_)
    all_goals
     have F:M.el.take (j+1)=M.el.take j++ [e]:=by rw[zY,he];rfl
     refine⟨(j+1,a6,c6,D6,el++ [{e with ra:=ra,rc:=rc,wa:=wa,wc:=wc}],rD++(wD++gD)),⟨aj,K,by dsimp only;rw[zv,d,F,zv];rfl,fun z P=>?_⟩,by simp only;omega,(eF),by dsimp only;rw[z8];simp only[zd];exact sbE⟩
     rcases zw.1 P with P|P
     ·exact⟨(w z P).1.ent (Ent.right.trans Ent.right),(w z P).2.ent (Ent.right.trans Ent.right)⟩
     ·rw[zf] at P;subst P;exact⟨(V.rd (W0:=W0)).ent Ent.left,(Y.rd (W0:=W0)).ent (Ent.right.trans Ent.left)⟩
   ·obtain rfl:j=M.el.length:=Yb;have aq:¬(M.el.length:Int)<M.el.length:=Yb
    repeat'((try conv=>whnf);first|refine fG ?_|refine fL ?_|refine fM ?_)
    all_goals exact⟨⟨[.slice a1 n1 c1, .slice a2 n2 c2,uv x1,uv x2,uv x3, .slice a3 n3 c3, .slice a4 n4 c4, .slice a5 n5 c5],aA,aB,az,sa,sc,sD,ea,ec,oa,oc,oD,ol,H,el,eD,gD⟩,⟨rfl,⟨⟨_,_,_,_,_,_,_,_,_,_,_,_,_,_,_,_,_,_,rfl⟩,Z,C,hB,J,A,L,I,w,by rw[d,Z3];exact E.em⟩⟩,by unfold RS4.O;exact sbE⟩
end
end Go.Proofs.YtfnghamklcdgnaaGreatDoor
