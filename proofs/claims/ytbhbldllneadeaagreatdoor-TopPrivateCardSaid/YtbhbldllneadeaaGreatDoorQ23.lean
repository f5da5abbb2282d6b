/- What the laws share, part 23. No condition. -/
import Derived.Test.YtbhbldllneadeaaGreatDoorQ22
set_option maxRecDepth 10000
namespace Go.Proofs.YtbhbldllneadeaaGreatDoor
open Go
section
variable{c:Cfg}{ps:List (List Ins)}{n k:Nat}{m m':MS}{xs:List GT}{g g':GS}{r r':Nat→List (Int×Int)}{t u:Nat}{x x':GT}{a b:AT}{p:List Ins}{i:Ins}
theorem q69(y:AT)(k:Int):fl (y.endA c k)= []∧(y.endA c k).rv=y.rv:=by
 unfold AT.endA
 split <;>exact⟨rfl,rfl⟩
theorem q3D(y:AT):fl y.rest= []∧y.rest.rv=y.rv:=by
 unfold AT.rest
 split <;>exact⟨rfl,rfl⟩
theorem qdK{q:Int×Int}(h:q∈fl (qh c t m a).2.1):q∈fl a∨((∃bf v,a.ph= .rd 1 bf v)∧q=(a.addr,m.d.getD a.addr.toNat 0)):=by
 unfold qh at h;cases e:a.ph with
 |idle=>rw[e] at h;exact .inl h
 |loc q=>
  rw[e] at h;dsimp only at h;exfalso;cases q with
  |en k=>rw[show AT.kont c {a with ph:= .idle} (.en k)=AT.endA c {a with ph:= .idle} k from rfl,(q69 _ _).1] at h;cases h
  |tk v=>cases h
  |wr w v=>
   unfold AT.kont at h;dsimp only at h
   split at h
   ·rw[(q69 _ _).1] at h;cases h
   ·split at h <;>cases h
 |ent j=>
  rw[e] at h;dsimp only at h;exfalso
  split at h
  ·cases h
  ·split at h <;>cases h
 |rd j b v=>
  rw[e] at h;dsimp only at h
  split at h
  ·exfalso;dsimp only at h
   split at h
   ·cases h
   ·unfold fl at h;dsimp only at h;rw[if_pos (.inr rfl)] at h;cases h
  ·split at h
   ·rename_i h1;right;subst h1;refine⟨⟨b,v,rfl⟩,?_⟩;unfold fl at h;dsimp only at h;rw[if_neg Y7] at h;exact zf.1 h
   ·exfalso;dsimp only at h
    split at h
    ·cases h
    ·split at h <;>cases h
 |lk s ld=>
  rw[e] at h;dsimp only at h;exfalso
  split at h
  ·cases h
  ·split at h
   ·unfold fl at h;dsimp only at h
    split at h
    ·rename_i hh
     split at hh <;>cases hh
    ·cases h
   ·cases h
 |tn b=>
  rw[e] at h;dsimp only at h;exfalso
  split at h
  ·cases h
  ·dsimp only at h
   split at h
   ·split at h <;>cases h
   ·unfold fl at h;rw[e] at h;cases h
 |ck l=>
  rw[e] at h;dsimp only at h;exfalso
  split at h
  ·rw[(q3D _).1] at h;cases h
  ·split at h <;>cases h
 |dc=>
  rw[e] at h;dsimp only at h;exfalso
  split at h
  ·rw[(q3D _).1] at h;cases h
  ·split at h
   ·cases h
   ·rw[(q3D _).1] at h;cases h
 |wr A V=>rw[e] at h;dsimp only at h;exfalso;split at h <;>cases h
 |rl l w=>
  rw[e] at h;dsimp only at h;exfalso
  split at h
  ·unfold fl at h;dsimp only at h
   split at h
   ·rename_i hh
    split at hh <;>cases hh
   ·cases h
  ·cases h
 |sp=>rw[e] at h;cases h
 |ps=>rw[e] at h;cases h
 |lv=>rw[e] at h;cases h
theorem qjx:(qh c t m a).2.1.rv=a.rv∨a.ph= .ent 1:=by
 unfold qh;cases e:a.ph with
 |loc q=>
  left;dsimp only;cases q with
  |en k=>rw[show AT.kont c {a with ph:= .idle} (.en k)=AT.endA c {a with ph:= .idle} k from rfl,(q69 _ _).2]
  |tk v=>rfl
  |wr w v=>
   unfold AT.kont;dsimp only
   split
   ·rw[(q69 _ _).2]
   ·split <;>rfl
 |ent j=>
  dsimp only
  split
  ·exact .inl rfl
  ·split
   ·rename_i h;subst h;exact .inr rfl
   ·exact .inl rfl
 |rd j b v=>
  left;dsimp only
  split
  ·dsimp only;split <;>rfl
  ·split
   ·rfl
   ·dsimp only
    split
    ·rfl
    ·split <;>rfl
 |lk s ld=>
  left;dsimp only
  split
  ·rfl
  ·split <;>rfl
 |tn b=>
  left;dsimp only
  split
  ·rfl
  ·dsimp only
   split
   ·split <;>rfl
   ·rfl
 |ck l=>
  left;dsimp only
  split
  ·rw[(q3D _).2]
  ·split <;>rfl
 |dc=>
  left;dsimp only
  split
  ·rw[(q3D _).2]
  ·split
   ·rfl
   ·rw[(q3D _).2]
 |wr A V=>left;dsimp only;split <;>rfl
 |rl l w=>left;dsimp only;split <;>rfl
 |_=>exact .inl rfl
theorem qdI(h:∀A V,a.ph≠ .wr A V):(qh c t m a).1.d=m.d:=by
 unfold qh;cases e:a.ph with
 |wr A V=>exact absurd e (h A V)
 |ent j=>
  dsimp only
  split
  ·rfl
  ·split <;>rfl
 |rd j b v=>
  dsimp only
  split
  ·rfl
  ·split <;>rfl
 |lk s ld=>
  dsimp only
  split
  ·rfl
  ·split <;>rfl
 |tn b=>
  dsimp only
  split <;>rfl
 |_=>rfl
theorem Pd.keep{o:Int}(hx:xs[t]? =some x)(ha:∀a,x.at'=some a→a.dn=true→o∈pnd a→False)(h:Pd xs o):Pd (xs.set t x') o:=by
 obtain⟨u,y,b,hy,hb,hd,ho⟩:=h
 by_cases e:u=t
 ·subst e;rw[hx] at hy;cases hy;exact(ha b hb hd ho).elim
 ·exact⟨u,y,b,by rw[q0v e];exact hy,hb,hd,ho⟩
theorem MR.keep{md gd:List Int}(hx:xs[t]? =some x)(h1:∀a,x.at'=some a→∀A V,a.ph≠ .wr A V)(h2:∀a,x'.at'=some a→∀A V,a.ph≠ .wr A V)(h:MR xs md gd):MR (xs.set t x') md gd:=by
 rcases h with ⟨u,y,b,A,V,hy,hb,he,hg⟩|⟨h,hg⟩
 ·by_cases e:u=t
  ·subst e;rw[hx] at hy;cases hy;exact absurd he (h1 b hb A V)
  ·exact .inl ⟨u,y,b,A,V,by rw[q0v e];exact hy,hb,he,hg⟩
 ·refine .inr ⟨fun u y b hy hb=> ?_,hg⟩
  by_cases e:u=t
  ·subst e;rw[q0u hx] at hy;cases hy;exact h2 b hb
  ·rw[q0v e] at hy;exact h u y b hy hb
theorem AI.nwr(hA:AI c t m a)(hd:a.dn=false):∀A V,a.ph≠ .wr A V:=fun A V e=>by
 have:=hA.ph;unfold PhA at this;rw[e] at this;rw[this.1] at hd;cases hd
theorem q0c.word(h:q0c c ps n k m xs g r)(j:Int)(h0:0≤j)(h1:j<c.words):Pd xs (qF c j)∨g.d.getD j.toNat 0=m.d.getD j.toNat 0:=by
 rcases h.mr with ⟨u,y,b,A,V,hy,hb,he,hg⟩|⟨_,hg⟩
 ·have hp:=(h.ai u y b hy hb).ph;unfold PhA at hp;rw[he] at hp;obtain⟨q1,q2,q3,q4,q5,q6,q7,q8,q9⟩:=hp;have hdl:=h.gm.dl
  by_cases hm:j∈A
  ·exact .inl ⟨u,y,b,hy,hb,q1,by unfold pnd;rw[he];exact q9 _ (q8 _ hm)⟩
  ·right;have e2:((j.toNat:Nat):Int)=j:=Z6 h0;rw[hg,q7e Y6,e2,(q16 q6).2 hm];rfl
 ·exact .inr (by rw[hg])
theorem q0c.advA(hC:COk c)(hn:n≤16)(hk:k≤100000)(h:q0c c ps n k m xs g r)(hx:xs[t]? =some x)(ha:x.at'=some a)(hb:a.busy=true)(hp:ps[t]? =some p)(hpo:PrO p)(hi:p[x.th.pc]? =some i)(hdn:a.dn=false)(hlv:a.ph≠ .lv)(hdn':(qh c t m a).2.1.dn=false):
  ∃rt,rt=(if(qh c t m a).2.1.busy then r t else r t++fl a)∧q0c c ps n (k+1) (q0M c p t m x a i).1 (xs.set t (q0M c p t m x a i).2.1) g (upR r t rt)∧(∃a',(q0M c p t m x a i).2.1.at'=some a'∧a'.dn=false):=by
 have htn:t<n:=by rw[←h.xl];exact(z7.1 hx).1
 have hA:=h.ai t x a hx ha;obtain⟨s1,s2,s3⟩:=hA.step hC hn htn hk h.gm;have hR:=h.th t x p hx hp;unfold ThR at hR;rw[ha] at hR;dsimp only at hR;rw[if_neg (by rw[hdn];decide)] at hR;obtain⟨hR1,hR2,hT⟩:=hR;obtain⟨rt,hrt,hS,hat,hT',_⟩:=hT.adv (t:=t) (m:=m) hpo hA hi hb hdn hlv;have hT':=hT' hdn';have hver:∀o,q1C (qh c t m a).1 o=q1C m o:=fun o=>by
  rcases s3.ver o with e|⟨e,_⟩
  ·exact e
  ·rw[hdn] at e;cases e
 have hPk:∀o,Pd xs o→Pd (xs.set t (q0M c p t m x a i).2.1) o:=fun o ho=>ho.keep hx fun b hb hd _=>by rw[ha] at hb;cases hb;rw[hdn] at hd;cases hd
 refine⟨rt,hrt,?_,_,hat,hdn'⟩;have hrt:rt=r t∨rt=r t++fl a:=by rw[hrt];split;exact .inl rfl;exact .inr rfl
 refine h.put hC hn hk hx ha (fun a' h1=>⟨by rw[hat] at h1;exact(Option.some.inj h1).symm,hlv⟩) h.tl h.ol h.dl (fun u hu=>⟨rfl,rfl,qaf hu⟩) (fun p' hp'=> ?_) (fun a' h1 h2=> ?_) (fun e=>by rw[hdn] at e;cases e) (fun q _ _=> .inl rfl) ?_
 ·rw[hp] at hp';cases hp';unfold ThR;rw[hat];dsimp only;rw[if_neg (by rw[hdn'];decide),q5U,hS.bg,hS.sv,hS.oc,hS.obs];exact⟨hR1,hR2,hT'⟩
 ·have ea:a'=(qh c t m a).2.1:=by rw[hat] at h1;exact(Option.some.inj h1).symm
  subst ea;rw[q5U]
  by_cases he1:a.ph= .ent 1
  ·right;intro q hq;exfalso;have hr0:r t= []:=by
    rcases hT.ph with ⟨_,_,e0,_⟩|⟨_,_,_,i,_,e0⟩|⟨e0,_⟩
    ·exact e0
    ·unfold q2L at e0;rw[he1] at e0;exact e0.elim
    ·rw[he1] at e0;cases e0
   have hf0:fl a= []:=by unfold fl;rw[he1]
   rcases zz.1 hq with hq|hq
   ·rcases hrt with e|e <;>rw[e,hr0] at hq
    ·cases hq
    ·rw[hf0] at hq;cases hq
   ·rcases qdK hq with hq|⟨⟨_,_,e⟩,_⟩
    ·rw[hf0] at hq;cases hq
    ·rw[he1] at e;cases e
  ·have hrv:(qh c t m a).2.1.rv=a.rv:=by rcases qjx (c:=c) (t:=t) (m:=m) (a:=a) with e|e;exact e;exact absurd e he1
   have hsub:∀q∈r t,q∈rt:=fun q hq=>by rcases hrt with e|e <;>rw[e];exact hq;exact zN _ hq
   rcases h.va t x a hx ha hdn with ⟨q,hq,hv⟩|hv
   ·exact .inl ⟨q,hsub q hq,by rw[hrv,hver];exact hv⟩
   ·right;intro q hq hle;rw[hrv,hver] at hle;have hold:q∈r t++fl a→Pd (xs.set t (q0M c p t m x a i).2.1) (qF c q.1)∨g.d.getD q.1.toNat 0=q.2:=fun hq=>(hv q hq hle).imp (hPk _) id
    rcases zz.1 hq with hq|hq
    ·rcases hrt with e|e <;>rw[e] at hq
     ·exact hold (zN _ hq)
     ·exact hold hq
    ·rcases qdK hq with hq|⟨⟨bf,v,e⟩,rfl⟩
     ·exact hold (zR _ hq)
     ·have hpp:=hA.ph;unfold PhA at hpp;rw[e] at hpp;exact(h.word a.addr hpp.2.2.1 hpp.2.2.2).imp (hPk _) id
 ·rw[qdI (hA.nwr hdn)];refine h.mr.keep hx (fun b hb=>by rw[ha] at hb;cases hb;exact hA.nwr hdn) fun b hb=> ?_
  rw[hat] at hb;cases hb;exact(s1 hlv).nwr hdn'
end
open Go
def q6w(c:Cfg)(ps:List (List Ins)):GS→List ChM→Option GS
 |g,[]=>some g
 |g,ch::l=>match chM c ps g ch with
  |some g'=>q6w c ps {g' with n:=g.n+1} l
  |none=>none
section
variable{c:Cfg}{ps:List (List Ins)}{n k:Nat}{m m':MS}{xs:List GT}{g g':GS}{r r':Nat→List (Int×Int)}{t u:Nat}{x x':GT}{a b:AT}{p:List Ins}{i:Ins}
theorem q4e{ch:ChM}(h:chM c ps g ch=some g'):q6w c ps g [ch]=some {g' with n:=g.n+1}:=by
 unfold q6w;rw[h];rfl
theorem q9L{rg:Rg}(h:q57 c rg i≠0):q57 c rg i=1∨q57 c rg i=2∨q57 c rg i=7:=by
 unfold q57 at h ⊢
 (repeat' split) <;>simp_all
theorem qjz{b:BM}(h:q57 c b.t.rg i≠0):q07 c b i=(b.go,q57 c b.t.rg i):=by
 unfold q57 at h ⊢;unfold q07
 by_cases h10:i.op=10
 ·rw[if_pos h10] at h ⊢;rw[if_pos h10]
  split
  ·rename_i hw;rfl
  ·rename_i hw;rw[if_neg hw] at h;exact absurd rfl h
 ·rw[if_neg h10] at h ⊢;rw[if_neg h10]
  by_cases h11:i.op=11
  ·rw[if_pos h11] at h ⊢;rw[if_pos h11]
   split
   ·rename_i hw;rfl
   ·rename_i hw;rw[if_neg hw] at h;exact absurd rfl h
  ·rw[if_neg h11] at h ⊢;rw[if_neg h11]
   by_cases h8:i.op=8
   ·rw[if_pos h8] at h ⊢;rw[if_neg Y6,if_neg Y6,if_pos h8]
   ·rw[if_neg h8] at h ⊢
    by_cases h9:i.op=9
    ·rw[if_pos h9] at h ⊢;rw[if_neg Y6,if_neg Y6,if_neg h8,if_pos h9]
    ·rw[if_neg h9] at h;exact absurd rfl h
def q7O(p:List Ins)(g:GS)(x:GT)(a:AT)(t:Nat):GS:=
 if a.code=1 then((g.mem (lay a.ad a.vl g.d) g.tk).ev [⟨g.n,t,3,0,[],[]⟩,⟨g.n,t,4,0,a.seen,a.ad⟩]).fin t (qdZ p x a) (x.seen++ [⟨x.bg,3,a.code⟩])
 else(g.ev [⟨g.n,t,3,0,[],[]⟩,⟨g.n,t,4,0,a.seen,[]⟩]).fin t (qdZ p x a) [⟨x.bg,3,a.code⟩]
theorem qk5(hT:TL c p x a (r t))(hgt:g.T[t]? =some ⟨x.bg,x.sv,x.th.oc,false⟩)(hp:ps[t]? =some p)(hd:(g.d.length:Int)=c.words)(hA:Agr (r t) g.d)(hph:a.ph= .dc):
  chM c ps g ⟨(t:Int),0,[]⟩=some (q7O p g x a t):=by
 have hne:∀k,a.ph≠ .ent k:=fun k e=>by rw[hph] at e;cases e
 obtain⟨_,_,hR,i,hi,hq⟩:=hT.req hne (by rw[hph];rfl);unfold q2L at hq;rw[hph] at hq;obtain⟨hq1,hq2⟩:=hq;have ho:q57 c (q3q x a g.tk g.d).t.rg i=a.code:=hq1.symm;have hne0:q57 c (q3q x a g.tk g.d).t.rg i≠0:=by rw[ho];exact hq2
 have hse:=qjz hne0;have hrun:=(hR g.tk g.d hd hA).fin hi (by rw[hse];exact hne0);rw[hse,ho] at hrun;obtain⟨ib,hib,h7⟩:=hT.bg;unfold chM;rw[if_neg (by dsimp only;omega),zB,hgt,hp];dsimp only;rw[if_neg Y7,hib];dsimp only;rw[if_pos h7];unfold txM;rw[if_neg Y7];have e:(⟨g.d,g.tk,⟨x.bg+1,x.sv,x.th.oc,false⟩,[],[],[],[]⟩:BM)=q8i x g.tk g.d:=rfl;rw[e,hrun];dsimp only;have hr:=q9L hne0;rw[ho] at hr;rw[if_neg (fun h=>by rcases h with h|h;omega;exact h rfl)];unfold q7O qdZ
 by_cases h1:a.code=1
 ·rw[if_pos h1,if_pos h1,if_pos h1,h1];rfl
 ·rw[if_neg h1,if_neg h1,if_neg h1];rfl
theorem qkg(ht:t<g.T.length):(q7O p g x a t).T[t]? =some (qdZ p x a)∧(∀u,u≠t→(q7O p g x a t).T[u]? =g.T[u]?)∧(q7O p g x a t).T.length=g.T.length:=by
 have e:(q7O p g x a t).T=g.T.set t (qdZ p x a):=by unfold q7O;split <;>rfl
 rw[e];exact⟨by rw[zv,if_pos rfl,if_pos ht],fun u hu=>by rw[zv,if_neg (fun e=>hu e.symm)],zj⟩
theorem qkf(ht:t<g.O.length)(hg:g.O.getD t []=x.obs):(q7O p g x a t).O.getD t []=qep x a∧(∀u,u≠t→(q7O p g x a t).O.getD u []=g.O.getD u [])∧(q7O p g x a t).O.length=g.O.length:=by
 have e:(q7O p g x a t).O=g.O.set t (qep x a):=by
  unfold q7O qep
  by_cases h1:a.code=1
  ·rw[if_pos h1,if_pos h1,←hg,zd];rfl
  ·rw[if_neg h1,if_neg h1,←hg];rfl
 rw[e];refine⟨by rw[zh,zv,if_pos rfl,if_pos ht];rfl,fun u hu=>by rw[zh,zv,if_neg (fun e=>hu e.symm),zh],zj⟩
theorem qbF:(q7O p g x a t).d=if a.code=1 then lay a.ad a.vl g.d else g.d:=by
 unfold q7O
 split <;>rfl
theorem qcB(b:AT):(∀A V,b.rest.ph≠ .wr A V)∧b.rest.st=b.st:=by
 unfold AT.rest
 split
 ·exact⟨fun A V h=>(by cases h),rfl⟩
 ·exact⟨fun A V h=>(by cases h),rfl⟩
theorem q0c.quiet(h:q0c c ps n k m xs g r)(hx:xs[t]? =some x)(ha:x.at'=some a)(h1:a.ph.hold=true)(h2:∀A V,a.ph≠ .wr A V):g.d=m.d:=by
 rcases h.mr with ⟨u,y,b,A,V,hy,hb,he,_⟩|⟨_,e⟩
 ·have e:=h.one hx ha h1 hy hb (by rw[he];rfl);subst e;rw[hx] at hy;cases hy;rw[ha] at hb;cases hb;exact absurd he (h2 A V)
 ·exact e
theorem q0c.agr(h:q0c c ps n k m xs g r)(hx:xs[t]? =some x)(ha:x.at'=some a)(hT:TL c p x a (r t))(hdn:a.dn=false)(hph:a.ph= .dc):Agr (r t) g.d:=by
 have hA:=h.ai t x a hx ha;have hp:=hA.ph;unfold PhA at hp;rw[hph] at hp;obtain⟨_,_,_,_,hv⟩:=hp;intro q hq;have hle:=hv _ (hT.rr q hq).2.2
 rcases h.va t x a hx ha hdn with ⟨q',hq',hlt⟩|hv2
 ·have:=hv _ (hT.rr q' hq').2.2;omega
 ·rcases hv2 q (zN _ hq) hle with ⟨u,y,b,hy,hb,hd,ho⟩|e
  ·have e:=h.one hx ha (by rw[hph];rfl) hy hb (qf2 ho);subst e;rw[hx] at hy;cases hy;rw[ha] at hb;cases hb;rw[hdn] at hd;cases hd
  ·exact e
theorem q0c.advB(hC:COk c)(hn:n≤16)(hk:k≤100000)(h:q0c c ps n k m xs g r)(hx:xs[t]? =some x)(ha:x.at'=some a)(hb:a.busy=true)(hp:ps[t]? =some p)(hpo:PrO p)(hi:p[x.th.pc]? =some i)(hdn:a.dn=false)(hlv:a.ph≠ .lv)(hdn':(qh c t m a).2.1.dn=true):
  a.ph= .dc∧(q0M c p t m x a i).2.1={x with at':=some (qh c t m a).2.1}∧q6w c ps g [⟨t,0,[]⟩]=some {q7O p g x a t with n:=g.n+1}∧
   q0c c ps n (k+1) (q0M c p t m x a i).1 (xs.set t (q0M c p t m x a i).2.1) {q7O p g x a t with n:=g.n+1} r:=by
 have htn:t<n:=by rw[←h.xl];exact(z7.1 hx).1
 have hA:=h.ai t x a hx ha;have hR:=h.th t x p hx hp;unfold ThR at hR;rw[ha] at hR;dsimp only at hR;rw[if_neg (by rw[hdn];decide)] at hR;obtain⟨hR1,hR2,hT⟩:=hR;obtain⟨_,_,_,_,_,hD⟩:=hT.adv (t:=t) (m:=m) hpo hA hi hb hdn hlv;obtain⟨hph,hX⟩:=hD hdn';have hgr:=h.agr hx ha hT hdn hph;have hq:=h.quiet hx ha (by rw[hph];rfl) (hA.nwr hdn);have hch:=qk5 hT hR1 hp h.dl hgr hph;have hpp:=hA.ph;unfold PhA at hpp;rw[hph] at hpp;obtain⟨_,hol,hoc,_,_⟩:=hpp;obtain⟨i',hi',hq'⟩:∃i,p[x.th.pc]? =some i∧q2L c x a i:=(hT.req (fun k e=>by rw[hph] at e;cases e) (by rw[hph];rfl)).2.2.2
 unfold q2L at hq';rw[hph] at hq';have hcd:a.code=1∨a.code=2∨a.code=7:=by rw[hq'.1];exact q9L (by rw[←hq'.1];exact hq'.2)
 --what the step leaves
 have hst:=q50 (c:=c) (t:=t) (m:=m) hph;have hy:(qh c t m a).2.1=(if a.sto then{a with ck:=m.ck,dn:=true,ph:= .wr a.ad a.vl} else({a with ck:=m.ck,dn:=true}:AT).rest):=by
  rw[hst];dsimp only
  split
  ·rename_i hcl;rw[hst] at hdn';dsimp only at hdn';rw[if_pos hcl,(q4E _).1] at hdn';rw[show({a with ck:=m.ck,code:=6}:AT).dn=a.dn from rfl,hdn] at hdn';cases hdn'
  ·rfl
 have hyc:(qh c t m a).2.1.code=a.code∧(qh c t m a).2.1.st=a.st:=by
  rw[hy]
  split
  ·exact⟨rfl,rfl⟩
  ·exact⟨(q4E _).2.1,(qcB _).2⟩
 refine⟨hph,hX,q4e hch,?_⟩;obtain⟨t1,t2,t3⟩:=qkg (p:=p) (x:=x) (a:=a) (g:=g) (t:=t) (by rw[h.tl];exact htn);obtain⟨o1,o2,o3⟩:=qkf (p:=p) (x:=x) (a:=a) (g:=g) (t:=t) (by rw[h.ol];exact htn) hR2;have hpd:∀j∈a.ad,a.code=1→Pd (xs.set t {x with at':=some (qh c t m a).2.1}) (qF c j):=fun j hj h1=>by
  refine⟨t,_,(qh c t m a).2.1,q0u hx,rfl,hdn',?_⟩;rw[hy,if_pos (by unfold AT.sto;exact decide_eq_true ⟨h1,List.ne_nil_of_mem hj⟩)];exact hoc.1 h1 j hj
 rw[hX];refine h.put hC hn hk hx ha (fun a' h1=>⟨(Option.some.inj h1).symm,hlv⟩) (by dsimp only;rw[t3,h.tl]) (by dsimp only;rw[o3,h.ol]) ?_ (fun u hu=>⟨t2 u hu,o2 u hu,rfl⟩) (fun p' hp'=> ?_) (fun a' h1 h2=> ?_) (fun e=>by rw[hdn] at e;cases e) (fun q h0 h1=> ?_) ?_
 ·dsimp only;rw[qbF]
  split
  ·rw[qib];exact h.dl
  ·exact h.dl
 ·rw[hp] at hp';cases hp';unfold ThR;dsimp only;rw[if_pos hdn'];refine⟨?_,?_,hT.bg,hT.fn,hT.tr,hyc.2.trans hT.st,by rw[hyc.1];exact hcd,hT.dn,hT.pl⟩
  ·rw[t1];unfold qdZ;dsimp only;rw[hyc.1]
  ·rw[o1];unfold qep;dsimp only;rw[hyc.1]
 ·cases h1;rw[hdn'] at h2;cases h2
 ·dsimp only;rw[qbF];have e2:((q.1.toNat:Nat):Int)=q.1:=Z6 h0;have hdl:=h.dl
  split
  ·rename_i hc1
   by_cases hm:q.1∈a.ad
   ·exact .inr (hpd _ hm hc1)
   ·left;rw[q7e Y6,e2,(q16 hT.len).2 hm];rfl
  ·exact .inl rfl
 ·dsimp only;rw[qbF,qdI (hA.nwr hdn)]
  by_cases hs:a.sto=true
  ·left;have hs2:a.code=1∧a.ad≠ []:=by unfold AT.sto at hs;exact of_decide_eq_true hs
   refine⟨t,_,(qh c t m a).2.1,a.ad,a.vl,q0u hx,rfl,by rw[hy,if_pos hs],?_⟩;rw[if_pos hs2.1,hq]
  ·have hs2:¬(a.code=1∧a.ad≠ []):=fun e=>hs (by unfold AT.sto;exact decide_eq_true e)
   have e:(if a.code=1 then lay a.ad a.vl g.d else g.d)=g.d:=by
    split
    ·rename_i h1;have:a.ad= []:=Decidable.byContradiction fun e=>hs2 ⟨h1,e⟩
     rw[this,q8n]
    ·rfl
   rw[e];refine h.mr.keep hx (fun b hb=>by rw[ha] at hb;cases hb;exact hA.nwr hdn) fun b hb=> ?_
   cases hb;rw[hy,if_neg hs];exact(qcB _).1
end
open Go
section
variable{c:Cfg}{ps:List (List Ins)}{n k:Nat}{m m':MS}{xs:List GT}{g g':GS}{r r':Nat→List (Int×Int)}{t u:Nat}{x x':GT}{a b:AT}{p:List Ins}{i:Ins}
theorem AI.dec_ph(hA:AI c t m a)(hd:a.dn=true):(∃A V,a.ph= .wr A V)∨(∃l w,a.ph= .rl l w)∨a.ph= .sp∨a.ph= .ps∨a.ph= .lv:=by
 have hp:=hA.ph;unfold PhA at hp;cases e:a.ph with
 |wr A V=>exact .inl ⟨A,V,rfl⟩
 |rl l w=>exact .inr (.inl ⟨l,w,rfl⟩)
 |sp=>exact .inr (.inr (.inl rfl))
 |ps=>exact .inr (.inr (.inr (.inl rfl)))
 |lv=>exact .inr (.inr (.inr (.inr rfl)))
 |idle=>rw[e] at hp;have:=hp.1;rw[hd] at this;cases this
 |loc q=>rw[e] at hp;have:=hp.1.1;rw[hd] at this;cases this
 |ent j=>rw[e] at hp;have:=hp.1.1;rw[hd] at this;cases this
 |rd j b v=>rw[e] at hp;have:=hp.1.1;rw[hd] at this;cases this
 |lk s l=>rw[e] at hp;have:=hp.1;rw[hd] at this;cases this
 |tn b=>rw[e] at hp;have:=hp.1;rw[hd] at this;cases this
 |ck l=>rw[e] at hp;have:=hp.1;rw[hd] at this;cases this
 |dc=>rw[e] at hp;have:=hp.1;rw[hd] at this;cases this
theorem qlM{A V:List Int}(h:a.ph= .wr A V)(hl:A.tail= []):qh c t m a=({m with d:=m.d.set (A.headD 0).toNat (V.headD 0)},{a with ph:= .rl a.oc (a.oc.map fun _=>(a.ck+1)*64)},acS 1 (A.headD 0) (m.d.getD (A.headD 0).toNat 0) (V.headD 0),17):=by
 unfold qh;simp only[h,hl,if_true]
theorem qlN{A V:List Int}(h:a.ph= .wr A V)(hl:A.tail≠ []):qh c t m a=({m with d:=m.d.set (A.headD 0).toNat (V.headD 0)},{a with ph:= .wr A.tail V.tail},acS 1 (A.headD 0) (m.d.getD (A.headD 0).toNat 0) (V.headD 0),17):=by
 unfold qh;simp only[h,hl,if_false]
theorem q0c.advD(hC:COk c)(hn:n≤16)(hk:k≤100000)(h:q0c c ps n k m xs g r)(hx:xs[t]? =some x)(ha:x.at'=some a)(hp:ps[t]? =some p)(hdn:a.dn=true)(hlv:a.ph≠ .lv):
  (qh c t m a).2.1.dn=true∧(qh c t m a).2.1.busy=true∧q0c c ps n (k+1) (qh c t m a).1 (xs.set t {x with at':=some (qh c t m a).2.1}) g r:=by
 have htn:t<n:=by rw[←h.xl];exact(z7.1 hx).1
 have hA:=h.ai t x a hx ha;have hR:=h.th t x p hx hp;unfold ThR at hR;rw[ha] at hR;dsimp only at hR;rw[if_pos hdn] at hR;obtain⟨hR1,hR2,hD⟩:=hR;have hpp:=hA.ph;unfold PhA at hpp;have main:∀(y:AT) (m':MS),qh c t m a=(m',y,(qh c t m a).2.2)→y.dn=true→y.busy=true→y.code=a.code→y.st=a.st→(∀o∈pnd a,o∈pnd y∨m.ck<q1C m' o)→
   MR (xs.set t {x with at':=some y}) m'.d g.d→(qh c t m a).2.1.dn=true∧(qh c t m a).2.1.busy=true∧q0c c ps n (k+1) (qh c t m a).1 (xs.set t {x with at':=some (qh c t m a).2.1}) g r:=by
  intro y m' hst h1 h2 h3 h4 h5 h6;have e1:(qh c t m a).2.1=y:=by rw[hst]
  have e2:(qh c t m a).1=m':=by rw[hst]
  rw[e1];refine⟨h1,h2,?_⟩;refine h.put hC hn hk hx ha (fun a' h=>⟨by rw[e1];exact(Option.some.inj h).symm,hlv⟩) h.tl h.ol h.dl (fun u _=>⟨rfl,rfl,rfl⟩) (fun p' hp'=> ?_) (fun a' h1' h2'=> ?_) (fun _ o ho=> ?_) (fun q _ _=> .inl rfl) (by rw[e2];exact h6)
  ·rw[hp] at hp';cases hp';unfold ThR;dsimp only;rw[if_pos h1];refine⟨?_,?_,hD.bg,hD.fn,hD.tr,h4.trans hD.st,by rw[h3];exact hD.cd,hD.dn,hD.pl⟩
   ·rw[hR1];unfold qdZ;dsimp only;rw[h3]
   ·rw[hR2];unfold qep;dsimp only;rw[h3]
  ·cases h1';rw[h1] at h2';cases h2'
  ·rw[e2]
   rcases h5 o ho with h|h
   ·exact .inl ⟨y,rfl,h1,h⟩
   ·exact .inr h
 have nop:∀(y:AT),(∀A V,a.ph≠ .wr A V)→(∀A V,y.ph≠ .wr A V)→MR (xs.set t {x with at':=some y}) m.d g.d:=fun y h1 h2=>
  h.mr.keep hx (fun b hb=>by rw[ha] at hb;cases hb;exact h1) fun b hb=>by cases hb;exact h2
 rcases hA.dec_ph hdn with ⟨A,V,e⟩|⟨l,w,e⟩|e|e|e
 ·rw[e] at hpp;obtain⟨_,q1,q2,q3,q4,q5,q6,q7,q8⟩:=hpp;have hAr:∀w∈A,0≤w∧w<c.words:=fun w hw=>hA.ar w (q7 w hw)
  --the only writer
  have hmr:g.d=lay A V m.d:=by
   rcases h.mr with ⟨u,y,b,A',V',hy,hb,he,hg⟩|⟨hno,_⟩
   ·have e':=h.one hx ha (by rw[e];rfl) hy hb (by rw[he];rfl);subst e';rw[hx] at hy;cases hy;rw[ha] at hb;cases hb;rw[e] at he;cases he;exact hg
   ·exact absurd e (hno t x a hx ha A V)
  obtain⟨j,A2,rfl⟩:=List.exists_cons_of_ne_nil q4;obtain⟨v,V2,rfl⟩:∃v V2,V=v::V2:=List.exists_cons_of_ne_nil (fun e=>by rw[e] at q5;cases q5)
  have hj0:=hAr j zm;have ej:((j.toNat:Nat):Int)=j:=Z6 hj0.1;rw[ZN] at q6;have hl2:A2.length=V2.length:=by simpa using q5
  have hmr':g.d=lay A2 V2 (m.d.set j.toNat v):=by
   rw[hmr];have:=qeK (a:=j.toNat) (v:=v) (ad:=A2) (vl:=V2) (d:=m.d) hl2 (by rw[ej];exact q6.1);rw[ej] at this;exact this
  by_cases hA2:A2= []
  ·refine main {a with ph:= .rl a.oc (a.oc.map fun _=>(a.ck+1)*64)} {m with d:=m.d.set j.toNat v} (by rw[qlM e hA2];rfl) hdn rfl rfl rfl (fun o ho=> .inl ?_) ?_
   ·unfold pnd at ho ⊢;rw[e] at ho;exact ho
   ·right;refine⟨fun u y b hy hb A V he=> ?_,by rw[hmr',hA2,q8n]⟩
    by_cases eu:u=t
    ·subst eu;rw[q0u hx] at hy;cases hy;cases hb;cases he
    ·rw[q0v eu] at hy;exact eu (h.one hx ha (by rw[e];rfl) hy hb (by rw[he];rfl))
  ·refine main {a with ph:= .wr A2 V2} {m with d:=m.d.set j.toNat v} (by rw[qlN e hA2];rfl) hdn rfl rfl rfl (fun o ho=> .inl ?_) ?_
   ·unfold pnd at ho ⊢;rw[e] at ho;exact ho
   ·exact .inl ⟨t,_,_,A2,V2,q0u hx,rfl,rfl,hmr'⟩
 ·rw[e] at hpp;obtain⟨q1,q2,q3,q4,q5⟩:=hpp
  rcases q5 with ⟨_,q6,q7,q8,q9⟩|⟨q6,_⟩
  ·have hw0:w≠ []:=fun e=>q1 (zA.1 (by rw[q3,e];rfl))
   have hv:∀o∈l,o∉l.tail→m.ck<q1C {m with o:=m.o.set (l.headD 0).toNat (w.headD 0)} o:=fun o ho hnt=>by
    have e1:o=l.headD 0:=by
     rw[←q8g q1,zQ] at ho
     rcases ho with ho|ho
     ·exact ho
     ·exact absurd ho hnt
    subst e1;have hlen:=hA.oc _ (q2 _ (q7a q1));unfold q1C;dsimp only;rw[q8f hlen.2,q9 _ (q7a hw0),(qgJ _).1];omega
   by_cases ht:l.tail= []
   ·have hs:a.dn=true∧a.sto=true:=⟨hdn,by unfold AT.sto;exact decide_eq_true ⟨q6,q7⟩⟩
    refine main {a with ph:= .sp} {m with o:=m.o.set (l.headD 0).toNat (w.headD 0)} (by unfold qh;rw[e];dsimp only;rw[if_pos ht,if_pos hs]) hdn rfl rfl rfl (fun o ho=> .inr (hv o ?_ ?_)) (nop _ (fun A V h=>by rw[e] at h;cases h) fun A V h=>by cases h)
    ·unfold pnd at ho;rw[e] at ho;exact ho
    ·rw[ht];exact List.not_mem_nil
   ·refine main {a with ph:= .rl l.tail w.tail} {m with o:=m.o.set (l.headD 0).toNat (w.headD 0)} (by unfold qh;rw[e];dsimp only;rw[if_neg ht]) hdn rfl rfl rfl (fun o ho=> ?_) (nop _ (fun A V h=>by rw[e] at h;cases h) fun A V h=>by cases h);unfold pnd at ho;rw[e] at ho
    by_cases hm:o∈l.tail
    ·exact .inl hm
    ·exact .inr (hv o ho hm)
  ·rw[hdn] at q6;cases q6
 ·exact main {a with ph:= .ps} {m with ck:=qM (a.ck+1)} (by unfold qh;rw[e]) hdn rfl rfl rfl (fun o ho=>by unfold pnd at ho;rw[e] at ho;cases ho) (nop _ (fun A V h=>by rw[e] at h;cases h) fun A V h=>by cases h)
 ·exact main {a with ph:= .lv} {m with sv:=qM (a.tk+1)} (by unfold qh;rw[e]) hdn rfl rfl rfl (fun o ho=>by unfold pnd at ho;rw[e] at ho;cases ho) (nop _ (fun A V h=>by rw[e] at h;cases h) fun A V h=>by cases h)
 ·exact absurd e hlv
end
open Go
section
variable{c:Cfg}{ps:List (List Ins)}{n k:Nat}{m m':MS}{xs:List GT}{g g':GS}{r r':Nat→List (Int×Int)}{t u:Nat}{x x':GT}{a b:AT}{p:List Ins}{i:Ins}
def qmi(a:AT):Int:=if a.code=9 then 5 else a.code
theorem qki(h1:a.code≠1)(h9:¬(a.code=9∧(x.tr:Int)<((p[x.bg]?).map (·.imm)).getD 0)):x.endG p a=({x with at':=none,th:={x.th with rg:=x.sv,oc:=qmi a},tr:=0,obs:=x.obs++ [⟨x.bg,3,qmi a⟩]}:GT).to p.length (q0t p x.bg+1):=by
 unfold GT.endG;rw[if_neg h1,if_neg h9];rfl
theorem q6b:(x.endG p a).at'=none:=by
 unfold GT.endG;dsimp only
 split
 ·split <;>rfl
 ·split <;>rfl
theorem qgt(he:a.ph= .lv):q0M c p t m x a i=((qh c t m a).1,x.endG p {a with ph:= .idle,st:=2},⟨t,24,x.ct,(qh c t m a).2.2.1⟩,[]):=by
 have hst:qh c t m a=({m with sl:=m.sl.set (t:Int).toNat 0},{a with ph:= .idle,st:=2},acS 6 t (m.sl.getD (t:Int).toNat 0) 0,24):=by unfold qh;rw[he]
 unfold q0M;rw[hst];dsimp only;rw[if_neg (q1Y rfl),qhq rfl];rfl
theorem qbG(hp:PrO p)(hb:∃ib,p[x.bg]? =some ib∧ib.op=7):stB p (q0t p x.bg+1)<0∧q0t p x.bg+1≤p.length∧stB p x.bg<0∧x.bg<p.length:=by
 obtain⟨ib,hib,h7⟩:=hb;obtain⟨c',hc,h1,h2,_,h3,_⟩:=q0k hp.ck hib h7;rw[hc];refine⟨by rw[h3];decide,Y6,(q36 hp.ck hib).2.1 h7,(z7.1 hib).1⟩
theorem q0c.gone(hC:COk c)(hn:n≤16)(hk:k≤100000)(h:q0c c ps n k m xs g r)(hx:xs[t]? =some x)(ha:x.at'=some a)(he:a.ph= .lv)(hat:x'.at'=none)(hT:g'.T.length=n)(hO:g'.O.length=n)(hd:g'.d=g.d)
  (hu:∀u,u≠t→g'.T[u]? =g.T[u]? ∧g'.O.getD u []=g.O.getD u []) (hth:∀p,ps[t]? =some p→ThR c p g'.T[t]? (g'.O.getD t []) x' (r t)):q0c c ps n (k+1) (qh c t m a).1 (xs.set t x') g' r:=by
 refine h.put hC hn hk hx ha (fun a' h=>by rw[hat] at h;cases h) hT hO (by rw[hd];exact h.dl) (fun u e=>⟨(hu u e).1,(hu u e).2,rfl⟩) hth (fun a' h=>by rw[hat] at h;cases h) (fun _ o ho=>by unfold pnd at ho;rw[he] at ho;cases ho) (fun q _ _=> .inl (by rw[hd])) ?_;rw[qdI (fun A V e=>by rw[he] at e;cases e),hd];exact h.mr.keep hx (fun b hb A V e=>by rw[ha] at hb;cases hb;rw[he] at e;cases e) fun b hb=>by rw[hat] at hb;cases hb
theorem q0c.advE(hC:COk c)(hn:n≤16)(hk:k≤100000)(h:q0c c ps n k m xs g r)(hx:xs[t]? =some x)(ha:x.at'=some a)(hp:ps[t]? =some p)(hpo:PrO p)(hdn:a.dn=true)(he:a.ph= .lv):
  q0c c ps n (k+1) (qh c t m a).1 (xs.set t (x.endG p {a with ph:= .idle,st:=2})) g r:=by
 have hR:=h.th t x p hx hp;unfold ThR at hR;rw[ha] at hR;dsimp only at hR;rw[if_pos hdn] at hR;obtain⟨hR1,hR2,hD⟩:=hR;obtain⟨o1,o2,_,_⟩:=qbG hpo hD.bg;refine h.gone hC hn hk hx ha he q6b h.tl h.ol rfl (fun u _=>⟨rfl,rfl⟩) fun p' hp'=> ?_
 rw[hp] at hp';cases hp';rw[hR1,hR2]
 by_cases h1:a.code=1
 ·rw[qhK (a:={a with ph:= .idle,st:=2}) h1];unfold ThR GT.to qdZ qep;dsimp only;rw[if_pos h1,if_pos h1,h1];exact⟨rfl,rfl,o2,o1,rfl,fun e=>absurd hD.fn e,fun e=>absurd rfl e⟩
 ·have h9:a.code≠9:=by have:=hD.cd;omega
  rw[qki (a:={a with ph:= .idle,st:=2}) h1 (fun e=>h9 e.1)];have hf:qmi {a with ph:= .idle,st:=2}=a.code:=if_neg h9;rw[hf];unfold ThR GT.to qdZ qep;dsimp only;rw[if_neg h1,if_neg h1];exact⟨rfl,rfl,o2,o1,rfl,fun e=>absurd hD.fn e,fun e=>absurd rfl e⟩
theorem qaq(hgt:g.T[t]? =some ⟨x.bg,x.sv,x.th.oc,false⟩)(hp:ps[t]? =some p)(hb:∃ib,p[x.bg]? =some ib∧ib.op=7){f:Int}(hf:3≤f∧f≤6):
  chM c ps g ⟨(t:Int),f,[]⟩=some (g.fin t ⟨q0t p x.bg+1,x.sv,f,decide (q0t p x.bg+1=p.length)⟩ [⟨x.bg,3,f⟩]):=by
 obtain⟨ib,hib,h7⟩:=hb;unfold chM;rw[if_neg (by dsimp only;omega),zB,hgt,hp];dsimp only;rw[if_neg Y7,hib];dsimp only;rw[if_pos h7];unfold txM;rw[if_pos Y6,if_pos ⟨hf,rfl⟩]
theorem q0c.advC(hC:COk c)(hn:n≤16)(hk:k≤100000)(h:q0c c ps n k m xs g r)(hx:xs[t]? =some x)(ha:x.at'=some a)(hp:ps[t]? =some p)(hpo:PrO p)(hdn:a.dn=false)(he:a.ph= .lv):
  ((x.endG p {a with ph:= .idle,st:=2}).rest=false∧q0c c ps n (k+1) (qh c t m a).1 (xs.set t (x.endG p {a with ph:= .idle,st:=2})) g r)∨
  ((x.endG p {a with ph:= .idle,st:=2}).rest=true∧∃g',q6w c ps g [⟨t,(x.endG p {a with ph:= .idle,st:=2}).th.oc,[]⟩]=some g'∧q0c c ps n (k+1) (qh c t m a).1 (xs.set t (x.endG p {a with ph:= .idle,st:=2})) g' r):=by
 have htn:t<n:=by rw[←h.xl];exact(z7.1 hx).1
 have hR:=h.th t x p hx hp;unfold ThR at hR;rw[ha] at hR;dsimp only at hR;rw[if_neg (by rw[hdn];decide)] at hR;obtain⟨hR1,hR2,hT⟩:=hR;obtain⟨o1,o2,o3,o4⟩:=qbG hpo hT.bg;have hcd:a.code=3∨a.code=6∨a.code=9:=by
  rcases hT.ph with ⟨j,e,_⟩|⟨_,_,_,i,_,e⟩|⟨_,e⟩
  ·rw[he] at e;cases e
  ·unfold q2L at e;rw[he] at e;exact e.elim
  ·exact e
 by_cases hr:a.code=9∧(x.tr:Int)<((p[x.bg]?).map (·.imm)).getD 0
 ·left;rw[qhL (a:={a with ph:= .idle,st:=2}) hr.1 hr.2];have hrest:(({x with at':=none,th:={x.th with rg:=x.sv}}:GT).to p.length x.bg).rest=false:=by
   unfold GT.rest GT.to;dsimp only;rw[decide_eq_false hT.tr,Y4]
  refine⟨hrest,h.gone hC hn hk hx ha he rfl h.tl h.ol rfl (fun u _=>⟨rfl,rfl⟩) fun p' hp'=> ?_⟩;rw[hp] at hp';cases hp';rw[hR1,hR2];unfold ThR GT.to;dsimp only;have hne:decide (x.bg=p.length)=false:=decide_eq_false Y6;rw[hne];exact⟨rfl,rfl,Y6,o3,rfl,fun e=>absurd hT.fn e,fun _=>hT.bg⟩
 ·right;rw[qki (a:={a with ph:= .idle,st:=2}) (by show a.code≠1;omega) hr];have hf:qmi {a with ph:= .idle,st:=2}=if a.code=9 then 5 else a.code:=rfl
  rw[hf];generalize hfe:(if a.code=9 then(5:Int) else a.code)=f;have hfr:3≤f∧f≤6:=by rw[←hfe];split <;>omega
  have hch:=qaq (c:=c) (x:=x) hR1 hp hT.bg hfr;refine⟨by unfold GT.rest GT.to;dsimp only;rw[hT.fn];rfl,_,q4e hch,?_⟩;refine h.gone hC hn hk hx ha he rfl ?_ ?_ rfl (fun u hu=>⟨?_,?_⟩) fun p' hp'=> ?_
  ·show(g.T.set t _).length=n;rw[zj];exact h.tl
  ·show(g.O.set t _).length=n;rw[zj];exact h.ol
  ·show(g.T.set t _)[u]? =_;rw[zv,if_neg (fun e=>hu e.symm)]
  ·show(g.O.set t _).getD u []=_;rw[zh,zv,if_neg (fun e=>hu e.symm),zh]
  ·rw[hp] at hp';cases hp';have e1:(g.T.set t ⟨q0t p x.bg+1,x.sv,f,decide (q0t p x.bg+1=p.length)⟩)[t]? =some ⟨q0t p x.bg+1,x.sv,f,decide (q0t p x.bg+1=p.length)⟩:=by
    rw[zv,if_pos rfl,if_pos (by rw[h.tl];exact htn)]
   have e2:(g.O.set t (g.O.getD t []++ [⟨x.bg,3,f⟩])).getD t []=x.obs++ [⟨x.bg,3,f⟩]:=by
    rw[zh,zv,if_pos rfl,if_pos (by rw[h.ol];exact htn),←hR2];rfl
   show ThR c p (g.T.set t _)[t]? ((g.O.set t _).getD t []) _ _;rw[e1,e2];unfold ThR GT.to;dsimp only;exact⟨rfl,rfl,o2,o1,rfl,fun e=>absurd hT.fn e,fun e=>absurd rfl e⟩
end
open Go
section
variable{c:Cfg}{ps:List (List Ins)}{n k:Nat}{m m':MS}{xs:List GT}{g g':GS}{r r':Nat→List (Int×Int)}{t u:Nat}{x x':GT}{a b:AT}{p:List Ins}{i:Ins}
theorem q0c.mono(h:q0c c ps n k m xs g r):q0c c ps n (k+1) m xs g r:=⟨h.gm.mono,h.xl,h.pl,h.tl,h.ol,h.dl,h.ai,h.ds,h.th,h.va,h.mr⟩
theorem q0c.calm(h:q0c c ps n k m xs g r)(hx:xs[t]? =some x)(h1:m'.o=m.o)(h2:m'.ck=m.ck)(h3:m'.sv=m.sv)(h4:m'.tk=m.tk)(h5:m'.sl=m.sl)(h6:m'.d.length=m.d.length)
  (hai:∀a',x'.at'=some a'→AI c t m a'∧a'.ph.tick=false) (hT:g'.T.length=n) (hO:g'.O.length=n) (hd:(g'.d.length:Int)=c.words) (hu:∀u,u≠t→g'.T[u]? =g.T[u]? ∧g'.O.getD u []=g.O.getD u []∧r' u=r u)
  (hth:∀p,ps[t]? =some p→ThR c p g'.T[t]? (g'.O.getD t []) x' (r' t)) (hva:∀a',x'.at'=some a'→a'.dn=false→VA c m' (xs.set t x') g'.d a' (r' t))
  (hvo:∀(u:Nat) y b,u≠t→xs[u]? =some y→y.at'=some b→b.dn=false→VA c m xs g.d b (r u)→VA c m' (xs.set t x') g'.d b (r u)) (hmr:MR (xs.set t x') m'.d g'.d):q0c c ps n k m' (xs.set t x') g' r':=by
 refine⟨⟨by rw[h1];exact h.gm.o,by rw[h1];exact h.gm.ol,by rw[h6];exact h.gm.dl,by rw[h5];exact h.gm.sl,by rw[h3,h4];exact h.gm.sv,by rw[h4];exact h.gm.tk,by rw[h2];exact h.gm.ck⟩,by rw[zj];exact h.xl,h.pl,hT,hO,hd,fun u y b hy hb=> ?_,fun u v y z b d hy hz hb hd' huv e1 e2=> ?_,fun u y p hy hp=> ?_,fun u y b hy hb hdn=> ?_,hmr⟩
 ·by_cases e:u=t
  ·subst e;rw[q0u hx] at hy;cases hy;exact(hai b hb).1.cong h1 h2 h3 h4
  ·rw[q0v e] at hy;exact(h.ai u y b hy hb).cong h1 h2 h3 h4
 ·by_cases eu:u=t
  ·subst eu;rw[q0u hx] at hy;cases hy;rw[(hai b hb).2] at e1;cases e1
  ·by_cases ev:v=t
   ·subst ev;rw[q0u hx] at hz;cases hz;rw[(hai d hd').2] at e2;cases e2
   ·rw[q0v eu] at hy;rw[q0v ev] at hz;exact h.ds u v y z b d hy hz hb hd' huv e1 e2
 ·by_cases e:u=t
  ·subst e;rw[q0u hx] at hy;cases hy;exact hth p hp
  ·rw[q0v e] at hy;obtain⟨f1,f2,f3⟩:=hu u e;rw[f1,f2,f3];exact h.th u y p hy hp
 ·by_cases e:u=t
  ·subst e;rw[q0u hx] at hy;cases hy;exact hva b hb hdn
  ·rw[q0v e] at hy;rw[(hu u e).2.2];exact hvo u y b e hy hb hdn (h.va u y b hy hb hdn)
theorem VA.calm{rr:List (Int×Int)}{gd:List Int}(hx:xs[t]? =some x)(h1:m'.o=m.o)(hno:∀a,x.at'=some a→a.dn=false)(h:VA c m xs gd b rr):VA c m' (xs.set t x') gd b rr:=by
 rcases h with ⟨q,hq,hv⟩|h
 ·exact .inl ⟨q,hq,by rw[q3p h1];exact hv⟩
 ·exact .inr fun q hq hv=>by
   rw[q3p h1] at hv;exact(h q hq hv).imp (fun hp=>hp.keep hx fun a ha hd _=>by rw[hno a ha] at hd;cases hd) id
theorem q0c.still(h:q0c c ps n k m xs g r)(hx:xs[t]? =some x)(ha:x.at'=none)(ha':x'.at'=none)(hth:∀p,ps[t]? =some p→ThR c p g.T[t]? (g.O.getD t []) x' (r t)):q0c c ps n k m (xs.set t x') g r:=
 h.calm hx rfl rfl rfl rfl rfl rfl (fun a' e=>by rw[ha'] at e;cases e) h.tl h.ol h.dl (fun u _=>⟨rfl,rfl,rfl⟩) hth (fun a' e=>by rw[ha'] at e;cases e) (fun u y b _ _ _ _ hv=>hv.calm hx rfl fun a e=>by rw[ha] at e;cases e) (h.mr.keep hx (fun b hb=>by rw[ha] at hb;cases hb) fun b hb=>by rw[ha'] at hb;cases hb)
theorem q0c.solo(h:q0c c ps n k m xs g r)(hx:xs[t]? =some x)(ha:x.at'=none)(ha':x'.at'=none)(l:List ObM)(th:Thr)(hth:∀p,ps[t]? =some p→ThR c p (some th) (g.O.getD t []++l) x' (r t)):q0c c ps n k m (xs.set t x') (g.fin t th l) r:=by
 have htn:t<n:=by rw[←h.xl];exact(z7.1 hx).1
 have hno:∀a,x.at'=some a→a.dn=false:=fun a e=>by rw[ha] at e;cases e
 have hm:MR (xs.set t x') m.d g.d:=h.mr.keep hx (fun b hb=>by rw[ha] at hb;cases hb) fun b hb=>by rw[ha'] at hb;cases hb
 refine h.calm hx rfl rfl rfl rfl rfl rfl (fun a' e=>by rw[ha'] at e;cases e) ?_ ?_ h.dl (fun u hu=>⟨?_,?_,rfl⟩) (fun p hp=> ?_) (fun a' e=>by rw[ha'] at e;cases e) (fun u y b _ _ _ _ hv=>hv.calm hx rfl hno) hm
 ·show(g.T.set t _).length=n;rw[zj];exact h.tl
 ·show(g.O.set t _).length=n;rw[zj];exact h.ol
 ·show(g.T.set t _)[u]? =_;rw[zv,if_neg (fun e=>hu e.symm)]
 ·show(g.O.set t _).getD u []=_;rw[zh,zv,if_neg (fun e=>hu e.symm),zh]
 ·have e1:(g.T.set t th)[t]? =some th:=by rw[zv,if_pos rfl,if_pos (by rw[h.tl];exact htn)]
  have e2:(g.O.set t (g.O.getD t []++l)).getD t []=g.O.getD t []++l:=by
   rw[zh,zv,if_pos rfl,if_pos (by rw[h.ol];exact htn)];rfl
  show ThR c p (g.T.set t _)[t]? ((g.O.set t _).getD t []) _ _;rw[e1,e2];exact hth p hp
theorem q0c.ask(h:q0c c ps n k m xs g r)(hx:xs[t]? =some x)(hno:∀a,x.at'=some a→a.dn=false∧∀A V,a.ph≠ .wr A V)(ha':x'.at'=some a)(hdn:a.dn=false)(htk:a.ph.tick=false)(hA:AI c t m a)(rt:List (Int×Int))
  (hth:∀p,ps[t]? =some p→ThR c p g.T[t]? (g.O.getD t []) x' rt) (hva:VA c m (xs.set t x') g.d a rt):q0c c ps n k m (xs.set t x') g (upR r t rt):=by
 refine h.calm hx rfl rfl rfl rfl rfl rfl (fun a' e=>by rw[ha'] at e;cases e;exact⟨hA,htk⟩) h.tl h.ol h.dl (fun u hu=>⟨rfl,rfl,qaf hu⟩) (fun p hp=>by rw[q5U];exact hth p hp) (fun a' e _=>by rw[ha'] at e;cases e;rw[q5U];exact hva) (fun u y b _ _ _ _ hv=>hv.calm hx rfl fun a ha=>(hno a ha).1) ?_;exact h.mr.keep hx (fun b hb=>(hno b hb).2) fun b hb=>by rw[ha'] at hb;cases hb;exact hA.nwr hdn
end
open Go
def RdN(x x':GT)(l l':List (Int×Int)):Prop:=∀a',x'.at'=some a'→a'.dn=false→l'=match x.at' with
 |none=> []
 |some a=>if a'.busy then l else l++fl a
section
variable{c:Cfg}{ps:List (List Ins)}{n k:Nat}{m m':MS}{xs:List GT}{g g':GS}{r r':Nat→List (Int×Int)}{t u:Nat}{x x':GT}{a b:AT}{p:List Ins}{i:Ins}{s:StM}
theorem q9a(h:x'.at'=some a)(hd:a.dn=false):chN x x' s= []:=by
 have h1:x'.dec=false:=by unfold GT.dec;rw[h];exact hd
 have h2:x'.rest=false:=by unfold GT.rest;rw[h];rfl
 unfold chN;rw[h1,h2];simp
theorem qhD(h:x'.at'=some a)(hs:s.ph≠16):chN x x' s= []:=by
 have h2:x'.rest=false:=by unfold GT.rest;rw[h];rfl
 unfold chN;rw[if_neg hs,h2];simp
theorem qjw(h:(qh c t m a).2.2.2=16):a.ph= .dc:=by
 unfold qh at h;cases e:a.ph with
 |dc=>rfl
 |ent j=>
  rw[e] at h;dsimp only at h
  split at h
  ·cases h
  ·split at h <;>cases h
 |rd j b v=>
  rw[e] at h;dsimp only at h
  split at h
  ·cases h
  ·split at h <;>cases h
 |lk s l=>
  rw[e] at h;dsimp only at h
  split at h
  ·cases h
  ·split at h <;>cases h
 |tn b=>
  rw[e] at h;dsimp only at h
  split at h <;>cases h
 |_=>rw[e] at h;cases h
theorem q0c.n'(h:q0c c ps n k m xs g r){z:Nat}:q0c c ps n k m xs {g with n:=z} r:=⟨h.gm,h.xl,h.pl,h.tl,h.ol,h.dl,h.ai,h.ds,h.th,h.va,h.mr⟩
def q0h(c:Cfg)(ps:List (List Ins))(n k:Nat)(xs:List GT)(g:GS)(r:Nat→List (Int×Int))(t:Nat)(x:GT)(z:MS×GT×StM×List EvM):Prop:=
 ∃g' r',q6w c ps g (chN x z.2.1 z.2.2.1)=some g'∧q0c c ps n (k+1) z.1 (xs.set t z.2.1) g' r'∧(∀u,u≠t→r' u=r u)∧RdN x z.2.1 (r t) (r' t)
theorem q0c.busy(hC:COk c)(hn:n≤16)(hk:k≤100000)(h:q0c c ps n k m xs g r)(hx:xs[t]? =some x)(ha:x.at'=some a)(hb:a.busy=true)(hp:ps[t]? =some p)(hpo:PrO p)(hi:p[x.th.pc]? =some i):q0h c ps n k xs g r t x (q0M c p t m x a i):=by
 unfold q0h
 by_cases hdn:a.dn=true
 ·by_cases hlv:a.ph= .lv
  ·have hE:=h.advE hC hn hk hx ha hp hpo hdn hlv;rw[qgt hlv];refine⟨g,r,?_,hE,fun _ _=>rfl,fun a' e=> ?_⟩
   ·have hd:x.dec=true:=by unfold GT.dec;rw[ha];exact hdn
    unfold chN;dsimp only;rw[if_neg Y7,if_pos rfl,if_pos (.inl hd)];rfl
   ·rw[show((_:MS),(_:GT),(_:StM),(_:List EvM)).2.1=_ from rfl,q6b] at e;cases e
  ·obtain⟨d1,d2,hD⟩:=h.advD hC hn hk hx ha hp hdn hlv;have e1:(q0M c p t m x a i).2.1={x with at':=some (qh c t m a).2.1}:=by rw[q7V,if_pos d2]
   refine⟨g,r,?_,by rw[e1];exact hD,fun _ _=>rfl,fun a' e ed=> ?_⟩
   ·rw[qhD (a:=(qh c t m a).2.1) (by rw[e1])]
    ·rfl
    ·intro e;have:=qjw (c:=c) (t:=t) (m:=m) (a:=a) e;have:=(h.ai t x a hx ha).ph;unfold PhA at this;rename_i hdc;rw[hdc] at this;rw[this.1] at hdn;cases hdn
   ·rw[e1] at e;cases e;rw[d1] at ed;cases ed
 ·have hdn:a.dn=false:=by simpa using hdn
  by_cases hlv:a.ph= .lv
  ·have hno:∀l l',RdN x (x.endG p {a with ph:= .idle,st:=2}) l l':=fun l l' a' e=>by rw[q6b] at e;cases e
   have hd:x.dec=false:=by unfold GT.dec;rw[ha];exact hdn
   rw[qgt hlv]
   rcases h.advC hC hn hk hx ha hp hpo hdn hlv with ⟨hr,hG⟩|⟨hr,g',hg',hG⟩
   ·refine⟨g,r,?_,hG,fun _ _=>rfl,hno _ _⟩;unfold chN;dsimp only;rw[if_neg Y7,if_pos rfl,if_pos (.inr hr)];rfl
   ·refine⟨g',r,?_,hG,fun _ _=>rfl,hno _ _⟩;unfold chN;dsimp only;rw[if_neg Y7,if_pos rfl,if_neg (by rw[hd,hr];decide)];exact hg'
  ·by_cases hdn':(qh c t m a).2.1.dn=true
   ·obtain⟨hph,hX,hrun,hB⟩:=h.advB hC hn hk hx ha hb hp hpo hi hdn hlv hdn';refine⟨_,r,?_,hB,fun _ _=>rfl,fun a' e ed=> ?_⟩
    ·have h16:(q0M c p t m x a i).2.2.1.ph=16:=by
      show(qh c t m a).2.2.2=16;rw[q50 hph]
     have hd:(q0M c p t m x a i).2.1.dec=true:=by rw[hX];exact hdn'
     unfold chN;rw[if_pos h16,if_pos hd];exact hrun
    ·rw[hX] at e;cases e;rw[hdn'] at ed;cases ed
   ·have hdn':(qh c t m a).2.1.dn=false:=by simpa using hdn'
    obtain⟨rt,hrt,hA,a',hat,hda⟩:=h.advA hC hn hk hx ha hb hp hpo hi hdn hlv hdn';refine⟨g,_,by rw[q9a hat hda];rfl,hA,fun u hu=>qaf hu,fun a'' e _=> ?_⟩;rw[q5U,hrt,ha];dsimp only;have:a''=(qh c t m a).2.1:=by
     rw[q7V] at e
     split at e
     ·exact(Option.some.inj e).symm
     ·rename_i hb';unfold GT.ans at e
      split at e
      ·rw[q6b] at e;cases e
      ·split at e <;>exact(Option.some.inj e).symm
    rw[this]
end
open Go
section
variable{c:Cfg}{ps:List (List Ins)}{n k:Nat}{m m':MS}{xs:List GT}{g g':GS}{r r':Nat→List (Int×Int)}{t u:Nat}{x x':GT}{a b:AT}{p:List Ins}{i:Ins}{s:StM}
theorem qgs(z:Option AT):q0M c p t m {x with at':=z} a i=q0M c p t m x a i:=by
 unfold q0M GT.ans GT.endG;rfl
theorem set_set(y z:GT):(xs.set t y).set t z=xs.set t z:=yc ..
theorem VA.own{gd:List Int}{rr:List (Int×Int)}(hx:xs[t]? =some x)(hno:∀a,x.at'=some a→a.dn=false)(hrv:b.rv=a.rv)(hfl:∀q,q∈fl b→q∈fl a)(h:VA c m xs gd a rr):VA c m (xs.set t x') gd b rr:=by
 rcases h with ⟨q,hq,hv⟩|h
 ·exact .inl ⟨q,hq,by rw[hrv];exact hv⟩
 ·exact .inr fun q hq hv=>by
   rw[hrv] at hv;exact(h q ((zz.1 hq).elim (fun h=>zN _ h) fun h=>zR _ (hfl q h)) hv).imp (fun hp=>hp.keep hx fun a ha hd _=>by rw[hno a ha] at hd;cases hd) id
theorem q0c.virt(hC:COk c)(hn:n≤16)(hk:k≤100000)(hx:xs[t]? =some x){x0:GT}{rt:List (Int×Int)}(h:q0c c ps n k m (xs.set t {x0 with at':=some a}) g (upR r t rt))(hb:a.busy=true)(hdn:a.dn=false)(hlv:a.ph≠ .lv)(hfl:∀q,q∈fl a→False)(hdc:a.ph≠ .dc)(hp:ps[t]? =some p)(hpo:PrO p)(hi:p[x0.th.pc]? =some i)
  (hrt:rt=match x.at' with|none=> []|some a=>r t++fl a) (hrb:∀a,x.at'=some a→fl a= []):q0h c ps n k xs g r t x (q0M c p t m x0 a i):=by
 have hx':=q0u (z:={x0 with at':=some a}) hx;have hst:=h.busy hC hn hk hx' rfl hb hp hpo hi;unfold q0h at hst ⊢;rw[qgs,set_set] at hst;have hfl0:fl a= []:=List.eq_nil_iff_forall_not_mem.2 hfl
 --the attempt goes on
 have hR:=h.th t _ p hx' hp;unfold ThR at hR;dsimp only at hR;rw[if_neg (by rw[hdn];decide)] at hR;obtain⟨_,_,_,hat,hT,hD⟩:=hR.2.2.adv (t:=t) (m:=m) hpo (h.ai t _ a hx' rfl) hi hb hdn hlv;rw[qgs] at hat;have hdn':(qh c t m a).2.1.dn=false:=by
  refine Bool.eq_false_iff.2 fun e=>hdc (hD e).1
 obtain⟨g',r',h1,h2,h3,h4⟩:=hst;rw[q9a hat hdn'] at h1;refine⟨g',r',by rw[q9a hat hdn'];exact h1,h2,fun u hu=>(h3 u hu).trans (qaf hu),fun a' e ed=> ?_⟩;have:=h4 a' e ed;dsimp only at this;rw[q5U,hfl0,zC,hrt] at this;rw[this];cases hxa:x.at' with
 |none=>dsimp only;split <;>rfl
 |some b=>dsimp only;rw[hrb b hxa,zC]
theorem q65{th:Thr}(hgt:g.T[t]? =some th)(hdn:th.dn=false)(hp:ps[t]? =some p)(hi:p[th.pc]? =some i)(h7:i.op≠7):chM c ps g ⟨(t:Int),0,[]⟩=sgM c p g th t 0 i:=by
 unfold chM;rw[if_neg (by dsimp only;omega),zB,hgt,hp];dsimp only;rw[if_neg (by rw[hdn];decide),hi];dsimp only;rw[if_neg h7,if_pos rfl]
theorem q0c.e'(h:q0c c ps n k m xs g r){z:List EvM}:q0c c ps n k m xs {g with E:=z} r:=⟨h.gm,h.xl,h.pl,h.tl,h.ol,h.dl,h.ai,h.ds,h.th,h.va,h.mr⟩
theorem q0h.solo(h:q0c c ps n k m xs g r)(hx:xs[t]? =some x)(ha:x.at'=none)(ha':x'.at'=none)(hr:x'.rest=true)(hs:s.at'=0∧s.ph≠16∧s.ph≠24∧s.t=t)(l:List ObM)(th:Thr)(hth:∀p,ps[t]? =some p→ThR c p (some th) (g.O.getD t []++l) x' (r t))
  {E:List EvM} (hch:chM c ps g ⟨(t:Int),0,[]⟩=some {g.fin t th l with E:=E}) (e:List EvM):q0h c ps n k xs g r t x (m,x',s,e):=by
 have hG:=h.solo hx ha ha' l th hth;refine⟨{{g.fin t th l with E:=E} with n:=g.n+1},r,?_,hG.e'.n'.mono,fun _ _=>rfl,fun a' e=>by rw[ha'] at e;cases e⟩;unfold chN;rw[if_neg hs.2.1,if_neg hs.2.2.1,if_neg (by rw[hs.1,hr];decide),hs.2.2.2];exact q4e hch
theorem q0c.out(h:q0c c ps n k m xs g r)(hx:xs[t]? =some x)(hp:ps[t]? =some p)(ha:x.at'=none):g.T[t]? =some x.th∧g.O.getD t []=x.obs∧x.th.pc≤p.length∧stB p x.th.pc<0∧x.th.dn=decide (x.th.pc=p.length)∧(x.fn≠none→x.tr=0∧∃i,p[x.th.pc]? =some i∧i.op=16)∧(x.tr≠0→∃i,p[x.th.pc]? =some i∧i.op=7):=by
 have:=h.th t x p hx hp;unfold ThR at this;rw[ha] at this;exact this
theorem qeS(hk:stB p k<0)(hi:p[k]? =some i)(h7:i.op≠7):stB p (k+1)<0∧k+1≤p.length:=by
 refine⟨?_,(z7.1 hi).1⟩;rw[q24 hi];unfold q18;rw[if_neg h7]
 split
 ·decide
 ·exact hk
theorem ThR.rest(hk:stB p x.th.pc<0)(hi:p[x.th.pc]? =some i)(h7:i.op≠7){X:GT}(ha:X.at'=none)(hf:X.fn=none)(ht:X.tr=0)(l:List ObM)(hl:X.obs=l)(th:Thr)(hth:th={X.th with pc:=x.th.pc+1,dn:=decide (x.th.pc+1=p.length)})(rr:List (Int×Int)):ThR c p (some th) l (X.to p.length (x.th.pc+1)) rr∧(X.to p.length (x.th.pc+1)).rest=true:=by
 obtain⟨o1,o2⟩:=qeS hk hi h7;refine⟨?_,?_⟩
 ·unfold ThR GT.to;dsimp only;rw[ha];exact⟨by rw[hth],hl.symm,o2,o1,rfl,fun e=>absurd hf e,fun e=>absurd ht e⟩
 ·unfold GT.rest GT.to;dsimp only;rw[ha,hf,ht];rfl
theorem q0h.wait(h:q0c c ps n k m xs g r)(hx:xs[t]? =some x)(hp:ps[t]? =some p)(ha:x.at'=none)(hi:p[x.th.pc]? =some i)(h16:i.op=16)(hdn:x.th.dn=false)(f:FT):q0h c ps n k xs g r t x (q0n n p t m x f):=by
 obtain⟨q1,q2,q3,q4,q5,q6,q7⟩:=h.out hx hp ha;have htr:x.tr=0:=Decidable.byContradiction fun e=>by
  obtain⟨j,hj,h7⟩:=q7 e;rw[hi] at hj;cases hj;omega
 clear q6 q7;have hph:(q2Q t m f).2.2=25∨(q2Q t m f).2.2=26:=by unfold q2Q;split;exact .inl rfl;exact .inr rfl
 unfold q0n
 split
 ·obtain⟨r1,r2⟩:=ThR.rest (c:=c) (x:=x) q4 hi Y6 (X:={x with fn:=none,obs:=x.obs++ [⟨x.th.pc,6,0⟩]}) ha rfl htr (x.obs++ [⟨x.th.pc,6,0⟩]) rfl {q1q x.th i with dn:=decide ((q1q x.th i).pc=p.length)} (by
   unfold q1q q3S q1o;rw[if_neg Y6,if_neg Y6,if_neg Y6,if_neg Y6,if_neg Y6]) (r t)
  refine q0h.solo (E:=g.E) (x':=({x with fn:=none,obs:=x.obs++ [⟨x.th.pc,6,0⟩]}:GT).to p.length (x.th.pc+1)) h hx ha ha r2 ⟨rfl,by(try dsimp only);omega,by(try dsimp only);omega,rfl⟩ [⟨x.th.pc,6,0⟩] {q1q x.th i with dn:=decide ((q1q x.th i).pc=p.length)} (fun p' hp'=> ?_) ?_ []
  ·rw[hp] at hp';cases hp';rw[q2];exact r1
  ·rw[q65 q1 hdn hp hi Y6];unfold sgM;rw[if_neg Y6,if_neg Y7,if_pos h16];rfl
 ·rename_i hlt;refine⟨g,r,?_,(h.still hx ha (by exact ha) fun p' hp'=> ?_).mono,fun _ _=>rfl,fun a' e=> ?_⟩
  ·have hr:({x with fn:=some (q2Q t m f).1}:GT).rest=false:=by
    unfold GT.rest;dsimp only;rw[Option.isNone_some,Y4,yX]
   unfold chN;dsimp only;rw[if_neg Y6,if_neg Y6,if_pos (.inr hr)];rfl
  ·rw[hp] at hp';cases hp';unfold ThR;dsimp only;rw[ha];exact⟨q1,q2,q3,q4,q5,fun _=>⟨htr,i,hi,h16⟩,fun e=>absurd htr e⟩
  ·dsimp only at e;rw[ha] at e;cases e
theorem q0h.locO(h:q0c c ps n k m xs g r)(hx:xs[t]? =some x)(hp:ps[t]? =some p)(hpo:PrO p)(ha:x.at'=none)(hfn:x.fn=none)(hi:p[x.th.pc]? =some i)(hop:(0≤i.op∧i.op≤6)∨i.op=17)(hdn:x.th.dn=false):
  q0h c ps n k xs g r t x (m,{x with th:={q1q x.th i with dn:=decide ((q1q x.th i).pc=p.length)}},⟨t,0,0,acz⟩,[]):=by
 obtain⟨q1,q2,q3,q4,q5,q6,q7⟩:=h.out hx hp ha;have htr:x.tr=0:=Decidable.byContradiction fun e=>by
  obtain⟨j,hj,h7⟩:=q7 e;rw[hi] at hj;cases hj;omega
 clear q6 q7;obtain⟨l1,l2,_,l4⟩:=qca hpo.ck hi Y6;refine q0h.solo (E:=g.E) h hx ha (by exact ha) ?_ ⟨rfl,by show(0:Int)≠16;decide,by show(0:Int)≠24;decide,rfl⟩ [] {q1q x.th i with dn:=decide ((q1q x.th i).pc=p.length)} (fun p' hp'=> ?_) ?_ []
 ·unfold GT.rest;dsimp only;rw[ha,hfn,htr];rfl
 ·rw[hp] at hp';cases hp';unfold ThR;dsimp only;rw[ha];exact⟨rfl,by rw[q2,zC],l2,qjt hpo.ck q4 l1 l2 hi Y6 (l4 q4),rfl,fun e=>absurd hfn e,fun e=>absurd htr e⟩
 ·rw[q65 q1 hdn hp hi Y6];unfold sgM;rw[if_neg Y6,if_neg Y7,if_neg Y6];rfl
end
open Go
theorem qid{A V d:List Int}{a:Nat}{v:Int}(hl:A.length=V.length)(hn:(a:Int)∉A):lay A V (d.set a v)=(lay A V d).set a v:=by
 unfold lay;refine Zf fun j=> ?_
 rw[Zp,zv,zv,Zp,Y2]
 by_cases e:a=j
 ·subst e;rw[if_pos rfl,if_pos rfl]
  by_cases hj:a<d.length
  ·rw[if_pos hj,Zu,(q16 hl).2 hn];rfl
  ·rw[if_neg hj];rfl
 ·rw[if_neg e,if_neg e]
section
variable{c:Cfg}{ps:List (List Ins)}{n k:Nat}{m m':MS}{xs:List GT}{g g':GS}{r r':Nat→List (Int×Int)}{t u:Nat}{x x':GT}{a b:AT}{p:List Ins}{i:Ins}{s:StM}
def qm2(xs:List GT)(w:Int):Prop:=∀(u:Nat) (y:GT) (b:AT),xs[u]? =some y→y.at'=some b→∀A V,b.ph= .wr A V→w∉A
def qmo(c:Cfg)(m:MS)(xs:List GT)(r:Nat→List (Int×Int))(t:Nat)(w:Int):Prop:=
 ∀(u:Nat) (y:GT) (b:AT),u≠t→xs[u]? =some y→y.at'=some b→b.dn=false→(∃q∈r u++fl b,q.1.toNat=w.toNat)→qjR c m b (r u)
theorem q0c.same(h:q0c c ps n k m xs g r){w:Int}(h0:0≤w)(h1:w<c.words)(hw:qm2 xs w):g.d.getD w.toNat 0=m.d.getD w.toNat 0:=by
 rcases h.mr with ⟨u,y,b,A,V,hy,hb,he,hg⟩|⟨_,hg⟩
 ·have hp:=(h.ai u y b hy hb).ph;unfold PhA at hp;rw[he] at hp;have hdl:=h.gm.dl;have e2:((w.toNat:Nat):Int)=w:=Z6 h0;rw[hg,q7e Y6,e2,(q16 hp.2.2.2.2.2.1).2 (hw u y b hy hb A V he)];rfl
 ·rw[hg]
theorem q0h.plain(h:q0c c ps n k m xs g r)(hx:xs[t]? =some x)(hp:ps[t]? =some p)(ha:x.at'=none)(hfn:x.fn=none)(hi:p[x.th.pc]? =some i)(hop:i.op=12∨i.op=13)(hdn:x.th.dn=false)
  (hs:q1b x i<c.words→qm2 xs (q1b x i)∧(i.op=13→qmo c m xs r t (q1b x i))):q0h c ps n k xs g r t x (q01 c p t m x i):=by
 obtain⟨q1,q2,q3,q4,q5,q6,q7⟩:=h.out hx hp ha;have htn:t<n:=by rw[←h.xl];exact(z7.1 hx).1
 have htr:x.tr=0:=Decidable.byContradiction fun e=>by
  obtain⟨j,hj,h7⟩:=q7 e;rw[hi] at hj;cases hj;omega
 clear q6 q7;have h0:0≤q1b x i:=q5o _ _ _;have hch:=q65 (c:=c) q1 hdn hp hi Y6;have hpe:q1b x i=adr x.th.rg (if i.op=12 then i.b else i.a) i.imm:=rfl;unfold sgM at hch;rw[if_pos hop] at hch;dsimp only at hch;rw[←hpe,if_neg Y7] at hch;unfold q01
 by_cases hw:c.words≤q1b x i
 ·rw[if_pos hw] at hch ⊢;obtain⟨r1,r2⟩:=ThR.rest (c:=c) (x:=x) q4 hi Y6 (X:={x with th:={x.th with rg:=if i.op=12 then x.th.rg.set i.a.toNat 0 else x.th.rg},obs:=x.obs++ [⟨x.th.pc,7,7⟩]}) ha hfn htr (x.obs++ [⟨x.th.pc,7,7⟩]) rfl (x.th.nxt p.length (if i.op=12 then x.th.rg.set i.a.toNat 0 else x.th.rg)) rfl (r t);refine q0h.solo (x':=({x with th:={x.th with rg:=if i.op=12 then x.th.rg.set i.a.toNat 0 else x.th.rg},obs:=x.obs++ [⟨x.th.pc,7,7⟩]}:GT).to p.length (x.th.pc+1)) h hx ha ha r2 ⟨rfl,by show(0:Int)≠16;decide,by show(0:Int)≠24;decide,rfl⟩ [⟨x.th.pc,7,7⟩] (x.th.nxt p.length (if i.op=12 then x.th.rg.set i.a.toNat 0 else x.th.rg)) (fun p' hp'=> ?_) (E:=g.E) hch [];rw[hp] at hp';cases hp';rw[q2];exact r1
 ·rw[if_neg hw] at hch ⊢;obtain⟨hs1,hs2⟩:=hs Y6;have hsame:=h.same h0 Y6 hs1
  by_cases h12:i.op=12
  ·rw[if_pos h12] at hch ⊢;rw[hsame] at hch;obtain⟨r1,r2⟩:=ThR.rest (c:=c) (x:=x) q4 hi Y6 (X:={x with th:={x.th with rg:=x.th.rg.set i.a.toNat (m.d.getD (q1b x i).toNat 0)},obs:=x.obs++ [⟨x.th.pc,4,m.d.getD (q1b x i).toNat 0⟩]}) ha hfn htr (x.obs++ [⟨x.th.pc,4,m.d.getD (q1b x i).toNat 0⟩]) rfl (x.th.nxt p.length (x.th.rg.set i.a.toNat (m.d.getD (q1b x i).toNat 0))) rfl (r t);refine q0h.solo (x':=({x with th:={x.th with rg:=x.th.rg.set i.a.toNat (m.d.getD (q1b x i).toNat 0)},obs:=x.obs++ [⟨x.th.pc,4,m.d.getD (q1b x i).toNat 0⟩]}:GT).to p.length (x.th.pc+1)) h hx ha ha r2 ⟨rfl,by show(1:Int)≠16;decide,by show(1:Int)≠24;decide,rfl⟩ [⟨x.th.pc,4,m.d.getD (q1b x i).toNat 0⟩] (x.th.nxt p.length (x.th.rg.set i.a.toNat (m.d.getD (q1b x i).toNat 0))) (fun p' hp'=> ?_) (E:=_) hch _;rw[hp] at hp';cases hp';rw[q2];exact r1
  ·rw[if_neg h12] at hch ⊢;have hnr:=hs2 Y6;obtain⟨r1,r2⟩:=ThR.rest (c:=c) (x:=x) q4 hi Y6 (X:={x with obs:=x.obs++ [⟨x.th.pc,5,x.th.rg.get i.b.toNat⟩]}) ha hfn htr (x.obs++ [⟨x.th.pc,5,x.th.rg.get i.b.toNat⟩]) rfl (x.th.nxt p.length x.th.rg) rfl (r t);have e1:(g.T.set t (x.th.nxt p.length x.th.rg))[t]? =some (x.th.nxt p.length x.th.rg):=by rw[zv,if_pos rfl,if_pos (by rw[h.tl];exact htn)]
   have e2:(g.O.set t (g.O.getD t []++ [⟨x.th.pc,5,x.th.rg.get i.b.toNat⟩])).getD t []=x.obs++ [⟨x.th.pc,5,x.th.rg.get i.b.toNat⟩]:=by
    rw[zh,zv,if_pos rfl,if_pos (by rw[h.ol];exact htn),←q2];rfl
   have hno:∀a,x.at'=some a→a.dn=false:=fun a e=>by rw[ha] at e;cases e
   refine⟨_,r,?_,q0c.n' (z:=g.n+1) (q0c.mono ((h.calm (m':={m with d:=m.d.set (q1b x i).toNat (x.th.rg.get i.b.toNat)}) (x':=({x with obs:=x.obs++ [⟨x.th.pc,5,x.th.rg.get i.b.toNat⟩]}:GT).to p.length (x.th.pc+1)) (g':=((g.mem (g.d.set (q1b x i).toNat (x.th.rg.get i.b.toNat)) g.tk).ev (plE c g.n t 2 (q1b x i))).fin t (x.th.nxt p.length x.th.rg) [⟨x.th.pc,5,x.th.rg.get i.b.toNat⟩]) hx rfl rfl rfl rfl rfl (by dsimp only;rw[zj]) (fun a' e=>(by rw[show(({x with obs:=x.obs++ [⟨x.th.pc,5,x.th.rg.get i.b.toNat⟩]}:GT).to p.length (x.th.pc+1)).at'=x.at' from rfl,ha] at e;cases e)) ?_ ?_ ?_ (fun u hu=>⟨?_,?_,rfl⟩) (fun p' hp'=> ?_) (fun a' e=>(by rw[show(({x with obs:=x.obs++ [⟨x.th.pc,5,x.th.rg.get i.b.toNat⟩]}:GT).to p.length (x.th.pc+1)).at'=x.at' from rfl,ha] at e;cases e)) (fun u y b hu hy hb hd hv=> ?_) ?_))),fun _ _=>rfl,fun a' e=> ?_⟩
   ·unfold chN;dsimp only;rw[if_neg Y7,if_neg Y7,r2,if_neg Y7];exact q4e hch
   ·show(g.T.set t _).length=n;rw[zj];exact h.tl
   ·show(g.O.set t _).length=n;rw[zj];exact h.ol
   ·show((g.d.set _ _).length:Int)=_;rw[zj];exact h.dl
   ·show(g.T.set t _)[u]? =_;rw[zv,if_neg (fun e=>hu e.symm)]
   ·show(g.O.set t _).getD u []=_;rw[zh,zv,if_neg (fun e=>hu e.symm),zh]
   ·rw[hp] at hp';cases hp';show ThR c p (g.T.set t (x.th.nxt p.length x.th.rg))[t]? ((g.O.set t (g.O.getD t []++ [⟨x.th.pc,5,x.th.rg.get i.b.toNat⟩])).getD t []) _ _;rw[e1,e2];exact r1
   ·by_cases hq:∃q∈r u++fl b,q.1.toNat=(q1b x i).toNat
    ·obtain⟨q,hq1,hq2⟩:=hnr u y b hu hy hb hd hq;exact .inl ⟨q,hq1,hq2⟩
    ·refine(VA.calm (m':={m with d:=m.d.set (q1b x i).toNat (x.th.rg.get i.b.toNat)}) hx rfl hno hv).imp id fun hv q hm hle=>(hv q hm hle).imp id fun e=> ?_
     show(g.d.set _ _).getD _ _=_;rw[q79 (fun e=>hq ⟨q,hm,e.symm⟩)];exact e
   ·show MR _ (m.d.set _ _) (g.d.set _ _)
    rcases h.mr with ⟨u,y,b,A,V,hy,hb,he,hg⟩|⟨hn,hg⟩
    ·left;have hut:u≠t:=by
      rintro rfl;rw[hx] at hy;cases hy;rw[ha] at hb;cases hb
     have hpp:=(h.ai u y b hy hb).ph;unfold PhA at hpp;rw[he] at hpp;refine⟨u,y,b,A,V,by rw[q0v hut];exact hy,hb,he,?_⟩;rw[qid hpp.2.2.2.2.2.1 (by rw[Z6 h0];exact hs1 u y b hy hb A V he),hg]
    ·right;refine⟨fun u y b hy hb=> ?_,by rw[hg]⟩
     by_cases hut:u=t
     ·subst hut;rw[q0u hx] at hy;cases hy;rw[show(({x with obs:=x.obs++ [⟨x.th.pc,5,x.th.rg.get i.b.toNat⟩]}:GT).to p.length (x.th.pc+1)).at'=x.at' from rfl,ha] at hb;cases hb
     ·rw[q0v hut] at hy;exact hn u y b hy hb
   ·rw[show(({x with obs:=x.obs++ [⟨x.th.pc,5,x.th.rg.get i.b.toNat⟩]}:GT).to p.length (x.th.pc+1)).at'=x.at' from rfl,ha] at e;cases e
theorem q0h.locT(h:q0c c ps n k m xs g r)(hx:xs[t]? =some x)(hp:ps[t]? =some p)(hpo:PrO p)(ha:x.at'=some a)(hid:a.ph= .idle)(hadn:a.dn=false)(hi:p[x.th.pc]? =some i)(hop:0≤i.op∧i.op≤6)
  (hR1:g.T[t]? =some ⟨x.bg,x.sv,x.th.oc,false⟩) (hR2:g.O.getD t []=x.obs) (hT:TL c p x a (r t)) (hfl:fl a= []):q0h c ps n k xs g r t x (m,{x with th:={q1q x.th i with dn:=decide ((q1q x.th i).pc=p.length)}},⟨t,0,if x.at'.isSome then x.ct else 0,acz⟩,[]):=by
 have hT':=hT.locI hpo hid hi hop;refine⟨g,r,?_,q0c.mono (h.calm hx rfl rfl rfl rfl rfl rfl (fun a' e=> ?_) h.tl h.ol h.dl (fun u _=>⟨rfl,rfl,rfl⟩) (fun p' hp'=> ?_) (fun a' e _=> ?_) (fun u y b _ _ _ _ hv=>hv.calm hx rfl fun b e=>by rw[ha] at e;cases e;exact hadn) (h.mr.keep hx (fun b e A V e2=>by rw[ha] at e;cases e;rw[hid] at e2;cases e2) fun b e A V e2=> ?_)),fun _ _=>rfl,fun a' e _=> ?_⟩
 ·rw[q9a (x':={x with th:={q1q x.th i with dn:=decide ((q1q x.th i).pc=p.length)}}) (a:=a) ha hadn];rfl
 ·have e:x.at'=some a':=e;rw[ha] at e;cases e;exact⟨h.ai t x a hx ha,by rw[hid];rfl⟩
 ·rw[hp] at hp';cases hp';unfold ThR;dsimp only;rw[ha];dsimp only;rw[if_neg (by rw[hadn];decide)];exact⟨hR1,hR2,hT'.at _⟩
 ·have e:x.at'=some a':=e;rw[ha] at e;cases e;exact VA.own hx (fun b e=>by rw[ha] at e;cases e;exact hadn) rfl (fun q hq=>hq) (h.va t x a hx ha hadn)
 ·have e:x.at'=some b:=e;rw[ha] at e;cases e;rw[hid] at e2;cases e2
 ·have e:x.at'=some a':=e;rw[ha] at e ⊢;cases e;dsimp only;rw[hfl,zC]
  split <;>rfl
theorem q0c.step(hC:COk c)(hn:n≤16)(hk:k≤100000)(h:q0c c ps n k m xs g r)(hx:xs[t]? =some x)(hp:ps[t]? =some p)(hpo:PrO p)(hdn:x.th.dn=false)
  (hs:∀i,p[x.th.pc]? =some i→x.at'=none→x.fn=none→(i.op=12∨i.op=13)→q1b x i<c.words→qm2 xs (q1b x i)∧(i.op=13→qmo c m xs r t (q1b x i))):q0h c ps n k xs g r t x (qN c p n t m x):=by
 have hR:=h.th t x p hx hp;unfold qN;cases ha:x.at' with
 |none=>
  obtain⟨q1,q2,q3,q4,q5,q6,q7⟩:=h.out hx hp ha;obtain⟨i,hi⟩:∃i,p[x.th.pc]? =some i:=by
   refine⟨_,z6 (yy q3 fun e=> ?_)⟩;rw[hdn] at q5;exact of_decide_eq_false q5.symm e
  rw[hi];dsimp only;have hrb:∀b,x.at'=some b→fl b= []:=fun b e=>by rw[ha] at e;cases e
  cases hf:x.fn with
  |some f=>
   obtain⟨_,j,hj,h16⟩:=q6 (by rw[hf];exact fun e=>by cases e);rw[hi] at hj;cases hj;exact q0h.wait h hx hp ha hi h16 hdn f
  |none=>
   dsimp only;unfold q2d;have ho:=qh0 hpo q4 hi
   by_cases hop:i.op=12∨i.op=13
   ·rw[if_pos hop];exact q0h.plain h hx hp ha hf hi hop hdn (hs i hi ha hf hop)
   ·rw[if_neg hop]
    by_cases h16:i.op=16
    ·rw[if_pos h16];exact q0h.wait h hx hp ha hi h16 hdn _
    ·rw[if_neg h16];unfold q15
     by_cases h7:i.op=7
     ·rw[if_pos h7];have hT:=TL.start (c:=c) (x:=x) hi h7 hdn hf;refine q0c.virt hC hn hk hx (rt:= []) (h.ask hx (fun a e=>by rw[ha] at e;cases e) rfl rfl rfl AI.start [] (fun p' hp'=> ?_) (.inr fun q hq=> ?_)) rfl rfl (fun e=>by cases e) (fun q hq=>by cases hq) (fun e=>by cases e) hp hpo hi (by rw[ha]) hrb
      ·rw[hp] at hp';cases hp';unfold ThR;dsimp only;rw[if_neg Y7,q1,q2];exact⟨by rw[←hdn],rfl,hT.at _⟩
      ·cases hq
     ·rw[if_neg h7,if_neg Y6];have e:(if x.at'.isSome then(x.ct:Int) else 0)=0:=by rw[ha];rfl
      rw[e];exact q0h.locO h hx hp hpo ha hf hi Y6 hdn
 |some a=>
  have hfn:x.fn=none:=by
   unfold ThR at hR;rw[ha] at hR;dsimp only at hR
   split at hR
   ·exact hR.2.2.fn
   ·exact hR.2.2.fn
  have hpc:∃i,p[x.th.pc]? =some i:=by
   unfold ThR at hR;rw[ha] at hR;dsimp only at hR;refine⟨_,z6 ?_⟩
   split at hR
   ·exact hR.2.2.pl
   ·exact hR.2.2.pl
  obtain⟨i,hi⟩:=hpc;rw[hi];dsimp only;rw[hfn];dsimp only
  by_cases hb:a.busy=true
  ·rw[if_pos hb];exact h.busy hC hn hk hx ha hb hp hpo hi
  ·rw[if_neg hb];have hid:a.ph= .idle:=by
    unfold AT.busy at hb;cases e:a.ph <;>rw[e] at hb <;>first|rfl|exact absurd rfl hb
   have hadn:a.dn=false:=by
    have:=(h.ai t x a hx ha).ph;unfold PhA at this;rw[hid] at this;exact this.1
   unfold ThR at hR;rw[ha] at hR;dsimp only at hR;rw[if_neg (by rw[hadn];decide)] at hR;obtain⟨hR1,hR2,hT⟩:=hR;obtain⟨i1,i2,_,_⟩:=hT.req (fun k e=>by rw[hid] at e;cases e) (by rw[hid];rfl);obtain⟨ib,hib,h7⟩:=hT.bg;obtain⟨_,_,_,j,hj,hop,_⟩:=q7b hpo hib h7 i1 i2;rw[hi] at hj;cases hj;have hfl:fl a= []:=by unfold fl;rw[hid]
   unfold q2d;rw[if_neg Y6,if_neg Y6];unfold q15;rw[if_neg Y6]
   by_cases hreq:8≤i.op∧i.op≤11
   ·rw[if_pos hreq,ha];dsimp only;obtain⟨f1,f2,f3,f4,f5,f6,f7,f8,f9⟩:=q9U hT (h.ai t x a hx ha) hid hi hreq;refine q0c.virt hC hn hk hx (rt:=r t) (h.ask hx (fun b e=>by rw[ha] at e;cases e;exact⟨hadn,fun A V e=>by rw[hid] at e;cases e⟩) rfl (by rw[f4];exact hadn) f7 f2 (r t) (fun p' hp'=> ?_) ?_) f3 (by rw[f4];exact hadn) f8 f6 (fun e=> ?_) hp hpo hi (by rw[ha];dsimp only;rw[hfl,zC]) (fun b e=>by rw[ha] at e;cases e;exact hfl)
    ·rw[hp] at hp';cases hp';unfold ThR;dsimp only;rw[if_neg (by rw[f4,hadn];decide)];exact⟨hR1,hR2,f1.at _⟩
    ·exact VA.own hx (fun b e=>by rw[ha] at e;cases e;exact hadn) f5 (fun q hq=>(f6 q hq).elim) (h.va t x a hx ha hadn)
    ·rw[e] at f7;cases f7
   ·rw[if_neg hreq];have hh:=q0h.locT h hx hp hpo ha hid hadn hi Y6 hR1 hR2 hT hfl;simp only[ha] at hh ⊢;exact hh
end
open Go
structure AtX(k:Nat)(a:AT):Prop where
 ls:a.set.length≤k
 ln:a.seen.length≤k
 cd:0≤a.code∧a.code≤9
 ck:0≤a.ck∧a.ck≤k
 vl:∀v∈a.vl,okU v
 val:okU a.val
 ph:match a.ph with
  | .loc (.en c)=>0≤c∧c≤9
  | .loc (.tk v)=>okU v
  | .loc (.wr _ v)=>okU v
  | .rd n b v=>(n=0∧b=0∧v=0)∨(n=1∧v=0)∨(n=2∧okU v)
  | .wr _ V=>∀v∈V,okU v
  |_=>True
def q4b(d:List Int):Prop:=∀v∈d,okU v
section
variable{c:Cfg}{t:Nat}{n k:Nat}{m m':MS}{a b:AT}{x:GT}{p:List Ins}{i:Ins}
theorem qm1:okU 0:=⟨Y7,Y7⟩
theorem q4b.at{d:List Int}(h:q4b d)(j:Nat):okU (d.getD j 0):=by
 rw[zh];cases e:d[j]? with
 |none=>exact qm1
 |some v=>exact h v (zg e)
theorem q4b.set{d:List Int}(h:q4b d){j:Nat}{v:Int}(hv:okU v):q4b (d.set j v):=fun z hz=>by
 rcases Zh hz with h1|rfl
 ·exact h z h1
 ·exact hv
theorem AtX.up(h:AtX k a):AtX (k+1) a:=⟨Zs h.ls,Zs h.ln,h.cd,⟨h.ck.1,by have:=h.ck.2;omega⟩,h.vl,h.val,h.ph⟩
theorem AtX.to(h:AtX k a)(h1:b.set=a.set)(h2:b.seen=a.seen)(h3:b.vl=a.vl)(h4:b.val=a.val)(h5:b.ck=a.ck)(h6:0≤b.code∧b.code≤9)(h7:match b.ph with
  | .loc (.en c)=>0≤c∧c≤9
  | .loc (.tk v)=>okU v
  | .loc (.wr _ v)=>okU v
  | .rd n b v=>(n=0∧b=0∧v=0)∨(n=1∧v=0)∨(n=2∧okU v)
  | .wr _ V=>∀v∈V,okU v
  |_=>True):AtX k b:=⟨by rw[h1];exact h.ls,by rw[h2];exact h.ln,h6,by rw[h5];exact h.ck,by rw[h3];exact h.vl,by rw[h4];exact h.val,h7⟩
theorem AtX.endA(h:AtX k a){q:Int}(hq:0≤q∧q≤9):AtX k (a.endA c q):=by
 unfold AT.endA
 split
 ·exact h.to rfl rfl rfl rfl rfl hq trivial
 ·exact h.to rfl rfl rfl rfl rfl hq trivial
theorem AtX.undo(h:AtX k a){q:Int}(hq:0≤q∧q≤9):AtX k (a.undo q):=h.to rfl rfl rfl rfl rfl hq trivial
theorem AtX.rest(h:AtX k a):AtX k a.rest:=by
 unfold AT.rest
 split
 ·exact h.to rfl rfl rfl rfl rfl h.cd trivial
 ·exact h.to rfl rfl rfl rfl rfl h.cd trivial
theorem qeB{ad vl:List Int}{w v:Int}(h:q41 ad vl w=some v):v∈vl:=by
 unfold q41 at h
 split at h
 ·exact zg h
 ·cases h
theorem qf4{cap:Int}{ad vl ad' vl':List Int}{w v:Int}(h:q5k cap ad vl w v=some (ad',vl'))(hv:okU v)(hl:∀z∈vl,okU z):∀z∈vl',okU z:=by
 unfold q5k at h
 split at h
 ·simp only[Option.some.injEq,Prod.mk.injEq] at h;obtain⟨rfl,rfl⟩:=h;exact q4b.set hl hv
 ·split at h
  ·cases h
  ·simp only[Option.some.injEq,Prod.mk.injEq] at h;obtain⟨rfl,rfl⟩:=h;intro z hz
   rcases zz.1 hz with h1|h1
   ·exact hl z h1
   ·rw[zf.1 h1];exact hv
theorem AtX.kont(h:AtX k a)(hid:a.ph= .idle){q:Ko}(hq:match q with
  | .en c=>0≤c∧c≤9
  | .tk v=>okU v
  | .wr _ v=>okU v):AtX k (a.kont c q):=by
 cases q with
 |en q=>exact h.endA hq
 |tk v=>exact⟨h.ls,h.ln,h.cd,h.ck,h.vl,hq,by show match a.ph with| .loc (.en c)=>0≤c∧c≤9| .loc (.tk v)=>okU v| .loc (.wr _ v)=>okU v| .rd n b v=>(n=0∧b=0∧v=0)∨(n=1∧v=0)∨(n=2∧okU v)| .wr _ V=>∀v∈V,okU v|_=>True;rw[hid];trivial⟩
 |wr w v=>
  unfold AT.kont;dsimp only
  split
  ·exact h.endA Y7
  ·split
   ·rename_i e;exact⟨h.ls,h.ln,h.cd,h.ck,qf4 e hq h.vl,h.val,by show match a.ph with| .loc (.en c)=>0≤c∧c≤9| .loc (.tk v)=>okU v| .loc (.wr _ v)=>okU v| .rd n b v=>(n=0∧b=0∧v=0)∨(n=1∧v=0)∨(n=2∧okU v)| .wr _ V=>∀v∈V,okU v|_=>True;rw[hid];trivial⟩
   ·exact h.undo Y7
theorem qdX{cap o:Int}{l s:List Int}(h:q6Q cap l o=some s):s.length≤l.length+1:=by
 unfold q6Q at h
 split at h
 ·cases h;omega
 ·split at h
  ·cases h
  ·cases h;simp
theorem qdW(l:List Int)(w:Int):(q1G l w).length≤l.length+1:=by
 unfold q1G
 split
 ·omega
 ·simp
theorem AtX.step(h:AtX k a)(hd:q4b m.d)(hk:0≤m.ck∧m.ck≤k):AtX (k+1) (qh c t m a).2.1∧q4b (qh c t m a).1.d:=by
 have h':=h.up;have hp:=h.ph;unfold qh;cases e:a.ph with
 |idle=>exact⟨h',hd⟩
 |loc q=>
  rw[e] at hp;refine⟨AtX.kont (AtX.to (b:={a with ph:= .idle}) h' rfl rfl rfl rfl rfl h.cd trivial) rfl ?_,hd⟩;cases q <;>exact hp
 |ent j=>
  dsimp only
  split
  ·exact⟨h'.to rfl rfl rfl rfl rfl h.cd trivial,hd⟩
  ·split
   ·exact⟨h'.to rfl rfl rfl rfl rfl h.cd trivial,hd⟩
   ·exact⟨h'.to rfl rfl rfl rfl rfl h.cd trivial,hd⟩
 |rd j bf v=>
  dsimp only
  split
  ·dsimp only
   split
   ·exact⟨h'.undo Y7,hd⟩
   ·exact⟨h'.to rfl rfl rfl rfl rfl h.cd (.inr (.inl ⟨rfl,rfl⟩)),hd⟩
  ·split
   ·exact⟨h'.to rfl rfl rfl rfl rfl h.cd (.inr (.inr ⟨rfl,hd.at _⟩)),hd⟩
   ·rename_i h0 h1;rw[e] at hp;have hv:okU v:=by
     rcases hp with ⟨hp,_⟩|⟨hp,_⟩|⟨_,hp⟩
     ·exact absurd hp h0
     ·exact absurd hp h1
     ·exact hp
    dsimp only
    split
    ·exact⟨h'.undo Y7,hd⟩
    ·have h2:=qdW a.seen a.addr;have h3:=h.ln
     split
     ·refine⟨AtX.undo (a:={a with seen:=q1G a.seen a.addr}) ⟨h'.ls,?_,h.cd,h'.ck,h.vl,h.val,h.ph⟩ Y7,hd⟩;dsimp only;omega
     ·rename_i s hs;have h4:=qdX hs;have h5:=h.ls;exact⟨⟨by dsimp only;omega,by dsimp only;omega,h.cd,h'.ck,h.vl,hv,trivial⟩,hd⟩
 |lk s ld=>
  dsimp only
  split
  ·exact⟨h'.to rfl rfl rfl rfl rfl h.cd trivial,hd⟩
  ·split
   ·refine⟨h'.to rfl rfl rfl rfl rfl h.cd ?_,hd⟩;dsimp only
    split <;>rename_i hh <;>(split at hh <;>first|cases hh|trivial)
   ·exact⟨h'.to rfl rfl rfl rfl rfl h.cd trivial,hd⟩
 |tn q=>
  dsimp only
  split
  ·exact⟨h'.to rfl rfl rfl rfl rfl h.cd trivial,hd⟩
  ·dsimp only
   split
   ·split
    ·exact⟨h'.to rfl rfl rfl rfl rfl h.cd trivial,hd⟩
    ·exact⟨h'.to rfl rfl rfl rfl rfl h.cd trivial,hd⟩
   ·exact⟨h',hd⟩
 |ck l=>
  dsimp only
  split
  ·exact⟨AtX.rest (a:={a with code:=9}) (h'.to rfl rfl rfl rfl rfl (by dsimp only;decide) h.ph),hd⟩
  ·split
   ·exact⟨h'.to rfl rfl rfl rfl rfl h.cd trivial,hd⟩
   ·exact⟨h'.to rfl rfl rfl rfl rfl h.cd trivial,hd⟩
 |dc=>
  have hck:0≤m.ck∧m.ck≤((k+1:Nat):Int):=Y6;dsimp only
  split
  ·exact⟨AtX.rest (a:={a with ck:=m.ck,code:=6}) ⟨h'.ls,h'.ln,by dsimp only;decide,hck,h.vl,h.val,h.ph⟩,hd⟩
  ·split
   ·exact⟨⟨h'.ls,h'.ln,h.cd,hck,h.vl,h.val,h.vl⟩,hd⟩
   ·exact⟨AtX.rest (a:={a with ck:=m.ck,dn:=true}) ⟨h'.ls,h'.ln,h.cd,hck,h.vl,h.val,h.ph⟩,hd⟩
 |wr A V=>
  rw[e] at hp;dsimp only;refine⟨?_,hd.set ?_⟩
  ·split
   ·exact h'.to rfl rfl rfl rfl rfl h.cd trivial
   ·exact h'.to rfl rfl rfl rfl rfl h.cd fun v hv=>hp v (Zg hv)
  ·cases V with
   |nil=>exact qm1
   |cons v V=>exact hp v zm
 |rl A V=>
  dsimp only;refine⟨?_,hd⟩
  split
  ·refine h'.to rfl rfl rfl rfl rfl h.cd ?_;dsimp only
   split <;>rename_i hh <;>(split at hh <;>first|cases hh|trivial)
  ·exact h'.to rfl rfl rfl rfl rfl h.cd trivial
 |sp=>exact⟨h'.to rfl rfl rfl rfl rfl h.cd trivial,hd⟩
 |ps=>exact⟨h'.to rfl rfl rfl rfl rfl h.cd trivial,hd⟩
 |lv=>exact⟨h'.to rfl rfl rfl rfl rfl h.cd trivial,hd⟩
structure ThX(n k:Nat)(x:GT):Prop where
 rg:x.th.rg.ok
 sv:x.sv.ok
 sn:x.seen.length≤k
 ob:x.obs.length+(if x.at'.isSome then x.seen.length else 0)≤2*k
 ct:x.ct≤k
 tr:x.tr≤k
 fn:∀f,x.fn=some f→f.ld=true∧f.nx<n∧0≤f.lim∧f.lim≤k
 at':∀a,x.at'=some a→AtX k a
theorem ThX.up(h:ThX n k x):ThX n (k+1) x:=⟨h.rg,h.sv,Zs h.sn,by have:=h.ob;omega,Zs h.ct,Zs h.tr,fun f hf=>by have:=h.fn f hf;exact⟨this.1,this.2.1,this.2.2.1,Y6⟩,fun a ha=>(h.at' a ha).up⟩
theorem ThX.too(h:ThX n k x)(q:Nat):ThX n k (x.to p.length q):=⟨h.rg,h.sv,h.sn,h.ob,h.ct,h.tr,h.fn,h.at'⟩
theorem ThX.endG(h:ThX n k x)(ha:x.at'≠none){a:AT}:ThX n (k+1) (x.endG p a):=by
 have ho:=h.ob;rw[show x.at'.isSome=true by cases e:x.at' with|none=>exact absurd e ha|some _=>rfl,if_pos rfl] at ho;have hs:=h.up
 by_cases h1:a.code=1
 ·rw[qhK h1];refine ThX.too ?_ _;refine⟨h.rg,h.sv,hs.sn,?_,hs.ct,zq _,hs.fn,fun a e=>by cases e⟩;simp;omega
 ·by_cases h9:a.code=9
  ·by_cases hr:(x.tr:Int)<((p[x.bg]?).map (·.imm)).getD 0
   ·rw[qhL h9 hr];refine ThX.too ?_ _;refine⟨h.sv,h.sv,hs.sn,?_,hs.ct,hs.tr,hs.fn,fun a e=>by cases e⟩;simp;omega
   ·rw[qkh h9 hr];refine ThX.too ?_ _;refine⟨h.sv,h.sv,hs.sn,?_,hs.ct,zq _,hs.fn,fun a e=>by cases e⟩;simp;omega
  ·rw[qgG h1 h9];refine ThX.too ?_ _;refine⟨h.sv,h.sv,hs.sn,?_,hs.ct,zq _,hs.fn,fun a e=>by cases e⟩;simp;omega
theorem ThX.adv(h:ThX n k x)(hx:x.at'≠none)(ha:AtX k a)(hd:q4b m.d)(hk:0≤m.ck∧m.ck≤k):ThX n (k+1) (q0M c p t m x a i).2.1∧q4b (q0M c p t m x a i).1.d:=by
 obtain⟨h1,h2⟩:=ha.step (c:=c) (t:=t) hd hk;have ho:=h.ob;have hsm:x.at'.isSome=true:=by cases e:x.at' with|none=>exact absurd e hx|some _=>rfl
 rw[hsm,if_pos rfl] at ho;have hs:=h.up;refine⟨?_,h2⟩;unfold q0M;dsimp only;generalize (qh c t m a).2.1=b at*
 split
 ·refine⟨h.rg,h.sv,hs.sn,?_,hs.ct,hs.tr,hs.fn,fun a' e=>by cases e;exact h1⟩;dsimp only[Option.isSome];rw[if_pos rfl];omega
 ·unfold GT.ans
  split
  ·exact h.endG hx
  ·split
   ·refine ThX.too ?_ _;refine⟨Rg.ok_set h.rg h1.val,h.sv,?_,?_,hs.ct,hs.tr,hs.fn,fun a' e=>by cases e;exact h1⟩
    ·dsimp only;rw[z8,zE];have:=h.sn;omega
    ·dsimp only[Option.isSome];rw[if_pos rfl,z8,zE];omega
   ·refine ThX.too ?_ _;refine⟨h.rg,h.sv,hs.sn,?_,hs.ct,hs.tr,hs.fn,fun a' e=>by cases e;exact h1⟩;dsimp only[Option.isSome];rw[if_pos rfl];omega
theorem AtX.new:AtX k {AT.new with st:=1,ph:= .ent 0}:=⟨zq _,zq _,⟨Y7,Y7⟩,⟨Y7,Int.natCast_nonneg _⟩,fun _ h=>(by cases h),qm1,trivial⟩
theorem AtX.req(h:AtX k a)(hr:x.th.rg.ok):AtX k (q1F c x.th.rg a i):=by
 unfold q1F
 split
 ·unfold AT.read
  split
  ·exact h.to rfl rfl rfl rfl rfl h.cd ⟨Y7,Y7⟩
  ·split
   ·rename_i v hv;exact h.to rfl rfl rfl rfl rfl h.cd (h.vl v (qeB hv))
   ·exact h.to rfl rfl rfl rfl rfl h.cd (.inl ⟨rfl,rfl,rfl⟩)
 ·split
  ·exact h.to rfl rfl rfl rfl rfl h.cd (hr _)
  ·split
   ·exact h.to rfl rfl rfl rfl rfl h.cd ⟨Y7,Y7⟩
   ·exact h.to rfl rfl rfl rfl rfl h.cd ⟨Y7,Y7⟩
theorem ThX.exe(h:ThX n k x)(hd:q4b m.d)(hk:0≤m.ck∧m.ck≤k)(hb:i.op=7→x.at'=none):ThX n (k+1) (q15 c p t m x i).2.1∧q4b (q15 c p t m x i).1.d:=by
 have hs:=h.up;unfold q15
 split
 ·rename_i h7;have ho:=h.ob;rw[hb h7] at ho;dsimp only[Option.isSome] at ho;rw[if_neg Y7] at ho
  --the attempt is new
  have h0:ThX n k {x with bg:=x.th.pc,sv:=x.th.rg,tr:=x.tr,seen:= [],ct:=x.ct,at':=some {AT.new with st:=1,ph:= .ent 0}}:=⟨h.rg,h.rg,zq _,by dsimp only[Option.isSome];rw[if_pos rfl];exact ho,h.ct,h.tr,h.fn,fun a e=>by cases e;exact AtX.new⟩
  obtain⟨h1,h2⟩:=h0.adv (c:=c) (p:=p) (t:=t) (i:=i) (fun e=>by cases e) AtX.new hd hk;have hq:∀(e:AT→GT→GT),True:=fun _=>trivial
  clear hq
  --the counters are one greater
  have hb2:(qh c t m {AT.new with st:=1,ph:= .ent 0}).2.1.busy=true:=rfl;unfold q0M at h1 h2 ⊢;dsimp only at h1 h2 ⊢;rw[if_pos hb2] at h1 ⊢;refine⟨⟨h1.rg,h1.sv,h1.sn,h1.ob,?_,?_,h1.fn,h1.at'⟩,h2⟩
  ·have:=h.ct;dsimp only;omega
  ·have:=h.tr;dsimp only;omega
 ·split
  ·cases e:x.at' with
   |none=>exact⟨hs,hd⟩
   |some a=>exact h.adv (by rw[e];exact fun e=>by cases e) ((h.at' a e).req h.rg) hd hk
  ·exact⟨⟨q8p h.rg,h.sv,hs.sn,hs.ob,hs.ct,hs.tr,hs.fn,hs.at'⟩,hd⟩
theorem ThX.plain(h:ThX n k x)(hd:q4b m.d)(ha:x.at'=none):ThX n (k+1) (q01 c p t m x i).2.1∧q4b (q01 c p t m x i).1.d:=by
 have hs:=h.up;have ho:=h.ob;rw[ha] at ho;dsimp only[Option.isSome] at ho;rw[if_neg Y7] at ho;unfold q01
 split
 ·refine⟨ThX.too ?_ _,hd⟩;refine⟨?_,h.sv,hs.sn,?_,hs.ct,hs.tr,hs.fn,hs.at'⟩
  ·dsimp only
   split
   ·exact Rg.ok_set h.rg qm1
   ·exact h.rg
  ·dsimp only;rw[ha,z8,zE];dsimp only[Option.isSome];rw[if_neg Y7];omega
 ·split
  ·refine⟨ThX.too ?_ _,hd⟩;refine⟨Rg.ok_set h.rg (hd.at _),h.sv,hs.sn,?_,hs.ct,hs.tr,hs.fn,hs.at'⟩;dsimp only;rw[ha,z8,zE];dsimp only[Option.isSome];rw[if_neg Y7];omega
  ·refine⟨ThX.too ?_ _,hd.set (h.rg _)⟩;refine⟨h.rg,h.sv,hs.sn,?_,hs.ct,hs.tr,hs.fn,hs.at'⟩;dsimp only;rw[ha,z8,zE];dsimp only[Option.isSome];rw[if_neg Y7];omega
theorem ThX.wait(h:ThX n k x)(hk:0≤m.ck∧m.ck≤k)(ha:x.at'=none){f:FT}(hf:f=⟨false,0,0⟩∨(f.ld=true∧f.nx<n∧0≤f.lim∧f.lim≤k)):ThX n (k+1) (q0n n p t m x f).2.1:=by
 have hs:=h.up;have ho:=h.ob;rw[ha] at ho;dsimp only[Option.isSome] at ho;rw[if_neg Y7] at ho;have hz:(q2Q t m f).1.ld=true∧0≤(q2Q t m f).1.lim∧(q2Q t m f).1.lim≤k:=by
  unfold q2Q
  rcases hf with rfl|⟨h1,h2,h3,h4⟩
  ·rw[if_pos rfl];exact⟨rfl,hk⟩
  ·rw[if_neg (by rw[h1];decide)];dsimp only
   split
   ·exact⟨h1,h3,h4⟩
   ·exact⟨h1,h3,h4⟩
 unfold q0n;dsimp only
 split
 ·refine ThX.too ?_ _;refine⟨h.rg,h.sv,hs.sn,?_,hs.ct,hs.tr,(fun f e=>by cases e),hs.at'⟩;dsimp only;rw[ha,z8,zE];dsimp only[Option.isSome];rw[if_neg Y7];omega
 ·rename_i hlt;exact⟨h.rg,h.sv,hs.sn,hs.ob,hs.ct,hs.tr,(fun f' e=>by cases e;exact⟨hz.1,Y6,hz.2.1,Y6⟩),hs.at'⟩
theorem ThX.step(h:ThX n k x)(hd:q4b m.d)(hk:0≤m.ck∧m.ck≤k)(hi:p[x.th.pc]? =some i)(hfn:x.fn≠none→x.at'=none)(hb:∀a,x.at'=some a→a.busy=false→i.op≠7∧i.op≠12∧i.op≠13∧i.op≠16):ThX n (k+1) (qN c p n t m x).2.1∧q4b (qN c p n t m x).1.d:=by
 unfold qN;rw[hi];dsimp only;cases hf:x.fn with
 |some f=>
  have ha:=hfn (by rw[hf];exact fun e=>by cases e);exact⟨h.wait hk ha (.inr (h.fn f hf)),hd⟩
 |none=>
  dsimp only;cases ha:x.at' with
  |some a=>
   dsimp only
   split
   ·exact h.adv (by rw[ha];exact fun e=>by cases e) (h.at' a ha) hd hk
   ·rename_i hbz;obtain⟨b1,b2,b3,b4⟩:=hb a ha (by simpa using hbz);unfold q2d;rw[if_neg Y6,if_neg b4];exact h.exe hd hk fun e=>absurd e b1
  |none=>
   dsimp only;unfold q2d
   split
   ·exact h.plain hd ha
   ·split
    ·exact⟨h.wait hk ha (.inl rfl),hd⟩
    ·exact h.exe hd hk fun _=>ha
end
end Go.Proofs.YtbhbldllneadeaaGreatDoor
