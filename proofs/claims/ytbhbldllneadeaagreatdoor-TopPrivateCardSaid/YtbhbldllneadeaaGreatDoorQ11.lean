/- What the laws share, part 11. No condition. -/
import Derived.Lib.SlicesCompact
import Derived.Test.YtbhbldllneadeaaGreatDoorQ10
set_option maxHeartbeats 4000000
set_option maxRecDepth 10000
namespace Go.Proofs.YtbhbldllneadeaaGreatDoor
open Go
structure PH where
 a:Option Addr
 cap:Nat
 p:List Ins
abbrev PH.enc(h:PH):List Value:= [.slice h.a h.p.length h.cap]
abbrev qx(n:Int):List Value:= [.int .i64 n]
def psG:List PH→Nat→Option (Int×Int×Int)
 | [],_=>none
 |h::l,t=>if(qw h.p).2≠0 then some (t,(qw h.p).1,(qw h.p).2) else psG l (t+1)
def ksG(n:Nat):List Int→Nat→Int×Int×Int
 | [],_=>(0,0,0)
 |k::l,i=>if k<0∨(n:Int)≤k then(0,i,56) else ksG n l (i+1)
def csM(c:Cfg)(il:Nat)(ps:List PH)(ks:List Int):Int×Int×Int:=
 if qH c≠0 then(0,0,qH c) else if ps.length<1∨16<ps.length then(0,0,54) else if(il:Int)≠c.words then(0,0,55) else
  match psG ps 0 with
  |some r=>r
  |none=>if 65536<ks.length then(0,0,56) else ksG ps.length ks 0
def qnz(r:Int×Int×Int):Value:= .tuple #[.int .i64 r.1, .int .i64 r.2.1, .int .i64 r.2.2]
abbrev qaG(c:Cfg)(ia:Option Addr)(il ic:Nat)(pa:Option Addr)(pn pc:Nat)(ka:Option Addr)(kn kc:Nat):Value:=
 .agg #[.int .i64 c.words, .int .i64 c.orecs, .int .i64 c.base, .int .i64 c.c0, .int .i64 c.c1, .int .i64 c.c2, .int .i64 c.c3, .int .i64 c.reads, .int .i64 c.writes, .int .i64 c.allocs, .int .i64 c.frees, .int .i64 c.clock, .bool c.strong, .slice ia il ic, .slice pa pn pc, .slice ka kn kc]
theorem q4q{α:Type}{l:List α}{k:Nat}{x:α}(hx:l[k]? =some x):l.drop k=x::l.drop (k+1):=by
 obtain⟨hk,he⟩:=z7.1 hx;rw[ZE hk,he]
section
variable{W0:World}{own:Own}{c:Cfg}{ia pa ka:Option Addr}{il ic pc kc:Nat}{ps:List PH}{ks:List Int}
theorem qln(hF:qC W0)(hP:RdE PH.enc 1 W0 own pa ps)(hQ:∀h∈ps,RdE Ins.enc 5 W0 own h.a h.p)(hK:RdE qx 1 W0 own ka ks):
  qE Tryz.prog W0 46 [qaG c ia il ic pa ps.length pc ka ks.length kc] own (qnz (csM c il ps ks)):=by
 refine qg (sH [] ?_);have hck:=fun own=>q1i W0 own c
 unfold csM;generalize qH c=z at*
 by_cases h0:z=0
 ·subst h0;simp only[ne_eq,not_true_eq_false,if_false]
  by_cases h1:ps.length<1∨16<ps.length
  ·rw[if_pos h1]
   repeat'((try(conv=>whnf));first|(refine q3u ?_)|(refine qbr Y6 ?_)|(apply qp (hck _))|(apply qp (q2n _ _ _ _ _))|(apply q0b;(exact eM);exact rfl)|(apply q1n;(exact eM);exact rfl;exact rfl)|(refine qf (fun bk hbk=> ?_)))
   all_goals exact⟨rfl,eB⟩
  ·rw[if_neg h1]
   by_cases h2:¬(il:Int)=c.words
   ·rw[if_pos h2]
    repeat'((try(conv=>whnf));first|(refine q3u ?_)|(refine q14 Y6 ?_)|(refine q96 Y6 ?_)|(apply qp (hck _))|(apply qp (q2n _ _ _ _ _))|(apply q0b;(exact eM);exact rfl)|(apply q1n;(exact eM);exact rfl;exact rfl)|(refine qf (fun bk hbk=> ?_)))
    all_goals exact⟨rfl,eB⟩
   ·rw[if_neg h2]
    repeat'((try(conv=>whnf));first|(refine q3u ?_)|(refine q1H Y6 ?_)|(refine q96 Y6 ?_)|(apply qp (hck _))|(apply qp (q2n _ _ _ _ _))|(apply q0b;(exact eM);exact rfl)|(apply q1n;(exact eM);exact rfl;exact rfl)|(refine qf (fun bk hbk=> ?_)))
    generalize hres:psG ps 0=res;refine q1O (σ:=Nat) (fun t=> [(33, .int .i64 t)]) (fun t=>t≤ps.length∧psG (ps.drop t) t=res) (fun t=>ps.length-t) 0 ⟨Y6,hres⟩ (eF) rfl ?_;rintro t junk ⟨ht,hI⟩
    by_cases hlt:t<ps.length
    ·obtain⟨x,hx⟩:∃x,ps[t]? =some x:=⟨_,z6 hlt⟩
     have hx1:=hQ x (zg hx);have hcp:=fun ex=>q4R (cap:=x.cap) hF (hx1.ent (Ent.app (A:=ex) Ent.refl))
     rw[q4q hx,psG] at hI;generalize qw x.p=r at*
     by_cases hr:r.2≠0
     ·rw[if_pos hr] at hI;subst hI
      repeat'((try(conv=>whnf));first|(refine q14 Y6 ?_)|(refine qp (hcp [_]) ?_)|((apply gLd);first|(refine ldE (k:=0) (RdE.ent hP ?_) hx ?_ rfl ?_;rotate_left;rfl;rotate_left;(solve|(exact eB))))|((apply qJ);first|(refine ixE hP hx ?_ ?_;(first|rfl|omega)))|(refine fO ?_))
      all_goals exact⟨rfl,eB⟩
     ·rw[if_neg hr] at hI
      repeat'((try(conv=>whnf));first|(refine q14 Y6 ?_)|(refine q1H Y6 ?_)|(refine qp (hcp [_]) ?_)|((apply gLd);first|(refine ldE (k:=0) (RdE.ent hP ?_) hx ?_ rfl ?_;rotate_left;rfl;rotate_left;(solve|(exact eB))))|((apply qJ);first|(refine ixE hP hx ?_ ?_;(first|rfl|omega)))|(refine fB ?_)|(refine fO ?_))
      all_goals exact⟨t+1,⟨Y6,hI⟩,Y6,(eF),eB⟩
    ·have ht':t=ps.length:=Y6;subst ht';rw[ZQ,psG] at hI;subst hI;simp only[]
     by_cases h3:65536<ks.length
     ·rw[if_pos h3]
      repeat'((try(conv=>whnf));first|(refine q14 Y6 ?_)|(refine q1H Y6 ?_)|(apply q0b;(exact eM);exact rfl))
      all_goals exact⟨rfl,eB⟩
     ·rw[if_neg h3];generalize hres2:ksG ps.length ks 0=res2
      repeat'((try(conv=>whnf));first|(refine q1H Y6 ?_)|(apply q0b;(exact eM);exact rfl))
      refine q1O (σ:=Nat) (fun i=> [(56, .int .i64 i)]) (fun i=>i≤ks.length∧ksG ps.length (ks.drop i) i=res2) (fun i=>ks.length-i) 0 ⟨Y6,hres2⟩ (eF) rfl ?_;rintro i junk2 ⟨hi,hI⟩
      by_cases hlt2:i<ks.length
      ·obtain⟨k,hk⟩:∃k,ks[i]? =some k:=⟨_,z6 hlt2⟩
       rw[q4q hk,ksG] at hI
       by_cases hb:k<0∨(ps.length:Int)≤k
       ·rw[if_pos hb] at hI;subst hI
        repeat'((try(conv=>whnf));first|(refine qQ ?_)|(refine q0g ?_)|(refine q2B ?_)|(refine q14 Y6 ?_)|((apply gLd);first|(refine ldE (k:=0) (RdE.ent hK ?_) hk ?_ rfl ?_;rotate_left;rfl;rotate_left;(solve|(exact eB))))|((apply qJ);first|(refine ixE hK hk ?_ ?_;(first|rfl|omega)))|(apply q0b;(exact eM);exact rfl)|(refine q1p (fun hc=> ?_) (fun hc=> ?_)))
        all_goals exact⟨rfl,eB⟩
       ·rw[if_neg hb] at hI
        repeat'((try(conv=>whnf));first|(refine qQ ?_)|(refine q14 Y6 ?_)|(refine q1H Y6 ?_)|(refine q2W Y6 ?_)|((apply gLd);first|(refine ldE (k:=0) (RdE.ent hK ?_) hk ?_ rfl ?_;rotate_left;rfl;rotate_left;(solve|(exact eB))))|((apply qJ);first|(refine ixE hK hk ?_ ?_;(first|rfl|omega)))|(refine fB ?_)|(apply q0b;(exact eM);exact rfl))
        all_goals exact⟨i+1,⟨Y6,hI⟩,Y6,(eF),eB⟩
      ·have hi':i=ks.length:=Y6;subst hi';rw[ZQ,ksG] at hI;subst hI
       repeat'((try(conv=>whnf));first|(refine q1H Y6 ?_))
       all_goals exact⟨rfl,eB⟩
 ·rw[if_pos h0]
  repeat'((try(conv=>whnf));first|(refine q14 Y6 ?_)|(apply qp (hck _))|(apply q1n;(exact eM);exact rfl;exact rfl)|(refine qf (fun bk hbk=> ?_)))
  all_goals exact⟨rfl,eB⟩
end
open Go
def stB(p:List Ins):Nat→Int
 |0=> -1
 |k+1=>match p[k]? with
  |some x=>q18 x k (stB p k)
  |none=>stB p k
theorem q24{p:List Ins}{k:Nat}{x:Ins}(hx:p[k]? =some x):stB p (k+1)=q18 x k (stB p k):=by
 simp only[stB,hx]
theorem q70{p:List Ins}(h:qw p=(0,0)):p.length≤64:=by
 unfold qw at h
 split at h
 ·simp at h
 ·omega
theorem q67{p:List Ins}(h:qw p=(0,0)):∀k,k≤p.length→q8W p k (stB p k)∧q0i (q0f p) (p.drop k) k (stB p k)=(0,0)
 |0,_=>by
  refine⟨q8W.start p,?_⟩;unfold qw at h
  split at h
  ·simp at h
  ·exact h
 |k+1,hk=>by
  obtain⟨h1,h2⟩:=q67 h k Y6;obtain⟨x,hx⟩:∃x,p[k]? =some x:=⟨_,z6 Y6⟩
  rw[q0C hx,q0i] at h2
  split at h2
  ·rename_i h0;simp only[Prod.mk.injEq] at h2;exact absurd h2.2 h0
  ·rename_i h0;have ho:=q6r (by simpa using h0);rw[q24 hx];exact⟨h1.step hx ho.1 ho.2.1,h2⟩
theorem qbC{p:List Ins}(h:qw p=(0,0)){k:Nat}{x:Ins}(hx:p[k]? =some x):q7P (q0f p k (stB p k) x) (stB p k) x=0:=by
 have hk:=(z7.1 hx).1;have h2:=(q67 h k Y6).2;rw[q0C hx,q0i] at h2
 split at h2
 ·rename_i h0;simp only[Prod.mk.injEq] at h2;exact absurd h2.2 h0
 ·rename_i h0
  simpa using h0
theorem qk8{p:List Ins}(h:qw p=(0,0)):stB p p.length<0:=by
 have h2:=(q67 h p.length (zu _)).2;rw[ZQ,q0i] at h2
 split at h2
 ·simp at h2
 ·omega
theorem qbB{p:List Ins}(h:qw p=(0,0)){k:Nat}(hk:k≤p.length):q8W p k (stB p k):=(q67 h k hk).1
theorem q36{p:List Ins}(h:qw p=(0,0)){k:Nat}{x:Ins}(hx:p[k]? =some x):
  qS x=0∧(x.op=7→stB p k<0)∧(x.op=8→0≤stB p k)∧q0f p k (stB p k) x=0∧
   (x.op=9∨x.op=10∨x.op=11∨x.op=14∨x.op=15→0≤stB p k):=by
 have h0:=qbC h hx;have ho:=q6r h0;refine⟨ho.2.2.1,ho.1,ho.2.1,ho.2.2.2,fun hop=> ?_⟩;unfold q7P at h0;rw[if_neg (by simpa using ho.2.2.1)] at h0
 split at h0
 ·omega
 ·split at h0
  ·omega
  ·rename_i h2;have hp:q1M x=1:=by unfold q1M;rw[if_pos ho.2.2.1,if_pos Y6]
   omega
theorem qc3{p:List Ins}(h:qw p=(0,0)):∀(n k:Nat),n+k=p.length→0≤stB p k→
  ∃c,q1k (p.drop k) k=c∧k≤c∧c<p.length∧(∃x,p[c]? =some x∧x.op=8)∧stB p (c+1)= -1∧∀i,k≤i→i≤c→stB p i=stB p k∧q1k (p.drop i) i=c∧(i<c→∀x,p[i]? =some x→x.op≠7∧x.op≠8)
 |0,k,hn,hb=>by
  have hk:k=p.length:=Y6;have:=qk8 h;rw[←hk] at this;omega
 |n+1,k,hn,hb=>by
  obtain⟨x,hx⟩:∃x,p[k]? =some x:=⟨_,z6 Y6⟩
  have hi:=q36 h hx;have h7:x.op≠7:=fun e=>by have:=hi.2.1 e;omega
  have hd:q1k (p.drop k) k=if x.op=8 then k else q1k (p.drop (k+1)) (k+1):=by rw[q0C hx,q1k]
  by_cases h8:x.op=8
  ·refine⟨k,by rw[hd,if_pos h8],zu k,Y6,⟨x,hx,h8⟩,?_,fun i h1 h2=> ?_⟩
   ·rw[q24 hx,q18,if_neg h7,if_pos h8]
   ·obtain rfl:i=k:=Y6;exact⟨rfl,by rw[hd,if_pos h8],fun h=>absurd h Y6⟩
  ·have hs:stB p (k+1)=stB p k:=by rw[q24 hx,q18,if_neg h7,if_neg h8]
   obtain⟨c,hc,hkc,hcl,hc8,hc1,hall⟩:=qc3 h n (k+1) Y6 (by rw[hs];exact hb);refine⟨c,by rw[hd,if_neg h8,hc],Y6,hcl,hc8,hc1,fun i h1 h2=> ?_⟩
   by_cases hik:i=k
   ·subst hik;refine⟨rfl,by rw[hd,if_neg h8,hc],fun _ y hy=> ?_⟩;rw[hx] at hy;obtain rfl:=Option.some.inj hy;exact⟨h7,h8⟩
   ·have:=hall i Y6 h2;rw[hs] at this;exact this
theorem q0k{p:List Ins}(h:qw p=(0,0)){k:Nat}{x:Ins}(hx:p[k]? =some x)(h7:x.op=7):
  ∃c,q0t p k=c∧k<c∧c<p.length∧(∃y,p[c]? =some y∧y.op=8)∧stB p (c+1)= -1∧∀i,k<i→i≤c→stB p i=k∧q1k (p.drop i) i=c∧(i<c→∀y,p[i]? =some y→y.op≠7∧y.op≠8):=by
 have hk:=(z7.1 hx).1;have hs:stB p (k+1)=k:=by rw[q24 hx,q18,if_pos h7]
 obtain⟨c,h1,h2,h3,h4,h5,h6⟩:=qc3 h (p.length-(k+1)) (k+1) Y6 (by rw[hs];omega);rw[hs] at h6;exact⟨c,h1,h2,h3,h4,h5,fun i hi=>h6 i Y6⟩
def q2E(p:List Ins)(k:Nat)(x:Ins):List Int:=
 if x.op=4 then [k+1+x.imm] else if x.op=5∨x.op=6 then [k+1,k+1+x.imm] else if x.op=9 then [(q0t p k:Int)+1] else [k+1]
theorem q9z(len:Nat):∀(l:List Ins) (j t:Nat),q1L len l j t=false→∀(i:Nat) (x:Ins),l[i]? =some x→j+i<t→x.op=7→q1k (l.drop (i+1)) (j+i+1)<t∨len≤t
 | [],j,t,_,i,x,hx,_,_=>by simp at hx
 |y::l,j,t,h,i,x,hx,hi,h7=>by
  unfold q1L at h;rw[yQ,decide_eq_false_iff_not] at h;cases i with
  |zero=>
   simp only[Zw,Option.some.injEq] at hx;subst hx;simp only[Zy,zD,y1,List.drop_zero]
   by_cases h1:t≤q1k l (j+1)
   ·right
    by_cases h2:t+1≤len
    ·exact absurd ⟨Y6,h7,h1,h2⟩ h.1
    ·omega
   ·left;omega
  |succ i=>
   have:=q9z len l (j+1) t h.2 i x (by simpa using hx) Y6 h7;simp only[y1];have e:j+(i+1)+1=j+1+i+1:=Y6;rw[e];exact this
theorem qc5{x:Ins}(hc:qS x=0)(h:x.op=4∨x.op=5∨x.op=6):q1z x=true:=by
 unfold q1z;rw[decide_eq_true_iff];exact⟨hc,h⟩
theorem q44{p:List Ins}(h:qw p=(0,0)){k:Nat}{x:Ins}(hx:p[k]? =some x):∀t∈q2E p k x,∃j:Nat,t=j∧k<j∧j≤p.length∧
  (0≤stB p k→x.op≠8→(x.op≠9→j≤q1k (p.drop k) k)∧(x.op=9→j=q1k (p.drop k) k+1))∧
  (stB p k<0→∀(b:Nat) (y:Ins),k<b→p[b]? =some y→y.op=7→j≤b∨q0t p b<j):=by
 have hk:=(z7.1 hx).1;have hi:=q36 h hx;have hin:=fun hb=>qc3 h (p.length-k) k Y6 hb
 have hdk:x.op≠8→q1k (p.drop k) k=q1k (p.drop (k+1)) (k+1):=fun h8=>by rw[q0C hx,q1k,if_neg h8]
 have step:∃j:Nat,((k:Int)+1)=j∧k<j∧j≤p.length∧(0≤stB p k→x.op≠8→j≤q1k (p.drop k) k)∧
   (stB p k<0→∀(b:Nat) (y:Ins),k<b→p[b]? =some y→y.op=7→j≤b∨q0t p b<j):=by
  refine⟨k+1,Y6,Y6,Y6,fun hb h8=> ?_,fun _ b y hb _ _=> .inl Y6⟩;rw[hdk h8];exact(q2P _ _).1
 have skip:(x.op=4∨x.op=5∨x.op=6)→∃j:Nat,((k:Int)+1+x.imm)=j∧k<j∧j≤p.length∧(0≤stB p k→x.op≠8→j≤q1k (p.drop k) k)∧
   (stB p k<0→∀(b:Nat) (y:Ins),k<b→p[b]? =some y→y.op=7→j≤b∨q0t p b<j):=fun hop=>by
  have hs:=qc5 hi.1 hop;have hs2:=q3j hs;have ht:=hi.2.2.2.1;unfold q0f at ht;rw[if_pos hs] at ht
  split at ht
  ·omega
  ·rename_i hlen;refine⟨k+1+x.imm.toNat,Y6,Y6,Y6,fun hb h8=> ?_,fun hb b y hkb hy h7=> ?_⟩
   ·rw[if_pos hb] at ht
    split at ht
    ·omega
    ·rename_i he
     rcases (qbB h (by omega:k≤p.length)).bb with hb1|⟨_,_,hb3⟩
     ·omega
     ·rw[hb3] at he;omega
   ·rw[if_neg Y6] at ht
    split at ht
    ·omega
    ·rename_i hno
     by_cases hjb:k+1+x.imm.toNat≤b
     ·exact .inl hjb
     ·right;have hbl:=(z7.1 hy).1;have:=q9z p.length (p.drop (k+1)) (k+1) (k+1+x.imm.toNat) (by simpa using hno) (b-(k+1)) y (by rw[yw,show k+1+(b-(k+1))=b by omega];exact hy) Y6 h7;rw[yD,show k+1+(b-(k+1)+1)=b+1 by omega,show k+1+(b-(k+1))+1=b+1 by omega] at this;obtain⟨c,hc,_,hcl,_⟩:=q0k h hy h7;have hce:q1k (p.drop (b+1)) (b+1)=c:=hc;rw[hc];rw[hce] at this;omega
 intro t ht;unfold q2E at ht
 split at ht
 ·rename_i h4;obtain⟨j,hj,h1,h2,h3,h5⟩:=skip (.inl h4);rw[zf.1 ht];exact⟨j,hj,h1,h2,fun hb h8=>⟨fun _=>h3 hb h8,fun h9=>by omega⟩,h5⟩
 ·split at ht
  ·rename_i h56
   rcases zQ.1 ht with rfl|ht
   ·obtain⟨j,hj,h1,h2,h3,h5⟩:=step;exact⟨j,hj,h1,h2,fun hb h8=>⟨fun _=>h3 hb h8,fun h9=>by omega⟩,h5⟩
   ·obtain⟨j,hj,h1,h2,h3,h5⟩:=skip (.inr h56);rw[zf.1 ht];exact⟨j,hj,h1,h2,fun hb h8=>⟨fun _=>h3 hb h8,fun h9=>by omega⟩,h5⟩
  ·split at ht
   ·rename_i h9;rw[zf.1 ht];have hb:=hi.2.2.2.2 (.inl h9);obtain⟨c,hc,hkc,hcl,_⟩:=hin hb;have he:q0t p k=c:=by unfold q0t;rw[←hdk Y6,hc]
    rw[he];refine⟨c+1,Y6,Y6,Y6,fun _ _=>⟨fun h=>absurd h9 h,fun _=>by rw[hc]⟩,fun hb2=>by omega⟩
   ·rename_i h9;obtain⟨j,hj,h1,h2,h3,h5⟩:=step;rw[zf.1 ht];exact⟨j,hj,h1,h2,fun hb h8=>⟨fun _=>h3 hb h8,fun h=>absurd h h9⟩,h5⟩
def q4o(p:List Ins)(k:Int):Int:=if(qw p).2=0∧0≤k then(match p[k.toNat]? with
 |some x=>if x.op=7 then q0t p k.toNat else-1
 |none=> -1) else-1
theorem q81{p:List Ins}:(qw p).2=0↔qw p=(0,0):=by
 refine⟨fun h=> ?_,fun h=>by rw[h]⟩;have key:∀(tgt:Nat→Int→Ins→Int) (l:List Ins) (k:Nat) (b:Int),(q0i tgt l k b).2=0→q0i tgt l k b=(0,0):=fun tgt l=>by
  induction l with
  |nil=>
   intro k b;simp only[q0i]
   split
   ·intro h;simp at h
   ·intro _;rfl
  |cons x l ih=>
   intro k b;simp only[q0i]
   split
   ·rename_i h0;intro h;exact absurd h h0
   ·exact ih _ _
 unfold qw at*
 split at h
 ·simp at h
 ·rename_i h64;rw[if_neg h64];exact key _ _ _ _ h
section
variable{W0:World}{own:Own}{a:Option Addr}{cap:Nat}{p:List Ins}
theorem qg7(hF:qC W0)(hR:RdE Ins.enc 5 W0 own a p):qE Tryz.prog W0 135 [.slice a p.length cap] own (.bool (decide ((qw p).2=0))):=by
 refine qg (sH [] ?_);have hc:=q4R (cap:=cap) hF hR;generalize qw p=r at*
 repeat'((try(conv=>whnf));first|(refine qp hc ?_)|(refine fO ?_)|(exact Ent.refl)|(refine And.intro rfl ?_))
 all_goals exact⟨rfl,eB⟩
theorem q87{k:Int}(h:¬(0≤k∧k<p.length)):q4o p k= -1:=by
 unfold q4o
 split
 ·rename_i hc;rw[zX Y6]
 ·rfl
theorem q3y{k:Nat}{x:Ins}(hx:p[k]? =some x):q4o p k=if(qw p).2=0∧x.op=7 then(q0t p k:Int) else-1:=by
 unfold q4o;rw[zB,hx];simp only
 (repeat' split) <;>first|rfl|omega
theorem q7q(hF:qC W0)(hR:RdE Ins.enc 5 W0 own a p)(hl:p.length≤1099511627776)(k:Int):qE Tryz.prog W0 96 [.slice a p.length cap, .int .i64 k] own (.int .i64 (q4o p k)):=by
 refine qg (sH [] ?_);have hv:=qg7 (cap:=cap) hF hR
 by_cases hk:0≤k∧k<p.length
 ·obtain⟨j,rfl⟩:=Z0 hk.1;obtain⟨x,hx⟩:∃x,p[j]? =some x:=⟨_,z6 Y6⟩
  have he:=qcT (cap:=cap) hR hl j Y6;rw[q3y hx];generalize (qw p).2=r at*
  repeat'((try(conv=>whnf));first|(refine qQ ?_)|(refine q0g ?_)|(refine q2B ?_)|(refine q2W Y6 ?_)|(refine qp hv ?_)|(refine qp he ?_)|((apply gLd);first|(refine ldE (k:=0) (RdE.ent hR ?_) hx ?_ rfl ?_;rotate_left;rfl;rotate_left;(solve|(exact eB))))|((apply qJ);first|(refine ixE hR hx ?_ ?_;(first|rfl|omega)))|(refine q4i (fun hc=> ?_) (fun hc=> ?_))|(refine q54 (fun hc=> ?_) (fun hc=> ?_)))
  all_goals(refine⟨q0J (vi ?_),eB⟩;(repeat' split) <;>first|rfl|(exfalso;omega)|omega)
 ·rw[q87 hk];generalize (qw p).2=r at*
  repeat'((try(conv=>whnf));first|(refine qQ ?_)|(refine q0g ?_)|(refine q2B ?_)|(refine q6M Y6 ?_)|(refine qp hv ?_)|(refine q1p (fun hc=> ?_) (fun hc=> ?_))|(refine q4i (fun hc=> ?_) (fun hc=> ?_)))
  all_goals first|exact⟨rfl,eB⟩|(exfalso;omega)
end
open Go
abbrev qM(n:Int):Int:=IntKind.u64.wrap n
abbrev okU(x:Int):Prop:=0≤x∧x≤18446744073709551615
structure Rg where
 r0:Int
 r1:Int
 r2:Int
 r3:Int
 r4:Int
 r5:Int
 r6:Int
 r7:Int
abbrev Rg.enc(r:Rg):List Value:= [.int .u64 r.r0, .int .u64 r.r1, .int .u64 r.r2, .int .u64 r.r3, .int .u64 r.r4, .int .u64 r.r5, .int .u64 r.r6, .int .u64 r.r7]
def Rg.get(r:Rg):Nat→Int
 |0=>r.r0|1=>r.r1|2=>r.r2|3=>r.r3|4=>r.r4|5=>r.r5|6=>r.r6|7=>r.r7|_=>0
def Rg.set(r:Rg):Nat→Int→Rg
 |0,v=>{r with r0:=v}|1,v=>{r with r1:=v}|2,v=>{r with r2:=v}|3,v=>{r with r3:=v}
 |4,v=>{r with r4:=v}|5,v=>{r with r5:=v}|6,v=>{r with r6:=v}|7,v=>{r with r7:=v}|_,_=>r
theorem lt8{k:Nat}(h:k<8):k=0∨k=1∨k=2∨k=3∨k=4∨k=5∨k=6∨k=7:=Y6
theorem Rg.get_set{r:Rg}{k j:Nat}{v:Int}(h:k<8):(r.set k v).get j=if j=k then v else r.get j:=by
 rcases lt8 h with rfl|rfl|rfl|rfl|rfl|rfl|rfl|rfl
 all_goals
  by_cases hj:j<8
  ·rcases lt8 hj with rfl|rfl|rfl|rfl|rfl|rfl|rfl|rfl <;>rfl
  ·rw[if_neg Y6];obtain⟨m,rfl⟩:∃m,j=m+8:=⟨j-8,Y6⟩
   rfl
structure Thr where
 pc:Nat
 rg:Rg
 oc:Int
 dn:Bool
abbrev Thr.enc(t:Thr):List Value:= [.int .i64 t.pc, .int .u64 t.rg.r0, .int .u64 t.rg.r1, .int .u64 t.rg.r2, .int .u64 t.rg.r3, .int .u64 t.rg.r4, .int .u64 t.rg.r5, .int .u64 t.rg.r6, .int .u64 t.rg.r7, .int .i64 t.oc, .bool t.dn]
theorem Thr.enc_get{t:Thr}{k:Nat}(h:k<8):t.enc[1+k]? =some (.int .u64 (t.rg.get k)):=by
 rcases lt8 h with rfl|rfl|rfl|rfl|rfl|rfl|rfl|rfl <;>rfl
theorem Thr.enc_set{t:Thr}{k:Nat}{v:Int}(h:k<8):t.enc.set (1+k) (.int .u64 v)={t with rg:=t.rg.set k v:Thr}.enc:=by
 rcases lt8 h with rfl|rfl|rfl|rfl|rfl|rfl|rfl|rfl <;>rfl
structure ObM where
 pc:Nat
 k:Int
 v:Int
abbrev ObM.enc(o:ObM):List Value:= [.int .i64 o.pc, .int .i64 o.k, .int .u64 o.v]
structure EvM where
 ev:Int
 t:Int
 k:Int
 w:Int
 r:List Int
 wl:List Int
def EH.m(e:EH):EvM:=⟨e.ev,e.t,e.k,e.w,e.rl,e.wl⟩
structure ChM where
 t:Int
 f:Int
 ad:List Int
structure GS where
 d:List Int
 tk:List Bool
 T:List Thr
 E:List EvM
 O:List (List ObM)
 n:Nat
def q3S(t:Thr)(x:Ins):Rg:=
 if x.op=1 then t.rg.set x.a.toNat (qM x.imm) else if x.op=2 then t.rg.set x.a.toNat (t.rg.get x.b.toNat)
 else if x.op=3 then t.rg.set x.a.toNat (Alu.applyW x.imm (t.rg.get x.b.toNat) (t.rg.get x.c.toNat)) else if x.op=17 then t.rg.set x.a.toNat (qM t.oc) else t.rg
def q1o(t:Thr)(x:Ins):Nat:=
 if x.op=4∨(x.op=5∧t.rg.get x.a.toNat=0)∨(x.op=6∧t.rg.get x.a.toNat≠0) then t.pc+1+x.imm.toNat else t.pc+1
def q1q(t:Thr)(x:Ins):Thr:={t with rg:=q3S t x,pc:=q1o t x}
structure BM where
 d:List Int
 tk:List Bool
 t:Thr
 r:List Int
 w:List Int
 o:List ObM
 ad:List Int
def adr(r:Rg)(b imm:Int):Int:=qM (r.get b.toNat+qM imm)
def q1G(l:List Int)(a:Int):List Int:=if a∈l then l else l++ [a]
def wrM(b:BM)(a:Nat)(v:Int):BM:={b with d:=b.d.set a v,w:=q1G b.w a}
def wrL(b:BM)(a:Nat):Nat→BM
 |0=>b
 |n+1=>wrM (wrL b a n) (a+n) 0
def BM.put(b:BM)(r:Int)(k v:Int):BM:={b with t:={b.t with rg:=b.t.rg.set r.toNat v,pc:=b.t.pc+1},o:=b.o++ [⟨b.t.pc,k,v⟩]}
def BM.go(b:BM):BM:={b with t:={b.t with pc:=b.t.pc+1}}
def rdM(b:BM)(a:Nat):BM:={b with r:=if(a:Int)∈b.w∨(a:Int)∈b.r then b.r else b.r++ [(a:Int)]}
def alB(c:Cfg)(tk:List Bool)(ad:List Int)(imm:Int):Option (Nat×Nat):=
 match ad with
 | []=>none
 |a::_=>if a<0∨qV c a<0∨q2a c (qV c a)≠imm∨tk.getD (qV c a).toNat false=true then none else some (a.toNat,(qV c a).toNat)
def q07(c:Cfg)(b:BM)(x:Ins):BM×Int:=
 if x.op=10 then(if c.words≤adr b.t.rg x.b x.imm then(b.go,7) else((rdM b (adr b.t.rg x.b x.imm).toNat).put x.a 1 (b.d.getD (adr b.t.rg x.b x.imm).toNat 0),0))
 else if x.op=11 then(if c.words≤adr b.t.rg x.a x.imm then(b.go,7) else((wrM b (adr b.t.rg x.a x.imm).toNat (b.t.rg.get x.b.toNat)).go,0))
 else if x.op=14 then(match alB c b.tk b.ad x.imm with
  |none=>(b, -1)
  |some (a,k)=>((wrL {b with ad:=b.ad.tail,tk:=b.tk.set k true} a (2 ^ x.imm.toNat)).put x.a 2 a,0))
 else if x.op=15 then(if qV c (b.t.rg.get x.a.toNat)<0∨b.tk.getD (qV c (b.t.rg.get x.a.toNat)).toNat false=false then(b.go,8) else({b with tk:=b.tk.set (qV c (b.t.rg.get x.a.toNat)).toNat false}.go,0))
 else if x.op=8 then(b.go,1) else if x.op=9 then(b.go,2) else({b with t:=q1q b.t x},0)
def q3U(c:Cfg)(p:List Ins):Nat→BM→BM×Int
 |0,b=>(b, -1)
 |n+1,b=>match p[b.t.pc]? with
  |none=>(b, -1)
  |some x=>if(q07 c b x).2=0 then q3U c p n (q07 c b x).1 else q07 c b x
def GS.fin(s:GS)(t:Nat)(th:Thr)(l:List ObM):GS:={s with T:=s.T.set t th,O:=s.O.set t (s.O.getD t []++l)}
def GS.ev(s:GS)(l:List EvM):GS:={s with E:=s.E++l}
def GS.mem(s:GS)(d:List Int)(tk:List Bool):GS:={s with d:=d,tk:=tk}
def txM(c:Cfg)(p:List Ins)(s:GS)(th:Thr)(t:Nat)(f:Int)(ad:List Int):Option GS:=
 if f≠0 then(if(3≤f∧f≤6)∧ad= [] then some (s.fin t ⟨q0t p th.pc+1,th.rg,f,decide (q0t p th.pc+1=p.length)⟩ [⟨th.pc,3,f⟩]) else none)
 else match q3U c p p.length ⟨s.d,s.tk,{th with pc:=th.pc+1},[],[],[],ad⟩ with
  |(b,o)=>if o= -1∨b.ad≠ [] then none
   else if o=1 then some (((s.mem b.d b.tk).ev [⟨s.n,t,3,0,[],[]⟩,⟨s.n,t,4,0,b.r,b.w⟩]).fin t ⟨q0t p th.pc+1,b.t.rg,1,decide (q0t p th.pc+1=p.length)⟩ (b.o++ [⟨th.pc,3,1⟩]))
   else some ((s.ev [⟨s.n,t,3,0,[],[]⟩,⟨s.n,t,4,0,b.r,[]⟩]).fin t ⟨q0t p th.pc+1,th.rg,o,decide (q0t p th.pc+1=p.length)⟩ [⟨th.pc,3,o⟩])
def plE(c:Cfg)(n t:Nat)(k a:Int):List EvM:=
 if c.strong then [⟨n,t,3,0,[],[]⟩,⟨n,t,4,0,if k=1 then [a] else [],if k=1 then [] else [a]⟩] else [⟨n,t,k,a,[],[]⟩]
def Thr.nxt(th:Thr)(len:Nat)(r:Rg):Thr:=⟨th.pc+1,r,th.oc,decide (th.pc+1=len)⟩
def sgM(c:Cfg)(p:List Ins)(s:GS)(th:Thr)(t:Nat)(f:Int)(x:Ins):Option GS:=
 if x.op=12∨x.op=13 then
  (match adr th.rg (if x.op=12 then x.b else x.a) x.imm with
  |a=>if f≠0 then(if f=6∧c.strong=true∧x.op=13∧a<c.words then some (s.fin t (th.nxt p.length th.rg) [⟨th.pc,7,6⟩]) else none)
   else if c.words≤a then some (s.fin t (th.nxt p.length (if x.op=12 then th.rg.set x.a.toNat 0 else th.rg)) [⟨th.pc,7,7⟩])
   else if x.op=12 then some ((s.ev (plE c s.n t 1 a)).fin t (th.nxt p.length (th.rg.set x.a.toNat (s.d.getD a.toNat 0))) [⟨th.pc,4,s.d.getD a.toNat 0⟩])
   else some (((s.mem (s.d.set a.toNat (th.rg.get x.b.toNat)) s.tk).ev (plE c s.n t 2 a)).fin t (th.nxt p.length th.rg) [⟨th.pc,5,th.rg.get x.b.toNat⟩]))
 else if f≠0 then none
 else some (s.fin t {q1q th x with dn:=decide ((q1q th x).pc=p.length)} (if x.op=16 then [⟨th.pc,6,0⟩] else []))
def chM(c:Cfg)(ps:List (List Ins))(s:GS)(ch:ChM):Option GS:=
 if ch.t<0 then none else match s.T[ch.t.toNat]?,ps[ch.t.toNat]? with
 |some th,some p=>if th.dn then none else match p[th.pc]? with
  |some x=>if x.op=7 then txM c p s th ch.t.toNat ch.f ch.ad else if ch.ad= [] then sgM c p s th ch.t.toNat ch.f x else none
  |none=>none
 |_,_=>none
def doM(c:Cfg)(ps:List (List Ins))(s:GS)(ch:ChM):Int×GS:=
 match chM c ps s ch with
 |some s'=>(0,{s' with n:=s.n+1})
 |none=>(70,s)
def q4a(c:Cfg)(ini:List Int)(ps:List (List Ins)):GS:=
 ⟨ini,List.replicate (qA c).toNat false,ps.map fun p=>⟨0,⟨0,0,0,0,0,0,0,0⟩,0,decide (p.length=0)⟩,[],ps.map fun _=> [],0⟩
structure MS where
 d:List Int
 o:List Int
 ck:Int
 tk:Int
 sv:Int
 sl:List Int
 hd:List Int
 nx:List Int
abbrev MS.L(m:MS):List (List Int):= [m.d,m.o,[m.ck],[m.tk],[m.sv],m.sl,m.hd,m.nx]
structure AcM where
 k:Int
 c:Int
 i:Int
 got:Int
 put:Int
 dn:Bool
abbrev AcM.enc(a:AcM):List Value:= [.int .i64 a.k, .int .i64 a.c, .int .i64 a.i, .int .u64 a.got, .int .u64 a.put, .bool a.dn]
abbrev AcM.v(a:AcM):Value:= .agg #[.int .i64 a.k, .int .i64 a.c, .int .i64 a.i, .int .u64 a.got, .int .u64 a.put, .bool a.dn]
def acz:AcM:=⟨0,0,0,0,0,false⟩
def acL(c i v:Int):AcM:=⟨1,c,i,v,v,true⟩
def acS(c i old v:Int):AcM:=⟨2,c,i,old,v,true⟩
def acW(c i old v:Int)(ok:Bool):AcM:=⟨3,c,i,old,if ok then v else old,ok⟩
def acA(c i old v:Int):AcM:=⟨4,c,i,old,qM (old+v),true⟩
structure StM where
 t:Int
 ph:Int
 at':Int
 ac:AcM
abbrev StM.enc(s:StM):List Value:= .int .i64 s.t:: .int .i64 s.ph:: .int .i64 s.at'::s.ac.enc
def q5V(o:Int):Int:=o/64
def q3R(o:Int):Int:=o % 64-1
inductive Ko
 |en (code:Int)
 |tk (v:Int)
 |wr (a v:Int)
inductive AP
 |idle
 |loc (k:Ko)
 |ent (n:Nat)
 |rd (n:Nat) (bf vl:Int)
 |lk (seen:Int) (ld:Bool)
 |tn (tk:Bool)
 |ck (l:List Int)
 |dc
 |wr (a v:List Int)
 |rl (o w:List Int)
 |sp
 |ps
 |lv
structure AT where
 st:Int
 code:Int
 rv:Int
 set:List Int
 ad:List Int
 vl:List Int
 seen:List Int
 addr:Int
 val:Int
 oc:List Int
 old:List Int
 ck:Int
 dn:Bool
 tk:Int
 ph:AP
def AT.new:AT:=⟨0,0,0,[],[],[],[],0,0,[],[],0,false,0, .idle⟩
def AT.sto(x:AT):Bool:=decide (x.code=1∧x.ad≠ [])
def q7H(l:List Int):List Int:=Go.Lib.compact (l.mergeSort fun x y=>decide (x≤y))
def AT.endA(c:Cfg)(x:AT)(code:Int):AT:=
 if code=1∧x.ad≠ [] then{x with code:=code,oc:=q7H (x.ad.map (qF c)),old:= [],ph:= .lk 0 false} else{x with code:=code,ph:= .tn false}
def AT.undo(x:AT)(code:Int):AT:={x with code:=code,ph:= .lv}
def q5k(cap:Int)(ad vl:List Int)(a v:Int):Option (List Int×List Int):=match ad.idxOf? a with
 |some n=>some (ad,vl.set n v)
 |none=>if(ad.length:Int)=cap then none else some (ad++ [a],vl++ [v])
def q41(ad vl:List Int)(a:Int):Option Int:=match ad.idxOf? a with
 |some n=>vl[n]?
 |none=>none
def AT.kont(c:Cfg)(x:AT):Ko→AT
 | .en code=>x.endA c code
 | .tk v=>{x with val:=v}
 | .wr a v=>if c.words≤a then x.endA c 7 else match q5k c.writes x.ad x.vl a v with
  |some (ad,vl)=>{x with ad:=ad,vl:=vl}
  |none=>x.undo 3
def AT.read(c:Cfg)(x:AT)(a:Int):AT:=if c.words≤a then{x with ph:= .loc (.en 7)} else match q41 x.ad x.vl a with
 |some v=>{x with ph:= .loc (.tk v)}
 |none=>{x with ph:= .rd 0 0 0,addr:=a}
def AT.rest(x:AT):AT:=if x.oc= [] then{x with ph:= .ps} else{x with ph:= .rl x.oc x.old}
def q6Q(cap:Int)(l:List Int)(o:Int):Option (List Int):=if o∈l then some l else if(l.length:Int)≥cap then none else some (l++ [o])
def qh(c:Cfg)(t:Int)(m:MS)(x:AT):MS×AT×AcM×Int:=
 match x.ph with
 | .idle=>(m,x,acz,0)
 | .loc k=>(m,{x with ph:= .idle}.kont c k,acz,0)
 | .ent n=>if n=0 then({m with sl:=m.sl.set t.toNat 1},{x with ph:= .ent 1},acS 6 t (m.sl.getD t.toNat 0) 1,2)
  else if n=1 then(m,{x with rv:=m.ck,ph:= .ent 2},acL 3 0 m.ck,3)
  else({m with sl:=m.sl.set t.toNat (qM (x.rv+2))},{x with ph:= .idle},acS 6 t (m.sl.getD t.toNat 0) (qM (x.rv+2)),4)
 | .rd n b v=>if n=0 then(match m.o.getD (qF c x.addr).toNat 0 with
   |w=>(m,if q3R w≥0∨q5V w>x.rv then x.undo 9 else{x with ph:= .rd 1 w 0},acL 2 (qF c x.addr) w,5))
  else if n=1 then(match m.d.getD x.addr.toNat 0 with
   |v=>(m,{x with ph:= .rd 2 b v},acL 1 x.addr v,6))
  else match m.o.getD (qF c x.addr).toNat 0 with
   |w=>(m,if w≠b then x.undo 9 else match q6Q c.reads x.set (qF c x.addr) with
    |none=>{x with seen:=q1G x.seen x.addr}.undo 3
    |some s=>{x with seen:=q1G x.seen x.addr,set:=s,val:=v,ph:= .idle},acL 2 (qF c x.addr) w,7)
 | .lk s ld=>match x.oc.getD x.old.length 0 with
  |o=>match m.o.getD o.toNat 0 with
   |w=>if ld=false then(m,{x with ph:= .lk w (decide (q3R w<0))},acL 2 o w,11)
    else if w=s then({m with o:=m.o.set o.toNat (qM (s+t+1))},{x with old:=x.old++ [s],ph:=if x.old.length+1=x.oc.length then .tn false else .lk s false},acW 2 o w (qM (s+t+1)) true,12)
    else(m,{x with ph:= .lk s false},acW 2 o w (qM (s+t+1)) false,12)
 | .tn b=>if b=false then({m with tk:=qM (m.tk+1)},{x with tk:=m.tk,ph:= .tn true},acA 4 0 m.tk 1,13) else(m,if m.sv=x.tk then(if x.set= [] then{x with ph:= .dc} else{x with ph:= .ck x.set}) else x,acL 5 0 m.sv,14)
 | .ck l=>match l.headD 0 with
  |o=>match m.o.getD o.toNat 0 with
   |w=>(m,if q5V w>x.rv then{x with code:=9}.rest else if l.tail= [] then{x with ph:= .dc} else{x with ph:= .ck l.tail},acL 2 o w,15)
 | .dc=>(m,if x.sto∧m.ck≥c.clock then{x with ck:=m.ck,code:=6}.rest else if x.sto then{x with ck:=m.ck,dn:=true,ph:= .wr x.ad x.vl} else{x with ck:=m.ck,dn:=true}.rest,acL 3 0 m.ck,16)
 | .wr a v=>({m with d:=m.d.set (a.headD 0).toNat (v.headD 0)},if a.tail= [] then{x with ph:= .rl x.oc (x.oc.map fun _=>(x.ck+1)*64)} else{x with ph:= .wr a.tail v.tail},acS 1 (a.headD 0) (m.d.getD (a.headD 0).toNat 0) (v.headD 0),17)
 | .rl o w=>({m with o:=m.o.set (o.headD 0).toNat (w.headD 0)},if o.tail= [] then{x with ph:=if x.dn∧x.sto then .sp else .ps} else{x with ph:= .rl o.tail w.tail},acS 2 (o.headD 0) (m.o.getD (o.headD 0).toNat 0) (w.headD 0),18)
 | .sp=>({m with ck:=qM (x.ck+1)},{x with ph:= .ps},acS 3 0 m.ck (qM (x.ck+1)),19)
 | .ps=>({m with sv:=qM (x.tk+1)},{x with ph:= .lv},acS 5 0 m.sv (qM (x.tk+1)),20)
 | .lv=>({m with sl:=m.sl.set t.toNat 0},{x with ph:= .idle,st:=2},acS 6 t (m.sl.getD t.toNat 0) 0,24)
section
variable{c:Cfg}{t:Int}{m:MS}{x:AT}
theorem qjr{b v:Int}(h:x.ph= .rd 0 b v):qh c t m x=(m,if q3R (m.o.getD (qF c x.addr).toNat 0)≥0∨q5V (m.o.getD (qF c x.addr).toNat 0)>x.rv then x.undo 9 else{x with ph:= .rd 1 (m.o.getD (qF c x.addr).toNat 0) 0},acL 2 (qF c x.addr) (m.o.getD (qF c x.addr).toNat 0),5):=by unfold qh;simp only[h];try rfl
theorem qjs{b v:Int}(h:x.ph= .rd 2 b v):qh c t m x=(m,if m.o.getD (qF c x.addr).toNat 0≠b then x.undo 9 else match q6Q c.reads x.set (qF c x.addr) with
   |none=>{x with seen:=q1G x.seen x.addr}.undo 3
   |some s=>{x with seen:=q1G x.seen x.addr,set:=s,val:=v,ph:= .idle},acL 2 (qF c x.addr) (m.o.getD (qF c x.addr).toNat 0),7):=by unfold qh;simp only[h];try rfl
theorem q5R{s:Int}{ld:Bool}(h:x.ph= .lk s ld):qh c t m x=(if ld=false then(m,{x with ph:= .lk (m.o.getD (x.oc.getD x.old.length 0).toNat 0) (decide (q3R (m.o.getD (x.oc.getD x.old.length 0).toNat 0)<0))},acL 2 (x.oc.getD x.old.length 0) (m.o.getD (x.oc.getD x.old.length 0).toNat 0),11)
    else if m.o.getD (x.oc.getD x.old.length 0).toNat 0=s then({m with o:=m.o.set (x.oc.getD x.old.length 0).toNat (qM (s+t+1))},{x with old:=x.old++ [s],ph:=if x.old.length+1=x.oc.length then .tn false else .lk s false},acW 2 (x.oc.getD x.old.length 0) (m.o.getD (x.oc.getD x.old.length 0).toNat 0) (qM (s+t+1)) true,12)
    else(m,{x with ph:= .lk s false},acW 2 (x.oc.getD x.old.length 0) (m.o.getD (x.oc.getD x.old.length 0).toNat 0) (qM (s+t+1)) false,12)):=by unfold qh;simp only[h];try rfl
theorem q8R(h:x.ph= .tn false):qh c t m x=({m with tk:=qM (m.tk+1)},{x with tk:=m.tk,ph:= .tn true},acA 4 0 m.tk 1,13):=by unfold qh;simp only[h];try rfl
theorem q6D(h:x.ph= .tn true):qh c t m x=(m,if m.sv=x.tk then(if x.set= [] then{x with ph:= .dc} else{x with ph:= .ck x.set}) else x,acL 5 0 m.sv,14):=by unfold qh;simp only[h];try rfl
theorem qdD{l:List Int}(h:x.ph= .ck l):qh c t m x=(m,if q5V (m.o.getD (l.headD 0).toNat 0)>x.rv then{x with code:=9}.rest else if l.tail= [] then{x with ph:= .dc} else{x with ph:= .ck l.tail},acL 2 (l.headD 0) (m.o.getD (l.headD 0).toNat 0),15):=by unfold qh;simp only[h];try rfl
theorem q50(h:x.ph= .dc):qh c t m x=(m,if x.sto∧m.ck≥c.clock then{x with ck:=m.ck,code:=6}.rest else if x.sto then{x with ck:=m.ck,dn:=true,ph:= .wr x.ad x.vl} else{x with ck:=m.ck,dn:=true}.rest,acL 3 0 m.ck,16):=by unfold qh;simp only[h];try rfl
end
structure FT where
 ld:Bool
 lim:Int
 nx:Nat
structure GT where
 th:Thr
 at':Option AT
 bg:Nat
 sv:Rg
 tr:Nat
 seen:List ObM
 fn:Option FT
 obs:List ObM
 ct:Nat
def GT.to(x:GT)(n pc:Nat):GT:={x with th:={x.th with pc:=pc,dn:=decide (pc=n)}}
def AT.busy(a:AT):Bool:=match a.ph with
 | .idle=>false
 |_=>true
def GT.endG(p:List Ins)(x:GT)(a:AT):GT:=
 let x1:GT:=if a.code=1 then{x with at':=none,obs:=x.obs++x.seen} else{x with at':=none,th:={x.th with rg:=x.sv}}
 if a.code=9∧(x.tr:Int)<((p[x.bg]?).map (·.imm)).getD 0 then x1.to p.length x.bg
 else({x1 with tr:=0,th:={x1.th with oc:=if a.code=9 then 5 else a.code},obs:=x1.obs++ [⟨x.bg,3,if a.code=9 then 5 else a.code⟩]}:GT).to p.length (q0t p x.bg+1)
def GT.ans(p:List Ins)(x:GT)(a:AT)(i:Ins):GT:=
 if a.st=2 then x.endG p a
 else if i.op=10 then({x with at':=some a,th:={x.th with rg:=x.th.rg.set i.a.toNat a.val},seen:=x.seen++ [⟨x.th.pc,1,a.val⟩]}:GT).to p.length (x.th.pc+1)
 else({x with at':=some a}:GT).to p.length (x.th.pc+1)
section
variable{p:List Ins}{x:GT}{a:AT}{i:Ins}
theorem qhq(h:a.st=2):x.ans p a i=x.endG p a:=if_pos h
theorem qhr(h:a.st≠2)(h1:i.op≠10):x.ans p a i=({x with at':=some a}:GT).to p.length (x.th.pc+1):=by unfold GT.ans;rw[if_neg h,if_neg h1]
theorem qhs(h:a.st≠2)(h1:i.op=10):x.ans p a i=({x with at':=some a,th:={x.th with rg:=x.th.rg.set i.a.toNat a.val},seen:=x.seen++ [⟨x.th.pc,1,a.val⟩]}:GT).to p.length (x.th.pc+1):=by unfold GT.ans;rw[if_neg h,if_pos h1]
end
section
variable{p:List Ins}{x:GT}{a:AT}
theorem qhK(h:a.code=1):x.endG p a=({x with at':=none,obs:=x.obs++x.seen++ [⟨x.bg,3,1⟩],tr:=0,th:={x.th with oc:=1}}:GT).to p.length (q0t p x.bg+1):=by
 unfold GT.endG;rw[if_pos h,if_neg (fun hc=>absurd (h.symm.trans hc.1) Y7),if_neg (fun hc=>absurd (h.symm.trans hc) Y7),h]
theorem qhL(h:a.code=9)(hr:(x.tr:Int)<((p[x.bg]?).map (·.imm)).getD 0):x.endG p a=({x with at':=none,th:={x.th with rg:=x.sv}}:GT).to p.length x.bg:=by
 unfold GT.endG;rw[if_neg (fun hc=>absurd (h.symm.trans hc) Y7),if_pos ⟨h,hr⟩]
theorem qkh(h:a.code=9)(hr:¬(x.tr:Int)<((p[x.bg]?).map (·.imm)).getD 0):x.endG p a=({x with at':=none,th:={x.th with rg:=x.sv,oc:=5},tr:=0,obs:=x.obs++ [⟨x.bg,3,5⟩]}:GT).to p.length (q0t p x.bg+1):=by
 unfold GT.endG;rw[if_neg (fun hc=>absurd (h.symm.trans hc) Y7),if_neg (fun hc=>hr hc.2),if_pos h]
end
def evA(c:Cfg)(t:Int)(a:AT)(ph:Int):List EvM:=
 if ph=3 then [⟨0,t,3,0,[],[]⟩] else if ph=16∧a.dn=true then [⟨0,t,4,0,a.seen,if a.code=1 then a.ad.filter fun x=>decide (x<c.words) else []⟩] else []
def q0M(c:Cfg)(p:List Ins)(t:Int)(m:MS)(x:GT)(a:AT)(i:Ins):MS×GT×StM×List EvM:=
 match qh c t m a with
 |(m',a',ac,ph)=>(m',if a'.busy then{x with at':=some a'} else x.ans p a' i,⟨t,ph,x.ct,ac⟩,evA c t a' ph)
def q1F(c:Cfg)(r:Rg)(a:AT)(i:Ins):AT:=
 if i.op=10 then a.read c (adr r i.b i.imm) else if i.op=11 then{a with ph:= .loc (.wr (adr r i.a i.imm) (r.get i.b.toNat))}
 else if i.op=8 then{a with ph:= .loc (.en 1)} else{a with ph:= .loc (.en 2)}
def q15(c:Cfg)(p:List Ins)(t:Int)(m:MS)(x:GT)(i:Ins):MS×GT×StM×List EvM:=
 if i.op=7 then q0M c p t m {x with bg:=x.th.pc,sv:=x.th.rg,tr:=x.tr+1,seen:= [],ct:=x.ct+1} {AT.new with st:=1,ph:= .ent 0} i
 else if 8≤i.op∧i.op≤11 then(match x.at' with
  |some a=>q0M c p t m x (q1F c x.th.rg a i) i
  |none=>(m,x,⟨t,0,0,acz⟩,[]))
 else(m,{x with th:={q1q x.th i with dn:=decide ((q1q x.th i).pc=p.length)}},⟨t,0,if x.at'.isSome then x.ct else 0,acz⟩,[])
open Go Go.RowKit
inductive qjP (K:Value→Prop):List Value→Prop
 |nil:qjP K []
 |cons {x:Value} {l:List Value} (h:K x) (hl:qjP K l):qjP K (x::l)
theorem qjP.mem{K:Value→Prop}{l:List Value}(h:qjP K l):∀v∈l,K v:=by
 induction h with
 |nil=>intro v hv;cases hv
 |cons h _ ih=>
  intro v hv
  rcases zQ.1 hv with rfl|hv
  ·exact h
  ·exact ih v hv
def qfa:List Ins→Nat→Int→Option Int
 | [],_,b=>some b
 |x::l,k,b=>if q7P 0 b x=0 then qfa l (k+1) (q18 x k b) else none
theorem q7j(x:Ins):∀(l:List Ins) (k:Nat) (b:Int),qfa (l++ [x]) k b=(qfa l k b).bind fun b'=>if q7P 0 b' x=0 then some (q18 x (k+l.length) b') else none
 | [],k,b=>by simp[qfa]
 |y::l,k,b=>by
  simp only[zl,qfa,zG]
  split
  ·rw[q7j x l,yd,yC 1]
  ·rfl
theorem q6Y(p:List Ins)(hz:∀x∈p,q1z x=true→x.imm=0){b':Int}(hb':b'<0):∀(n k:Nat) (b:Int),n+k=p.length→q8W p k b→qfa (p.drop k) k b=some b'→q0i (q0f p) (p.drop k) k b=(0,0)
 |0,k,b,hn,_,hr=>by
  have:p.drop k= []:=List.drop_eq_nil_iff.2 Y6;rw[this,qfa,Option.some.injEq] at hr;rw[this,q0i,if_neg Y6]
 |n+1,k,b,hn,h,hr=>by
  obtain⟨x,hx⟩:∃x,p[k]? =some x:=⟨_,z6 Y6⟩
  rw[q0C hx,qfa] at hr
  split at hr
  ·rename_i h0;have ho:=q6r h0;have ht:q0f p k b x=0:=by
    unfold q0f
    split
    ·rename_i hs;have hi:=hz x (zg hx) hs;have h8:=q3j hs;rw[hi,if_neg Y6]
     split
     ·rename_i hb
      rcases h.bb with hb1|⟨_,_,he⟩
      ·omega
      ·have:=q2P (p.drop (k+1)) (k+1);rw[he,q0C hx,q1k]
       (repeat' split) <;>omega
     ·rw[q48 _ _ _ _ Y8];rfl
    ·rfl
   rw[q0C hx,q0i,ht,if_neg (by simpa using h0)];exact q6Y p hz hb' n (k+1) _ Y6 (h.step hx ho.1 ho.2.1) hr
  ·cases hr
structure Mk(p:List Ins)(b:Int):Prop where
 run:qfa p 0 (-1)=some b
 zer:∀x∈p,q1z x=true→x.imm=0
theorem Mk.nil:Mk [] (-1):=⟨rfl,fun _ h=>by cases h⟩
theorem Mk.snoc{p:List Ins}{b:Int}{x:Ins}(h:Mk p b)(ho:q7P 0 b x=0)(hi:q1z x=true→x.imm=0):Mk (p++ [x]) (q18 x p.length b):=by
 refine⟨by rw[q7j,h.run];simp[ho],fun y hy hs=> ?_⟩
 rcases zz.1 hy with hy|hy
 ·exact h.zer y hy hs
 ·obtain rfl:=zf.1 hy;exact hi hs
theorem Mk.ok{p:List Ins}{b:Int}(h:Mk p b)(hb:b<0)(hl:p.length≤64):qbx p=(0,0):=by
 rw[←qeh];unfold qw;rw[if_neg Y6];exact q6Y p h.zer hb p.length 0 (-1) Y6 (q8W.start p) h.run
def qmC(o:Bool)(op:Int):Prop:=
 (1≤op∧op≤6)∨(o=false∧(op=7∨op=12∨op=13∨op=16∨op=17))∨(o=true∧(op=8∨op=9∨op=10∨op=11∨op=14∨op=15))
theorem q9n{o:Bool}{b:Int}{x:Ins}(hf:qmC o x.op)(hc:qS x=0)(hb:o=decide (0≤b)):q7P 0 b x=0:=by
 unfold q7P;have hp:q1M x=if x.op=8∨x.op=9∨x.op=10∨x.op=11∨x.op=14∨x.op=15 then 1 else if x.op=7∨x.op=12∨x.op=13∨x.op=16∨x.op=17 then 2 else 0:=by unfold q1M;rw[if_pos hc]
 rw[if_neg Y6,hp]
 rcases hf with h|⟨h0,h⟩|⟨h0,h⟩
 ·(repeat' split) <;>omega
 ·subst h0;have hb':¬0≤b:=of_decide_eq_false hb.symm
  (repeat' split) <;>omega
 ·subst h0;have hb':0≤b:=of_decide_eq_true hb.symm
  (repeat' split) <;>omega
abbrev qnG(n:Nat):List Value:= [.int .i64 n]
structure PS where
 i:Nat
 o:Bool
 b:Int
 p:List Ins
 a:Option Addr
 cap:Nat
 D:Own
 js:List Nat
 a2:Option Addr
 cap2:Nat
 D2:Own
abbrev qnu(heap:Bool)(x:Ins):Prop:=(0≤x.imm∧x.imm≤64)∧(x.op=14∨x.op=15→heap=true)
structure PI(heap:Bool)(n:Nat)(most:Int)(s:PS):Prop where
 le:s.i≤n
 ob:s.o=decide (0≤s.b)
 mkd:Mk s.p s.b
 bp:qu Ins.enc 40 5 s.a s.cap s.p s.D
 bj:qu qnG 3 1 s.a2 s.cap2 s.js s.D2
 lp:s.p.length+1≤most
 lj:s.js.length≤s.p.length
 asc:s.js.Pairwise (· < ·)
 zer:∀j∈s.js,∃x,s.p[j]? =some x∧x.imm=0
 rng:∀x∈s.p,qnu heap x
theorem PI.next{heap:Bool}{n:Nat}{most:Int}{s:PS}(h:PI heap n most s)(hi:s.i<n)(hl:(s.p.length:Int)+1<most){y:Ins}(hf:qmC s.o y.op)(hc:qS y=0)(hz:y.op=4∨y.op=5∨y.op=6→y.imm=0)(hr:qnu heap y)
  {a:Option Addr} {cap:Nat} {D:Own} (hb:qu Ins.enc 40 5 a cap (s.p++ [y]) D) {o:Bool} (ho:o=if y.op=7 then true else if y.op=8 then false else s.o):
  PI heap n most ⟨s.i+1,o,q18 y s.p.length s.b,s.p++ [y],a,cap,D,s.js,s.a2,s.cap2,s.D2⟩:=by
 refine⟨by simp only;omega,?_,h.mkd.snoc (q9n hf hc h.ob) (fun hs=>hz (q3j hs).1),hb,h.bj,by simp;omega,?_,h.asc,fun j hj=> ?_,fun x hx=>by
  rcases zz.1 hx with hx|hx
  ·exact h.rng x hx
  ·rw[zf.1 hx];exact hr⟩
 ·simp only;rw[ho];unfold q18
  split
  ·exact(decide_eq_true Y6).symm
  ·split
   ·exact(decide_eq_false Y6).symm
   ·exact h.ob
 ·have:=h.lj;simp;omega
 ·obtain⟨x,hx,h0⟩:=h.zer j hj;exact⟨x,by rw[zy (z7.1 hx).1];exact hx,h0⟩
theorem PI.commit{heap:Bool}{n:Nat}{most:Int}{s:PS}(h:PI heap n most s)(ho:s.o=true):Mk (s.p++ [⟨8,0,0,0,0⟩]) (q18 ⟨8,0,0,0,0⟩ s.p.length s.b)∧q18 ⟨8,0,0,0,0⟩ s.p.length s.b<0∧∀j∈s.js,∃x,(s.p++ [⟨8,0,0,0,0⟩])[j]? =some x∧x.imm=0:=by
 refine⟨h.mkd.snoc (q9n (o:=s.o) (by rw[ho];simp[qmC]) rfl h.ob) (fun _=>rfl),by simp[q18],fun j hj=> ?_⟩;obtain⟨x,hx,h0⟩:=h.zer j hj;exact⟨x,by rw[zy (z7.1 hx).1];exact hx,h0⟩
open Go
section
variable{P:Program}{W0:World}{own:Own}
def qmp(P:Program)(W0:World)(k:FuncId)(args:List Value)(own:Own)(Φ:Value→Prop):Prop:=
 ∀w,St W0 own w→Calls P k args.toArray w fun e w'=>∃v,e= .returned v∧Φ v∧St W0 own w'
theorem q4m{k:FuncId}{args:List Value}{Φ:Value→Prop}{K:Value→Own→Prop}(h:qmp P W0 k args own Φ)(hk:∀v,Φ v→K v own):q0w P W0 own k args K:=
 ⟨fun w hw=>(h w hw).mono fun _ _ ⟨v,he,hv,hs⟩=>⟨v,own,he,hs,hk v hv⟩⟩
end
open Go
theorem qim:∀(n:Nat) (l:List Int),l.Nodup→(∀x∈l,0≤x∧x<n)→l.length≤n
 |0,[],_,_=>zu _
 |0,x::l,_,h=>by have:=h x zm;omega
 |n+1,l,hn,h=>by
  have h1:(l.erase (n:Int)).length≤n:=qim n _ (hn.erase _) fun x hx=>by
   have:=(List.Nodup.mem_erase_iff hn).1 hx;have h2:=h x this.2;have h3:x≠(n:Int):=this.1;omega
  have h4:=List.length_erase (a:=(n:Int)) (l:=l)
  split at h4 <;>omega
def hmP(P:Nat)(a:Int):Nat:=a.toNat % P*5 % P
structure LI(P:Nat)(ix ad:List Int):Prop where
 p0:0<P
 len:ix.length=P
 rng:∀(k:Nat) (v:Int),ix[k]? =some v→v= -1∨(0≤v∧v<ad.length)
 hit:∀(n:Nat) (a:Int),ad[n]? =some a→∃d:Nat,ix[(hmP P a+d) % P]? =some (n:Int)∧∀e,e<d→∀v:Int,ix[(hmP P a+e) % P]? =some v→0≤v
 inj:∀(j k:Nat) (v:Int),ix[j]? =some v→ix[k]? =some v→0≤v→j=k
 nd:ad.Nodup
 room:ad.length<P
def qb5(P:Nat)(ix ad:List Int)(a:Int)(d:Nat):Prop:=∀v,ix[(hmP P a+d) % P]? =some v→v<0∨ad[v.toNat]? =some a
section
variable{P:Nat}{ix ad:List Int}
theorem LI.at(h:LI P ix ad)(k:Nat):∃v,ix[k % P]? =some v:=
 ⟨_,z6 (by rw[h.len];exact ya _ h.p0)⟩
theorem LI.empty(h:LI P ix ad):∃k,k<P∧ix[k]? =some (-1):=by
 by_cases hc:∃k,k<P∧ix[k]? =some (-1)
 ·exact hc
 ·exfalso;have h1:ix.Nodup:=by
   rw[List.Nodup,Zr];intro i j hi hj hij he;have e1:ix[i]? =some ix[i]:=z6 hi;have e2:ix[j]? =some ix[i]:=by rw[he];exact z6 hj
   rcases h.rng i _ e1 with e|⟨e, -⟩
   ·rw[e] at e1;exact hc ⟨i,by rw[←h.len];exact hi,e1⟩
   ·have:=h.inj i j _ e1 e2 e;omega
  have h2:=qim ad.length ix h1 fun x hx=>by
   obtain⟨i,hi,rfl⟩:=ZO hx;have e1:ix[i]? =some ix[i]:=z6 hi
   rcases h.rng i _ e1 with e|e
   ·rw[e] at e1;exact absurd ⟨i,by rw[←h.len];exact hi,e1⟩ hc
   ·exact e
  have:=h.room;have:=h.len;omega
theorem LI.find(h:LI P ix ad)(a:Int):∃D,qb5 P ix ad a D∧∀e,e<D→∃v,ix[(hmP P a+e) % P]? =some v∧0≤v∧ad[v.toNat]? ≠some a:=by
 obtain⟨k,hk,hk1⟩:=h.empty;have hh:hmP P a<P:=ya _ h.p0;have h0:qb5 P ix ad a (k+P-hmP P a):=by
  intro v hv;rw[show hmP P a+(k+P-hmP P a)=k+P by omega,Nat.add_mod_right,Nat.mod_eq_of_lt hk,hk1] at hv;left;have:=Option.some.inj hv;omega
 obtain⟨D,h1,h2⟩:=q9B (p:=qb5 P ix ad a) _ h0;refine⟨D,h1,fun e he=> ?_⟩;obtain⟨v,hv⟩:=h.at (hmP P a+e);refine⟨v,hv,?_⟩
 by_cases hc:0≤v∧ad[v.toNat]? ≠some a
 ·exact hc
 ·exfalso;have:qb5 P ix ad a e:=by
   intro v' hv';rw[hv] at hv';obtain rfl:=Option.some.inj hv'
   by_cases hn:v<0
   ·exact .inl hn
   ·right
    by_cases he2:ad[v.toNat]? =some a
    ·exact he2
    ·exact absurd ⟨Y6,he2⟩ hc
  have:=h2 e this;omega
theorem LI.found(h:LI P ix ad){a:Int}{D:Nat}(h1:qb5 P ix ad a D)(h2:∀e,e<D→∃v,ix[(hmP P a+e) % P]? =some v∧0≤v∧ad[v.toNat]? ≠some a):
  ∃v,ix[(hmP P a+D) % P]? =some v∧match ad.idxOf? a with
   |some n=>v=n
   |none=>v= -1:=by
 obtain⟨v,hv⟩:=h.at (hmP P a+D);refine⟨v,hv,?_⟩;cases hx:ad.idxOf? a with
 |some n=>
  show v=n;have hn:ad[n]? =some a:=by
   have:=Zj.1 hx;obtain⟨hlt,hb, -⟩:=this;rw[z6 hlt]
   simpa using hb
  obtain⟨d,hd,hd2⟩:=h.hit n a hn
  rcases Nat.lt_trichotomy d D with hlt|rfl|hgt
  ·obtain⟨v',hv',hp,hne⟩:=h2 d hlt;rw[hd] at hv';obtain rfl:=Option.some.inj hv';exact absurd hn (by simpa using hne)
  ·rw[hv] at hd;exact Option.some.inj hd
  ·have h0:=hd2 D hgt v hv
   rcases h1 v hv with hc|hc
   ·omega
   · --the entry found has the same address
    have hvn:v.toNat=n:=by
     have hl1:=(z7.1 hc)
     have hl2:=(z7.1 hn)
     obtain⟨l1,e1⟩:=hl1;obtain⟨l2,e2⟩:=hl2;have:=Zr.1 h.nd
     rcases Nat.lt_trichotomy v.toNat n with q|q|q
     ·exact absurd (e1.trans e2.symm) (this _ _ l1 l2 q)
     ·exact q
     ·exact absurd (e2.trans e1.symm) (this _ _ l2 l1 q)
    omega
 |none=>
  show v= -1
  rcases h.rng _ v hv with e|⟨e, -⟩
  ·exact e
  ·exfalso
   rcases h1 v hv with hc|hc
   ·omega
   ·have:a∈ad:=zg hc;have h3:=ZF.1 hx a this;simp at h3
theorem LI.put(h:LI P ix ad){a:Int}{D:Nat}(h1:ix[(hmP P a+D) % P]? =some (-1))(h2:∀e,e<D→∃v,ix[(hmP P a+e) % P]? =some v∧0≤v∧ad[v.toNat]? ≠some a)(ha:a∉ad)(hr:ad.length+1<P):
  LI P (ix.set ((hmP P a+D) % P) ad.length) (ad++ [a]):=by
 have hk:(hmP P a+D) % P<ix.length:=by rw[h.len];exact ya _ h.p0
 generalize hK:(hmP P a+D) % P=K at*;have hset:∀(j:Nat) (v:Int),(ix.set K (ad.length:Int))[j]? =some v→(j=K∧v=ad.length)∨(j≠K∧ix[j]? =some v):=fun j v hv=>by
  rw[zv] at hv
  split at hv
  ·rename_i he;left;exact⟨he.symm,(Option.some.inj hv).symm⟩
  ·rename_i he;exact .inr ⟨fun e=>he e.symm,hv⟩
 have hsetn:∀(j:Nat) (v:Int),j≠K→ix[j]? =some v→(ix.set K (ad.length:Int))[j]? =some v:=fun j v hj hv=>by
  rw[zv,if_neg (fun e=>hj e.symm)];exact hv
 refine⟨h.p0,by rw[zj];exact h.len,fun k v hv=> ?_,fun n b hn=> ?_,fun i j v hi hj h0=> ?_,?_,by rw[z8,zE];exact hr⟩
 ·rcases hset k v hv with ⟨-,e⟩|⟨-,e⟩
  ·right;rw[z8,zE];omega
  ·rcases h.rng k v e with e|e
   ·exact .inl e
   ·right;rw[z8,zE];omega
 ·by_cases hlt:n<ad.length
  ·rw[zy hlt] at hn;obtain⟨d,hd,hd2⟩:=h.hit n b hn;refine⟨d,hsetn _ _ (fun e=> ?_) hd,fun e he v hv=> ?_⟩
   ·rw[e,h1] at hd;have:=Option.some.inj hd;omega
   ·rcases hset _ v hv with ⟨-,e2⟩|⟨-,e2⟩
    ·omega
    ·exact hd2 e he v e2
  ·have hn2:n=ad.length:=by
    have:=(z7.1 hn).1;rw[z8,zE] at this;omega
   subst hn2;rw[zP (zu _),y0] at hn;obtain rfl:a=b:=Option.some.inj hn;refine⟨D,by rw[hK,zv,if_pos rfl,if_pos hk],fun e he v hv=> ?_⟩;obtain⟨v',hv',h0, -⟩:=h2 e he
   rcases hset _ v hv with ⟨-,e2⟩|⟨-,e2⟩
   ·omega
   ·rw[hv'] at e2;have:=Option.some.inj e2;omega
 ·rcases hset i v hi with ⟨e1,e2⟩|⟨e1,e2⟩
  ·rcases hset j v hj with ⟨f1,f2⟩|⟨f1,f2⟩
   ·omega
   ·rcases h.rng j v f2 with e|e <;>omega
  ·rcases hset j v hj with ⟨f1,f2⟩|⟨f1,f2⟩
   ·rcases h.rng i v e2 with e|e <;>omega
   ·exact h.inj i j v e2 f2 h0
 ·rw[List.nodup_append];refine⟨h.nd,Y8,fun x hx y hy=> ?_⟩;rw[zf] at hy;subst hy;exact fun e=>ha (e ▸ hx)
end
theorem LI.new{P:Nat}(hP:0<P):LI P (List.replicate P (-1)) []:=
 ⟨hP,zJ,fun k v hv=> .inl (by rw[ZM] at hv;split at hv;exact(Option.some.inj hv).symm;cases hv),fun n a hn=>(by simp at hn),fun j k v hj _ h0=>(by
  rw[ZM] at hj;split at hj
  ·have:=Option.some.inj hj;omega
  ·cases hj),List.nodup_nil,hP⟩
end Go.Proofs.YtbhbldllneadeaaGreatDoor
