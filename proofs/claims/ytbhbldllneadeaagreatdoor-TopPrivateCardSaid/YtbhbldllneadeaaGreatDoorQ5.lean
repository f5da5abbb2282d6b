/- What the laws share, part 5. No condition. -/
import Derived.Test.YtbhbldllneadeaaGreatDoorQ4
namespace Go.Proofs.YtbhbldllneadeaaGreatDoor
open Go
def qY(m:Nat)(f f':Fr):Prop:=∀t,qe0 m t=false→f' t=f t
theorem qY.refl{m:Nat}{f:Fr}:qY m f f:=fun _ _=>rfl
theorem qY.trans{m:Nat}{f g h:Fr}(a:qY m f g)(b:qY m g h):qY m f h:=fun t ht=>(b t ht).trans (a t ht)
theorem qY.upd{m:Nat}{f:Fr}{d:Nat}{v:Value}(hd:qe0 m d=true):qY m f (upd f d v):=by
 intro t ht;unfold Go.Proofs.YtbhbldllneadeaaGreatDoor.upd;cases e:Nat.beq t d
 ·rfl
 ·rw[Y5] at e;subst e;rw[hd] at ht;cases ht
theorem qY.updO{m:Nat}{f:Fr}{d:Option Nat}{v:Value}(hd:∀t,d=some t→qe0 m t=true):qY m f (updO f d v):=by
 cases d with
 |none=>exact qY.refl
 |some d=>exact qY.upd (hd d rfl)
def q2p(m:Nat):List q3Z→Bool
 | []=>true
 |o::r=>(match o.dst with|some d=>qe0 m d|none=>true)&&q2p m r
def q3Q(m:Nat):DT→Bool
 | .f o r| .m o r=>(match o.dst with|some d=>qe0 m d|none=>true)&&q3Q m r
 | .both a b=>q3Q m a&&q3Q m b
 |_=>true
def q5c(m:Nat):IC→Bool
 | .region ops=>q2p m ops
 | .draw t=>q3Q m t
 | .par _=>false
 | .seq a b| .cut a b| .cond _ a b=>q5c m a&&q5c m b
 | .block _ b| .loop _ b=>q5c m b
 |_=>true
section frame
variable{P:Program}{W0:World}{m:Nat}
theorem q6T{o:q3Z}{r:List q3Z}(h:q2p m (o::r)=true):(∀t,o.dst=some t→qe0 m t=true)∧q2p m r=true:=by
 simp only[q2p,zx] at h;refine⟨fun t ht=> ?_,h.2⟩;rw[ht] at h;exact h.1
theorem q90{K:Fr→Own→Prop}:∀(l:List q3Z) (f:Fr) (own:Own),q2p m l=true→XR P W0 l K f own→XR P W0 l (fun f' own'=>K f' own'∧qY m f f') f own
 | [],f,own,_,h=>⟨h,qY.refl⟩
 |⟨d,op,gd⟩::l,f,own,hm,h=>by
  obtain⟨hd,hl⟩:=q6T hm;simp only at hd;have ih:∀f1 own1,qY m f f1→XR P W0 l K f1 own1→XR P W0 l (fun f' own'=>K f' own'∧qY m f f') f1 own1:=fun f1 own1 ha h1=>
   q5X (fun f' own' hk=>⟨hk.1,ha.trans hk.2⟩) l f1 own1 (q90 l f1 own1 hl h1)
  cases gd with
  |none=>exact q2N (fun v own' h=>ih _ _ (qY.updO hd) h) h
  |some gb=>
   obtain⟨g,b⟩:=gb;simp only[q7T] at h ⊢
   split at h
   ·rename_i c hc;refine⟨fun e=> ?_,fun e=> ?_⟩
    ·have hs:upd f g (.bool b)=f:=q1B (by rw[hc,e]);have h':=h.y e;rw[hs] at h' ⊢;exact q2N (fun v own' h=>ih _ _ (qY.updO hd) h) h'
    ·have hs:upd f g (.bool (!b))=f:=q1B (by rw[hc,e]);have h':=h.n e;rw[hs] at h' ⊢;exact ih _ _ (qY.updO hd) h'
   ·exact ih _ _ (qY.updO hd) h
theorem q8Y{gd:Option (Nat×Bool)}{f:Fr}{Y Y' N N':Fr→Prop}(hy:∀f1,qY m f f1→Y f1→Y' f1)(hn:∀f1,qY m f f1→N f1→N' f1)(h:XG gd f Y N):XG gd f Y' N':=by
 unfold XG at h ⊢
 split
 ·exact hy _ qY.refl h
 ·rename_i g b;simp only at h
  split
  ·rename_i c hc;rw[hc] at h;refine⟨fun e=> ?_,fun e=> ?_⟩
   ·have hs:upd f g (.bool b)=f:=q1B (by rw[hc,e]);have h':=h.y e;rw[hs] at h' ⊢;exact hy _ qY.refl h'
   ·have hs:upd f g (.bool (!b))=f:=q1B (by rw[hc,e]);have h':=h.n e;rw[hs] at h' ⊢;exact hn _ qY.refl h'
  ·rename_i hc;split at h
   ·rename_i hc';exact absurd hc' (hc _)
   ·exact hn _ qY.refl h
theorem q30{K:Fr→Own→Prop}:∀(t:DT) (f:Fr) (own:Own),q3Q m t=true→XD P W0 t K f own→XD P W0 t (fun f' own'=>K f' own'∧qY m f f') f own
 | .done,f,own,_,h=>⟨h,qY.refl⟩
 | .f o r,f,own,hm,h=>by
  simp only[q3Q,zx] at hm;have hd:∀t,o.dst=some t→qe0 m t=true:=fun t ht=>by have:=hm.1;rw[ht] at this;exact this
  have ih:∀f1 own1,qY m f f1→XD P W0 r K f1 own1→XD P W0 r (fun f' own'=>K f' own'∧qY m f f') f1 own1:=fun f1 own1 ha h1=>
   q1V (fun f' own' hk=>⟨hk.1,ha.trans hk.2⟩) r f1 own1 (q30 r f1 own1 hm.2 h1)
  rw[qm6] at h ⊢;exact q8Y (fun f1 ha h=>qbe (fun v h=>ih _ _ (ha.trans (qY.updO hd)) h) h) (fun f1 ha h=>ih _ _ (ha.trans (qY.updO hd)) h) h
 | .m o r,f,own,hm,h=>by
  simp only[q3Q,zx] at hm;have hd:∀t,o.dst=some t→qe0 m t=true:=fun t ht=>by have:=hm.1;rw[ht] at this;exact this
  have ih:∀f1 own1,qY m f f1→XD P W0 r K f1 own1→XD P W0 r (fun f' own'=>K f' own'∧qY m f f') f1 own1:=fun f1 own1 ha h1=>
   q1V (fun f' own' hk=>⟨hk.1,ha.trans hk.2⟩) r f1 own1 (q30 r f1 own1 hm.2 h1)
  rw[qm7] at h ⊢;exact q8Y (fun f1 ha h=>q2N (fun v own' h=>ih _ _ (ha.trans (qY.updO hd)) h) h) (fun f1 ha h=>ih _ _ (ha.trans (qY.updO hd)) h) h
 | .both a b,f,own,hm,h=>by
  simp only[q3Q,zx] at hm;exact⟨q30 a f own hm.1 (q1c.l (A:=XD P W0 a K f own) (B:=XD P W0 b K f own) h),q30 b f own hm.2 (q1c.r (A:=XD P W0 a K f own) (B:=XD P W0 b K f own) h)⟩
 | .tt,_,_,_,h=>h
 | .bad,_,_,_,h=>h.elim
theorem q0X:∀(c:IC) (Q:q4k) (f:Fr) (own:Own),q5c m c=true→XS P W0 c Q f own→XS P W0 c (fun e f' own'=>Q e f' own'∧qY m f f') f own
 | .skip,Q,f,own,_,h=>⟨h,qY.refl⟩
 | .region ops,Q,f,own,hm,h=>q90 ops f own hm h
 | .draw ops,Q,f,own,hm,h=>q30 ops f own hm h
 | .par _,_,_,_,hm,_=>by cases hm
 | .seq a b,Q,f,own,hm,h=>by
  simp only[q5c,zx] at hm;refine q0o a _ _ ?_ f own (q0X a _ f own hm.1 h);intro e f' own' h';cases e with
  |normal=>exact q0o b _ _ (fun e f2 o2 hk=>⟨hk.1,h'.2.trans hk.2⟩) f' own' (q0X b Q f' own' hm.2 h'.1)
  |_=>exact h'
 | .cut a b,Q,f,own,hm,h=>by
  simp only[q5c,zx] at hm;refine⟨q0o a _ _ ?_ f own (q0X a _ f own hm.1 h.h)⟩;intro e f' own' h';cases e with
  |normal=>
   obtain⟨⟨o2,he,hb⟩,ha⟩:=h';exact⟨o2,he,q0o b _ _ (fun e f2 o2 hk=>⟨hk.1,ha.trans hk.2⟩) f' o2 (q0X b Q f' o2 hm.2 hb)⟩
  |_=>exact h'
 | .cond c a b,Q,f,own,hm,h=>by
  simp only[q5c,zx] at hm;simp only[q7U] at h ⊢
  split at h
  ·exact⟨fun e=>q0X a Q f own hm.1 (h.y e),fun e=>q0X b Q f own hm.2 (h.n e)⟩
  ·exact h.elim
 | .block id b,Q,f,own,hm,h=>by
  refine q0o b _ _ ?_ f own (q0X b _ f own hm h);intro e f' own' h';cases e <;>simp only[q5q] at h' ⊢
  case exit=>split <;>rename_i hc <;>rw[hc] at h' <;>exact h'
  all_goals exact h'
 | .loop k b,Q,f,own,hm,h=>by
  obtain⟨I,⟨n0,o0,he0,h0⟩,h1⟩:=h.h;refine⟨fun n f' own'=>I n f' own'∧qY m f f',⟨n0,o0,he0,h0,qY.refl⟩,fun n f' own' hI=> ?_⟩;refine q0o b _ _ ?_ f' own' (q0X b _ f' own' hm (h1 n f' own' hI.1));intro e f2 o2 h';cases e with
  |normal=>
   obtain⟨⟨k,o3,hk,he,hI3⟩,ha⟩:=h';exact⟨k,o3,hk,he,hI3,hI.2.trans ha⟩
  |_=>exact⟨h'.1,hI.2.trans h'.2⟩
 | .exit _,Q,f,own,_,h=>⟨h,qY.refl⟩
 | .ret,Q,f,own,_,h=>⟨h,qY.refl⟩
 | .bad,_,_,_,_,h=>h.elim
end frame
def qmg:List (Nat×Value)→Nat→Value→Value
 | [],_,d=>d
 |(s,v)::r,t,d=>bif Nat.beq t s then v else qmg r t d
def qij(m:Nat)(L:List (Nat×Value))(junk f:Fr):Fr:=fun t=>bif qe0 m t then qmg L t (junk t) else f t
noncomputable def q4z(L:List (Nat×Value))(f:Fr):Prop:=
 List.rec (motive:=fun _=>Prop) True (fun sv _ ih=>f sv.1=sv.2∧ih) L
theorem q5C:∀(L:List (Nat×Value)) (f:Fr) (t:Nat),q4z L f→qmg L t (f t)=f t
 | [],f,t,_=>rfl
 |(s,v)::r,f,t,h=>by
  unfold qmg;cases e:Nat.beq t s
  ·exact q5C r f t h.2
  ·rw[Y5] at e;subst e;exact h.1.symm
theorem qcf{m:Nat}{L:List (Nat×Value)}{f f':Fr}(ha:qY m f f')(hl:q4z L f'):qij m L f' f=f':=by
 funext t
 unfold qij;cases e:qe0 m t
 ·exact(ha t e).symm
 ·exact q5C L f' t hl
section rules
variable{P:Program}{W0:World}{own:Own}{f:Fr}
theorem qX{mask:Nat}{b:IC}{Q:q4k}{σ:Type}(L:σ→List (Nat×Value))(O:σ→Own)(I:σ→Prop)(μ:σ→Nat)(s0:σ)(h0:I s0)(hf:q4z (L s0) f)(ho:Ent W0 own (O s0))
  (hm:q5c mask b=true)
  (step:∀s junk,I s→XS P W0 b (q6H (fun f' own'=>∃s',I s'∧μ s'<μ s∧q4z (L s') f'∧Ent W0 own' (O s')) Q) (qij mask (L s) junk f) (O s)):
  qe5 P W0 b mask (XS P W0 b) Q f own:=by
 refine⟨fun n f' own'=>∃s junk,I s∧μ s=n∧f'=qij mask (L s) junk f∧own'=O s,⟨μ s0,O s0,ho,s0,f,h0,rfl,(qcf qY.refl hf).symm,rfl⟩,?_⟩;rintro n f' own' ⟨s,junk,hI,rfl,rfl,rfl⟩;refine q0o b _ _ ?_ _ _ (q0X b _ _ _ hm (step s junk hI));intro e f2 o2 h;cases e with
 |normal=>
  obtain⟨⟨s',hI',hlt,hmt,he⟩,ha⟩:=h;have ha':qY mask f f2:=fun t ht=>(ha t ht).trans (by simp[qij,ht])
  exact⟨μ s',O s',hlt,he,s',f2,hI',rfl,(qcf ha' hmt).symm,rfl⟩
 |_=>exact h.1
theorem q1O{mask:Nat}{b:IC}{Q:q4k}{σ:Type}(L:σ→List (Nat×Value))(I:σ→Prop)(μ:σ→Nat)(s0:σ)(h0:I s0)(hf:q4z (L s0) f)(hm:q5c mask b=true)
  (step:∀s junk,I s→XS P W0 b (q6H (fun f' own'=>∃s',I s'∧μ s'<μ s∧q4z (L s') f'∧Ent W0 own' own) Q) (qij mask (L s) junk f) own):
  qe5 P W0 b mask (XS P W0 b) Q f own:=qX L (fun _=>own) I μ s0 h0 hf Ent.refl hm step
noncomputable def qgq(body:q4k→Fr→Own→Prop)(Q:q4k)(n:Nat):Fr→Own→Prop:=
 Nat.rec (motive:=fun _=>Fr→Own→Prop) (fun _ _=>False) (fun _ ih f own=>body (q6H ih Q) f own) n
theorem q1P{mask:Nat}{b:IC}{Q:q4k}(n:Nat)(h:qgq (XS P W0 b) Q n f own):qe5 P W0 b mask (XS P W0 b) Q f own:=by
 refine⟨fun k f' own'=>qgq (XS P W0 b) Q k f' own',⟨n,own,Ent.refl,h⟩,fun k f' own' hI=> ?_⟩;cases k with
 |zero=>exact hI.elim
 |succ k=>
  refine q0o b _ _ ?_ f' own' hI;intro e f2 o2 h';cases e with
  |normal=>exact⟨k,o2,Z8 k,Ent.refl,h'⟩
  |_=>exact h'
theorem q3z{a b:IC}{Q:q4k}{σ:Type}(mask:Nat)(L:σ→List (Nat×Value))(O:σ→Own)(I:σ→Prop)(hm:q5c mask a=true)
  (h1:XS P W0 a (q6H (fun f' own'=>∃s',I s'∧q4z (L s') f'∧Ent W0 own' (O s')) Q) f own)
  (h2:∀s junk,I s→XS P W0 b Q (qij mask (L s) junk f) (O s)):qnc P W0 a b (XS P W0 a) (XS P W0 b) Q f own:=by
 refine⟨q0o a _ _ ?_ f own (q0X a _ f own hm h1)⟩;intro e f' own' h;cases e with
 |normal=>
  obtain⟨⟨s,hI,hmt,he⟩,ha⟩:=h;refine⟨O s,he,?_⟩;have:=h2 s f' hI
  rwa[qcf ha hmt] at this
 |_=>exact h.1
theorem qah{e:Int}(h1: -9223372036854775808≤e)(h2:e≤9223372036854775807):IntKind.i64.wrap e=e:=by
 unfold IntKind.wrap;have h3:((2:Int) ^ IntKind.i64.bits)=18446744073709551616:=rfl;have h4:((2:Int) ^ (IntKind.i64.bits-1))=9223372036854775808:=rfl;simp only[h3,h4,IntKind.signed,yM,decide_eq_true_eq]
 split <;>omega
theorem q4j{e:Int}(h1:0≤e)(h2:e≤18446744073709551615):IntKind.u64.wrap e=e:=by
 unfold IntKind.wrap;have h3:((2:Int) ^ IntKind.u64.bits)=18446744073709551616:=rfl;simp only[h3,IntKind.signed,yX,zO,if_false];omega
theorem ari{e:Int}{K:Int→Prop}(h1: -9223372036854775808≤e∧e≤9223372036854775807)(h:K e):q58 .i64 e K:=⟨by rw[qah h1.1 h1.2];exact h⟩
theorem aru{e:Int}{K:Int→Prop}(h1:0≤e∧e≤18446744073709551615)(h:K e):q58 .u64 e K:=⟨by rw[q4j h1.1 h1.2];exact h⟩
theorem arw{k:IntKind}{e:Int}{K:Int→Prop}(h:K (k.wrap e)):q58 k e K:=⟨h⟩
theorem q5D{a b:Int}{K:Int→Prop}(h:K (min a b)):MM false a b K:=⟨h⟩
theorem qgS{a b:Int}{K:Int→Prop}(h:K (max a b)):MM true a b K:=⟨h⟩
theorem qmS{m n:Int}{K:Int→Prop}(h1:0≤m∧0<n∧m≤18446744073709551615)(h:K (m/n)):Quo .u64 m n K:=by
 refine⟨Y6,?_⟩;have e:m.tdiv n=m/n:=Int.tdiv_eq_ediv_of_nonneg h1.1;have h2:0≤m/n:=Int.ediv_nonneg h1.1 Y6;have h3:m/n≤m:=Int.ediv_le_self _ h1.1;rw[e,q4j Y6 Y6];exact h
theorem q8A{m n:Int}{K:Int→Prop}(h1:0≤m∧0<n)(h:K (m % n)):Rem m n K:=by
 refine⟨Y6,?_⟩;rw[Int.tmod_eq_emod_of_nonneg h1.1];exact h
theorem qlj{m n:Int}{K:Int→Prop}(h1:0≤n∧n≤64)(h2: -9223372036854775808≤m*2 ^ n.toNat∧m*2 ^ n.toNat≤9223372036854775807)(h:K (m*2 ^ n.toNat)):Shl .i64 m n K:=by
 refine⟨h1.1,?_⟩;have e:min n.toNat IntKind.i64.bits=n.toNat:=by simp only[IntKind.bits];omega
 rw[e,qah h2.1 h2.2];exact h
theorem qff{m n:Int}{K:Int→Prop}(k:Nat)(c:Int)(hn:n=(k:Int))(hc:(2:Int) ^ k=c)(hk:k≤64)(h2: -9223372036854775808≤m*c∧m*c≤9223372036854775807)(h:K (m*c)):Shl .i64 m n K:=by
 subst hn;subst hc;exact qlj ⟨Y6,Y6⟩ (by simpa using h2) (by simpa using h)
theorem qnv{m:Int}{K:Int→Prop}(h2: -9223372036854775808≤m∧m≤9223372036854775807)(h:K m):Shl .i64 m 0 K:=qff 0 1 rfl rfl Y6 (by simpa using h2) (by simpa using h)
theorem qnw{m:Int}{K:Int→Prop}(h2: -9223372036854775808≤m*2∧m*2≤9223372036854775807)(h:K (m*2)):Shl .i64 m 1 K:=qff 1 2 rfl rfl Y6 h2 h
theorem qnx{m:Int}{K:Int→Prop}(h2: -9223372036854775808≤m*4∧m*4≤9223372036854775807)(h:K (m*4)):Shl .i64 m 2 K:=qff 2 4 rfl rfl Y6 h2 h
theorem qny{m:Int}{K:Int→Prop}(h2: -9223372036854775808≤m*8∧m*8≤9223372036854775807)(h:K (m*8)):Shl .i64 m 3 K:=qff 3 8 rfl rfl Y6 h2 h
theorem ixj{n:Nat}{K:Nat→Prop}(j:Nat)(hj:j<n)(h:K j):Idx (j:Int) n K:=⟨j,rfl,hj,h⟩
theorem ixn{i:Int}{n:Nat}{K:Nat→Prop}(h1:0≤i∧i<n)(h:K i.toNat):Idx i n K:=⟨i.toNat,Y6,Y6,h⟩
theorem ix0{n:Nat}{K:Nat→Prop}(hj:Nat.blt 0 n=true)(h:K 0):Idx 0 n K:=⟨0,rfl,by simpa using hj,h⟩
theorem ix1{n:Nat}{K:Nat→Prop}(hj:Nat.blt 1 n=true)(h:K 1):Idx 1 n K:=⟨1,rfl,by simpa using hj,h⟩
theorem ix2{n:Nat}{K:Nat→Prop}(hj:Nat.blt 2 n=true)(h:K 2):Idx 2 n K:=⟨2,rfl,by simpa using hj,h⟩
theorem ix3{n:Nat}{K:Nat→Prop}(hj:Nat.blt 3 n=true)(h:K 3):Idx 3 n K:=⟨3,rfl,by simpa using hj,h⟩
theorem ix4{n:Nat}{K:Nat→Prop}(hj:Nat.blt 4 n=true)(h:K 4):Idx 4 n K:=⟨4,rfl,by simpa using hj,h⟩
theorem q8m{b o sz n j:Nat}{K:Addr→Prop}(hj:j<n)(h:K ⟨b,o+j*sz,none⟩):IxS (some ⟨b,o,none⟩) sz (j:Int) n K:=⟨j,b,o,rfl,hj,rfl,h⟩
theorem qnr{b o sz n:Nat}{K:Addr→Prop}(hj:Nat.blt 0 n=true)(h:K ⟨b,o,none⟩):IxS (some ⟨b,o,none⟩) sz 0 n K:=⟨0,b,o,rfl,by simpa using hj,rfl,by simpa using h⟩
theorem qns{b o sz n:Nat}{K:Addr→Prop}(hj:Nat.blt 1 n=true)(h:K ⟨b,o+sz,none⟩):IxS (some ⟨b,o,none⟩) sz 1 n K:=⟨1,b,o,rfl,by simpa using hj,rfl,by simpa using h⟩
theorem q4s{ks:List Nat}{xs ys:List Value}{K:Bool→Prop}(he:eqC ks xs ys=some true)(h:K true):EqT ks xs ys K:=⟨true,he,h⟩
theorem qhP{ks:List Nat}{xs ys:List Value}{K:Bool→Prop}(he:eqC ks xs ys=some false)(h:K false):EqT ks xs ys K:=⟨false,he,h⟩
theorem sel{o:Option Value}{K:Value→Prop}(v:Value)(hv:o=some v)(h:K v):Sel o K:=⟨v,hv,h⟩
theorem qQ{b:Bool}{Ky Kn:Prop}(h:Ky):q2f b b Ky Kn:=⟨fun _=>h,fun e=>by cases b <;>cases e⟩
theorem q0g{Ky Kn:Prop}(h:Kn):q2f true false Ky Kn:=⟨fun e=>(by cases e),fun _=>h⟩
theorem q2V{Ky Kn:Prop}(h:Kn):q2f false true Ky Kn:=⟨fun e=>(by cases e),fun _=>h⟩
theorem q6L{p:Prop} [Decidable p]{Ky Kn:Prop}(hy:p→Ky)(hn:¬p→Kn):q2f (decide p) true Ky Kn:=⟨fun e=>hy (of_decide_eq_true e),fun e=>hn (of_decide_eq_false e)⟩
theorem q1p{p:Prop} [Decidable p]{Ky Kn:Prop}(hy:¬p→Ky)(hn:p→Kn):q2f (decide p) false Ky Kn:=⟨fun e=>hy (of_decide_eq_false e),fun e=>hn (of_decide_eq_true e)⟩
theorem q4i{p:Prop} [Decidable p]{Ky Kn:Prop}(hy:p→Ky)(hn:¬p→Kn):q2f (!decide p) false Ky Kn:=⟨fun e=>hy (by simpa using e),fun e=>hn (by simpa using e)⟩
theorem q2B{Ky Kn:Prop}(h:Ky):Br true Ky Kn:=⟨fun _=>h,fun e=>by cases e⟩
theorem q3u{Ky Kn:Prop}(h:Kn):Br false Ky Kn:=⟨fun e=>(by cases e),fun _=>h⟩
theorem q54{p:Prop} [Decidable p]{Ky Kn:Prop}(hy:p→Ky)(hn:¬p→Kn):Br (decide p) Ky Kn:=⟨fun e=>hy (of_decide_eq_true e),fun e=>hn (of_decide_eq_false e)⟩
theorem qhv{p:Prop} [Decidable p]{Ky Kn:Prop}(hy:¬p→Ky)(hn:p→Kn):Br (!decide p) Ky Kn:=⟨fun e=>hy (by simpa using e),fun e=>hn (by simpa using e)⟩
theorem q14{p:Prop} [Decidable p]{Ky Kn:Prop}(hp:p)(h:Ky):Br (decide p) Ky Kn:=q54 (fun _=>h) (fun hn=>absurd hp hn)
theorem q1H{p:Prop} [Decidable p]{Ky Kn:Prop}(hp:¬p)(h:Kn):Br (decide p) Ky Kn:=q54 (fun hy=>absurd hy hp) (fun _=>h)
theorem q6M{p:Prop} [Decidable p]{b:Bool}{Ky Kn:Prop}(hp:p)(h:q2f true b Ky Kn):q2f (decide p) b Ky Kn:=by rw[decide_eq_true hp];exact h
theorem q2W{p:Prop} [Decidable p]{b:Bool}{Ky Kn:Prop}(hp:¬p)(h:q2f false b Ky Kn):q2f (decide p) b Ky Kn:=by rw[decide_eq_false hp];exact h
theorem qgl{p:Prop} [Decidable p]{b:Bool}{Ky Kn:Prop}(hp:p)(h:q2f false b Ky Kn):q2f (!decide p) b Ky Kn:=by rw[decide_eq_true hp];exact h
theorem qgk{p:Prop} [Decidable p]{b:Bool}{Ky Kn:Prop}(hp:¬p)(h:q2f true b Ky Kn):q2f (!decide p) b Ky Kn:=by rw[decide_eq_false hp];exact h
theorem q96{p:Prop} [Decidable p]{Ky Kn:Prop}(hp:p)(h:Kn):Br (!decide p) Ky Kn:=by rw[decide_eq_true hp];exact q3u h
theorem qbr{p:Prop} [Decidable p]{Ky Kn:Prop}(hp:¬p)(h:Ky):Br (!decide p) Ky Kn:=by rw[decide_eq_false hp];exact q2B h
theorem qmv{op:BinOp}{k:IntKind}{m n:Int}{K:Int→Prop}(h:K (qed op k m n)):qjQ op k m n K:=⟨h⟩
theorem q5z{op:BinOp}{a b:Nat}{K:Bool→Prop}(r:Bool)(hr:q56 op (FloatKind.f64.format.order a b)=r)(h:K r):qmk op a b K:=⟨by rw[hr];exact h⟩
theorem qkK{op:BinOp}{a b:Nat}{K:Bool→Prop}(h:K (q56 op (FloatKind.f64.format.order a b))):qmk op a b K:=⟨h⟩
theorem qez{op:BinOp}{a b:Nat}{K:Nat→Prop}(r:Nat)(hr:floatBits op .f64 a b=some r)(h:K r):qml op a b K:=by
 refine⟨fun r' hr'=> ?_,fun hn=> ?_⟩
 ·rw[hr] at hr';cases hr';exact h
 ·rw[hr] at hn;cases hn
theorem qey{op:BinOp}{a b:Nat}{K:Nat→Prop}(hr:floatBits op .f64 a b=none)(h:∀r,qmh r→K r):qml op a b K:=by
 refine⟨fun r' hr'=> ?_,fun _=>h⟩;rw[hr] at hr';cases hr'
theorem qmB{k:IntKind}{b:Nat}{K:Int→Prop}(n:Int)(hn:floatToIntVal .f64 b k=some n)(h:K n):F2I k b K:=⟨n,hn,h⟩
theorem qf{o:Obj}{K:Nat→Own→Prop}(h:∀b,W0.heap.size≤b→K b ((b,(· =o))::own)):New W0 own o K:=⟨fun b hb _=>h b hb⟩
theorem q0E{b off:Nat}{cs:Array Value}{T:TypeId}{fz:Nat×Nat}{v:Value}(hm:(b,fun o=>o=Obj.cells cs T fz)∈own)(hv:cs.toList[off]? =some v):Kn W0 own (fun w=>w.cell? ⟨b,off,none⟩=some v):=by
 intro w hw;obtain⟨o,ho,rfl⟩:=hw.owns _ hm;simp only[World.cell?,ho];rw[Z1] at hv
 simpa using hv
theorem q0b{b off:Nat}{cs:Array Value}{T:TypeId}{fz:Nat×Nat}{K:Value→Prop}(v:Value)(hm:(b,fun o=>o=Obj.cells cs T fz)∈own)(hv:cs.toList[off]? =some v)(h:K v):
  Ld W0 own ⟨b,off,none⟩ K:=⟨v,q0E hm hv,h⟩
theorem q1n{b off n:Nat}{cs:Array Value}{T:TypeId}{fz:Nat×Nat}{K:Array Value→Prop}(vs:List Value)(hm:(b,fun o=>o=Obj.cells cs T fz)∈own)(hv:(cs.toList.drop off).take n=vs)(hl:vs.length=n)(h:K vs.toArray):
  LdN W0 own ⟨b,off,none⟩ n K:=by
 refine⟨vs.toArray,by simpa using hl,fun w hw j hj=> ?_,h⟩;rw[qO];have hj':j<vs.length:=Y6;refine(q0E (v:=vs[j]) hm ?_ w hw).trans (by simp[hj']);subst hv;rw[z7];simp only[zU,ZJ] at hj';exact⟨Y6,by simp[List.getElem_take,List.getElem_drop]⟩
theorem q0e{b n:Nat}{cs:Array Value}{T:TypeId}{fz:Nat×Nat}{K:Array Value→Prop}(hm:(b,fun o=>o=Obj.cells cs T fz)∈own)(hl:cs.toList.length=n)(h:K cs):
  LdN W0 own ⟨b,0,none⟩ n K:=by
 refine⟨cs,hl,fun w hw j hj=> ?_,h⟩;rw[qO,zD];have hj':j<cs.toList.length:=Y6;exact(q0E (v:=cs.toList[j]) hm (z6 hj') w hw).trans (z6 hj').symm
theorem ql1{a:Addr}{K:Value→Prop}{v:Value}(hv:Kn W0 own (fun w=>w.cell? a=some v))(h:K v):Ld W0 own a K:=⟨v,hv,h⟩
inductive Lis:List Value→List Value→Prop
 |nil:Lis [] []
 |cons {a:Value} {l l':List Value} (h:Lis l l'):Lis (a::l) (a::l')
theorem Lis.eq{l l':List Value}(h:Lis l l'):l'=l:=by
 induction h with
 |nil=>rfl
 |cons _ ih=>rw[ih]
inductive q2M:List Value→Nat→Value→List Value→Prop
 |here {a v:Value} {l l':List Value} (h:Lis l l'):q2M (a::l) 0 v (v::l')
 |there {a v:Value} {n:Nat} {l l':List Value} (h:q2M l n v l'):q2M (a::l) (n+1) v (a::l')
theorem q2M.eq{l l':List Value}{n:Nat}{v:Value}(h:q2M l n v l'):n<l.length∧l'=l.set n v:=by
 induction h with
 |here h=>exact⟨Y8,by rw[h.eq];rfl⟩
 |there _ ih=>exact⟨by simp only[zG];omega,by rw[ih.2];rfl⟩
inductive q1D:List Value→Nat→List Value→List Value→Prop
 |done {l l':List Value} (h:Lis l l'):q1D l 0 [] l'
 |put {a v:Value} {l vs l':List Value} (h:q1D l 0 vs l'):q1D (a::l) 0 (v::vs) (v::l')
 |skip {a:Value} {n:Nat} {l vs l':List Value} (h:q1D l n vs l'):q1D (a::l) (n+1) vs (a::l')
theorem q1D.eq{l l':List Value}{n:Nat}{vs:List Value}(h:q1D l n vs l'):n+vs.length≤l.length∧l'=l.take n++vs++l.drop (n+vs.length):=by
 induction h with
 |done h=>exact⟨Y8,by simp[h.eq]⟩
 |put _ ih=>exact⟨by simp only[zG];omega,by rw[ih.2];simp⟩
 |skip _ ih=>
  refine⟨by simp only[zG];omega,?_⟩;rw[ih.2];rename_i n _ vs _ _;have e:n+1+vs.length=(n+vs.length)+1:=Y6;simp[e]
theorem qlK{b off:Nat}{cs:Array Value}{cs':List Value}{T:TypeId}{v:Value}{K:Own→Prop}{own':Own}
  (hu:Up b (fun o=>o=Obj.cells cs T (0,0)) (fun o=>o=Obj.cells cs'.toArray T (0,0)) own own') (hset:q2M cs.toList off v cs') (h1:q2D v=true) (h:K own'):StT W0 own ⟨b,off,none⟩ v K:=by
 obtain⟨hoff,rfl⟩:=hset.eq;refine⟨h1,own',fun w hw=> ?_,h⟩;obtain⟨o,ho,rfl⟩:=hw.owns _ hu.mem;have hoff':off<cs.size:=by simpa using hoff
 refine⟨by simp[World.cell?,ho,hoff'],by simp[World.frozen?,ho],hw.up hu rfl rfl rfl (by simp[World.setCell]) (fun k _ hne=> ?_) ⟨_,?_,rfl⟩⟩
 ·rw[q05,if_neg (fun e=>hne e.symm)]
 ·rw[q05,if_pos rfl,ho];simp only[Zu,Zv,zO,if_false]
  congr 2
  rw[←Zx];simp
theorem q8G{b:Nat}{T:TypeId}:∀(vs:List Value) (j:Nat) (w:World) (off:Nat) (cs:List Value),w.heap[b]? =some (.cells cs.toArray T (0,0))→off+j+vs.length≤cs.length→
  (q4J w ⟨b,off,none⟩ j vs).heap[b]? =some (.cells (cs.take (off+j)++vs++cs.drop (off+j+vs.length)).toArray T (0,0))∧(∀k,k≠b→(q4J w ⟨b,off,none⟩ j vs).heap[k]? =w.heap[k]?)∧
   (q4J w ⟨b,off,none⟩ j vs).heap.size=w.heap.size∧(q4J w ⟨b,off,none⟩ j vs).os=w.os∧(q4J w ⟨b,off,none⟩ j vs).tape=w.tape∧(q4J w ⟨b,off,none⟩ j vs).output=w.output
 | [],j,w,off,cs,h,hl=>⟨by simpa [q4J] using h,fun _ _=>rfl,rfl,rfl,rfl,rfl⟩
 |v::vs,j,w,off,cs,h,hl=>by
  simp only[zG] at hl;have h1:(w.setCell ⟨b,off+j,none⟩ v).heap[b]? =some (.cells (cs.set (off+j) v).toArray T (0,0)):=by
   rw[q05,if_pos rfl,h];simp
  have ih:=q8G vs (j+1) (w.setCell ⟨b,off+j,none⟩ v) off (cs.set (off+j) v) h1 (by simp;omega);simp only[q4J,qO];refine⟨?_,fun k hk=>(ih.2.1 k hk).trans (by rw[q05,if_neg (fun e=>hk e.symm)]),ih.2.2.1.trans (by simp[World.setCell]),ih.2.2.2.1,ih.2.2.2.2.1,ih.2.2.2.2.2⟩;rw[ih.1]
  congr 3
  have e1:off+(j+1)=off+j+1:=Y6;rw[e1,List.take_set,yT Y6,List.take_succ_eq_append_getElem Y6];have e2:(List.take (off+j) cs++ [cs[off+j]]).set (off+j) v=List.take (off+j) cs++ [v]:=by
   rw[ZH _ _ (by simp;omega)];have:off+j-(List.take (off+j) cs).length=0:=by simp;omega
   rw[this];rfl
  rw[e2];simp[Nat.add_assoc,Nat.add_comm 1]
theorem q51{b off:Nat}{cs:Array Value}{cs':List Value}{T:TypeId}{vs:List Value}{K:Own→Prop}{own':Own}
  (hu:Up b (fun o=>o=Obj.cells cs T (0,0)) (fun o=>o=Obj.cells cs'.toArray T (0,0)) own own') (hput:q1D cs.toList off vs cs') (h1:vs.all q2D=true)
  (h:K own'):StN W0 own ⟨b,off,none⟩ vs K:=by
 obtain⟨hoff,rfl⟩:=hput.eq;refine⟨by simpa using h1,own',fun w hw=> ?_,h⟩;obtain⟨o,ho,rfl⟩:=hw.owns _ hu.mem;have hoff':off+vs.length≤cs.size:=by simpa using hoff
 have hs:=q8G (T:=T) vs 0 w off cs.toList (by simpa using ho) (by simpa using hoff);refine⟨fun j hj=> ?_,hw.up hu hs.2.2.2.1 hs.2.2.2.2.1 hs.2.2.2.2.2 (by rw[hs.2.2.1];exact zu _) (fun k _ hne=>hs.2.1 k hne) ⟨_,by simpa using hs.1,rfl⟩⟩;rw[qO];have hlt:off+j<cs.size:=Y6;exact⟨by simp[World.cell?,ho,hlt],by simp[World.frozen?,ho]⟩
theorem vi{k:IntKind}{a b:Int}(h:a=b):Value.int k a= .int k b:=by rw[h]
theorem eF{p:Prop}(h:p:=by repeat'(first|exact True.intro|refine And.intro ?_ ?_|exact rfl|exact vi Y6|(dsimp only;exact rfl)|(dsimp only;exact vi Y6))):p:=h
theorem vb{a b:Bool}(h:a=b):Value.bool a= .bool b:=by rw[h]
theorem q0J{a a':Value}(h1:a=a'):qh7 [a]=a':=h1
theorem qf7{a b a' b':Value}(h1:a=a')(h2:b=b'):qh7 [a,b]= .tuple #[a',b']:=by rw[h1,h2];rfl
theorem qnL{a b c a' b' c':Value}(h1:a=a')(h2:b=b')(h3:c=c'):qh7 [a,b,c]= .tuple #[a',b',c']:=by rw[h1,h2,h3];rfl
theorem dd{p q:Prop} [Decidable p] [Decidable q](h:p↔q):decide p=decide q:=decide_eq_decide.2 h
theorem dn{p q:Prop} [Decidable p] [Decidable q](h:¬p↔q):(!decide p)=decide q:=by rw[←decide_not];exact decide_eq_decide.2 h
theorem df{q:Prop} [Decidable q](h:¬q):false=decide q:=(decide_eq_false h).symm
theorem dt{q:Prop} [Decidable q](h:q):true=decide q:=(decide_eq_true h).symm
def qE(P:Program)(W0:World)(k:FuncId)(args:List Value)(own:Own)(v:Value):Prop:=
 ∀w,St W0 own w→Calls P k args.toArray w fun e w'=>e= .returned v∧St W0 own w'
theorem qg{k:FuncId}{args:List Value}{v:Value}(h:qt P W0 k args own fun v' own'=>v'=v∧Ent W0 own' own):qE P W0 k args own v:=fun w hw=>
 (h w hw).mono fun _ w' ⟨_,_,he,hs,hv,hE⟩=>⟨by rw[he,hv],hE w' hs⟩
theorem qp{k:FuncId}{args:List Value}{v:Value}{K:Value→Own→Prop}(h:qE P W0 k args own v)(hk:K v own):q0w P W0 own k args K:=
 ⟨fun w hw=>(h w hw).mono fun _ _ ⟨he,hs⟩=>⟨v,own,he,hs,hk⟩⟩
theorem q5v{k:FuncId}{args:List Value}{v:Value}{K:Value→Prop}(h:∀own',qE P W0 k args own' v)(hk:K v):q59 P W0 own k args K:=⟨v,fun ex w hw=>h (ex++own) w hw,hk⟩
theorem qhy{k:FuncId}{args:List Value}{v:Value}{K:Value→Prop}(h:∀ex,qE P W0 k args (ex++own) v)(hk:K v):q59 P W0 own k args K:=⟨v,fun ex w hw=>h ex w hw,hk⟩
end rules
open Go
def ab:Option Addr→Nat
 |some a=>a.block
 |none=>0
def ao:Option Addr→Nat
 |some a=>a.off
 |none=>0
section ent
variable{W0:World}{own:Own}
theorem Ent.left{D r:Own}:Ent W0 (D++r) D:=Ent.of_sub (List.sublist_append_left D r)
theorem Ent.right{D r:Own}:Ent W0 (D++r) r:=Ent.of_sub (ZD D r)
theorem Ent.app{A own':Own}(h:Ent W0 own own'):Ent W0 (A++own) own':=Ent.right.trans h
theorem eB{p:Prop}(h:p:=by repeat(first|exact Ent.refl|exact Ent.left|refine Ent.cons ?_|refine Ent.app ?_)):p:=h
theorem Ent.none:Ent W0 own []:=Ent.of_sub (List.nil_sublist own)
inductive At (D:Own):Own→(Own→Own)→Prop
 |head {r:Own}:At D (D++r) (fun X=>X++r)
 |tail {e:Nat×(Obj→Prop)} {r:Own} {C:Own→Own} (h:At D r C):At D (e::r) (fun X=>e::C X)
 |skip {A r:Own} {C:Own→Own} (h:At D r C):At D (A++r) (fun X=>A++C X)
theorem At.perm{D own:Own}{C:Own→Own}(h:At D own C):∃r,own.Perm (D++r)∧∀X,(C X).Perm (X++r):=by
 induction h with
 |head=>exact⟨_,List.Perm.refl _,fun _=>List.Perm.refl _⟩
 | @tail e r C h ih=>
  obtain⟨r',h1,h2⟩:=ih;exact⟨e::r',(h1.cons e).trans Zb.symm,fun X=>((h2 X).cons e).trans Zb.symm⟩
 | @skip A r C h ih=>
  obtain⟨r',h1,h2⟩:=ih;have sw:∀X:Own,(A++(X++r')).Perm (X++(A++r')):=fun X=>by
   rw[←zd,←zd];exact Z5.append_right r'
  exact⟨A++r',(h1.append_left A).trans (sw D),fun X=>((h2 X).append_left A).trans (sw X)⟩
theorem At.ent{D own:Own}{C:Own→Own}(h:At D own C){e:Nat×(Obj→Prop)}:Ent W0 (e::own) (C [e]):=by
 obtain⟨r,h1,h2⟩:=h.perm;refine(Ent.of_perm (h1.cons e)).trans ((Ent.of_sub (List.Sublist.cons_cons e (ZD D r))).trans (Ent.of_perm (h2 [e]).symm))
theorem At.self{D own:Own}{C:Own→Own}(h:At D own C):Ent W0 own D:=by
 obtain⟨r,h1,_⟩:=h.perm;exact(Ent.of_perm h1).trans Ent.left
theorem At.same{D own:Own}{C:Own→Own}(h:At D own C):C D=own:=by
 induction h with
 |head=>rfl
 |tail _ ih=>exact congrArg _ ih
 |skip _ ih=>exact congrArg _ ih
theorem Up.app{b:Nat}{p q:Obj→Prop}{r r':Own}(h:Up b p q r r'):∀A:Own,Up b p q (A++r) (A++r')
 | []=>h
 |_::A=>Up.tail (Up.app h A)
theorem At.up{b:Nat}{p:Obj→Prop}{own:Own}{C:Own→Own}(h:At [(b,p)] own C)(q:Obj→Prop):Up b p q own (C [(b,q)]):=by
 generalize hD: [(b,p)]=D at h
 induction h with
 |head=>subst hD;exact Up.head
 |tail _ ih=>exact Up.tail ih
 | @skip A _ _ _ ih=>exact Up.app ih A
end ent
section flat
variable{α:Type}{enc:α→List Value}{sz:Nat}
theorem q06:∀(l:List α),(∀x∈l,(enc x).length=sz)→(l.map enc).flatten.length=l.length*sz
 | [],_=>by simp
 |x::l,h=>by
  simp only[zF,Z2,z8,zG,q06 l (fun y hy=>h y (zp _ hy)),h x zm,Zz];omega
theorem q2r:∀(l:List α),(∀x∈l,(enc x).length=sz)→∀{j k:Nat} {x:α} {v:Value},l[j]? =some x→(enc x)[k]? =some v→(l.map enc).flatten[j*sz+k]? =some v
 | [],_,j,k,x,v,h,_=>by simp at h
 |y::l,h,0,k,x,v,hx,hv=>by
  simp only[Zw,Option.some.injEq] at hx;subst hx;have hk:=(z7.1 hv).1;simp only[zF,Z2,Nat.zero_mul,zD];rw[zy hk,hv]
 |y::l,h,j+1,k,x,v,hx,hv=>by
  have hy:=h y zm;simp only[zF,Z2];rw[zP (by rw[hy,Zz];omega),hy];have e:(j+1)*sz+k-sz=j*sz+k:=by rw[Zz];omega
  rw[e];exact q2r l (fun z hz=>h z (zp _ hz)) (by simpa using hx) hv
theorem q77:∀(l:List α),(∀x∈l,(enc x).length=sz)→∀j,(l.map enc).flatten.take (j*sz)=((l.take j).map enc).flatten
 | [],_,j=>by simp
 |y::l,h,0=>by simp
 |y::l,h,j+1=>by
  have hy:=h y zm;simp only[zF,Z2,yU];rw[List.take_append,hy,yb (by rw[hy,Zz];omega)];have e:(j+1)*sz-sz=j*sz:=by rw[Zz];omega
  rw[e,q77 l (fun z hz=>h z (zp _ hz)) j]
theorem q76:∀(l:List α),(∀x∈l,(enc x).length=sz)→∀j,(l.map enc).flatten.drop (j*sz)=((l.drop j).map enc).flatten
 | [],_,j=>by simp
 |y::l,h,0=>by simp
 |y::l,h,j+1=>by
  have hy:=h y zm;simp only[zF,Z2,y1];rw[yK,hy,ZA (by rw[hy,Zz];omega),zi];have e:(j+1)*sz-sz=j*sz:=by rw[Zz];omega
  rw[e,q76 l (fun z hz=>h z (zp _ hz)) j]
end flat
structure RdE{α:Type}(enc:α→List Value)(sz:Nat)(W0:World)(own:Own)(a:Option Addr)(l:List α):Prop where
 isS:l≠ []→a=some ⟨ab a,ao a,none⟩
 wid:∀x∈l,(enc x).length=sz
 cell:∀{j k:Nat} {x:α} {v:Value},l[j]? =some x→(enc x)[k]? =some v→Kn W0 own (fun w=>w.cell? ⟨ab a,ao a+j*sz+k,none⟩=some v)
structure qu{α:Type}(enc:α→List Value)(T:TypeId)(sz:Nat)(a:Option Addr)(cap:Nat)(l:List α)(D:Own):Prop where
 wid:∀x∈l,(enc x).length=sz
 how:(l= []∧cap=0∧D= [])∨∃b rest,a=some ⟨b,0,none⟩∧D= [(b,fun o=>o=Obj.cells ((l.map enc).flatten++rest).toArray T)]∧l.length*sz+rest.length=cap*sz∧l.length≤cap
section
variable{α:Type}{enc:α→List Value}{sz:Nat}{W0:World}{own:Own}{a:Option Addr}{l:List α}
theorem RdE.ent{own':Own}(h:RdE enc sz W0 own a l)(e:Ent W0 own' own):RdE enc sz W0 own' a l:=⟨h.isS,h.wid,fun hx hv=>(h.cell hx hv).ent e⟩
theorem RdE.nil:RdE enc sz W0 own a []:=⟨fun h=>absurd rfl h,fun _ h=>(by cases h),fun h=>(by simp at h)⟩
theorem ixE{i:Int}{K:Addr→Prop}{j:Nat}{x:α}(h:RdE enc sz W0 own a l)(hx:l[j]? =some x)(hi:i=j)(hk:K ⟨ab a,ao a+j*sz,none⟩):IxS a sz i l.length K:=
 ⟨j,ab a,ao a,hi,(z7.1 hx).1,h.isS (fun e=>by subst e;simp at hx),hk⟩
theorem ldE{j k o:Nat}{x:α}{v:Value}{K:Value→Prop}(h:RdE enc sz W0 own a l)(hx:l[j]? =some x)(ho:o=ao a+j*sz+k)(hv:(enc x)[k]? =some v)(hk:K v):Ld W0 own ⟨ab a,o,none⟩ K:=by
 subst ho;exact⟨v,h.cell hx hv,hk⟩
theorem qe3{j o n:Nat}{x:α}{K:Array Value→Prop}(h:RdE enc sz W0 own a l)(hx:l[j]? =some x)(ho:o=ao a+j*sz)(hn:n=sz)(hk:K (enc x).toArray):LdN W0 own ⟨ab a,o,none⟩ n K:=by
 subst ho;subst hn;have hw:=h.wid x (zg hx);refine⟨(enc x).toArray,by simpa using hw,fun w hs i hi=> ?_,hk⟩;rw[qO];have hi':i<(enc x).length:=Y6;exact(h.cell (v:=(enc x)[i]) hx (z6 hi') w hs).trans (by simp[hi'])
theorem qu.rd{T:TypeId}{cap:Nat}{D:Own}(h:qu enc T sz a cap l D):RdE enc sz W0 D a l:=by
 rcases h.how with ⟨rfl,_,_⟩|⟨b,rest,rfl,rfl,hl,_⟩
 ·exact RdE.nil
 ·refine⟨fun _=>rfl,h.wid,fun{j k x v} hx hv=> ?_⟩;have hf:=q2r l h.wid hx hv;have hlt:=(z7.1 hf).1;show Kn W0 _ (fun w=>w.cell? ⟨b,0+j*sz+k,none⟩=some v);refine q0E (List.Mem.head _) ?_;rw[zD,zy hlt,hf]
theorem qu.le{T:TypeId}{cap:Nat}{D:Own}(h:qu enc T sz a cap l D):l.length≤cap:=by
 rcases h.how with ⟨rfl,rfl,_⟩|⟨_,_,_,_,_,hl⟩
 ·simp
 ·exact hl
theorem qu.nil{T:TypeId}:qu enc T sz a 0 [] []:=⟨fun _ h=>(by cases h), .inl ⟨rfl,rfl,rfl⟩⟩
theorem q1A{b:Nat}{cs:Array Value}{T:TypeId}{fz:Nat×Nat}(hm:(b,fun o=>o=Obj.cells cs T fz)∈own)(hw:∀x∈l,(enc x).length=sz)(hc:cs.toList=(l.map enc).flatten):RdE enc sz W0 own (some ⟨b,0,none⟩) l:=by
 refine⟨fun _=>rfl,hw,fun{j k x v} hx hv=> ?_⟩;have hf:=q2r l hw hx hv;show Kn W0 own (fun w=>w.cell? ⟨b,0+j*sz+k,none⟩=some v);exact q0E hm (by rw[hc,zD];exact hf)
theorem RdE.sl{c r m:Nat}(h:RdE enc sz W0 own a l)(hr:r≤l.length)(hm:r≤m):RdE enc sz W0 own (slA a m c sz) ((l.drop c).take (r-c)):=by
 by_cases hcr:c<r
 ·have hne:l≠ []:=by intro e;subst e;simp at hr;omega
  have hS:=h.isS hne;have e1:slA a m c sz=some ⟨ab a,ao a+c*sz,none⟩:=by
   unfold slA;rw[if_neg Y6,hS];simp[qO,ab,ao]
  rw[e1];refine⟨fun _=>rfl,fun x hx=>h.wid x (List.mem_of_mem_drop (yj hx)),fun{j k x v} hx hv=> ?_⟩;have hx':l[c+j]? =some x:=by
   rw[yY] at hx
   split at hx
   ·rwa[yw] at hx
   ·cases hx
  have:=h.cell hx' hv;have e2:ao a+(c+j)*sz+k=ao a+c*sz+j*sz+k:=by rw[yz];omega
  rw[e2] at this;exact this
 ·have e:r-c=0:=Y6;rw[e,yZ];exact RdE.nil
theorem mkE{T:TypeId}{bytes:Nat}{zs:List Value}{n c:Int}{K:Value→Own→Prop}(x0:α)(hz:enc x0=zs)(hs:zs.length=sz)(h0:0≤n∧n≤c∧c*bytes≤281474976710656)
  (hk:∀a cap D,qu enc T sz a cap (List.replicate n.toNat x0) D→K (.slice a n.toNat cap) (D++own)):MkT W0 own T bytes zs n c K:=by
 refine⟨n.toNat,c.toNat,Y6,Y6,Y6,?_,fun b hb=> ?_⟩
 ·have h1:=h0.2.2;have h2:c=(c.toNat:Int):=Y6;rw[h2,←yR] at h1;omega
 ·refine hk (some ⟨b,0,none⟩) c.toNat [(b,fun o=>o=Obj.cells (List.replicate c.toNat zs).flatten.toArray T)] ⟨fun x hx=>by rw[List.eq_of_mem_replicate hx,hz,hs], .inr ⟨b,(List.replicate (c.toNat-n.toNat) zs).flatten,rfl,?_,?_,by simp;omega⟩⟩
  ·have e:c.toNat=n.toNat+(c.toNat-n.toNat):=Y6
   congr
   funext o
   rw[ZR,hz,←zY,List.replicate_append_replicate,←e]
  ·have e:c.toNat=n.toNat+(c.toNat-n.toNat):=Y6;simp only[zJ,List.length_flatten,ZR,List.sum_replicate_nat,hs];rw[←yz,←e]
theorem q4K{b:Nat}{T:TypeId}{w:World}{own':Own}{cs vs:List Value}{off:Nat}(hw:St W0 own w)(hu:Up b (fun o=>o=Obj.cells cs.toArray T) (fun o=>o=Obj.cells (cs.take off++vs++cs.drop (off+vs.length)).toArray T) own own')(hl:off+vs.length≤cs.length):
  (∀j,j<vs.length→(w.cell? ⟨b,off+j,none⟩).isSome=true∧w.frozen? ⟨b,off+j,none⟩=false)∧St W0 own' (q4J w ⟨b,off,none⟩ 0 vs):=by
 obtain⟨o,ho,rfl⟩:=hw.owns _ hu.mem;have hs:=q8G (T:=T) vs 0 w off cs ho (by simpa using hl);refine⟨fun j hj=> ?_,hw.up hu hs.2.2.2.1 hs.2.2.2.2.1 hs.2.2.2.2.2 (by rw[hs.2.2.1];exact zu _) (fun k _ hne=>hs.2.1 k hne) ⟨_,by simpa using hs.1,rfl⟩⟩;have hlt:off+j<cs.length:=Y6;exact⟨by simp[World.cell?,ho,hlt],by simp[World.frozen?,ho]⟩
theorem q62{T:TypeId}{bytes cap m:Nat}{zs:List Value}{D:Own}{C:Own→Own}{a2:Option Addr}{l2:List α}{K:Value→Own→Prop}(hB:qu enc T sz a cap l D)(hat:At D own C)(hx:RdE enc sz W0 own a2 l2)(hm:m=l2.length)
  (hz:zs.length=sz) (hs:0<sz) (h1:∀x∈l2,(enc x).all q2D=true) (hb:cap<l.length+l2.length→(l.length+l2.length)*bytes≤140737488355328)
  (hk:∀a' cap' D',qu enc T sz a' cap' (l++l2) D'→K (.slice a' (l.length+l2.length) cap') (C D')):qb9 W0 own T sz bytes zs a l.length cap a2 m K:=by
 subst hm;have hrd:RdE enc sz W0 own a l:=(hB.rd (W0:=W0)).ent hat.self;have holds:∀{a:Option Addr} {l:List α},RdE enc sz W0 own a l→Kn W0 own (Holds a (l.map enc).flatten):=fun{a l} h w hw ad had j v hj=>by
  have hlt:=(z7.1 hj).1;rw[q06 l h.wid] at hlt;have hj1:j/sz<l.length:=Nat.div_lt_of_lt_mul (by rwa[Nat.mul_comm]);have hj2:j % sz<sz:=ya _ hs;have hx':l[j/sz]? =some l[j/sz]:=z6 hj1;have hwd:=h.wid _ (zg hx');have hv':(enc l[j/sz])[j % sz]? =some (enc l[j/sz])[j % sz]:=z6 Y6;have he:j/sz*sz+j % sz=j:=Nat.div_add_mod' j sz;have hf:=q2r l h.wid hx' hv';rw[he,hj] at hf;have hS:=h.isS (fun e=>by subst e;simp at hj1);rw[hS] at had;have had:=Option.some.inj had;rw[←had,qO];have hc:=h.cell hx' hv' w hw;have e2:ao a+j/sz*sz+j % sz=ao a+j:=Y6;rw[e2] at hc;rw[hc,hf]
 have wid2:∀x∈l++l2,(enc x).length=sz:=fun x h=>(zz.1 h).elim (hB.wid x) (hx.wid x)
 refine⟨(l.map enc).flatten,(l2.map enc).flatten,q06 l hB.wid,q06 l2 hx.wid,fun e=> ?_,fun e=> ?_,fun v hv=> ?_,holds hrd,holds hx,fun hfit=> ?_,fun hgr=>⟨hb hgr,fun b c' hb' hc'=> ?_⟩⟩
 ·cases l with
  |nil=>rfl
  |cons x r=>have:=hrd.isS Y8;rw[e] at this;cases this
 ·cases l2 with
  |nil=>rfl
  |cons x r=>have:=hx.isS Y8;rw[e] at this;cases this
 ·obtain⟨cs,hcs,hv⟩:=List.mem_flatten.1 hv;obtain⟨x,hx',rfl⟩:=zK.1 hcs;exact Z7.1 (h1 x hx') v hv
 ·rcases hB.how with ⟨rfl,rfl,rfl⟩|⟨b,rest,rfl,rfl,hl,hle⟩
  ·have h2:l2= []:=by cases l2 with|nil=>rfl|cons x r=>simp at hfit
   subst h2;have hC:=hat.same;refine⟨own,fun w hw=>⟨fun ad _=>⟨fun j hj=>by simp at hj,by simpa [q4J] using hw⟩,fun _=>hw⟩,?_⟩;have:=hk a 0 [] qu.nil;rw[hC] at this;exact this
  ·have hfl:=q06 l hB.wid;have hfl2:=q06 l2 hx.wid;have hsz:(l.length+l2.length)*sz≤cap*sz:=ZK _ hfit;rw[yz] at hsz;refine⟨C [(b,fun o=>o=Obj.cells (((l++l2).map enc).flatten++rest.drop (l2.length*sz)).toArray T)],fun w hw=>⟨fun ad had=> ?_,fun e=>by cases e⟩,hk (some ⟨b,0,none⟩) cap _ ⟨wid2, .inr ⟨b,rest.drop (l2.length*sz),rfl,rfl,?_,by simpa using hfit⟩⟩⟩
   ·have had:=Option.some.inj had;subst had;have hnew:((l.map enc).flatten++rest).take (l.length*sz)++(l2.map enc).flatten++((l.map enc).flatten++rest).drop (l.length*sz+(l2.map enc).flatten.length)=((l++l2).map enc).flatten++rest.drop (l2.length*sz):=by
     rw[hfl2,ZL Y6,yb Y6,yK,ZA Y6,zi,hfl,Zn,zH,zY]
    have hu:=hat.up (q:=fun o=>o=Obj.cells (((l.map enc).flatten++rest).take (l.length*sz)++(l2.map enc).flatten++((l.map enc).flatten++rest).drop (l.length*sz+(l2.map enc).flatten.length)).toArray T);have hr:=q4K (vs:=(l2.map enc).flatten) (off:=l.length*sz) hw hu (by rw[z8,hfl,hfl2];omega);rw[hnew] at hr;rw[qO,zD];refine⟨fun j hj=> ?_,hr.2⟩;rw[qO];exact hr.1 j hj
   ·simp only[z8,ZJ,yz];omega
 ·refine⟨C [(b,fun o=>o=Obj.cells ((l.map enc).flatten++(l2.map enc).flatten++(List.replicate (c'-(l.length+l2.length)) zs).flatten).toArray T)],hat.ent,?_⟩;refine hk (some ⟨b,0,none⟩) c' _ ⟨wid2, .inr ⟨b,(List.replicate (c'-(l.length+l2.length)) zs).flatten,rfl,?_,?_,by simpa using hc'⟩⟩
  ·rw[zH,zY]
  ·simp only[z8,List.length_flatten,ZR,List.sum_replicate_nat,hz];rw[←yz]
   congr 1
   omega
theorem qmt{T:TypeId}{bytes cap m:Nat}{zs:List Value}{D:Own}{C:Own→Own}{a2:Option Addr}{l2:List α}{K:Value→Own→Prop}(hB:qu enc T sz a cap l D)(hat:At D own C)(hx:RdE enc sz W0 own a2 l2)(hm:m=l2.length)
  (hz:zs.length=sz) (hs:0<sz) (h1:∀x∈l2,(enc x).all q2D=true) (hb:(l.length+l2.length)*bytes≤140737488355328)
  (hk:∀a' cap' D',qu enc T sz a' cap' (l++l2) D'→K (.slice a' (l.length+l2.length) cap') (C D')):qb9 W0 own T sz bytes zs a l.length cap a2 m K:=
 q62 hB hat hx hm hz hs h1 (fun _=>hb) hk
theorem qms{T T2:TypeId}{bytes cap bt:Nat}{zs:List Value}{D:Own}{C:Own→Own}{ys:Array Value}{fz:Nat×Nat}{K:Value→Own→Prop}(x:α)(hB:qu enc T sz a cap l D)(hat:At D own C)(hm:(bt,fun o=>o=Obj.cells ys T2 fz)∈own)(hy:ys.toList=enc x)
  (hz:zs.length=sz) (hs:0<sz) (hw:(enc x).length=sz) (h1:(enc x).all q2D=true) (hb:(l.length+1)*bytes≤140737488355328)
  (hk:∀a' cap' D',qu enc T sz a' cap' (l++ [x]) D'→K (.slice a' (l.length+1) cap') (C D')):qb9 W0 own T sz bytes zs a l.length cap (some ⟨bt,0,none⟩) 1 K:=
 qmt (l2:= [x]) hB hat (q1A hm (fun y hy=>by rw[zf.1 hy];exact hw) (by simpa using hy)) rfl hz hs (fun y hy=>by rw[zf.1 hy];exact h1) hb hk
theorem qnO{T:TypeId}{cap j o:Nat}{D:Own}{C:Own→Own}{x:α}{vs:List Value}{K:Own→Prop}(x':α)(hB:qu enc T sz a cap l D)(hat:At D own C)(hx:l[j]? =some x)(ho:o=ao a+j*sz)(hv:enc x'=vs)(hw:vs.length=sz)(h1:vs.all q2D=true)
  (hk:∀D',qu enc T sz a cap (l.set j x') D'→K (C D')):StN W0 own ⟨ab a,o,none⟩ vs K:=by
 subst ho;have hj:=(z7.1 hx).1
 rcases hB.how with ⟨rfl,_,_⟩|⟨b,rest,rfl,rfl,hl,hle⟩
 ·simp at hx
 ·have hfl:=q06 l hB.wid;have hsz:(j+1)*sz≤l.length*sz:=ZK _ hj;rw[Zz] at hsz;have wid':∀y∈l.set j x',(enc y).length=sz:=fun y hy=>(Zh hy).elim (hB.wid y) (fun e=>by rw[e,hv,hw])
  have hnew:((l.map enc).flatten++rest).take (j*sz)++vs++((l.map enc).flatten++rest).drop (j*sz+vs.length)=((l.set j x').map enc).flatten++rest:=by
   rw[hw,ZL Y6,List.drop_append_of_le_length Y6,q77 l hB.wid,←Zz,q76 l hB.wid];rw[Za,if_pos hj,zH,zY,zF,Z2,hv];simp
  refine⟨fun v hv'=>Z7.1 h1 v hv',C [(b,fun o=>o=Obj.cells (((l.set j x').map enc).flatten++rest).toArray T)],fun w hs=> ?_,hk _ ⟨wid', .inr ⟨b,rest,rfl,rfl,by simpa using hl,by simpa using hle⟩⟩⟩;have hu:=hat.up (q:=fun o=>o=Obj.cells (((l.map enc).flatten++rest).take (j*sz)++vs++((l.map enc).flatten++rest).drop (j*sz+vs.length)).toArray T);have hr:=q4K (vs:=vs) (off:=j*sz) hs hu (by rw[z8,hfl];omega);rw[hnew] at hr;show(∀i,i<vs.length→(w.cell? ((Addr.mk b (0+j*sz) none).add i)).isSome=true∧w.frozen? ((Addr.mk b (0+j*sz) none).add i)=false)∧St W0 _ (q4J w ⟨b,0+j*sz,none⟩ 0 vs);rw[zD];refine⟨fun i hi=> ?_,hr.2⟩;rw[qO];exact hr.1 i hi
theorem qfd{w:World}{b o:Nat}{v:Value}:q4J w ⟨b,o,none⟩ 0 [v]=w.setCell ⟨b,o,none⟩ v:=by
 simp only[q4J,qO,Zy]
theorem stE{T:TypeId}{cap j k o:Nat}{D:Own}{C:Own→Own}{x:α}{v:Value}{K:Own→Prop}(x':α)(hB:qu enc T sz a cap l D)(hat:At D own C)(hx:l[j]? =some x)(ho:o=ao a+j*sz+k)(hk0:k<sz)(hv:enc x'=(enc x).set k v)(h1:q2D v=true)
  (hk:∀D',qu enc T sz a cap (l.set j x') D'→K (C D')):StT W0 own ⟨ab a,o,none⟩ v K:=by
 subst ho;have hj:=(z7.1 hx).1;have hwx:=hB.wid x (zg hx)
 rcases hB.how with ⟨rfl,_,_⟩|⟨b,rest,rfl,rfl,hl,hle⟩
 ·simp at hx
 ·have hfl:=q06 l hB.wid;have hsz:(j+1)*sz≤l.length*sz:=ZK _ hj;rw[Zz] at hsz;have wid':∀y∈l.set j x',(enc y).length=sz:=fun y hy=>(Zh hy).elim (hB.wid y) (fun e=>by rw[e,hv,zj,hwx])
  have hspl:(l.map enc).flatten=((l.take j).map enc).flatten++(enc x++((l.drop (j+1)).map enc).flatten):=by
   have e:l=l.take j++x::l.drop (j+1):=by
    rw[←(z7.1 hx).2,List.getElem_cons_drop,ye]
   conv=>lhs;rw[e]
   simp
  have htl:((l.take j).map enc).flatten.length=j*sz:=by
   rw[q06 _ (fun y hy=>hB.wid y (yj hy)),zU]
   congr 1;omega
  have hnew:((l.map enc).flatten++rest).take (j*sz+k)++ [v]++((l.map enc).flatten++rest).drop (j*sz+k+ [v].length)=((l.set j x').map enc).flatten++rest:=by
   have h2:((l.set j x').map enc).flatten++rest=((l.map enc).flatten++rest).set (j*sz+k) v:=by
    have e1:((l.set j x').map enc).flatten=((l.take j).map enc).flatten++((enc x).set k v++((l.drop (j+1)).map enc).flatten):=by
     rw[Za,if_pos hj,zH,zY,zF,Z2,hv]
    have e2:∀A X B:List Value,A++(X++B)++rest=A++(X++(B++rest)):=fun A X B=>by simp
    rw[e1,hspl,e2,e2,ZH _ _ Y6,htl,Zn,yP _ _ Y6]
   rw[h2,q7n _ _ _ (by rw[z8,hfl];omega)];rfl
  refine⟨h1,C [(b,fun o=>o=Obj.cells (((l.set j x').map enc).flatten++rest).toArray T)],fun w hs=> ?_,hk _ ⟨wid', .inr ⟨b,rest,rfl,rfl,by simpa using hl,by simpa using hle⟩⟩⟩;have hu:=hat.up (q:=fun o=>o=Obj.cells (((l.map enc).flatten++rest).take (j*sz+k)++ [v]++((l.map enc).flatten++rest).drop (j*sz+k+ [v].length)).toArray T);have hr:=q4K (vs:= [v]) (off:=j*sz+k) hs hu (by rw[z8,hfl];simp;omega);rw[hnew,qfd] at hr;show(w.cell? ⟨b,0+j*sz+k,none⟩).isSome=true∧w.frozen? ⟨b,0+j*sz+k,none⟩=false∧St W0 _ (w.setCell ⟨b,0+j*sz+k,none⟩ v);rw[zD];have h0:=hr.1 0 Y8;exact⟨h0.1,h0.2,hr.2⟩
end
end Go.Proofs.YtbhbldllneadeaaGreatDoor
