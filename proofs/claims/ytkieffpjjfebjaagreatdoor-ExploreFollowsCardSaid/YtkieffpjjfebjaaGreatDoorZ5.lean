/- What the laws share, part 5. No condition. -/
import Derived.Test.YtkieffpjjfebjaaGreatDoorZ4
namespace Go.Proofs.YtkieffpjjfebjaaGreatDoor
open Go
def q0c(m:Nat)(f f':Fr):Prop:=∀t,qez m t=false→f' t=f t
theorem q0c.refl{m:Nat}{f:Fr}:q0c m f f:=fun _ _=>rfl
theorem q0c.trans{m:Nat}{f g h:Fr}(a:q0c m f g)(b:q0c m g h):q0c m f h:=fun t ht=>(b t ht).trans (a t ht)
theorem q0c.upd{m:Nat}{f:Fr}{d:Nat}{v:Value}(hd:qez m d=true):q0c m f (upd f d v):=by
 intro t ht
 unfold Go.Proofs.YtkieffpjjfebjaaGreatDoor.upd
 cases e:Nat.beq t d
 ·rfl
 ·rw[Nat.beq_eq] at e;subst e;rw[hd] at ht;cases ht
theorem q0c.updO{m:Nat}{f:Fr}{d:Option Nat}{v:Value}(hd:∀t,d=some t→qez m t=true):q0c m f (updO f d v):=by
 cases d with
 |none=>exact q0c.refl
 |some d=>exact q0c.upd (hd d rfl)
def q4n(m:Nat):List q3o→Bool
 | []=>true
 |o::r=>(match o.dst with|some d=>qez m d|none=>true)&&q4n m r
def q5Y(m:Nat):DT→Bool
 | .f o r| .m o r=>(match o.dst with|some d=>qez m d|none=>true)&&q5Y m r
 | .both a b=>q5Y m a&&q5Y m b
 |_=>true
def q7n(m:Nat):IC→Bool
 | .region ops=>q4n m ops
 | .draw t=>q5Y m t
 | .seq a b| .cut a b| .cond _ a b=>q7n m a&&q7n m b
 | .block _ b| .loop _ b=>q7n m b
 |_=>true
section frame
variable{P:Program}{W0:World}{m:Nat}
theorem q9n{o:q3o}{r:List q3o}(h:q4n m (o::r)=true):(∀t,o.dst=some t→qez m t=true)∧q4n m r=true:=by
 simp only[q4n,Bool.and_eq_true] at h
 refine⟨fun t ht=> ?_,h.2⟩
 rw[ht] at h
 exact h.1
theorem qaI{K:Fr→Own→Prop}:∀(l:List q3o) (f:Fr) (own:Own),q4n m l=true→XR P W0 l K f own→XR P W0 l (fun f' own'=>K f' own'∧q0c m f f') f own
 | [],f,own,_,h=>⟨h,q0c.refl⟩
 |⟨d,op,gd⟩::l,f,own,hm,h=>by
  obtain⟨hd,hl⟩:=q9n hm
  simp only at hd
  have ih:∀f1 own1,q0c m f f1→XR P W0 l K f1 own1→XR P W0 l (fun f' own'=>K f' own'∧q0c m f f') f1 own1:=fun f1 own1 ha h1=>
   q8m (fun f' own' hk=>⟨hk.1,ha.trans hk.2⟩) l f1 own1 (qaI l f1 own1 hl h1)
  cases gd with
  |none=>exact q4F (fun v own' h=>ih _ _ (q0c.updO hd) h) h
  |some gb=>
   obtain⟨g,b⟩:=gb
   simp only[qa7] at h ⊢
   split at h
   ·rename_i c hc
    refine⟨fun e=> ?_,fun e=> ?_⟩
    ·have hs:upd f g (.bool b)=f:=q3b (by rw[hc,e])
     have h':=h.y e
     rw[hs] at h' ⊢
     exact q4F (fun v own' h=>ih _ _ (q0c.updO hd) h) h'
    ·have hs:upd f g (.bool (!b))=f:=q3b (by rw[hc,e])
     have h':=h.n e
     rw[hs] at h' ⊢
     exact ih _ _ (q0c.updO hd) h'
   ·exact ih _ _ (q0c.updO hd) h
theorem qaG{gd:Option (Nat×Bool)}{f:Fr}{Y Y' N N':Fr→Prop}(hy:∀f1,q0c m f f1→Y f1→Y' f1)(hn:∀f1,q0c m f f1→N f1→N' f1)(h:XG gd f Y N):XG gd f Y' N':=by
 unfold XG at h ⊢
 split
 ·exact hy _ q0c.refl h
 ·rename_i g b
  simp only at h
  split
  ·rename_i c hc
   rw[hc] at h
   refine⟨fun e=> ?_,fun e=> ?_⟩
   ·have hs:upd f g (.bool b)=f:=q3b (by rw[hc,e])
    have h':=h.y e
    rw[hs] at h' ⊢
    exact hy _ q0c.refl h'
   ·have hs:upd f g (.bool (!b))=f:=q3b (by rw[hc,e])
    have h':=h.n e
    rw[hs] at h' ⊢
    exact hn _ q0c.refl h'
  ·rename_i hc;split at h
   ·rename_i hc';exact absurd hc' (hc _)
   ·exact hn _ q0c.refl h
theorem q4V{K:Fr→Own→Prop}:∀(t:DT) (f:Fr) (own:Own),q5Y m t=true→XD P W0 t K f own→XD P W0 t (fun f' own'=>K f' own'∧q0c m f f') f own
 | .done,f,own,_,h=>⟨h,q0c.refl⟩
 | .f o r,f,own,hm,h=>by
  simp only[q5Y,Bool.and_eq_true] at hm
  have hd:∀t,o.dst=some t→qez m t=true:=fun t ht=>by have:=hm.1;rw[ht] at this;exact this
  have ih:∀f1 own1,q0c m f f1→XD P W0 r K f1 own1→XD P W0 r (fun f' own'=>K f' own'∧q0c m f f') f1 own1:=fun f1 own1 ha h1=>
   q3p (fun f' own' hk=>⟨hk.1,ha.trans hk.2⟩) r f1 own1 (q4V r f1 own1 hm.2 h1)
  rw[qk8] at h ⊢
  exact qaG (fun f1 ha h=>qcF (fun v h=>ih _ _ (ha.trans (q0c.updO hd)) h) h) (fun f1 ha h=>ih _ _ (ha.trans (q0c.updO hd)) h) h
 | .m o r,f,own,hm,h=>by
  simp only[q5Y,Bool.and_eq_true] at hm
  have hd:∀t,o.dst=some t→qez m t=true:=fun t ht=>by have:=hm.1;rw[ht] at this;exact this
  have ih:∀f1 own1,q0c m f f1→XD P W0 r K f1 own1→XD P W0 r (fun f' own'=>K f' own'∧q0c m f f') f1 own1:=fun f1 own1 ha h1=>
   q3p (fun f' own' hk=>⟨hk.1,ha.trans hk.2⟩) r f1 own1 (q4V r f1 own1 hm.2 h1)
  rw[qk9] at h ⊢
  exact qaG (fun f1 ha h=>q4F (fun v own' h=>ih _ _ (ha.trans (q0c.updO hd)) h) h) (fun f1 ha h=>ih _ _ (ha.trans (q0c.updO hd)) h) h
 | .both a b,f,own,hm,h=>by
  simp only[q5Y,Bool.and_eq_true] at hm
  exact⟨q4V a f own hm.1 (q4T.l (A:=XD P W0 a K f own) (B:=XD P W0 b K f own) h),q4V b f own hm.2 (q4T.r (A:=XD P W0 a K f own) (B:=XD P W0 b K f own) h)⟩
 | .tt,_,_,_,h=>h
 | .bad,_,_,_,h=>h.elim
theorem q1Q:∀(c:IC) (Q:q6k) (f:Fr) (own:Own),q7n m c=true→XS P W0 c Q f own→XS P W0 c (fun e f' own'=>Q e f' own'∧q0c m f f') f own
 | .skip,Q,f,own,_,h=>⟨h,q0c.refl⟩
 | .region ops,Q,f,own,hm,h=>qaI ops f own hm h
 | .draw ops,Q,f,own,hm,h=>q4V ops f own hm h
 | .seq a b,Q,f,own,hm,h=>by
  simp only[q7n,Bool.and_eq_true] at hm
  refine q0Q a _ _ ?_ f own (q1Q a _ f own hm.1 h)
  intro e f' own' h'
  cases e with
  |normal=>exact q0Q b _ _ (fun e f2 o2 hk=>⟨hk.1,h'.2.trans hk.2⟩) f' own' (q1Q b Q f' own' hm.2 h'.1)
  |_=>exact h'
 | .cut a b,Q,f,own,hm,h=>by
  simp only[q7n,Bool.and_eq_true] at hm
  refine⟨q0Q a _ _ ?_ f own (q1Q a _ f own hm.1 h.h)⟩
  intro e f' own' h'
  cases e with
  |normal=>
   obtain⟨⟨o2,he,hb⟩,ha⟩:=h'
   exact⟨o2,he,q0Q b _ _ (fun e f2 o2 hk=>⟨hk.1,ha.trans hk.2⟩) f' o2 (q1Q b Q f' o2 hm.2 hb)⟩
  |_=>exact h'
 | .cond c a b,Q,f,own,hm,h=>by
  simp only[q7n,Bool.and_eq_true] at hm
  simp only[qa8] at h ⊢
  split at h
  ·exact⟨fun e=>q1Q a Q f own hm.1 (h.y e),fun e=>q1Q b Q f own hm.2 (h.n e)⟩
  ·exact h.elim
 | .block id b,Q,f,own,hm,h=>by
  refine q0Q b _ _ ?_ f own (q1Q b _ f own hm h)
  intro e f' own' h'
  cases e <;>simp only[q7R] at h' ⊢
  case exit=>split <;>rename_i hc <;>rw[hc] at h' <;>exact h'
  all_goals exact h'
 | .loop k b,Q,f,own,hm,h=>by
  obtain⟨I,⟨n0,o0,he0,h0⟩,h1⟩:=h.h
  refine⟨fun n f' own'=>I n f' own'∧q0c m f f',⟨n0,o0,he0,h0,q0c.refl⟩,fun n f' own' hI=> ?_⟩
  refine q0Q b _ _ ?_ f' own' (q1Q b _ f' own' hm (h1 n f' own' hI.1))
  intro e f2 o2 h'
  cases e with
  |normal=>
   obtain⟨⟨k,o3,hk,he,hI3⟩,ha⟩:=h'
   exact⟨k,o3,hk,he,hI3,hI.2.trans ha⟩
  |_=>exact⟨h'.1,hI.2.trans h'.2⟩
 | .exit _,Q,f,own,_,h=>⟨h,q0c.refl⟩
 | .ret,Q,f,own,_,h=>⟨h,q0c.refl⟩
 | .bad,_,_,_,_,h=>h.elim
end frame
def qkk:List (Nat×Value)→Nat→Value→Value
 | [],_,d=>d
 |(s,v)::r,t,d=>bif Nat.beq t s then v else qkk r t d
def qhK(m:Nat)(L:List (Nat×Value))(junk f:Fr):Fr:=fun t=>bif qez m t then qkk L t (junk t) else f t
noncomputable def q71(L:List (Nat×Value))(f:Fr):Prop:=
 List.rec (motive:=fun _=>Prop) True (fun sv _ ih=>f sv.1=sv.2∧ih) L
theorem q87:∀(L:List (Nat×Value)) (f:Fr) (t:Nat),q71 L f→qkk L t (f t)=f t
 | [],f,t,_=>rfl
 |(s,v)::r,f,t,h=>by
  unfold qkk
  cases e:Nat.beq t s
  ·exact q87 r f t h.2
  ·rw[Nat.beq_eq] at e;subst e;exact h.1.symm
theorem qdB{m:Nat}{L:List (Nat×Value)}{f f':Fr}(ha:q0c m f f')(hl:q71 L f'):qhK m L f' f=f':=by
 funext t
 unfold qhK
 cases e:qez m t
 ·exact(ha t e).symm
 ·exact q87 L f' t hl
section rules
variable{P:Program}{W0:World}{own:Own}{f:Fr}
theorem q0Z{mask:Nat}{b:IC}{Q:q6k}{σ:Type}(L:σ→List (Nat×Value))(O:σ→Own)(I:σ→Prop)(μ:σ→Nat)(s0:σ)(h0:I s0)(hf:q71 (L s0) f)(ho:Ent W0 own (O s0))
  (hm:q7n mask b=true)
  (step:∀s junk,I s→XS P W0 b (q7K (fun f' own'=>∃s',I s'∧μ s'<μ s∧q71 (L s') f'∧Ent W0 own' (O s')) Q) (qhK mask (L s) junk f) (O s)):
  qeF P W0 b mask (XS P W0 b) Q f own:=by
 refine⟨fun n f' own'=>∃s junk,I s∧μ s=n∧f'=qhK mask (L s) junk f∧own'=O s,⟨μ s0,O s0,ho,s0,f,h0,rfl,(qdB q0c.refl hf).symm,rfl⟩,?_⟩
 rintro n f' own' ⟨s,junk,hI,rfl,rfl,rfl⟩
 refine q0Q b _ _ ?_ _ _ (q1Q b _ _ _ hm (step s junk hI))
 intro e f2 o2 h
 cases e with
 |normal=>
  obtain⟨⟨s',hI',hlt,hmt,he⟩,ha⟩:=h
  have ha':q0c mask f f2:=fun t ht=>(ha t ht).trans (by simp[qhK,ht])
  exact⟨μ s',O s',hlt,he,s',f2,hI',rfl,(qdB ha' hmt).symm,rfl⟩
 |_=>exact h.1
theorem q1N{mask:Nat}{b:IC}{Q:q6k}{σ:Type}(L:σ→List (Nat×Value))(I:σ→Prop)(μ:σ→Nat)(s0:σ)(h0:I s0)(hf:q71 (L s0) f)(hm:q7n mask b=true)
  (step:∀s junk,I s→XS P W0 b (q7K (fun f' own'=>∃s',I s'∧μ s'<μ s∧q71 (L s') f'∧Ent W0 own' own) Q) (qhK mask (L s) junk f) own):
  qeF P W0 b mask (XS P W0 b) Q f own:=q0Z L (fun _=>own) I μ s0 h0 hf Ent.refl hm step
noncomputable def qg2(body:q6k→Fr→Own→Prop)(Q:q6k)(n:Nat):Fr→Own→Prop:=
 Nat.rec (motive:=fun _=>Fr→Own→Prop) (fun _ _=>False) (fun _ ih f own=>body (q7K ih Q) f own) n
theorem q55{mask:Nat}{b:IC}{Q:q6k}(n:Nat)(h:qg2 (XS P W0 b) Q n f own):qeF P W0 b mask (XS P W0 b) Q f own:=by
 refine⟨fun k f' own'=>qg2 (XS P W0 b) Q k f' own',⟨n,own,Ent.refl,h⟩,fun k f' own' hI=> ?_⟩
 cases k with
 |zero=>exact hI.elim
 |succ k=>
  refine q0Q b _ _ ?_ f' own' hI
  intro e f2 o2 h'
  cases e with
  |normal=>exact⟨k,o2,Nat.lt_succ_self k,Ent.refl,h'⟩
  |_=>exact h'
theorem q4H{a b:IC}{Q:q6k}{σ:Type}(mask:Nat)(L:σ→List (Nat×Value))(O:σ→Own)(I:σ→Prop)(hm:q7n mask a=true)
  (h1:XS P W0 a (q7K (fun f' own'=>∃s',I s'∧q71 (L s') f'∧Ent W0 own' (O s')) Q) f own)
  (h2:∀s junk,I s→XS P W0 b Q (qhK mask (L s) junk f) (O s)):qkn P W0 a b (XS P W0 a) (XS P W0 b) Q f own:=by
 refine⟨q0Q a _ _ ?_ f own (q1Q a _ f own hm h1)⟩
 intro e f' own' h
 cases e with
 |normal=>
  obtain⟨⟨s,hI,hmt,he⟩,ha⟩:=h
  refine⟨O s,he,?_⟩
  have:=h2 s f' hI
  rwa[qdB ha hmt] at this
 |_=>exact h.1
theorem qd1{a b:IC}{Q:q6k}(h:XS P W0 a (q7K (XS P W0 b Q) Q) f own):qkn P W0 a b (XS P W0 a) (XS P W0 b) Q f own:=by
 refine⟨q0Q a _ _ ?_ f own h⟩
 intro e f' own' h
 cases e with
 |normal=>exact⟨own',Ent.refl,h⟩
 |_=>exact h
theorem q9h{e:Int}(h1: -9223372036854775808≤e)(h2:e≤9223372036854775807):IntKind.i64.wrap e=e:=by
 unfold IntKind.wrap
 have h3:((2:Int) ^ IntKind.i64.bits)=18446744073709551616:=rfl
 have h4:((2:Int) ^ (IntKind.i64.bits-1))=9223372036854775808:=rfl
 simp only[h3,h4,IntKind.signed,Bool.true_and,decide_eq_true_eq]
 split <;>omega
theorem q9i{e:Int}(h1:0≤e)(h2:e≤18446744073709551615):IntKind.u64.wrap e=e:=by
 unfold IntKind.wrap
 have h3:((2:Int) ^ IntKind.u64.bits)=18446744073709551616:=rfl
 simp only[h3,IntKind.signed,Bool.false_and,Bool.false_eq_true,if_false]
 omega
theorem ari{e:Int}{K:Int→Prop}(h1: -9223372036854775808≤e∧e≤9223372036854775807)(h:K e):q6t .i64 e K:=⟨by rw[q9h h1.1 h1.2];exact h⟩
theorem aru{e:Int}{K:Int→Prop}(h1:0≤e∧e≤18446744073709551615)(h:K e):q6t .u64 e K:=⟨by rw[q9i h1.1 h1.2];exact h⟩
theorem arw{k:IntKind}{e:Int}{K:Int→Prop}(h:K (k.wrap e)):q6t k e K:=⟨h⟩
theorem qgt{a b:Int}{K:Int→Prop}(h:K (min a b)):MM false a b K:=⟨h⟩
theorem qhR{m n:Int}{K:Int→Prop}(h1:0≤m∧0<n∧m≤18446744073709551615)(h:K (m/n)):Quo .u64 m n K:=by
 refine⟨by omega,?_⟩
 have e:m.tdiv n=m/n:=Int.tdiv_eq_ediv_of_nonneg h1.1
 have h2:0≤m/n:=Int.ediv_nonneg h1.1 (by omega)
 have h3:m/n≤m:=Int.ediv_le_self _ h1.1
 rw[e,q9i (by omega) (by omega)]
 exact h
theorem q9M{m n:Int}{K:Int→Prop}(h1:0≤m∧0<n)(h:K (m % n)):Rem m n K:=by
 refine⟨by omega,?_⟩
 rw[Int.tmod_eq_emod_of_nonneg h1.1]
 exact h
theorem qjL{m n:Int}{K:Int→Prop}(h1:0≤n∧n≤64)(h2: -9223372036854775808≤m*2 ^ n.toNat∧m*2 ^ n.toNat≤9223372036854775807)(h:K (m*2 ^ n.toNat)):Shl .i64 m n K:=by
 refine⟨h1.1,?_⟩
 have e:min n.toNat IntKind.i64.bits=n.toNat:=by simp only[IntKind.bits];omega
 rw[e,q9h h2.1 h2.2]
 exact h
theorem qfE{m n:Int}{K:Int→Prop}(k:Nat)(c:Int)(hn:n=(k:Int))(hc:(2:Int) ^ k=c)(hk:k≤64)(h2: -9223372036854775808≤m*c∧m*c≤9223372036854775807)(h:K (m*c)):Shl .i64 m n K:=by
 subst hn;subst hc
 exact qjL ⟨by omega,by omega⟩ (by simpa using h2) (by simpa using h)
theorem qkQ{m:Int}{K:Int→Prop}(h2: -9223372036854775808≤m∧m≤9223372036854775807)(h:K m):Shl .i64 m 0 K:=qfE 0 1 rfl rfl (by omega) (by simpa using h2) (by simpa using h)
theorem qkR{m:Int}{K:Int→Prop}(h2: -9223372036854775808≤m*2∧m*2≤9223372036854775807)(h:K (m*2)):Shl .i64 m 1 K:=qfE 1 2 rfl rfl (by omega) h2 h
theorem qkS{m:Int}{K:Int→Prop}(h2: -9223372036854775808≤m*4∧m*4≤9223372036854775807)(h:K (m*4)):Shl .i64 m 2 K:=qfE 2 4 rfl rfl (by omega) h2 h
theorem qkT{m:Int}{K:Int→Prop}(h2: -9223372036854775808≤m*8∧m*8≤9223372036854775807)(h:K (m*8)):Shl .i64 m 3 K:=qfE 3 8 rfl rfl (by omega) h2 h
theorem qkW{m n:Int}{k:IntKind}{K:Int→Prop}(h1:0≤n∧n≤64)(hk:k.bits=64)(h:K (m/2 ^ n.toNat)):Shr k m n K:=by
 refine⟨h1.1,?_⟩
 have e:min n.toNat k.bits=n.toNat:=by rw[hk];omega
 rw[e,Int.fdiv_eq_ediv_of_nonneg _ (Int.pow_nonneg (by omega))]
 exact h
theorem ixj{n:Nat}{K:Nat→Prop}(j:Nat)(hj:j<n)(h:K j):Idx (j:Int) n K:=⟨j,rfl,hj,h⟩
theorem ixn{i:Int}{n:Nat}{K:Nat→Prop}(h1:0≤i∧i<n)(h:K i.toNat):Idx i n K:=⟨i.toNat,by omega,by omega,h⟩
theorem ix0{n:Nat}{K:Nat→Prop}(hj:Nat.blt 0 n=true)(h:K 0):Idx 0 n K:=⟨0,rfl,by simpa using hj,h⟩
theorem ix1{n:Nat}{K:Nat→Prop}(hj:Nat.blt 1 n=true)(h:K 1):Idx 1 n K:=⟨1,rfl,by simpa using hj,h⟩
theorem ix2{n:Nat}{K:Nat→Prop}(hj:Nat.blt 2 n=true)(h:K 2):Idx 2 n K:=⟨2,rfl,by simpa using hj,h⟩
theorem ix3{n:Nat}{K:Nat→Prop}(hj:Nat.blt 3 n=true)(h:K 3):Idx 3 n K:=⟨3,rfl,by simpa using hj,h⟩
theorem ix4{n:Nat}{K:Nat→Prop}(hj:Nat.blt 4 n=true)(h:K 4):Idx 4 n K:=⟨4,rfl,by simpa using hj,h⟩
theorem qhE{b o sz n j:Nat}{K:Addr→Prop}(hj:j<n)(h:K ⟨b,o+j*sz,none⟩):IxS (some ⟨b,o,none⟩) sz (j:Int) n K:=⟨j,b,o,rfl,hj,rfl,h⟩
theorem qhF{b o sz n:Nat}{i:Int}{K:Addr→Prop}(hj:0≤i∧i<n)(h:K ⟨b,o+i.toNat*sz,none⟩):IxS (some ⟨b,o,none⟩) sz i n K:=⟨i.toNat,b,o,by omega,by omega,rfl,h⟩
theorem qlm{b o sz n:Nat}{K:Addr→Prop}(hj:Nat.blt 0 n=true)(h:K ⟨b,o,none⟩):IxS (some ⟨b,o,none⟩) sz 0 n K:=⟨0,b,o,rfl,by simpa using hj,rfl,by simpa using h⟩
theorem qln{b o sz n:Nat}{K:Addr→Prop}(hj:Nat.blt 1 n=true)(h:K ⟨b,o+sz,none⟩):IxS (some ⟨b,o,none⟩) sz 1 n K:=⟨1,b,o,rfl,by simpa using hj,rfl,by simpa using h⟩
theorem q7Z{ks:List Nat}{xs ys:List Value}{K:Bool→Prop}(he:eqC ks xs ys=some true)(h:K true):EqT ks xs ys K:=⟨true,he,h⟩
theorem qhm{ks:List Nat}{xs ys:List Value}{K:Bool→Prop}(he:eqC ks xs ys=some false)(h:K false):EqT ks xs ys K:=⟨false,he,h⟩
theorem sel{o:Option Value}{K:Value→Prop}(v:Value)(hv:o=some v)(h:K v):Sel o K:=⟨v,hv,h⟩
theorem qC{b:Bool}{Ky Kn:Prop}(h:Ky):q3Y b b Ky Kn:=⟨fun _=>h,fun e=>by cases b <;>cases e⟩
theorem q0D{Ky Kn:Prop}(h:Kn):q3Y true false Ky Kn:=⟨fun e=>(by cases e),fun _=>h⟩
theorem q2q{Ky Kn:Prop}(h:Kn):q3Y false true Ky Kn:=⟨fun e=>(by cases e),fun _=>h⟩
theorem q4Q{p:Prop} [Decidable p]{Ky Kn:Prop}(hy:p→Ky)(hn:¬p→Kn):q3Y (decide p) true Ky Kn:=⟨fun e=>hy (of_decide_eq_true e),fun e=>hn (of_decide_eq_false e)⟩
theorem q2p{p:Prop} [Decidable p]{Ky Kn:Prop}(hy:¬p→Ky)(hn:p→Kn):q3Y (decide p) false Ky Kn:=⟨fun e=>hy (of_decide_eq_false e),fun e=>hn (of_decide_eq_true e)⟩
theorem q5n{p:Prop} [Decidable p]{Ky Kn:Prop}(hy:p→Ky)(hn:¬p→Kn):q3Y (!decide p) false Ky Kn:=⟨fun e=>hy (by simpa using e),fun e=>hn (by simpa using e)⟩
theorem q3M{Ky Kn:Prop}(h:Ky):Br true Ky Kn:=⟨fun _=>h,fun e=>by cases e⟩
theorem q4B{Ky Kn:Prop}(h:Kn):Br false Ky Kn:=⟨fun e=>(by cases e),fun _=>h⟩
theorem q5Z{p:Prop} [Decidable p]{Ky Kn:Prop}(hy:p→Ky)(hn:¬p→Kn):Br (decide p) Ky Kn:=⟨fun e=>hy (of_decide_eq_true e),fun e=>hn (of_decide_eq_false e)⟩
theorem qcT{p:Prop} [Decidable p]{Ky Kn:Prop}(hy:¬p→Ky)(hn:p→Kn):Br (!decide p) Ky Kn:=⟨fun e=>hy (by simpa using e),fun e=>hn (by simpa using e)⟩
theorem q17{p:Prop} [Decidable p]{Ky Kn:Prop}(hp:p)(h:Ky):Br (decide p) Ky Kn:=q5Z (fun _=>h) (fun hn=>absurd hp hn)
theorem q2j{p:Prop} [Decidable p]{Ky Kn:Prop}(hp:¬p)(h:Kn):Br (decide p) Ky Kn:=q5Z (fun hy=>absurd hy hp) (fun _=>h)
theorem q7i{p:Prop} [Decidable p]{b:Bool}{Ky Kn:Prop}(hp:p)(h:q3Y true b Ky Kn):q3Y (decide p) b Ky Kn:=by rw[decide_eq_true hp];exact h
theorem q4R{p:Prop} [Decidable p]{b:Bool}{Ky Kn:Prop}(hp:¬p)(h:q3Y false b Ky Kn):q3Y (decide p) b Ky Kn:=by rw[decide_eq_false hp];exact h
theorem q9e{p:Prop} [Decidable p]{b:Bool}{Ky Kn:Prop}(hp:p)(h:q3Y false b Ky Kn):q3Y (!decide p) b Ky Kn:=by rw[decide_eq_true hp];exact h
theorem q9d{p:Prop} [Decidable p]{b:Bool}{Ky Kn:Prop}(hp:¬p)(h:q3Y true b Ky Kn):q3Y (!decide p) b Ky Kn:=by rw[decide_eq_false hp];exact h
theorem q9r{p:Prop} [Decidable p]{Ky Kn:Prop}(hp:p)(h:Kn):Br (!decide p) Ky Kn:=by rw[decide_eq_true hp];exact q4B h
theorem qaP{p:Prop} [Decidable p]{Ky Kn:Prop}(hp:¬p)(h:Ky):Br (!decide p) Ky Kn:=by rw[decide_eq_false hp];exact q3M h
theorem qlv{b:Bool}{Ky Kn:Prop}(hy:b=true→Ky)(hn:b=false→Kn):Br b Ky Kn:=⟨hy,hn⟩
theorem qiT{op:BinOp}{k:IntKind}{m n:Int}{K:Int→Prop}(r:Int)(hr:qaO op k m n=r)(h:K r):qiy op k m n K:=⟨by rw[hr];exact h⟩
theorem qkA{op:BinOp}{k:IntKind}{m n:Int}{K:Int→Prop}(h:K (qaO op k m n)):qiy op k m n K:=⟨h⟩
theorem qkY{m n:Int}{k:IntKind}{K:Int→Prop}(j:Nat)(c:Int)(hn:n=(j:Int))(hc:(2:Int) ^ j=c)(hj:j≤64)(hk:k.bits=64)(h:K (m/c)):Shr k m n K:=by
 subst hn;subst hc
 exact qkW ⟨by omega,by omega⟩ hk (by simpa using h)
theorem q81{op:BinOp}{a b:Nat}{K:Bool→Prop}(r:Bool)(hr:q7k op (FloatKind.f64.format.order a b)=r)(h:K r):qko op a b K:=⟨by rw[hr];exact h⟩
theorem qjn{op:BinOp}{a b:Nat}{K:Bool→Prop}(h:K (q7k op (FloatKind.f64.format.order a b))):qko op a b K:=⟨h⟩
theorem qf9{op:BinOp}{a b:Nat}{K:Nat→Prop}(r:Nat)(hr:floatBits op .f64 a b=some r)(h:K r):qkp op a b K:=by
 refine⟨fun r' hr'=> ?_,fun hn=> ?_⟩
 ·rw[hr] at hr'
  cases hr'
  exact h
 ·rw[hr] at hn
  cases hn
theorem qf8{op:BinOp}{a b:Nat}{K:Nat→Prop}(hr:floatBits op .f64 a b=none)(h:∀r,qkl r→K r):qkp op a b K:=by
 refine⟨fun r' hr'=> ?_,fun _=>h⟩
 rw[hr] at hr'
 cases hr'
theorem qkG{k:IntKind}{b:Nat}{K:Int→Prop}(n:Int)(hn:floatToIntVal .f64 b k=some n)(h:K n):F2I k b K:=⟨n,hn,h⟩
theorem qc{o:Obj}{K:Nat→Own→Prop}(h:∀b,W0.heap.size≤b→K b ((b,(· =o))::own)):New W0 own o K:=⟨fun b hb _=>h b hb⟩
theorem q5A{b off:Nat}{cs:Array Value}{T:TypeId}{fz:Nat×Nat}{v:Value}(hm:(b,fun o=>o=Obj.cells cs T fz)∈own)(hv:cs.toList[off]? =some v):Kn W0 own (fun w=>w.cell? ⟨b,off,none⟩=some v):=by
 intro w hw
 obtain⟨o,ho,rfl⟩:=hw.owns _ hm
 simp only[World.cell?,ho]
 rw[Array.getElem?_toList] at hv
 simpa using hv
theorem qH{b off:Nat}{cs:Array Value}{T:TypeId}{fz:Nat×Nat}{K:Value→Prop}(v:Value)(hm:(b,fun o=>o=Obj.cells cs T fz)∈own)(hv:cs.toList[off]? =some v)(h:K v):
  Ld W0 own ⟨b,off,none⟩ K:=⟨v,q5A hm hv,h⟩
theorem q3y{b off n:Nat}{cs:Array Value}{T:TypeId}{fz:Nat×Nat}{K:Array Value→Prop}(vs:List Value)(hm:(b,fun o=>o=Obj.cells cs T fz)∈own)(hv:(cs.toList.drop off).take n=vs)(hl:vs.length=n)(h:K vs.toArray):
  LdN W0 own ⟨b,off,none⟩ n K:=by
 refine⟨vs.toArray,by simpa using hl,fun w hw j hj=> ?_,h⟩
 rw[qI]
 have hj':j<vs.length:=by omega
 refine(q5A (v:=vs[j]) hm ?_ w hw).trans (by simp[hj'])
 subst hv
 rw[List.getElem?_eq_some_iff]
 simp only[List.length_take,List.length_drop] at hj'
 exact⟨by omega,by simp[List.getElem_take,List.getElem_drop]⟩
theorem qX{b n:Nat}{cs:Array Value}{T:TypeId}{fz:Nat×Nat}{K:Array Value→Prop}(hm:(b,fun o=>o=Obj.cells cs T fz)∈own)(hl:cs.toList.length=n)(h:K cs):
  LdN W0 own ⟨b,0,none⟩ n K:=by
 refine⟨cs,hl,fun w hw j hj=> ?_,h⟩
 rw[qI,Nat.zero_add]
 have hj':j<cs.toList.length:=by omega
 exact(q5A (v:=cs.toList[j]) hm (List.getElem?_eq_getElem hj') w hw).trans (List.getElem?_eq_getElem hj').symm
theorem qkJ{a:Addr}{K:Value→Prop}{v:Value}(hv:Kn W0 own (fun w=>w.cell? a=some v))(h:K v):Ld W0 own a K:=⟨v,hv,h⟩
inductive Lis:List Value→List Value→Prop
 |nil:Lis [] []
 |cons {a:Value} {l l':List Value} (h:Lis l l'):Lis (a::l) (a::l')
theorem Lis.eq{l l':List Value}(h:Lis l l'):l'=l:=by
 induction h with
 |nil=>rfl
 |cons _ ih=>rw[ih]
inductive q2a:List Value→Nat→Value→List Value→Prop
 |here {a v:Value} {l l':List Value} (h:Lis l l'):q2a (a::l) 0 v (v::l')
 |there {a v:Value} {n:Nat} {l l':List Value} (h:q2a l n v l'):q2a (a::l) (n+1) v (a::l')
theorem q2a.eq{l l':List Value}{n:Nat}{v:Value}(h:q2a l n v l'):n<l.length∧l'=l.set n v:=by
 induction h with
 |here h=>exact⟨by simp,by rw[h.eq];rfl⟩
 |there _ ih=>exact⟨by simp only[List.length_cons];omega,by rw[ih.2];rfl⟩
inductive q0P:List Value→Nat→List Value→List Value→Prop
 |done {l l':List Value} (h:Lis l l'):q0P l 0 [] l'
 |put {a v:Value} {l vs l':List Value} (h:q0P l 0 vs l'):q0P (a::l) 0 (v::vs) (v::l')
 |skip {a:Value} {n:Nat} {l vs l':List Value} (h:q0P l n vs l'):q0P (a::l) (n+1) vs (a::l')
theorem q0P.eq{l l':List Value}{n:Nat}{vs:List Value}(h:q0P l n vs l'):n+vs.length≤l.length∧l'=l.take n++vs++l.drop (n+vs.length):=by
 induction h with
 |done h=>exact⟨by simp,by simp[h.eq]⟩
 |put _ ih=>exact⟨by simp only[List.length_cons];omega,by rw[ih.2];simp⟩
 |skip _ ih=>
  refine⟨by simp only[List.length_cons];omega,?_⟩
  rw[ih.2]
  rename_i n _ vs _ _
  have e:n+1+vs.length=(n+vs.length)+1:=by omega
  simp[e]
theorem qbO{b off:Nat}{cs:Array Value}{cs':List Value}{T:TypeId}{v:Value}{K:Own→Prop}{own':Own}
  (hu:Up b (fun o=>o=Obj.cells cs T (0,0)) (fun o=>o=Obj.cells cs'.toArray T (0,0)) own own') (hset:q2a cs.toList off v cs') (h1:q4A v=true) (h:K own'):StT W0 own ⟨b,off,none⟩ v K:=by
 obtain⟨hoff,rfl⟩:=hset.eq
 refine⟨h1,own',fun w hw=> ?_,h⟩
 obtain⟨o,ho,rfl⟩:=hw.owns _ hu.mem
 have hoff':off<cs.size:=by simpa using hoff
 refine⟨by simp[World.cell?,ho,hoff'],by simp[World.frozen?,ho],hw.up hu rfl rfl rfl (by simp[World.setCell]) (fun k _ hne=> ?_) ⟨_,?_,rfl⟩⟩
 ·rw[q0F,if_neg (fun e=>hne e.symm)]
 ·rw[q0F,if_pos rfl,ho]
  simp only[Option.map_some,Option.isSome_none,Bool.false_eq_true,if_false]
  congr 2
  rw[←Array.toList_inj]
  simp
theorem qaz{b:Nat}{T:TypeId}:∀(vs:List Value) (j:Nat) (w:World) (off:Nat) (cs:List Value),w.heap[b]? =some (.cells cs.toArray T (0,0))→off+j+vs.length≤cs.length→
  (q78 w ⟨b,off,none⟩ j vs).heap[b]? =some (.cells (cs.take (off+j)++vs++cs.drop (off+j+vs.length)).toArray T (0,0))∧(∀k,k≠b→(q78 w ⟨b,off,none⟩ j vs).heap[k]? =w.heap[k]?)∧
   (q78 w ⟨b,off,none⟩ j vs).heap.size=w.heap.size∧(q78 w ⟨b,off,none⟩ j vs).os=w.os∧(q78 w ⟨b,off,none⟩ j vs).tape=w.tape∧(q78 w ⟨b,off,none⟩ j vs).output=w.output
 | [],j,w,off,cs,h,hl=>⟨by simpa [q78] using h,fun _ _=>rfl,rfl,rfl,rfl,rfl⟩
 |v::vs,j,w,off,cs,h,hl=>by
  simp only[List.length_cons] at hl
  have h1:(w.setCell ⟨b,off+j,none⟩ v).heap[b]? =some (.cells (cs.set (off+j) v).toArray T (0,0)):=by
   rw[q0F,if_pos rfl,h]
   simp
  have ih:=qaz vs (j+1) (w.setCell ⟨b,off+j,none⟩ v) off (cs.set (off+j) v) h1 (by simp;omega)
  simp only[q78,qI]
  refine⟨?_,fun k hk=>(ih.2.1 k hk).trans (by rw[q0F,if_neg (fun e=>hk e.symm)]),ih.2.2.1.trans (by simp[World.setCell]),ih.2.2.2.1,ih.2.2.2.2.1,ih.2.2.2.2.2⟩
  rw[ih.1]
  congr 3
  have e1:off+(j+1)=off+j+1:=by omega
  rw[e1,List.take_set,List.drop_set_of_lt (by omega),List.take_succ_eq_append_getElem (by omega)]
  have e2:(List.take (off+j) cs++ [cs[off+j]]).set (off+j) v=List.take (off+j) cs++ [v]:=by
   rw[List.set_append_right _ _ (by simp;omega)]
   have:off+j-(List.take (off+j) cs).length=0:=by simp;omega
   rw[this]
   rfl
  rw[e2]
  simp[Nat.add_assoc,Nat.add_comm 1]
theorem q5R{b off:Nat}{cs:Array Value}{cs':List Value}{T:TypeId}{vs:List Value}{K:Own→Prop}{own':Own}
  (hu:Up b (fun o=>o=Obj.cells cs T (0,0)) (fun o=>o=Obj.cells cs'.toArray T (0,0)) own own') (hput:q0P cs.toList off vs cs') (h1:vs.all q4A=true)
  (h:K own'):StN W0 own ⟨b,off,none⟩ vs K:=by
 obtain⟨hoff,rfl⟩:=hput.eq
 refine⟨by simpa using h1,own',fun w hw=> ?_,h⟩
 obtain⟨o,ho,rfl⟩:=hw.owns _ hu.mem
 have hoff':off+vs.length≤cs.size:=by simpa using hoff
 have hs:=qaz (T:=T) vs 0 w off cs.toList (by simpa using ho) (by simpa using hoff)
 refine⟨fun j hj=> ?_,hw.up hu hs.2.2.2.1 hs.2.2.2.2.1 hs.2.2.2.2.2 (by rw[hs.2.2.1];exact Nat.le_refl _) (fun k _ hne=>hs.2.1 k hne) ⟨_,by simpa using hs.1,rfl⟩⟩
 rw[qI]
 have hlt:off+j<cs.size:=by omega
 exact⟨by simp[World.cell?,ho,hlt],by simp[World.frozen?,ho]⟩
theorem vi{k:IntKind}{a b:Int}(h:a=b):Value.int k a= .int k b:=by rw[h]
theorem eF{p:Prop}(h:p:=by repeat'(first|exact True.intro|refine And.intro ?_ ?_|exact rfl|exact vi (by omega)|(dsimp only;exact rfl)|(dsimp only;exact vi (by omega)))):p:=h
theorem vb{a b:Bool}(h:a=b):Value.bool a= .bool b:=by rw[h]
theorem q0N{a a':Value}(h1:a=a'):qiD [a]=a':=h1
theorem qcC{a b a' b':Value}(h1:a=a')(h2:b=b'):qiD [a,b]= .tuple #[a',b']:=by rw[h1,h2];rfl
theorem qlD{a b c a' b' c':Value}(h1:a=a')(h2:b=b')(h3:c=c'):qiD [a,b,c]= .tuple #[a',b',c']:=by rw[h1,h2,h3];rfl
theorem dd{p q:Prop} [Decidable p] [Decidable q](h:p↔q):decide p=decide q:=decide_eq_decide.2 h
theorem dn{p q:Prop} [Decidable p] [Decidable q](h:¬p↔q):(!decide p)=decide q:=by rw[←decide_not];exact decide_eq_decide.2 h
theorem df{q:Prop} [Decidable q](h:¬q):false=decide q:=(decide_eq_false h).symm
theorem dt{q:Prop} [Decidable q](h:q):true=decide q:=(decide_eq_true h).symm
def qD(P:Program)(W0:World)(k:FuncId)(args:List Value)(own:Own)(v:Value):Prop:=
 ∀w,St W0 own w→Calls P k args.toArray w fun e w'=>e= .returned v∧St W0 own w'
theorem qe{k:FuncId}{args:List Value}{v:Value}(h:q0E P W0 k args own fun v' own'=>v'=v∧Ent W0 own' own):qD P W0 k args own v:=fun w hw=>
 (h w hw).mono fun _ w' ⟨_,_,he,hs,hv,hE⟩=>⟨by rw[he,hv],hE w' hs⟩
theorem qg{k:FuncId}{args:List Value}{v:Value}{K:Value→Own→Prop}(h:qD P W0 k args own v)(hk:K v own):qf P W0 own k args K:=
 ⟨fun w hw=>(h w hw).mono fun _ _ ⟨he,hs⟩=>⟨v,own,he,hs,hk⟩⟩
theorem q6y{k:FuncId}{args:List Value}{v:Value}{K:Value→Prop}(h:∀own',qD P W0 k args own' v)(hk:K v):q0b P W0 own k args K:=⟨v,fun ex w hw=>h (ex++own) w hw,hk⟩
theorem qgX{k:FuncId}{args:List Value}{v:Value}{K:Value→Prop}(h:∀ex,qD P W0 k args (ex++own) v)(hk:K v):q0b P W0 own k args K:=⟨v,fun ex w hw=>h ex w hw,hk⟩
end rules
open Go
def ab:Option Addr→Nat
 |some a=>a.block
 |none=>0
def ao:Option Addr→Nat
 |some a=>a.off
 |none=>0
section ent
variable{W0:World}{own:Own}
theorem Ent.left{D r:Own}:Ent W0 (D++r) D:=Ent.of_sub (List.sublist_append_left D r)
theorem Ent.right{D r:Own}:Ent W0 (D++r) r:=Ent.of_sub (List.sublist_append_right D r)
theorem Ent.app{A own':Own}(h:Ent W0 own own'):Ent W0 (A++own) own':=Ent.right.trans h
theorem eB{p:Prop}(h:p:=by repeat(first|exact Ent.refl|exact Ent.left|refine Ent.cons ?_|refine Ent.app ?_)):p:=h
theorem Ent.none:Ent W0 own []:=Ent.of_sub (List.nil_sublist own)
inductive At (D:Own):Own→(Own→Own)→Prop
 |head {r:Own}:At D (D++r) (fun X=>X++r)
 |tail {e:Nat×(Obj→Prop)} {r:Own} {C:Own→Own} (h:At D r C):At D (e::r) (fun X=>e::C X)
 |skip {A r:Own} {C:Own→Own} (h:At D r C):At D (A++r) (fun X=>A++C X)
theorem At.perm{D own:Own}{C:Own→Own}(h:At D own C):∃r,own.Perm (D++r)∧∀X,(C X).Perm (X++r):=by
 induction h with
 |head=>exact⟨_,List.Perm.refl _,fun _=>List.Perm.refl _⟩
 | @tail e r C h ih=>
  obtain⟨r',h1,h2⟩:=ih
  exact⟨e::r',(h1.cons e).trans List.perm_middle.symm,fun X=>((h2 X).cons e).trans List.perm_middle.symm⟩
 | @skip A r C h ih=>
  obtain⟨r',h1,h2⟩:=ih
  have sw:∀X:Own,(A++(X++r')).Perm (X++(A++r')):=fun X=>by
   rw[←List.append_assoc,←List.append_assoc]
   exact List.perm_append_comm.append_right r'
  exact⟨A++r',(h1.append_left A).trans (sw D),fun X=>((h2 X).append_left A).trans (sw X)⟩
theorem At.ent{D own:Own}{C:Own→Own}(h:At D own C){e:Nat×(Obj→Prop)}:Ent W0 (e::own) (C [e]):=by
 obtain⟨r,h1,h2⟩:=h.perm
 refine(Ent.of_perm (h1.cons e)).trans ((Ent.of_sub (List.Sublist.cons_cons e (List.sublist_append_right D r))).trans (Ent.of_perm (h2 [e]).symm))
theorem At.self{D own:Own}{C:Own→Own}(h:At D own C):Ent W0 own D:=by
 obtain⟨r,h1,_⟩:=h.perm
 exact(Ent.of_perm h1).trans Ent.left
theorem At.same{D own:Own}{C:Own→Own}(h:At D own C):C D=own:=by
 induction h with
 |head=>rfl
 |tail _ ih=>exact congrArg _ ih
 |skip _ ih=>exact congrArg _ ih
theorem Up.app{b:Nat}{p q:Obj→Prop}{r r':Own}(h:Up b p q r r'):∀A:Own,Up b p q (A++r) (A++r')
 | []=>h
 |_::A=>Up.tail (Up.app h A)
theorem At.up{b:Nat}{p:Obj→Prop}{own:Own}{C:Own→Own}(h:At [(b,p)] own C)(q:Obj→Prop):Up b p q own (C [(b,q)]):=by
 generalize hD: [(b,p)]=D at h
 induction h with
 |head=>subst hD;exact Up.head
 |tail _ ih=>exact Up.tail ih
 | @skip A _ _ _ ih=>exact Up.app ih A
end ent
section flat
variable{α:Type}{enc:α→List Value}{sz:Nat}
theorem q03:∀(l:List α),(∀x∈l,(enc x).length=sz)→(l.map enc).flatten.length=l.length*sz
 | [],_=>by simp
 |x::l,h=>by
  simp only[List.map_cons,List.flatten_cons,List.length_append,List.length_cons,q03 l (fun y hy=>h y (List.mem_cons_of_mem _ hy)),h x List.mem_cons_self,Nat.succ_mul]
  omega
theorem q3t:∀(l:List α),(∀x∈l,(enc x).length=sz)→∀{j k:Nat} {x:α} {v:Value},l[j]? =some x→(enc x)[k]? =some v→(l.map enc).flatten[j*sz+k]? =some v
 | [],_,j,k,x,v,h,_=>by simp at h
 |y::l,h,0,k,x,v,hx,hv=>by
  simp only[List.getElem?_cons_zero,Option.some.injEq] at hx
  subst hx
  have hk:=(List.getElem?_eq_some_iff.1 hv).1
  simp only[List.map_cons,List.flatten_cons,Nat.zero_mul,Nat.zero_add]
  rw[List.getElem?_append_left hk,hv]
 |y::l,h,j+1,k,x,v,hx,hv=>by
  have hy:=h y List.mem_cons_self
  simp only[List.map_cons,List.flatten_cons]
  rw[List.getElem?_append_right (by rw[hy,Nat.succ_mul];omega),hy]
  have e:(j+1)*sz+k-sz=j*sz+k:=by rw[Nat.succ_mul];omega
  rw[e]
  exact q3t l (fun z hz=>h z (List.mem_cons_of_mem _ hz)) (by simpa using hx) hv
theorem q9B:∀(l:List α),(∀x∈l,(enc x).length=sz)→∀j,(l.map enc).flatten.take (j*sz)=((l.take j).map enc).flatten
 | [],_,j=>by simp
 |y::l,h,0=>by simp
 |y::l,h,j+1=>by
  have hy:=h y List.mem_cons_self
  simp only[List.map_cons,List.flatten_cons,List.take_succ_cons]
  rw[List.take_append,hy,List.take_of_length_le (by rw[hy,Nat.succ_mul];omega)]
  have e:(j+1)*sz-sz=j*sz:=by rw[Nat.succ_mul];omega
  rw[e,q9B l (fun z hz=>h z (List.mem_cons_of_mem _ hz)) j]
theorem q9A:∀(l:List α),(∀x∈l,(enc x).length=sz)→∀j,(l.map enc).flatten.drop (j*sz)=((l.drop j).map enc).flatten
 | [],_,j=>by simp
 |y::l,h,0=>by simp
 |y::l,h,j+1=>by
  have hy:=h y List.mem_cons_self
  simp only[List.map_cons,List.flatten_cons,List.drop_succ_cons]
  rw[List.drop_append,hy,List.drop_of_length_le (by rw[hy,Nat.succ_mul];omega),List.nil_append]
  have e:(j+1)*sz-sz=j*sz:=by rw[Nat.succ_mul];omega
  rw[e,q9A l (fun z hz=>h z (List.mem_cons_of_mem _ hz)) j]
end flat
structure RdE{α:Type}(enc:α→List Value)(sz:Nat)(W0:World)(own:Own)(a:Option Addr)(l:List α):Prop where
 isS:l≠ []→a=some ⟨ab a,ao a,none⟩
 wid:∀x∈l,(enc x).length=sz
 cell:∀{j k:Nat} {x:α} {v:Value},l[j]? =some x→(enc x)[k]? =some v→Kn W0 own (fun w=>w.cell? ⟨ab a,ao a+j*sz+k,none⟩=some v)
structure qr{α:Type}(enc:α→List Value)(T:TypeId)(sz:Nat)(a:Option Addr)(cap:Nat)(l:List α)(D:Own):Prop where
 wid:∀x∈l,(enc x).length=sz
 how:(l= []∧cap=0∧D= [])∨∃b rest,a=some ⟨b,0,none⟩∧D= [(b,fun o=>o=Obj.cells ((l.map enc).flatten++rest).toArray T)]∧l.length*sz+rest.length=cap*sz∧l.length≤cap
section
variable{α:Type}{enc:α→List Value}{sz:Nat}{W0:World}{own:Own}{a:Option Addr}{l:List α}
theorem RdE.ent{own':Own}(h:RdE enc sz W0 own a l)(e:Ent W0 own' own):RdE enc sz W0 own' a l:=⟨h.isS,h.wid,fun hx hv=>(h.cell hx hv).ent e⟩
theorem RdE.nil:RdE enc sz W0 own a []:=⟨fun h=>absurd rfl h,fun _ h=>(by cases h),fun h=>(by simp at h)⟩
theorem ixE{i:Int}{K:Addr→Prop}{j:Nat}{x:α}(h:RdE enc sz W0 own a l)(hx:l[j]? =some x)(hi:i=j)(hk:K ⟨ab a,ao a+j*sz,none⟩):IxS a sz i l.length K:=
 ⟨j,ab a,ao a,hi,(List.getElem?_eq_some_iff.1 hx).1,h.isS (fun e=>by subst e;simp at hx),hk⟩
theorem ldE{j k o:Nat}{x:α}{v:Value}{K:Value→Prop}(h:RdE enc sz W0 own a l)(hx:l[j]? =some x)(ho:o=ao a+j*sz+k)(hv:(enc x)[k]? =some v)(hk:K v):Ld W0 own ⟨ab a,o,none⟩ K:=by
 subst ho;exact⟨v,h.cell hx hv,hk⟩
theorem qeD{j o n:Nat}{x:α}{K:Array Value→Prop}(h:RdE enc sz W0 own a l)(hx:l[j]? =some x)(ho:o=ao a+j*sz)(hn:n=sz)(hk:K (enc x).toArray):LdN W0 own ⟨ab a,o,none⟩ n K:=by
 subst ho;subst hn
 have hw:=h.wid x (List.mem_of_getElem? hx)
 refine⟨(enc x).toArray,by simpa using hw,fun w hs i hi=> ?_,hk⟩
 rw[qI]
 have hi':i<(enc x).length:=by omega
 exact(h.cell (v:=(enc x)[i]) hx (List.getElem?_eq_getElem hi') w hs).trans (by simp[hi'])
theorem qr.rd{T:TypeId}{cap:Nat}{D:Own}(h:qr enc T sz a cap l D):RdE enc sz W0 D a l:=by
 rcases h.how with ⟨rfl,_,_⟩|⟨b,rest,rfl,rfl,hl,_⟩
 ·exact RdE.nil
 ·refine⟨fun _=>rfl,h.wid,fun{j k x v} hx hv=> ?_⟩
  have hf:=q3t l h.wid hx hv
  have hlt:=(List.getElem?_eq_some_iff.1 hf).1
  show Kn W0 _ (fun w=>w.cell? ⟨b,0+j*sz+k,none⟩=some v)
  refine q5A (List.Mem.head _) ?_
  rw[Nat.zero_add,List.getElem?_append_left hlt,hf]
theorem qr.le{T:TypeId}{cap:Nat}{D:Own}(h:qr enc T sz a cap l D):l.length≤cap:=by
 rcases h.how with ⟨rfl,rfl,_⟩|⟨_,_,_,_,_,hl⟩
 ·simp
 ·exact hl
theorem qr.nil{T:TypeId}:qr enc T sz a 0 [] []:=⟨fun _ h=>(by cases h), .inl ⟨rfl,rfl,rfl⟩⟩
theorem q4E{b:Nat}{cs:Array Value}{T:TypeId}{fz:Nat×Nat}(hm:(b,fun o=>o=Obj.cells cs T fz)∈own)(hw:∀x∈l,(enc x).length=sz)(hc:cs.toList=(l.map enc).flatten):RdE enc sz W0 own (some ⟨b,0,none⟩) l:=by
 refine⟨fun _=>rfl,hw,fun{j k x v} hx hv=> ?_⟩
 have hf:=q3t l hw hx hv
 show Kn W0 own (fun w=>w.cell? ⟨b,0+j*sz+k,none⟩=some v)
 exact q5A hm (by rw[hc,Nat.zero_add];exact hf)
theorem RdE.sl{c r m:Nat}(h:RdE enc sz W0 own a l)(hr:r≤l.length)(hm:r≤m):RdE enc sz W0 own (slA a m c sz) ((l.drop c).take (r-c)):=by
 by_cases hcr:c<r
 ·have hne:l≠ []:=by intro e;subst e;simp at hr;omega
  have hS:=h.isS hne
  have e1:slA a m c sz=some ⟨ab a,ao a+c*sz,none⟩:=by
   unfold slA
   rw[if_neg (by omega),hS]
   simp[qI,ab,ao]
  rw[e1]
  refine⟨fun _=>rfl,fun x hx=>h.wid x (List.mem_of_mem_drop (List.mem_of_mem_take hx)),fun{j k x v} hx hv=> ?_⟩
  have hx':l[c+j]? =some x:=by
   rw[List.getElem?_take] at hx
   split at hx
   ·rwa[List.getElem?_drop] at hx
   ·cases hx
  have:=h.cell hx' hv
  have e2:ao a+(c+j)*sz+k=ao a+c*sz+j*sz+k:=by rw[Nat.add_mul];omega
  rw[e2] at this
  exact this
 ·have e:r-c=0:=by omega
  rw[e,List.take_zero]
  exact RdE.nil
theorem mkE{T:TypeId}{bytes:Nat}{zs:List Value}{n c:Int}{K:Value→Own→Prop}(x0:α)(hz:enc x0=zs)(hs:zs.length=sz)(h0:0≤n∧n≤c∧c*bytes≤281474976710656)
  (hk:∀a cap D,qr enc T sz a cap (List.replicate n.toNat x0) D→K (.slice a n.toNat cap) (D++own)):MkT W0 own T bytes zs n c K:=by
 refine⟨n.toNat,c.toNat,by omega,by omega,by omega,?_,fun b hb=> ?_⟩
 ·have h1:=h0.2.2
  have h2:c=(c.toNat:Int):=by omega
  rw[h2,←Int.natCast_mul] at h1
  omega
 ·refine hk (some ⟨b,0,none⟩) c.toNat [(b,fun o=>o=Obj.cells (List.replicate c.toNat zs).flatten.toArray T)] ⟨fun x hx=>by rw[List.eq_of_mem_replicate hx,hz,hs], .inr ⟨b,(List.replicate (c.toNat-n.toNat) zs).flatten,rfl,?_,?_,by simp;omega⟩⟩
  ·have e:c.toNat=n.toNat+(c.toNat-n.toNat):=by omega
   congr
   funext o
   rw[List.map_replicate,hz,←List.flatten_append,List.replicate_append_replicate,←e]
  ·have e:c.toNat=n.toNat+(c.toNat-n.toNat):=by omega
   simp only[List.length_replicate,List.length_flatten,List.map_replicate,List.sum_replicate_nat,hs]
   rw[←Nat.add_mul,←e]
theorem q79{b:Nat}{T:TypeId}{w:World}{own':Own}{cs vs:List Value}{off:Nat}(hw:St W0 own w)(hu:Up b (fun o=>o=Obj.cells cs.toArray T) (fun o=>o=Obj.cells (cs.take off++vs++cs.drop (off+vs.length)).toArray T) own own')(hl:off+vs.length≤cs.length):
  (∀j,j<vs.length→(w.cell? ⟨b,off+j,none⟩).isSome=true∧w.frozen? ⟨b,off+j,none⟩=false)∧St W0 own' (q78 w ⟨b,off,none⟩ 0 vs):=by
 obtain⟨o,ho,rfl⟩:=hw.owns _ hu.mem
 have hs:=qaz (T:=T) vs 0 w off cs ho (by simpa using hl)
 refine⟨fun j hj=> ?_,hw.up hu hs.2.2.2.1 hs.2.2.2.2.1 hs.2.2.2.2.2 (by rw[hs.2.2.1];exact Nat.le_refl _) (fun k _ hne=>hs.2.1 k hne) ⟨_,by simpa using hs.1,rfl⟩⟩
 have hlt:off+j<cs.length:=by omega
 exact⟨by simp[World.cell?,ho,hlt],by simp[World.frozen?,ho]⟩
theorem q7m{T:TypeId}{bytes cap m:Nat}{zs:List Value}{D:Own}{C:Own→Own}{a2:Option Addr}{l2:List α}{K:Value→Own→Prop}(hB:qr enc T sz a cap l D)(hat:At D own C)(hx:RdE enc sz W0 own a2 l2)(hm:m=l2.length)
  (hz:zs.length=sz) (hs:0<sz) (h1:∀x∈l2,(enc x).all q4A=true) (hb:cap<l.length+l2.length→(l.length+l2.length)*bytes≤140737488355328)
  (hk:∀a' cap' D',qr enc T sz a' cap' (l++l2) D'→K (.slice a' (l.length+l2.length) cap') (C D')):qcz W0 own T sz bytes zs a l.length cap a2 m K:=by
 subst hm
 have hrd:RdE enc sz W0 own a l:=(hB.rd (W0:=W0)).ent hat.self
 have holds:∀{a:Option Addr} {l:List α},RdE enc sz W0 own a l→Kn W0 own (Holds a (l.map enc).flatten):=fun{a l} h w hw ad had j v hj=>by
  have hlt:=(List.getElem?_eq_some_iff.1 hj).1
  rw[q03 l h.wid] at hlt
  have hj1:j/sz<l.length:=Nat.div_lt_of_lt_mul (by rwa[Nat.mul_comm])
  have hj2:j % sz<sz:=Nat.mod_lt _ hs
  have hx':l[j/sz]? =some l[j/sz]:=List.getElem?_eq_getElem hj1
  have hwd:=h.wid _ (List.mem_of_getElem? hx')
  have hv':(enc l[j/sz])[j % sz]? =some (enc l[j/sz])[j % sz]:=List.getElem?_eq_getElem (by omega)
  have he:j/sz*sz+j % sz=j:=Nat.div_add_mod' j sz
  have hf:=q3t l h.wid hx' hv'
  rw[he,hj] at hf
  have hS:=h.isS (fun e=>by subst e;simp at hj1)
  rw[hS] at had
  have had:=Option.some.inj had
  rw[←had,qI]
  have hc:=h.cell hx' hv' w hw
  have e2:ao a+j/sz*sz+j % sz=ao a+j:=by omega
  rw[e2] at hc
  rw[hc,hf]
 have wid2:∀x∈l++l2,(enc x).length=sz:=fun x h=>(List.mem_append.1 h).elim (hB.wid x) (hx.wid x)
 refine⟨(l.map enc).flatten,(l2.map enc).flatten,q03 l hB.wid,q03 l2 hx.wid,fun e=> ?_,fun e=> ?_,fun v hv=> ?_,holds hrd,holds hx,fun hfit=> ?_,fun hgr=>⟨hb hgr,fun b c' hb' hc'=> ?_⟩⟩
 ·cases l with
  |nil=>rfl
  |cons x r=>have:=hrd.isS (by simp);rw[e] at this;cases this
 ·cases l2 with
  |nil=>rfl
  |cons x r=>have:=hx.isS (by simp);rw[e] at this;cases this
 ·obtain⟨cs,hcs,hv⟩:=List.mem_flatten.1 hv
  obtain⟨x,hx',rfl⟩:=List.mem_map.1 hcs
  exact List.all_eq_true.1 (h1 x hx') v hv
 ·rcases hB.how with ⟨rfl,rfl,rfl⟩|⟨b,rest,rfl,rfl,hl,hle⟩
  ·have h2:l2= []:=by cases l2 with|nil=>rfl|cons x r=>simp at hfit
   subst h2
   have hC:=hat.same
   refine⟨own,fun w hw=>⟨fun ad _=>⟨fun j hj=>by simp at hj,by simpa [q78] using hw⟩,fun _=>hw⟩,?_⟩
   have:=hk a 0 [] qr.nil
   rw[hC] at this
   exact this
  ·have hfl:=q03 l hB.wid
   have hfl2:=q03 l2 hx.wid
   have hsz:(l.length+l2.length)*sz≤cap*sz:=Nat.mul_le_mul_right _ hfit
   rw[Nat.add_mul] at hsz
   refine⟨C [(b,fun o=>o=Obj.cells (((l++l2).map enc).flatten++rest.drop (l2.length*sz)).toArray T)],fun w hw=>⟨fun ad had=> ?_,fun e=>by cases e⟩,hk (some ⟨b,0,none⟩) cap _ ⟨wid2, .inr ⟨b,rest.drop (l2.length*sz),rfl,rfl,?_,by simpa using hfit⟩⟩⟩
   ·have had:=Option.some.inj had
    subst had
    have hnew:((l.map enc).flatten++rest).take (l.length*sz)++(l2.map enc).flatten++((l.map enc).flatten++rest).drop (l.length*sz+(l2.map enc).flatten.length)=((l++l2).map enc).flatten++rest.drop (l2.length*sz):=by
     rw[hfl2,List.take_append_of_le_length (by omega),List.take_of_length_le (by omega),List.drop_append,List.drop_of_length_le (by omega),List.nil_append,hfl,Nat.add_sub_cancel_left,List.map_append,List.flatten_append]
    have hu:=hat.up (q:=fun o=>o=Obj.cells (((l.map enc).flatten++rest).take (l.length*sz)++(l2.map enc).flatten++((l.map enc).flatten++rest).drop (l.length*sz+(l2.map enc).flatten.length)).toArray T)
    have hr:=q79 (vs:=(l2.map enc).flatten) (off:=l.length*sz) hw hu (by rw[List.length_append,hfl,hfl2];omega)
    rw[hnew] at hr
    rw[qI,Nat.zero_add]
    refine⟨fun j hj=> ?_,hr.2⟩
    rw[qI]
    exact hr.1 j hj
   ·simp only[List.length_append,List.length_drop,Nat.add_mul];omega
 ·refine⟨C [(b,fun o=>o=Obj.cells ((l.map enc).flatten++(l2.map enc).flatten++(List.replicate (c'-(l.length+l2.length)) zs).flatten).toArray T)],hat.ent,?_⟩
  refine hk (some ⟨b,0,none⟩) c' _ ⟨wid2, .inr ⟨b,(List.replicate (c'-(l.length+l2.length)) zs).flatten,rfl,?_,?_,by simpa using hc'⟩⟩
  ·rw[List.map_append,List.flatten_append]
  ·simp only[List.length_append,List.length_flatten,List.map_replicate,List.sum_replicate_nat,hz]
   rw[←Nat.add_mul]
   congr 1
   omega
theorem qkw{T:TypeId}{bytes cap m:Nat}{zs:List Value}{D:Own}{C:Own→Own}{a2:Option Addr}{l2:List α}{K:Value→Own→Prop}(hB:qr enc T sz a cap l D)(hat:At D own C)(hx:RdE enc sz W0 own a2 l2)(hm:m=l2.length)
  (hz:zs.length=sz) (hs:0<sz) (h1:∀x∈l2,(enc x).all q4A=true) (hb:(l.length+l2.length)*bytes≤140737488355328)
  (hk:∀a' cap' D',qr enc T sz a' cap' (l++l2) D'→K (.slice a' (l.length+l2.length) cap') (C D')):qcz W0 own T sz bytes zs a l.length cap a2 m K:=
 q7m hB hat hx hm hz hs h1 (fun _=>hb) hk
theorem q5r{T T2:TypeId}{bytes cap bt:Nat}{zs:List Value}{D:Own}{C:Own→Own}{ys:Array Value}{fz:Nat×Nat}{K:Value→Own→Prop}(x:α)(hB:qr enc T sz a cap l D)(hat:At D own C)(hm:(bt,fun o=>o=Obj.cells ys T2 fz)∈own)(hy:ys.toList=enc x)
  (hz:zs.length=sz) (hs:0<sz) (hw:(enc x).length=sz) (h1:(enc x).all q4A=true) (hb:(l.length+1)*bytes≤140737488355328)
  (hk:∀a' cap' D',qr enc T sz a' cap' (l++ [x]) D'→K (.slice a' (l.length+1) cap') (C D')):qcz W0 own T sz bytes zs a l.length cap (some ⟨bt,0,none⟩) 1 K:=
 qkw (l2:= [x]) hB hat (q4E hm (fun y hy=>by rw[List.mem_singleton.1 hy];exact hw) (by simpa using hy)) rfl hz hs (fun y hy=>by rw[List.mem_singleton.1 hy];exact h1) hb hk
theorem qlG{T:TypeId}{cap j o:Nat}{D:Own}{C:Own→Own}{x:α}{vs:List Value}{K:Own→Prop}(x':α)(hB:qr enc T sz a cap l D)(hat:At D own C)(hx:l[j]? =some x)(ho:o=ao a+j*sz)(hv:enc x'=vs)(hw:vs.length=sz)(h1:vs.all q4A=true)
  (hk:∀D',qr enc T sz a cap (l.set j x') D'→K (C D')):StN W0 own ⟨ab a,o,none⟩ vs K:=by
 subst ho
 have hj:=(List.getElem?_eq_some_iff.1 hx).1
 rcases hB.how with ⟨rfl,_,_⟩|⟨b,rest,rfl,rfl,hl,hle⟩
 ·simp at hx
 ·have hfl:=q03 l hB.wid
  have hsz:(j+1)*sz≤l.length*sz:=Nat.mul_le_mul_right _ hj
  rw[Nat.succ_mul] at hsz
  have wid':∀y∈l.set j x',(enc y).length=sz:=fun y hy=>(List.mem_or_eq_of_mem_set hy).elim (hB.wid y) (fun e=>by rw[e,hv,hw])
  have hnew:((l.map enc).flatten++rest).take (j*sz)++vs++((l.map enc).flatten++rest).drop (j*sz+vs.length)=((l.set j x').map enc).flatten++rest:=by
   rw[hw,List.take_append_of_le_length (by omega),List.drop_append_of_le_length (by omega),q9B l hB.wid,←Nat.succ_mul,q9A l hB.wid]
   rw[List.set_eq_take_append_cons_drop,if_pos hj,List.map_append,List.flatten_append,List.map_cons,List.flatten_cons,hv]
   simp
  refine⟨fun v hv'=>List.all_eq_true.1 h1 v hv',C [(b,fun o=>o=Obj.cells (((l.set j x').map enc).flatten++rest).toArray T)],fun w hs=> ?_,hk _ ⟨wid', .inr ⟨b,rest,rfl,rfl,by simpa using hl,by simpa using hle⟩⟩⟩
  have hu:=hat.up (q:=fun o=>o=Obj.cells (((l.map enc).flatten++rest).take (j*sz)++vs++((l.map enc).flatten++rest).drop (j*sz+vs.length)).toArray T)
  have hr:=q79 (vs:=vs) (off:=j*sz) hs hu (by rw[List.length_append,hfl];omega)
  rw[hnew] at hr
  show(∀i,i<vs.length→(w.cell? ((Addr.mk b (0+j*sz) none).add i)).isSome=true∧w.frozen? ((Addr.mk b (0+j*sz) none).add i)=false)∧St W0 _ (q78 w ⟨b,0+j*sz,none⟩ 0 vs)
  rw[Nat.zero_add]
  refine⟨fun i hi=> ?_,hr.2⟩
  rw[qI]
  exact hr.1 i hi
theorem qfB{w:World}{b o:Nat}{v:Value}:q78 w ⟨b,o,none⟩ 0 [v]=w.setCell ⟨b,o,none⟩ v:=by
 simp only[q78,qI,Nat.add_zero]
theorem stE{T:TypeId}{cap j k o:Nat}{D:Own}{C:Own→Own}{x:α}{v:Value}{K:Own→Prop}(x':α)(hB:qr enc T sz a cap l D)(hat:At D own C)(hx:l[j]? =some x)(ho:o=ao a+j*sz+k)(hk0:k<sz)(hv:enc x'=(enc x).set k v)(h1:q4A v=true)
  (hk:∀D',qr enc T sz a cap (l.set j x') D'→K (C D')):StT W0 own ⟨ab a,o,none⟩ v K:=by
 subst ho
 have hj:=(List.getElem?_eq_some_iff.1 hx).1
 have hwx:=hB.wid x (List.mem_of_getElem? hx)
 rcases hB.how with ⟨rfl,_,_⟩|⟨b,rest,rfl,rfl,hl,hle⟩
 ·simp at hx
 ·have hfl:=q03 l hB.wid
  have hsz:(j+1)*sz≤l.length*sz:=Nat.mul_le_mul_right _ hj
  rw[Nat.succ_mul] at hsz
  have wid':∀y∈l.set j x',(enc y).length=sz:=fun y hy=>(List.mem_or_eq_of_mem_set hy).elim (hB.wid y) (fun e=>by rw[e,hv,List.length_set,hwx])
  have hspl:(l.map enc).flatten=((l.take j).map enc).flatten++(enc x++((l.drop (j+1)).map enc).flatten):=by
   have e:l=l.take j++x::l.drop (j+1):=by
    rw[←(List.getElem?_eq_some_iff.1 hx).2,List.getElem_cons_drop,List.take_append_drop]
   conv=>lhs;rw[e]
   simp
  have htl:((l.take j).map enc).flatten.length=j*sz:=by
   rw[q03 _ (fun y hy=>hB.wid y (List.mem_of_mem_take hy)),List.length_take]
   congr 1;omega
  have hnew:((l.map enc).flatten++rest).take (j*sz+k)++ [v]++((l.map enc).flatten++rest).drop (j*sz+k+ [v].length)=((l.set j x').map enc).flatten++rest:=by
   have h2:((l.set j x').map enc).flatten++rest=((l.map enc).flatten++rest).set (j*sz+k) v:=by
    have e1:((l.set j x').map enc).flatten=((l.take j).map enc).flatten++((enc x).set k v++((l.drop (j+1)).map enc).flatten):=by
     rw[List.set_eq_take_append_cons_drop,if_pos hj,List.map_append,List.flatten_append,List.map_cons,List.flatten_cons,hv]
    have e2:∀A X B:List Value,A++(X++B)++rest=A++(X++(B++rest)):=fun A X B=>by simp
    rw[e1,hspl,e2,e2,List.set_append_right _ _ (by omega),htl,Nat.add_sub_cancel_left,List.set_append_left _ _ (by omega)]
   rw[h2,q9P _ _ _ (by rw[List.length_append,hfl];omega)]
   rfl
  refine⟨h1,C [(b,fun o=>o=Obj.cells (((l.set j x').map enc).flatten++rest).toArray T)],fun w hs=> ?_,hk _ ⟨wid', .inr ⟨b,rest,rfl,rfl,by simpa using hl,by simpa using hle⟩⟩⟩
  have hu:=hat.up (q:=fun o=>o=Obj.cells (((l.map enc).flatten++rest).take (j*sz+k)++ [v]++((l.map enc).flatten++rest).drop (j*sz+k+ [v].length)).toArray T)
  have hr:=q79 (vs:= [v]) (off:=j*sz+k) hs hu (by rw[List.length_append,hfl];simp;omega)
  rw[hnew,qfB] at hr
  show(w.cell? ⟨b,0+j*sz+k,none⟩).isSome=true∧w.frozen? ⟨b,0+j*sz+k,none⟩=false∧St W0 _ (w.setCell ⟨b,0+j*sz+k,none⟩ v)
  rw[Nat.zero_add]
  have h0:=hr.1 0 (by simp)
  exact⟨h0.1,h0.2,hr.2⟩
end
end Go.Proofs.YtkieffpjjfebjaaGreatDoor
