/- What the laws share, part 6. No condition. -/
import Derived.RangeFuncFrom
import Derived.RangeFuncLeaves
import Derived.Test.YtbhbldllneadeaaGreatDoorQ5
set_option maxRecDepth 10000
namespace Go.Proofs.YtbhbldllneadeaaGreatDoor
open Go Go.RowKit
theorem St.put{W0:World}{own own':Own}{w:World}{b:Nat}{p q:Obj→Prop}(s:St W0 own w)(hu:Up b p q own own')(o:Obj)(hq:q o):St W0 own' (w.putObj b o):=by
 have hb:=s.mem_size hu.mem;exact s.up hu rfl rfl rfl (by simp[World.putObj]) (fun k _ hne=>World.putObj_heap_other (fun e=>hne e)) ⟨o,World.putObj_heap_same hb,hq⟩
theorem St.new{W0:World}{own:Own}{w:World}(s:St W0 own w)(o:Obj){p:Obj→Prop}(hp:p o):St W0 ((w.heap.size,p)::own) (w.alloc o):=s.push o hp
inductive IT
 |code (c:IC)
 |seq (a:IC) (r:IT)
 |rng (g:Operand) (ps:List Nat) (as bd rest:IC)
 |cut (a:IC) (r:IT)
theorem At.drop{W0:World}{D own:Own}{C:Own→Own}(h:At D own C){e:Nat×(Obj→Prop)}:Ent W0 (C [e]) (C []):=by
 obtain⟨r,_,h2⟩:=h.perm;exact(Ent.of_perm (h2 [e])).trans ((Ent.cons Ent.refl).trans (Ent.of_perm (h2 []).symm))
open Go
class qy(b:Nat)(p:outParam (Obj→Prop))(own:Own):Prop where
 h:(b,p)∈own
section
variable{b:Nat}{p:Obj→Prop}{e:Nat×(Obj→Prop)}{A r:Own}
instance qy.left [m:qy b p A]:qy b p (A++r):=⟨zN _ m.h⟩
instance qy.right [m:qy b p r]:qy b p (A++r):=⟨zR _ m.h⟩
instance qy.tail [m:qy b p r]:qy b p (e::r):=⟨zp _ m.h⟩
instance qy.head:qy b p ((b,p)::r):=⟨zm⟩
end
theorem Up.appl{b:Nat}{p q:Obj→Prop}{A A' r:Own}(h:Up b p q A A'):Up b p q (A++r) (A'++r):=by
 induction h with
 |head=>exact Up.head
 |tail _ ih=>exact Up.tail ih
class UpC(b:Nat)(p:outParam (Obj→Prop))(own:Own)(C:outParam ((Obj→Prop)→Own)):Prop where
 h:∀q,Up b p q own (C q)
section
variable{b:Nat}{p:Obj→Prop}{e:Nat×(Obj→Prop)}{A r:Own}{C:(Obj→Prop)→Own}
instance UpC.left [m:UpC b p A C]:UpC b p (A++r) (fun q=>C q++r):=⟨fun q=>(m.h q).appl⟩
instance UpC.right [m:UpC b p r C]:UpC b p (A++r) (fun q=>A++C q):=⟨fun q=>(m.h q).app A⟩
instance UpC.tail [m:UpC b p r C]:UpC b p (e::r) (fun q=>e::C q):=⟨fun q=>Up.tail (m.h q)⟩
instance UpC.head:UpC b p ((b,p)::r) (fun q=>(b,q)::r):=⟨fun _=>Up.head⟩
end
theorem At.left{D A r:Own}{C:Own→Own}(h:At D A C):At D (A++r) (fun X=>C X++r):=by
 induction h with
 | @head r0=>
  have:=At.head (D:=D) (r:=r0++r)
  simpa only[zd] using this
 |tail _ ih=>exact At.tail ih
 | @skip A r0 C _ ih=>
  have:=At.skip (A:=A) ih
  simpa only[zd] using this
class AtC(D own:Own)(C:outParam (Own→Own)):Prop where
 h:At D own C
section
variable{D A r:Own}{e:Nat×(Obj→Prop)}{C:Own→Own}
instance AtC.left [m:AtC D A C]:AtC D (A++r) (fun X=>C X++r):=⟨m.h.left⟩
instance AtC.skip [m:AtC D r C]:AtC D (A++r) (fun X=>A++C X):=⟨At.skip m.h⟩
instance AtC.tail [m:AtC D r C]:AtC D (e::r) (fun X=>e::C X):=⟨At.tail m.h⟩
instance AtC.one:AtC [e] (e::r) (fun X=>X++r):=⟨At.head (D:= [e])⟩
instance AtC.head:AtC D (D++r) (fun X=>X++r):=⟨At.head⟩
end
class qv(own own':Own):Prop where
 h:∀W0,Ent W0 own own'
section
variable{A D r own own':Own}{e:Nat×(Obj→Prop)}
instance qv.nil:qv own []:=⟨fun _=>Ent.none⟩
instance qv.appl [m:qv A own']:qv (A++r) own':=⟨fun W=>Ent.left.trans (m.h W)⟩
instance qv.app [m:qv r own']:qv (A++r) own':=⟨fun W=>Ent.app (m.h W)⟩
instance qv.cons [m:qv own own']:qv (e::own) own':=⟨fun W=>Ent.cons (m.h W)⟩
instance qv.left:qv (D++r) D:=⟨fun _=>Ent.left⟩
instance qv.refl:qv own own:=⟨fun _=>Ent.refl⟩
end
section
variable{W0:World}{own own':Own}
theorem qmA [m:qv own own']:Ent W0 own own':=m.h W0
theorem eC{p:Prop}(h:p:=by first|exact qmA|(exact eB)):p:=h
theorem qnH{b off:Nat}{cs:Array Value}{T:TypeId}{fz:Nat×Nat}{v:Value}{K:Value→Prop} [m:qy b (fun o=>o=Obj.cells cs T fz) own](hv:cs.toList[off]? =some v)(h:K v):Ld W0 own ⟨b,off,none⟩ K:=q0b v m.h hv h
theorem qmE{b n:Nat}{cs:Array Value}{T:TypeId}{fz:Nat×Nat}{K:Array Value→Prop} [m:qy b (fun o=>o=Obj.cells cs T fz) own](hl:cs.toList.length=n)(h:K cs):LdN W0 own ⟨b,0,none⟩ n K:=q0e m.h hl h
theorem qmF{b off n:Nat}{cs:Array Value}{T:TypeId}{fz:Nat×Nat}{K:Array Value→Prop}{vs:List Value} [m:qy b (fun o=>o=Obj.cells cs T fz) own](hv:(cs.toList.drop off).take n=vs)(hl:vs.length=n)(h:K vs.toArray):LdN W0 own ⟨b,off,none⟩ n K:=q1n vs m.h hv hl h
theorem qjO{b off:Nat}{cs:Array Value}{T:TypeId}{v:Value}{K:Own→Prop}{C:(Obj→Prop)→Own} [m:UpC b (fun o=>o=Obj.cells cs T (0,0)) own C](hoff:Nat.ble (off+1) cs.toList.length=true)(h1:q2D v=true)
  (h:K (C fun o=>o=Obj.cells (cs.toList.set off v).toArray T (0,0))):StT W0 own ⟨b,off,none⟩ v K:=by
 have hu:=m.h (fun o=>o=Obj.cells (cs.toList.set off v).toArray T (0,0));have hoff':off<cs.toList.length:=Nat.le_of_ble_eq_true hoff;refine⟨h1,_,fun w hw=> ?_,h⟩;obtain⟨o,ho,rfl⟩:=hw.owns _ hu.mem;have hoff2:off<cs.size:=by simpa using hoff'
 refine⟨by simp[World.cell?,ho,hoff2],by simp[World.frozen?,ho],hw.up hu rfl rfl rfl (by simp[World.setCell]) (fun k _ hne=> ?_) ⟨_,?_,rfl⟩⟩
 ·rw[q05,if_neg (fun e=>hne e.symm)]
 ·rw[q05,if_pos rfl,ho];simp only[Zu,Zv,zO,if_false]
  congr 2
  rw[←Zx];simp
theorem qgb{b off n:Nat}{cs:Array Value}{T:TypeId}{vs:List Value}{K:Own→Prop}{C:(Obj→Prop)→Own} [m:UpC b (fun o=>o=Obj.cells cs T (0,0)) own C](hn:vs.length=n)(hoff:Nat.ble (off+n) cs.toList.length=true)(h1:vs.all q2D=true)
  (h:K (C fun o=>o=Obj.cells (cs.toList.take off++vs++cs.toList.drop (off+n)).toArray T (0,0))):vs.length=n∧StN W0 own ⟨b,off,none⟩ vs K:=by
 subst hn;have hu:=m.h (fun o=>o=Obj.cells (cs.toList.take off++vs++cs.toList.drop (off+vs.length)).toArray T (0,0));have hoff':off+vs.length≤cs.toList.length:=Nat.le_of_ble_eq_true hoff;refine⟨rfl,by simpa using h1,_,fun w hw=> ?_,h⟩;have:=q4K (cs:=cs.toList) (vs:=vs) hw hu hoff';refine⟨fun j hj=> ?_,this.2⟩;rw[qO];exact this.1 j hj
end
section
variable{α:Type}{enc:α→List Value}{sz:Nat}{W0:World}{own own':Own}{l:List α}{a:Option Addr}
abbrev q0K(enc:α→List Value)(T:TypeId)(b:Nat)(l:List α):Nat×(Obj→Prop):=(b,fun o=>o=Obj.cells (l.map enc).flatten.toArray T)
theorem q80{T:TypeId}{b:Nat}(hw:∀x∈l,(enc x).length=sz):qu enc T sz (some ⟨b,0,none⟩) l.length l [q0K enc T b l]:=
 ⟨hw, .inr ⟨b,[],rfl,by simp[q0K],Y8,zu _⟩⟩
theorem qgA{T:TypeId}{b:Nat}{D:Own}(hne:l≠ [])(h:qu enc T sz (some ⟨b,0,none⟩) l.length l D):D= [q0K enc T b l]:=by
 rcases h.how with ⟨rfl,_,_⟩|⟨b',rest,hb,rfl,hl,_⟩
 ·exact absurd rfl hne
 ·simp only[Option.some.injEq,Addr.mk.injEq] at hb;obtain⟨rfl,_⟩:=hb;have:rest= []:=Z9 Y6;subst this;simp[q0K]
theorem q6X{T:TypeId}{b:Nat}(hw:∀x∈l,(enc x).length=sz):RdE enc sz W0 [q0K enc T b l] (some ⟨b,0,none⟩) l:=(q80 hw).rd
theorem mkC{T:TypeId}{bytes:Nat}{zs:List Value}{n c:Int}{K:Value→Own→Prop}(m:Nat)(x0:α)(hn:n=m)(hc:c=m)(hz:enc x0=zs)(h0:m*bytes≤281474976710656)
  (hk:∀b,K (.slice (some ⟨b,0,none⟩) m m) (q0K enc T b (List.replicate m x0)::own)):MkT W0 own T bytes zs n c K:=by
 subst hn;subst hc;refine⟨m,m,rfl,rfl,zu _,h0,fun b _=> ?_⟩;have:=hk b;simp only[q0K,ZR,hz] at this;exact this
theorem stC{T:TypeId}{b j k o:Nat}{C:Own→Own}{x:α}{v:Value}{K:Own→Prop}(x':α)(hw:∀x∈l,(enc x).length=sz)(hx:l[j]? =some x) [m:AtC [q0K enc T b l] own C](ho:o=j*sz+k)(hk0:k<sz)(hv:enc x'=(enc x).set k v)(h1:q2D v=true)
  (hk:K (C [q0K enc T b (l.set j x')])):StT W0 own ⟨b,o,none⟩ v K:=
 stE (a:=some ⟨b,0,none⟩) x' (q80 hw) m.h hx (by simp[ao,ho]) hk0 hv h1 (fun D' hb=>by
  have hne:l.set j x'≠ []:=fun e=>by
   have:=congrArg List.length e;rw[zj] at this;have:=Z9 this;subst this;simp at hx
  have:=qgA hne (by rw[zj];exact hb);subst this;exact hk)
theorem ixC{b n j:Nat}{i:Int}{x:α}{K:Addr→Prop}(hx:l[j]? =some x)(hn:n=l.length)(hi:i=j)(hk:K ⟨b,j*sz,none⟩):IxS (some ⟨b,0,none⟩) sz i n K:=by
 subst hn;subst hi;exact q8m (z7.1 hx).1 (by rw[zD];exact hk)
theorem ldC{T:TypeId}{b j k:Nat}{x:α}{v:Value}{K:Value→Prop}(hw:∀x∈l,(enc x).length=sz)(hx:l[j]? =some x) [m:qy b (fun o=>o=Obj.cells (l.map enc).flatten.toArray T) own](hv:(enc x)[k]? =some v)(hk:K v):Ld W0 own ⟨b,j*sz+k,none⟩ K:=
 q0b v m.h (by rw[zL];exact q2r l hw hx hv) hk
theorem qaB{T:TypeId}{b j:Nat}{x:α}{v:Value}{K:Value→Prop}(hw:∀x∈l,(enc x).length=sz)(hx:l[j]? =some x) [m:qy b (fun o=>o=Obj.cells (l.map enc).flatten.toArray T) own](hv:(enc x)[0]? =some v)(hk:K v):Ld W0 own ⟨b,j*sz,none⟩ K:=ldC (T:=T) (k:=0) hw hx hv hk
theorem q0r{j:Nat}{x:α}{v:Value}{K:Value→Prop}(h:RdE enc sz W0 own' a l)(hx:l[j]? =some x) [m:qv own own'](hv:(enc x)[0]? =some v)(hk:K v):Ld W0 own ⟨ab a,ao a+j*sz,none⟩ K:=ldE (k:=0) (h.ent (m.h W0)) hx rfl hv hk
theorem ql0{j k:Nat}{x:α}{v:Value}{K:Value→Prop}(h:RdE enc sz W0 own' a l)(hx:l[j]? =some x) [m:qv own own'](hv:(enc x)[k]? =some v)(hk:K v):Ld W0 own ⟨ab a,ao a+j*sz+k,none⟩ K:=ldE (k:=k) (h.ent (m.h W0)) hx rfl hv hk
theorem q1h{j n:Nat}{x:α}{K:Array Value→Prop}(h:RdE enc sz W0 own' a l)(hx:l[j]? =some x) [m:qv own own'](hn:n=sz)(hk:K (enc x).toArray):LdN W0 own ⟨ab a,ao a+j*sz,none⟩ n K:=qe3 (h.ent (m.h W0)) hx rfl hn hk
theorem RdE.up(h:RdE enc sz W0 own' a l) [m:qv own own']:RdE enc sz W0 own a l:=h.ent (m.h W0)
theorem q0p{T T2:TypeId}{bytes cap bt:Nat}{zs:List Value}{D:Own}{C:Own→Own}{ys:Array Value}{fz:Nat×Nat}{K:Value→Own→Prop}(x:α)(hB:qu enc T sz a cap l D) [m:AtC D own C] [m2:qy bt (fun o=>o=Obj.cells ys T2 fz) own](hy:ys.toList=enc x)
  (hz:zs.length=sz) (hs:0<sz) (hw:(enc x).length=sz) (h1:(enc x).all q2D=true) (hb:(l.length+1)*bytes≤140737488355328)
  (hk:∀a' cap' D',qu enc T sz a' cap' (l++ [x]) D'→K (.slice a' (l.length+1) cap') (C D')):qb9 W0 own T sz bytes zs a l.length cap (some ⟨bt,0,none⟩) 1 K:=qms x hB m.h m2.h hy hz hs hw h1 hb hk
theorem qht{T:TypeId}{bytes cap m:Nat}{zs:List Value}{D:Own}{C:Own→Own}{a2:Option Addr}{l2:List α}{K:Value→Own→Prop}(hB:qu enc T sz a cap l D)(hx:RdE enc sz W0 own' a2 l2) [mm:AtC D own C] [me:qv own own'](hm:m=l2.length)
  (hz:zs.length=sz) (hs:0<sz) (h1:∀x∈l2,(enc x).all q2D=true) (hb:cap<l.length+l2.length→(l.length+l2.length)*bytes≤140737488355328)
  (hk:∀a' cap' D',qu enc T sz a' cap' (l++l2) D'→K (.slice a' (l.length+l2.length) cap') (C D')):qb9 W0 own T sz bytes zs a l.length cap a2 m K:=q62 hB mm.h (hx.ent (me.h W0)) hm hz hs h1 hb hk
theorem q3o{T:TypeId}{cap j k o:Nat}{D:Own}{C:Own→Own}{x:α}{v:Value}{K:Own→Prop}(x':α)(hB:qu enc T sz a cap l D)(hx:l[j]? =some x) [m:AtC D own C](ho:o=ao a+j*sz+k)(hk0:k<sz)(hv:enc x'=(enc x).set k v)(h1:q2D v=true)
  (hk:∀D',qu enc T sz a cap (l.set j x') D'→K (C D')):StT W0 own ⟨ab a,o,none⟩ v K:=stE x' hB m.h hx ho hk0 hv h1 hk
theorem qlG{T:TypeId}{cap j o n:Nat}{D:Own}{C:Own→Own}{x:α}{vs:List Value}{K:Own→Prop}(x':α)(hB:qu enc T sz a cap l D)(hx:l[j]? =some x) [m:AtC D own C](hn:vs.length=n)(ho:o=ao a+j*sz)(hv:enc x'=vs)(hw:vs.length=sz)(h1:vs.all q2D=true)
  (hk:∀D',qu enc T sz a cap (l.set j x') D'→K (C D')):vs.length=n∧StN W0 own ⟨ab a,o,none⟩ vs K:=⟨hn,qnO x' hB m.h hx ho hv hw h1 hk⟩
theorem RdE.same{l':List α}(h:RdE enc sz W0 own a l)(e:l'.map enc=l.map enc):RdE enc sz W0 own a l':=by
 have hg:∀(j:Nat) x,l'[j]? =some x→∃y,l[j]? =some y∧enc y=enc x:=fun j x hx=>by
  have:=congrArg (fun l=>l[j]?) e;simp only[zI,hx,Zu] at this;obtain⟨y,hy,h⟩:=Zc.1 this.symm;exact⟨y,hy,h⟩
 refine⟨fun hne=>h.isS (fun e2=>hne ?_),fun x hx=> ?_,fun{j k x v} hx hv=> ?_⟩
 ·have:=congrArg List.length e;rw[e2,zk,zk,zM] at this;exact Z9 this
 ·obtain⟨j,hj⟩:=ZY hx;obtain⟨y,hy,he⟩:=hg j x hj;rw[←he];exact h.wid y (zg hy)
 ·obtain⟨y,hy,he⟩:=hg j x hx;rw[←he] at hv;exact h.cell hy hv
end
theorem q92.mono{P:Program}{W0:World}{own:Own}{l:Nat}{args:List Value}{R K:Value→Own→Prop}(h:q92 P W0 own l args R)(hk:∀v own',R v own'→K v own'):q92 P W0 own l args K:=
 ⟨fun w hw=>by
  obtain⟨k,t,a,b,h1,h2⟩:=h.h w hw;exact⟨k,t,a,b,h1,h2.mono fun _ _ ⟨v,own',he,hs,hr⟩=>⟨v,own',he,hs,hk _ _ hr⟩⟩⟩
open Go
section
variable{c b:Bool}{Ky Kn:Prop}{p:Prop}{i:Decidable p}
theorem q8U(e:c=b)(h:Ky):q2f c b Ky Kn:=by subst e;exact qQ h
theorem qdT(e:c= !b)(h:Kn):q2f c b Ky Kn:=⟨fun h2=>(by rw[h2] at e;cases b <;>cases e),fun _=>h⟩
theorem qk4(e:c=true)(h:Ky):Br c Ky Kn:=by subst e;exact q2B h
theorem qbq(e:c=false)(h:Kn):Br c Ky Kn:=by subst e;exact q3u h
theorem q53(e:c= @decide p i)(hb:b=true)(hy:p→Ky)(hn:¬p→Kn):q2f c b Ky Kn:=by subst e;subst hb;exact q6L hy hn
theorem q6K(e:c= @decide p i)(hb:b=false)(hn:¬p→Ky)(hy:p→Kn):q2f c b Ky Kn:=by subst e;subst hb;exact q1p hn hy
theorem qee(e:c= @decide p i)(hy:p→Ky)(hn:¬p→Kn):Br c Ky Kn:=by subst e;exact q54 hy hn
theorem qk3(e:c= @decide p i)(hp:p)(h:Ky):Br c Ky Kn:=by subst e;exact q14 hp h
theorem qk2(e:c= @decide p i)(hp:¬p)(h:Kn):Br c Ky Kn:=by subst e;exact q1H hp h
theorem qbt(e:c= !@decide p i)(hp:p)(h:Kn):Br c Ky Kn:=by subst e;exact q96 hp h
theorem qbs(e:c= !@decide p i)(hp:¬p)(h:Ky):Br c Ky Kn:=by subst e;exact qbr hp h
theorem qgn(e:c= @decide p i)(hp:p)(h:q2f true b Ky Kn):q2f c b Ky Kn:=by subst e;exact q6M hp h
theorem qgm(e:c= @decide p i)(hp:¬p)(h:q2f false b Ky Kn):q2f c b Ky Kn:=by subst e;exact q2W hp h
theorem fA{W0:World}{own:Own}{b off:Nat}{cs:Array Value}{T:TypeId}{fz:Nat×Nat}{v:Value}{K:Value→Prop}[m:qy b (fun o=>o=Obj.cells cs T fz) own](h:K v)(hv:cs.toList[off]?=some v:=by exact rfl):Ld W0 own ⟨b,off,none⟩ K:=qnH hv h
theorem fB{e:Int}{K:Int→Prop}(h:K e)(h1:-9223372036854775808≤e∧e≤9223372036854775807:=by omega):q58 .i64 e K:=ari h1 h
theorem fC{e:Int}{K:Int→Prop}(h:K e)(h1:0≤e∧e≤18446744073709551615:=by omega):q58 .u64 e K:=aru h1 h
theorem fD{c:Bool}{Ky Kn:Prop}(h:Kn)(e:c=false:=by exact rfl):Br c Ky Kn:=qbq e h
theorem fE{c:Bool}{Ky Kn:Prop}(h:Ky)(e:c=true:=by exact rfl):Br c Ky Kn:=qk4 e h
theorem fF{c:Bool}{Ky Kn p:Prop}{i:Decidable p}(h:Ky)(e:c=@decide p i:=by exact rfl)(hp:p:=by omega):Br c Ky Kn:=qk3 e hp h
theorem fG{c:Bool}{Ky Kn p:Prop}{i:Decidable p}(h:Kn)(e:c=@decide p i:=by exact rfl)(hp:¬p:=by omega):Br c Ky Kn:=qk2 e hp h
theorem fH{c b:Bool}{Ky Kn:Prop}(h:Ky)(e:c=b:=by exact rfl):q2f c b Ky Kn:=q8U e h
theorem fI{c b:Bool}{Ky Kn:Prop}(h:Kn)(e:c= !b:=by exact rfl):q2f c b Ky Kn:=qdT e h
theorem fJ{c b:Bool}{Ky Kn p:Prop}{i:Decidable p}(h:q2f true b Ky Kn)(e:c=@decide p i:=by exact rfl)(hp:p:=by omega):q2f c b Ky Kn:=qgn e hp h
theorem fK{c b:Bool}{Ky Kn p:Prop}{i:Decidable p}(h:q2f false b Ky Kn)(e:c=@decide p i:=by exact rfl)(hp:¬p:=by omega):q2f c b Ky Kn:=qgm e hp h
theorem fL{W0:World}{own:Own}{b n:Nat}{cs:Array Value}{T:TypeId}{fz:Nat×Nat}{K:Array Value→Prop}[m:qy b (fun o=>o=Obj.cells cs T fz) own](h:K cs)(hl:cs.toList.length=n:=by exact rfl):LdN W0 own ⟨b,0,none⟩ n K:=qmE hl h
theorem fM{W0:World}{own:Own}{b off n:Nat}{cs:Array Value}{T:TypeId}{vs:List Value}{K:Own→Prop}{C:(Obj→Prop)→Own}[m:UpC b (fun o=>o=Obj.cells cs T (0,0)) own C](h:K (C fun o=>o=Obj.cells (cs.toList.take off++vs++cs.toList.drop (off+n)).toArray T (0,0)))(hn:vs.length=n:=by exact rfl)(hoff:Nat.ble (off+n) cs.toList.length=true:=by exact rfl)(h1:vs.all q2D=true:=by exact rfl):vs.length=n∧StN W0 own ⟨b,off,none⟩ vs K:=qgb hn hoff h1 h
theorem fN{W0:World}{own:Own}{b off:Nat}{cs:Array Value}{T:TypeId}{v:Value}{K:Own→Prop}{C:(Obj→Prop)→Own}[m:UpC b (fun o=>o=Obj.cells cs T (0,0)) own C](h:K (C fun o=>o=Obj.cells (cs.toList.set off v).toArray T (0,0)))(hoff:Nat.ble (off+1) cs.toList.length=true:=by exact rfl)(h1:q2D v=true:=by exact rfl):StT W0 own ⟨b,off,none⟩ v K:=qjO hoff h1 h
theorem fO{o:Option Value}{K:Value→Prop}{v:Value}(h:K v)(hv:o=some v:=by exact rfl):Sel o K:=sel v hv h
theorem fP{i:Int}{n:Nat}{K:Nat→Prop}(h:K i.toNat)(h1:0≤i∧i<n:=by omega):Idx i n K:=ixn h1 h
theorem fQ{W0:World}{own:Own}{b off n:Nat}{cs:Array Value}{T:TypeId}{fz:Nat×Nat}{K:Array Value→Prop}{vs:List Value}[m:qy b (fun o=>o=Obj.cells cs T fz) own](h:K vs.toArray)(hv:(cs.toList.drop off).take n=vs:=by exact rfl)(hl:vs.length=n:=by exact rfl):LdN W0 own ⟨b,off,none⟩ n K:=qmF hv hl h
theorem qdU(e:c= !@decide p i)(hp:p)(h:q2f false b Ky Kn):q2f c b Ky Kn:=by subst e;exact qgl hp h
theorem q7N(e:c= !@decide p i)(hp:¬p)(h:q2f true b Ky Kn):q2f c b Ky Kn:=by subst e;exact qgk hp h
end
structure Stop(p:Prop):Prop where
 h:p
section
variable{P:Program}{W0:World}{own:Own}{k k0:FuncId}{args args0:List Value}{v:Value}
theorem qhx{K:Value→Own→Prop}(h:qE P W0 k0 args0 own v)(ek:k=k0)(ea:args=args0)(hk:K v own):q0w P W0 own k args K:=by
 subst ek;subst ea;exact qp h hk
theorem qd{K:Value→Own→Prop}(h:qE P W0 k0 args0 own v)(hk:K v own)(ek:k=k0:=by exact rfl)(ea:args=args0:=by exact rfl):q0w P W0 own k args K:=qhx h ek ea hk
theorem qhA{K:Value→Prop}(h:∀own',qE P W0 k0 args0 own' v)(ek:k=k0)(ea:args=args0)(hk:K v):q59 P W0 own k args K:=by
 subst ek;subst ea;exact q5v h hk
theorem q0A{K:Value→Prop}(h:∀own',qE P W0 k0 args0 own' v)(hk:K v)(ek:k=k0:=by exact rfl)(ea:args=args0:=by exact rfl):q59 P W0 own k args K:=qhA h ek ea hk
theorem qhz{K:Value→Prop}(h:∀ex:Own,qE P W0 k0 args0 (ex++own) v)(ek:k=k0)(ea:args=args0)(hk:K v):q59 P W0 own k args K:=by
 subst ek;subst ea;exact qhy h hk
theorem qj{K:Value→Prop}(h:∀ex:Own,qE P W0 k0 args0 (ex++own) v)(hk:K v)(ek:k=k0:=by exact rfl)(ea:args=args0:=by exact rfl):q59 P W0 own k args K:=qhz h ek ea hk
theorem q99{σ:Type}{R:σ→Value→Prop}{O:σ→Own}{K:Value→Own→Prop}(h:qt P W0 k0 args0 own fun v own'=>∃s,R s v∧Ent W0 own' (O s))(ek:k=k0)(ea:args=args0)(hk:∀s v,R s v→K v (O s)):q0w P W0 own k args K:=by
 subst ek;subst ea;exact⟨fun w hw=>(h w hw).mono fun _ _ ⟨_,_,he,hs,s,hR,hE⟩=>⟨_,O s,he,hE _ hs,hk s _ hR⟩⟩
theorem qi{σ:Type}{R:σ→Value→Prop}{O:σ→Own}{K:Value→Own→Prop}(h:qt P W0 k0 args0 own fun v own'=>∃s,R s v∧Ent W0 own' (O s))(hk:∀s v,R s v→K v (O s))(ek:k=k0:=by exact rfl)(ea:args=args0:=by exact rfl):q0w P W0 own k args K:=q99 h ek ea hk
end
open Go
class q1r(b:Nat)(p:outParam (Obj→Prop))(own:Own)(r:outParam Own):Prop where
 h:own.Perm ((b,p)::r)
section
variable{b:Nat}{p:Obj→Prop}{e:Nat×(Obj→Prop)}{A r r':Own}
instance q1r.left [m:q1r b p A r']:q1r b p (A++r) (r'++r):=⟨m.h.append_right r⟩
instance q1r.right [m:q1r b p r r']:q1r b p (A++r) (A++r'):=⟨(m.h.append_left A).trans Zb⟩
instance q1r.tail [m:q1r b p r r']:q1r b p (e::r) (e::r'):=⟨(m.h.cons e).trans (List.Perm.swap _ _ _)⟩
instance q1r.head:q1r b p ((b,p)::r) r:=⟨List.Perm.refl _⟩
end
class qaj(ks:List Nat)(own:Own)(r:outParam Own):Prop where
 h:own.Perm r
instance qaj.nil{own:Own}:qaj [] own own:=⟨List.Perm.refl _⟩
instance qaj.cons{b:Nat}{ks:List Nat}{p:Obj→Prop}{own r r':Own} [m:q1r b p own r] [k:qaj ks r r']:qaj (b::ks) own ((b,p)::r'):=⟨m.h.trans (k.h.cons _)⟩
theorem q9j{W0:World}{own r T:Own}{b0 b1 b2 b3:Nat}{p0 p1 p2 p3:Obj→Prop} [m:qaj [b0,b1,b2,b3] own r](h:r=(b0,p0)::(b1,p1)::(b2,p2)::(b3,p3)::T):Ent W0 own ((b0,p0)::(b1,p1)::(b2,p2)::(b3,p3)::T):=h ▸ Ent.of_perm m.h
section
variable{α:Type}{enc:α→List Value}{sz:Nat}{W0:World}{own:Own}{a:Option Addr}{l:List α}
theorem qmu{T:TypeId}{bytes cap m:Nat}{zs:List Value}{D:Own}{C:Own→Own}{a2:Option Addr}{l2:List α}{K:Value→Own→Prop}(hB:qu enc T sz a cap l D)(hat:At D own C)(hx:RdE enc sz W0 own a2 l2)(hm:m=l2.length)
  (hs:0<sz) (h1:∀x∈l2,(enc x).all q2D=true) (hroom:l.length+l2.length≤cap)
  (hk:∀D',qu enc T sz a cap (l++l2) D'→K (.slice a (l.length+l2.length) cap) (C D')):qb9 W0 own T sz bytes zs a l.length cap a2 m K:=by
 subst hm;have hrd:RdE enc sz W0 own a l:=(hB.rd (W0:=W0)).ent hat.self;have holds:∀{a:Option Addr} {l:List α},RdE enc sz W0 own a l→Kn W0 own (Holds a (l.map enc).flatten):=fun{a l} h w hw ad had j v hj=>by
  have hlt:=(z7.1 hj).1;rw[q06 l h.wid] at hlt;have hj1:j/sz<l.length:=Nat.div_lt_of_lt_mul (by rwa[Nat.mul_comm]);have hj2:j % sz<sz:=ya _ hs;have hx':l[j/sz]? =some l[j/sz]:=z6 hj1;have hwd:=h.wid _ (zg hx');have hv':(enc l[j/sz])[j % sz]? =some (enc l[j/sz])[j % sz]:=z6 Y6;have he:j/sz*sz+j % sz=j:=Nat.div_add_mod' j sz;have hf:=q2r l h.wid hx' hv';rw[he,hj] at hf;have hS:=h.isS (fun e=>by subst e;simp at hj1);rw[hS] at had;have had:=Option.some.inj had;rw[←had,qO];have hc:=h.cell hx' hv' w hw;have e2:ao a+j/sz*sz+j % sz=ao a+j:=Y6;rw[e2] at hc;rw[hc,hf]
 have wid2:∀x∈l++l2,(enc x).length=sz:=fun x h=>(zz.1 h).elim (hB.wid x) (hx.wid x)
 refine⟨(l.map enc).flatten,(l2.map enc).flatten,q06 l hB.wid,q06 l2 hx.wid,fun e=> ?_,fun e=> ?_,fun v hv=> ?_,holds hrd,holds hx,fun hfit=> ?_,fun hgr=>absurd hgr Y6⟩
 ·cases l with
  |nil=>rfl
  |cons x r=>have:=hrd.isS Y8;rw[e] at this;cases this
 ·cases l2 with
  |nil=>rfl
  |cons x r=>have:=hx.isS Y8;rw[e] at this;cases this
 ·obtain⟨cs,hcs,hv⟩:=List.mem_flatten.1 hv;obtain⟨x,hx',rfl⟩:=zK.1 hcs;exact Z7.1 (h1 x hx') v hv
 ·rcases hB.how with ⟨rfl,rfl,rfl⟩|⟨b,rest,rfl,rfl,hl,hle⟩
  ·have h2:l2= []:=by cases l2 with|nil=>rfl|cons x r=>simp at hfit
   subst h2;have hC:=hat.same;refine⟨own,fun w hw=>⟨fun ad _=>⟨fun j hj=>by simp at hj,by simpa [q4J] using hw⟩,fun _=>hw⟩,?_⟩;have:=hk [] qu.nil;rw[hC] at this;exact this
  ·have hfl:=q06 l hB.wid;have hfl2:=q06 l2 hx.wid;have hsz:(l.length+l2.length)*sz≤cap*sz:=ZK _ hfit;rw[yz] at hsz;refine⟨C [(b,fun o=>o=Obj.cells (((l++l2).map enc).flatten++rest.drop (l2.length*sz)).toArray T)],fun w hw=>⟨fun ad had=> ?_,fun e=>by cases e⟩,hk _ ⟨wid2, .inr ⟨b,rest.drop (l2.length*sz),rfl,rfl,?_,by simpa using hfit⟩⟩⟩
   ·have had:=Option.some.inj had;subst had;have hnew:((l.map enc).flatten++rest).take (l.length*sz)++(l2.map enc).flatten++((l.map enc).flatten++rest).drop (l.length*sz+(l2.map enc).flatten.length)=((l++l2).map enc).flatten++rest.drop (l2.length*sz):=by
     rw[hfl2,ZL Y6,yb Y6,yK,ZA Y6,zi,hfl,Zn,zH,zY]
    have hu:=hat.up (q:=fun o=>o=Obj.cells (((l.map enc).flatten++rest).take (l.length*sz)++(l2.map enc).flatten++((l.map enc).flatten++rest).drop (l.length*sz+(l2.map enc).flatten.length)).toArray T);have hr:=q4K (vs:=(l2.map enc).flatten) (off:=l.length*sz) hw hu (by rw[z8,hfl,hfl2];omega);rw[hnew] at hr;rw[qO,zD];refine⟨fun j hj=> ?_,hr.2⟩;rw[qO];exact hr.1 j hj
   ·simp only[z8,ZJ,yz];omega
theorem qjZ{own':Own}{T:TypeId}{bytes cap m:Nat}{zs:List Value}{D:Own}{C:Own→Own}{a2:Option Addr}{l2:List α}{K:Value→Own→Prop}(hB:qu enc T sz a cap l D)(hx:RdE enc sz W0 own' a2 l2) [mm:AtC D own C] [me:qv own own'](hm:m=l2.length)
  (hs:0<sz) (h1:∀x∈l2,(enc x).all q2D=true) (hroom:l.length+l2.length≤cap)
  (hk:∀D',qu enc T sz a cap (l++l2) D'→K (.slice a (l.length+l2.length) cap) (C D')):qb9 W0 own T sz bytes zs a l.length cap a2 m K:=qmu hB mm.h (hx.ent (me.h W0)) hm hs h1 hroom hk
end
section
variable{W0:World}{own own':Own}
abbrev Cl(W0:World)(own:Own)(b o:Nat)(v:Value):Prop:=Kn W0 own fun w=>w.cell? ⟨b,o,none⟩=some v
theorem ldK{b o:Nat}{v:Value}{K:Value→Prop}(h:Cl W0 own' b o v) [m:qv own own'](hk:K v):Ld W0 own ⟨b,o,none⟩ K:=ql1 (h.ent (m.h W0)) hk
theorem q0d{b o:Nat}{v:Value}{K:Value→Prop}(h:Cl W0 own' b o v) [m:qv own own'](hk:K v):Ld W0 own ⟨b,0+o,none⟩ K:=by rw[zD];exact ldK h hk
end
open Go
structure EH where
 ev:Int
 t:Int
 k:Int
 w:Int
 ra:Option Addr
 rl:List Int
 rc:Nat
 wa:Option Addr
 wl:List Int
 wc:Nat
abbrev EH.enc(e:EH):List Value:= [.int .i64 e.ev, .int .i64 e.t, .int .i64 e.k, .int .i64 e.w, .slice e.ra e.rl.length e.rc, .slice e.wa e.wl.length e.wc]
abbrev EH.v(e:EH):Value:= .agg #[.int .i64 e.ev, .int .i64 e.t, .int .i64 e.k, .int .i64 e.w, .slice e.ra e.rl.length e.rc, .slice e.wa e.wl.length e.wc]
def inW(x:Int):Bool:=decide (0≤x∧x<64)
def q17(n:Nat)(first:Bool)(pa last:Int)(e:EH):Bool:=
 decide (0≤e.t∧e.t<n∧1≤e.k∧e.k≤4∧(first=true∨pa≤e.ev)∧0≤e.w∧e.w<64)&&e.rl.all inW&&e.wl.all inW&&(if e.k=4 then decide (last=3) else decide (e.rl= []∧e.wl= []))
def qhE(n:Nat):List EH→Nat→Int→List Int→Int×Int
 | [],_,_,_=>(0,0)
 |e::l,i,pa,last=>if q17 n (i==0) pa (last.getD e.t.toNat 0) e then qhE n l (i+1) e.ev (last.set e.t.toNat e.k) else(i,91)
def q9b(l:List EH)(n:Int):Int×Int:=if n<1∨16<n then(0,54) else if 65536<l.length then(0,3) else qhE n.toNat l 0 0 (List.replicate n.toNat 0)
def eh0:EH:=⟨0,0,0,0,none,[],0,none,[],0⟩
abbrev at'(l:List EH)(i:Nat):EH:=l.getD i eh0
abbrev thr(l:List EH)(i:Nat):Int:=(at' l i).t
abbrev knd(l:List EH)(i:Nat):Int:=(at' l i).k
def qcr(l:List EH)(i p:Nat):Prop:=p<i∧thr l p=thr l i∧∀q,p<q→q<i→thr l q≠thr l i
structure Wf(l:List EH)(n:Nat):Prop where
 kd:∀i,i<l.length→1≤knd l i∧knd l i≤4∧0≤thr l i∧thr l i<n∧inW (at' l i).w=true∧(at' l i).rl.all inW=true∧(at' l i).wl.all inW=true
 en:∀i,i<l.length→knd l i=4→∃p,qcr l i p∧knd l p=3
 pl:∀i,i<l.length→knd l i≠4→(at' l i).rl= []∧(at' l i).wl= []
def q84(l:List EH)(i:Nat):Prop:=i<l.length∧(knd l i≠3∨∃e,e<l.length∧qcr l e i∧knd l e=4)
def q1Q(l:List EH)(i:Nat):Prop:=knd l i=1∨knd l i=2
def HB(l:List EH)(i j:Nat):Prop:=i<j∧q84 l i∧q84 l j∧
 (thr l i=thr l j∨(q1Q l j∧∃e f,i≤e∧e<f∧f<j∧knd l e=4∧knd l f=4∧thr l e=thr l i∧thr l f=thr l j)∨(¬q1Q l j∧∃e,i≤e∧e<j∧knd l e=4∧thr l e=thr l i))
def DI(l:List EH)(i j:Nat):Prop:=i<j∧q84 l i∧q84 l j∧(thr l i=thr l j∨(knd l i=4∧(knd l j=4∨knd l j=3)))
theorem qkY{l:List EH}{n:Nat}(h:Wf l n){i:Nat}(hi:i<l.length):knd l i=1∨knd l i=2∨knd l i=3∨knd l i=4:=by
 have:=h.kd i hi;omega
theorem DI.hb{l:List EH}{i j:Nat}(d:DI l i j):HB l i j:=by
 obtain⟨h1,h2,h3,h4⟩:=d;refine⟨h1,h2,h3,?_⟩
 rcases h4 with h4|⟨h4,h5⟩
 ·exact .inl h4
 ·refine .inr (.inr ⟨?_,i,zu i,h1,h4,rfl⟩);unfold q1Q;omega
theorem qkj{l:List EH}{i j:Nat}(hc:q84 l i)(h3:knd l i=3)(hij:i<j)(ht:thr l i=thr l j):∃f,i<f∧f≤j∧knd l f=4∧thr l f=thr l j:=by
 obtain⟨_,h|⟨e,he,⟨hp1,hp2,hp3⟩,hk⟩⟩:=hc
 ·exact absurd h3 h
 ·refine⟨e,hp1,?_,hk,by rw[←hp2,ht]⟩
  by_cases hle:e≤j
  ·exact hle
  ·exact absurd (by rw[←hp2,ht]) (hp3 j hij Y6)
theorem HB.trans{l:List EH}{n:Nat}(h:Wf l n){i j k:Nat}(a:HB l i j)(b:HB l j k):HB l i k:=by
 obtain⟨h1,h2,h3,h4⟩:=a;obtain⟨g1,g2,g3,g4⟩:=b;refine⟨Y6,h2,g3,?_⟩
 by_cases hik:thr l i=thr l k
 ·exact .inl hik
 ·right
  --an end of i's thread,from i on,ahead of k;and,if k is plain,an end of k's thread behind it
  have key:(∃e,i≤e∧e<k∧knd l e=4∧thr l e=thr l i∧(q1Q l k→∃f,e<f∧f<k∧knd l f=4∧thr l f=thr l k)):=by
   rcases g4 with g4|⟨gp,e,f,he1,he2,he3,he4,he5,he6,he7⟩|⟨gp,e,he1,he2,he3,he4⟩
   · --j and k of one thread
    rcases h4 with h4|⟨hp,e,f,he1,he2,he3,he4,he5,he6,he7⟩|⟨hp,e,he1,he2,he3,he4⟩
    ·exact absurd (h4.trans g4) hik
    ·exact⟨e,he1,Y6,he4,he6,fun _=>⟨f,he2,Y6,he5,he7.trans g4⟩⟩
    ·refine⟨e,he1,Y6,he3,he4,fun hpk=> ?_⟩;have hj3:=qkY h h3.1;unfold q1Q at hp
     by_cases hj4:knd l j=4
     ·exact⟨j,he2,g1,hj4,g4⟩
     ·obtain⟨f,hf1,hf2,hf3,hf4⟩:=qkj h3 Y6 g1 g4;refine⟨f,Y6,?_,hf3,hf4⟩
      by_cases hfk:f=k
      ·subst hfk;unfold q1Q at hpk;omega
      ·omega
   · --k plain,another thread than j
    rcases h4 with h4|⟨hp,e',f',he1',he2',he3',he4',he5',he6',he7'⟩|⟨hp,e',he1',he2',he3',he4'⟩
    ·exact⟨e,Y6,Y6,he4,he6.trans h4.symm,fun _=>⟨f,he2,he3,he5,he7⟩⟩
    ·exact⟨e',he1',Y6,he4',he6',fun _=>⟨f,Y6,he3,he5,he7⟩⟩
    ·exact⟨e',he1',Y6,he3',he4',fun _=>⟨f,Y6,he3,he5,he7⟩⟩
   ·rcases h4 with h4|⟨hp,e',f',he1',he2',he3',he4',he5',he6',he7'⟩|⟨hp,e',he1',he2',he3',he4'⟩
    ·exact⟨e,Y6,Y6,he3,he4.trans h4.symm,fun h=>absurd h gp⟩
    ·exact⟨e',he1',Y6,he4',he6',fun h=>absurd h gp⟩
    ·exact⟨e',he1',Y6,he3',he4',fun h=>absurd h gp⟩
  obtain⟨e,he1,he2,he3,he4,he5⟩:=key
  by_cases hp:q1Q l k
  ·obtain⟨f,hf1,hf2,hf3,hf4⟩:=he5 hp;exact .inl ⟨hp,e,f,he1,hf1,hf2,he3,hf3,he4,hf4⟩
  ·exact .inr ⟨hp,e,he1,he2,he3,he4⟩
theorem q85{l:List EH}{e:Nat}(he:e<l.length)(h4:knd l e=4):q84 l e:=⟨he, .inl Y6⟩
theorem HB.of{l:List EH}{n:Nat}(h:Wf l n){R:Nat→Nat→Prop}(hd:∀i j,DI l i j→R i j)(hs:∀i e j,knd l e=4→i<e→e<j→R i e→R e j→R i j){i j:Nat}(b:HB l i j):R i j:=by
 obtain⟨h1,h2,h3,h4⟩:=b;have hjl:=h3.1
 rcases h4 with h4|⟨hp,e,f,he1,he2,he3,he4,he5,he6,he7⟩|⟨hp,e,he1,he2,he3,he4⟩
 ·exact hd i j ⟨h1,h2,h3, .inl h4⟩
 ·have ce:=q85 (by omega:e<l.length) he4;have cf:=q85 (by omega:f<l.length) he5;have r1:R e f:=hd e f ⟨he2,ce,cf, .inr ⟨he4, .inl he5⟩⟩;have r2:R f j:=hd f j ⟨he3,cf,h3, .inl he7⟩;have r3:R e j:=hs e f j he5 he2 he3 r1 r2
  by_cases hie:i=e
  ·subst hie;exact r3
  ·exact hs i e j he4 Y6 Y6 (hd i e ⟨Y6,h2,ce, .inl he6.symm⟩) r3
 ·have ce:=q85 (by omega:e<l.length) he3;have hj:=qkY h hjl;unfold q1Q at hp;have r1:R e j:=hd e j ⟨he2,ce,h3, .inr ⟨he3,Y6⟩⟩
  by_cases hie:i=e
  ·subst hie;exact r1
  ·exact hs i e j he3 Y6 he2 (hd i e ⟨Y6,h2,ce, .inl he4.symm⟩) r1
end Go.Proofs.YtbhbldllneadeaaGreatDoor
