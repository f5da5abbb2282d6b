/- What the laws share, part 6. No condition. -/
import Derived.RangeFuncFrom
import Derived.RangeFuncLeaves
import Derived.Test.YtkieffpjjfebjaaGreatDoorZ5
set_option maxRecDepth 10000
namespace Go.Proofs.YtkieffpjjfebjaaGreatDoor
open Go Go.RowKit
theorem St.put{W0:World}{own own':Own}{w:World}{b:Nat}{p q:Obj→Prop}(s:St W0 own w)(hu:Up b p q own own')(o:Obj)(hq:q o):St W0 own' (w.putObj b o):=by
 have hb:=s.mem_size hu.mem
 exact s.up hu rfl rfl rfl (by simp[World.putObj]) (fun k _ hne=>World.putObj_heap_other (fun e=>hne e)) ⟨o,World.putObj_heap_same hb,hq⟩
theorem St.new{W0:World}{own:Own}{w:World}(s:St W0 own w)(o:Obj){p:Obj→Prop}(hp:p o):St W0 ((w.heap.size,p)::own) (w.alloc o):=s.push o hp
inductive IT
 |code (c:IC)
 |seq (a:IC) (r:IT)
 |rng (g:Operand) (ps:List Nat) (as bd rest:IC)
 |cut (a:IC) (r:IT)
theorem At.drop{W0:World}{D own:Own}{C:Own→Own}(h:At D own C){e:Nat×(Obj→Prop)}:Ent W0 (C [e]) (C []):=by
 obtain⟨r,_,h2⟩:=h.perm
 exact(Ent.of_perm (h2 [e])).trans ((Ent.cons Ent.refl).trans (Ent.of_perm (h2 []).symm))
open Go
class q3X(b:Nat)(p:outParam (Obj→Prop))(own:Own):Prop where
 h:(b,p)∈own
section
variable{b:Nat}{p:Obj→Prop}{e:Nat×(Obj→Prop)}{A r:Own}
instance q3X.left [m:q3X b p A]:q3X b p (A++r):=⟨List.mem_append_left _ m.h⟩
instance q3X.right [m:q3X b p r]:q3X b p (A++r):=⟨List.mem_append_right _ m.h⟩
instance q3X.tail [m:q3X b p r]:q3X b p (e::r):=⟨List.mem_cons_of_mem _ m.h⟩
instance q3X.head:q3X b p ((b,p)::r):=⟨List.mem_cons_self⟩
end
theorem Up.appl{b:Nat}{p q:Obj→Prop}{A A' r:Own}(h:Up b p q A A'):Up b p q (A++r) (A'++r):=by
 induction h with
 |head=>exact Up.head
 |tail _ ih=>exact Up.tail ih
class UpC(b:Nat)(p:outParam (Obj→Prop))(own:Own)(C:outParam ((Obj→Prop)→Own)):Prop where
 h:∀q,Up b p q own (C q)
section
variable{b:Nat}{p:Obj→Prop}{e:Nat×(Obj→Prop)}{A r:Own}{C:(Obj→Prop)→Own}
instance UpC.left [m:UpC b p A C]:UpC b p (A++r) (fun q=>C q++r):=⟨fun q=>(m.h q).appl⟩
instance UpC.right [m:UpC b p r C]:UpC b p (A++r) (fun q=>A++C q):=⟨fun q=>(m.h q).app A⟩
instance UpC.tail [m:UpC b p r C]:UpC b p (e::r) (fun q=>e::C q):=⟨fun q=>Up.tail (m.h q)⟩
instance UpC.head:UpC b p ((b,p)::r) (fun q=>(b,q)::r):=⟨fun _=>Up.head⟩
end
theorem At.left{D A r:Own}{C:Own→Own}(h:At D A C):At D (A++r) (fun X=>C X++r):=by
 induction h with
 | @head r0=>
  have:=At.head (D:=D) (r:=r0++r)
  simpa only[List.append_assoc] using this
 |tail _ ih=>exact At.tail ih
 | @skip A r0 C _ ih=>
  have:=At.skip (A:=A) ih
  simpa only[List.append_assoc] using this
class AtC(D own:Own)(C:outParam (Own→Own)):Prop where
 h:At D own C
section
variable{D A r:Own}{e:Nat×(Obj→Prop)}{C:Own→Own}
instance AtC.left [m:AtC D A C]:AtC D (A++r) (fun X=>C X++r):=⟨m.h.left⟩
instance AtC.skip [m:AtC D r C]:AtC D (A++r) (fun X=>A++C X):=⟨At.skip m.h⟩
instance AtC.tail [m:AtC D r C]:AtC D (e::r) (fun X=>e::C X):=⟨At.tail m.h⟩
instance AtC.one:AtC [e] (e::r) (fun X=>X++r):=⟨At.head (D:= [e])⟩
instance AtC.head:AtC D (D++r) (fun X=>X++r):=⟨At.head⟩
end
class qt(own own':Own):Prop where
 h:∀W0,Ent W0 own own'
section
variable{A D r own own':Own}{e:Nat×(Obj→Prop)}
instance qt.nil:qt own []:=⟨fun _=>Ent.none⟩
instance qt.appl [m:qt A own']:qt (A++r) own':=⟨fun W=>Ent.left.trans (m.h W)⟩
instance qt.app [m:qt r own']:qt (A++r) own':=⟨fun W=>Ent.app (m.h W)⟩
instance qt.cons [m:qt own own']:qt (e::own) own':=⟨fun W=>Ent.cons (m.h W)⟩
instance qt.left:qt (D++r) D:=⟨fun _=>Ent.left⟩
instance qt.refl:qt own own:=⟨fun _=>Ent.refl⟩
end
section
variable{W0:World}{own own':Own}
theorem qhh [m:qt own own']:Ent W0 own own':=m.h W0
theorem eC{p:Prop}(h:p:=by first|exact qhh|(exact eB)):p:=h
theorem qlz{b off:Nat}{cs:Array Value}{T:TypeId}{fz:Nat×Nat}{v:Value}{K:Value→Prop} [m:q3X b (fun o=>o=Obj.cells cs T fz) own](hv:cs.toList[off]? =some v)(h:K v):Ld W0 own ⟨b,off,none⟩ K:=qH v m.h hv h
theorem qkH{b n:Nat}{cs:Array Value}{T:TypeId}{fz:Nat×Nat}{K:Array Value→Prop} [m:q3X b (fun o=>o=Obj.cells cs T fz) own](hl:cs.toList.length=n)(h:K cs):LdN W0 own ⟨b,0,none⟩ n K:=qX m.h hl h
theorem qkI{b off n:Nat}{cs:Array Value}{T:TypeId}{fz:Nat×Nat}{K:Array Value→Prop}{vs:List Value} [m:q3X b (fun o=>o=Obj.cells cs T fz) own](hv:(cs.toList.drop off).take n=vs)(hl:vs.length=n)(h:K vs.toArray):LdN W0 own ⟨b,off,none⟩ n K:=q3y vs m.h hv hl h
theorem qjY{b off:Nat}{cs:Array Value}{T:TypeId}{v:Value}{K:Own→Prop}{C:(Obj→Prop)→Own} [m:UpC b (fun o=>o=Obj.cells cs T (0,0)) own C](hoff:Nat.ble (off+1) cs.toList.length=true)(h1:q4A v=true)
  (h:K (C fun o=>o=Obj.cells (cs.toList.set off v).toArray T (0,0))):StT W0 own ⟨b,off,none⟩ v K:=by
 have hu:=m.h (fun o=>o=Obj.cells (cs.toList.set off v).toArray T (0,0))
 have hoff':off<cs.toList.length:=Nat.le_of_ble_eq_true hoff
 refine⟨h1,_,fun w hw=> ?_,h⟩
 obtain⟨o,ho,rfl⟩:=hw.owns _ hu.mem
 have hoff2:off<cs.size:=by simpa using hoff'
 refine⟨by simp[World.cell?,ho,hoff2],by simp[World.frozen?,ho],hw.up hu rfl rfl rfl (by simp[World.setCell]) (fun k _ hne=> ?_) ⟨_,?_,rfl⟩⟩
 ·rw[q0F,if_neg (fun e=>hne e.symm)]
 ·rw[q0F,if_pos rfl,ho]
  simp only[Option.map_some,Option.isSome_none,Bool.false_eq_true,if_false]
  congr 2
  rw[←Array.toList_inj]
  simp
theorem qfT{b off n:Nat}{cs:Array Value}{T:TypeId}{vs:List Value}{K:Own→Prop}{C:(Obj→Prop)→Own} [m:UpC b (fun o=>o=Obj.cells cs T (0,0)) own C](hn:vs.length=n)(hoff:Nat.ble (off+n) cs.toList.length=true)(h1:vs.all q4A=true)
  (h:K (C fun o=>o=Obj.cells (cs.toList.take off++vs++cs.toList.drop (off+n)).toArray T (0,0))):vs.length=n∧StN W0 own ⟨b,off,none⟩ vs K:=by
 subst hn
 have hu:=m.h (fun o=>o=Obj.cells (cs.toList.take off++vs++cs.toList.drop (off+vs.length)).toArray T (0,0))
 have hoff':off+vs.length≤cs.toList.length:=Nat.le_of_ble_eq_true hoff
 refine⟨rfl,by simpa using h1,_,fun w hw=> ?_,h⟩
 have:=q79 (cs:=cs.toList) (vs:=vs) hw hu hoff'
 refine⟨fun j hj=> ?_,this.2⟩
 rw[qI]
 exact this.1 j hj
end
section
variable{α:Type}{enc:α→List Value}{sz:Nat}{W0:World}{own own':Own}{l:List α}{a:Option Addr}
abbrev q2J(enc:α→List Value)(T:TypeId)(b:Nat)(l:List α):Nat×(Obj→Prop):=(b,fun o=>o=Obj.cells (l.map enc).flatten.toArray T)
theorem q8q{T:TypeId}{b:Nat}(hw:∀x∈l,(enc x).length=sz):qr enc T sz (some ⟨b,0,none⟩) l.length l [q2J enc T b l]:=
 ⟨hw, .inr ⟨b,[],rfl,by simp[q2J],by simp,Nat.le_refl _⟩⟩
theorem qg9{T:TypeId}{b:Nat}{D:Own}(hne:l≠ [])(h:qr enc T sz (some ⟨b,0,none⟩) l.length l D):D= [q2J enc T b l]:=by
 rcases h.how with ⟨rfl,_,_⟩|⟨b',rest,hb,rfl,hl,_⟩
 ·exact absurd rfl hne
 ·simp only[Option.some.injEq,Addr.mk.injEq] at hb
  obtain⟨rfl,_⟩:=hb
  have:rest= []:=List.eq_nil_of_length_eq_zero (by omega)
  subst this
  simp[q2J]
theorem q9t{T:TypeId}{b:Nat}(hw:∀x∈l,(enc x).length=sz):RdE enc sz W0 [q2J enc T b l] (some ⟨b,0,none⟩) l:=(q8q hw).rd
theorem mkC{T:TypeId}{bytes:Nat}{zs:List Value}{n c:Int}{K:Value→Own→Prop}(m:Nat)(x0:α)(hn:n=m)(hc:c=m)(hz:enc x0=zs)(h0:m*bytes≤281474976710656)
  (hk:∀b,K (.slice (some ⟨b,0,none⟩) m m) (q2J enc T b (List.replicate m x0)::own)):MkT W0 own T bytes zs n c K:=by
 subst hn;subst hc
 refine⟨m,m,rfl,rfl,Nat.le_refl _,h0,fun b _=> ?_⟩
 have:=hk b
 simp only[q2J,List.map_replicate,hz] at this
 exact this
theorem stC{T:TypeId}{b j k o:Nat}{C:Own→Own}{x:α}{v:Value}{K:Own→Prop}(x':α)(hw:∀x∈l,(enc x).length=sz)(hx:l[j]? =some x) [m:AtC [q2J enc T b l] own C](ho:o=j*sz+k)(hk0:k<sz)(hv:enc x'=(enc x).set k v)(h1:q4A v=true)
  (hk:K (C [q2J enc T b (l.set j x')])):StT W0 own ⟨b,o,none⟩ v K:=
 stE (a:=some ⟨b,0,none⟩) x' (q8q hw) m.h hx (by simp[ao,ho]) hk0 hv h1 (fun D' hb=>by
  have hne:l.set j x'≠ []:=fun e=>by
   have:=congrArg List.length e
   rw[List.length_set] at this
   have:=List.eq_nil_of_length_eq_zero this
   subst this
   simp at hx
  have:=qg9 hne (by rw[List.length_set];exact hb)
  subst this
  exact hk)
theorem ixC{b n j:Nat}{i:Int}{x:α}{K:Addr→Prop}(hx:l[j]? =some x)(hn:n=l.length)(hi:i=j)(hk:K ⟨b,j*sz,none⟩):IxS (some ⟨b,0,none⟩) sz i n K:=by
 subst hn;subst hi
 exact qhE (List.getElem?_eq_some_iff.1 hx).1 (by rw[Nat.zero_add];exact hk)
theorem ldC{T:TypeId}{b j k:Nat}{x:α}{v:Value}{K:Value→Prop}(hw:∀x∈l,(enc x).length=sz)(hx:l[j]? =some x) [m:q3X b (fun o=>o=Obj.cells (l.map enc).flatten.toArray T) own](hv:(enc x)[k]? =some v)(hk:K v):Ld W0 own ⟨b,j*sz+k,none⟩ K:=
 qH v m.h (by rw[List.toList_toArray];exact q3t l hw hx hv) hk
theorem qbj{T:TypeId}{b j:Nat}{x:α}{v:Value}{K:Value→Prop}(hw:∀x∈l,(enc x).length=sz)(hx:l[j]? =some x) [m:q3X b (fun o=>o=Obj.cells (l.map enc).flatten.toArray T) own](hv:(enc x)[0]? =some v)(hk:K v):Ld W0 own ⟨b,j*sz,none⟩ K:=ldC (T:=T) (k:=0) hw hx hv hk
theorem q1M{j:Nat}{x:α}{v:Value}{K:Value→Prop}(h:RdE enc sz W0 own' a l)(hx:l[j]? =some x) [m:qt own own'](hv:(enc x)[0]? =some v)(hk:K v):Ld W0 own ⟨ab a,ao a+j*sz,none⟩ K:=ldE (k:=0) (h.ent (m.h W0)) hx rfl hv hk
theorem qgp{j k:Nat}{x:α}{v:Value}{K:Value→Prop}(h:RdE enc sz W0 own' a l)(hx:l[j]? =some x) [m:qt own own'](hv:(enc x)[k]? =some v)(hk:K v):Ld W0 own ⟨ab a,ao a+j*sz+k,none⟩ K:=ldE (k:=k) (h.ent (m.h W0)) hx rfl hv hk
theorem q2e{j n:Nat}{x:α}{K:Array Value→Prop}(h:RdE enc sz W0 own' a l)(hx:l[j]? =some x) [m:qt own own'](hn:n=sz)(hk:K (enc x).toArray):LdN W0 own ⟨ab a,ao a+j*sz,none⟩ n K:=qeD (h.ent (m.h W0)) hx rfl hn hk
theorem RdE.up(h:RdE enc sz W0 own' a l) [m:qt own own']:RdE enc sz W0 own a l:=h.ent (m.h W0)
theorem q69{T T2:TypeId}{bytes cap bt:Nat}{zs:List Value}{D:Own}{C:Own→Own}{ys:Array Value}{fz:Nat×Nat}{K:Value→Own→Prop}(x:α)(hB:qr enc T sz a cap l D) [m:AtC D own C] [m2:q3X bt (fun o=>o=Obj.cells ys T2 fz) own](hy:ys.toList=enc x)
  (hz:zs.length=sz) (hs:0<sz) (hw:(enc x).length=sz) (h1:(enc x).all q4A=true) (hb:(l.length+1)*bytes≤140737488355328)
  (hk:∀a' cap' D',qr enc T sz a' cap' (l++ [x]) D'→K (.slice a' (l.length+1) cap') (C D')):qcz W0 own T sz bytes zs a l.length cap (some ⟨bt,0,none⟩) 1 K:=q5r x hB m.h m2.h hy hz hs hw h1 hb hk
theorem qiO{T:TypeId}{bytes cap m:Nat}{zs:List Value}{D:Own}{C:Own→Own}{a2:Option Addr}{l2:List α}{K:Value→Own→Prop}(hB:qr enc T sz a cap l D)(hx:RdE enc sz W0 own' a2 l2) [mm:AtC D own C] [me:qt own own'](hm:m=l2.length)
  (hz:zs.length=sz) (hs:0<sz) (h1:∀x∈l2,(enc x).all q4A=true) (hb:cap<l.length+l2.length→(l.length+l2.length)*bytes≤140737488355328)
  (hk:∀a' cap' D',qr enc T sz a' cap' (l++l2) D'→K (.slice a' (l.length+l2.length) cap') (C D')):qcz W0 own T sz bytes zs a l.length cap a2 m K:=q7m hB mm.h (hx.ent (me.h W0)) hm hz hs h1 hb hk
theorem q5Q{T:TypeId}{cap j k o:Nat}{D:Own}{C:Own→Own}{x:α}{v:Value}{K:Own→Prop}(x':α)(hB:qr enc T sz a cap l D)(hx:l[j]? =some x) [m:AtC D own C](ho:o=ao a+j*sz+k)(hk0:k<sz)(hv:enc x'=(enc x).set k v)(h1:q4A v=true)
  (hk:∀D',qr enc T sz a cap (l.set j x') D'→K (C D')):StT W0 own ⟨ab a,o,none⟩ v K:=stE x' hB m.h hx ho hk0 hv h1 hk
theorem qjU{T:TypeId}{cap j o n:Nat}{D:Own}{C:Own→Own}{x:α}{vs:List Value}{K:Own→Prop}(x':α)(hB:qr enc T sz a cap l D)(hx:l[j]? =some x) [m:AtC D own C](hn:vs.length=n)(ho:o=ao a+j*sz)(hv:enc x'=vs)(hw:vs.length=sz)(h1:vs.all q4A=true)
  (hk:∀D',qr enc T sz a cap (l.set j x') D'→K (C D')):vs.length=n∧StN W0 own ⟨ab a,o,none⟩ vs K:=⟨hn,qlG x' hB m.h hx ho hv hw h1 hk⟩
theorem RdE.same{l':List α}(h:RdE enc sz W0 own a l)(e:l'.map enc=l.map enc):RdE enc sz W0 own a l':=by
 have hg:∀(j:Nat) x,l'[j]? =some x→∃y,l[j]? =some y∧enc y=enc x:=fun j x hx=>by
  have:=congrArg (fun l=>l[j]?) e
  simp only[List.getElem?_map,hx,Option.map_some] at this
  obtain⟨y,hy,h⟩:=Option.map_eq_some_iff.1 this.symm
  exact⟨y,hy,h⟩
 refine⟨fun hne=>h.isS (fun e2=>hne ?_),fun x hx=> ?_,fun{j k x v} hx hv=> ?_⟩
 ·have:=congrArg List.length e
  rw[e2,List.length_map,List.length_map,List.length_nil] at this
  exact List.eq_nil_of_length_eq_zero this
 ·obtain⟨j,hj⟩:=List.getElem?_of_mem hx
  obtain⟨y,hy,he⟩:=hg j x hj
  rw[←he]
  exact h.wid y (List.mem_of_getElem? hy)
 ·obtain⟨y,hy,he⟩:=hg j x hx
  rw[←he] at hv
  exact h.cell hy hv
end
theorem qaK.mono{P:Program}{W0:World}{own:Own}{l:Nat}{args:List Value}{R K:Value→Own→Prop}(h:qaK P W0 own l args R)(hk:∀v own',R v own'→K v own'):qaK P W0 own l args K:=
 ⟨fun w hw=>by
  obtain⟨k,t,a,b,h1,h2⟩:=h.h w hw
  exact⟨k,t,a,b,h1,h2.mono fun _ _ ⟨v,own',he,hs,hr⟩=>⟨v,own',he,hs,hk _ _ hr⟩⟩⟩
open Go
section
variable{c b:Bool}{Ky Kn:Prop}{p:Prop}{i:Decidable p}
theorem q1P(e:c=b)(h:Ky):q3Y c b Ky Kn:=by subst e;exact qC h
theorem qes(e:c= !b)(h:Kn):q3Y c b Ky Kn:=⟨fun h2=>(by rw[h2] at e;cases b <;>cases e),fun _=>h⟩
theorem q5s(e:c=true)(h:Ky):Br c Ky Kn:=by subst e;exact q3M h
theorem qgU(e:c=false)(h:Kn):Br c Ky Kn:=by subst e;exact q4B h
theorem q0e(e:c= @decide p i)(hb:b=true)(hy:p→Ky)(hn:¬p→Kn):q3Y c b Ky Kn:=by subst e;subst hb;exact q4Q hy hn
theorem q4P(e:c= @decide p i)(hb:b=false)(hn:¬p→Ky)(hy:p→Kn):q3Y c b Ky Kn:=by subst e;subst hb;exact q2p hn hy
theorem q9q(e:c= @decide p i)(hy:p→Ky)(hn:¬p→Kn):Br c Ky Kn:=by subst e;exact q5Z hy hn
theorem qaR(e:c= @decide p i)(hp:p)(h:Ky):Br c Ky Kn:=by subst e;exact q17 hp h
theorem qaQ(e:c= @decide p i)(hp:¬p)(h:Kn):Br c Ky Kn:=by subst e;exact q2j hp h
theorem qcV(e:c= !@decide p i)(hp:p)(h:Kn):Br c Ky Kn:=by subst e;exact q9r hp h
theorem qcU(e:c= !@decide p i)(hp:¬p)(h:Ky):Br c Ky Kn:=by subst e;exact qaP hp h
theorem q9g(e:c= @decide p i)(hp:p)(h:q3Y true b Ky Kn):q3Y c b Ky Kn:=by subst e;exact q7i hp h
theorem q9f(e:c= @decide p i)(hp:¬p)(h:q3Y false b Ky Kn):q3Y c b Ky Kn:=by subst e;exact q4R hp h
theorem fA{W0:World}{own:Own}{b off:Nat}{cs:Array Value}{T:TypeId}{fz:Nat×Nat}{v:Value}{K:Value→Prop}[m:q3X b (fun o=>o=Obj.cells cs T fz) own](h:K v)(hv:cs.toList[off]?=some v:=by exact rfl):Ld W0 own ⟨b,off,none⟩ K:=qlz hv h
theorem fB{e:Int}{K:Int→Prop}(h:K e)(h1:-9223372036854775808≤e∧e≤9223372036854775807:=by omega):q6t .i64 e K:=ari h1 h
theorem fC{e:Int}{K:Int→Prop}(h:K e)(h1:0≤e∧e≤18446744073709551615:=by omega):q6t .u64 e K:=aru h1 h
theorem fD{c:Bool}{Ky Kn:Prop}(h:Kn)(e:c=false:=by exact rfl):Br c Ky Kn:=qgU e h
theorem fE{c:Bool}{Ky Kn:Prop}(h:Ky)(e:c=true:=by exact rfl):Br c Ky Kn:=q5s e h
theorem fF{c:Bool}{Ky Kn p:Prop}{i:Decidable p}(h:Ky)(e:c=@decide p i:=by exact rfl)(hp:p:=by omega):Br c Ky Kn:=qaR e hp h
theorem fG{c:Bool}{Ky Kn p:Prop}{i:Decidable p}(h:Kn)(e:c=@decide p i:=by exact rfl)(hp:¬p:=by omega):Br c Ky Kn:=qaQ e hp h
theorem fH{c b:Bool}{Ky Kn:Prop}(h:Ky)(e:c=b:=by exact rfl):q3Y c b Ky Kn:=q1P e h
theorem fI{c b:Bool}{Ky Kn:Prop}(h:Kn)(e:c= !b:=by exact rfl):q3Y c b Ky Kn:=qes e h
theorem fJ{c b:Bool}{Ky Kn p:Prop}{i:Decidable p}(h:q3Y true b Ky Kn)(e:c=@decide p i:=by exact rfl)(hp:p:=by omega):q3Y c b Ky Kn:=q9g e hp h
theorem fK{c b:Bool}{Ky Kn p:Prop}{i:Decidable p}(h:q3Y false b Ky Kn)(e:c=@decide p i:=by exact rfl)(hp:¬p:=by omega):q3Y c b Ky Kn:=q9f e hp h
theorem fL{W0:World}{own:Own}{b n:Nat}{cs:Array Value}{T:TypeId}{fz:Nat×Nat}{K:Array Value→Prop}[m:q3X b (fun o=>o=Obj.cells cs T fz) own](h:K cs)(hl:cs.toList.length=n:=by exact rfl):LdN W0 own ⟨b,0,none⟩ n K:=qkH hl h
theorem fM{W0:World}{own:Own}{b off n:Nat}{cs:Array Value}{T:TypeId}{vs:List Value}{K:Own→Prop}{C:(Obj→Prop)→Own}[m:UpC b (fun o=>o=Obj.cells cs T (0,0)) own C](h:K (C fun o=>o=Obj.cells (cs.toList.take off++vs++cs.toList.drop (off+n)).toArray T (0,0)))(hn:vs.length=n:=by exact rfl)(hoff:Nat.ble (off+n) cs.toList.length=true:=by exact rfl)(h1:vs.all q4A=true:=by exact rfl):vs.length=n∧StN W0 own ⟨b,off,none⟩ vs K:=qfT hn hoff h1 h
theorem fN{W0:World}{own:Own}{b off:Nat}{cs:Array Value}{T:TypeId}{v:Value}{K:Own→Prop}{C:(Obj→Prop)→Own}[m:UpC b (fun o=>o=Obj.cells cs T (0,0)) own C](h:K (C fun o=>o=Obj.cells (cs.toList.set off v).toArray T (0,0)))(hoff:Nat.ble (off+1) cs.toList.length=true:=by exact rfl)(h1:q4A v=true:=by exact rfl):StT W0 own ⟨b,off,none⟩ v K:=qjY hoff h1 h
theorem fO{o:Option Value}{K:Value→Prop}{v:Value}(h:K v)(hv:o=some v:=by exact rfl):Sel o K:=sel v hv h
theorem fP{i:Int}{n:Nat}{K:Nat→Prop}(h:K i.toNat)(h1:0≤i∧i<n:=by omega):Idx i n K:=ixn h1 h
theorem fQ{W0:World}{own:Own}{b off n:Nat}{cs:Array Value}{T:TypeId}{fz:Nat×Nat}{K:Array Value→Prop}{vs:List Value}[m:q3X b (fun o=>o=Obj.cells cs T fz) own](h:K vs.toArray)(hv:(cs.toList.drop off).take n=vs:=by exact rfl)(hl:vs.length=n:=by exact rfl):LdN W0 own ⟨b,off,none⟩ n K:=qkI hv hl h
theorem qet(e:c= !@decide p i)(hp:p)(h:q3Y false b Ky Kn):q3Y c b Ky Kn:=by subst e;exact q9e hp h
theorem qa4(e:c= !@decide p i)(hp:¬p)(h:q3Y true b Ky Kn):q3Y c b Ky Kn:=by subst e;exact q9d hp h
end
structure Stop(p:Prop):Prop where
 h:p
section
variable{P:Program}{W0:World}{own:Own}{k k0:FuncId}{args args0:List Value}{v:Value}
theorem qh{K:Value→Own→Prop}(h:qD P W0 k0 args0 own v)(ek:k=k0)(ea:args=args0)(hk:K v own):qf P W0 own k args K:=by
 subst ek;subst ea;exact qg h hk
theorem q4G{K:Value→Prop}(h:∀own',qD P W0 k0 args0 own' v)(ek:k=k0)(ea:args=args0)(hk:K v):q0b P W0 own k args K:=by
 subst ek;subst ea;exact q6y h hk
theorem qq{K:Value→Prop}(h:∀ex:Own,qD P W0 k0 args0 (ex++own) v)(ek:k=k0)(ea:args=args0)(hk:K v):q0b P W0 own k args K:=by
 subst ek;subst ea;exact qgX h hk
theorem qZ{σ:Type}{R:σ→Value→Prop}{O:σ→Own}{K:Value→Own→Prop}(h:q0E P W0 k0 args0 own fun v own'=>∃s,R s v∧Ent W0 own' (O s))(ek:k=k0)(ea:args=args0)(hk:∀s v,R s v→K v (O s)):qf P W0 own k args K:=by
 subst ek;subst ea
 exact⟨fun w hw=>(h w hw).mono fun _ _ ⟨_,_,he,hs,s,hR,hE⟩=>⟨_,O s,he,hE _ hs,hk s _ hR⟩⟩
end
open Go
class q68(b:Nat)(p:outParam (Obj→Prop))(own:Own)(r:outParam Own):Prop where
 h:own.Perm ((b,p)::r)
section
variable{b:Nat}{p:Obj→Prop}{e:Nat×(Obj→Prop)}{A r r':Own}
instance q68.left [m:q68 b p A r']:q68 b p (A++r) (r'++r):=⟨m.h.append_right r⟩
instance q68.right [m:q68 b p r r']:q68 b p (A++r) (A++r'):=⟨(m.h.append_left A).trans List.perm_middle⟩
instance q68.tail [m:q68 b p r r']:q68 b p (e::r) (e::r'):=⟨(m.h.cons e).trans (List.Perm.swap _ _ _)⟩
instance q68.head:q68 b p ((b,p)::r) r:=⟨List.Perm.refl _⟩
end
class qbS(ks:List Nat)(own:Own)(r:outParam Own):Prop where
 h:own.Perm r
instance qbS.nil{own:Own}:qbS [] own own:=⟨List.Perm.refl _⟩
instance qbS.cons{b:Nat}{ks:List Nat}{p:Obj→Prop}{own r r':Own} [m:q68 b p own r] [k:qbS ks r r']:qbS (b::ks) own ((b,p)::r'):=⟨m.h.trans (k.h.cons _)⟩
theorem qb2{W0:World}{own r T:Own}{b0 b1 b2 b3:Nat}{p0 p1 p2 p3:Obj→Prop} [m:qbS [b0,b1,b2,b3] own r](h:r=(b0,p0)::(b1,p1)::(b2,p2)::(b3,p3)::T):Ent W0 own ((b0,p0)::(b1,p1)::(b2,p2)::(b3,p3)::T):=h ▸ Ent.of_perm m.h
section
variable{α:Type}{enc:α→List Value}{sz:Nat}{W0:World}{own:Own}{a:Option Addr}{l:List α}
theorem qkx{T:TypeId}{bytes cap m:Nat}{zs:List Value}{D:Own}{C:Own→Own}{a2:Option Addr}{l2:List α}{K:Value→Own→Prop}(hB:qr enc T sz a cap l D)(hat:At D own C)(hx:RdE enc sz W0 own a2 l2)(hm:m=l2.length)
  (hs:0<sz) (h1:∀x∈l2,(enc x).all q4A=true) (hroom:l.length+l2.length≤cap)
  (hk:∀D',qr enc T sz a cap (l++l2) D'→K (.slice a (l.length+l2.length) cap) (C D')):qcz W0 own T sz bytes zs a l.length cap a2 m K:=by
 subst hm
 have hrd:RdE enc sz W0 own a l:=(hB.rd (W0:=W0)).ent hat.self
 have holds:∀{a:Option Addr} {l:List α},RdE enc sz W0 own a l→Kn W0 own (Holds a (l.map enc).flatten):=fun{a l} h w hw ad had j v hj=>by
  have hlt:=(List.getElem?_eq_some_iff.1 hj).1
  rw[q03 l h.wid] at hlt
  have hj1:j/sz<l.length:=Nat.div_lt_of_lt_mul (by rwa[Nat.mul_comm])
  have hj2:j % sz<sz:=Nat.mod_lt _ hs
  have hx':l[j/sz]? =some l[j/sz]:=List.getElem?_eq_getElem hj1
  have hwd:=h.wid _ (List.mem_of_getElem? hx')
  have hv':(enc l[j/sz])[j % sz]? =some (enc l[j/sz])[j % sz]:=List.getElem?_eq_getElem (by omega)
  have he:j/sz*sz+j % sz=j:=Nat.div_add_mod' j sz
  have hf:=q3t l h.wid hx' hv'
  rw[he,hj] at hf
  have hS:=h.isS (fun e=>by subst e;simp at hj1)
  rw[hS] at had
  have had:=Option.some.inj had
  rw[←had,qI]
  have hc:=h.cell hx' hv' w hw
  have e2:ao a+j/sz*sz+j % sz=ao a+j:=by omega
  rw[e2] at hc
  rw[hc,hf]
 have wid2:∀x∈l++l2,(enc x).length=sz:=fun x h=>(List.mem_append.1 h).elim (hB.wid x) (hx.wid x)
 refine⟨(l.map enc).flatten,(l2.map enc).flatten,q03 l hB.wid,q03 l2 hx.wid,fun e=> ?_,fun e=> ?_,fun v hv=> ?_,holds hrd,holds hx,fun hfit=> ?_,fun hgr=>absurd hgr (by omega)⟩
 ·cases l with
  |nil=>rfl
  |cons x r=>have:=hrd.isS (by simp);rw[e] at this;cases this
 ·cases l2 with
  |nil=>rfl
  |cons x r=>have:=hx.isS (by simp);rw[e] at this;cases this
 ·obtain⟨cs,hcs,hv⟩:=List.mem_flatten.1 hv
  obtain⟨x,hx',rfl⟩:=List.mem_map.1 hcs
  exact List.all_eq_true.1 (h1 x hx') v hv
 ·rcases hB.how with ⟨rfl,rfl,rfl⟩|⟨b,rest,rfl,rfl,hl,hle⟩
  ·have h2:l2= []:=by cases l2 with|nil=>rfl|cons x r=>simp at hfit
   subst h2
   have hC:=hat.same
   refine⟨own,fun w hw=>⟨fun ad _=>⟨fun j hj=>by simp at hj,by simpa [q78] using hw⟩,fun _=>hw⟩,?_⟩
   have:=hk [] qr.nil
   rw[hC] at this
   exact this
  ·have hfl:=q03 l hB.wid
   have hfl2:=q03 l2 hx.wid
   have hsz:(l.length+l2.length)*sz≤cap*sz:=Nat.mul_le_mul_right _ hfit
   rw[Nat.add_mul] at hsz
   refine⟨C [(b,fun o=>o=Obj.cells (((l++l2).map enc).flatten++rest.drop (l2.length*sz)).toArray T)],fun w hw=>⟨fun ad had=> ?_,fun e=>by cases e⟩,hk _ ⟨wid2, .inr ⟨b,rest.drop (l2.length*sz),rfl,rfl,?_,by simpa using hfit⟩⟩⟩
   ·have had:=Option.some.inj had
    subst had
    have hnew:((l.map enc).flatten++rest).take (l.length*sz)++(l2.map enc).flatten++((l.map enc).flatten++rest).drop (l.length*sz+(l2.map enc).flatten.length)=((l++l2).map enc).flatten++rest.drop (l2.length*sz):=by
     rw[hfl2,List.take_append_of_le_length (by omega),List.take_of_length_le (by omega),List.drop_append,List.drop_of_length_le (by omega),List.nil_append,hfl,Nat.add_sub_cancel_left,List.map_append,List.flatten_append]
    have hu:=hat.up (q:=fun o=>o=Obj.cells (((l.map enc).flatten++rest).take (l.length*sz)++(l2.map enc).flatten++((l.map enc).flatten++rest).drop (l.length*sz+(l2.map enc).flatten.length)).toArray T)
    have hr:=q79 (vs:=(l2.map enc).flatten) (off:=l.length*sz) hw hu (by rw[List.length_append,hfl,hfl2];omega)
    rw[hnew] at hr
    rw[qI,Nat.zero_add]
    refine⟨fun j hj=> ?_,hr.2⟩
    rw[qI]
    exact hr.1 j hj
   ·simp only[List.length_append,List.length_drop,Nat.add_mul];omega
theorem qiP{own':Own}{T:TypeId}{bytes cap m:Nat}{zs:List Value}{D:Own}{C:Own→Own}{a2:Option Addr}{l2:List α}{K:Value→Own→Prop}(hB:qr enc T sz a cap l D)(hx:RdE enc sz W0 own' a2 l2) [mm:AtC D own C] [me:qt own own'](hm:m=l2.length)
  (hs:0<sz) (h1:∀x∈l2,(enc x).all q4A=true) (hroom:l.length+l2.length≤cap)
  (hk:∀D',qr enc T sz a cap (l++l2) D'→K (.slice a (l.length+l2.length) cap) (C D')):qcz W0 own T sz bytes zs a l.length cap a2 m K:=qkx hB mm.h (hx.ent (me.h W0)) hm hs h1 hroom hk
end
section
variable{W0:World}{own own':Own}
abbrev Cl(W0:World)(own:Own)(b o:Nat)(v:Value):Prop:=Kn W0 own fun w=>w.cell? ⟨b,o,none⟩=some v
theorem ldK{b o:Nat}{v:Value}{K:Value→Prop}(h:Cl W0 own' b o v) [m:qt own own'](hk:K v):Ld W0 own ⟨b,o,none⟩ K:=qkJ (h.ent (m.h W0)) hk
end
open Go
structure EH where
 ev:Int
 t:Int
 k:Int
 w:Int
 ra:Option Addr
 rl:List Int
 rc:Nat
 wa:Option Addr
 wl:List Int
 wc:Nat
abbrev EH.enc(e:EH):List Value:= [.int .i64 e.ev, .int .i64 e.t, .int .i64 e.k, .int .i64 e.w, .slice e.ra e.rl.length e.rc, .slice e.wa e.wl.length e.wc]
abbrev EH.v(e:EH):Value:= .agg #[.int .i64 e.ev, .int .i64 e.t, .int .i64 e.k, .int .i64 e.w, .slice e.ra e.rl.length e.rc, .slice e.wa e.wl.length e.wc]
def inW(x:Int):Bool:=decide (0≤x∧x<64)
def q1m(n:Nat)(first:Bool)(pa last:Int)(e:EH):Bool:=
 decide (0≤e.t∧e.t<n∧1≤e.k∧e.k≤4∧(first=true∨pa≤e.ev)∧0≤e.w∧e.w<64)&&e.rl.all inW&&e.wl.all inW&&(if e.k=4 then decide (last=3) else decide (e.rl= []∧e.wl= []))
def qaT(n:Nat):List EH→Nat→Int→List Int→Int×Int
 | [],_,_,_=>(0,0)
 |e::l,i,pa,last=>if q1m n (i==0) pa (last.getD e.t.toNat 0) e then qaT n l (i+1) e.ev (last.set e.t.toNat e.k) else(i,91)
def q7q(l:List EH)(n:Int):Int×Int:=if n<1∨16<n then(0,54) else if 65536<l.length then(0,3) else qaT n.toNat l 0 0 (List.replicate n.toNat 0)
def eh0:EH:=⟨0,0,0,0,none,[],0,none,[],0⟩
abbrev at'(l:List EH)(i:Nat):EH:=l.getD i eh0
abbrev thr(l:List EH)(i:Nat):Int:=(at' l i).t
abbrev knd(l:List EH)(i:Nat):Int:=(at' l i).k
def qau(l:List EH)(i p:Nat):Prop:=p<i∧thr l p=thr l i∧∀q,p<q→q<i→thr l q≠thr l i
structure Wf(l:List EH)(n:Nat):Prop where
 kd:∀i,i<l.length→1≤knd l i∧knd l i≤4∧0≤thr l i∧thr l i<n∧inW (at' l i).w=true∧(at' l i).rl.all inW=true∧(at' l i).wl.all inW=true
 en:∀i,i<l.length→knd l i=4→∃p,qau l i p∧knd l p=3
 pl:∀i,i<l.length→knd l i≠4→(at' l i).rl= []∧(at' l i).wl= []
def q8v(l:List EH)(i:Nat):Prop:=i<l.length∧(knd l i≠3∨∃e,e<l.length∧qau l e i∧knd l e=4)
def q2i(l:List EH)(i:Nat):Prop:=knd l i=1∨knd l i=2
def HB(l:List EH)(i j:Nat):Prop:=i<j∧q8v l i∧q8v l j∧
 (thr l i=thr l j∨(q2i l j∧∃e f,i≤e∧e<f∧f<j∧knd l e=4∧knd l f=4∧thr l e=thr l i∧thr l f=thr l j)∨(¬q2i l j∧∃e,i≤e∧e<j∧knd l e=4∧thr l e=thr l i))
def DI(l:List EH)(i j:Nat):Prop:=i<j∧q8v l i∧q8v l j∧(thr l i=thr l j∨(knd l i=4∧(knd l j=4∨knd l j=3)))
theorem qhG{l:List EH}{n:Nat}(h:Wf l n){i:Nat}(hi:i<l.length):knd l i=1∨knd l i=2∨knd l i=3∨knd l i=4:=by
 have:=h.kd i hi
 omega
theorem DI.hb{l:List EH}{i j:Nat}(d:DI l i j):HB l i j:=by
 obtain⟨h1,h2,h3,h4⟩:=d
 refine⟨h1,h2,h3,?_⟩
 rcases h4 with h4|⟨h4,h5⟩
 ·exact .inl h4
 ·refine .inr (.inr ⟨?_,i,Nat.le_refl i,h1,h4,rfl⟩)
  unfold q2i
  omega
theorem qj0{l:List EH}{i j:Nat}(hc:q8v l i)(h3:knd l i=3)(hij:i<j)(ht:thr l i=thr l j):∃f,i<f∧f≤j∧knd l f=4∧thr l f=thr l j:=by
 obtain⟨_,h|⟨e,he,⟨hp1,hp2,hp3⟩,hk⟩⟩:=hc
 ·exact absurd h3 h
 ·refine⟨e,hp1,?_,hk,by rw[←hp2,ht]⟩
  by_cases hle:e≤j
  ·exact hle
  ·exact absurd (by rw[←hp2,ht]) (hp3 j hij (by omega))
theorem HB.trans{l:List EH}{n:Nat}(h:Wf l n){i j k:Nat}(a:HB l i j)(b:HB l j k):HB l i k:=by
 obtain⟨h1,h2,h3,h4⟩:=a
 obtain⟨g1,g2,g3,g4⟩:=b
 refine⟨by omega,h2,g3,?_⟩
 by_cases hik:thr l i=thr l k
 ·exact .inl hik
 ·right
  --an end of i's thread,from i on,ahead of k;and,if k is plain,an end of k's thread behind it
  have key:(∃e,i≤e∧e<k∧knd l e=4∧thr l e=thr l i∧(q2i l k→∃f,e<f∧f<k∧knd l f=4∧thr l f=thr l k)):=by
   rcases g4 with g4|⟨gp,e,f,he1,he2,he3,he4,he5,he6,he7⟩|⟨gp,e,he1,he2,he3,he4⟩
   · --j and k of one thread
    rcases h4 with h4|⟨hp,e,f,he1,he2,he3,he4,he5,he6,he7⟩|⟨hp,e,he1,he2,he3,he4⟩
    ·exact absurd (h4.trans g4) hik
    ·exact⟨e,he1,by omega,he4,he6,fun _=>⟨f,he2,by omega,he5,he7.trans g4⟩⟩
    ·refine⟨e,he1,by omega,he3,he4,fun hpk=> ?_⟩
     have hj3:=qhG h h3.1
     unfold q2i at hp
     by_cases hj4:knd l j=4
     ·exact⟨j,he2,g1,hj4,g4⟩
     ·obtain⟨f,hf1,hf2,hf3,hf4⟩:=qj0 h3 (by omega) g1 g4
      refine⟨f,by omega,?_,hf3,hf4⟩
      by_cases hfk:f=k
      ·subst hfk;unfold q2i at hpk;omega
      ·omega
   · --k plain,another thread than j
    rcases h4 with h4|⟨hp,e',f',he1',he2',he3',he4',he5',he6',he7'⟩|⟨hp,e',he1',he2',he3',he4'⟩
    ·exact⟨e,by omega,by omega,he4,he6.trans h4.symm,fun _=>⟨f,he2,he3,he5,he7⟩⟩
    ·exact⟨e',he1',by omega,he4',he6',fun _=>⟨f,by omega,he3,he5,he7⟩⟩
    ·exact⟨e',he1',by omega,he3',he4',fun _=>⟨f,by omega,he3,he5,he7⟩⟩
   ·rcases h4 with h4|⟨hp,e',f',he1',he2',he3',he4',he5',he6',he7'⟩|⟨hp,e',he1',he2',he3',he4'⟩
    ·exact⟨e,by omega,by omega,he3,he4.trans h4.symm,fun h=>absurd h gp⟩
    ·exact⟨e',he1',by omega,he4',he6',fun h=>absurd h gp⟩
    ·exact⟨e',he1',by omega,he3',he4',fun h=>absurd h gp⟩
  obtain⟨e,he1,he2,he3,he4,he5⟩:=key
  by_cases hp:q2i l k
  ·obtain⟨f,hf1,hf2,hf3,hf4⟩:=he5 hp
   exact .inl ⟨hp,e,f,he1,hf1,hf2,he3,hf3,he4,hf4⟩
  ·exact .inr ⟨hp,e,he1,he2,he3,he4⟩
theorem q5t{l:List EH}{e:Nat}(he:e<l.length)(h4:knd l e=4):q8v l e:=⟨he, .inl (by omega)⟩
theorem HB.of{l:List EH}{n:Nat}(h:Wf l n){R:Nat→Nat→Prop}(hd:∀i j,DI l i j→R i j)(hs:∀i e j,knd l e=4→i<e→e<j→R i e→R e j→R i j){i j:Nat}(b:HB l i j):R i j:=by
 obtain⟨h1,h2,h3,h4⟩:=b
 have hjl:=h3.1
 rcases h4 with h4|⟨hp,e,f,he1,he2,he3,he4,he5,he6,he7⟩|⟨hp,e,he1,he2,he3,he4⟩
 ·exact hd i j ⟨h1,h2,h3, .inl h4⟩
 ·have ce:=q5t (by omega:e<l.length) he4
  have cf:=q5t (by omega:f<l.length) he5
  have r1:R e f:=hd e f ⟨he2,ce,cf, .inr ⟨he4, .inl he5⟩⟩
  have r2:R f j:=hd f j ⟨he3,cf,h3, .inl he7⟩
  have r3:R e j:=hs e f j he5 he2 he3 r1 r2
  by_cases hie:i=e
  ·subst hie;exact r3
  ·exact hs i e j he4 (by omega) (by omega) (hd i e ⟨by omega,h2,ce, .inl he6.symm⟩) r3
 ·have ce:=q5t (by omega:e<l.length) he3
  have hj:=qhG h hjl
  unfold q2i at hp
  have r1:R e j:=hd e j ⟨he2,ce,h3, .inr ⟨he3,by omega⟩⟩
  by_cases hie:i=e
  ·subst hie;exact r1
  ·exact hs i e j he3 (by omega) he2 (hd i e ⟨by omega,h2,ce, .inl he4.symm⟩) r1
def qcw(h:Nat→Nat→Bool)(k:Nat):Nat→Nat→Bool:=fun i j=>if i<k∧k<j∧h i k=true then h i j||h k j else h i j
def qaf(h:Nat→Nat→Bool):Nat→Nat→Nat→Bool
 |0=>h
 |k+1=>qcw (qaf h k) k
theorem qcx{h:Nat→Nat→Bool}{k i j:Nat}(hh:h i j=true):qcw h k i j=true:=by
 unfold qcw
 split
 ·rw[hh];rfl
 ·exact hh
theorem q6B{h:Nat→Nat→Bool}{i j:Nat}:∀(a d:Nat),qaf h a i j=true→qaf h (a+d) i j=true
 |_,0,hh=>hh
 |a,d+1,hh=>qcx (q6B a d hh)
theorem q50{l:List EH}{n:Nat}(hw:Wf l n){h:Nat→Nat→Bool}(h0:∀i j,h i j=true→DI l i j):∀k i j,qaf h k i j=true→HB l i j
 |0,i,j,hh=>(h0 i j hh).hb
 |k+1,i,j,hh=>by
  unfold qaf qcw at hh
  split at hh
  ·rename_i hc
   rcases Bool.or_eq_true _ _ ▸ hh with h1|h1
   ·exact q50 hw h0 k i j h1
   ·exact(q50 hw h0 k i k hc.2.2).trans hw (q50 hw h0 k k j h1)
  ·exact q50 hw h0 k i j hh
theorem q8t{h:Nat→Nat→Bool}{i e j m:Nat}(h1:i<e)(h2:e<j)(hie:qaf h e i e=true)(hej:qaf h e e j=true)(hm:e<m):qaf h m i j=true:=by
 have:qaf h (e+1) i j=true:=by
  show qcw (qaf h e) e i j=true
  unfold qcw
  rw[if_pos ⟨h1,h2,hie⟩,hej,Bool.or_true]
 have e2:m=e+1+(m-(e+1)):=by omega
 rw[e2]
 exact q6B _ _ this
theorem qh0{l:List EH}{n:Nat}(hw:Wf l n){h:Nat→Nat→Bool}(h0:∀i j,h i j=true↔DI l i j)(i j:Nat):qaf h l.length i j=true↔HB l i j:=by
 refine⟨q50 hw (fun i j hh=>(h0 i j).1 hh) _ i j,fun b=> ?_⟩
 --R:true at the latest when the second place is reached,or,for a way by an end,behind it
 have hdir:∀{i j:Nat} (m:Nat),DI l i j→qaf h m i j=true:=fun{i j} m d=>by
  have:=q6B (h:=h) 0 m ((h0 i j).2 d)
  rwa[Nat.zero_add] at this
 obtain⟨b1,b2,b3,b4⟩:=b
 have hjl:=b3.1
 rcases b4 with b4|⟨hp,e,f,he1,he2,he3,he4,he5,he6,he7⟩|⟨hp,e,he1,he2,he3,he4⟩
 ·exact hdir _ ⟨b1,b2,b3, .inl b4⟩
 ·have ce:=q5t (by omega:e<l.length) he4
  have cf:=q5t (by omega:f<l.length) he5
  have def':DI l e f:=⟨he2,ce,cf, .inr ⟨he4, .inl he5⟩⟩
  have dfj:DI l f j:=⟨he3,cf,b3, .inl he7⟩
  by_cases hie:i=e
  ·subst hie
   exact q8t he2 he3 (hdir _ def') (hdir _ dfj) (by omega)
  ·have die:DI l i e:=⟨by omega,b2,ce, .inl he6.symm⟩
   have hif:qaf h f i f=true:=q8t (by omega) he2 (hdir _ die) (hdir _ def') he2
   exact q8t (by omega) he3 hif (hdir _ dfj) (by omega)
 ·have ce:=q5t (by omega:e<l.length) he3
  have hj:=qhG hw hjl
  unfold q2i at hp
  have dej:DI l e j:=⟨he2,ce,b3, .inr ⟨he3,by omega⟩⟩
  by_cases hie:i=e
  ·subst hie;exact hdir _ dej
  ·exact q8t (by omega) he2 (hdir _ ⟨by omega,b2,ce, .inl he4.symm⟩) (hdir _ dej) (by omega)
end Go.Proofs.YtkieffpjjfebjaaGreatDoor
