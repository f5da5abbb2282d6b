/- What the laws share, part 13. No condition. -/
import Derived.Test.YtbhbldllneadeaaGreatDoorChecked
import Derived.Shelf.SlMaps.Clone
import Derived.Test.YtbhbldllneadeaaGreatDoorQ12
set_option maxHeartbeats 8000000
set_option maxRecDepth 10000
namespace Go.Proofs.YtbhbldllneadeaaGreatDoor
open Go
set_option maxHeartbeats 2000000 in
theorem q83(b:Nat)(es:Array MapEntry)(clock:Nat)(w:World)(hb:w.heap[b]? =some (.map es clock)):
  Calls Tryz.prog 132 #[.map (some b)] w fun e w'=>e= .returned (.map (some w.heap.size))∧w'=w.alloc (.map es clock):=by
 have hq:=fun w=>run_eql_map_nil_sl (P:=Tryz.prog) w 148 _ _ (some b) Tryz.underlying148
 go_enter Tryz.func132,Tryz.ntmps132
 go_wp2
 rw[run_callFunc_extern Tryz.func202 (by kernel_rfl) (by kernel_rfl) (by kernel_rfl) (e:=Extern.MapsClone.clone) (by kernel_rfl),run_maps_clone_sl w 148 hb];simp only[Result.andThen];rw[Oper.upon_value]
 go_wp2
 rw[run_typeAssert_map_sl _ 148 20 _ _ _ Tryz.underlying148];simp only[Result.andThen];rw[Oper.upon_value]
 go_wp2
 go_ret
 exact⟨rfl,rfl⟩
section
variable{W0:World}{own:Own}
theorem qda{b:Nat}{l:List (Value×Value)} [m:qy b (q2C l) own]:
  qt Tryz.prog W0 132 [.map (some b)] own fun v own'=>∃b':Nat,v= .map (some b')∧Ent W0 own' ((b',q2C l)::own):=by
 intro w hw;obtain⟨o,ho,es,clock,rfl,hl⟩:=hw.owns _ m.h;refine(q83 b es clock w ho).mono fun e w' ⟨he,hw'⟩=> ?_
 subst hw';exact⟨_,(w.heap.size,q2C l)::own,he,hw.push (.map es clock) ⟨es,clock,rfl,hl⟩,w.heap.size,rfl,Ent.refl⟩
end
open Go
class qT(D own:Own)(r:outParam Own):Prop where
 h:own.Perm (D++r)
section
variable{D A r r':Own}{e:Nat×(Obj→Prop)}
instance qT.self:qT D D []:=⟨Y8⟩
instance qT.left [m:qT D A r']:qT D (A++r) (r'++r):=⟨(m.h.append_right r).trans (by rw[zd])⟩
instance qT.skip [m:qT D r r']:qT D (A++r) (A++r'):=⟨(m.h.append_left A).trans (by rw[←zd,←zd];exact Z5.append_right r')⟩
instance qT.tail [m:qT D r r']:qT D (e::r) (e::r'):=⟨(m.h.cons e).trans Zb.symm⟩
instance qT.one:qT [e] (e::r) r:=⟨List.Perm.refl _⟩
instance qT.head:qT D (D++r) r:=⟨List.Perm.refl _⟩
end
instance AtC.self{D:Own}:AtC D D (fun X=>X):=⟨by have:=At.head (D:=D) (r:= []);simpa using this⟩
section
variable{P:Program}{W0:World}{own D r:Own}{k k0:FuncId}{args args0:List Value}
theorem q3v{σ:Type}{R:σ→Value→Prop}{O:σ→Own}{K:Value→Own→Prop} [m:qT D own r](h:qt P W0 k0 args0 (D++r) fun v own'=>∃s,R s v∧Ent W0 own' (O s++r))(ek:k=k0)(ea:args=args0)(hk:∀s v,R s v→K v (O s++r)):q0w P W0 own k args K:=by
 subst ek;subst ea;exact⟨fun w hw=>(h w (Ent.of_perm m.h w hw)).mono fun _ _ ⟨_,_,he,hs,s,hR,hE⟩=>⟨_,O s++r,he,hE _ hs,hk s _ hR⟩⟩
theorem q45{σ:Type}{R:σ→Value→Prop}{O:σ→Own}{K:Value→Own→Prop} [m:qT D own r](h:qt P W0 k0 args0 (D++r) fun v own'=>∃s,R s v∧Ent W0 own' (O s++r))(hk:∀s v,R s v→K v (O s++r))(ek:k=k0:=by exact rfl)(ea:args=args0:=by exact rfl):q0w P W0 own k args K:=q3v h ek ea hk
theorem qm{σ:Type}{R:σ→Value→Prop}{O:σ→Own}{own2:Own}{K:Value→Own→Prop}(h:qt P W0 k0 args0 own2 fun v own'=>∃s,R s v∧Ent W0 own' (O s))(he:Ent W0 own own2)(ek:k=k0)(ea:args=args0)(hk:∀s v,R s v→K v (O s)):q0w P W0 own k args K:=by
 subst ek;subst ea;exact⟨fun w hw=>(h w (he w hw)).mono fun _ _ ⟨_,_,he,hs,s,hR,hE⟩=>⟨_,O s,he,hE _ hs,hk s _ hR⟩⟩
theorem q2g{σ:Type}{Rn:Value→Prop}{On:Own}{R:σ→Value→Prop}{O:σ→Own}{own2:Own}{K:Value→Own→Prop}(h:qt P W0 k0 args0 own2 fun v own'=>(Rn v∧Ent W0 own' On)∨∃s,R s v∧Ent W0 own' (O s))(he:Ent W0 own own2)(ek:k=k0)(ea:args=args0)(hn:∀v,Rn v→K v On)(hk:∀s v,R s v→K v (O s)):q0w P W0 own k args K:=by
 subst ek;subst ea;refine⟨fun w hw=>(h w (he w hw)).mono fun _ _ ⟨_,_,he,hs,h⟩=> ?_⟩
 rcases h with ⟨hR,hE⟩|⟨s,hR,hE⟩
 ·exact⟨_,On,he,hE _ hs,hn _ hR⟩
 ·exact⟨_,O s,he,hE _ hs,hk s _ hR⟩
theorem q1E{v:Value} [m:qT D own r](h:qE P W0 k args (D++r) v):qE P W0 k args own v:=
 fun w hw=>(h w (Ent.of_perm m.h w hw)).mono fun _ _ ⟨he,hs⟩=>⟨he,Ent.of_perm m.h.symm _ hs⟩
end
abbrev Mp:=List (Int×Bool)
abbrev mpV(l:Mp):List (Value×Value):=l.map fun e=>(.int .i64 e.1, .bool e.2)
def mpF:Mp→Int→Option Bool
 | [],_=>none
 |e::l,k=>if k=e.1 then some e.2 else mpF l k
def mpU:Mp→Int→Bool→Mp
 | [],k,v=> [(k,v)]
 |e::l,k,v=>if k=e.1 then(k,v)::l else e::mpU l k v
theorem q8s(k:Int):∀l:Mp,q1J 0 (.int .i64 k) (mpV l)=some ((mpF l k).map Value.bool)
 | []=>rfl
 |e::l=>by
  have ih:=q8s k l;simp only[mpV,zF,q1J,mpF] at ih ⊢
  by_cases h:k=e.1
  ·simp[q0I,kn,h]
  ·simp[q0I,kn,h];exact ih
theorem qgV(k:Int)(v:Bool):∀l:Mp,q52 0 (.int .i64 k) (.bool v) (mpV l)=mpV (mpU l k v)
 | []=>rfl
 |e::l=>by
  have ih:=qgV k v l;simp only[mpV,zF,q52,mpU] at ih ⊢
  by_cases h:k=e.1
  ·simp[q0I,kn,h]
  ·simp[q0I,kn,h];exact ih
theorem qgU(k j:Int)(v:Bool):∀l:Mp,mpF (mpU l k v) j=if j=k then some v else mpF l j
 | []=>by simp[mpU,mpF]
 |e::l=>by
  have ih:=qgU k j v l;unfold mpU
  by_cases h:k=e.1
  ·rw[if_pos h];simp only[mpF]
   by_cases hj:j=k
   ·rw[if_pos hj,if_pos hj]
   ·rw[if_neg hj,if_neg hj,if_neg Y6]
  ·rw[if_neg h];simp only[mpF]
   by_cases hj:j=e.1
   ·rw[if_pos hj,if_pos hj,if_neg Y6]
   ·rw[if_neg hj,if_neg hj];exact ih
def mpR(l:Mp)(tk:List Bool):Prop:=∀k:Nat,(mpF l k).getD false=tk.getD k false
theorem mpR.set{l:Mp}{tk:List Bool}{k:Nat}{v:Bool}(h:mpR l tk)(hk:k<tk.length):mpR (mpU l k v) (tk.set k v):=fun j=>by
 rw[qgU]
 by_cases hj:j=k
 ·subst hj;rw[if_pos rfl];simp[hk]
 ·rw[if_neg Y6,h j];simp[List.getD,Ne.symm hj]
section
variable{W0:World}{own:Own}
theorem qeP{b:Nat}{k:Int}{l:Mp}{v:Bool}{K:Option Value→Prop} [m:qy b (q2C (mpV l)) own](hv:(mpF l k).getD false=v)(hy:K (some (.bool v)))(hn:v=false→K none):qmm own 0 b (.int .i64 k) K:=by
 refine⟨_,_,m.h,q8s k l,?_⟩;cases h:mpF l k with
 |none=>rw[h] at hv;exact hn hv.symm
 |some u=>rw[h] at hv;obtain rfl:u=v:=hv;exact hy
theorem ql6{b:Nat}{k:Int}{l:Mp}{v:Bool}{K:Own→Prop}{C:(Obj→Prop)→Own} [m:UpC b (q2C (mpV l)) own C](h:K (C (q2C (mpV (mpU l k v))))):qne own 0 b (.int .i64 k) (.bool v) K:=by
 refine⟨mpV l,_,m.h _,by rw[q8s];rfl,?_⟩;rw[qgV];exact h
end
abbrev cfL(c:Cfg)(r:List Value):List Value:= .int .i64 c.words:: .int .i64 c.orecs:: .int .i64 c.base:: .int .i64 c.c0:: .int .i64 c.c1:: .int .i64 c.c2:: .int .i64 c.c3:: .int .i64 c.reads:: .int .i64 c.writes:: .int .i64 c.allocs:: .int .i64 c.frees:: .int .i64 c.clock:: .bool c.strong::r
structure TxG where
 xb:Nat
 mb:Nat
 ml:Mp
 da:Option Addr
 dc:Nat
 dD:Own
 aa:Option Addr
 ac:Nat
 ra:Option Addr
 rc:Nat
 rD:Own
 wa:Option Addr
 wc:Nat
 wD:Own
 oa:Option Addr
 oc:Nat
 oD:Own
abbrev TxG.pre(g:TxG)(c:Cfg)(b:BM):List Value:= .slice g.da b.d.length g.dc:: .map (some g.mb)::cfL c []
abbrev TxG.post(g:TxG)(b:BM)(out:Int):List Value:= [.slice g.aa b.ad.length g.ac, .slice g.ra b.r.length g.rc, .slice g.wa b.w.length g.wc, .slice g.oa b.o.length g.oc, .int .i64 out]
abbrev TxG.O(g:TxG)(c:Cfg)(b:BM)(out:Int):Own:=thB g.xb 216 (g.pre c b) (g.post b out) b.t::(g.dD++((g.mb,q2C (mpV g.ml))::(g.rD++(g.wD++g.oD))))
structure TxG.ok(g:TxG)(W0:World)(K:Own)(b:BM):Prop where
 d:qu q09 49 1 g.da g.dc b.d g.dD
 m:mpR g.ml b.tk
 a:RdE qx 1 W0 K g.aa b.ad
 al:b.ad.length≤g.ac
 r:qu qx 3 1 g.ra g.rc b.r g.rD
 w:qu qx 3 1 g.wa g.wc b.w g.wD
 o:qu ObM.enc 78 3 g.oa g.oc b.o g.oD
section
variable{W0:World}{K:Own}{g:TxG}{c:Cfg}{b:BM}{out:Int}
theorem qa2(h:g.ok W0 K b)(hl:b.o.length≤1000000){r:Int}(hr:0≤r∧r<8)(k v:Int)(q:Own):
  qt Tryz.prog W0 282 [.pointer (some ⟨g.xb,0,none⟩), .int .i64 r, .int .i64 k, .int .u64 v] (g.O c b out++q) fun _ own'=>∃g':TxG,
   (g'.ok W0 K {b with t:={b.t with rg:=b.t.rg.set r.toNat v},o:=b.o++ [⟨b.t.pc,k,v⟩]}∧g'.xb=g.xb)∧Ent W0 own' (g'.O c {b with t:={b.t with rg:=b.t.rg.set r.toNat v},o:=b.o++ [⟨b.t.pc,k,v⟩]} out++q):=by
 refine sH [3,5,7,9,11,13,15,17,19,21,23,25,27,30,32,33,35,38,0] ?_;have hO:=h.o;have hr':r.toNat<8:=Y6
 repeat'((try(conv=>whnf));first|(refine q7J (t:=b.t) (pre:=g.pre c b) (post:=g.post b out) hr' ?_ ?_;(simp;omega))|(apply q0p (enc:=ObM.enc) (T:=78) ⟨b.t.pc,k,v⟩ hO;(exact rfl);(exact rfl);(omega);(exact rfl);(exact rfl);(omega);intro a1 c1 D1 hb1)|(refine fP ?_)|(refine fA ?_)|(refine fN ?_)|(refine qf (fun bk hbk=> ?_)))
 refine⟨{g with oa:=a1,oc:=c1,oD:=D1},⟨⟨h.d,h.m,h.a,h.al,h.r,h.w,hb1⟩,rfl⟩,?_⟩;dsimp only[TxG.O,TxG.pre,TxG.post];simp only[z8,zG,zM,zD];exact(eC)
theorem qa9(h:g.ok W0 K b){a:Nat}(ha:a<b.d.length)(hl:b.w.length≤1000000)(v:Int)(q:Own):
  qt Tryz.prog W0 281 [.pointer (some ⟨g.xb,0,none⟩), .int .i64 a, .int .u64 v] (g.O c b out++q) fun _ own'=>∃g':TxG,
   (g'.ok W0 K (wrM b a v)∧g'.xb=g.xb)∧Ent W0 own' (g'.O c (wrM b a v) out++q):=by
 refine sH [] ?_;have hD:=h.d;have hDR:=hD.rd (W0:=W0);have hW:=h.w;obtain⟨x,hx⟩:∃x,b.d[a]? =some x:=⟨_,z6 ha⟩
 have hc:=fun(own':Own) [qv own' g.wD]=>q0q (own:=own') (cap:=g.wc) ((hW.rd (W0:=W0)).up) Y6 a
 by_cases hm:(a:Int)∈b.w
 ·repeat'((try(conv=>whnf));first|(apply qbt;(exact rfl);omega)|(apply q3o (enc:=q09) (T:=49) (j:=a) (k:=0) v hD hx;(exact rfl);(omega);(exact rfl);(exact rfl);intro D1 hb1)|((apply qJ);first|((refine ixE hDR hx ?_ ?_;(first|rfl|omega))))|((apply qe);first|((refine qd (hc _) ?_)))|(refine fA ?_))
  refine⟨{g with dD:=D1},⟨⟨hb1,h.m,h.a,h.al,h.r,?_,h.o⟩,rfl⟩,?_⟩
  ·show qu _ _ _ _ _ (q1G b.w a) _;rw[q1G,if_pos hm];exact hW
  ·dsimp only[TxG.O,TxG.pre,TxG.post,wrM];rw[q1G,if_pos hm,zj];exact(eC)
 ·repeat'((try(conv=>whnf));first|(apply qbs;(exact rfl);omega)|(apply q3o (enc:=q09) (T:=49) (j:=a) (k:=0) v hD hx;(exact rfl);(omega);(exact rfl);(exact rfl);intro D1 hb1)|(apply q0p (enc:=qx) (T:=3) (a:Int) hW;(exact rfl);(exact rfl);(omega);(exact rfl);(exact rfl);(omega);intro a2 c2 D2 hb2)|((apply qJ);first|((refine ixE hDR hx ?_ ?_;(first|rfl|omega))))|((apply qe);first|((refine qd (hc _) ?_)))|(refine fA ?_)|(refine fN ?_)|(refine qf (fun bk hbk=> ?_)))
  refine⟨{g with dD:=D1,wa:=a2,wc:=c2,wD:=D2},⟨⟨hb1,h.m,h.a,h.al,h.r,?_,h.o⟩,rfl⟩,?_⟩
  ·show qu _ _ _ _ _ (q1G b.w a) _;rw[q1G,if_neg hm];exact hb2
  ·dsimp only[TxG.O,TxG.pre,TxG.post,wrM];rw[q1G,if_neg hm,zj];simp only[z8,zG,zM,zD];exact(eC)
end
open Go
noncomputable def qmy:DecidableEq (Nat×(Obj→Prop)):=fun _ _=>Classical.propDecidable _
noncomputable def cnt(a:Nat×(Obj→Prop))(l:Own):Nat:= @List.count _ (@instBEqOfDecidableEq _ qmy) a l
noncomputable def onE(a b:Nat×(Obj→Prop)):Nat:=cnt a [b]
theorem q3w{a:Nat×(Obj→Prop)}{l m:Own}:cnt a (l++m)=cnt a l+cnt a m:=by
 letI:=qmy
 exact List.count_append
theorem qhH{a:Nat×(Obj→Prop)}:cnt a []=0:=rfl
theorem qek{a b:Nat×(Obj→Prop)}{l:Own}:cnt a (b::l)=onE a b+cnt a l:=by
 have:=q3w (a:=a) (l:= [b]) (m:=l);exact this
theorem qeZ{l m:Own}(h:∀a,cnt a l=cnt a m):l.Perm m:=by
 letI:=qmy
 exact List.perm_iff_count.2 h
theorem q02{W0:World}{own own':Own}(d:Own)(h:∀a,cnt a own=cnt a own'+cnt a d:=by intro a;simp only[q3w,qek,qhH];omega):Ent W0 own own':=
 (Ent.of_perm (qeZ (m:=own'++d) fun a=>by rw[q3w];exact h a)).trans Ent.left
abbrev uv(x:Int):Value:= .int .u64 x
structure MH where
 mb:Nat
 mp:Nat
 b:Nat→Nat
 r:Nat→List Value
 n:Nat→Nat
 ml:List (Value×Value)
def MH.e(h:MH)(L:List (List Int))(j:Nat):Nat×(Obj→Prop):=(h.b j,fun o=>o=Obj.cells ((L.getD j []).map uv++h.r j).toArray 49)
abbrev MH.D(h:MH)(L:List (List Int)):Own:=(List.range 8).map (h.e L)
def MH.OL(h:MH)(L:List (List Int)):Own:=(h.mb,fun o=>o=Obj.cells #[.map (some h.mp)] 162)::((h.mp,q2C h.ml)::h.D L)
structure MH.ok(h:MH)(L:List (List Int)):Prop where
 fd:∀k:Nat,k<8→q1J 0 (.int .i64 ((k:Int)+1)) h.ml=some (some (.slice (some ⟨h.b k,0,none⟩) (h.n k) (h.n k+(h.r k).length)))
 ln:∀k:Nat,k<8→(L.getD k []).length=h.n k
 l8:L.length=8
 bd:∀k:Nat,k<8→h.n k≤1000000
theorem Lis.refl:∀l:List Value,Lis l l
 | []=> .nil
 |_::l=> .cons (Lis.refl l)
theorem q7m:∀(l:List Value) (j:Nat) (v:Value),j<l.length→q2M l j v (l.set j v)
 | [],j,v,h=>by simp at h
 |a::l,0,v,_=> .here (Lis.refl l)
 |a::l,j+1,v,h=> .there (q7m l j v (by simpa using h))
theorem At.upd{b:Nat}{p q:Obj→Prop}{D D' own:Own}{C:Own→Own}(h:At D own C)(hu:Up b p q D D'):Up b p q own (C D'):=by
 induction h with
 |head=>exact hu.appl
 |tail _ ih=>exact Up.tail ih
 | @skip A _ _ _ ih=>exact ih.app A
theorem qhd{α:Type}(f g:α→Nat×(Obj→Prop)){x:α}{b:Nat}{p q:Obj→Prop}:∀(l:List α),x∈l→l.Nodup→f x=(b,p)→g x=(b,q)→(∀y,y≠x→g y=f y)→Up b p q (l.map f) (l.map g)
 | [],h,_,_,_,_=>by cases h
 |y::l,h,hn,h1,h2,h3=>by
  rw[ZN] at hn
  by_cases hy:y=x
  ·subst hy;rw[zF,zF,h1,h2,show l.map g=l.map f from List.map_congr_left fun z hz=>h3 z fun e=>hn.1 (e ▸ hz)];exact Up.head
  ·rw[zF,zF,h3 y hy];exact Up.tail (qhd f g l ((zQ.1 h).resolve_left fun e=>hy e.symm) hn.2 h1 h2 h3)
theorem ql5{own:Own}{kk b:Nat}{key:Value}{l:List (Value×Value)}{r:Option Value}{K:Option Value→Prop} [m:qy b (q2C l) own](hf:q1J kk key l=some r)(hk:K r):qmm own kk b key K:=⟨l,r,m.h,hf,hk⟩
section
variable{W0:World}{own:Own}{h:MH}{L:List (List Int)}{k j:Nat}
theorem q4f{L:List (List Int)}{l:List Int}{k i:Nat}(hk:k<L.length):(L.set k l).getD i []=if i=k then l else L.getD i []:=by
 rw[zh,zh,zv]
 by_cases e:k=i
 ·subst e;simp[hk]
 ·rw[if_neg e,if_neg (fun e2=>e e2.symm)]
theorem qif{x:Int}{K:Value→Prop} [m:qv own (h.D L)](hk:k<8)(hj:(L.getD k [])[j]? =some x)(hK:K (uv x)):Ld W0 own ⟨h.b k,0+j*1,none⟩ K:=by
 refine ql1 ((q0E (v:=uv x) (zK.2 ⟨k,Zd.2 hk,rfl⟩) ?_).ent (m.h W0)) hK;have hlt:=(z7.1 hj).1;rw[zL,zD,yl,zy (by simpa using hlt),zI,hj];rfl
theorem qn7{x:Int}{K:Own→Prop}{C:Own→Own} [m:AtC (h.D L) own C](hk:k<8)(hl:L.length=8)(hj:j<(L.getD k []).length)(hK:K (C (h.D (L.set k ((L.getD k []).set j x))))):StT W0 own ⟨h.b k,0+j*1,none⟩ (uv x) K:=by
 have hu:Up (h.b k) (fun o=>o=Obj.cells ((L.getD k []).map uv++h.r k).toArray 49) (fun o=>o=Obj.cells (((L.getD k []).map uv++h.r k).set j (uv x)).toArray 49) (h.D L) (h.D (L.set k ((L.getD k []).set j x))):=by
  refine qhd _ _ _ (Zd.2 hk) List.nodup_range rfl ?_ fun y hy=> ?_
  ·unfold MH.e;rw[q4f Y6,if_pos rfl,yP _ _ (by simpa using hj),yW]
  ·unfold MH.e;rw[q4f Y6,if_neg hy]
 rw[zD,yl];exact qlK (m.h.upd hu) (by rw[zL];exact q7m _ _ _ (by rw[z8,zk];omega)) rfl hK
theorem MH.ok.set{x:Int}(hM:h.ok L):h.ok (L.set k ((L.getD k []).set j x)):=by
 refine⟨hM.fd,fun i hi=> ?_,by rw[zj];exact hM.l8,hM.bd⟩
 by_cases hk:k<L.length
 ·rw[q4f hk]
  split
  ·rename_i e;subst e;rw[zj];exact hM.ln i hi
  ·exact hM.ln i hi
 ·rw[List.set_eq_of_length_le Y6];exact hM.ln i hi
theorem qaT{x v kd:Int}{dn:Bool}{g:FuncId}{caps:List Value}(hM:h.ok L)(hk:k<8)(hj:(L.getD k [])[j]? =some x)(hok:okF Tryz.prog g=true)(Q:Own)(hf:∀(own':Own) [qv own' Q],qE Tryz.prog W0 g (uv x::caps) own' (.tuple #[uv v, .bool dn])):
  qt Tryz.prog W0 221 [.pointer (some ⟨h.mb,0,none⟩), .int .i64 kd, .int .i64 ((k:Int)+1), .int .i64 j, .func (.func g) #[] caps.toArray] (h.OL L++Q) fun r own'=>
   ∃_:Unit,r= .tuple #[(⟨kd,(k:Int)+1,j,x,if dn then v else x,dn⟩:AcM).v, .int .i64 0]∧Ent W0 own' (h.OL (if dn then L.set k ((L.getD k []).set j v) else L)++Q):=by
 refine qD (sH [] ?_);have hlt:=(z7.1 hj).1;have hn:=hM.ln k hk;have hb:=hM.bd k hk;have hjn:(j:Int)<h.n k:=Y6;have hj0:¬(j:Int)<0:=Y6;have hfd:=hM.fd k hk;unfold MH.OL;rw[zl,zl];cases dn with
 |true=>
  have hj':((L.set k ((L.getD k []).set j v)).getD k [])[j]? =some v:=by rw[q4f (by rw[hM.l8];exact hk),if_pos rfl,zv,if_pos rfl,if_pos hlt]
  rw[if_pos rfl]
  repeat'((try(conv=>whnf));first|(refine fH ?_)|(refine fE ?_)|(refine fD ?_)|(refine fG ?_)|(refine ql5 hfd ?_)|(refine q8m ?_ ?_;omega)|(refine qif hk hj' ?_)|(refine qif hk hj ?_)|(refine qn7 hk hM.l8 hlt ?_)|(refine q2X.mk ⟨hok,?_⟩)|((apply qe);first|((refine qd (hf _) ?_)))|(refine fO ?_)|(refine fA ?_)|(refine fL ?_)|(refine fM ?_)|(refine qf (fun bk hbk=> ?_)))
  all_goals exact⟨rfl,(eC)⟩
 |false=>
  repeat'((try(conv=>whnf));first|(refine fH ?_)|(refine fD ?_)|(refine fG ?_)|(refine ql5 hfd ?_)|(refine q8m ?_ ?_;omega)|(refine qif hk hj ?_)|(refine q2X.mk ⟨hok,?_⟩)|((apply qe);first|((refine qd (hf _) ?_)))|(refine fO ?_)|(refine fA ?_)|(refine fL ?_)|(refine fM ?_)|(refine qf (fun bk hbk=> ?_)))
  all_goals exact⟨rfl,(eC)⟩
end
structure Sb(own own':Own):Prop where
 h:∃d,own.Perm (own'++d)
section
variable{W0:World}{own r r' A D:Own}{b:Nat}{p q:Obj→Prop}{e:Nat×(Obj→Prop)}
theorem qlh(h:Sb own r):Ent W0 own r:=by obtain⟨d,hd⟩:=h.h;exact(Ent.of_perm hd).trans Ent.left
theorem qiE:Sb own own:=⟨[],by rw[zC]⟩
theorem qli:Sb own []:=⟨own,List.Perm.refl _⟩
theorem qiD(h:Sb own r):Sb (e::own) r:=by obtain⟨d,hd⟩:=h.h;exact⟨e::d,(hd.cons e).trans Zb.symm⟩
theorem qlg(h:Sb own r):Sb (A++own) r:=by
 obtain⟨d,hd⟩:=h.h;refine⟨A++d,(hd.append_left A).trans ?_⟩;rw[←zd,←zd];exact Z5.append_right d
theorem qmU [m:qT D own r](h:Sb r r'):Sb own (D++r'):=by
 obtain⟨d,hd⟩:=h.h;exact⟨d,by rw[zd];exact m.h.trans (hd.append_left D)⟩
theorem qmV [m:q1r b p own r](e:p=q)(h:Sb r r'):Sb own ((b,q)::r'):=by
 subst e;obtain⟨d,hd⟩:=h.h;exact⟨d,m.h.trans (hd.cons _)⟩
theorem sbE{own r:Own}(h:Sb own r:=by(repeat(first|exact qiE|exact qli|refine qmU ?_|refine qmV rfl ?_|refine qiD ?_|refine qlg ?_))):Ent W0 own r:=qlh h
end
section
variable{W0:World}{h:MH}{L:List (List Int)}{k j:Nat}{x:Int}
theorem qfy(own:Own)(v:Int):qE Tryz.prog W0 222 [uv v] own (.tuple #[uv v, .bool true]):=by
 refine qg (sH [] ?_)
 all_goals exact⟨rfl,(eC)⟩
theorem qk{own:Own}{b off:Nat}{cs:Array Value}{T:TypeId}{fz:Nat×Nat}{v:Value}(m:qy b (fun o=>o=Obj.cells cs T fz) own)(hv:cs.toList[off]? =some v):Cl W0 own b off v:=q0E m.h hv
theorem qdo{own:Own}{b:Nat}{v:Int}(o:Int)(hc:Cl W0 own b 0 (uv v)):qE Tryz.prog W0 260 [uv o, .pointer (some ⟨b,0,none⟩)] own (.tuple #[uv v, .bool true]):=by
 refine qg (sH [] ?_)
 repeat'((try(conv=>whnf));first|((apply gLd);first|(refine ldK hc ?_)))
 all_goals exact⟨rfl,(eC)⟩
theorem qiL{own:Own}{b:Nat}{v:Int}(o:Int)(hc:Cl W0 own b 0 (uv v)):qE Tryz.prog W0 305 [uv o, .pointer (some ⟨b,0,none⟩)] own (.tuple #[uv (qM (o+v)), .bool true]):=by
 refine qg (sH [] ?_)
 repeat'((try(conv=>whnf));first|(refine arw (k:= .u64) ?_)|((apply gLd);first|(refine ldK hc ?_)))
 all_goals exact⟨rfl,(eC)⟩
theorem qfO{own:Own}{b b2:Nat}{v z:Int}(o:Int)(hc:Cl W0 own b 0 (uv v))(hc2:Cl W0 own b2 0 (uv z)):qE Tryz.prog W0 291 [uv o, .pointer (some ⟨b,0,none⟩), .pointer (some ⟨b2,0,none⟩)] own (.tuple #[uv v, .bool (decide (o=z))]):=by
 refine qg (sH [3,5,7,9,11,13,0] ?_)
 repeat'((try(conv=>whnf));first|((apply gLd);first|(refine ldK hc ?_)|(refine ldK hc2 ?_)))
 all_goals exact⟨rfl,(eC)⟩
theorem qmJ:okF Tryz.prog 222=true:=by kernel_rfl
theorem qmK:okF Tryz.prog 260=true:=by kernel_rfl
theorem qmL:okF Tryz.prog 291=true:=by kernel_rfl
theorem qmM:okF Tryz.prog 305=true:=by kernel_rfl
theorem qfe(hM:h.ok L)(hk:k<8)(hj:(L.getD k [])[j]? =some x):L.set k ((L.getD k []).set j x)=L:=by
 obtain⟨h2,h3⟩:=z7.1 hj;have h4:k<L.length:=by rw[hM.l8];exact hk
 rw[show(L.getD k []).set j x=L.getD k [] by rw[←h3];exact yH h2,zh,z6 h4,Z3];exact yH h4
section
variable{own r:Own}{f:FuncId}{args:List Value}{K:Value→Own→Prop}{v kd:Int}{dn:Bool}{g:FuncId}
theorem q7Z{caps:List Value}{q:Int}{L':List (List Int)} [m:qT (h.OL L) own r](hM:h.ok L)(hk:k<8)(hj:(L.getD k [])[j]? =some x)(hok:okF Tryz.prog g=true)(hq:q=if dn then v else x)(hL:L'=if dn then L.set k ((L.getD k []).set j v) else L)(ek:f=221)
  (ea:args= [.pointer (some ⟨h.mb,0,none⟩), .int .i64 kd, .int .i64 ((k:Int)+1), .int .i64 j, .func (.func g) #[] caps.toArray]) (hf:∀own':Own,qv own' r→qE Tryz.prog W0 g (uv x::caps) own' (.tuple #[uv v, .bool dn]))
  (hK:K (.tuple #[(⟨kd,(k:Int)+1,j,x,q,dn⟩:AcM).v, .int .i64 0]) (h.OL L'++r)):q0w Tryz.prog W0 own f args K:=
 q3v (qaT (kd:=kd) hM hk hj hok r fun own' e=>hf own' e) ek ea fun _ _ hv=>by subst hv;subst hq;subst hL;exact hK
theorem q98{b:Nat}{z q:Int}{L':List (List Int)} [m:qT (h.OL L) own r](hM:h.ok L)(hk:k<8)(hj:(L.getD k [])[j]? =some x)(hok:okF Tryz.prog g=true)(hq:q=if dn then v else x)(hL:L'=if dn then L.set k ((L.getD k []).set j v) else L)(hf:∀(b:Nat) (own':Own),Cl W0 own' b 0 (uv z)→qE Tryz.prog W0 g [uv x, .pointer (some ⟨b,0,none⟩)] own' (.tuple #[uv v, .bool dn]))(ek:f=221)
  (ea:args= [.pointer (some ⟨h.mb,0,none⟩), .int .i64 kd, .int .i64 ((k:Int)+1), .int .i64 j, .func (.func g) #[] #[.pointer (some ⟨b,0,none⟩)]]) (mm:qy b (fun o=>o=Obj.cells #[uv z] 49) r)
  (hK:K (.tuple #[(⟨kd,(k:Int)+1,j,x,q,dn⟩:AcM).v, .int .i64 0]) (h.OL L'++r)):q0w Tryz.prog W0 own f args K:=
 q7Z (caps:= [_]) hM hk hj hok hq hL ek ea (fun own' e=>hf _ own' ((qk mm rfl).ent (e.h W0))) hK
theorem qeg{b b2:Nat}{z z2 q:Int}{L':List (List Int)} [m:qT (h.OL L) own r](hM:h.ok L)(hk:k<8)(hj:(L.getD k [])[j]? =some x)(hok:okF Tryz.prog g=true)(hq:q=if dn then v else x)(hL:L'=if dn then L.set k ((L.getD k []).set j v) else L)(hf:∀(b b2:Nat) (own':Own),Cl W0 own' b 0 (uv z)→Cl W0 own' b2 0 (uv z2)→qE Tryz.prog W0 g [uv x, .pointer (some ⟨b,0,none⟩), .pointer (some ⟨b2,0,none⟩)] own' (.tuple #[uv v, .bool dn]))(ek:f=221)
  (ea:args= [.pointer (some ⟨h.mb,0,none⟩), .int .i64 kd, .int .i64 ((k:Int)+1), .int .i64 j, .func (.func g) #[] #[.pointer (some ⟨b,0,none⟩), .pointer (some ⟨b2,0,none⟩)]]) (mm:qy b (fun o=>o=Obj.cells #[uv z] 49) r) (mm2:qy b2 (fun o=>o=Obj.cells #[uv z2] 49) r)
  (hK:K (.tuple #[(⟨kd,(k:Int)+1,j,x,q,dn⟩:AcM).v, .int .i64 0]) (h.OL L'++r)):q0w Tryz.prog W0 own f args K:=
 q7Z (caps:= [_,_]) hM hk hj hok hq hL ek ea (fun own' e=>hf _ _ own' ((qk mm rfl).ent (e.h W0)) ((qk mm2 rfl).ent (e.h W0))) hK
end
theorem qiU(hM:h.ok L)(hk:k<8)(hj:(L.getD k [])[j]? =some x)(Q:Own):
  qt Tryz.prog W0 157 [.pointer (some ⟨h.mb,0,none⟩), .int .i64 ((k:Int)+1), .int .i64 j] (h.OL L++Q) fun r own'=>
   ∃_:Unit,r= .tuple #[(acL ((k:Int)+1) j x).v, .int .i64 0]∧Ent W0 own' (h.OL L++Q):=by
 refine qD (sH [] ?_);have hL:=(qfe hM hk hj).symm
 repeat'((try(conv=>whnf));first|((apply qe);first|((refine q7Z (kd:=1) (dn:=true) (v:=x) (caps:= []) hM hk hj qmJ rfl hL ?_ ?_ (fun own' _=>qfy own' x) ?_;(exact rfl);(exact rfl))))|(refine fO ?_)|(refine fL ?_)|(refine fM ?_)|(refine qf (fun bk hbk=> ?_)))
 exact⟨rfl,sbE⟩
theorem qfN(hM:h.ok L)(hk:k<8)(hj:(L.getD k [])[j]? =some x)(v:Int)(Q:Own):
  qt Tryz.prog W0 173 [.pointer (some ⟨h.mb,0,none⟩), .int .i64 ((k:Int)+1), .int .i64 j,uv v] (h.OL L++Q) fun r own'=>
   ∃_:Unit,r= .tuple #[(acS ((k:Int)+1) j x v).v, .int .i64 0]∧Ent W0 own' (h.OL (L.set k ((L.getD k []).set j v))++Q):=by
 refine qD (sH [] ?_)
 repeat'((try(conv=>whnf));first|((apply qe);first|((refine q98 (b:= ?_) (kd:=2) (dn:=true) (v:=v) hM hk hj qmK (if_pos rfl).symm (if_pos rfl).symm (fun _ _ hc=>qdo x hc) ?_ ?_ ?_ ?_;rotate_left;(exact rfl);(exact rfl);(exact Y9))))|(refine fO ?_)|(refine fL ?_)|(refine fM ?_)|(refine qf (fun bk hbk=> ?_)))
 all_goals exact⟨rfl,sbE⟩
theorem qlm(hM:h.ok L)(hk:k<8)(hj:(L.getD k [])[j]? =some x)(v:Int)(Q:Own):
  qt Tryz.prog W0 295 [.pointer (some ⟨h.mb,0,none⟩), .int .i64 ((k:Int)+1), .int .i64 j,uv v] (h.OL L++Q) fun r own'=>
   ∃_:Unit,r= .tuple #[(acA ((k:Int)+1) j x v).v, .int .i64 0]∧Ent W0 own' (h.OL (L.set k ((L.getD k []).set j (qM (x+v))))++Q):=by
 refine qD (sH [] ?_)
 repeat'((try(conv=>whnf));first|((apply qe);first|((refine q98 (b:= ?_) (kd:=4) (dn:=true) (v:=qM (x+v)) hM hk hj qmM (if_pos rfl).symm (if_pos rfl).symm (fun _ _ hc=>qiL x hc) ?_ ?_ ?_ ?_;rotate_left;(exact rfl);(exact rfl);(exact Y9))))|(refine fO ?_)|(refine fL ?_)|(refine fM ?_)|(refine qf (fun bk hbk=> ?_)))
 all_goals exact⟨rfl,sbE⟩
theorem qj9(hM:h.ok L)(hk:k<8)(hj:(L.getD k [])[j]? =some x)(z v:Int)(Q:Own):
  qt Tryz.prog W0 226 [.pointer (some ⟨h.mb,0,none⟩), .int .i64 ((k:Int)+1), .int .i64 j,uv z,uv v] (h.OL L++Q) fun r own'=>
   ∃_:Unit,r= .tuple #[(acW ((k:Int)+1) j x v (decide (x=z))).v, .int .i64 0]∧Ent W0 own' (h.OL (if x=z then L.set k ((L.getD k []).set j v) else L)++Q):=by
 refine qD (sH [] ?_)
 repeat'((try(conv=>whnf));first|((apply qe);first|((refine qeg (b:= ?_) (b2:= ?_) (kd:=3) (dn:=decide (x=z)) (v:=v) (q:=if decide (x=z) then v else x) (L':=if x=z then L.set k ((L.getD k []).set j v) else L) hM hk hj qmL rfl (by simp only[decide_eq_true_eq]) (fun _ _ _ hc hc2=>qfO x hc hc2) ?_ ?_ ?_ ?_ ?_;rotate_left;rotate_left;(exact rfl);(exact rfl);(exact Y9);(exact Y9))))|(refine fO ?_)|(refine fL ?_)|(refine fM ?_)|(refine qf (fun bk hbk=> ?_)))
 all_goals exact⟨rfl,sbE⟩
end
open Go
def MH.O(h:MH)(m:MS):Own:=h.OL m.L
section
variable{P:Program}{W0:World}{own D r r1:Own}{f f0:FuncId}{args args0:List Value}{b:Nat}{p p':Obj→Prop}
theorem q64{σ:Type}{R:σ→Value→Prop}{O:σ→Own}{K:Value→Own→Prop} [m1:q1r b p own r1] [m2:qT D r1 r](h:qt P W0 f0 args0 ((b,p')::(D++r)) fun v own'=>∃s,R s v∧Ent W0 own' (O s))(ep:p=p')(ek:f=f0)(ea:args=args0)(hk:∀s v,R s v→K v (O s)):q0w P W0 own f args K:=by
 subst ek;subst ea;subst ep;exact⟨fun w hw=>(h w (Ent.of_perm (m1.h.trans (m2.h.cons _)) w hw)).mono fun _ _ ⟨_,_,he,hs,s,hR,hE⟩=>⟨_,O s,he,hE _ hs,hk s _ hR⟩⟩
theorem qB{σ:Type}{R:σ→Value→Prop}{O:σ→Own}{K:Value→Own→Prop} [m1:q1r b p own r1] [m2:qT D r1 r](h:qt P W0 f0 args0 ((b,p')::(D++r)) fun v own'=>∃s,R s v∧Ent W0 own' (O s))(hk:∀s v,R s v→K v (O s))(ep:p=p':=by exact rfl)(ek:f=f0:=by exact rfl)(ea:args=args0:=by exact rfl):q0w P W0 own f args K:=q64 h ep ek ea hk
end
section
variable{W0:World}{own r:Own}{f:FuncId}{args:List Value}{K:Value→Own→Prop}{h:MH}{m m':MS}{k j:Nat}{x v:Int}
theorem q0O [qT (h.O m) own r](k j:Nat)(hM:h.ok m.L)(hk:k<8)(hj:(m.L.getD k [])[j]? =some x)(ek:f=157)(ea:args= [.pointer (some ⟨h.mb,0,none⟩), .int .i64 ((k:Int)+1), .int .i64 j])
  (hK:K (.tuple #[(acL ((k:Int)+1) j x).v, .int .i64 0]) (h.O m++r)):q0w Tryz.prog W0 own f args K:=
 q3v (D:=h.O m) (qiU hM hk hj r) ek ea fun _ _ hv=>by subst hv;exact hK
theorem q2h [qT (h.O m) own r](k j:Nat)(v:Int)(m':MS)(hM:h.ok m.L)(hk:k<8)(hj:(m.L.getD k [])[j]? =some x)(hm:m'.L=m.L.set k ((m.L.getD k []).set j v))(ek:f=173)(ea:args= [.pointer (some ⟨h.mb,0,none⟩), .int .i64 ((k:Int)+1), .int .i64 j,uv v])
  (hK:K (.tuple #[(acS ((k:Int)+1) j x v).v, .int .i64 0]) (h.O m'++r)):q0w Tryz.prog W0 own f args K:=
 q3v (D:=h.O m) (by have:=qfN (W0:=W0) hM hk hj v r;rw[←hm] at this;exact this) ek ea fun _ _ hv=>by subst hv;exact hK
theorem qhw [qT (h.O m) own r](k j:Nat)(v:Int)(m':MS)(hM:h.ok m.L)(hk:k<8)(hj:(m.L.getD k [])[j]? =some x)(hm:m'.L=m.L.set k ((m.L.getD k []).set j (qM (x+v))))(ek:f=295)(ea:args= [.pointer (some ⟨h.mb,0,none⟩), .int .i64 ((k:Int)+1), .int .i64 j,uv v])
  (hK:K (.tuple #[(acA ((k:Int)+1) j x v).v, .int .i64 0]) (h.O m'++r)):q0w Tryz.prog W0 own f args K:=
 q3v (D:=h.O m) (by have:=qlm (W0:=W0) hM hk hj v r;rw[←hm] at this;exact this) ek ea fun _ _ hv=>by subst hv;exact hK
theorem qbv [qT (h.O m) own r](k j:Nat)(z v:Int)(m':MS)(hM:h.ok m.L)(hk:k<8)(hj:(m.L.getD k [])[j]? =some x)(hm:m'.L=if x=z then m.L.set k ((m.L.getD k []).set j v) else m.L)(ek:f=226)(ea:args= [.pointer (some ⟨h.mb,0,none⟩), .int .i64 ((k:Int)+1), .int .i64 j,uv z,uv v])
  (hK:K (.tuple #[(acW ((k:Int)+1) j x v (decide (x=z))).v, .int .i64 0]) (h.O m'++r)):q0w Tryz.prog W0 own f args K:=
 q3v (D:=h.O m) (by have:=qj9 (W0:=W0) hM hk hj z v r;rw[←hm] at this;exact this) ek ea fun _ _ hv=>by subst hv;exact hK
end
section
variable{W0:World}{own:Own}
theorem q5P(o:Int)(h:okU o):qE Tryz.prog W0 293 [uv o] own (.int .i64 (q5V o)):=by
 refine qg (sH [] ?_);unfold okU at h
 repeat'((try(conv=>whnf));first|(refine qmS ?_ ?_;omega)|(refine fB ?_))
 all_goals exact⟨rfl,(eC)⟩
theorem q7v(o:Int)(h:okU o):qE Tryz.prog W0 292 [uv o] own (.int .i64 (q3R o)):=by
 refine qg (sH [] ?_);unfold okU at h
 repeat'((try(conv=>whnf));first|(refine fB ?_)|(refine q8A ?_ ?_;omega))
 all_goals exact⟨rfl,(eC)⟩
theorem qg8(v:Int)(h:0≤v∧v≤1099511627776):qE Tryz.prog W0 256 [.int .i64 v] own (.tuple #[uv (v*64), .int .i64 0]):=by
 have hv:qE Tryz.prog W0 297 [.int .i64 v] own (.bool true):=by
  refine qg (sH [] ?_)
  repeat'((try(conv=>whnf));first|(refine fH ?_)|(refine fJ ?_))
  all_goals exact⟨q0J (vb (decide_eq_true Y6)),(eC)⟩
 refine qg (sH [] ?_)
 repeat'((try(conv=>whnf));first|(refine fD ?_)|((apply qe);first|((refine qd (hv) ?_)))|(refine fC ?_))
 all_goals exact⟨rfl,(eC)⟩
end
section
variable{W0:World}{own:Own}{h:MH}{m:MS}{b t:Nat}{c x:Int}
abbrev enP(t n:Nat)(c:Int):Obj→Prop:=fun o=>o=Obj.cells #[.int .i64 t, .int .i64 n,uv c] 342 (0,0)
theorem q8L(t:Nat)(Q:Own):qt Tryz.prog W0 271 [.int .i64 t] Q fun v own'=>∃b:Nat,v= .pointer (some ⟨b,0,none⟩)∧Ent W0 own' ((b,enP t 0 0)::Q):=by
 refine sH [] ?_
 repeat'((try(conv=>whnf));first|(refine qf (fun bk hbk=> ?_)))
 all_goals exact⟨_,rfl,Ent.refl⟩
theorem qcU(hM:h.ok m.L)(hj:m.sl[t]? =some x)(Q:Own):qt Tryz.prog W0 228 [.pointer (some ⟨b,0,none⟩), .pointer (some ⟨h.mb,0,none⟩)] ((b,enP t 0 c)::(h.O m++Q)) fun v own'=>
  ∃_:Unit,v=(acS 6 t x 1).v∧Ent W0 own' ((b,enP t 1 c)::(h.O {m with sl:=m.sl.set t 1}++Q)):=by
 refine qD (sH [3,5,7,9,11,13,15,17,19,21,24,25,27,29,32,0] ?_)
 repeat'((try(conv=>whnf));first|(refine fE ?_)|((apply qe);first|((refine q2h 5 t 1 {m with sl:=m.sl.set t 1} hM Y7 hj rfl ?_ ?_ ?_;(exact rfl);(exact rfl))))|(refine fB ?_)|(refine fO ?_)|(refine fA ?_)|(refine fL ?_)|(refine fN ?_)|(refine fM ?_)|(refine qf (fun bk hbk=> ?_)))
 all_goals exact⟨rfl,sbE⟩
theorem qcV(hM:h.ok m.L)(Q:Own):qt Tryz.prog W0 228 [.pointer (some ⟨b,0,none⟩), .pointer (some ⟨h.mb,0,none⟩)] ((b,enP t 1 c)::(h.O m++Q)) fun v own'=>
  ∃_:Unit,v=(acL 3 0 m.ck).v∧Ent W0 own' ((b,enP t 2 m.ck)::(h.O m++Q)):=by
 refine qD (sH [3,5,7,9,11,13,15,17,19,21,24,25,27,29,32,0] ?_)
 repeat'((try(conv=>whnf));first|(refine fE ?_)|(refine fD ?_)|((apply qe);first|((refine q0O 2 0 hM Y7 rfl ?_ ?_ ?_;(exact rfl);(exact rfl))))|(refine fB ?_)|(refine fO ?_)|(refine fA ?_)|(refine fL ?_)|(refine fN ?_)|(refine fM ?_)|(refine qf (fun bk hbk=> ?_)))
 all_goals exact⟨rfl,sbE⟩
theorem qcW(hM:h.ok m.L)(hj:m.sl[t]? =some x)(Q:Own):qt Tryz.prog W0 228 [.pointer (some ⟨b,0,none⟩), .pointer (some ⟨h.mb,0,none⟩)] ((b,enP t 2 c)::(h.O m++Q)) fun v own'=>
  ∃_:Unit,v=(acS 6 t x (qM (c+2))).v∧Ent W0 own' ((b,enP t 3 c)::(h.O {m with sl:=m.sl.set t (qM (c+2))}++Q)):=by
 refine qD (sH [3,5,7,9,11,13,15,17,19,21,24,25,27,29,32,0] ?_)
 repeat'((try(conv=>whnf));first|(refine fE ?_)|(refine fD ?_)|(refine arw (k:= .u64) ?_)|((apply qe);first|((refine q2h 5 t (qM (c+2)) {m with sl:=m.sl.set t (qM (c+2))} hM Y7 hj rfl ?_ ?_ ?_;(exact rfl);(exact rfl))))|(refine fB ?_)|(refine fO ?_)|(refine fA ?_)|(refine fL ?_)|(refine fN ?_)|(refine fM ?_)|(refine qf (fun bk hbk=> ?_)))
 all_goals exact⟨rfl,sbE⟩
theorem q4O{n:Int}(h1:Cl W0 own b 1 (.int .i64 n)):qE Tryz.prog W0 229 [.pointer (some ⟨b,0,none⟩)] own (.bool (decide (n=3))):=by
 refine qg (sH [] ?_)
 repeat'((try(conv=>whnf));first|(refine q0d h1 ?_))
 all_goals exact⟨rfl,(eC)⟩
theorem q3J{n:Int}(h1:Cl W0 own b 1 (.int .i64 n))(h2:Cl W0 own b 2 (uv c))(hb:0≤c∧c≤1099511627776):qE Tryz.prog W0 227 [.pointer (some ⟨b,0,none⟩)] own (.int .i64 (if n≤1 then-1 else c)):=by
 refine qg (sH [] ?_)
 repeat'((try(conv=>whnf));first|(refine q0d h1 ?_)|(refine q0d h2 ?_)|(refine fB ?_)|(apply qee;(exact rfl);all_goals intro hc))
 ·exact⟨q0J (vi (if_pos hc).symm),(eC)⟩
 ·exact⟨q0J (vi (if_neg hc).symm),(eC)⟩
theorem qfu(hM:h.ok m.L)(hj:m.sl[t]? =some x)(Q:Own):qt Tryz.prog W0 178 [.pointer (some ⟨h.mb,0,none⟩), .int .i64 t] (h.O m++Q) fun v own'=>
  ∃_:Unit,v=(acS 6 t x 0).v∧Ent W0 own' (h.O {m with sl:=m.sl.set t 0}++Q):=by
 refine qD (sH [] ?_)
 repeat'((try(conv=>whnf));first|((apply qe);first|((refine q2h 5 t 0 {m with sl:=m.sl.set t 0} hM Y7 hj rfl ?_ ?_ ?_;(exact rfl);(exact rfl))))|(refine fO ?_)|(refine fL ?_)|(refine fM ?_)|(refine qf (fun bk hbk=> ?_)))
 all_goals exact⟨rfl,sbE⟩
abbrev tnP(tk:Bool)(c:Int)(dn:Bool):Obj→Prop:=fun o=>o=Obj.cells #[.bool tk,uv c, .bool dn] 324 (0,0)
theorem q5M(Q:Own):qt Tryz.prog W0 242 [] Q fun v own'=>∃b:Nat,v= .pointer (some ⟨b,0,none⟩)∧Ent W0 own' ((b,tnP false 0 false)::Q):=by
 refine sH [] ?_
 repeat'((try(conv=>whnf));first|(refine qf (fun bk hbk=> ?_)))
 all_goals exact⟨_,rfl,Ent.refl⟩
theorem qg5(hM:h.ok m.L)(Q:Own):qt Tryz.prog W0 243 [.pointer (some ⟨b,0,none⟩), .pointer (some ⟨h.mb,0,none⟩)] ((b,tnP false 0 false)::(h.O m++Q)) fun v own'=>
  ∃_:Unit,v=(acA 4 0 m.tk 1).v∧Ent W0 own' ((b,tnP true m.tk false)::(h.O {m with tk:=qM (m.tk+1)}++Q)):=by
 refine qD (sH [3,5,7,11,13,1,9,16,17,19,22,0,16,9,17,19,22,0,3,5,7,9,11,13,15,17,19,21,24,0] ?_)
 repeat'((try(conv=>whnf));first|(refine fE ?_)|(refine fD ?_)|((apply qe);first|((refine qhw 3 0 1 {m with tk:=qM (m.tk+1)} hM Y7 rfl rfl ?_ ?_ ?_;(exact rfl);(exact rfl))))|(refine fO ?_)|(refine fA ?_)|(refine fL ?_)|(refine fN ?_)|(refine fM ?_)|(refine qf (fun bk hbk=> ?_))|(refine q1c.mk ?_ ?_))
 all_goals exact⟨rfl,sbE⟩
theorem qg6(hM:h.ok m.L)(Q:Own):qt Tryz.prog W0 243 [.pointer (some ⟨b,0,none⟩), .pointer (some ⟨h.mb,0,none⟩)] ((b,tnP true c false)::(h.O m++Q)) fun v own'=>
  ∃_:Unit,v=(acL 5 0 m.sv).v∧Ent W0 own' ((b,tnP true c (decide (m.sv=c)))::(h.O m++Q)):=by
 refine qD (sH [3,5,7,11,13,1,9,16,17,19,22,0,16,9,17,19,22,0,3,5,7,9,11,13,15,17,19,21,24,0] ?_)
 repeat'((try(conv=>whnf));first|(refine fD ?_)|((apply qe);first|((refine q0O 4 0 hM Y7 rfl ?_ ?_ ?_;(exact rfl);(exact rfl))))|(refine fO ?_)|(refine fA ?_)|(refine fL ?_)|(refine fN ?_)|(refine fM ?_)|(refine qf (fun bk hbk=> ?_)))
 all_goals exact⟨rfl,sbE⟩
theorem q4W{d:Bool}(h2:Cl W0 own b 2 (.bool d)):qE Tryz.prog W0 244 [.pointer (some ⟨b,0,none⟩)] own (.bool d):=by
 refine qg (sH [] ?_)
 repeat'((try(conv=>whnf));first|(refine q0d h2 ?_))
 all_goals exact⟨rfl,(eC)⟩
theorem qdv(h0:Cl W0 own b 0 (.bool true))(h1:Cl W0 own b 1 (uv c))(hc:0≤c∧c≤1099511627776):qE Tryz.prog W0 175 [.pointer (some ⟨b,0,none⟩)] own (.int .i64 c):=by
 refine qg (sH [] ?_)
 repeat'((try(conv=>whnf));first|(refine q0d h1 ?_)|((apply gLd);first|(refine ldK h0 ?_))|(refine fD ?_)|(refine fB ?_))
 all_goals exact⟨rfl,(eC)⟩
theorem qiX(hM:h.ok m.L)(hc:0≤c∧c≤1099511627776)(Q:Own):qt Tryz.prog W0 174 [.pointer (some ⟨h.mb,0,none⟩), .int .i64 c] (h.O m++Q) fun v own'=>
  ∃_:Unit,v=(acS 5 0 m.sv (qM (c+1))).v∧Ent W0 own' (h.O {m with sv:=qM (c+1)}++Q):=by
 refine qD (sH [] ?_)
 repeat'((try(conv=>whnf));first|((apply qe);first|((refine q2h 4 0 (c+1) {m with sv:=c+1} hM Y7 rfl rfl ?_ ?_ ?_;(exact rfl);(exact rfl))))|(refine fC ?_)|(refine fO ?_)|(refine fL ?_)|(refine fM ?_)|(refine qf (fun bk hbk=> ?_)))
 all_goals(rw[q27 (by unfold okU;omega)];exact⟨rfl,sbE⟩)
abbrev rdP(a o rv:Int)(n:Nat)(bf vl:Int)(cf:Bool):Obj→Prop:=fun z=>z=Obj.cells #[.int .i64 a, .int .i64 o, .int .i64 rv, .int .i64 n,uv bf,uv vl, .bool cf] 344 (0,0)
variable{a:Int}{o:Nat}{rv bf vl w:Int}
theorem qaS(a o rv:Int)(Q:Own):qt Tryz.prog W0 267 [.int .i64 a, .int .i64 o, .int .i64 rv] Q fun v own'=>∃b:Nat,v= .pointer (some ⟨b,0,none⟩)∧Ent W0 own' ((b,rdP a o rv 0 0 0 false)::Q):=by
 refine sH [] ?_
 repeat'((try(conv=>whnf));first|(refine qf (fun bk hbk=> ?_)))
 all_goals exact⟨_,rfl,Ent.refl⟩
theorem qfH(hM:h.ok m.L)(hj:m.o[o]? =some w)(hw:okU w)(Q:Own):qt Tryz.prog W0 230 [.pointer (some ⟨b,0,none⟩), .pointer (some ⟨h.mb,0,none⟩)] ((b,rdP a o rv 0 0 0 false)::(h.O m++Q)) fun v own'=>
  ∃_:Unit,v=(acL 2 o w).v∧Ent W0 own' ((b,if q3R w≥0∨q5V w>rv then rdP a o rv 3 w 0 true else rdP a o rv 1 w 0 false)::(h.O m++Q)):=by
 refine qD (sH [3,5,7,9,11,13,15,17,19,21,23,25,27,29,31,33,35,37,0,3,5,7,9,11,13,15,17,19,21,23,26,27,29,32,0] ?_);have hho:=fun own'=>q7v (W0:=W0) (own:=own') w hw
 have hve:=fun own'=>q5P (W0:=W0) (own:=own') w hw
 repeat'((try(conv=>whnf));first|(refine fH ?_)|(refine fI ?_)|(refine fE ?_)|((apply qe);first|((refine q0O 1 o hM Y7 hj ?_ ?_ ?_;(exact rfl);(exact rfl))))|((apply qz);first|((refine q0A hho ?_))|((refine q0A hve ?_)))|(refine fO ?_)|(refine fA ?_)|(refine fL ?_)|(refine fN ?_)|(refine fM ?_)|(refine qf (fun bk hbk=> ?_))|(apply q6K;(exact rfl);(exact rfl);all_goals intro hc)|(apply qee;(exact rfl);all_goals intro hc))
 all_goals
  first
  |(rw[if_pos (.inl Y6)];exact⟨rfl,sbE⟩)
  |(rw[if_pos (.inr Y6)];exact⟨rfl,sbE⟩)
  |(rw[if_neg Y6];exact⟨rfl,sbE⟩)
theorem qfI{j:Nat}(hM:h.ok m.L)(hj:m.d[j]? =some w)(Q:Own):qt Tryz.prog W0 230 [.pointer (some ⟨b,0,none⟩), .pointer (some ⟨h.mb,0,none⟩)] ((b,rdP j o rv 1 bf 0 false)::(h.O m++Q)) fun v own'=>
  ∃_:Unit,v=(acL 1 j w).v∧Ent W0 own' ((b,rdP j o rv 2 bf w false)::(h.O m++Q)):=by
 refine qD (sH [3,5,7,9,11,13,15,17,19,21,23,25,27,29,31,33,35,37,0,3,5,7,9,11,13,15,17,19,21,23,26,27,29,32,0] ?_)
 repeat'((try(conv=>whnf));first|(refine fE ?_)|(refine fD ?_)|((apply qe);first|((refine q0O 0 j hM Y7 hj ?_ ?_ ?_;(exact rfl);(exact rfl))))|(refine fO ?_)|(refine fA ?_)|(refine fL ?_)|(refine fN ?_)|(refine fM ?_)|(refine qf (fun bk hbk=> ?_)))
 all_goals exact⟨rfl,sbE⟩
theorem qfJ(hM:h.ok m.L)(hj:m.o[o]? =some w)(Q:Own):qt Tryz.prog W0 230 [.pointer (some ⟨b,0,none⟩), .pointer (some ⟨h.mb,0,none⟩)] ((b,rdP a o rv 2 bf vl false)::(h.O m++Q)) fun v own'=>
  ∃_:Unit,v=(acL 2 o w).v∧Ent W0 own' ((b,rdP a o rv 3 bf vl (decide (w≠bf)))::(h.O m++Q)):=by
 refine qD (sH [3,5,7,9,11,13,15,17,19,21,23,25,27,29,31,33,35,37,0,3,5,7,9,11,13,15,17,19,21,23,26,27,29,32,0] ?_)
 repeat'((try(conv=>whnf));first|(refine fE ?_)|(refine fD ?_)|((apply qe);first|((refine q0O 1 o hM Y7 hj ?_ ?_ ?_;(exact rfl);(exact rfl))))|(refine fO ?_)|(refine fA ?_)|(refine fL ?_)|(refine fN ?_)|(refine fM ?_)|(refine qf (fun bk hbk=> ?_)))
 all_goals exact⟨rfl,sbE⟩
theorem q2m{n:Int}(h3:Cl W0 own b 3 (.int .i64 n)):qE Tryz.prog W0 231 [.pointer (some ⟨b,0,none⟩)] own (.bool (decide (n=3))):=by
 refine qg (sH [] ?_)
 repeat'((try(conv=>whnf));first|(refine q0d h3 ?_))
 all_goals exact⟨rfl,(eC)⟩
theorem q4S{d:Bool}(h6:Cl W0 own b 6 (.bool d)):qE Tryz.prog W0 232 [.pointer (some ⟨b,0,none⟩)] own (.bool d):=by
 refine qg (sH [] ?_)
 repeat'((try(conv=>whnf));first|(refine q0d h6 ?_))
 all_goals exact⟨rfl,(eC)⟩
theorem qfG(h3:Cl W0 own b 3 (.int .i64 3))(h5:Cl W0 own b 5 (uv vl))(h6:Cl W0 own b 6 (.bool false)):qE Tryz.prog W0 236 [.pointer (some ⟨b,0,none⟩)] own (uv vl):=by
 refine qg (sH [] ?_)
 repeat'((try(conv=>whnf));first|(refine fH ?_)|(refine fD ?_)|(refine q0d h6 ?_)|(refine q0d h5 ?_)|((apply qe);first|((refine qd (q2m h3) ?_))))
 all_goals exact⟨rfl,(eC)⟩
end
open Go
theorem q9l{c:Cfg}{a:Int}:∀(n:Nat) (k:Int),0≤k→k+n≤qA c→q5f c a n k= -1∨(k≤q5f c a n k∧q5f c a n k<k+n∧q1m c (q5f c a n k)=a)
 |0,_,_,_=> .inl rfl
 |n+1,k,h0,h1=>by
  unfold q5f
  split
  ·exact .inr ⟨zW _,Y6,by assumption⟩
  ·rcases q9l (c:=c) (a:=a) n (k+1) Y6 Y6 with h|⟨h2,h3,h4⟩
   ·exact .inl h
   ·exact .inr ⟨Y6,Y6,h4⟩
theorem q6m(c:Cfg)(a:Int):qV c a= -1∨(0≤qV c a∧qV c a<qA c∧q1m c (qV c a)=a):=by
 have hb:=q34 c
 rcases q9l (c:=c) (a:=a) (qA c).toNat 0 Y6 Y6 with h|⟨h1,h2,h3⟩
 ·exact .inl h
 ·exact .inr ⟨h1,by unfold qV;omega,h3⟩
theorem q5r{c:Cfg}{k:Int}(h0:0≤k)(h:k<qA c):0≤q1m c k∧q1m c k+2 ^ (q2a c k).toNat≤c.words:=by
 have hp:=q5s h0 h;have hb:=q35 hp.1;have hk:=q1g hp.1;obtain⟨-,hH, -, -⟩:=hk;unfold okH okC nB nW at hH;simp only[q1m,q2a,hp.1,h0,and_self,if_true]
 by_cases h1:k<c.c0
 ·simp only[h1,if_true];refine⟨Y6,?_⟩;have:((2:Int) ^ (0:Int).toNat)=1:=rfl;omega
 ·by_cases h2:k<c.c0+c.c1
  ·simp only[h1,h2,if_true,if_false];refine⟨Y6,?_⟩;have:((2:Int) ^ (1:Int).toNat)=2:=rfl;omega
  ·by_cases h3:k<c.c0+c.c1+c.c2
   ·simp only[h1,h2,h3,if_true,if_false];refine⟨Y6,?_⟩;have:((2:Int) ^ (2:Int).toNat)=4:=rfl;omega
   ·have h4:k<c.c0+c.c1+c.c2+c.c3:=Y6;simp only[h1,h2,h3,h4,if_true,if_false];refine⟨Y6,?_⟩;have:((2:Int) ^ (3:Int).toNat)=8:=rfl;omega
theorem q6R{r:Rg}{b imm:Int}:okU (adr r b imm):=q0m _
section
variable{W0:World}{b o:Nat}{T:TypeId}{pre post:List Value}{t:Thr}
theorem qaJ{x:Ins}(hx:qS x=0)(hop:x.op=10∨x.op=11∨x.op=12∨x.op=13)(ho:o=pre.length)(r:Own):
  qE Tryz.prog W0 137 [.pointer (some ⟨b,o,none⟩),x.v] ([thB b T pre post t]++r) (.int .u64 (adr t.rg (if x.op=12∨x.op=10 then x.b else x.a) x.imm)):=by
 refine qg (sH [3,5,7,9,11,13,15,17,19,21,23,25,0,3,5,7,9,11,13,15,17,19,21,23,25,0] ?_);subst ho;obtain⟨h0,hA,hB, -⟩:=q0T hx;clear hx;obtain⟨op,a,b',c,imm⟩:=x;dsimp only[Ins.v] at*;have ha:=hA (by rcases hop with rfl|rfl|rfl|rfl <;>rfl);have hb:=hB (by rcases hop with rfl|rfl|rfl|rfl <;>rfl);have ha':a.toNat<8:=Y6;have hb':b'.toNat<8:=Y6;clear hA hB
 rcases hop with rfl|rfl|rfl|rfl
 all_goals
  repeat'((try(conv=>whnf));first|(refine fH ?_)|(refine fI ?_)|(refine fE ?_)|(refine fD ?_)|(refine q2I (t:=t) ha' ?_ ?_;omega)|(refine q2I (t:=t) hb' ?_ ?_;omega)|(refine arw (k:= .u64) ?_)|(refine fP ?_)|(refine fA ?_)|(refine qf (fun bk hbk=> ?_)))
  exact⟨rfl,(eC)⟩
end
section
variable{W0:World}{K:Own}{g:TxG}{c:Cfg}{b:BM}
theorem qiQ(h:g.ok W0 K b){x:Ins}(hx:qS x=0)(hop:x.op=15)(htk:b.tk.length=(qA c).toNat)(q:Own):
  qt Tryz.prog W0 205 [.pointer (some ⟨g.xb,0,none⟩),x.v] (g.O c b 0++q) fun _ own'=>∃g':TxG,
   (g'.ok W0 K {(q07 c b x).1 with t:=b.t}∧g'.xb=g.xb)∧Ent W0 own' (g'.O c {(q07 c b x).1 with t:=b.t} (q07 c b x).2++q):=by
 refine sH [3,5,7,9,11,13,15,17,19,21,23,25,27,29,0] ?_;obtain⟨h0,hA, -⟩:=q0T hx;clear hx;obtain⟨op,a,b',c',imm⟩:=x;dsimp only[Ins.v] at*;subst hop;have ha:=hA rfl;have ha':a.toNat<8:=Y6;clear hA;have hfd:=fun own=>qcZ W0 own c (b.t.rg.get a.toNat)
 have hlf:=q6m c (b.t.rg.get a.toNat);have hst:q07 c b ⟨15,a,b',c',imm⟩=if qV c (b.t.rg.get a.toNat)<0∨b.tk.getD (qV c (b.t.rg.get a.toNat)).toNat false=false then(b.go,8) else({b with tk:=b.tk.set (qV c (b.t.rg.get a.toNat)).toNat false}.go,0):=rfl
 rw[hst];clear hst;generalize qV c (b.t.rg.get a.toNat)=k at*
 by_cases hk:k<0
 ·rw[if_pos (.inl hk)]
  repeat'((try(conv=>whnf));first|(refine fI ?_)|(refine fE ?_)|(refine fJ ?_)|(refine q2I (t:=b.t) (pre:=g.pre c b) (post:=g.post b 0) ha' ?_ ?_;(simp;omega))|((apply qz);first|((refine q0A (fun _=>hfd _) ?_)))|(refine fP ?_)|(refine fA ?_)|(refine fQ ?_)|(refine fN ?_)|(refine qf (fun bk hbk=> ?_)))
  exact⟨g,⟨⟨h.d,h.m,h.a,h.al,h.r,h.w,h.o⟩,rfl⟩,(eC)⟩
 ·obtain⟨j,rfl⟩:=Z0 (by omega:0≤k);have hj:j<b.tk.length:=Y6;have hm:=h.m j;rw[zB];cases hv:b.tk.getD j false with
  |false=>
   rw[hv] at hm;rw[if_pos (.inr rfl)]
   repeat'((try(conv=>whnf));first|(refine fH ?_)|(refine fE ?_)|(refine q2I (t:=b.t) (pre:=g.pre c b) (post:=g.post b 0) ha' ?_ ?_;(simp;omega))|(refine qeP hm ?_ ?_)|(intro _)|((apply qz);first|((refine q0A (fun _=>hfd _) ?_)))|(refine fP ?_)|(refine fA ?_)|(refine fQ ?_)|(refine fN ?_)|(refine qf (fun bk hbk=> ?_)))
   all_goals exact⟨g,⟨⟨h.d,h.m,h.a,h.al,h.r,h.w,h.o⟩,rfl⟩,(eC)⟩
  |true=>
   rw[hv] at hm;rw[if_neg Y8]
   repeat'((try(conv=>whnf));first|(refine fH ?_)|(refine fD ?_)|(refine q2I (t:=b.t) (pre:=g.pre c b) (post:=g.post b 0) ha' ?_ ?_;(simp;omega))|(refine qeP hm ?_ (fun e=>by cases e))|(refine ql6 ?_)|((apply qz);first|((refine q0A (fun _=>hfd _) ?_)))|(refine fP ?_)|(refine fA ?_)|(refine fQ ?_)|(refine qf (fun bk hbk=> ?_)))
   exact⟨{g with ml:=mpU g.ml j false},⟨⟨h.d,h.m.set hj,h.a,h.al,h.r,h.w,h.o⟩,rfl⟩,(eC)⟩
theorem qb4(h:g.ok W0 K b)(hc:qH c=0){x:Ins}(hx:qS x=0)(hop:x.op=10∨x.op=11)(hd:(b.d.length:Int)=c.words)(hr:b.r.length≤1000000)(hw:b.w.length≤1000000)(ho:b.o.length≤1000000)(q:Own):
  qt Tryz.prog W0 203 [.pointer (some ⟨g.xb,0,none⟩),x.v] (g.O c b 0++q) fun _ own'=>∃g':TxG,
   (g'.ok W0 K {(q07 c b x).1 with t:={(q07 c b x).1.t with pc:=b.t.pc}}∧g'.xb=g.xb)∧Ent W0 own' (g'.O c {(q07 c b x).1 with t:={(q07 c b x).1.t with pc:=b.t.pc}} (q07 c b x).2++q):=by
 refine sH [3,5,7,9,11,13,0,3,5,7,9,11,13,15,17,19,21,24,0,3,5,7,9,11,13,15,17,19,21,23,26,0] ?_;have had:=fun q=>qaJ (W0:=W0) (b:=g.xb) (T:=216) (pre:=g.pre c b) (post:=g.post b 0) (t:=b.t) (o:=15) hx Y6 rfl q
 have hwd:=(q1g hc).1;unfold okW at hwd;obtain⟨h0,hA,hB, -⟩:=q0T hx;clear hx;have hao:=q6R (r:=b.t.rg) (b:=if x.op=12∨x.op=10 then x.b else x.a) (imm:=x.imm);obtain⟨op,a,b',c',imm⟩:=x;dsimp only[Ins.v] at*;have ha:=hA (by rcases hop with rfl|rfl <;>rfl);have hb:=hB (by rcases hop with rfl|rfl <;>rfl);have ha':a.toNat<8:=Y6;have hb':b'.toNat<8:=Y6;clear hA hB;have hDR:=h.d.rd (W0:=W0)
 rcases hop with rfl|rfl
 ·rw[if_pos (.inr rfl)] at had hao;have hst:q07 c b ⟨10,a,b',c',imm⟩=if c.words≤adr b.t.rg b' imm then(b.go,7) else((rdM b (adr b.t.rg b' imm).toNat).put a 1 (b.d.getD (adr b.t.rg b' imm).toNat 0),0):=rfl
  rw[hst];clear hst;generalize adr b.t.rg b' imm=z at*
  by_cases hz:c.words≤z
  ·rw[if_pos hz]
   repeat'((try(conv=>whnf));first|(refine fF ?_)|((apply qz);first|((refine qj (fun ex=>q1E (had _)) ?_)))|(refine fC ?_)|(refine fA ?_)|(refine fL ?_)|(refine fN ?_)|(refine qf (fun bk hbk=> ?_)))
   exact⟨g,⟨⟨h.d,h.m,h.a,h.al,h.r,h.w,h.o⟩,rfl⟩,(eC)⟩
  ·rw[if_neg hz];obtain⟨j,rfl⟩:=Z0 hao.1;have hj:j<b.d.length:=Y6;obtain⟨y,hy⟩:∃y,b.d[j]? =some y:=⟨_,z6 hj⟩
   have hcw:=fun(own':Own) [qv own' g.wD]=>q0q (own:=own') (cap:=g.wc) ((h.w.rd (W0:=W0)).up) Y6 j
   have hcr:=fun(own':Own) [qv own' g.rD]=>q0q (own:=own') (cap:=g.rc) ((h.r.rd (W0:=W0)).up) Y6 j
   have hR:=h.r;have hgd:b.d.getD j 0=y:=by simp[List.getD,hy]
   rw[zB,hgd]
   by_cases hm:(j:Int)∈b.w
   ·have hr1:rdM b j=b:=by unfold rdM;rw[if_pos (.inl hm)]
    rw[hr1];have hgot:=qa2 (out:=0) (c:=c) h ho ha 1 y q
    repeat'((try(conv=>whnf));first|(refine fI ?_)|(refine fD ?_)|(refine fG ?_)|(apply qdU;(exact rfl);omega)|(refine fB ?_)|((apply gLd);first|(refine q0r hDR hy rfl ?_))|((apply qJ);first|((refine ixE hDR hy ?_ ?_;(first|rfl|omega))))|((apply qe);first|((refine qd (hcw _) ?_))|((refine qm hgot ?_ ?_ ?_ (fun s v hv=> ?_);(exact(eC));(exact rfl);(exact rfl))))|((apply qz);first|((refine qj (fun ex=>q1E (had _)) ?_)))|(refine fC ?_)|(refine fA ?_)|(refine fL ?_)|(refine qf (fun bk hbk=> ?_)))
    exact⟨s,hv,Ent.refl⟩
   ·by_cases hm2:(j:Int)∈b.r
    ·have hr1:rdM b j=b:=by unfold rdM;rw[if_pos (.inr hm2)]
     rw[hr1];have hgot:=qa2 (out:=0) (c:=c) h ho ha 1 y q
     repeat'((try(conv=>whnf));first|(refine fH ?_)|(refine fD ?_)|(refine fG ?_)|(apply qbt;(exact rfl);omega)|(apply q7N;(exact rfl);omega)|(refine fB ?_)|((apply gLd);first|(refine q0r hDR hy rfl ?_))|((apply qJ);first|((refine ixE hDR hy ?_ ?_;(first|rfl|omega))))|((apply qe);first|((refine qd (hcw _) ?_))|((refine qd (hcr _) ?_))|((refine qm hgot ?_ ?_ ?_ (fun s v hv=> ?_);(exact(eC));(exact rfl);(exact rfl))))|((apply qz);first|((refine qj (fun ex=>q1E (had _)) ?_)))|(refine fC ?_)|(refine fA ?_)|(refine fL ?_)|(refine qf (fun bk hbk=> ?_)))
     exact⟨s,hv,Ent.refl⟩
    ·have hr1:rdM b j={b with r:=b.r++ [(j:Int)]}:=by unfold rdM;rw[if_neg (fun h=>h.elim hm hm2)]
     rw[hr1]
     repeat'((try(conv=>whnf));first|(refine fH ?_)|(refine fD ?_)|(refine fG ?_)|(apply qbs;(exact rfl);omega)|(apply q7N;(exact rfl);omega)|(refine fB ?_)|(apply q0p (enc:=qx) (T:=3) (j:Int) hR;(exact rfl);(exact rfl);(omega);(exact rfl);(exact rfl);(omega);intro a2 c2 D2 hb2)|((apply gLd);first|(refine q0r hDR hy rfl ?_))|((apply qJ);first|((refine ixE hDR hy ?_ ?_;(first|rfl|omega))))|((apply qe);first|((refine qd (hcw _) ?_))|((refine qd (hcr _) ?_))|((refine qm (qa2 (out:=0) (c:=c) (g:={g with ra:=a2,rc:=c2,rD:=D2}) (b:={b with r:=b.r++ [(j:Int)]}) ⟨h.d,h.m,h.a,h.al,hb2,h.w,h.o⟩ ho ha 1 y q) ?_ ?_ ?_ (fun s v hv=> ?_);(dsimp only[TxG.O,TxG.pre,TxG.post];simp only[z8,zG,zM,zD];exact(eC));(exact rfl);(exact rfl))))|((apply qz);first|((refine qj (fun ex=>q1E (had _)) ?_)))|(refine fC ?_)|(refine fA ?_)|(refine fL ?_)|(refine fN ?_)|(refine qf (fun bk hbk=> ?_)))
     exact⟨s,hv,Ent.refl⟩
 ·rw[if_neg Y6] at had hao;have hst:q07 c b ⟨11,a,b',c',imm⟩=if c.words≤adr b.t.rg a imm then(b.go,7) else((wrM b (adr b.t.rg a imm).toNat (b.t.rg.get b'.toNat)).go,0):=rfl
  rw[hst];clear hst;generalize adr b.t.rg a imm=z at*
  by_cases hz:c.words≤z
  ·rw[if_pos hz]
   repeat'((try(conv=>whnf));first|(refine fF ?_)|((apply qz);first|((refine qj (fun ex=>q1E (had _)) ?_)))|(refine fC ?_)|(refine fA ?_)|(refine fL ?_)|(refine fN ?_)|(refine qf (fun bk hbk=> ?_)))
   exact⟨g,⟨⟨h.d,h.m,h.a,h.al,h.r,h.w,h.o⟩,rfl⟩,(eC)⟩
  ·rw[if_neg hz];obtain⟨j,rfl⟩:=Z0 hao.1;have hj:j<b.d.length:=Y6;have hwr:=qa9 (out:=0) (c:=c) h hj hw (b.t.rg.get b'.toNat) q;rw[zB]
   repeat'((try(conv=>whnf));first|(refine fE ?_)|(refine fG ?_)|(refine fB ?_)|(refine q2I (t:=b.t) (pre:=g.pre c b) (post:=g.post b 0) hb' ?_ ?_;(simp;omega))|((apply qe);first|((refine qm hwr ?_ ?_ ?_ (fun s v hv=> ?_);(exact(eC));(exact rfl);(exact rfl))))|((apply qz);first|((refine qj (fun ex=>q1E (had _)) ?_)))|(refine fC ?_)|(refine fP ?_)|(refine fA ?_)|(refine fL ?_)|(refine qf (fun bk hbk=> ?_)))
   exact⟨s,hv,Ent.refl⟩
end
open Go
theorem q9u{a:Option Addr}{n c sz m:Nat}{K:Value→Prop}(hn:n=m+1)(h:K (.slice (slA a c 1 sz) m (c-1))):qjH a n c sz (some 1) none none K:=by
 subst hn;exact⟨1,m+1,c,rfl,rfl,rfl,Y6,Y8,Y8,Y8,h⟩
theorem qmZ{m n:Int}{r:Int}{K:Int→Prop}(h1:0≤n∧n≤64)(hr:m*2 ^ n.toNat=r)(h2: -9223372036854775808≤r∧r≤9223372036854775807)(h:K r):Shl .i64 m n K:=by
 subst hr;exact qlj h1 h2 h
theorem qgo(b:BM)(a:Nat):∀n,(wrL b a n).w.length≤b.w.length+n∧(wrL b a n).d.length=b.d.length∧(wrL b a n).o=b.o∧(wrL b a n).r=b.r∧(wrL b a n).t=b.t∧(wrL b a n).tk=b.tk∧(wrL b a n).ad=b.ad
 |0=>⟨zu _,rfl,rfl,rfl,rfl,rfl,rfl⟩
 |n+1=>by
  obtain⟨h1,h2,h3,h4,h5,h6,h7⟩:=qgo b a n;refine⟨?_,by simp[wrL,wrM,h2],h3,h4,h5,h6,h7⟩;simp only[wrL,wrM,q1G]
  split
  ·omega
  ·simp;omega
theorem qL{P:Program}{W0:World}{σ:Type}{k:FuncId}{args:List Value}{E D:Own}{R:σ→Value→Prop}{O:σ→Own}{q:Own}(h:∀q,qt P W0 k args (D++q) fun v own'=>∃s,R s v∧Ent W0 own' (O s++q)):qt P W0 k args (E++(D++q)) fun v own'=>∃s,R s v∧Ent W0 own' (E++(O s++q)):=fun w hw=>
 (h (E++q) w (Ent.of_perm (by rw[←zd,←zd];exact Z5.append_right q) w hw)).mono fun _ _ ⟨v,o,a,b,s,c,d⟩=>⟨v,o,a,b,s,c,d.trans (Ent.of_perm (by rw[←zd,←zd];exact Z5.append_right q))⟩
section
variable{W0:World}{K:Own}{g:TxG}{c:Cfg}{b:BM}
theorem qfk(h:g.ok W0 K b)(hc:qH c=0){x:Ins}(hx:qS x=0)(hop:x.op=14)(hd:(b.d.length:Int)=c.words)(htk:b.tk.length=(qA c).toNat)(hw:b.w.length≤999000)(ho:b.o.length≤1000000)(had:∀a∈b.ad,a≤9223372036854775807)(q:Own) [ek:qv q K]:
  qt Tryz.prog W0 204 [.pointer (some ⟨g.xb,0,none⟩),x.v] (g.O c b 0++q) fun v own'=>
   ((v= .bool false∧(q07 c b x).2= -1)∧Ent W0 own' q)∨∃g':TxG,(v= .bool true∧(q07 c b x).2=0∧g'.ok W0 K {(q07 c b x).1 with t:={(q07 c b x).1.t with pc:=b.t.pc}}∧g'.xb=g.xb)∧
   Ent W0 own' (g'.O c {(q07 c b x).1 with t:={(q07 c b x).1.t with pc:=b.t.pc}} 0++q):=by
 refine sH [3,5,7,9,11,13,15,17,19,21,23,25,27,29,31,33,35,37,39,41,43,45,0] ?_;obtain⟨h0,hA, -, -, -,hI⟩:=q0T hx;clear hx;obtain⟨op,a,b',c',imm⟩:=x;dsimp only[Ins.v] at*;subst hop;have ha:=hA rfl;have hi:=hI rfl;clear hA hI;have hst:q07 c b ⟨14,a,b',c',imm⟩=match alB c b.tk b.ad imm with
  |none=>(b, -1)
  |some (z,k)=>((wrL {b with ad:=b.ad.tail,tk:=b.tk.set k true} z (2 ^ imm.toNat)).put a 2 z,0):=rfl
 have hAR:=h.a;have hwd:=(q1g hc).1;unfold okW at hwd;cases had0:b.ad with
 |nil=>
  have hn:alB c b.tk b.ad imm=none:=by unfold alB;rw[had0]
  rw[hst,hn];have hl:(b.ad.length:Int)=0:=by rw[had0];rfl
  repeat'((try(conv=>whnf));first|(refine fI ?_)|(refine fE ?_)|(refine fJ ?_)|(refine fA ?_)|(refine qf (fun bk hbk=> ?_)))
  exact .inl ⟨⟨rfl,rfl⟩,(eC)⟩
 |cons z ad'=>
  have hz:b.ad[0]? =some z:=by rw[had0];rfl
  have hzm:=had z (by rw[had0];exact zm);have hl:¬(b.ad.length:Int)=0:=by rw[had0];simp;omega
  have hln:b.ad.length=ad'.length+1:=by rw[had0];rfl
  by_cases hz0:z<0
  ·have hn:alB c b.tk b.ad imm=none:=by unfold alB;rw[had0];simp only;rw[if_pos (.inl hz0)]
   rw[hst,hn]
   repeat'((try(conv=>whnf));first|(refine fH ?_)|(refine fF ?_)|(refine fK ?_)|((apply gLd);first|(refine q0r hAR hz rfl ?_))|((apply qJ);first|((refine ixE hAR hz ?_ ?_;(first|rfl|omega))))|(refine fA ?_)|(refine qf (fun bk hbk=> ?_)))
   exact .inl ⟨⟨rfl,rfl⟩,(eC)⟩
  ·have hfd:=fun own=>qcZ W0 own c z
   have hlf:=q6m c z;have hbd:=q34 c;have hn:alB c b.tk b.ad imm=if qV c z<0∨q2a c (qV c z)≠imm∨b.tk.getD (qV c z).toNat false=true then none else some (z.toNat,(qV c z).toNat):=by
    unfold alB;rw[had0];simp only[hz0,false_or]
   rw[hn] at hst;clear hn;generalize qV c z=k at*
   by_cases hk:k<0
   ·rw[if_pos (.inl hk)] at hst;rw[hst]
    repeat'((try(conv=>whnf));first|(refine fH ?_)|(refine fI ?_)|(refine fE ?_)|(refine fG ?_)|(refine fJ ?_)|(refine fK ?_)|(refine q9u hln ?_)|((apply gLd);first|(refine q0r hAR hz rfl ?_))|((apply qJ);first|((refine ixE hAR hz ?_ ?_;(first|rfl|omega))))|((apply qe);first|((refine qd (hfd _) ?_)))|(refine fC ?_)|(refine fA ?_)|(refine fQ ?_)|(refine fN ?_)|(refine qf (fun bk hbk=> ?_)))
    exact .inl ⟨⟨rfl,rfl⟩,(eC)⟩
   ·have hcl:=fun own=>qfm W0 own c k Y6
    have hrm:=q5r (c:=c) (k:=k) Y6 Y6;have hfst:q1m c k=z:=Y6;rw[hfst] at hrm;obtain⟨j,rfl⟩:=Z0 (by omega:0≤k);obtain⟨zn,rfl⟩:=Z0 (by omega:0≤z);have hj:j<b.tk.length:=Y6;have hm:=h.m j;rw[zB,zB] at hst;generalize q2a c j=cl at*
    by_cases hcl2:cl=imm
    ·subst hcl2;cases hv:b.tk.getD j false with
     |true=>
      rw[hv] at hm hst;rw[if_pos (.inr (.inr rfl))] at hst;rw[hst]
      repeat'((try(conv=>whnf));first|(refine fH ?_)|(refine fE ?_)|(refine fD ?_)|(refine fK ?_)|(refine q9u hln ?_)|(refine qeP hm ?_ (fun e=>by cases e))|((apply gLd);first|(refine q0r hAR hz rfl ?_))|((apply qJ);first|((refine ixE hAR hz ?_ ?_;(first|rfl|omega))))|((apply qe);first|((refine qd (hfd _) ?_)))|((apply qz);first|((refine q0A (fun _=>hcl _) ?_)))|(refine fC ?_)|(refine fA ?_)|(refine fQ ?_)|(refine fN ?_)|(refine qf (fun bk hbk=> ?_)))
      exact .inl ⟨⟨rfl,rfl⟩,(eC)⟩
     |false=>
      rw[hv] at hm hst;rw[if_neg Y8] at hst;have hst2:q07 c b ⟨14,a,b',c',cl⟩=((wrL {b with ad:=ad',tk:=b.tk.set j true} zn (2 ^ cl.toNat)).put a 2 zn,0):=by rw[hst,had0];rfl
      rw[hst2];clear hst hst2;have hM8:(2:Nat) ^ cl.toNat≤8:=by
       have:cl.toNat=0∨cl.toNat=1∨cl.toNat=2∨cl.toNat=3:=Y6
       rcases this with e|e|e|e <;>rw[e] <;>decide
      have hM:(1:Int)*2 ^ cl.toNat=((2 ^ cl.toNat:Nat):Int):=Y8;have hM2:(2:Int) ^ cl.toNat=((2 ^ cl.toNat:Nat):Int):=Y8;rw[hM2] at hrm;generalize 2 ^ cl.toNat=M at hM8 hM hrm ⊢;have hok1:({g with aa:=slA g.aa g.ac 1 1,ac:=g.ac-1,ml:=mpU g.ml j true}:TxG).ok W0 K {b with ad:=ad',tk:=b.tk.set j true}:=by
       refine⟨h.d,h.m.set hj,?_,?_,h.r,h.w,h.o⟩
       ·have:=hAR.sl (c:=1) (r:=b.ad.length) (m:=g.ac) (zu _) h.al;have e:(b.ad.drop 1).take (b.ad.length-1)=ad':=by rw[had0];simp
        rw[e] at this;exact this
       ·have:=h.al;show ad'.length≤g.ac-1;omega
      obtain⟨b1,hb1⟩:∃b1:BM,b1={b with ad:=ad',tk:=b.tk.set j true}:=⟨_,rfl⟩
      rw[←hb1] at hok1 ⊢;have hwl:=qgo b1 zn;have hb1w:b1.w=b.w∧b1.d=b.d∧b1.o=b.o∧b1.t=b.t:=by rw[hb1];exact⟨rfl,rfl,rfl,rfl⟩
      repeat'((try(conv=>whnf));first|(refine fH ?_)|(refine fD ?_)|(refine fK ?_)|(refine q9u hln ?_)|(refine qeP hm ?_ ?_)|(intro _)|(refine ql6 ?_)|(refine qmZ ?_ hM ?_ ?_;omega;omega)|((apply gLd);first|(refine q0r hAR hz rfl ?_))|((apply qJ);first|((refine ixE hAR hz ?_ ?_;(first|rfl|omega))))|((apply qe);first|((refine qd (hfd _) ?_)))|((apply qz);first|((refine q0A (fun _=>hcl _) ?_)))|(refine fC ?_)|(refine fA ?_)|(refine fQ ?_)|(refine fN ?_)|(refine qf (fun bk hbk=> ?_)))
      all_goals
       refine qX (σ:=Nat×TxG) (fun s=> [(75, .int .i64 s.1)]) (fun s=>(bk,fun o=>o=Obj.cells #[.int .i64 14, .int .i64 a, .int .i64 b', .int .i64 c', .int .i64 cl] 40 (0,0))::(s.2.O c (wrL b1 zn s.1) 0++q)) (fun s=>s.1≤M∧s.2.ok W0 K (wrL b1 zn s.1)∧s.2.xb=g.xb) (fun s=>M-s.1) (0,{g with aa:=slA g.aa g.ac 1 1,ac:=g.ac-1,ml:=mpU g.ml j true}) ⟨zq _,hok1,rfl⟩ (eF) ?_ rfl ?_
       ·subst hb1;exact(eC)
       rintro⟨n,g'⟩ junk ⟨hn,hok,hxb⟩;dsimp only at hn hok hxb ⊢;obtain⟨w1,w2,w3,w4,w5,w6,w7⟩:=hwl n;rw[hb1w.1] at w1
       by_cases hlt:n<M
       ·have hlt':(n:Int)<M:=Y6;have hwr:=qa9 (out:=0) (c:=c) (a:=zn+n) hok (by rw[w2,hb1w.2.1];omega) Y6 0;rw[Int.natCast_add,hxb] at hwr;have hwk:=qL (E:= [(bk,fun o=>o=Obj.cells #[.int .i64 14, .int .i64 a, .int .i64 b', .int .i64 c', .int .i64 cl] 40 (0,0))]) (q:=q) hwr
        repeat'((try(conv=>whnf));first|(refine fF ?_)|((apply qe);first|((refine qm hwk ?_ ?_ ?_ (fun s v hv=> ?_);(exact(eC));(exact rfl);(exact rfl))))|(refine fB ?_))
        exact⟨(n+1,s),⟨by dsimp only;omega,hv.1,hv.2⟩,by dsimp only;omega,(eF),(eC)⟩
       ·have hlt':¬(n:Int)<M:=Y6;obtain rfl:n=M:=Y6;have hgot:=qa2 (out:=0) (c:=c) hok (by rw[w3,hb1w.2.2.1];exact ho) ha 2 zn q;rw[hxb] at hgot
        repeat'((try(conv=>whnf));first|(refine fG ?_)|((apply qe);first|((refine qm hgot ?_ ?_ ?_ (fun s v hv=> ?_);(exact(eC));(exact rfl);(exact rfl))))|(refine fC ?_)|(refine fA ?_))
        have hbt:(wrL b1 zn n).t=b.t:=w5.trans hb1w.2.2.2;simp only[BM.put,hbt] at hv ⊢;exact .inr ⟨s,⟨rfl,trivial,hv.1,hv.2⟩,Ent.refl⟩
    ·rw[if_pos (.inr (.inl hcl2))] at hst;rw[hst]
     repeat'((try(conv=>whnf));first|(refine fH ?_)|(refine fI ?_)|(refine fE ?_)|(refine fD ?_)|(refine fJ ?_)|(refine fK ?_)|(refine q9u hln ?_)|((apply gLd);first|(refine q0r hAR hz rfl ?_))|((apply qJ);first|((refine ixE hAR hz ?_ ?_;(first|rfl|omega))))|((apply qe);first|((refine qd (hfd _) ?_)))|((apply qz);first|((refine q0A (fun _=>hcl _) ?_)))|(refine fC ?_)|(refine fA ?_)|(refine fQ ?_)|(refine fN ?_)|(refine qf (fun bk hbk=> ?_)))
     exact .inl ⟨⟨rfl,rfl⟩,(eC)⟩
end
open Go
theorem qdM{c:Cfg}{b:BM}{x:Ins}(h:x.op=10∨x.op=11):(q07 c b x).1.t.pc=b.t.pc+1∧((q07 c b x).2=0∨(q07 c b x).2=7):=by
 unfold q07
 rcases h with h|h
 ·rw[if_pos h]
  split
  ·exact⟨rfl, .inr rfl⟩
  ·exact⟨rfl, .inl rfl⟩
 ·rw[if_neg Y6,if_pos h]
  split
  ·exact⟨rfl, .inr rfl⟩
  ·refine⟨rfl, .inl rfl⟩
theorem qad{c:Cfg}{b:BM}{x:Ins}(h:x.op=15):(q07 c b x).1.t={b.t with pc:=b.t.pc+1}∧((q07 c b x).2=0∨(q07 c b x).2=8):=by
 unfold q07;rw[if_neg Y6,if_neg Y6,if_neg Y6,if_pos h]
 split
 ·exact⟨rfl, .inr rfl⟩
 ·exact⟨rfl, .inl rfl⟩
theorem qdN{c:Cfg}{b:BM}{x:Ins}(h:x.op=14)(h0:(q07 c b x).2=0):(q07 c b x).1.t.pc=b.t.pc+1:=by
 unfold q07 at h0 ⊢;rw[if_neg Y6,if_neg Y6,if_pos h] at h0 ⊢
 split at h0
 ·cases h0
 ·rename_i a k _;show(wrL _ _ _).t.pc+1=_;rw[(qgo _ _ _).2.2.2.2.1]
theorem qlT{t t':Thr}{n:Int}(h1:t'.rg=t.rg)(h2:t'.oc=t.oc)(h3:t'.dn=t.dn)(hn:n=t'.pc):t.enc.set 0 (.int .i64 n)=t'.enc:=by
 subst hn;obtain⟨pc,rg,oc,dn⟩:=t';simp only at h1 h2 h3;subst h1;subst h2;subst h3;rfl
theorem qgc{W0:World}{own:Own}(g:TxG)(c:Cfg)(b:BM)(out:Int)(t':Thr){n:Int}{off:Nat}{T:TypeId}{K:Own→Prop}{C:(Obj→Prop)→Own} [m:UpC g.xb (fun o=>o=Obj.cells (g.pre c b++(b.t.enc++g.post b out)).toArray T (0,0)) own C]
  (h1:t'.rg=b.t.rg) (h2:t'.oc=b.t.oc) (h3:t'.dn=b.t.dn) (hn:n=t'.pc) (ho:off=15) (h:K (C fun o=>o=Obj.cells (g.pre c b++(t'.enc++g.post b out)).toArray T (0,0))):StT W0 own ⟨g.xb,off,none⟩ (.int .i64 n) K:=
 qlL t' (k:=0) Y6 (qlT h1 h2 h3 hn) rfl (by rw[ho];rfl) h
section
variable{W0:World}{K:Own}{g:TxG}{c:Cfg}{b:BM}
theorem qj8(h:g.ok W0 K b)(hc:qH c=0){x:Ins}(hx:qS x=0)(hrg:b.t.rg.ok)(hpc:b.t.pc≤64)(hd:(b.d.length:Int)=c.words)(htk:b.tk.length=(qA c).toNat)(hr:b.r.length≤900000)(hw:b.w.length≤900000)(ho:b.o.length≤900000)(had:∀a∈b.ad,a≤9223372036854775807)(q:Own) [ek:qv q K]:
  qt Tryz.prog W0 133 [.pointer (some ⟨g.xb,0,none⟩),x.v] (g.O c b 0++q) fun v own'=>
   ((v= .bool false∧(q07 c b x).2= -1)∧Ent W0 own' q)∨∃g':TxG,(v= .bool true∧(q07 c b x).2≠ -1∧g'.ok W0 K (q07 c b x).1∧g'.xb=g.xb)∧Ent W0 own' (g'.O c (q07 c b x).1 (q07 c b x).2++q):=by
 refine sH [3,5,7,9,12,13,0] ?_
 by_cases h1:x.op=10∨x.op=11
 ·have hacc:=qb4 h hc hx h1 hd Y6 Y6 Y6 q;obtain⟨hp1,hp2⟩:=qdM (c:=c) (b:=b) h1;generalize q07 c b x=z at*;obtain⟨op,a,b',c',imm⟩:=x;dsimp only[Ins.v] at*;clear hx
  rcases h1 with rfl|rfl
  all_goals
   repeat'((try(conv=>whnf));first|(refine fE ?_)|(refine fD ?_)|(refine qgc s c {z.1 with t:={z.1.t with pc:=b.t.pc}} z.2 z.1.t rfl rfl rfl ?_ rfl ?_;omega)|((apply qe);first|((refine qm hacc ?_ ?_ ?_ (fun s v hv=> ?_);(exact(eC));(exact rfl);(exact rfl);(obtain⟨hv,hxb⟩:=hv);(rw[←hxb]))))|(refine fB ?_)|(refine fA ?_)|(refine fL ?_)|(refine qf (fun bk hbk=> ?_)))
   exact .inr ⟨s,⟨rfl,Y6,⟨hv.d,hv.m,hv.a,hv.al,hv.r,hv.w,hv.o⟩,rfl⟩,(eC)⟩
 by_cases h2:x.op=14
 ·have hal:=qfk h hc hx h2 hd htk Y6 Y6 had q;have hp:=qdN (c:=c) (b:=b) h2;generalize q07 c b x=z at*;obtain⟨op,a,b',c',imm⟩:=x;dsimp only[Ins.v] at*;clear hx h1;subst h2
  repeat'((try(conv=>whnf));first|(refine fE ?_)|(refine fD ?_)|(refine qgc s c {z.1 with t:={z.1.t with pc:=b.t.pc}} 0 z.1.t rfl rfl rfl ?_ rfl ?_;omega)|((apply qe);first|((refine q2g hal ?_ ?_ ?_ (fun v hv=> ?_) (fun s v hv=> ?_);(exact(eC));(exact rfl);(exact rfl);(obtain⟨rfl,hv⟩:=hv);rotate_left;(obtain⟨rfl,hz,hv,hxb⟩:=hv);(rw[←hxb]))))|(refine fB ?_)|(refine fA ?_)|(refine fL ?_)|(refine qf (fun bk hbk=> ?_)))
  ·exact .inr ⟨s,⟨rfl,Y6,⟨hv.d,hv.m,hv.a,hv.al,hv.r,hv.w,hv.o⟩,rfl⟩,by rw[hz];exact(eC)⟩
  ·exact .inl ⟨⟨rfl,hv⟩,Ent.refl⟩
 by_cases h3:x.op=15
 ·have hfr:=qiQ h hx h3 htk q;obtain⟨hp1,hp2⟩:=qad (c:=c) (b:=b) h3;generalize q07 c b x=z at*;obtain⟨op,a,b',c',imm⟩:=x;dsimp only[Ins.v] at*;clear hx h1 h2;subst h3;have hp3:z.1.t.rg=b.t.rg∧z.1.t.oc=b.t.oc∧z.1.t.dn=b.t.dn∧z.1.t.pc=b.t.pc+1:=by rw[hp1];exact⟨rfl,rfl,rfl,rfl⟩
  clear hp1
  repeat'((try(conv=>whnf));first|(refine fE ?_)|(refine fD ?_)|(refine qgc s c {z.1 with t:=b.t} z.2 z.1.t hp3.1 hp3.2.1 hp3.2.2.1 ?_ rfl ?_;omega)|((apply qe);first|((refine qm hfr ?_ ?_ ?_ (fun s v hv=> ?_);(exact(eC));(exact rfl);(exact rfl);(obtain⟨hv,hxb⟩:=hv);(rw[←hxb]))))|(refine fB ?_)|(refine fA ?_)|(refine fL ?_)|(refine qf (fun bk hbk=> ?_)))
  exact .inr ⟨s,⟨rfl,Y6,⟨hv.d,hv.m,hv.a,hv.al,hv.r,hv.w,hv.o⟩,rfl⟩,(eC)⟩
 have hst:q07 c b x=if x.op=8 then(b.go,1) else if x.op=9 then(b.go,2) else({b with t:=q1q b.t x},0):=by
  unfold q07;rw[if_neg Y6,if_neg Y6,if_neg h2,if_neg h3]
 rw[hst];clear hst
 by_cases h4:x.op=8∨x.op=9
 ·obtain⟨op,a,b',c',imm⟩:=x;dsimp only[Ins.v] at*;clear hx h1 h2 h3
  rcases h4 with rfl|rfl
  all_goals
   repeat'((try(conv=>whnf));first|(refine fE ?_)|(refine fD ?_)|(refine fB ?_)|(refine fA ?_)|(refine fN ?_)|(refine qf (fun bk hbk=> ?_)))
   exact .inr ⟨g,⟨rfl,Y8,⟨h.d,h.m,h.a,h.al,h.r,h.w,h.o⟩,rfl⟩,(eC)⟩
 ·rw[if_neg Y6,if_neg Y6];have hlc:=fun r=>qa3 (W0:=W0) (b:=g.xb) (T:=216) (pre:=g.pre c b) (post:=g.post b 0) (t:=b.t) (o:=15) hx hrg hpc rfl r
  have h0:=(q0T hx).1;have hP:({b.t with rg:=q3S b.t x}:Thr).enc.set 0 (.int .i64 (q1o b.t x))=(q1q b.t x).enc:=rfl;unfold q1q at hP ⊢;generalize q3S b.t x=R at*;generalize q1o b.t x=P at*;obtain⟨op,a,b',c',imm⟩:=x;dsimp only[Ins.v] at*;clear hx
  repeat'((try(conv=>whnf));first|(refine fG ?_)|(refine qgc g c {b with t:={b.t with rg:=R}} 0 {b.t with rg:=R,pc:=P} rfl rfl rfl rfl rfl ?_)|((apply qe);first|((refine q45 (hlc _) (fun s v hv=> ?_);(subst hv))))|(refine fB ?_)|(refine fA ?_)|(refine fL ?_)|(refine qf (fun bk hbk=> ?_)))
  exact .inr ⟨g,⟨rfl,Y8,⟨h.d,h.m,h.a,h.al,h.r,h.w,h.o⟩,rfl⟩,Ent.of_sub ((zT _ _).cons_cons _)⟩
end
end Go.Proofs.YtbhbldllneadeaaGreatDoor
