/- What the laws share, part 12. No condition. -/
import Derived.Test.YtfnghamklcdgnaaGreatDoorChecked
import Derived.Shelf.SlMaps.Clone
import Derived.Test.YtfnghamklcdgnaaGreatDoorQ11
set_option maxHeartbeats 16000000
set_option maxRecDepth 10000
namespace Go.Proofs.YtfnghamklcdgnaaGreatDoor
open Go
abbrev jn(b:Nat):Value:= .pointer (some ⟨b,0,none⟩)
abbrev ji:=List PH
abbrev jj:=List EvM
set_option maxHeartbeats 2000000 in
theorem q8J(b:Nat)(es:Array MapEntry)(clock:Nat)(w:World)(hb:w.heap[b]? =some (.map es clock)):
  Calls Tryz.prog 133 #[.map (some b)] w fun e d=>e= .returned (.map (some w.heap.size))/\d=w.alloc (.map es clock):=by
 have hq:=fun w=>run_eql_map_nil_sl (P:=Tryz.prog) w 144 _ _ (some b) Tryz.underlying144
 go_enter Tryz.func133,Tryz.ntmps133
 go_wp2
 rw[run_callFunc_extern Tryz.func203 (by kernel_rfl) (by kernel_rfl) (by kernel_rfl) (e:=Extern.MapsClone.clone) (by kernel_rfl),run_maps_clone_sl w 144 hb];simp only[Result.andThen];rw[Oper.upon_value]
 go_wp2
 rw[run_typeAssert_map_sl _ 144 20 _ _ _ Tryz.underlying144];simp only[Result.andThen];rw[Oper.upon_value]
 go_wp2
 go_ret
 exact⟨rfl,rfl⟩
section
variable{W0:World}{own:Own}
theorem qef{b:Nat}{l:List (Value×Value)} [m:qy b (q2H l) own]:
  jk W0 133 [.map (some b)] own fun v own'=>∃i:Nat,v= .map (some i)/\Ent W0 own' ((i,q2H l)::own):=by
 intro w hw;obtain⟨o,y,es,clock,rfl,u⟩:=hw.owns _ m.h;refine(q8J b es clock w y).mono fun e w' ⟨he,d⟩=>?_
 subst d;exact⟨_,(w.heap.size,q2H l)::own,he,hw.push (.map es clock) ⟨es,clock,rfl,u⟩,w.heap.size,rfl,Ent.refl⟩
end
open Go
class q07(D own:Own)(r:outParam Own):Prop where
 h:own.Perm (D++r)
section
variable{D A r r':Own}{e:j9}
instance q07.self:q07 D D []:=⟨Yd⟩
instance q07.left [m:q07 D A r']:q07 D (A++r) (r'++r):=⟨(m.h.append_right r).trans (by rw[zd])⟩
instance q07.skip [m:q07 D r r']:q07 D (A++r) (A++r'):=⟨(m.h.append_left A).trans (by rw[<-zd,<-zd];exact Zc.append_right r')⟩
instance q07.tail [m:q07 D r r']:q07 D (e::r) (e::r'):=⟨(m.h.cons e).trans Z2.symm⟩
instance q07.one:q07 [e] (e::r) r:=⟨List.Perm.refl _⟩
instance q07.head:q07 D (D++r) r:=⟨List.Perm.refl _⟩
end
instance AtC.self{D:Own}:AtC D D (fun X=>X):=⟨by have:=At.head (D:=D) (r:= []);simpa using this⟩
section
variable{P:Program}{W0:World}{own D r:Own}{k k0:FuncId}{args args0:je}
theorem q3V{σ:Type}{R:σ->Value->Prop}{O:σ->Own}{K:Value->Own->Prop} [m:q07 D own r](h:qu P W0 k0 args0 (D++r) fun v own'=>∃s,R s v/\Ent W0 own' (O s++r))(d:k=k0)(ea:args=args0)(u:∀s v,R s v->K v (O s++r)):q0g P W0 own k args K:=by
 subst d;subst ea;exact⟨fun w hw=>(h w (Ent.of_perm m.h w hw)).mono fun _ _ ⟨_,_,he,y,s,l,i⟩=>⟨_,O s++r,he,i _ y,u s _ l⟩⟩
theorem q4x{σ:Type}{R:σ->Value->Prop}{O:σ->Own}{K:Value->Own->Prop} [m:q07 D own r](h:qu P W0 k0 args0 (D++r) fun v own'=>∃s,R s v/\Ent W0 own' (O s++r))(i:∀s v,R s v->K v (O s++r))(d:k=k0:=by exact rfl)(ea:args=args0:=by exact rfl):q0g P W0 own k args K:=q3V h d ea i
theorem qr{σ:Type}{R:σ->Value->Prop}{O:σ->Own}{d:Own}{K:Value->Own->Prop}(h:qu P W0 k0 args0 d fun v own'=>∃s,R s v/\Ent W0 own' (O s))(he:Ent W0 own d)(i:k=k0)(ea:args=args0)(y:∀s v,R s v->K v (O s)):q0g P W0 own k args K:=by
 subst i;subst ea;exact⟨fun w hw=>(h w (he w hw)).mono fun _ _ ⟨_,_,he,z,s,u,l⟩=>⟨_,O s,he,l _ z,y s _ u⟩⟩
theorem q2n{σ:Type}{Rn:Value->Prop}{i:Own}{R:σ->Value->Prop}{O:σ->Own}{d:Own}{K:Value->Own->Prop}(h:qu P W0 k0 args0 d fun v own'=>(Rn v/\Ent W0 own' i)\/∃s,R s v/\Ent W0 own' (O s))(he:Ent W0 own d)(z:k=k0)(ea:args=args0)(C:∀v,Rn v->K v i)(B:∀s v,R s v->K v (O s)):q0g P W0 own k args K:=by
 subst z;subst ea;refine⟨fun w hw=>(h w (he w hw)).mono fun _ _ ⟨_,_,he,y,h⟩=>?_⟩
 rcases h with ⟨u,l⟩|⟨s,u,l⟩
 ·exact⟨_,i,he,l _ y,C _ u⟩
 ·exact⟨_,O s,he,l _ y,B s _ u⟩
theorem q1U{v:Value} [m:q07 D own r](h:qD P W0 k args (D++r) v):qD P W0 k args own v:=
 fun w hw=>(h w (Ent.of_perm m.h w hw)).mono fun _ _ ⟨he,d⟩=>⟨he,Ent.of_perm m.h.symm _ d⟩
end
abbrev Mp:=List (Int×Bool)
abbrev mpV(l:Mp):List (Value×Value):=l.map fun e=>(j4 e.1, .bool e.2)
def mpF:Mp->Int->Option Bool
 | [],_=>none
 |e::l,k=>if k=e.1 then some e.2 else mpF l k
def mpU:Mp->Int->Bool->Mp
 | [],k,v=> [(k,v)]
 |e::l,k,v=>if k=e.1 then(k,v)::l else e::mpU l k v
theorem q94(k:Int):∀l:Mp,q1Y 0 (j4 k) (mpV l)=some ((mpF l k).map Value.bool)
 | []=>rfl
 |e::l=>by
  have d:=q94 k l;simp only[mpV,zG,q1Y,mpF] at d ⊢
  by_cases h:k=e.1
  ·simp[q1u,kn,h]
  ·simp[q1u,kn,h];exact d
theorem qhW(k:Int)(v:Bool):∀l:Mp,q5F 0 (j4 k) (.bool v) (mpV l)=mpV (mpU l k v)
 | []=>rfl
 |e::l=>by
  have d:=qhW k v l;simp only[mpV,zG,q5F,mpU] at d ⊢
  by_cases h:k=e.1
  ·simp[q1u,kn,h]
  ·simp[q1u,kn,h];exact d
theorem qhV(k j:Int)(v:Bool):∀l:Mp,mpF (mpU l k v) j=if j=k then some v else mpF l j
 | []=>by simp[mpU,mpF]
 |e::l=>by
  have i:=qhV k j v l;unfold mpU
  by_cases h:k=e.1
  ·rw[if_pos h];simp only[mpF]
   by_cases d:j=k
   ·rw[if_pos d,if_pos d]
   ·rw[if_neg d,if_neg d,if_neg Yb]
  ·rw[if_neg h];simp only[mpF]
   by_cases d:j=e.1
   ·rw[if_pos d,if_pos d,if_neg Yb]
   ·rw[if_neg d,if_neg d];exact i
def mpR(l:Mp)(tk:List Bool):Prop:=∀k:Nat,(mpF l k).getD false=tk.getD k false
theorem mpR.set{l:Mp}{tk:List Bool}{k:Nat}{v:Bool}(h:mpR l tk)(i:k<tk.length):mpR (mpU l k v) (tk.set k v):=fun j=>by
 rw[qhV]
 by_cases d:j=k
 ·subst d;rw[if_pos rfl];simp[i]
 ·rw[if_neg Yb,h j];simp[List.getD,Ne.symm d]
section
variable{W0:World}{own:Own}
theorem qfP{b:Nat}{k:Int}{l:Mp}{v:Bool}{K:Option Value->Prop} [m:qy b (q2H (mpV l)) own](d:(mpF l k).getD false=v)(y:K (some (.bool v)))(i:v=false->K none):qns own 0 b (j4 k) K:=by
 refine⟨_,_,m.h,q94 k l,?_⟩;cases h:mpF l k with
 |none=>rw[h] at d;exact i d.symm
 |some u=>rw[h] at d;obtain rfl:u=v:=d;exact y
theorem qmb{b:Nat}{k:Int}{l:Mp}{v:Bool}{K:Own->Prop}{C:(Obj->Prop)->Own} [m:UpC b (q2H (mpV l)) own C](h:K (C (q2H (mpV (mpU l k v))))):qop own 0 b (j4 k) (.bool v) K:=by
 refine⟨mpV l,_,m.h _,by rw[q94];rfl,?_⟩;rw[qhW];exact h
end
abbrev cfL(c:Cfg)(r:je):je:= j4 c.words:: j4 c.orecs:: j4 c.base:: j4 c.c0:: j4 c.c1:: j4 c.c2:: j4 c.c3:: j4 c.reads:: j4 c.writes:: j4 c.allocs:: j4 c.frees:: j4 c.clock:: .bool c.strong::r
structure TxG where
 xb:Nat
 mb:Nat
 ml:Mp
 da:j8
 dc:Nat
 dD:Own
 aa:j8
 ac:Nat
 ra:j8
 rc:Nat
 rD:Own
 wa:j8
 wc:Nat
 wD:Own
 oa:j8
 oc:Nat
 oD:Own
abbrev TxG.pre(g:TxG)(c:Cfg)(b:BM):je:= .slice g.da b.d.length g.dc:: .map (some g.mb)::cfL c []
abbrev TxG.post(g:TxG)(b:BM)(out:Int):je:= [.slice g.aa b.ad.length g.ac, .slice g.ra b.r.length g.rc, .slice g.wa b.w.length g.wc, .slice g.oa b.o.length g.oc,j4 out]
abbrev TxG.O(g:TxG)(c:Cfg)(b:BM)(out:Int):Own:=thB g.xb 214 (g.pre c b) (g.post b out) b.t::(g.dD++((g.mb,q2H (mpV g.ml))::(g.rD++(g.wD++g.oD))))
structure TxG.ok(g:TxG)(W0:World)(K:Own)(b:BM):Prop where
 d:qq q06 45 1 g.da g.dc b.d g.dD
 m:mpR g.ml b.tk
 a:RdE qw 1 W0 K g.aa b.ad
 al:b.ad.length<=g.ac
 r:qq qw 3 1 g.ra g.rc b.r g.rD
 w:qq qw 3 1 g.wa g.wc b.w g.wD
 o:qq ObM.enc 77 3 g.oa g.oc b.o g.oD
section
variable{W0:World}{K:Own}{g:TxG}{c:Cfg}{b:BM}{out:Int}
theorem qaM(h:g.ok W0 K b)(hl:b.o.length<=1000000){r:Int}(hr:0<=r/\r<8)(k v:Int)(q:Own):
  jk W0 283 [jn g.xb,j4 r,j4 k,j5 v] (g.O c b out++q) fun _ own'=>∃g':TxG,
   (g'.ok W0 K {b with t:={b.t with rg:=b.t.rg.set r.toNat v},o:=b.o++ [⟨b.t.pc,k,v⟩]}/\g'.xb=g.xb)/\Ent W0 own' (g'.O c {b with t:={b.t with rg:=b.t.rg.set r.toNat v},o:=b.o++ [⟨b.t.pc,k,v⟩]} out++q):=by
 refine sH (jo 13 3 [30,32,33,35,38,0]) ?_;have l:=h.o;have i:r.toNat<8:=Yb
 repeat'((try conv=>whnf);first|refine q8n (t:=b.t) (pre:=g.pre c b) (post:=g.post b out) i ?_ ?_;simp;omega|apply q0f (enc:=ObM.enc) (T:=77) ⟨b.t.pc,k,v⟩ l;exact rfl;exact rfl;omega;exact rfl;exact rfl;omega;intro a1 c1 D1 d|refine fP ?_|refine fA ?_|refine fN ?_|refine qg fun bk hbk=>?_)
 refine⟨{g with oa:=a1,oc:=c1,oD:=D1},⟨⟨h.d,h.m,h.a,h.al,h.r,h.w,d⟩,rfl⟩,?_⟩;dsimp only[TxG.O,TxG.pre,TxG.post];simp only[z8,zu,zE,zy];exact(eC)
theorem qaY(h:g.ok W0 K b){a:Nat}(E:a<b.d.length)(hl:b.w.length<=1000000)(v:Int)(q:Own):
  jk W0 282 [jn g.xb,j4 a,j5 v] (g.O c b out++q) fun _ own'=>∃g':TxG,
   (g'.ok W0 K (wrM b a v)/\g'.xb=g.xb)/\Ent W0 own' (g'.O c (wrM b a v) out++q):=by
 refine sH [] ?_;have u:=h.d;have i:=u.rd (W0:=W0);have y:=h.w;obtain⟨x,l⟩:∃x,b.d[a]? =some x:=⟨_,z6 E⟩
 have B:=fun(own':Own) [qx own' g.wD]=>q0z (own:=own') (cap:=g.wc) ((y.rd (W0:=W0)).up) Yb a
 by_cases hm:(a:Int)∈b.w
 ·repeat'((try conv=>whnf);first|apply qcs;exact rfl;omega|apply q3L (enc:=q06) (T:=45) (j:=a) (k:=0) v u l;exact rfl;omega;exact rfl;exact rfl;intro D1 d|(apply qL;first|refine ixE i l ?_ ?_;(first|rfl|omega))|apply qe;refine qd (B _) ?_|refine fA ?_)
  refine⟨{g with dD:=D1},⟨⟨d,h.m,h.a,h.al,h.r,?_,h.o⟩,rfl⟩,?_⟩
  ·show qq _ _ _ _ _ (q2O b.w a) _;rw[q2O,if_pos hm];exact y
  ·dsimp only[TxG.O,TxG.pre,TxG.post,wrM];rw[q2O,if_pos hm,zm];exact(eC)
 ·repeat'((try conv=>whnf);first|apply qcr;exact rfl;omega|apply q3L (enc:=q06) (T:=45) (j:=a) (k:=0) v u l;exact rfl;omega;exact rfl;exact rfl;intro D1 d|apply q0f (enc:=qw) (T:=3) (a:Int) y;exact rfl;exact rfl;omega;exact rfl;exact rfl;omega;intro a2 c2 C z|(apply qL;first|refine ixE i l ?_ ?_;(first|rfl|omega))|apply qe;refine qd (B _) ?_|refine fA ?_|refine fN ?_|refine qg fun bk hbk=>?_)
  refine⟨{g with dD:=D1,wa:=a2,wc:=c2,wD:=C},⟨⟨d,h.m,h.a,h.al,h.r,?_,h.o⟩,rfl⟩,?_⟩
  ·show qq _ _ _ _ _ (q2O b.w a) _;rw[q2O,if_neg hm];exact z
  ·dsimp only[TxG.O,TxG.pre,TxG.post,wrM];rw[q2O,if_neg hm,zm];simp only[z8,zu,zE,zy];exact(eC)
end
open Go
noncomputable def qnF:DecidableEq (j9):=fun _ _=>Classical.propDecidable _
noncomputable def cnt(a:j9)(l:Own):Nat:= @List.count _ (@instBEqOfDecidableEq _ qnF) a l
noncomputable def onE(a b:j9):Nat:=cnt a [b]
theorem q8K{a:j9}{l m:Own}:cnt a (l++m)=cnt a l+cnt a m:=by
 letI:=qnF
 exact List.count_append
theorem qiN{a:j9}:cnt a []=0:=rfl
theorem qfs{a b:j9}{l:Own}:cnt a (b::l)=onE a b+cnt a l:=by
 have:=q8K (a:=a) (l:= [b]) (m:=l);exact this
theorem qfX{l m:Own}(h:∀a,cnt a l=cnt a m):l.Perm m:=by
 letI:=qnF
 exact List.perm_iff_count.2 h
theorem q0r{W0:World}{own own':Own}(d:Own)(h:∀a,cnt a own=cnt a own'+cnt a d:=by intro a;simp only[q8K,qfs,qiN];omega):Ent W0 own own':=
 (Ent.of_perm (qfX (m:=own'++d) fun a=>by rw[q8K];exact h a)).trans Ent.left
abbrev uv(x:Int):Value:= j5 x
structure MH where
 mb:Nat
 mp:Nat
 b:Nat->Nat
 r:Nat->je
 n:Nat->Nat
 ml:List (Value×Value)
def MH.e(h:MH)(L:List (jd))(j:Nat):j9:=(h.b j,j7 ((L.getD j []).map uv++h.r j).toArray 45)
abbrev MH.D(h:MH)(L:List (jd)):Own:=(List.range 8).map (h.e L)
def MH.OL(h:MH)(L:List (jd)):Own:=(h.mb,j7 #[.map (some h.mp)] 158)::((h.mp,q2H h.ml)::h.D L)
structure MH.ok(h:MH)(L:List (jd)):Prop where
 fd:∀k:Nat,k<8->q1Y 0 (j4 ((k:Int)+1)) h.ml=some (some (.slice (some ⟨h.b k,0,none⟩) (h.n k) (h.n k+(h.r k).length)))
 ln:∀k:Nat,k<8->(L.getD k []).length=h.n k
 l8:L.length=8
 bd:∀k:Nat,k<8->h.n k<=1000000
theorem Lis.refl:∀l:je,Lis l l
 | []=> .nil
 |_::l=> .cons (Lis.refl l)
theorem q7Q:∀(l:je) (j:Nat) (v:Value),j<l.length->q0M l j v (l.set j v)
 | [],j,v,h=>by simp at h
 |a::l,0,v,_=> .here (Lis.refl l)
 |a::l,j+1,v,h=> .there (q7Q l j v (by simpa using h))
theorem At.upd{b:Nat}{p q:Obj->Prop}{D i own:Own}{C:Own->Own}(h:At D own C)(hu:Up b p q D i):Up b p q own (C i):=by
 induction h with
 |head=>exact hu.appl
 |tail _ d=>exact Up.tail d
 | @skip A _ _ _ d=>exact d.app A
theorem qig{α:Type}(f g:α->j9){x:α}{b:Nat}{p q:Obj->Prop}:∀(l:List α),x∈l->l.Nodup->f x=(b,p)->g x=(b,q)->(∀y,y≠x->g y=f y)->Up b p q (l.map f) (l.map g)
 | [],h,_,_,_,_=>by cases h
 |y::l,h,i,B,C,d=>by
  rw[ZA] at i
  by_cases u:y=x
  ·subst u;rw[zG,zG,B,C,show l.map g=l.map f from Y5 fun z E=>d z fun e=>i.1 (e ▸ E)];exact Up.head
  ·rw[zG,zG,d y u];exact Up.tail (qig f g l ((zX.1 h).resolve_left fun e=>u e.symm) i.2 B C d)
theorem qma{own:Own}{kk b:Nat}{key:Value}{l:List (Value×Value)}{r:Option Value}{K:Option Value->Prop} [m:qy b (q2H l) own](d:q1Y kk key l=some r)(i:K r):qns own kk b key K:=⟨l,r,m.h,d,i⟩
section
variable{W0:World}{own:Own}{h:MH}{L:List (jd)}{k j:Nat}
theorem q73{L:List (jd)}{l:jd}{k i:Nat}(u:k<L.length):(L.set k l).getD i []=if i=k then l else L.getD i []:=by
 rw[zg,zg,zx]
 by_cases e:k=i
 ·subst e;simp[u]
 ·rw[if_neg e,if_neg (fun d=>e d.symm)]
theorem qjg{x:Int}{K:Value->Prop} [m:qx own (h.D L)](u:k<8)(i:(L.getD k [])[j]? =some x)(l:K (uv x)):Ld W0 own ⟨h.b k,0+j*1,none⟩ K:=by
 refine qm7 ((q0E (v:=uv x) (zO.2 ⟨k,ZY.2 u,rfl⟩) ?_).ent (m.h W0)) l;have d:=(z7.1 i).1;rw[zQ,zy,yo,zB (by simpa using d),zI,i];rfl
theorem qoj{x:Int}{K:Own->Prop}{C:Own->Own} [m:AtC (h.D L) own C](l:k<8)(hl:L.length=8)(i:j<(L.getD k []).length)(d:K (C (h.D (L.set k ((L.getD k []).set j x))))):StT W0 own ⟨h.b k,0+j*1,none⟩ (uv x) K:=by
 have hu:Up (h.b k) (j7 ((L.getD k []).map uv++h.r k).toArray 45) (j7 (((L.getD k []).map uv++h.r k).set j (uv x)).toArray 45) (h.D L) (h.D (L.set k ((L.getD k []).set j x))):=by
  refine qig _ _ _ (ZY.2 l) List.nodup_range rfl ?_ fun y u=>?_
  ·unfold MH.e;rw[q73 Yb,if_pos rfl,yZ _ _ (by simpa using i),Y6]
  ·unfold MH.e;rw[q73 Yb,if_neg u]
 rw[zy,yo];exact q6u (m.h.upd hu) (by rw[zQ];exact q7Q _ _ _ (by rw[z8,zi];omega)) rfl d
theorem qbF{x v kd:Int}{dn:Bool}{g:FuncId}{caps:je}(i:h.ok L)(d:k<8)(B:(L.getD k [])[j]? =some x)(y:okF Tryz.prog g=true)(Q:Own)(E:∀(own':Own) [qx own' Q],jl W0 g (uv x::caps) own' (.tuple #[uv v, .bool dn])):
  jk W0 222 [jn h.mb,j4 kd,j4 ((k:Int)+1),j4 j, .func (.func g) #[] caps.toArray] (h.OL L++Q) fun r own'=>
   ∃_:Unit,r= .tuple #[(⟨kd,(k:Int)+1,j,x,if dn then v else x,dn⟩:AcM).v,j4 0]/\Ent W0 own' (h.OL (if dn then L.set k ((L.getD k []).set j v) else L)++Q):=by
 refine qG (sH [] ?_);have u:=(z7.1 B).1;have hn:=i.ln k d;have hb:=i.bd k d;have hjn:(j:Int)<h.n k:=Yb;have hj0:¬(j:Int)<0:=Yb;have l:=i.fd k d;unfold MH.OL;rw[zk,zk];cases dn with
 |true=>
  have C:((L.set k ((L.getD k []).set j v)).getD k [])[j]? =some v:=by rw[q73 (by rw[i.l8];exact d),if_pos rfl,zx,if_pos rfl,if_pos u]
  rw[if_pos rfl]
  repeat'((try conv=>whnf);first|refine fH ?_|refine fE ?_|refine fD ?_|refine fG ?_|refine qma l ?_|refine q8X ?_ ?_;omega|refine qjg d C ?_|refine qjg d B ?_|refine qoj d i.l8 u ?_|refine q3S.mk ⟨y,?_⟩|apply qe;refine qd (E _) ?_|refine fO ?_|refine fA ?_|refine fL ?_|refine fM ?_|refine qg fun F z=>?_)
  all_goals exact⟨rfl,(eC)⟩
 |false=>
  repeat'((try conv=>whnf);first|refine fH ?_|refine fD ?_|refine fG ?_|refine qma l ?_|refine q8X ?_ ?_;omega|refine qjg d B ?_|refine q3S.mk ⟨y,?_⟩|apply qe;refine qd (E _) ?_|refine fO ?_|refine fA ?_|refine fL ?_|refine fM ?_|refine qg fun F z=>?_)
  all_goals exact⟨rfl,(eC)⟩
end
structure Sb(own own':Own):Prop where
 h:∃d,own.Perm (own'++d)
section
variable{W0:World}{own r r' A D:Own}{b:Nat}{p q:Obj->Prop}{e:j9}
theorem qmt(h:Sb own r):Ent W0 own r:=by obtain⟨d,hd⟩:=h.h;exact(Ent.of_perm hd).trans Ent.left
theorem qjG:Sb own own:=⟨[],by rw[zC]⟩
theorem qjF(h:Sb own r):Sb (e::own) r:=by obtain⟨d,hd⟩:=h.h;exact⟨e::d,(hd.cons e).trans Z2.symm⟩
theorem qms(h:Sb own r):Sb (A++own) r:=by
 obtain⟨d,hd⟩:=h.h;refine⟨A++d,(hd.append_left A).trans ?_⟩;rw[<-zd,<-zd];exact Zc.append_right d
theorem qo5 [m:q07 D own r](h:Sb r r'):Sb own (D++r'):=by
 obtain⟨d,hd⟩:=h.h;exact⟨d,by rw[zd];exact m.h.trans (hd.append_left D)⟩
theorem qo6 [m:q1H b p own r](e:p=q)(h:Sb r r'):Sb own ((b,q)::r'):=by
 subst e;obtain⟨d,hd⟩:=h.h;exact⟨d,m.h.trans (hd.cons _)⟩
theorem sbE{own r:Own}(h:Sb own r:=by(repeat(first|exact qjG|exact sb_nil|refine qo5 ?_|refine qo6 rfl ?_|refine qjF ?_|refine qms ?_))):Ent W0 own r:=qmt h
end
section
variable{W0:World}{h:MH}{L:List (jd)}{k j:Nat}{x:Int}
theorem qgu(own:Own)(v:Int):jl W0 223 [uv v] own (.tuple #[uv v, .bool true]):=by
 refine qi (sH [] ?_)
 all_goals exact⟨rfl,(eC)⟩
theorem qj{own:Own}{b off:Nat}{cs:jg}{T:TypeId}{fz:Nat×Nat}{v:Value}(m:qy b (j7 cs T fz) own)(d:cs.toList[off]? =some v):Cl W0 own b off v:=q0E m.h d
theorem qez{own:Own}{b:Nat}{v:Int}(o:Int)(d:Cl W0 own b 0 (uv v)):jl W0 261 [uv o,jn b] own (.tuple #[uv v, .bool true]):=by
 refine qi (sH [] ?_)
 repeat'((try conv=>whnf);first|apply gLd;refine ldK d ?_)
 all_goals exact⟨rfl,(eC)⟩
theorem qjO{own:Own}{b:Nat}{v:Int}(o:Int)(d:Cl W0 own b 0 (uv v)):jl W0 306 [uv o,jn b] own (.tuple #[uv (qV (o+v)), .bool true]):=by
 refine qi (sH [] ?_)
 repeat'((try conv=>whnf);first|refine arw (k:= .u64) ?_|apply gLd;refine ldK d ?_)
 all_goals exact⟨rfl,(eC)⟩
theorem qgL{own:Own}{b b2:Nat}{v z:Int}(o:Int)(i:Cl W0 own b 0 (uv v))(d:Cl W0 own b2 0 (uv z)):jl W0 292 [uv o,jn b,jn b2] own (.tuple #[uv v, .bool (decide (o=z))]):=by
 refine qi (sH [3,5,7,9,11,13,0] ?_)
 repeat'((try conv=>whnf);first|(apply gLd;first|refine ldK i ?_|refine ldK d ?_))
 all_goals exact⟨rfl,(eC)⟩
theorem qnR:okF Tryz.prog 223=true:=by kernel_rfl
theorem qnS:okF Tryz.prog 261=true:=by kernel_rfl
theorem qnT:okF Tryz.prog 292=true:=by kernel_rfl
theorem qnU:okF Tryz.prog 306=true:=by kernel_rfl
theorem qga(u:h.ok L)(z:k<8)(y:(L.getD k [])[j]? =some x):L.set k ((L.getD k []).set j x)=L:=by
 obtain⟨i,l⟩:=z7.1 y;have d:k<L.length:=by rw[u.l8];exact z
 rw[show(L.getD k []).set j x=L.getD k [] by rw[<-l];exact yu i,zg,z6 d,Z6];exact yu d
section
variable{own r:Own}{f:FuncId}{args:je}{K:Value->Own->Prop}{v kd:Int}{dn:Bool}{g:FuncId}
theorem q8D{caps:je}{q:Int}{L':List (jd)} [m:q07 (h.OL L) own r](y:h.ok L)(C:k<8)(B:(L.getD k [])[j]? =some x)(d:okF Tryz.prog g=true)(E:q=if dn then v else x)(u:L'=if dn then L.set k ((L.getD k []).set j v) else L)(i:f=222)
  (ea:args= [jn h.mb,j4 kd,j4 ((k:Int)+1),j4 j, .func (.func g) #[] caps.toArray]) (z:∀own':Own,qx own' r->jl W0 g (uv x::caps) own' (.tuple #[uv v, .bool dn]))
  (l:K (.tuple #[(⟨kd,(k:Int)+1,j,x,q,dn⟩:AcM).v,j4 0]) (h.OL L'++r)):q0g Tryz.prog W0 own f args K:=
 q3V (qbF (kd:=kd) y C B d r fun own' e=>z own' e) i ea fun _ _ F=>by subst F;subst E;subst u;exact l
theorem q9P{b:Nat}{z q:Int}{L':List (jd)} [m:q07 (h.OL L) own r](y:h.ok L)(E:k<8)(C:(L.getD k [])[j]? =some x)(d:okF Tryz.prog g=true)(F:q=if dn then v else x)(u:L'=if dn then L.set k ((L.getD k []).set j v) else L)(B:∀(b:Nat) (own':Own),Cl W0 own' b 0 (uv z)->jl W0 g [uv x,jn b] own' (.tuple #[uv v, .bool dn]))(i:f=222)
  (ea:args= [jn h.mb,j4 kd,j4 ((k:Int)+1),j4 j, .func (.func g) #[] #[jn b]]) (mm:qy b (j7 #[uv z] 45) r)
  (l:K (.tuple #[(⟨kd,(k:Int)+1,j,x,q,dn⟩:AcM).v,j4 0]) (h.OL L'++r)):q0g Tryz.prog W0 own f args K:=
 q8D (caps:= [_]) y E C d F u i ea (fun own' e=>B _ own' ((qj mm rfl).ent (e.h W0))) l
theorem qfq{b b2:Nat}{z z2 q:Int}{L':List (jd)} [m:q07 (h.OL L) own r](B:h.ok L)(F:k<8)(E:(L.getD k [])[j]? =some x)(d:okF Tryz.prog g=true)(G:q=if dn then v else x)(y:L'=if dn then L.set k ((L.getD k []).set j v) else L)(C:∀(b b2:Nat) (own':Own),Cl W0 own' b 0 (uv z)->Cl W0 own' b2 0 (uv z2)->jl W0 g [uv x,jn b,jn b2] own' (.tuple #[uv v, .bool dn]))(l:f=222)
  (ea:args= [jn h.mb,j4 kd,j4 ((k:Int)+1),j4 j, .func (.func g) #[] #[jn b,jn b2]]) (mm:qy b (j7 #[uv z] 45) r) (i:qy b2 (j7 #[uv z2] 45) r)
  (u:K (.tuple #[(⟨kd,(k:Int)+1,j,x,q,dn⟩:AcM).v,j4 0]) (h.OL L'++r)):q0g Tryz.prog W0 own f args K:=
 q8D (caps:= [_,_]) B F E d G y l ea (fun own' e=>C _ _ own' ((qj mm rfl).ent (e.h W0)) ((qj i rfl).ent (e.h W0))) u
end
theorem qjW(d:h.ok L)(l:k<8)(i:(L.getD k [])[j]? =some x)(Q:Own):
  jk W0 158 [jn h.mb,j4 ((k:Int)+1),j4 j] (h.OL L++Q) fun r own'=>
   ∃_:Unit,r= .tuple #[(acL ((k:Int)+1) j x).v,j4 0]/\Ent W0 own' (h.OL L++Q):=by
 refine qG (sH [] ?_);have u:=(qga d l i).symm
 repeat'((try conv=>whnf);first|(apply qe;first|refine q8D (kd:=1) (dn:=true) (v:=x) (caps:= []) d l i qnR rfl u ?_ ?_ (fun own' _=>qgu own' x) ?_;exact rfl;exact rfl)|refine fO ?_|refine fL ?_|refine fM ?_|refine qg fun bk hbk=>?_)
 exact⟨rfl,sbE⟩
theorem qgK(d:h.ok L)(u:k<8)(l:(L.getD k [])[j]? =some x)(v:Int)(Q:Own):
  jk W0 174 [jn h.mb,j4 ((k:Int)+1),j4 j,uv v] (h.OL L++Q) fun r own'=>
   ∃_:Unit,r= .tuple #[(acS ((k:Int)+1) j x v).v,j4 0]/\Ent W0 own' (h.OL (L.set k ((L.getD k []).set j v))++Q):=by
 refine qG (sH [] ?_)
 repeat'((try conv=>whnf);first|(apply qe;first|refine q9P (b:= ?_) (kd:=2) (dn:=true) (v:=v) d u l qnS (if_pos rfl).symm (if_pos rfl).symm (fun _ _ i=>qez x i) ?_ ?_ ?_ ?_;rotate_left;exact rfl;exact rfl;exact Ye)|refine fO ?_|refine fL ?_|refine fM ?_|refine qg fun bk hbk=>?_)
 all_goals exact⟨rfl,sbE⟩
theorem qmy(d:h.ok L)(u:k<8)(l:(L.getD k [])[j]? =some x)(v:Int)(Q:Own):
  jk W0 296 [jn h.mb,j4 ((k:Int)+1),j4 j,uv v] (h.OL L++Q) fun r own'=>
   ∃_:Unit,r= .tuple #[(acA ((k:Int)+1) j x v).v,j4 0]/\Ent W0 own' (h.OL (L.set k ((L.getD k []).set j (qV (x+v))))++Q):=by
 refine qG (sH [] ?_)
 repeat'((try conv=>whnf);first|(apply qe;first|refine q9P (b:= ?_) (kd:=4) (dn:=true) (v:=qV (x+v)) d u l qnU (if_pos rfl).symm (if_pos rfl).symm (fun _ _ i=>qjO x i) ?_ ?_ ?_ ?_;rotate_left;exact rfl;exact rfl;exact Ye)|refine fO ?_|refine fL ?_|refine fM ?_|refine qg fun bk hbk=>?_)
 all_goals exact⟨rfl,sbE⟩
theorem qki(i:h.ok L)(y:k<8)(u:(L.getD k [])[j]? =some x)(z v:Int)(Q:Own):
  jk W0 227 [jn h.mb,j4 ((k:Int)+1),j4 j,uv z,uv v] (h.OL L++Q) fun r own'=>
   ∃_:Unit,r= .tuple #[(acW ((k:Int)+1) j x v (decide (x=z))).v,j4 0]/\Ent W0 own' (h.OL (if x=z then L.set k ((L.getD k []).set j v) else L)++Q):=by
 refine qG (sH [] ?_)
 repeat'((try conv=>whnf);first|(apply qe;first|refine qfq (b:= ?_) (b2:= ?_) (kd:=3) (dn:=decide (x=z)) (v:=v) (q:=if decide (x=z) then v else x) (L':=if x=z then L.set k ((L.getD k []).set j v) else L) i y u qnT rfl (by simp only[decide_eq_true_eq]) (fun _ _ _ l d=>qgL x l d) ?_ ?_ ?_ ?_ ?_;rotate_left;rotate_left;exact rfl;exact rfl;exact Ye;exact Ye)|refine fO ?_|refine fL ?_|refine fM ?_|refine qg fun bk hbk=>?_)
 all_goals exact⟨rfl,sbE⟩
end
open Go
def MH.O(h:MH)(m:MS):Own:=h.OL m.L
section
variable{P:Program}{W0:World}{own D r r1:Own}{f f0:FuncId}{args args0:je}{b:Nat}{p p':Obj->Prop}
theorem q8E{σ:Type}{R:σ->Value->Prop}{O:σ->Own}{K:Value->Own->Prop} [B:q1H b p own r1] [C:q07 D r1 r](h:qu P W0 f0 args0 ((b,p')::(D++r)) fun v own'=>∃s,R s v/\Ent W0 own' (O s))(i:p=p')(d:f=f0)(ea:args=args0)(y:∀s v,R s v->K v (O s)):q0g P W0 own f args K:=by
 subst d;subst ea;subst i;exact⟨fun w hw=>(h w (Ent.of_perm (B.h.trans (C.h.cons _)) w hw)).mono fun _ _ ⟨_,_,he,z,s,u,l⟩=>⟨_,O s,he,l _ z,y s _ u⟩⟩
theorem qA{σ:Type}{R:σ->Value->Prop}{O:σ->Own}{K:Value->Own->Prop} [m1:q1H b p own r1] [m2:q07 D r1 r](h:qu P W0 f0 args0 ((b,p')::(D++r)) fun v own'=>∃s,R s v/\Ent W0 own' (O s))(l:∀s v,R s v->K v (O s))(i:p=p':=by exact rfl)(d:f=f0:=by exact rfl)(ea:args=args0:=by exact rfl):q0g P W0 own f args K:=q8E h i d ea l
end
section
variable{W0:World}{own r:Own}{f:FuncId}{args:je}{K:Value->Own->Prop}{h:MH}{m m':MS}{k j:Nat}{x v:Int}
theorem q0x [q07 (h.O m) own r](k j:Nat)(l:h.ok m.L)(y:k<8)(u:(m.L.getD k [])[j]? =some x)(d:f=158)(ea:args= [jn h.mb,j4 ((k:Int)+1),j4 j])
  (i:K (.tuple #[(acL ((k:Int)+1) j x).v,j4 0]) (h.O m++r)):q0g Tryz.prog W0 own f args K:=
 q3V (D:=h.O m) (qjW l y u r) d ea fun _ _ z=>by subst z;exact i
theorem q2p [q07 (h.O m) own r](k j:Nat)(v:Int)(m':MS)(l:h.ok m.L)(y:k<8)(u:(m.L.getD k [])[j]? =some x)(hm:m'.L=m.L.set k ((m.L.getD k []).set j v))(d:f=174)(ea:args= [jn h.mb,j4 ((k:Int)+1),j4 j,uv v])
  (i:K (.tuple #[(acS ((k:Int)+1) j x v).v,j4 0]) (h.O m'++r)):q0g Tryz.prog W0 own f args K:=
 q3V (D:=h.O m) (by have:=qgK (W0:=W0) l y u v r;rw[<-hm] at this;exact this) d ea fun _ _ z=>by subst z;exact i
theorem qiD [q07 (h.O m) own r](k j:Nat)(v:Int)(m':MS)(l:h.ok m.L)(y:k<8)(u:(m.L.getD k [])[j]? =some x)(hm:m'.L=m.L.set k ((m.L.getD k []).set j (qV (x+v))))(d:f=296)(ea:args= [jn h.mb,j4 ((k:Int)+1),j4 j,uv v])
  (i:K (.tuple #[(acA ((k:Int)+1) j x v).v,j4 0]) (h.O m'++r)):q0g Tryz.prog W0 own f args K:=
 q3V (D:=h.O m) (by have:=qmy (W0:=W0) l y u v r;rw[<-hm] at this;exact this) d ea fun _ _ z=>by subst z;exact i
theorem q3W [q07 (h.O m) own r](k j:Nat)(z v:Int)(m':MS)(l:h.ok m.L)(y:k<8)(u:(m.L.getD k [])[j]? =some x)(hm:m'.L=if x=z then m.L.set k ((m.L.getD k []).set j v) else m.L)(d:f=227)(ea:args= [jn h.mb,j4 ((k:Int)+1),j4 j,uv z,uv v])
  (i:K (.tuple #[(acW ((k:Int)+1) j x v (decide (x=z))).v,j4 0]) (h.O m'++r)):q0g Tryz.prog W0 own f args K:=
 q3V (D:=h.O m) (by have:=qki (W0:=W0) l y u z v r;rw[<-hm] at this;exact this) d ea fun _ _ B=>by subst B;exact i
end
section
variable{W0:World}{own:Own}
theorem q6q(o:Int)(h:okU o):jl W0 294 [uv o] own (j4 (q5J o)):=by
 refine qi (sH [] ?_);unfold okU at h
 repeat'((try conv=>whnf);first|refine qdC ?_ ?_;omega|refine fB ?_)
 all_goals exact⟨rfl,(eC)⟩
theorem q82(o:Int)(h:okU o):jl W0 293 [uv o] own (j4 (q3R o)):=by
 refine qi (sH [] ?_);unfold okU at h
 repeat'((try conv=>whnf);first|refine fB ?_|refine q2R ?_ ?_;omega)
 all_goals exact⟨rfl,(eC)⟩
theorem qha(v:Int)(h:0<=v/\v<=1099511627776):jl W0 257 [j4 v] own (.tuple #[uv (v*64),j4 0]):=by
 have d:jl W0 298 [j4 v] own (.bool true):=by
  refine qi (sH [] ?_)
  repeat'((try conv=>whnf);first|refine fH ?_|refine fJ ?_)
  all_goals exact⟨q0s (vb (decide_eq_true Yb)),(eC)⟩
 refine qi (sH [] ?_)
 repeat'((try conv=>whnf);first|refine fD ?_|apply qe;refine qd (d) ?_|refine fC ?_)
 all_goals exact⟨rfl,(eC)⟩
end
section
variable{W0:World}{own:Own}{h:MH}{m:MS}{b t:Nat}{c x:Int}
abbrev enP(t n:Nat)(c:Int):Obj->Prop:=fun o=>o=Obj.cells #[j4 t,j4 n,uv c] 344 (0,0)
theorem q9n(t:Nat)(Q:Own):jk W0 272 [j4 t] Q fun v own'=>∃b:Nat,v= jn b/\Ent W0 own' ((b,enP t 0 0)::Q):=by
 refine sH [] ?_
 repeat'((try conv=>whnf);first|refine qg fun bk hbk=>?_)
 all_goals exact⟨_,rfl,Ent.refl⟩
theorem qdY(d:h.ok m.L)(i:m.sl[t]? =some x)(Q:Own):jk W0 229 [jn b,jn h.mb] ((b,enP t 0 c)::(h.O m++Q)) fun v own'=>
  ∃_:Unit,v=(acS 6 t x 1).v/\Ent W0 own' ((b,enP t 1 c)::(h.O {m with sl:=m.sl.set t 1}++Q)):=by
 refine qG (sH (jo 10 3 [24,25,27,29,32,0]) ?_)
 repeat'((try conv=>whnf);first|refine fE ?_|(apply qe;first|refine q2p 5 t 1 {m with sl:=m.sl.set t 1} d Yc i rfl ?_ ?_ ?_;exact rfl;exact rfl)|refine fB ?_|refine fO ?_|refine fA ?_|refine fL ?_|refine fN ?_|refine fM ?_|refine qg fun bk hbk=>?_)
 all_goals exact⟨rfl,sbE⟩
theorem qdZ(d:h.ok m.L)(Q:Own):jk W0 229 [jn b,jn h.mb] ((b,enP t 1 c)::(h.O m++Q)) fun v own'=>
  ∃_:Unit,v=(acL 3 0 m.ck).v/\Ent W0 own' ((b,enP t 2 m.ck)::(h.O m++Q)):=by
 refine qG (sH (jo 10 3 [24,25,27,29,32,0]) ?_)
 repeat'((try conv=>whnf);first|refine fE ?_|refine fD ?_|(apply qe;first|refine q0x 2 0 d Yc rfl ?_ ?_ ?_;exact rfl;exact rfl)|refine fB ?_|refine fO ?_|refine fA ?_|refine fL ?_|refine fN ?_|refine fM ?_|refine qg fun bk hbk=>?_)
 all_goals exact⟨rfl,sbE⟩
theorem qe0(d:h.ok m.L)(i:m.sl[t]? =some x)(Q:Own):jk W0 229 [jn b,jn h.mb] ((b,enP t 2 c)::(h.O m++Q)) fun v own'=>
  ∃_:Unit,v=(acS 6 t x (qV (c+2))).v/\Ent W0 own' ((b,enP t 3 c)::(h.O {m with sl:=m.sl.set t (qV (c+2))}++Q)):=by
 refine qG (sH (jo 10 3 [24,25,27,29,32,0]) ?_)
 repeat'((try conv=>whnf);first|refine fE ?_|refine fD ?_|refine arw (k:= .u64) ?_|(apply qe;first|refine q2p 5 t (qV (c+2)) {m with sl:=m.sl.set t (qV (c+2))} d Yc i rfl ?_ ?_ ?_;exact rfl;exact rfl)|refine fB ?_|refine fO ?_|refine fA ?_|refine fL ?_|refine fN ?_|refine fM ?_|refine qg fun bk hbk=>?_)
 all_goals exact⟨rfl,sbE⟩
theorem q5p{n:Int}(d:Cl W0 own b 1 (j4 n)):jl W0 230 [jn b] own (.bool (decide (n=3))):=by
 refine qi (sH [] ?_)
 repeat'((try conv=>whnf);first|refine q0k d ?_)
 all_goals exact⟨rfl,(eC)⟩
theorem q4b{n:Int}(i:Cl W0 own b 1 (j4 n))(l:Cl W0 own b 2 (uv c))(hb:0<=c/\c<=1099511627776):jl W0 228 [jn b] own (j4 (if n<=1 then-1 else c)):=by
 refine qi (sH [] ?_)
 repeat'((try conv=>whnf);first|refine q0k i ?_|refine q0k l ?_|refine fB ?_|apply q6D;exact rfl;all_goals intro d)
 ·exact⟨q0s (vi (if_pos d).symm),(eC)⟩
 ·exact⟨q0s (vi (if_neg d).symm),(eC)⟩
theorem qgq(d:h.ok m.L)(i:m.sl[t]? =some x)(Q:Own):jk W0 179 [jn h.mb,j4 t] (h.O m++Q) fun v own'=>
  ∃_:Unit,v=(acS 6 t x 0).v/\Ent W0 own' (h.O {m with sl:=m.sl.set t 0}++Q):=by
 refine qG (sH [] ?_)
 repeat'((try conv=>whnf);first|(apply qe;first|refine q2p 5 t 0 {m with sl:=m.sl.set t 0} d Yc i rfl ?_ ?_ ?_;exact rfl;exact rfl)|refine fO ?_|refine fL ?_|refine fM ?_|refine qg fun bk hbk=>?_)
 all_goals exact⟨rfl,sbE⟩
abbrev tnP(tk:Bool)(c:Int)(dn:Bool):Obj->Prop:=fun o=>o=Obj.cells #[.bool tk,uv c, .bool dn] 326 (0,0)
theorem q6j(Q:Own):jk W0 243 [] Q fun v own'=>∃b:Nat,v= jn b/\Ent W0 own' ((b,tnP false 0 false)::Q):=by
 refine sH [] ?_
 repeat'((try conv=>whnf);first|refine qg fun bk hbk=>?_)
 all_goals exact⟨_,rfl,Ent.refl⟩
theorem qh7(d:h.ok m.L)(Q:Own):jk W0 244 [jn b,jn h.mb] ((b,tnP false 0 false)::(h.O m++Q)) fun v own'=>
  ∃_:Unit,v=(acA 4 0 m.tk 1).v/\Ent W0 own' ((b,tnP true m.tk false)::(h.O {m with tk:=qV (m.tk+1)}++Q)):=by
 refine qG (sH [3,5,7,11,13,1,9,16,17,19,22,0,16,9,17,19,22,0,3,5,7,9,11,13,15,17,19,21,24,0] ?_)
 repeat'((try conv=>whnf);first|refine fE ?_|refine fD ?_|(apply qe;first|refine qiD 3 0 1 {m with tk:=qV (m.tk+1)} d Yc rfl rfl ?_ ?_ ?_;exact rfl;exact rfl)|refine fO ?_|refine fA ?_|refine fL ?_|refine fN ?_|refine fM ?_|refine qg fun bk hbk=>?_|refine q1k.mk ?_ ?_)
 all_goals exact⟨rfl,sbE⟩
theorem qh8(d:h.ok m.L)(Q:Own):jk W0 244 [jn b,jn h.mb] ((b,tnP true c false)::(h.O m++Q)) fun v own'=>
  ∃_:Unit,v=(acL 5 0 m.sv).v/\Ent W0 own' ((b,tnP true c (decide (m.sv=c)))::(h.O m++Q)):=by
 refine qG (sH [3,5,7,11,13,1,9,16,17,19,22,0,16,9,17,19,22,0,3,5,7,9,11,13,15,17,19,21,24,0] ?_)
 repeat'((try conv=>whnf);first|refine fD ?_|(apply qe;first|refine q0x 4 0 d Yc rfl ?_ ?_ ?_;exact rfl;exact rfl)|refine fO ?_|refine fA ?_|refine fL ?_|refine fN ?_|refine fM ?_|refine qg fun bk hbk=>?_)
 all_goals exact⟨rfl,sbE⟩
theorem q5y{d:Bool}(i:Cl W0 own b 2 (.bool d)):jl W0 245 [jn b] own (.bool d):=by
 refine qi (sH [] ?_)
 repeat'((try conv=>whnf);first|refine q0k i ?_)
 all_goals exact⟨rfl,(eC)⟩
theorem qeH(d:Cl W0 own b 0 (.bool true))(i:Cl W0 own b 1 (uv c))(hc:0<=c/\c<=1099511627776):jl W0 176 [jn b] own (j4 c):=by
 refine qi (sH [] ?_)
 repeat'((try conv=>whnf);first|refine q0k i ?_|apply gLd;refine ldK d ?_|refine fD ?_|refine fB ?_)
 all_goals exact⟨rfl,(eC)⟩
theorem qjZ(d:h.ok m.L)(hc:0<=c/\c<=1099511627776)(Q:Own):jk W0 175 [jn h.mb,j4 c] (h.O m++Q) fun v own'=>
  ∃_:Unit,v=(acS 5 0 m.sv (qV (c+1))).v/\Ent W0 own' (h.O {m with sv:=qV (c+1)}++Q):=by
 refine qG (sH [] ?_)
 repeat'((try conv=>whnf);first|(apply qe;first|refine q2p 4 0 (c+1) {m with sv:=c+1} d Yc rfl rfl ?_ ?_ ?_;exact rfl;exact rfl)|refine fC ?_|refine fO ?_|refine fL ?_|refine fM ?_|refine qg fun bk hbk=>?_)
 all_goals(rw[q3P (by unfold okU;omega)];exact⟨rfl,sbE⟩)
abbrev rdP(a o rv:Int)(n:Nat)(bf vl:Int)(d:Bool):Obj->Prop:=fun z=>z=Obj.cells #[j4 a,j4 o,j4 rv,j4 n,uv bf,uv vl, .bool d] 346 (0,0)
variable{a:Int}{o:Nat}{rv bf vl w:Int}
theorem qbE(a o rv:Int)(Q:Own):jk W0 268 [j4 a,j4 o,j4 rv] Q fun v own'=>∃b:Nat,v= jn b/\Ent W0 own' ((b,rdP a o rv 0 0 0 false)::Q):=by
 refine sH [] ?_
 repeat'((try conv=>whnf);first|refine qg fun bk hbk=>?_)
 all_goals exact⟨_,rfl,Ent.refl⟩
theorem qgD(l:h.ok m.L)(y:m.o[o]? =some w)(hw:okU w)(Q:Own):jk W0 231 [jn b,jn h.mb] ((b,rdP a o rv 0 0 0 false)::(h.O m++Q)) fun v own'=>
  ∃_:Unit,v=(acL 2 o w).v/\Ent W0 own' ((b,if q3R w>=0\/q5J w>rv then rdP a o rv 3 w 0 true else rdP a o rv 1 w 0 false)::(h.O m++Q)):=by
 refine qG (sH (jo 18 3 (0::(jo 11 3 [26,27,29,32,0]))) ?_);have d:=fun own'=>q82 (W0:=W0) (own:=own') w hw
 have i:=fun own'=>q6q (W0:=W0) (own:=own') w hw
 repeat'((try conv=>whnf);first|refine fH ?_|refine fI ?_|refine fE ?_|(apply qe;first|refine q0x 1 o l Yc y ?_ ?_ ?_;exact rfl;exact rfl)|(apply qz;first|refine qT d ?_|refine qT i ?_)|refine fO ?_|refine fA ?_|refine fL ?_|refine fN ?_|refine fM ?_|refine qg fun bk hbk=>?_|apply qf0;exact rfl;exact rfl;all_goals intro u|apply q6D;exact rfl;all_goals intro u)
 all_goals
  first
  |(rw[if_pos (.inl Yb)];exact⟨rfl,sbE⟩)
  |(rw[if_pos (.inr Yb)];exact⟨rfl,sbE⟩)
  |(rw[if_neg Yb];exact⟨rfl,sbE⟩)
theorem qgE{j:Nat}(d:h.ok m.L)(i:m.d[j]? =some w)(Q:Own):jk W0 231 [jn b,jn h.mb] ((b,rdP j o rv 1 bf 0 false)::(h.O m++Q)) fun v own'=>
  ∃_:Unit,v=(acL 1 j w).v/\Ent W0 own' ((b,rdP j o rv 2 bf w false)::(h.O m++Q)):=by
 refine qG (sH (jo 18 3 (0::(jo 11 3 [26,27,29,32,0]))) ?_)
 repeat'((try conv=>whnf);first|refine fE ?_|refine fD ?_|(apply qe;first|refine q0x 0 j d Yc i ?_ ?_ ?_;exact rfl;exact rfl)|refine fO ?_|refine fA ?_|refine fL ?_|refine fN ?_|refine fM ?_|refine qg fun bk hbk=>?_)
 all_goals exact⟨rfl,sbE⟩
theorem qgF(d:h.ok m.L)(i:m.o[o]? =some w)(Q:Own):jk W0 231 [jn b,jn h.mb] ((b,rdP a o rv 2 bf vl false)::(h.O m++Q)) fun v own'=>
  ∃_:Unit,v=(acL 2 o w).v/\Ent W0 own' ((b,rdP a o rv 3 bf vl (decide (w≠bf)))::(h.O m++Q)):=by
 refine qG (sH (jo 18 3 (0::(jo 11 3 [26,27,29,32,0]))) ?_)
 repeat'((try conv=>whnf);first|refine fE ?_|refine fD ?_|(apply qe;first|refine q0x 1 o d Yc i ?_ ?_ ?_;exact rfl;exact rfl)|refine fO ?_|refine fA ?_|refine fL ?_|refine fN ?_|refine fM ?_|refine qg fun bk hbk=>?_)
 all_goals exact⟨rfl,sbE⟩
theorem q2w{n:Int}(d:Cl W0 own b 3 (j4 n)):jl W0 232 [jn b] own (.bool (decide (n=3))):=by
 refine qi (sH [] ?_)
 repeat'((try conv=>whnf);first|refine q0k d ?_)
 all_goals exact⟨rfl,(eC)⟩
theorem q5v{d:Bool}(i:Cl W0 own b 6 (.bool d)):jl W0 233 [jn b] own (.bool d):=by
 refine qi (sH [] ?_)
 repeat'((try conv=>whnf);first|refine q0k i ?_)
 all_goals exact⟨rfl,(eC)⟩
theorem qgC(d:Cl W0 own b 3 (j4 3))(i:Cl W0 own b 5 (uv vl))(l:Cl W0 own b 6 (.bool false)):jl W0 237 [jn b] own (uv vl):=by
 refine qi (sH [] ?_)
 repeat'((try conv=>whnf);first|refine fH ?_|refine fD ?_|refine q0k l ?_|refine q0k i ?_|apply qe;refine qd (q2w d) ?_)
 all_goals exact⟨rfl,(eC)⟩
end
open Go
abbrev ptr(b:Nat):Value:= jn b
section
variable{W0:World}{own:Own}
theorem q79(w:Int)(h:okU w):jl W0 225 [uv w] own (j4 (q02 w)):=by
 refine qi (sH [] ?_);unfold okU at h
 repeat'((try conv=>whnf);first|refine fB ?_|refine q2R ?_ ?_;omega)
 all_goals exact⟨rfl,(eC)⟩
theorem qks(w:Int)(h:okU w):jl W0 291 [uv w] own (j4 (w/65536)):=by
 refine qi (sH [] ?_);unfold okU at h
 repeat'((try conv=>whnf);first|refine qdC ?_ ?_;omega|refine fB ?_)
 all_goals exact⟨rfl,(eC)⟩
theorem qaX(g b:Int)(hg:0<=g/\g<281474976710656)(hb: -1<=b/\b<64):jl W0 107 [j4 g,j4 b] own (.tuple #[uv (g*65536+(b+1)),j4 0]):=by
 refine qi (sH [] ?_)
 repeat'((try conv=>whnf);first|refine fH ?_|refine fG ?_|refine fK ?_|refine fB ?_|refine fC ?_)
 all_goals exact⟨rfl,(eC)⟩
theorem qaW(w b:Int)(h:okU w)(hb: -1<=b/\b<64):jl W0 226 [uv w,j4 b] own (.tuple #[uv (q05 w b),j4 0]):=by
 refine qi (sH [] ?_);have d:=fun own=>qks (W0:=W0) (own:=own) w h
 unfold okU at h;have i:=fun own=>qaX (W0:=W0) (own:=own) ((w/65536+1) % 281474976710656) b Yb hb
 rw[show q05 w b=(w/65536+1) % 281474976710656*65536+(b+1) from if_neg Yb]
 repeat'((try conv=>whnf);first|(apply qe;first|refine qd (d _) ?_|refine qd (i _) ?_)|refine fB ?_|refine fO ?_|refine q2R ?_ ?_;omega)
 all_goals exact⟨rfl,(eC)⟩
theorem q78(a:AcM):jl W0 240 [a.v] own (j4 (if a.c=8 then 9 else if a.k=3 then 10 else 8)):=by
 refine qi (sH [] ?_)
 repeat'((try conv=>whnf);first|refine fA ?_|refine qg fun bk hbk=>?_|apply q6D;exact rfl;all_goals intro hc)
 all_goals exact⟨q0s (vi Yb),(eC)⟩
theorem q88(a:AcM):jl W0 113 [a.v] own (j4 (if a.c=8 then 22 else if a.k=3 then 23 else 21)):=by
 refine qi (sH [] ?_)
 repeat'((try conv=>whnf);first|refine fA ?_|refine qg fun bk hbk=>?_|apply q6D;exact rfl;all_goals intro hc)
 all_goals exact⟨q0s (vi Yb),(eC)⟩
end
section
variable{W0:World}{own:Own}{h:MH}{m:MS}{b k j:Nat}{kc n hd nx bl w:Int}
abbrev ppP(k n hd nx b:Int):Obj->Prop:=fun z=>z=Obj.cells #[j4 k,j4 n,uv hd,uv nx,j4 b] 350 (0,0)
abbrev puP(k b n hd:Int):Obj->Prop:=fun z=>z=Obj.cells #[j4 k,j4 b,j4 n,uv hd] 316 (0,0)
theorem qeh(k:Int)(Q:Own):jk W0 274 [j4 k] Q fun v own'=>∃b:Nat,v=ptr b/\Ent W0 own' ((b,ppP k 0 0 0 (-1))::Q):=by
 refine sH [] ?_
 repeat'((try conv=>whnf);first|refine qg fun bk hbk=>?_)
 all_goals exact⟨_,rfl,Ent.refl⟩
theorem q6i(k b:Int)(Q:Own):jk W0 161 [j4 k,j4 b] Q fun v own'=>∃p:Nat,v=ptr p/\Ent W0 own' ((p,puP k b 0 0)::Q):=by
 refine sH [] ?_
 repeat'((try conv=>whnf);first|refine qg fun bk hbk=>?_)
 all_goals exact⟨_,rfl,Ent.refl⟩
theorem q2v(d:Cl W0 own b 1 (j4 n)):jl W0 239 [ptr b] own (.bool (decide (n=3))):=by
 refine qi (sH [] ?_)
 repeat'((try conv=>whnf);first|refine q0k d ?_)
 all_goals exact⟨rfl,(eC)⟩
theorem qbG(d:Cl W0 own b 4 (j4 n)):jl W0 300 [ptr b] own (j4 n):=by
 refine qi (sH [] ?_)
 repeat'((try conv=>whnf);first|refine q0k d ?_)
 all_goals exact⟨rfl,(eC)⟩
theorem q8a(d:Cl W0 own b 2 (j4 n)):jl W0 164 [ptr b] own (.bool (decide (n=3))):=by
 refine qi (sH [] ?_)
 repeat'((try conv=>whnf);first|refine q0k d ?_)
 all_goals exact⟨rfl,(eC)⟩
theorem qk0(l:h.ok m.L)(u:m.hd[k]? =some w)(hw:okU w)(Q:Own):jk W0 238 [ptr b,ptr h.mb] ((b,ppP k 0 hd nx bl)::(h.O m++Q)) fun v own'=>
  ∃_:Unit,v=(acL 7 k w).v/\Ent W0 own' ((b,ppP k (if q02 w<0 then 3 else 1) w nx bl)::(h.O m++Q)):=by
 refine qG (sH (jo 16 3 (0::(jo 10 3 [24,25,27,29,32,0]))) ?_);have i:=fun own=>q79 (W0:=W0) (own:=own) w hw
 by_cases y:q02 w<0
 ·rw[if_pos y]
  repeat'((try conv=>whnf);first|refine fE ?_|refine fF ?_|(apply qe;first|refine qd (i _) ?_|refine q0x 6 k l Yc u ?_ ?_ ?_;exact rfl;exact rfl)|refine fO ?_|refine fA ?_|refine fL ?_|refine fN ?_|refine fM ?_|refine qg fun z d=>?_)
  all_goals exact⟨rfl,sbE⟩
 ·rw[if_neg y]
  repeat'((try conv=>whnf);first|refine fE ?_|refine fG ?_|(apply qe;first|refine qd (i _) ?_|refine q0x 6 k l Yc u ?_ ?_ ?_;exact rfl;exact rfl)|refine fO ?_|refine fA ?_|refine fL ?_|refine fN ?_|refine fM ?_|refine qg fun z d=>?_)
  all_goals exact⟨rfl,sbE⟩
theorem qk1(i:h.ok m.L)(l:okU hd)(y:q02 hd=(j:Int))(u:m.nx[j]? =some w)(Q:Own):jk W0 238 [ptr b,ptr h.mb] ((b,ppP kc 1 hd nx bl)::(h.O m++Q)) fun v own'=>
  ∃_:Unit,v=(acL 8 j w).v/\Ent W0 own' ((b,ppP kc 2 hd w bl)::(h.O m++Q)):=by
 refine qG (sH (jo 16 3 (0::(jo 10 3 [24,25,27,29,32,0]))) ?_);have d:=fun own=>q79 (W0:=W0) (own:=own) hd l
 rw[y] at d
 repeat'((try conv=>whnf);first|refine fE ?_|refine fD ?_|(apply qe;first|refine qd (d _) ?_|refine q0x 7 j i Yc u ?_ ?_ ?_;exact rfl;exact rfl)|refine fO ?_|refine fA ?_|refine fL ?_|refine fN ?_|refine fM ?_|refine qg fun bk hbk=>?_)
 all_goals exact⟨rfl,sbE⟩
theorem qk2(l:h.ok m.L)(u:okU hd)(hn:0<=nx/\nx<=64)(y:m.hd[k]? =some w)(Q:Own):jk W0 238 [ptr b,ptr h.mb] ((b,ppP k 2 hd nx bl)::(h.O m++Q)) fun v own'=>
  ∃_:Unit,v=(acW 7 k w (q05 hd (nx-1)) (decide (w=hd))).v/\Ent W0 own' ((b,if w=hd then ppP k 3 hd nx (q02 hd) else ppP k 0 hd nx bl)::(h.O {m with hd:=if w=hd then m.hd.set k (q05 hd (nx-1)) else m.hd}++Q)):=by
 refine qG (sH (jo 16 3 (0::(jo 10 3 [24,25,27,29,32,0]))) ?_);have B:=fun own=>q79 (W0:=W0) (own:=own) hd u
 have i:=fun own=>qaW (W0:=W0) (own:=own) hd (nx-1) u Yb
 by_cases he:w=hd
 ·simp only[if_pos he,decide_eq_true he]
  repeat'((try conv=>whnf);first|refine fE ?_|refine fD ?_|(apply qe;first|refine qd (B _) ?_|refine q3W 6 k hd (q05 hd (nx-1)) {m with hd:=m.hd.set k (q05 hd (nx-1))} l Yc y (if_pos he).symm ?_ ?_ ?_;exact rfl;exact rfl;rw[decide_eq_true he])|apply qz;refine qT (fun _=>i _) ?_|refine fB ?_|refine fO ?_|refine fA ?_|refine fL ?_|refine fN ?_|refine fM ?_|refine qg fun z d=>?_)
  all_goals exact⟨rfl,sbE⟩
 ·simp only[if_neg he,decide_eq_false he]
  repeat'((try conv=>whnf);first|refine fE ?_|refine fD ?_|(apply qe;first|refine q3W 6 k hd (q05 hd (nx-1)) m l Yc y (if_neg he).symm ?_ ?_ ?_;exact rfl;exact rfl;rw[decide_eq_false he])|apply qz;refine qT (fun _=>i _) ?_|refine fB ?_|refine fO ?_|refine fA ?_|refine fL ?_|refine fN ?_|refine fM ?_|refine qg fun z d=>?_)
  all_goals exact⟨rfl,sbE⟩
theorem qaP(d:h.ok m.L)(i:m.hd[k]? =some w)(Q:Own):jk W0 163 [ptr b,ptr h.mb] ((b,puP k bl 0 hd)::(h.O m++Q)) fun v own'=>
  ∃_:Unit,v=(acL 7 k w).v/\Ent W0 own' ((b,puP k bl 1 w)::(h.O m++Q)):=by
 refine qG (sH (jo 12 3 (28::29::31::33::36::0::(jo 14 3 (0::(jo 10 3 [24,25,27,29,32,0]))))) ?_)
 repeat'((try conv=>whnf);first|refine fE ?_|(apply qe;first|refine q0x 6 k d Yc i ?_ ?_ ?_;exact rfl;exact rfl)|refine fO ?_|refine fA ?_|refine fL ?_|refine fN ?_|refine fM ?_|refine qg fun bk hbk=>?_)
 all_goals exact⟨rfl,sbE⟩
theorem qaQ(i:h.ok m.L)(l:okU hd)(u:m.nx[j]? =some w)(Q:Own):jk W0 163 [ptr b,ptr h.mb] ((b,puP kc j 1 hd)::(h.O m++Q)) fun v own'=>
  ∃_:Unit,v=(acS 8 j w (q02 hd+1)).v/\Ent W0 own' ((b,puP kc j 2 hd)::(h.O {m with nx:=m.nx.set j (q02 hd+1)}++Q)):=by
 refine qG (sH (jo 12 3 (28::29::31::33::36::0::(jo 14 3 (0::(jo 10 3 [24,25,27,29,32,0]))))) ?_);have d:=fun own=>q79 (W0:=W0) (own:=own) hd l
 have h2:0<=q02 hd+1/\q02 hd+1<=65536:=by unfold q02;omega
 repeat'((try conv=>whnf);first|refine fE ?_|refine fD ?_|(apply qe;first|refine q2p 7 j (q02 hd+1) {m with nx:=m.nx.set j (q02 hd+1)} i Yc u rfl ?_ ?_ ?_;exact rfl;exact rfl)|apply qz;refine qT (fun _=>d _) ?_|refine fB ?_|refine fC ?_|refine fO ?_|refine fA ?_|refine fL ?_|refine fN ?_|refine fM ?_|refine qg fun bk hbk=>?_)
 all_goals exact⟨rfl,sbE⟩
theorem qaR(l:h.ok m.L)(z:okU hd)(hn:0<=bl/\bl<64)(u:m.hd[k]? =some w)(Q:Own):jk W0 163 [ptr b,ptr h.mb] ((b,puP k bl 2 hd)::(h.O m++Q)) fun v own'=>
  ∃_:Unit,v=(acW 7 k w (q05 hd bl) (decide (w=hd))).v/\Ent W0 own' ((b,puP k bl (if w=hd then 3 else 0) hd)::(h.O {m with hd:=if w=hd then m.hd.set k (q05 hd bl) else m.hd}++Q)):=by
 refine qG (sH (jo 12 3 (28::29::31::33::36::0::(jo 14 3 (0::(jo 10 3 [24,25,27,29,32,0]))))) ?_);have i:=fun own=>qaW (W0:=W0) (own:=own) hd bl z Yb
 by_cases he:w=hd
 ·simp only[if_pos he,decide_eq_true he]
  repeat'((try conv=>whnf);first|refine fE ?_|refine fD ?_|(apply qe;first|refine q3W 6 k hd (q05 hd bl) {m with hd:=m.hd.set k (q05 hd bl)} l Yc u (if_pos he).symm ?_ ?_ ?_;exact rfl;exact rfl;rw[decide_eq_true he])|apply qz;refine qT (fun _=>i _) ?_|refine fO ?_|refine fA ?_|refine fL ?_|refine fN ?_|refine fM ?_|refine qg fun y d=>?_)
  all_goals exact⟨rfl,sbE⟩
 ·simp only[if_neg he,decide_eq_false he]
  repeat'((try conv=>whnf);first|refine fE ?_|refine fD ?_|(apply qe;first|refine q3W 6 k hd (q05 hd bl) m l Yc u (if_neg he).symm ?_ ?_ ?_;exact rfl;exact rfl;rw[decide_eq_false he])|apply qz;refine qT (fun _=>i _) ?_|refine fO ?_|refine fA ?_|refine fL ?_|refine fN ?_|refine fM ?_|refine qg fun y d=>?_)
  all_goals exact⟨rfl,sbE⟩
end
open Go
theorem q9Y{c:Cfg}{a:Int}:∀(n:Nat) (k:Int),0<=k->k+n<=qh c->q4s c a n k= -1\/(k<=q4s c a n k/\q4s c a n k<k+n/\qs c (q4s c a n k)=a)
 |0,_,_,_=> .inl rfl
 |n+1,k,h0,h1=>by
  unfold q4s
  split
  ·exact .inr ⟨zK _,Yb,by assumption⟩
  ·rcases q9Y (c:=c) (a:=a) n (k+1) Yb Yb with h|⟨h2,h3,d⟩
   ·exact .inl h
   ·exact .inr ⟨Yb,Yb,d⟩
theorem q3w(c:Cfg)(a:Int):qJ c a= -1\/(0<=qJ c a/\qJ c a<qh c/\qs c (qJ c a)=a):=by
 have hb:=qP c
 rcases q9Y (c:=c) (a:=a) (qh c).toNat 0 Yb Yb with h|⟨d,h2,i⟩
 ·exact .inl h
 ·exact .inr ⟨d,by unfold qJ;omega,i⟩
theorem q2C{c:Cfg}{k:Int}(u:0<=k)(h:k<qh c):0<=qs c k/\qs c k+2 ^ (ql c k).toNat<=c.words:=by
 have l:=q1X u h;have hb:=q1M l.1;have C:=qK l.1;obtain⟨-,B, -, -⟩:=C;unfold okH okC nB nW at B;simp only[qs,ql,l.1,u,and_self,if_true]
 by_cases d:k<c.c0
 ·simp only[d,if_true];refine⟨Yb,?_⟩;have:((2:Int) ^ (0:Int).toNat)=1:=rfl;omega
 ·by_cases i:k<c.c0+c.c1
  ·simp only[d,i,if_true,if_false];refine⟨Yb,?_⟩;have:((2:Int) ^ (1:Int).toNat)=2:=rfl;omega
  ·by_cases y:k<c.c0+c.c1+c.c2
   ·simp only[d,i,y,if_true,if_false];refine⟨Yb,?_⟩;have:((2:Int) ^ (2:Int).toNat)=4:=rfl;omega
   ·have z:k<c.c0+c.c1+c.c2+c.c3:=Yb;simp only[d,i,y,z,if_true,if_false];refine⟨Yb,?_⟩;have:((2:Int) ^ (3:Int).toNat)=8:=rfl;omega
theorem q7l{r:Rg}{b imm:Int}:okU (adr r b imm):=q0l _
section
variable{W0:World}{b o:Nat}{T:TypeId}{pre post:je}{t:Thr}
theorem qbt{x:Ins}(z:qH x=0)(d:x.op=10\/x.op=11\/x.op=12\/x.op=13)(C:o=pre.length)(r:Own):
  jl W0 138 [.pointer (some ⟨b,o,none⟩),x.v] ([thB b T pre post t]++r) (j5 (adr t.rg (if x.op=12\/x.op=10 then x.b else x.a) x.imm)):=by
 refine qi (sH (jo 12 3 (0::(jo 12 3 [0]))) ?_);subst C;obtain⟨h0,u,y, -⟩:=q15 z;clear z;obtain⟨op,a,B,c,imm⟩:=x;dsimp only[Ins.v] at*;have ha:=u (by rcases d with rfl|rfl|rfl|rfl <;>rfl);have hb:=y (by rcases d with rfl|rfl|rfl|rfl <;>rfl);have i:a.toNat<8:=Yb;have l:B.toNat<8:=Yb;clear u y
 rcases d with rfl|rfl|rfl|rfl
 all_goals
  repeat'((try conv=>whnf);first|refine fH ?_|refine fI ?_|refine fE ?_|refine fD ?_|refine q30 (t:=t) i ?_ ?_;omega|refine q30 (t:=t) l ?_ ?_;omega|refine arw (k:= .u64) ?_|refine fP ?_|refine fA ?_|refine qg fun bk hbk=>?_)
  exact⟨rfl,(eC)⟩
end
section
variable{W0:World}{K:Own}{g:TxG}{c:Cfg}{b:BM}
theorem qjS(h:g.ok W0 K b){x:Ins}(E:qH x=0)(y:x.op=15)(htk:b.tk.length=(qh c).toNat)(q:Own):
  jk W0 206 [jn g.xb,x.v] (g.O c b 0++q) fun _ own'=>∃g':TxG,
   (g'.ok W0 K {(q0d c b x).1 with t:=b.t}/\g'.xb=g.xb)/\Ent W0 own' (g'.O c {(q0d c b x).1 with t:=b.t} (q0d c b x).2++q):=by
 refine sH (jo 14 3 [0]) ?_;obtain⟨h0,B, -⟩:=q15 E;clear E;obtain⟨op,a,F,G,imm⟩:=x;dsimp only[Ins.v] at*;subst y;have ha:=B rfl;have d:a.toNat<8:=Yb;clear B;have i:=fun own=>q9j W0 own c (b.t.rg.get a.toNat)
 have hlf:=q3w c (b.t.rg.get a.toNat);have u:q0d c b ⟨15,a,F,G,imm⟩=if qJ c (b.t.rg.get a.toNat)<0\/b.tk.getD (qJ c (b.t.rg.get a.toNat)).toNat false=false then(b.go,8) else({b with tk:=b.tk.set (qJ c (b.t.rg.get a.toNat)).toNat false}.go,0):=rfl
 rw[u];clear u;generalize qJ c (b.t.rg.get a.toNat)=k at*
 by_cases I:k<0
 ·rw[if_pos (.inl I)]
  repeat'((try conv=>whnf);first|refine fI ?_|refine fE ?_|refine fJ ?_|refine q30 (t:=b.t) (pre:=g.pre c b) (post:=g.post b 0) d ?_ ?_;simp;omega|apply qz;refine qT (fun _=>i _) ?_|refine fP ?_|refine fA ?_|refine fQ ?_|refine fN ?_|refine qg fun z l=>?_)
  exact⟨g,⟨⟨h.d,h.m,h.a,h.al,h.r,h.w,h.o⟩,rfl⟩,(eC)⟩
 ·obtain⟨j,rfl⟩:=Zb (by omega:0<=k);have H:j<b.tk.length:=Yb;have hm:=h.m j;rw[zF];cases C:b.tk.getD j false with
  |false=>
   rw[C] at hm;rw[if_pos (.inr rfl)]
   repeat'((try conv=>whnf);first|refine fH ?_|refine fE ?_|refine q30 (t:=b.t) (pre:=g.pre c b) (post:=g.post b 0) d ?_ ?_;simp;omega|refine qfP hm ?_ ?_|intro _|apply qz;refine qT (fun _=>i _) ?_|refine fP ?_|refine fA ?_|refine fQ ?_|refine fN ?_|refine qg fun z l=>?_)
   all_goals exact⟨g,⟨⟨h.d,h.m,h.a,h.al,h.r,h.w,h.o⟩,rfl⟩,(eC)⟩
  |true=>
   rw[C] at hm;rw[if_neg Yd]
   repeat'((try conv=>whnf);first|refine fH ?_|refine fD ?_|refine q30 (t:=b.t) (pre:=g.pre c b) (post:=g.post b 0) d ?_ ?_;simp;omega|refine qfP hm ?_ (fun e=>by cases e)|refine qmb ?_|apply qz;refine qT (fun _=>i _) ?_|refine fP ?_|refine fA ?_|refine fQ ?_|refine qg fun z l=>?_)
   exact⟨{g with ml:=mpU g.ml j false},⟨⟨h.d,h.m.set H,h.a,h.al,h.r,h.w,h.o⟩,rfl⟩,(eC)⟩
theorem qbT(h:g.ok W0 K b)(hc:qI c=0){x:Ins}(hx:qH x=0)(H:x.op=10\/x.op=11)(hd:(b.d.length:Int)=c.words)(hr:b.r.length<=1000000)(hw:b.w.length<=1000000)(X:b.o.length<=1000000)(q:Own):
  jk W0 204 [jn g.xb,x.v] (g.O c b 0++q) fun _ own'=>∃g':TxG,
   (g'.ok W0 K {(q0d c b x).1 with t:={(q0d c b x).1.t with pc:=b.t.pc}}/\g'.xb=g.xb)/\Ent W0 own' (g'.O c {(q0d c b x).1 with t:={(q0d c b x).1.t with pc:=b.t.pc}} (q0d c b x).2++q):=by
 refine sH (jo 6 3 (0::(jo 10 3 (24::0::(jo 11 3 [26,0]))))) ?_;have d:=fun q=>qbt (W0:=W0) (b:=g.xb) (T:=214) (pre:=g.pre c b) (post:=g.post b 0) (t:=b.t) (o:=15) hx Yb rfl q
 have Y:=(qK hc).1;unfold okW at Y;obtain⟨h0,hA,hB, -⟩:=q15 hx;clear hx;have F:=q7l (r:=b.t.rg) (b:=if x.op=12\/x.op=10 then x.b else x.a) (imm:=x.imm);obtain⟨op,a,E,c',imm⟩:=x;dsimp only[Ins.v] at*;have R:=hA (by rcases H with rfl|rfl <;>rfl);have hb:=hB (by rcases H with rfl|rfl <;>rfl);have ha':a.toNat<8:=Yb;have S:E.toNat<8:=Yb;clear hA hB;have i:=h.d.rd (W0:=W0)
 rcases H with rfl|rfl
 ·rw[if_pos (.inr rfl)] at d F;have C:q0d c b ⟨10,a,E,c',imm⟩=if c.words<=adr b.t.rg E imm then(b.go,7) else((rdM b (adr b.t.rg E imm).toNat).put a 1 (b.d.getD (adr b.t.rg E imm).toNat 0),0):=rfl
  rw[C];clear C;generalize adr b.t.rg E imm=z at*
  by_cases Q:c.words<=z
  ·rw[if_pos Q]
   repeat'((try conv=>whnf);first|refine fF ?_|apply qz;refine qm (fun ex=>q1U (d _)) ?_|refine fC ?_|refine fA ?_|refine fL ?_|refine fN ?_|refine qg fun M l=>?_)
   exact⟨g,⟨⟨h.d,h.m,h.a,h.al,h.r,h.w,h.o⟩,rfl⟩,(eC)⟩
  ·rw[if_neg Q];obtain⟨j,rfl⟩:=Zb F.1;have W:j<b.d.length:=Yb;obtain⟨y,J⟩:∃y,b.d[j]? =some y:=⟨_,z6 W⟩
   have G:=fun(own':Own) [qx own' g.wD]=>q0z (own:=own') (cap:=g.wc) ((h.w.rd (W0:=W0)).up) Yb j
   have N:=fun(own':Own) [qx own' g.rD]=>q0z (own:=own') (cap:=g.rc) ((h.r.rd (W0:=W0)).up) Yb j
   have hR:=h.r;have V:b.d.getD j 0=y:=by simp[List.getD,J]
   rw[zF,V]
   by_cases hm:(j:Int)∈b.w
   ·have B:rdM b j=b:=by unfold rdM;rw[if_pos (.inl hm)]
    rw[B];have u:=qaM (out:=0) (c:=c) h X R 1 y q
    repeat'((try conv=>whnf);first|refine fI ?_|refine fD ?_|refine fG ?_|apply qf2;exact rfl;omega|refine fB ?_|apply gLd;refine q0n i J rfl ?_|(apply qL;first|refine ixE i J ?_ ?_;(first|rfl|omega))|(apply qe;first|refine qd (G _) ?_|refine qr u ?_ ?_ ?_ fun s v I=>?_;exact(eC);exact rfl;exact rfl)|apply qz;refine qm (fun ex=>q1U (d _)) ?_|refine fC ?_|refine fA ?_|refine fL ?_|refine qg fun M l=>?_)
    exact⟨s,I,Ent.refl⟩
   ·by_cases O:(j:Int)∈b.r
    ·have B:rdM b j=b:=by unfold rdM;rw[if_pos (.inr O)]
     rw[B];have u:=qaM (out:=0) (c:=c) h X R 1 y q
     repeat'((try conv=>whnf);first|refine fH ?_|refine fD ?_|refine fG ?_|apply qcs;exact rfl;omega|apply q8t;exact rfl;omega|refine fB ?_|apply gLd;refine q0n i J rfl ?_|(apply qL;first|refine ixE i J ?_ ?_;(first|rfl|omega))|(apply qe;first|refine qd (G _) ?_|refine qd (N _) ?_|refine qr u ?_ ?_ ?_ fun s v I=>?_;exact(eC);exact rfl;exact rfl)|apply qz;refine qm (fun ex=>q1U (d _)) ?_|refine fC ?_|refine fA ?_|refine fL ?_|refine qg fun M l=>?_)
     exact⟨s,I,Ent.refl⟩
    ·have B:rdM b j={b with r:=b.r++ [(j:Int)]}:=by unfold rdM;rw[if_neg (fun h=>h.elim hm O)]
     rw[B]
     repeat'((try conv=>whnf);first|refine fH ?_|refine fD ?_|refine fG ?_|apply qcr;exact rfl;omega|apply q8t;exact rfl;omega|refine fB ?_|apply q0f (enc:=qw) (T:=3) (j:Int) hR;exact rfl;exact rfl;omega;exact rfl;exact rfl;omega;intro a2 c2 D2 U|apply gLd;refine q0n i J rfl ?_|(apply qL;first|refine ixE i J ?_ ?_;(first|rfl|omega))|(apply qe;first|refine qd (G _) ?_|refine qd (N _) ?_|refine qr (qaM (out:=0) (c:=c) (g:={g with ra:=a2,rc:=c2,rD:=D2}) (b:={b with r:=b.r++ [(j:Int)]}) ⟨h.d,h.m,h.a,h.al,U,h.w,h.o⟩ X R 1 y q) ?_ ?_ ?_ fun s v I=>?_;dsimp only[TxG.O,TxG.pre,TxG.post];simp only[z8,zu,zE,zy];exact(eC);exact rfl;exact rfl)|apply qz;refine qm (fun ex=>q1U (d _)) ?_|refine fC ?_|refine fA ?_|refine fL ?_|refine fN ?_|refine qg fun M l=>?_)
     exact⟨s,I,Ent.refl⟩
 ·rw[if_neg Yb] at d F;have C:q0d c b ⟨11,a,E,c',imm⟩=if c.words<=adr b.t.rg a imm then(b.go,7) else((wrM b (adr b.t.rg a imm).toNat (b.t.rg.get E.toNat)).go,0):=rfl
  rw[C];clear C;generalize adr b.t.rg a imm=z at*
  by_cases Q:c.words<=z
  ·rw[if_pos Q]
   repeat'((try conv=>whnf);first|refine fF ?_|apply qz;refine qm (fun ex=>q1U (d _)) ?_|refine fC ?_|refine fA ?_|refine fL ?_|refine fN ?_|refine qg fun M l=>?_)
   exact⟨g,⟨⟨h.d,h.m,h.a,h.al,h.r,h.w,h.o⟩,rfl⟩,(eC)⟩
  ·rw[if_neg Q];obtain⟨j,rfl⟩:=Zb F.1;have W:j<b.d.length:=Yb;have Z:=qaY (out:=0) (c:=c) h W hw (b.t.rg.get E.toNat) q;rw[zF]
   repeat'((try conv=>whnf);first|refine fE ?_|refine fG ?_|refine fB ?_|refine q30 (t:=b.t) (pre:=g.pre c b) (post:=g.post b 0) S ?_ ?_;simp;omega|(apply qe;first|refine qr Z ?_ ?_ ?_ fun s v I=>?_;exact(eC);exact rfl;exact rfl)|apply qz;refine qm (fun ex=>q1U (d _)) ?_|refine fC ?_|refine fP ?_|refine fA ?_|refine fL ?_|refine qg fun M l=>?_)
   exact⟨s,I,Ent.refl⟩
end
open Go
theorem qa8{a:j8}{n c sz m:Nat}{K:Value->Prop}(d:n=m+1)(h:K (.slice (slA a c 1 sz) m (c-1))):qkO a n c sz (some 1) none none K:=by
 subst d;exact⟨1,m+1,c,rfl,rfl,rfl,Yb,Yd,Yd,Yd,h⟩
theorem qoc{m n:Int}{r:Int}{K:Int->Prop}(d:0<=n/\n<=64)(l:m*2 ^ n.toNat=r)(i: -9223372036854775808<=r/\r<=9223372036854775807)(h:K r):Shl .i64 m n K:=by
 subst l;exact qjK d i h
theorem qho(b:BM)(a:Nat):∀n,(wrL b a n).w.length<=b.w.length+n/\(wrL b a n).d.length=b.d.length/\(wrL b a n).o=b.o/\(wrL b a n).r=b.r/\(wrL b a n).t=b.t/\(wrL b a n).tk=b.tk/\(wrL b a n).ad=b.ad
 |0=>⟨zN _,rfl,rfl,rfl,rfl,rfl,rfl⟩
 |n+1=>by
  obtain⟨h1,d,i,l,u,y,z⟩:=qho b a n;refine⟨?_,by simp[wrL,wrM,d],i,l,u,y,z⟩;simp only[wrL,wrM,q2O]
  split
  ·omega
  ·simp;omega
theorem qX{P:Program}{W0:World}{σ:Type}{k:FuncId}{args:je}{E D:Own}{R:σ->Value->Prop}{O:σ->Own}{q:Own}(h:∀q,qu P W0 k args (D++q) fun v own'=>∃s,R s v/\Ent W0 own' (O s++q)):qu P W0 k args (E++(D++q)) fun v own'=>∃s,R s v/\Ent W0 own' (E++(O s++q)):=fun w hw=>
 (h (E++q) w (Ent.of_perm (by rw[<-zd,<-zd];exact Zc.append_right q) w hw)).mono fun _ _ ⟨v,o,a,b,s,c,d⟩=>⟨v,o,a,b,s,c,d.trans (Ent.of_perm (by rw[<-zd,<-zd];exact Zc.append_right q))⟩
section
variable{W0:World}{K:Own}{g:TxG}{c:Cfg}{b:BM}
theorem qgi(h:g.ok W0 K b)(hc:qI c=0){x:Ins}(hx:qH x=0)(ay:x.op=14)(hd:(b.d.length:Int)=c.words)(htk:b.tk.length=(qh c).toNat)(hw:b.w.length<=999000)(ho:b.o.length<=1000000)(av:∀a∈b.ad,a<=9223372036854775807)(q:Own) [ek:qx q K]:
  jk W0 205 [jn g.xb,x.v] (g.O c b 0++q) fun v own'=>
   ((v= .bool false/\(q0d c b x).2= -1)/\Ent W0 own' q)\/∃g':TxG,(v= .bool true/\(q0d c b x).2=0/\g'.ok W0 K {(q0d c b x).1 with t:={(q0d c b x).1.t with pc:=b.t.pc}}/\g'.xb=g.xb)/\
   Ent W0 own' (g'.O c {(q0d c b x).1 with t:={(q0d c b x).1.t with pc:=b.t.pc}} 0++q):=by
 refine sH (jo 22 3 [0]) ?_;obtain⟨h0,hA, -, -, -,hI⟩:=q15 hx;clear hx;obtain⟨op,a,b',c',imm⟩:=x;dsimp only[Ins.v] at*;subst ay;have ha:=hA rfl;have hi:=hI rfl;clear hA hI;have i:q0d c b ⟨14,a,b',c',imm⟩=match alB c b.tk b.ad imm with
  |none=>(b, -1)
  |some (z,k)=>((wrL {b with ad:=b.ad.tail,tk:=b.tk.set k true} z (2 ^ imm.toNat)).put a 2 z,0):=rfl
 have l:=h.a;have az:=(qK hc).1;unfold okW at az;cases d:b.ad with
 |nil=>
  have N:alB c b.tk b.ad imm=none:=by unfold alB;rw[d]
  rw[i,N];have hl:(b.ad.length:Int)=0:=by rw[d];rfl
  repeat'((try conv=>whnf);first|refine fI ?_|refine fE ?_|refine fJ ?_|refine fA ?_|refine qg fun S B=>?_)
  exact .inl ⟨⟨rfl,rfl⟩,(eC)⟩
 |cons z ad'=>
  have C:b.ad[0]? =some z:=by rw[d];rfl
  have hzm:=av z (by rw[d];exact zp);have hl:¬(b.ad.length:Int)=0:=by rw[d];simp;omega
  have G:b.ad.length=ad'.length+1:=by rw[d];rfl
  by_cases aj:z<0
  ·have N:alB c b.tk b.ad imm=none:=by unfold alB;rw[d];simp only;rw[if_pos (.inl aj)]
   rw[i,N]
   repeat'((try conv=>whnf);first|refine fH ?_|refine fF ?_|refine fK ?_|apply gLd;refine q0n l C rfl ?_|(apply qL;first|refine ixE l C ?_ ?_;(first|rfl|omega))|refine fA ?_|refine qg fun S B=>?_)
   exact .inl ⟨⟨rfl,rfl⟩,(eC)⟩
  ·have F:=fun own=>q9j W0 own c z
   have hlf:=q3w c z;have hbd:=qP c;have N:alB c b.tk b.ad imm=if qJ c z<0\/ql c (qJ c z)≠imm\/b.tk.getD (qJ c z).toNat false=true then none else some (z.toNat,(qJ c z).toNat):=by
    unfold alB;rw[d];simp only[aj,false_or]
   rw[N] at i;clear N;generalize qJ c z=k at*
   by_cases hk:k<0
   ·rw[if_pos (.inl hk)] at i;rw[i]
    repeat'((try conv=>whnf);first|refine fH ?_|refine fI ?_|refine fE ?_|refine fG ?_|refine fJ ?_|refine fK ?_|refine qa8 G ?_|apply gLd;refine q0n l C rfl ?_|(apply qL;first|refine ixE l C ?_ ?_;(first|rfl|omega))|apply qe;refine qd (F _) ?_|refine fC ?_|refine fA ?_|refine fQ ?_|refine fN ?_|refine qg fun S B=>?_)
    exact .inl ⟨⟨rfl,rfl⟩,(eC)⟩
   ·have V:=fun own=>q3G W0 own c k Yb
    have X:=q2C (c:=c) (k:=k) Yb Yb;have Z:qs c k=z:=Yb;rw[Z] at X;obtain⟨j,rfl⟩:=Zb (by omega:0<=k);obtain⟨R,rfl⟩:=Zb (by omega:0<=z);have hj:j<b.tk.length:=Yb;have hm:=h.m j;rw[zF,zF] at i;generalize ql c j=u at*
    by_cases I:u=imm
    ·subst I;cases H:b.tk.getD j false with
     |true=>
      rw[H] at hm i;rw[if_pos (.inr (.inr rfl))] at i;rw[i]
      repeat'((try conv=>whnf);first|refine fH ?_|refine fE ?_|refine fD ?_|refine fK ?_|refine qa8 G ?_|refine qfP hm ?_ (fun e=>by cases e)|apply gLd;refine q0n l C rfl ?_|(apply qL;first|refine ixE l C ?_ ?_;(first|rfl|omega))|apply qe;refine qd (F _) ?_|apply qz;refine qT (fun _=>V _) ?_|refine fC ?_|refine fA ?_|refine fQ ?_|refine fN ?_|refine qg fun S B=>?_)
      exact .inl ⟨⟨rfl,rfl⟩,(eC)⟩
     |false=>
      rw[H] at hm i;rw[if_neg Yd] at i;have Q:q0d c b ⟨14,a,b',c',u⟩=((wrL {b with ad:=ad',tk:=b.tk.set j true} R (2 ^ u.toNat)).put a 2 R,0):=by rw[i,d];rfl
      rw[Q];clear i Q;have au:(2:Nat) ^ u.toNat<=8:=by
       have:u.toNat=0\/u.toNat=1\/u.toNat=2\/u.toNat=3:=Yb
       rcases this with e|e|e|e <;>rw[e] <;>decide
      have hM:(1:Int)*2 ^ u.toNat=((2 ^ u.toNat:Nat):Int):=Yd;have aq:(2:Int) ^ u.toNat=((2 ^ u.toNat:Nat):Int):=Yd;rw[aq] at X;generalize 2 ^ u.toNat=M at au hM X ⊢;have O:({g with aa:=slA g.aa g.ac 1 1,ac:=g.ac-1,ml:=mpU g.ml j true}:TxG).ok W0 K {b with ad:=ad',tk:=b.tk.set j true}:=by
       refine⟨h.d,h.m.set hj,?_,?_,h.r,h.w,h.o⟩
       ·have:=l.sl (c:=1) (r:=b.ad.length) (m:=g.ac) (zN _) h.al;have e:(b.ad.drop 1).take (b.ad.length-1)=ad':=by rw[d];simp
        rw[e] at this;exact this
       ·have:=h.al;show ad'.length<=g.ac-1;omega
      obtain⟨b1,U⟩:∃b1:BM,b1={b with ad:=ad',tk:=b.tk.set j true}:=⟨_,rfl⟩
      rw[<-U] at O ⊢;have aB:=qho b1 R;have y:b1.w=b.w/\b1.d=b.d/\b1.o=b.o/\b1.t=b.t:=by rw[U];exact⟨rfl,rfl,rfl,rfl⟩
      repeat'((try conv=>whnf);first|refine fH ?_|refine fD ?_|refine fK ?_|refine qa8 G ?_|refine qfP hm ?_ ?_|intro _|refine qmb ?_|refine qoc ?_ hM ?_ ?_;omega;omega|apply gLd;refine q0n l C rfl ?_|(apply qL;first|refine ixE l C ?_ ?_;(first|rfl|omega))|apply qe;refine qd (F _) ?_|apply qz;refine qT (fun _=>V _) ?_|refine fC ?_|refine fA ?_|refine fQ ?_|refine fN ?_|refine qg fun S B=>?_)
      all_goals
       refine qQ (σ:=Nat×TxG) (fun s=> [(75,j4 s.1)]) (fun s=>(S,j7 #[j4 14,j4 a,j4 b',j4 c',j4 u] 62 (0,0))::(s.2.O c (wrL b1 R s.1) 0++q)) (fun s=>s.1<=M/\s.2.ok W0 K (wrL b1 R s.1)/\s.2.xb=g.xb) (fun s=>M-s.1) (0,{g with aa:=slA g.aa g.ac 1 1,ac:=g.ac-1,ml:=mpU g.ml j true}) ⟨zl _,O,rfl⟩ (eF) ?_ rfl ?_
       ·subst U;exact(eC)
       rintro⟨n,g'⟩ junk ⟨N,W,Y⟩;dsimp only at N W Y ⊢;obtain⟨w1,w2,w3,w4,w5,w6,w7⟩:=aB n;rw[y.1] at w1
       by_cases hlt:n<M
       ·have ae:(n:Int)<M:=Yb;have af:=qaY (out:=0) (c:=c) (a:=R+n) W (by rw[w2,y.2.1];omega) Yb 0;rw[Int.natCast_add,Y] at af;have aA:=qX (E:= [(S,j7 #[j4 14,j4 a,j4 b',j4 c',j4 u] 62 (0,0))]) (q:=q) af
        repeat'((try conv=>whnf);first|refine fF ?_|(apply qe;first|refine qr aA ?_ ?_ ?_ fun s v H=>?_;exact(eC);exact rfl;exact rfl)|refine fB ?_)
        exact⟨(n+1,s),⟨by dsimp only;omega,H.1,H.2⟩,by dsimp only;omega,(eF),(eC)⟩
       ·have ae:¬(n:Int)<M:=Yb;obtain rfl:n=M:=Yb;have J:=qaM (out:=0) (c:=c) W (by rw[w3,y.2.2.1];exact ho) ha 2 R q;rw[Y] at J
        repeat'((try conv=>whnf);first|refine fG ?_|(apply qe;first|refine qr J ?_ ?_ ?_ fun s v H=>?_;exact(eC);exact rfl;exact rfl)|refine fC ?_|refine fA ?_)
        have aw:(wrL b1 R n).t=b.t:=w5.trans y.2.2.2;simp only[BM.put,aw] at H ⊢;exact .inr ⟨s,⟨rfl,trivial,H.1,H.2⟩,Ent.refl⟩
    ·rw[if_pos (.inr (.inl I))] at i;rw[i]
     repeat'((try conv=>whnf);first|refine fH ?_|refine fI ?_|refine fE ?_|refine fD ?_|refine fJ ?_|refine fK ?_|refine qa8 G ?_|apply gLd;refine q0n l C rfl ?_|(apply qL;first|refine ixE l C ?_ ?_;(first|rfl|omega))|apply qe;refine qd (F _) ?_|apply qz;refine qT (fun _=>V _) ?_|refine fC ?_|refine fA ?_|refine fQ ?_|refine fN ?_|refine qg fun S B=>?_)
     exact .inl ⟨⟨rfl,rfl⟩,(eC)⟩
end
open Go
theorem qeV{c:Cfg}{b:BM}{x:Ins}(h:x.op=10\/x.op=11):(q0d c b x).1.t.pc=b.t.pc+1/\((q0d c b x).2=0\/(q0d c b x).2=7):=by
 unfold q0d
 rcases h with h|h
 ·rw[if_pos h]
  split
  ·exact⟨rfl, .inr rfl⟩
  ·exact⟨rfl, .inl rfl⟩
 ·rw[if_neg Yb,if_pos h]
  split
  ·exact⟨rfl, .inr rfl⟩
  ·refine⟨rfl, .inl rfl⟩
theorem qb3{c:Cfg}{b:BM}{x:Ins}(h:x.op=15):(q0d c b x).1.t={b.t with pc:=b.t.pc+1}/\((q0d c b x).2=0\/(q0d c b x).2=8):=by
 unfold q0d;rw[if_neg Yb,if_neg Yb,if_neg Yb,if_pos h]
 split
 ·exact⟨rfl, .inr rfl⟩
 ·exact⟨rfl, .inl rfl⟩
theorem qeW{c:Cfg}{b:BM}{x:Ins}(h:x.op=14)(d:(q0d c b x).2=0):(q0d c b x).1.t.pc=b.t.pc+1:=by
 unfold q0d at d ⊢;rw[if_neg Yb,if_neg Yb,if_pos h] at d ⊢
 split at d
 ·cases d
 ·rename_i a k _;show(wrL _ _ _).t.pc+1=_;rw[(qho _ _ _).2.2.2.2.1]
theorem qn1{t d:Thr}{n:Int}(i:d.rg=t.rg)(l:d.oc=t.oc)(u:d.dn=t.dn)(y:n=d.pc):t.enc.set 0 (j4 n)=d.enc:=by
 subst y;obtain⟨pc,rg,oc,dn⟩:=d;simp only at i l u;subst i;subst l;subst u;rfl
theorem qhf{W0:World}{own:Own}(g:TxG)(c:Cfg)(b:BM)(out:Int)(d:Thr){n:Int}{off:Nat}{T:TypeId}{K:Own->Prop}{C:(Obj->Prop)->Own} [m:UpC g.xb (j7 (g.pre c b++(b.t.enc++g.post b out)).toArray T (0,0)) own C]
  (i:d.rg=b.t.rg) (l:d.oc=b.t.oc) (u:d.dn=b.t.dn) (y:n=d.pc) (z:off=15) (h:K (C fun o=>o=Obj.cells (g.pre c b++(d.enc++g.post b out)).toArray T (0,0))):StT W0 own ⟨g.xb,off,none⟩ (j4 n) K:=
 qmT d (k:=0) Yb (qn1 i l u y) rfl (by rw[z];rfl) h
section
variable{W0:World}{K:Own}{g:TxG}{c:Cfg}{b:BM}
theorem qkh(h:g.ok W0 K b)(Y:qI c=0){x:Ins}(l:qH x=0)(X:b.t.rg.ok)(W:b.t.pc<=64)(hd:(b.d.length:Int)=c.words)(I:b.tk.length=(qh c).toNat)(hr:b.r.length<=900000)(hw:b.w.length<=900000)(ho:b.o.length<=900000)(O:∀a∈b.ad,a<=9223372036854775807)(q:Own) [ek:qx q K]:
  jk W0 134 [jn g.xb,x.v] (g.O c b 0++q) fun v own'=>
   ((v= .bool false/\(q0d c b x).2= -1)/\Ent W0 own' q)\/∃g':TxG,(v= .bool true/\(q0d c b x).2≠ -1/\g'.ok W0 K (q0d c b x).1/\g'.xb=g.xb)/\Ent W0 own' (g'.O c (q0d c b x).1 (q0d c b x).2++q):=by
 refine sH [3,5,7,9,12,13,0] ?_
 by_cases C:x.op=10\/x.op=11
 ·have G:=qbT h Y l C hd Yb Yb Yb q;obtain⟨y,V⟩:=qeV (c:=c) (b:=b) C;generalize q0d c b x=z at*;obtain⟨op,a,J,N,imm⟩:=x;dsimp only[Ins.v] at*;clear l
  rcases C with rfl|rfl
  all_goals
   repeat'((try conv=>whnf);first|refine fE ?_|refine fD ?_|refine qhf s c {z.1 with t:={z.1.t with pc:=b.t.pc}} z.2 z.1.t rfl rfl rfl ?_ rfl ?_;omega|(apply qe;first|refine qr G ?_ ?_ ?_ fun s v d=>?_;exact(eC);exact rfl;exact rfl;obtain⟨d,i⟩:=d;rw[<-i])|refine fB ?_|refine fA ?_|refine fL ?_|refine qg fun M u=>?_)
   exact .inr ⟨s,⟨rfl,Yb,⟨d.d,d.m,d.a,d.al,d.r,d.w,d.o⟩,rfl⟩,(eC)⟩
 by_cases E:x.op=14
 ·have Q:=qgi h Y l E hd I Yb Yb O q;have hp:=qeW (c:=c) (b:=b) E;generalize q0d c b x=z at*;obtain⟨op,a,J,N,imm⟩:=x;dsimp only[Ins.v] at*;clear l C;subst E
  repeat'((try conv=>whnf);first|refine fE ?_|refine fD ?_|refine qhf s c {z.1 with t:={z.1.t with pc:=b.t.pc}} 0 z.1.t rfl rfl rfl ?_ rfl ?_;omega|(apply qe;first|refine q2n Q ?_ ?_ ?_ (fun v d=>?_) fun s v d=>?_;exact(eC);exact rfl;exact rfl;obtain⟨rfl,d⟩:=d;rotate_left;obtain⟨rfl,hz,d,i⟩:=d;rw[<-i])|refine fB ?_|refine fA ?_|refine fL ?_|refine qg fun M u=>?_)
  ·exact .inr ⟨s,⟨rfl,Yb,⟨d.d,d.m,d.a,d.al,d.r,d.w,d.o⟩,rfl⟩,by rw[hz];exact(eC)⟩
  ·exact .inl ⟨⟨rfl,d⟩,Ent.refl⟩
 by_cases F:x.op=15
 ·have S:=qjS h l F I q;obtain⟨y,V⟩:=qb3 (c:=c) (b:=b) F;generalize q0d c b x=z at*;obtain⟨op,a,J,N,imm⟩:=x;dsimp only[Ins.v] at*;clear l C E;subst F;have B:z.1.t.rg=b.t.rg/\z.1.t.oc=b.t.oc/\z.1.t.dn=b.t.dn/\z.1.t.pc=b.t.pc+1:=by rw[y];exact⟨rfl,rfl,rfl,rfl⟩
  clear y
  repeat'((try conv=>whnf);first|refine fE ?_|refine fD ?_|refine qhf s c {z.1 with t:=b.t} z.2 z.1.t B.1 B.2.1 B.2.2.1 ?_ rfl ?_;omega|(apply qe;first|refine qr S ?_ ?_ ?_ fun s v d=>?_;exact(eC);exact rfl;exact rfl;obtain⟨d,i⟩:=d;rw[<-i])|refine fB ?_|refine fA ?_|refine fL ?_|refine qg fun M u=>?_)
  exact .inr ⟨s,⟨rfl,Yb,⟨d.d,d.m,d.a,d.al,d.r,d.w,d.o⟩,rfl⟩,(eC)⟩
 have H:q0d c b x=if x.op=8 then(b.go,1) else if x.op=9 then(b.go,2) else({b with t:=q1r b.t x},0):=by
  unfold q0d;rw[if_neg Yb,if_neg Yb,if_neg E,if_neg F]
 rw[H];clear H
 by_cases Z:x.op=8\/x.op=9
 ·obtain⟨op,a,J,N,imm⟩:=x;dsimp only[Ins.v] at*;clear l C E F
  rcases Z with rfl|rfl
  all_goals
   repeat'((try conv=>whnf);first|refine fE ?_|refine fD ?_|refine fB ?_|refine fA ?_|refine fN ?_|refine qg fun M u=>?_)
   exact .inr ⟨g,⟨rfl,Yd,⟨h.d,h.m,h.a,h.al,h.r,h.w,h.o⟩,rfl⟩,(eC)⟩
 ·rw[if_neg Yb,if_neg Yb];have U:=fun r=>qaN (W0:=W0) (b:=g.xb) (T:=214) (pre:=g.pre c b) (post:=g.post b 0) (t:=b.t) (o:=15) l X W rfl r
  have h0:=(q15 l).1;have hP:({b.t with rg:=q4C b.t x}:Thr).enc.set 0 (j4 (q1B b.t x))=(q1r b.t x).enc:=rfl;unfold q1r at hP ⊢;generalize q4C b.t x=R at*;generalize q1B b.t x=P at*;obtain⟨op,a,J,N,imm⟩:=x;dsimp only[Ins.v] at*;clear l
  repeat'((try conv=>whnf);first|refine fG ?_|refine qhf g c {b with t:={b.t with rg:=R}} 0 {b.t with rg:=R,pc:=P} rfl rfl rfl rfl rfl ?_|(apply qe;first|refine q4x (U _) fun s v d=>?_;subst d)|refine fB ?_|refine fA ?_|refine fL ?_|refine qg fun M u=>?_)
  exact .inr ⟨g,⟨rfl,Yd,⟨h.d,h.m,h.a,h.al,h.r,h.w,h.o⟩,rfl⟩,Ent.of_sub ((zT _ _).cons_cons _)⟩
end
open Go
structure BI(c:Cfg)(b:BM):Prop where
 dl:(b.d.length:Int)=c.words
 dr:∀x∈b.d,okU x
 tl:b.tk.length=(qh c).toNat
 rg:b.t.rg.ok
 rl:b.r.length<=b.t.pc
 ol:b.o.length<=b.t.pc
 wl:b.w.length<=8*b.t.pc
 rr:∀x∈b.r,0<=x/\x<c.words
 wr:∀x∈b.w,0<=x/\x<c.words
 ad:∀a∈b.ad,a<=9223372036854775807
theorem q41{P:Int->Prop}{l:jd}{a:Nat}{v:Int}(h:∀x∈l,P x)(i:P v):∀x∈l.set a v,P x:=fun x d=>by
 rcases Ze d with d|rfl
 ·exact h x d
 ·exact i
theorem BI.next{c:Cfg}{b d:BM}(h:BI c b)(hp:b.t.pc+1<=d.t.pc)(l:d.d.length=b.d.length)(u:∀x∈d.d,okU x)(y:d.tk.length=b.tk.length)(z:d.t.rg.ok)(h5:d.r.length<=b.r.length+1)(h6:d.o.length<=b.o.length+1)(h7:d.w.length<=b.w.length+8)
  (B:∀x∈d.r,0<=x/\x<c.words) (C:∀x∈d.w,0<=x/\x<c.words) (i:∀a∈d.ad,a∈b.ad):BI c d:=by
 have e1:=h.rl;have e2:=h.ol;have e3:=h.wl;exact⟨by rw[l];exact h.dl,u,by rw[y];exact h.tl,z,Yb,Yb,Yb,B,C,fun a E=>h.ad a (i a E)⟩
theorem BI.go{c:Cfg}{b:BM}(h:BI c b):BI c b.go:=h.next (zN _) rfl h.dr rfl h.rg (zU _) (zU _) (ZL _ 8) h.rr h.wr (fun _ h=>h)
theorem qji{t:Thr}{x:Ins}:t.pc+1<=q1B t x:=by unfold q1B;split <;>omega
theorem BI.loc{c:Cfg}{b:BM}(h:BI c b){x:Ins}:BI c {b with t:=q1r b.t x}:=
 h.next qji rfl h.dr rfl (q91 h.rg) (zU _) (zU _) (ZL _ 8) h.rr h.wr (fun _ h=>h)
theorem qch{P:Int->Prop}{l:jd}{a:Int}(h:∀x∈l,P x)(i:P a):∀x∈q2O l a,P x:=fun x d=>by
 unfold q2O at d
 split at d
 ·exact h x d
 ·rcases zw.1 d with d|d
  ·exact h x d
  ·rw[zf.1 d];exact i
theorem qcY(l:jd)(a:Int):(q2O l a).length<=l.length+1:=by unfold q2O;split <;>simp
theorem qik{c:Cfg}{b:BM}{a:Nat}(hd:∀x∈b.d,okU x)(hw:∀x∈b.w,0<=x/\x<c.words):∀n,((a+n:Nat):Int)<=c.words->(∀x∈(wrL b a n).d,okU x)/\∀x∈(wrL b a n).w,0<=x/\x<c.words
 |0,_=>⟨hd,hw⟩
 |n+1,h=>by
  obtain⟨d,i⟩:=qik (a:=a) hd hw n Yb;exact⟨q41 d ⟨Yc,Yc⟩,qch (P:=fun x=>0<=x/\x<c.words) i Yb⟩
theorem qcZ{l:jd}(h:∀x∈l,okU x)(j:Nat):okU (l.getD j 0):=by
 rw[zg];cases d:l[j]? with
 |none=>exact⟨Yc,Yc⟩
 |some y=>exact h y (zh d)
theorem ql6{c:Cfg}{tk:List Bool}{ad:jd}{imm:Int}{a k:Nat}(h:alB c tk ad imm=some (a,k)):∃ad',ad=(a:Int)::ad'/\(k:Int)<qh c/\qs c k=a/\ql c k=imm/\tk.getD k false=false/\((a+2 ^ imm.toNat:Nat):Int)<=c.words:=by
 unfold alB at h
 split at h
 ·cases h
 ·rename_i z ad'
  split at h
  ·cases h
  ·rename_i B;have l:0<=z/\0<=qJ c z/\ql c (qJ c z)=imm/\¬tk.getD (qJ c z).toNat false=true:=⟨Yb,Yb,by
    by_cases e:ql c (qJ c z)=imm
    ·exact e
    ·exact absurd (.inr (.inr (.inl e))) B,fun e=>B (.inr (.inr (.inr e)))⟩
   simp only[Option.some.injEq,Prod.mk.injEq] at h;obtain⟨rfl,rfl⟩:=h
   rcases q3w c z with hl|⟨u,d,i⟩
   ·omega
   ·have F:=q2C u d;have C:((qJ c z).toNat:Int)=qJ c z:=Yb;have y:(z.toNat:Int)=z:=Yb;rw[C,y];refine⟨ad',rfl,d,i,l.2.2.1,by simpa using l.2.2.2,?_⟩;rw[l.2.2.1,i] at F;have E:((2 ^ imm.toNat:Nat):Int)=2 ^ imm.toNat:=Yd;rw[Int.natCast_add,y,E];omega
theorem qeX{c:Cfg}{b:BM}{x:Ins}(G:qH x=0)(h:BI c b)(d:(q0d c b x).2≠ -1):BI c (q0d c b x).1:=by
 have hi:=(q15 G).2.2.2.2.2;unfold q0d at d ⊢
 by_cases u:x.op=10
 ·rw[if_pos u]
  split
  ·exact h.go
  ·rename_i V;have U:=q7l (r:=b.t.rg) (b:=x.b) (imm:=x.imm);generalize adr b.t.rg x.b x.imm=z at*;have H:(z.toNat:Int)=z:=Yb;refine h.next (zN _) rfl h.dr rfl (Rg.ok_set h.rg (qcZ h.dr _)) ?_ (by simp[BM.put,rdM]) (ZL _ 8) ?_ h.wr (fun _ h=>h)
   ·show(rdM b z.toNat).r.length<=_;unfold rdM;dsimp only
    split <;>simp
   ·show ∀x∈(rdM b z.toNat).r,_
    unfold rdM;dsimp only
    split
    ·exact h.rr
    ·intro y E
     rcases zw.1 E with E|E
     ·exact h.rr y E
     ·rw[zf.1 E];omega
 rw[if_neg u] at d ⊢
 by_cases B:x.op=11
 ·rw[if_pos B]
  split
  ·exact h.go
  ·rename_i V;have U:=q7l (r:=b.t.rg) (b:=x.a) (imm:=x.imm);generalize adr b.t.rg x.a x.imm=z at*;have H:(z.toNat:Int)=z:=Yb;refine h.next (zN _) (zm ..) (q41 h.dr (h.rg _)) rfl h.rg (zU _) (zU _) ?_ h.rr (qch (P:=fun x=>0<=x/\x<c.words) h.wr Yb) (fun _ h=>h);have:=qcY b.w z.toNat;show(q2O b.w z.toNat).length<=_;omega
 rw[if_neg B] at d ⊢
 by_cases i:x.op=14
 ·rw[if_pos i] at d ⊢;cases C:alB c b.tk b.ad x.imm with
  |none=>rw[C] at d;exact absurd rfl d
  |some S=>
   obtain⟨a,k⟩:=S;obtain⟨ad',F,hk,_,_,_,l⟩:=ql6 C;simp only;have hM8:(2:Nat) ^ x.imm.toNat<=8:=by
    have h4:=hi i;have:x.imm.toNat=0\/x.imm.toNat=1\/x.imm.toNat=2\/x.imm.toNat=3:=Yb
    rcases this with e|e|e|e <;>rw[e] <;>decide
   generalize 2 ^ x.imm.toNat=M at*;obtain⟨W,N,O,I,J,Q,R⟩:=qho {b with ad:=b.ad.tail,tk:=b.tk.set k true} a M;obtain⟨X,Y⟩:=qik (c:=c) (b:={b with ad:=b.ad.tail,tk:=b.tk.set k true}) (a:=a) h.dr h.wr M l;generalize wrL {b with ad:=b.ad.tail,tk:=b.tk.set k true} a M=b1 at*;dsimp only at W N O I J Q R;refine h.next (by show _<=b1.t.pc+1;rw[J];exact zN _) N X (by show b1.tk.length=_;rw[Q,zm]) ?_ (by show b1.r.length<=_;rw[I];exact zU _) (by show(b1.o++ [_]).length<=_;rw[O];simp) (by show b1.w.length<=_;omega) (by show ∀x∈b1.r,_;rw[I];exact h.rr) Y (by show ∀x∈b1.ad,_;rw[R];exact fun x G=>Zy G);show(b1.t.rg.set x.a.toNat a).ok;rw[J];have h1:=h.ad a (by rw[F];exact zp);exact Rg.ok_set h.rg ⟨Yb,Yb⟩
 rw[if_neg i] at d ⊢
 split
 ·split
  ·exact h.go
  ·exact h.next (zN _) rfl h.dr (zm ..) h.rg (zU _) (zU _) (ZL _ 8) h.rr h.wr (fun _ h=>h)
 ·split
  ·exact h.go
  ·split
   ·exact h.go
   ·exact h.loc
theorem qj5{c:Cfg}{b:BM}{x:Ins}(F:qH x=0)(d:(q0d c b x).2=0):x.op≠8/\x.op≠9/\∀p:jf,((q0d c b x).1.t.pc:Int)∈q2V p b.t.pc x:=by
 have C:=(q15 F).2.2.2.2.1;have B:x.op≠8:=fun e=>by
  unfold q0d at d;rw[if_neg Yb,if_neg Yb,if_neg Yb,if_neg Yb,if_pos e] at d;cases d
 have z:x.op≠9:=fun e=>by
  unfold q0d at d;rw[if_neg Yb,if_neg Yb,if_neg Yb,if_neg Yb,if_neg Yb,if_pos e] at d;cases d
 refine⟨B,z,fun p=>?_⟩;have key:(q0d c b x).1.t.pc=q1B b.t x:=by
  by_cases l:x.op=14
  ·rw[qeW l d];unfold q1B;rw[if_neg Yb]
  ·by_cases E:x.op=10\/x.op=11
   ·rw[(qeV E).1];unfold q1B;rw[if_neg Yb]
   ·by_cases u:x.op=15
    ·rw[(qb3 u).1];unfold q1B;rw[if_neg Yb]
    ·unfold q0d;rw[if_neg Yb,if_neg Yb,if_neg l,if_neg u,if_neg B,if_neg z];rfl
 rw[key];unfold q1B q2V
 by_cases y:x.op=4
 ·rw[if_pos y,if_pos (Or.inl y),zf];have:=C (.inl y);omega
 ·rw[if_neg y]
  by_cases i:x.op=5\/x.op=6
  ·rw[if_pos i];have:=C (.inr i)
   split
   ·simp;omega
   ·simp
  ·rw[if_neg i,if_neg z,if_neg Yb];simp
theorem qeZ{p:jf}(h:qB p=(0,0)){k j:Nat}{x0 x:Ins}(y:p[k]? =some x0)(G:x0.op=7)(u:k<j)(i:j<=q0B p k)(z:p[j]? =some x){c:Cfg}{b:BM}(hb:b.t.pc=j)(B:(q0d c b x).2=0):
  j<(q0d c b x).1.t.pc/\(q0d c b x).1.t.pc<=q0B p k:=by
 obtain⟨e,he,hke,hel,_,_,d⟩:=q0v h y G;rw[he] at i ⊢;obtain⟨C,E,_⟩:=d j u i;obtain⟨H,I,l⟩:=qj5 (q2Z h z).1 B;obtain⟨j',hj',hlt,_,F,_⟩:=q4w h z _ (hb ▸ l p);have:=(F (by rw[C];omega) H).1 I;rw[E] at this;omega
theorem qn2{p:jf}(h:qB p=(0,0)){k j:Nat}{x0:Ins}(F:p[k]? =some x0)(O:x0.op=7)(C:k<j)(u:j<=q0B p k):∃x,p[j]? =some x/\qH x=0/\(x.op=8↔j=q0B p k)/\x.op≠7/\x.op≠12/\x.op≠13/\x.op≠16/\x.op≠17:=by
 obtain⟨e,he,hke,hel,⟨y,I,G⟩,_,l⟩:=q0v h F O;rw[he] at u ⊢;obtain⟨x,z⟩:∃x,p[j]? =some x:=⟨_,z6 Yb⟩
 obtain⟨H,_,N⟩:=l j C u;have hi:=q2Z h z;have B:=qcB h z;refine⟨x,z,hi.1,?_,fun J=>by have:=hi.2.1 J;rw[H] at this;omega,?_⟩
 ·by_cases i:j=e
  ·subst i;rw[z] at I;obtain rfl:=Option.some.inj I;exact⟨fun _=>rfl,fun _=>G⟩
  ·exact⟨fun M=>absurd M (N Yb x z).2,fun e=>absurd e i⟩
 ·have d:∀o,x.op=o->(o=12\/o=13\/o=16\/o=17)->False:=fun o ho hoo=>by
   unfold q7K at B;rw[if_neg (by simpa using hi.1)] at B
   split at B
   ·omega
   ·split at B
    ·omega
    ·rename_i Q;have E:q1q x=2:=by unfold q1q;rw[if_pos hi.1,if_neg Yb,if_pos Yb]
     exact Q (.inr ⟨E,by rw[H];omega⟩)
  exact⟨fun e=>d 12 e Yc,fun e=>d 13 e Yc,fun e=>d 16 e Yc,fun e=>d 17 e Yc⟩
theorem qfF{c:Cfg}{b:BM}{x:Ins}(d:(q0d c b x).2≠0)(i:(q0d c b x).2≠ -1):(q0d c b x).1=b.go/\0<(q0d c b x).2/\(q0d c b x).2<=8:=by
 unfold q0d at d i ⊢
 by_cases l:x.op=10
 ·rw[if_pos l] at d ⊢
  split at d
  ·rw[if_pos (by assumption)];exact⟨rfl,Yd,Yd⟩
  ·exact absurd rfl d
 rw[if_neg l] at d i ⊢
 by_cases u:x.op=11
 ·rw[if_pos u] at d ⊢
  split at d
  ·rw[if_pos (by assumption)];exact⟨rfl,Yd,Yd⟩
  ·exact absurd rfl d
 rw[if_neg u] at d i ⊢
 by_cases y:x.op=14
 ·rw[if_pos y] at d i
  split at d
  ·rename_i B;rw[B] at i;exact absurd rfl i
  ·exact absurd rfl d
 rw[if_neg y] at d i ⊢
 by_cases z:x.op=15
 ·rw[if_pos z] at d ⊢
  split at d
  ·rw[if_pos (by assumption)];exact⟨rfl,Yd,Yd⟩
  ·exact absurd rfl d
 rw[if_neg z] at d ⊢
 by_cases C:x.op=8
 ·rw[if_pos C];exact⟨rfl,Yd,Yd⟩
 rw[if_neg C] at d ⊢
 by_cases E:x.op=9
 ·rw[if_pos E];exact⟨rfl,Yd,Yd⟩
 ·rw[if_neg E] at d;exact absurd rfl d
theorem qdK{p:jf}(h:qB p=(0,0)){k:Nat}{x0:Ins}(i:p[k]? =some x0)(y:x0.op=7){c:Cfg}:∀(n:Nat) (b:BM),k<b.t.pc->b.t.pc<=q0B p k->BI c b->(q4k c p n b).2≠ -1->BI c (q4k c p n b).1/\(0<(q4k c p n b).2/\(q4k c p n b).2<=8)/\(q4k c p n b).1.t.pc<=q0B p k+1
 |0,_,_,_,_,d=>absurd rfl d
 |n+1,b,z,B,hb,d=>by
  obtain⟨x,E,hi, -⟩:=qn2 h i y z B;unfold q4k at d ⊢;rw[E] at d ⊢;simp only at d ⊢
  by_cases l:(q0d c b x).2=0
  ·rw[if_pos l] at d ⊢;obtain⟨C,u⟩:=qeZ h i y z B E (c:=c) (b:=b) rfl l;exact qdK h i y n _ Yb u (qeX hi hb Yb) d
  ·rw[if_neg l] at d ⊢;obtain⟨C,u⟩:=qfF l d;exact⟨qeX hi hb d,u,by rw[C];show b.t.pc+1<=_;omega⟩
section
variable{W0:World}{K Kp:Own}{g:TxG}{c:Cfg}{b:BM}{p:jf}{pa:j8}{pcap:Nat}
theorem qj4(h:g.ok W0 K b)(hc:qI c=0)(M:qB p=(0,0)){x0:Ins}(C:p[b.t.pc]? =some x0)(O:x0.op=7)(Z:BI c {b with t:={b.t with pc:=b.t.pc+1}})(X:RdE Ins.enc 5 W0 Kp pa p)(q:Own) [ek:qx q K] [ekp:qx q Kp]:
  jk W0 89 [jn g.xb, .slice pa p.length pcap] (g.O c b 0++q) fun v own'=>
   ((v= .bool false/\((q4k c p p.length {b with t:={b.t with pc:=b.t.pc+1}}).2= -1\/(q4k c p p.length {b with t:={b.t with pc:=b.t.pc+1}}).1.ad≠ []))/\Ent W0 own' q)\/
   ∃g':TxG,(v= .bool true/\(q4k c p p.length {b with t:={b.t with pc:=b.t.pc+1}}).2≠ -1/\(q4k c p p.length {b with t:={b.t with pc:=b.t.pc+1}}).1.ad= []/\g'.ok W0 K (q4k c p p.length {b with t:={b.t with pc:=b.t.pc+1}}).1/\g'.xb=g.xb)/\
    Ent W0 own' (g'.O c (q4k c p p.length {b with t:={b.t with pc:=b.t.pc+1}}).1 (q4k c p p.length {b with t:={b.t with pc:=b.t.pc+1}}).2++q):=by
 refine sH [] ?_;generalize hz:q4k c p p.length {b with t:={b.t with pc:=b.t.pc+1}}=z;obtain⟨e,he,hke,hel, -⟩:=q0v M C O;have h64:=q7t M;generalize Y:b.t.pc=k at*
 repeat'((try conv=>whnf);first|refine fB ?_|refine fA ?_|refine fN ?_)
 refine qQ (σ:=Nat×BM×Int×TxG) (fun _=> []) (fun s=>s.2.2.2.O c s.2.1 s.2.2.1++q) (fun s=>(s.2.2.2.ok W0 K s.2.1/\s.2.2.2.xb=g.xb/\BI c s.2.1)/\((s.2.2.1=0/\q4k c p s.1 s.2.1=z/\k<s.2.1.t.pc/\s.2.1.t.pc<=e/\e<s.1+s.2.1.t.pc)\/(s.2.2.1≠0/\s.2.2.1≠ -1/\(s.2.1,s.2.2.1)=z)))
  (fun s=>if s.2.2.1=0 then s.1+1 else 0) (p.length,{b with t:={b.t with pc:=b.t.pc+1}},0,g) ⟨⟨⟨h.d,h.m,h.a,h.al,h.r,h.w,h.o⟩,rfl,Y ▸ Z⟩, .inl ⟨rfl,by rw[Y];exact hz,by simp only;omega,by simp only;omega,by simp only;omega⟩⟩ trivial (eC) rfl ?_
 rintro⟨n,b1,out,g1⟩ junk ⟨⟨u,I,i⟩,W⟩;dsimp only at u I i W ⊢;rw[<-I]
 rcases W with ⟨rfl,d,F,G,hk3⟩|⟨ho1,R,d⟩
 ·obtain⟨x,N,hi, -⟩:=qn2 M C O F (by rw[he];exact G);obtain⟨m,rfl⟩:∃m,n=m+1:=⟨n-1,Yb⟩
  have V:=qeZ M C O F (by rw[he];exact G) N (c:=c) (b:=b1) rfl;have S:=qeX (c:=c) (b:=b1) hi i;rw[q4k,N] at d;simp only at d;have h1:=i.rl;have h2:=i.ol;have h3:=i.wl;have U:=qkh u hc hi i.rg Yb i.dl i.tl Yb Yb Yb i.ad q;generalize q0d c b1 x=y at*
  repeat'((try conv=>whnf);first|refine fE ?_|refine fD ?_|(apply qL;first|refine ixE X N ?_ ?_;(first|rfl|omega))|apply q27;refine q0O X N rfl ?_|(apply qe;first|refine q2n U ?_ ?_ ?_ (fun v B=>?_) fun s v B=>?_;exact(eC);exact rfl;exact rfl;obtain⟨rfl,B⟩:=B;rotate_left;obtain⟨rfl,H,B,J⟩:=B)|refine fA ?_)
  ·refine⟨(m,y.1,y.2,s),⟨⟨B,J,S H⟩,?_⟩,?_,trivial,Ent.refl⟩
   ·by_cases E:y.2=0
    ·rw[if_pos E] at d;have:=V E;exact .inl ⟨E,d,by simp only;omega,by simp only;omega,by simp only;omega⟩
    ·rw[if_neg E] at d;exact .inr ⟨E,H,d⟩
   ·simp only
    split <;>simp
  ·rw[if_neg Yb] at d;exact .inl ⟨⟨rfl, .inl (by rw[<-d];exact B)⟩,Ent.refl⟩
 ·subst d
  by_cases l:b1.ad= []
  ·have Q:(b1.ad.length:Int)=0:=by rw[l];rfl
   repeat'((try conv=>whnf);first|refine fG ?_|refine fA ?_)
   exact .inr ⟨g1,⟨q0s (vb (decide_eq_true Q)),R,l,u,rfl⟩,Ent.refl⟩
  ·have Q:¬(b1.ad.length:Int)=0:=fun e=>l (Zt Yb)
   repeat'((try conv=>whnf);first|refine fG ?_|refine fA ?_)
   exact .inl ⟨⟨q0s (vb (decide_eq_false Q)), .inr l⟩,(eC)⟩
end
open Go
structure ObS where
 a:j8
 cap:Nat
 l:List ObM
 D:Own
abbrev ObS.enc(x:ObS):je:= [.slice x.a x.l.length x.cap]
def q5W(S:List ObS):Own:=(S.map ObS.D).flatten
theorem q43{S:List ObS}{t:Nat}{x:ObS}(d:S[t]? =some x):q5W S=q5W (S.take t)++(x.D++q5W (S.drop (t+1))):=by
 have h:S=S.take t++(x::S.drop (t+1)):=by
  have:=q4X d
  conv=>lhs;rw[<-yU t S,this]
 conv=>lhs;rw[h]
 simp[q5W]
theorem qaq{S:List ObS}{t:Nat}{x:ObS}(i:S[t]? =some x)(x':ObS):q5W (S.set t x')=q5W (S.take t)++(x'.D++q5W (S.drop (t+1))):=by
 have d:=(z7.1 i).1;rw[Zk,if_pos d];simp[q5W]
structure GP where
 gb:Nat
 mb:Nat
 ml:Mp
 da:j8
 dc:Nat
 dD:Own
 ka:j8
 kc:Nat
 ta:j8
 tc:Nat
 tD:Own
 ea:j8
 ec:Nat
 eD:Own
 L:List EH
 X:Own
 oa:j8
 oc:Nat
 oD:Own
 S:List ObS
abbrev GP.cells(g:GP)(c:Cfg)(d:Nat)(s:GS):je:= .slice g.da s.d.length g.dc:: .map (some g.mb)::cfL c [.slice g.ka d g.kc, .slice g.ta s.T.length g.tc, .slice g.ea g.L.length g.ec, .slice g.oa g.S.length g.oc,j4 s.n]
abbrev GP.O(g:GP)(c:Cfg)(d:Nat)(s:GS):Own:=(g.gb,j7 (g.cells c d s).toArray 148 (0,0))::(g.dD++((g.mb,q2H (mpV g.ml))::(g.tD++(g.eD++(g.oD++(q5W g.S++g.X))))))
structure GP.ok(g:GP)(W0:World)(Kp:Own)(ps:ji)(s:GS):Prop where
 d:qq q06 45 1 g.da g.dc s.d g.dD
 m:mpR g.ml s.tk
 k:RdE PH.enc 1 W0 Kp g.ka ps
 kp:∀h∈ps,RdE Ins.enc 5 W0 Kp h.a h.p
 t:qq Thr.enc 88 11 g.ta g.tc s.T g.tD
 e:qq EH.enc 83 6 g.ea g.ec g.L g.eD
 em:g.L.map EH.m=s.E
 o:qq ObS.enc 75 1 g.oa g.oc g.S g.oD
 os:∀x∈g.S,qq ObM.enc 77 3 x.a x.cap x.l x.D
 ol:g.S.map ObS.l=s.O
def GP.ev(g:GP)(W0:World):Prop:=∀e∈g.L,RdE qw 1 W0 g.X e.ra e.rl/\RdE qw 1 W0 g.X e.wa e.wl
theorem GP.ok.ot{g:GP}{W0:World}{Kp:Own}{ps:ji}{s:GS}(h:g.ok W0 Kp ps s){t:Nat}{x:ObS}(d:g.S[t]? =some x):s.O.getD t []=x.l:=by
 rw[<-h.ol];simp[List.getD,d]
theorem GP.ok.obs{g:GP}{W0:World}{Kp:Own}{ps:ji}{s:GS}(h:g.ok W0 Kp ps s){t:Nat}{x:ObS}(z:g.S[t]? =some x){a:j8}{cap:Nat}{D u:Own}{l:List ObM}(hb:qq ObM.enc 77 3 a cap (x.l++l) D)(d:qq ObS.enc 75 1 g.oa g.oc (g.S.set t ⟨a,cap,x.l++l,D⟩) u):
  ({g with oD:=u,S:=g.S.set t ⟨a,cap,x.l++l,D⟩}:GP).ok W0 Kp ps {s with O:=s.O.set t (s.O.getD t []++l)}:=by
 refine⟨h.d,h.m,h.k,h.kp,h.t,h.e,h.em,d,fun y i=>?_,?_⟩
 ·rcases Ze i with i|rfl
  ·exact h.os y i
  ·exact hb
 ·rw[h.ot z,<-h.ol,Y6]
section
variable{W0:World}{Kp:Own}{g:GP}{c:Cfg}{ps:ji}{s:GS}
theorem q18(h:g.ok W0 Kp ps s){t:Nat}(G:t<g.S.length)(F:∀l∈s.O,l.length<=1000000)(pc:Nat)(k v:Int)(q:Own):
  jk W0 91 [jn g.gb,j4 t,j4 pc,j4 k,j5 v] (g.O c ps.length s++q) fun _ own'=>∃g':GP,
   (g'.ok W0 Kp ps {s with O:=s.O.set t (s.O.getD t []++ [⟨pc,k,v⟩])}/\g'={g with oD:=g'.oD,S:=g'.S}/\g'.S.length=g.S.length)/\Ent W0 own' (g'.O c ps.length {s with O:=s.O.set t (s.O.getD t []++ [⟨pc,k,v⟩])}++q):=by
 obtain⟨x,d⟩:∃x,g.S[t]? =some x:=⟨_,z6 G⟩
 have u:=zh d;have E:=h.os x u;have hxl:x.l.length<=1000000:=F x.l (by rw[<-h.ol];exact ZU u);have B:=h.o;have i:=B.rd (W0:=W0);refine sH (3::5::7::(jo 12 11 [1,9,36,38,39,42,0,36,1,9,38,39,42,0,38,9,39,42,0])) ?_;dsimp only[GP.O];rw[q43 d]
 repeat'((try conv=>whnf);first|apply q0f (enc:=ObM.enc) (T:=77) ⟨pc,k,v⟩ E;exact rfl;exact rfl;omega;exact rfl;exact rfl;omega;intro a1 c1 D1 y|apply q3L (enc:=ObS.enc) (T:=75) (j:=t) (k:=0) ⟨a1,c1,x.l++ [⟨pc,k,v⟩],D1⟩ B d;exact rfl;omega;simp only[ObS.enc,z8,zu,zE,zy];exact rfl;exact rfl;intro C z|apply gLd;refine q0n i d rfl ?_|(apply qL;first|refine ixE i d ?_ ?_;(first|rfl|omega))|refine fA ?_|refine qg fun bk hbk=>?_|refine q1k.mk ?_ ?_)
 all_goals
  refine⟨{g with oD:=C,S:=g.S.set t ⟨a1,c1,x.l++ [⟨pc,k,v⟩],D1⟩},⟨h.obs d y z,rfl,zm ..⟩,?_⟩;dsimp only[GP.O,GP.cells];rw[qaq d,zm];exact(eC)
end
open Go
section
variable{W0:World}{Kp:Own}{g:GP}{c:Cfg}{ps:ji}{s:GS}
theorem q53(h:g.ok W0 Kp ps s){t:Nat}{th:Thr}(d:s.T[t]? =some th){ph:PH}(l:ps[t]? =some ph)(pc:Nat)(q:Own) [ek:qx q Kp]:
  jk W0 92 [jn g.gb,j4 t,j4 pc] (g.O c ps.length s++q) fun _ own'=>∃g':GP,
   (g'.ok W0 Kp ps {s with T:=s.T.set t {th with pc:=pc,dn:=decide (pc=ph.p.length)}}/\g'={g with tD:=g'.tD})/\Ent W0 own' (g'.O c ps.length {s with T:=s.T.set t {th with pc:=pc,dn:=decide (pc=ph.p.length)}}++q):=by
 refine sH (jo 23 3 [50,51,53,56,0]) ?_;have E:=h.t;have y:=E.rd (W0:=W0);have C:=h.k;have G:=(z7.1 d).1;have u:(s.T.set t {th with pc:=pc})[t]? =some {th with pc:=pc}:=Z9 G;have hlen:s.T.length=(s.T.set t {th with pc:=pc}).length:=(zm ..).symm;have B:(decide ((pc:Int)=ph.p.length))=decide (pc=ph.p.length):=dd Yb;dsimp only[GP.O]
 repeat'((try conv=>whnf);first|apply q3L (enc:=Thr.enc) (T:=88) (j:=t) (k:=10) {th with pc:=pc,dn:=decide (pc=ph.p.length)} z u;exact rfl;omega;rw[B];exact rfl;exact rfl;intro F i|apply q3L (enc:=Thr.enc) (T:=88) (j:=t) (k:=0) {th with pc:=pc} E d;exact rfl;omega;exact rfl;exact rfl;intro D1 z|apply gLd;refine q0n C l rfl ?_|(apply qL;first|refine ixE y d ?_ ?_;(first|rfl|omega)|refine ixE C l ?_ ?_;(first|rfl|omega))|refine fA ?_)
 all_goals
  rw[yr] at i;refine⟨{g with tD:=F},⟨⟨h.d,h.m,h.k,h.kp,i,h.e,h.em,h.o,h.os,h.ol⟩,rfl⟩,?_⟩;dsimp only[GP.O,GP.cells];rw[zm];exact(eC)
theorem qi6{D:Own}{q:Own}:(D++(g.O c ps.length s++q)).Perm (({g with X:=D++g.X}:GP).O c ps.length s++q):=by
 have h:∀(Y:Own),(D++(Y++(g.X++q))).Perm (Y++((D++g.X)++q)):=fun Y=>by
  rw[<-zd,zd D g.X q];exact(Zc.append_right _).trans (by rw[zd])
 have:=h ((g.gb,j7 (g.cells c ps.length s).toArray 148 (0,0))::(g.dD++((g.mb,q2H (mpV g.ml))::(g.tD++(g.eD++(g.oD++q5W g.S))))))
 simpa [GP.O] using this
theorem GP.ok.x{X:Own}(h:g.ok W0 Kp ps s):({g with X:=X}:GP).ok W0 Kp ps s:=⟨h.d,h.m,h.k,h.kp,h.t,h.e,h.em,h.o,h.os,h.ol⟩
theorem GP.ev.x{D:Own}(h:g.ev W0):({g with X:=D++g.X}:GP).ev W0:=fun e he=>⟨(h e he).1.ent (Ent.app Ent.refl),(h e he).2.ent (Ent.app Ent.refl)⟩
theorem q1w(h:g.ok W0 Kp ps s)(C:g.ev W0){e:EH}(u:RdE qw 1 W0 g.X e.ra e.rl)(z:RdE qw 1 W0 g.X e.wa e.wl)(l:s.E.length<=1000000)(q:Own):
  jk W0 135 [jn g.gb,e.v] (g.O c ps.length s++q) fun _ own'=>∃g':GP,
   (g'.ok W0 Kp ps (s.ev [⟨s.n,e.t,e.k,e.w,e.rl,e.wl⟩])/\g'.ev W0/\g'={g with ea:=g'.ea,ec:=g'.ec,eD:=g'.eD,L:=g'.L})/\Ent W0 own' (g'.O c ps.length (s.ev [⟨s.n,e.t,e.k,e.w,e.rl,e.wl⟩])++q):=by
 refine sH (jo 6 3 [16,18,19,21,24,0]) ?_;have B:=h.e;have hLl:g.L.length<=1000000:=by rw[<-h.em,zi] at l;exact l
 obtain⟨ev,t,k,w,ra,rl,rc,wa,wl,wc⟩:=e;dsimp only[EH.v] at*;dsimp only[GP.O]
 repeat'((try conv=>whnf);first|apply q0f (enc:=EH.enc) (T:=83) ⟨s.n,t,k,w,ra,rl,rc,wa,wl,wc⟩ B;exact rfl;exact rfl;omega;exact rfl;exact rfl;omega;intro a1 c1 D1 i|refine fA ?_|refine fL ?_|refine fN ?_|refine qg fun bk hbk=>?_)
 refine⟨{g with ea:=a1,ec:=c1,eD:=D1,L:=g.L++ [⟨s.n,t,k,w,ra,rl,rc,wa,wl,wc⟩]},⟨⟨h.d,h.m,h.k,h.kp,h.t,i,?_,h.o,h.os,h.ol⟩,fun y d=>?_,rfl⟩,?_⟩
 ·rw[zv,h.em];rfl
 ·rcases zw.1 d with d|d
  ·exact C y d
  ·rw[zf.1 d];exact⟨u,z⟩
 ·dsimp only[GP.O,GP.cells,GS.ev];simp only[z8,zu,zE,zy];exact(eC)
theorem qlL{s:GS}{a b:jj}:(s.ev a).ev b=s.ev (a++b):=by unfold GS.ev;rw[zd]
theorem q6l(h:g.ok W0 Kp ps s)(S:g.ev W0)(hl:s.E.length<=900000)(t a:Nat){k:Int}(V:k=1\/k=2)(q:Own):
  jk W0 139 [jn g.gb,j4 t,j4 a,j4 k] (g.O c ps.length s++q) fun _ own'=>∃g':GP,
   (g'.ok W0 Kp ps (s.ev (plE c s.n t k a))/\g'.ev W0/\g'={g with ea:=g'.ea,ec:=g'.ec,eD:=g'.eD,L:=g'.L,X:=g'.X})/\Ent W0 own' (g'.O c ps.length (s.ev (plE c s.n t k a))++q):=by
 refine sH [] ?_;cases H:c.strong with
 |false=>
  have he:=q1w (c:=c) h S (e:=⟨0,t,k,a,none,[],0,none,[],0⟩) RdE.nil RdE.nil Yb q;have G:plE c s.n t k a= [⟨s.n,t,k,a,[],[]⟩]:=by unfold plE;rw[H];rfl
  rw[G];have y:(!c.strong)=true:=by rw[H];rfl
  repeat'((try conv=>whnf);first|refine q6E y ?_|(apply qe;first|refine qr he ?_ ?_ ?_ fun g' v R=>?_;exact(eC);exact rfl;exact rfl)|refine fA ?_)
  exact⟨g',⟨R.1,R.2.1,by rw[R.2.2]⟩,Ent.refl⟩
 |true=>
  have y:(!c.strong)=false:=by rw[H];rfl
  rcases V with rfl|rfl
  ·have G:plE c s.n t 1 a= [⟨s.n,t,3,0,[],[]⟩]++ [⟨s.n,t,4,0,[(a:Int)],[]⟩]:=by unfold plE;rw[H];rfl
   rw[G,<-qlL]
   repeat'((try conv=>whnf);first|refine qiB y ?_|refine qg fun I O=>?_;apply Stop.h|refine fA ?_)
   refine Stop.mk ?_
   repeat'((try conv=>whnf);first|refine fE ?_|refine qg fun u Q=>?_;apply Stop.h|refine fM ?_)
   refine Stop.mk ?_;have N:∀(X:Own),RdE qw 1 W0 ([(u,j7 #[j4 a] 3 (0,0))]++X) (some ⟨u,0,none⟩) [(a:Int)]:=fun X=>q1Q (List.Mem.head _) (fun _ _=>rfl) rfl
   have z:=fun q=>q1w (q:=q) (c:=c) (g:={g with X:= [(u,j7 #[j4 a] 3 (0,0))]++g.X}) h.x S.x (e:=⟨0,t,3,0,none,[],0,none,[],0⟩) RdE.nil RdE.nil Yb
   have F:=qX (E:= [(I,j7 #[j4 0,j4 t,j4 4,j4 0,(.slice (some ⟨u,0,none⟩) 1 1),(j6)] 83 (0,0))]) (q:=q) z;have B:=fun(g':GP) (J:g'.ok W0 Kp ps (s.ev [⟨s.n,t,3,0,[],[]⟩])) (M:g'.ev W0) (U:g'.X= [(u,j7 #[j4 a] 3 (0,0))]++g.X) (C:g'.gb=g.gb)=>C ▸ q1w (c:=c) J M (e:=⟨0,t,4,0,some ⟨u,0,none⟩,[(a:Int)],1,none,[],0⟩) (U ▸ N _) RdE.nil (by simp[GS.ev];omega) q
   repeat'((try conv=>whnf);first|(apply qe;first|refine qr F ?_ ?_ ?_ fun g1 v i=>?_;exact Ent.of_perm ((List.Perm.swap _ _ _).trans ((qi6 (D:= [_])).cons _));exact rfl;exact rfl;obtain⟨i,d,l⟩:=i|refine qr (B g1 i d (by rw[l]) (by rw[l])) ?_ ?_ ?_ fun g2 v d=>?_;exact(eC);exact rfl;exact rfl)|refine fL ?_|refine fN ?_)
   exact⟨g2,⟨d.1,d.2.1,by rw[d.2.2,l]⟩,Ent.refl⟩
  ·have G:plE c s.n t 2 a= [⟨s.n,t,3,0,[],[]⟩]++ [⟨s.n,t,4,0,[],[(a:Int)]⟩]:=by unfold plE;rw[H];rfl
   rw[G,<-qlL]
   repeat'((try conv=>whnf);first|refine qiB y ?_|refine qg fun I O=>?_;apply Stop.h|refine fA ?_)
   refine Stop.mk ?_
   repeat'((try conv=>whnf);first|refine fD ?_|refine qg fun u Q=>?_;apply Stop.h|refine fM ?_)
   refine Stop.mk ?_;have N:∀(X:Own),RdE qw 1 W0 ([(u,j7 #[j4 a] 3 (0,0))]++X) (some ⟨u,0,none⟩) [(a:Int)]:=fun X=>q1Q (List.Mem.head _) (fun _ _=>rfl) rfl
   have z:=fun q=>q1w (q:=q) (c:=c) (g:={g with X:= [(u,j7 #[j4 a] 3 (0,0))]++g.X}) h.x S.x (e:=⟨0,t,3,0,none,[],0,none,[],0⟩) RdE.nil RdE.nil Yb
   have F:=qX (E:= [(I,j7 #[j4 0,j4 t,j4 4,j4 0,(j6),(.slice (some ⟨u,0,none⟩) 1 1)] 83 (0,0))]) (q:=q) z;have B:=fun(g':GP) (J:g'.ok W0 Kp ps (s.ev [⟨s.n,t,3,0,[],[]⟩])) (M:g'.ev W0) (U:g'.X= [(u,j7 #[j4 a] 3 (0,0))]++g.X) (C:g'.gb=g.gb)=>C ▸ q1w (c:=c) J M (e:=⟨0,t,4,0,none,[],0,some ⟨u,0,none⟩,[(a:Int)],1⟩) RdE.nil (U ▸ N _) (by simp[GS.ev];omega) q
   repeat'((try conv=>whnf);first|(apply qe;first|refine qr F ?_ ?_ ?_ fun g1 v i=>?_;exact Ent.of_perm ((List.Perm.swap _ _ _).trans ((qi6 (D:= [_])).cons _));exact rfl;exact rfl;obtain⟨i,d,l⟩:=i|refine qr (B g1 i d (by rw[l]) (by rw[l])) ?_ ?_ ?_ fun g2 v d=>?_;exact(eC);exact rfl;exact rfl)|refine fL ?_|refine fN ?_)
   exact⟨g2,⟨d.1,d.2.1,by rw[d.2.2,l]⟩,Ent.refl⟩
end
open Go
section
variable{W0:World}{own own':Own}
theorem qgh{l:List Thr}{a:j8}{j:Nat}{t:Thr}(H:RdE Thr.enc 11 W0 own' a l)(E:l[j]? =some t) [qx own own']{x:Ins}(F:qH x=0)(d:x.op=10\/x.op=11\/x.op=12\/x.op=13):
  jl W0 138 [.pointer (some ⟨ab a,ao a+j*11,none⟩),x.v] own (j5 (adr t.rg (if x.op=12\/x.op=10 then x.b else x.a) x.imm)):=by
 refine qi (sH (jo 12 3 (0::(jo 12 3 [0]))) ?_);obtain⟨h0,B,C, -⟩:=q15 F;clear F;obtain⟨op,a0,z,c,imm⟩:=x;dsimp only[Ins.v] at*;have ha:=B (by rcases d with rfl|rfl|rfl|rfl <;>rfl);have hb:=C (by rcases d with rfl|rfl|rfl|rfl <;>rfl);have u:a0.toNat<8:=Yb;have y:z.toNat<8:=Yb;clear B C;have i:=RdE.up (own:=own) H;have G:=Thr.enc_get (t:=t) u;have gb:=Thr.enc_get (t:=t) y
 rcases d with rfl|rfl|rfl|rfl
 all_goals
  repeat'((try conv=>whnf);first|refine fH ?_|refine fI ?_|refine fE ?_|refine fD ?_|refine ldE (k:=1+a0.toNat) (RdE.up i) E ?_ G ?_;omega|refine ldE (k:=1+z.toNat) (RdE.up i) E ?_ gb ?_;omega|refine arw (k:= .u64) ?_|refine fP ?_|refine fA ?_|refine qg fun bk hbk=>?_)
  exact⟨rfl,(eC)⟩
end
theorem GP.ev.of{W0:World}{g g':GP}(h:g.ev W0)(d:g'.L=g.L)(i:g'.X=g.X):g'.ev W0:=by
 unfold GP.ev at*;rw[d,i];exact h
abbrev chV(t f:Int)(a:j8)(n cap:Nat):Value:= .agg #[j4 t,j4 f, .slice a n cap]
section
variable{W0:World}{Kp:Own}{g:GP}{c:Cfg}{ps:ji}{s:GS}
structure qn9(c:Cfg)(ps:ji)(s:GS)(t:Nat)(th:Thr)(ph:PH):Prop where
 hth:s.T[t]? =some th
 hph:ps[t]? =some ph
 c0:qI c=0
 rg:th.rg.ok
 dl:(s.d.length:Int)=c.words
 dr:∀x∈s.d,okU x
 tl:s.O.length=s.T.length
 ob:∀l∈s.O,l.length<=500000
 el:s.E.length<=500000
theorem q2b{t:Nat}{th:Thr}{ph:PH}(hT:qn9 c ps s t th ph)(h:g.ok W0 Kp ps s)(hv:g.ev W0){x:Ins}(hx:qH x=0)(aq:x.op=12\/x.op=13)(hpc:th.pc<ph.p.length/\ph.p.length<=64)(f:Int)(aa:j8)(al ac:Nat)(q:Own) [ek:qx q Kp]:
  jk W0 94 [jn g.gb,chV t f aa al ac,x.v] (g.O c ps.length s++q) fun v own'=>
   ((v= .bool false/\sgM c ph.p s th t f x=none)/\Ent W0 own' (g.O c ps.length s++q))\/
   ∃s':GS×GP,(v= .bool true/\sgM c ph.p s th t f x=some s'.1/\s'.2.ok W0 Kp ps s'.1/\s'.2.ev W0/\s'.2.gb=g.gb)/\Ent W0 own' (s'.2.O c ps.length s'.1++q):=by
 refine sC [5] (jo 8 3 (0::(jo 6 3 (16::0::(jo 9 3 (22::0::(jo 14 3 (32::0::(jo 15 3 (34::0::(jo 14 3 (32::0::(jo 15 3 (34::0::(jo 8 3 [20,0]))))))))))))))) ?_;have az:=h.t;have S:=az.rd (W0:=W0);have H:=hT.hth;have Y:=fun(own':Own) [qx own' g.tD]=>qgh (own:=own') S H hx Yb
 have aN:=(qK hT.c0).1;unfold okW at aN;obtain⟨h0,hA,hB, -⟩:=q15 hx;clear hx;have ay:=q7l (r:=th.rg) (b:=if x.op=12\/x.op=10 then x.b else x.a) (imm:=x.imm);obtain⟨op,a,Q,c',imm⟩:=x;dsimp only[Ins.v] at*;have ha:=hA (by rcases aq with rfl|rfl <;>rfl);have hb:=hB (by rcases aq with rfl|rfl <;>rfl);have aA:a.toNat<8:=Yb;have aG:Q.toNat<8:=Yb;clear hA hB;have hDR:=h.d.rd (W0:=W0);have aC:sgM c ph.p s th t f ⟨op,a,Q,c',imm⟩=(match adr th.rg (if op=12 then Q else a) imm with
  |z=>if f≠0 then(if f=6/\c.strong=true/\op=13/\z<c.words then some (s.fin t (th.nxt ph.p.length th.rg) [⟨th.pc,7,6⟩]) else none)
   else if c.words<=z then some (s.fin t (th.nxt ph.p.length (if op=12 then th.rg.set a.toNat 0 else th.rg)) [⟨th.pc,7,7⟩])
   else if op=12 then some ((s.ev (plE c s.n t 1 z)).fin t (th.nxt ph.p.length (th.rg.set a.toNat (s.d.getD z.toNat 0))) [⟨th.pc,4,s.d.getD z.toNat 0⟩])
   else some (((s.mem (s.d.set z.toNat (th.rg.get Q.toNat)) s.tk).ev (plE c s.n t 2 z)).fin t (th.nxt ph.p.length th.rg) [⟨th.pc,5,th.rg.get Q.toNat⟩])):=by
  unfold sgM;rw[if_pos aq]
 rw[aC];clear aC;have aL:(if op=12\/op=10 then Q else a)=if op=12 then Q else a:=by
  rcases aq with rfl|rfl <;>rfl
 rw[aL] at Y ay;dsimp only;generalize adr th.rg (if op=12 then Q else a) imm=z at*
 repeat'((try conv=>whnf);first|refine qg fun b4 h4=>?_;apply Stop.h)
 refine Stop.mk ?_
 repeat'((try conv=>whnf);first|refine qg fun b5 h5=>?_;apply Stop.h)
 refine Stop.mk ?_
 by_cases au:f≠0/\¬(f=6/\c.strong=true/\op=13/\z<c.words)
 ·obtain⟨hf,hn⟩:=au;rw[if_pos hf,if_neg hn];have hq:f≠6\/(f=6/\(!c.strong)=true)\/(f=6/\(!c.strong)=false/\op=12)\/(f=6/\(!c.strong)=false/\op=13/\c.words<=z):=by
   cases hs:c.strong <;>simp[hs] at hn ⊢ <;>omega
  by_cases hz:c.words<=z
  all_goals
   rcases hq with h6|⟨h6,Z⟩|⟨h6,Z,aE⟩|⟨h6,Z,aF,hz2⟩
   all_goals first|exfalso;omega|skip
   all_goals(try subst aE)
   all_goals(try subst aF)
   all_goals
    repeat'((try conv=>whnf);first|refine fH ?_|refine fI ?_|refine fE ?_|refine fF ?_|refine fG ?_|refine fJ ?_|refine fK ?_|refine q0Q Z ?_|refine qf1 Z ?_|(apply qL;first|refine ixE S H ?_ ?_;(first|rfl|omega))|apply qe;refine qd (Y _) ?_|refine fC ?_|refine fA ?_|refine fL ?_)
    all_goals exact .inl ⟨⟨rfl,rfl⟩,(eC)⟩
 ·have aH:(f=6/\(!c.strong)=false/\op=13/\z<c.words)\/(f=0/\c.words<=z/\op=12)\/(f=0/\c.words<=z/\op=13)\/(f=0/\z<c.words/\op=12)\/(f=0/\z<c.words/\op=13):=by
   cases hs:c.strong <;>simp[hs] at au ⊢ <;>omega
  have af:((th.pc+1:Nat):Int)=(th.pc:Int)+1:=Yb;have aj:t<g.S.length:=by
   have h1:=congrArg List.length h.ol;rw[zi] at h1;have:=(z7.1 H).1;have:=hT.tl;omega
  have V:∀l∈s.O,l.length<=1000000:=fun l hl=>by have:=hT.ob l hl;omega
  clear au
  rcases aH with ⟨rfl,Z,rfl,hz⟩|⟨rfl,hz,rfl⟩|⟨rfl,hz,rfl⟩|⟨rfl,hz,rfl⟩|⟨rfl,hz,rfl⟩
  ·have aM:c.strong=true:=by simpa using Z
   rw[if_pos Yc,if_pos ⟨rfl,aM,rfl,hz⟩];obtain⟨X,hX⟩:∃X,X=s.fin t (th.nxt ph.p.length th.rg) [⟨th.pc,7,6⟩]:=⟨_,rfl⟩
   rw[<-hX];have U:=qX (E:= [(b5,j7 #[j4 13,j4 a,j4 Q,j4 c',j4 imm] 62 (0,0)),(b4,j7 #[j4 t,j4 6, .slice aa al ac] 99 (0,0))]) (q:=q) (q18 (c:=c) h aj V th.pc 7 6)
   repeat'((try conv=>whnf);first|refine fH ?_|refine fE ?_|refine fD ?_|refine fG ?_|refine q0Q Z ?_|(apply qL;first|refine ixE S H ?_ ?_;(first|rfl|omega))|apply qe;refine qd (Y _) ?_|refine fC ?_|refine fA ?_|refine fL ?_)
   all_goals refine q39 (σ:=GS×GP×Rg) 1461501637330902918203684832716283019655932542720 (fun _=> []) (fun y=> [(b5,j7 #[j4 13,j4 a,j4 Q,j4 c',j4 imm] 62 (0,0)),(b4,j7 #[j4 t,j4 6, .slice aa al ac] 99 (0,0))]++(y.2.1.O c ps.length y.1++q)) (fun y=>y.2.1.ok W0 Kp ps y.1/\y.2.1.ev W0/\y.2.1.gb=g.gb/\y.2.1.ta=g.ta/\y.1.T[t]? =some {th with rg:=y.2.2}/\X={y.1 with T:=y.1.T.set t (th.nxt ph.p.length y.2.2)}) rfl ?_ ?_
   ·repeat'((try conv=>whnf);first|refine fE ?_|refine fD ?_|refine fC ?_|apply gLd;refine q0n S H rfl ?_|(apply qe;first|refine qr U ?_ ?_ ?_ fun g1 v G=>?_;exact(eC);exact rfl;exact rfl;obtain⟨G,i,O⟩:=G)|refine fA ?_)
    all_goals exact⟨(_,g1,th.rg),⟨G,GP.ev.of hv (by rw[i]) (by rw[i]),by rw[i],by rw[i],H,hX⟩,trivial,(eC)⟩
   ·rintro⟨s1,g1,r⟩ ae ⟨u,I,C,F,B,J⟩;dsimp only at u I C F B J ⊢;have R:RdE Thr.enc 11 W0 g1.tD g.ta s1.T:=F ▸ (u.t.rd (W0:=W0));have N:=q53 (c:=c) u B hT.hph (th.pc+1) q;rw[C,af] at N
    repeat'((try conv=>whnf);first|refine ldE (k:=0) (v:= j4 (th.pc:Int)) (RdE.up R) B ?_ rfl ?_;omega|(apply qe;first|refine qr N ?_ ?_ ?_ fun g2 v i=>?_;exact(eC);exact rfl;exact rfl)|refine fB ?_|refine fA ?_)
    all_goals exact .inr ⟨({s1 with T:=s1.T.set t (th.nxt ph.p.length r)},g2),⟨rfl,by rw[J],i.1,GP.ev.of I (by rw[i.2]) (by rw[i.2]),by rw[i.2]⟩,Ent.refl⟩
  ·rw[if_neg Yc,if_pos hz,if_pos rfl];obtain⟨X,hX⟩:∃X,X=s.fin t (th.nxt ph.p.length (th.rg.set a.toNat 0)) [⟨th.pc,7,7⟩]:=⟨_,rfl⟩
   rw[<-hX];have W:(s.T.set t {th with rg:=th.rg.set a.toNat 0})[t]? =some {th with rg:=th.rg.set a.toNat 0}:=Z9 (z7.1 H).1;have U:=fun(D1:Own) (M:qq Thr.enc 88 11 g.ta g.tc (s.T.set t {th with rg:=th.rg.set a.toNat 0}) D1)=>qX (E:= [(b5,j7 #[j4 12,j4 a,j4 Q,j4 c',j4 imm] 62 (0,0)),(b4,j7 #[j4 t,j4 0, .slice aa al ac] 99 (0,0))]) (q:=q) (q18 (c:=c) (g:={g with tD:=D1}) (s:={s with T:=s.T.set t {th with rg:=th.rg.set a.toNat 0}}) ⟨h.d,h.m,h.k,h.kp,M,h.e,h.em,h.o,h.os,h.ol⟩ aj V th.pc 7 7)
   repeat'((try conv=>whnf);first|refine fD ?_|refine fF ?_|(apply qL;first|refine ixE S H ?_ ?_;(first|rfl|omega))|apply qe;refine qd (Y _) ?_|refine fC ?_|refine fA ?_|refine fL ?_)
   all_goals refine q39 (σ:=GS×GP×Rg) 1461501637330902918203684832716283019655932542720 (fun _=> []) (fun y=> [(b5,j7 #[j4 12,j4 a,j4 Q,j4 c',j4 imm] 62 (0,0)),(b4,j7 #[j4 t,j4 0, .slice aa al ac] 99 (0,0))]++(y.2.1.O c ps.length y.1++q)) (fun y=>y.2.1.ok W0 Kp ps y.1/\y.2.1.ev W0/\y.2.1.gb=g.gb/\y.2.1.ta=g.ta/\y.1.T[t]? =some {th with rg:=y.2.2}/\X={y.1 with T:=y.1.T.set t (th.nxt ph.p.length y.2.2)}) rfl ?_ ?_
   ·repeat'((try conv=>whnf);first|refine fE ?_|refine fC ?_|apply q3L (enc:=Thr.enc) (T:=88) (j:=t) (k:=1+a.toNat) {th with rg:=th.rg.set a.toNat 0} az H;omega;omega;exact(Thr.enc_set aA).symm;exact rfl;intro D1 M|refine ldE (k:=0) (RdE.up (M.rd (W0:=W0))) W ?_ rfl ?_;omega|(apply qe;first|refine qr (U D1 M) ?_ ?_ ?_ fun g1 v G=>?_;dsimp only[GP.O,GP.cells];rw[zm];exact(eC);exact rfl;exact rfl;obtain⟨G,i,O⟩:=G)|refine fP ?_|refine fA ?_)
    all_goals exact⟨(_,g1,th.rg.set a.toNat 0),⟨G,GP.ev.of hv (by rw[i]) (by rw[i]),by rw[i],by rw[i],W,by rw[hX];simp[GS.fin,Thr.nxt]⟩,trivial,(eC)⟩
   ·rintro⟨s1,g1,r⟩ ae ⟨u,I,C,F,B,J⟩;dsimp only at u I C F B J ⊢;have R:RdE Thr.enc 11 W0 g1.tD g.ta s1.T:=F ▸ (u.t.rd (W0:=W0));have N:=q53 (c:=c) u B hT.hph (th.pc+1) q;rw[C,af] at N
    repeat'((try conv=>whnf);first|refine ldE (k:=0) (v:= j4 (th.pc:Int)) (RdE.up R) B ?_ rfl ?_;omega|(apply qe;first|refine qr N ?_ ?_ ?_ fun g2 v i=>?_;exact(eC);exact rfl;exact rfl)|refine fB ?_|refine fA ?_)
    all_goals exact .inr ⟨({s1 with T:=s1.T.set t (th.nxt ph.p.length r)},g2),⟨rfl,by rw[J],i.1,GP.ev.of I (by rw[i.2]) (by rw[i.2]),by rw[i.2]⟩,Ent.refl⟩
  ·rw[if_neg Yc,if_pos hz,if_neg Yc];obtain⟨X,hX⟩:∃X,X=s.fin t (th.nxt ph.p.length th.rg) [⟨th.pc,7,7⟩]:=⟨_,rfl⟩
   rw[<-hX];have U:=qX (E:= [(b5,j7 #[j4 13,j4 a,j4 Q,j4 c',j4 imm] 62 (0,0)),(b4,j7 #[j4 t,j4 0, .slice aa al ac] 99 (0,0))]) (q:=q) (q18 (c:=c) h aj V th.pc 7 7)
   repeat'((try conv=>whnf);first|refine fD ?_|refine fF ?_|(apply qL;first|refine ixE S H ?_ ?_;(first|rfl|omega))|apply qe;refine qd (Y _) ?_|refine fC ?_|refine fA ?_|refine fL ?_)
   all_goals refine q39 (σ:=GS×GP×Rg) 1461501637330902918203684832716283019655932542720 (fun _=> []) (fun y=> [(b5,j7 #[j4 13,j4 a,j4 Q,j4 c',j4 imm] 62 (0,0)),(b4,j7 #[j4 t,j4 0, .slice aa al ac] 99 (0,0))]++(y.2.1.O c ps.length y.1++q)) (fun y=>y.2.1.ok W0 Kp ps y.1/\y.2.1.ev W0/\y.2.1.gb=g.gb/\y.2.1.ta=g.ta/\y.1.T[t]? =some {th with rg:=y.2.2}/\X={y.1 with T:=y.1.T.set t (th.nxt ph.p.length y.2.2)}) rfl ?_ ?_
   ·repeat'((try conv=>whnf);first|refine fE ?_|refine fD ?_|refine fC ?_|apply gLd;refine q0n S H rfl ?_|(apply qe;first|refine qr U ?_ ?_ ?_ fun g1 v G=>?_;exact(eC);exact rfl;exact rfl;obtain⟨G,i,O⟩:=G)|refine fA ?_)
    all_goals exact⟨(_,g1,th.rg),⟨G,GP.ev.of hv (by rw[i]) (by rw[i]),by rw[i],by rw[i],H,hX⟩,trivial,(eC)⟩
   ·rintro⟨s1,g1,r⟩ ae ⟨u,I,C,F,B,J⟩;dsimp only at u I C F B J ⊢;have R:RdE Thr.enc 11 W0 g1.tD g.ta s1.T:=F ▸ (u.t.rd (W0:=W0));have N:=q53 (c:=c) u B hT.hph (th.pc+1) q;rw[C,af] at N
    repeat'((try conv=>whnf);first|refine ldE (k:=0) (v:= j4 (th.pc:Int)) (RdE.up R) B ?_ rfl ?_;omega|(apply qe;first|refine qr N ?_ ?_ ?_ fun g2 v i=>?_;exact(eC);exact rfl;exact rfl)|refine fB ?_|refine fA ?_)
    all_goals exact .inr ⟨({s1 with T:=s1.T.set t (th.nxt ph.p.length r)},g2),⟨rfl,by rw[J],i.1,GP.ev.of I (by rw[i.2]) (by rw[i.2]),by rw[i.2]⟩,Ent.refl⟩
  ·obtain⟨j,rfl⟩:=Zb ay.1;have hj:j<s.d.length:=by have:=hT.dl;omega
   obtain⟨y,hy⟩:∃y,s.d[j]? =some y:=⟨_,z6 hj⟩
   have aK:s.d.getD j 0=y:=by simp[List.getD,hy]
   have aI:=hT.el;rw[if_neg Yc,if_neg Yb,if_pos rfl,zF,aK];obtain⟨X,hX⟩:∃X,X=(s.ev (plE c s.n t 1 j)).fin t (th.nxt ph.p.length (th.rg.set a.toNat y)) [⟨th.pc,4,y⟩]:=⟨_,rfl⟩
   rw[<-hX];have W:(s.T.set t {th with rg:=th.rg.set a.toNat y})[t]? =some {th with rg:=th.rg.set a.toNat y}:=Z9 (z7.1 H).1;have aw:=qX (E:= [(b5,j7 #[j4 12,j4 a,j4 Q,j4 c',j4 imm] 62 (0,0)),(b4,j7 #[j4 t,j4 0, .slice aa al ac] 99 (0,0))]) (q:=q) (q6l (c:=c) h hv Yb t j (.inl rfl));have U:=fun(g1:GP) (D1:Own) (hS:t<g1.S.length) (h:g1.ok W0 Kp ps (s.ev (plE c s.n t 1 j))) (M:qq Thr.enc 88 11 g1.ta g1.tc (s.T.set t {th with rg:=th.rg.set a.toNat y}) D1)=>qX (E:= [(b5,j7 #[j4 12,j4 a,j4 Q,j4 c',j4 imm] 62 (0,0)),(b4,j7 #[j4 t,j4 0, .slice aa al ac] 99 (0,0))]) (q:=q) (q18 (c:=c) (g:={g1 with tD:=D1}) (s:={(s.ev (plE c s.n t 1 j)) with T:=s.T.set t {th with rg:=th.rg.set a.toNat y}}) ⟨h.d,h.m,h.k,h.kp,M,h.e,h.em,h.o,h.os,h.ol⟩ hS V th.pc 4 y)
   repeat'((try conv=>whnf);first|refine fD ?_|refine fG ?_|(apply qL;first|refine ixE S H ?_ ?_;(first|rfl|omega))|apply qe;refine qd (Y _) ?_|refine fC ?_|refine fA ?_|refine fL ?_)
   all_goals refine q39 (σ:=GS×GP×Rg) 1461501637330902918203684832716283019655932542720 (fun _=> []) (fun y=> [(b5,j7 #[j4 12,j4 a,j4 Q,j4 c',j4 imm] 62 (0,0)),(b4,j7 #[j4 t,j4 0, .slice aa al ac] 99 (0,0))]++(y.2.1.O c ps.length y.1++q)) (fun y=>y.2.1.ok W0 Kp ps y.1/\y.2.1.ev W0/\y.2.1.gb=g.gb/\y.2.1.ta=g.ta/\y.1.T[t]? =some {th with rg:=y.2.2}/\X={y.1 with T:=y.1.T.set t (th.nxt ph.p.length y.2.2)}) rfl ?_ ?_
   ·repeat'((try conv=>whnf);first|refine fE ?_|refine fD ?_|refine fB ?_|refine ixE (u.d.rd (W0:=W0)) hy rfl ?_|refine ldE (k:=0) (RdE.up (u.d.rd (W0:=W0))) hy ?_ rfl ?_;omega|apply q3L (enc:=Thr.enc) (T:=88) (j:=t) (k:=1+a.toNat) {th with rg:=th.rg.set a.toNat y} u.t H;omega;omega;exact(Thr.enc_set aA).symm;exact rfl;intro D1 M|refine ldE (k:=0) (RdE.up (M.rd (W0:=W0))) W ?_ rfl ?_;omega|(apply qe;first|refine qr aw ?_ ?_ ?_ fun g1 v G=>?_;exact(eC);exact rfl;exact rfl;obtain⟨u,I,G⟩:=G;(have C:g1.gb=g.gb:=by rw[G]);(have F:g1.ta=g.ta:=by rw[G]);(have av:g1.S=g.S:=by rw[G]);rw[<-C,<-F]|refine qr (U g1 D1 (by rw[av];exact aj) u M) ?_ ?_ ?_ fun g2 v i=>?_;dsimp only[GP.O,GP.cells,GS.ev];rw[zm];exact(eC);exact rfl;exact rfl;obtain⟨i,O,aJ⟩:=i)|refine fP ?_|refine fA ?_)
    all_goals exact⟨(_,g2,th.rg.set a.toNat y),⟨i,GP.ev.of I (by rw[O]) (by rw[O]),by rw[O],by rw[O],W,by rw[hX];simp[GS.fin,GS.ev,Thr.nxt]⟩,trivial,(eC)⟩
   ·rintro⟨s1,g1,r⟩ ae ⟨u,I,C,F,B,J⟩;dsimp only at u I C F B J ⊢;have R:RdE Thr.enc 11 W0 g1.tD g.ta s1.T:=F ▸ (u.t.rd (W0:=W0));have N:=q53 (c:=c) u B hT.hph (th.pc+1) q;rw[C,af] at N
    repeat'((try conv=>whnf);first|refine ldE (k:=0) (v:= j4 (th.pc:Int)) (RdE.up R) B ?_ rfl ?_;omega|(apply qe;first|refine qr N ?_ ?_ ?_ fun g2 v i=>?_;exact(eC);exact rfl;exact rfl)|refine fB ?_|refine fA ?_)
    all_goals exact .inr ⟨({s1 with T:=s1.T.set t (th.nxt ph.p.length r)},g2),⟨rfl,by rw[J],i.1,GP.ev.of I (by rw[i.2]) (by rw[i.2]),by rw[i.2]⟩,Ent.refl⟩
  ·obtain⟨j,rfl⟩:=Zb ay.1;have hj:j<s.d.length:=by have:=hT.dl;omega
   obtain⟨y,hy⟩:∃y,s.d[j]? =some y:=⟨_,z6 hj⟩
   have aI:=hT.el;rw[if_neg Yc,if_neg Yb,if_neg Yc,zF];obtain⟨w,hw⟩:∃w,th.rg.get Q.toNat=w:=⟨_,rfl⟩
   have aB:=Thr.enc_get (t:=th) aG;rw[hw] at aB ⊢;obtain⟨X,hX⟩:∃X,X=((s.mem (s.d.set j w) s.tk).ev (plE c s.n t 2 j)).fin t (th.nxt ph.p.length th.rg) [⟨th.pc,5,w⟩]:=⟨_,rfl⟩
   rw[<-hX];have aO:(s.d.set j w)[j]? =some w:=Z9 hj;have hdl:s.d.length=(s.d.set j w).length:=(zm ..).symm;have aw:=qX (E:= [(b5,j7 #[j4 13,j4 a,j4 Q,j4 c',j4 imm] 62 (0,0)),(b4,j7 #[j4 t,j4 0, .slice aa al ac] 99 (0,0))]) (q:=q) (q6l (c:=c) h hv Yb t j (.inr rfl));have U:=fun(g1:GP) (D1:Own) (hS:t<g1.S.length) (h:g1.ok W0 Kp ps (s.ev (plE c s.n t 2 j))) (M:qq q06 45 1 g1.da g1.dc (s.d.set j w) D1)=>qX (E:= [(b5,j7 #[j4 13,j4 a,j4 Q,j4 c',j4 imm] 62 (0,0)),(b4,j7 #[j4 t,j4 0, .slice aa al ac] 99 (0,0))]) (q:=q) (q18 (c:=c) (g:={g1 with dD:=D1}) (s:={(s.ev (plE c s.n t 2 j)) with d:=s.d.set j w}) ⟨M,h.m,h.k,h.kp,h.t,h.e,h.em,h.o,h.os,h.ol⟩ hS V th.pc 5 w)
   repeat'((try conv=>whnf);first|refine fD ?_|refine fG ?_|(apply qL;first|refine ixE S H ?_ ?_;(first|rfl|omega))|apply qe;refine qd (Y _) ?_|refine fC ?_|refine fA ?_|refine fL ?_)
   all_goals refine q39 (σ:=GS×GP×Rg) 1461501637330902918203684832716283019655932542720 (fun _=> []) (fun y=> [(b5,j7 #[j4 13,j4 a,j4 Q,j4 c',j4 imm] 62 (0,0)),(b4,j7 #[j4 t,j4 0, .slice aa al ac] 99 (0,0))]++(y.2.1.O c ps.length y.1++q)) (fun y=>y.2.1.ok W0 Kp ps y.1/\y.2.1.ev W0/\y.2.1.gb=g.gb/\y.2.1.ta=g.ta/\y.1.T[t]? =some {th with rg:=y.2.2}/\X={y.1 with T:=y.1.T.set t (th.nxt ph.p.length y.2.2)}) rfl ?_ ?_
   ·repeat'((try conv=>whnf);first|refine fD ?_|refine fB ?_|refine ldE (k:=0) (RdE.up (M.rd (W0:=W0))) aO ?_ rfl ?_;omega|refine ixE (u.d.rd (W0:=W0)) hy rfl ?_|refine ldE (k:=1+Q.toNat) (RdE.up (u.t.rd (W0:=W0))) H ?_ aB ?_;omega|apply q3L (enc:=q06) (T:=45) (j:=j) (k:=0) w u.d hy;omega;omega;exact rfl;exact rfl;intro D1 M|refine ldE (k:=0) (RdE.up (u.t.rd (W0:=W0))) H ?_ rfl ?_;omega|(apply qe;first|refine qr aw ?_ ?_ ?_ fun g1 v G=>?_;exact(eC);exact rfl;exact rfl;obtain⟨u,I,G⟩:=G;(have C:g1.gb=g.gb:=by rw[G]);(have F:g1.ta=g.ta:=by rw[G]);(have av:g1.S=g.S:=by rw[G]);rw[<-C,<-F]|refine qr (U g1 D1 (by rw[av];exact aj) u M) ?_ ?_ ?_ fun g2 v i=>?_;dsimp only[GP.O,GP.cells,GS.ev];rw[zm];exact(eC);exact rfl;exact rfl;obtain⟨i,O,aJ⟩:=i)|refine fP ?_|refine fA ?_)
    all_goals exact⟨(_,g2,th.rg),⟨i,GP.ev.of I (by rw[O]) (by rw[O]),by rw[O],by rw[O],H,by rw[hX];simp[GS.fin,GS.ev,GS.mem,Thr.nxt]⟩,trivial,(eC)⟩
   ·rintro⟨s1,g1,r⟩ ae ⟨u,I,C,F,B,J⟩;dsimp only at u I C F B J ⊢;have R:RdE Thr.enc 11 W0 g1.tD g.ta s1.T:=F ▸ (u.t.rd (W0:=W0));have N:=q53 (c:=c) u B hT.hph (th.pc+1) q;rw[C,af] at N
    repeat'((try conv=>whnf);first|refine ldE (k:=0) (v:= j4 (th.pc:Int)) (RdE.up R) B ?_ rfl ?_;omega|(apply qe;first|refine qr N ?_ ?_ ?_ fun g2 v i=>?_;exact(eC);exact rfl;exact rfl)|refine fB ?_|refine fA ?_)
    all_goals exact .inr ⟨({s1 with T:=s1.T.set t (th.nxt ph.p.length r)},g2),⟨rfl,by rw[J],i.1,GP.ev.of I (by rw[i.2]) (by rw[i.2]),by rw[i.2]⟩,Ent.refl⟩
end
open Go
theorem qct{T:TypeId}{a:j8}{cap:Nat}{l:List Thr}{D:Own}(h:qq Thr.enc T 11 a cap l D){j:Nat}{t:Thr}(z:l[j]? =some t):∃b pre post,a=some ⟨b,0,none⟩/\D= [thB b T pre post t]/\List.length pre=j*11/\∀u:Thr,qq Thr.enc T 11 a cap (l.set j u) [thB b T pre post u]:=by
 have i:=(z7.1 z).1
 rcases h.how with ⟨rfl,_,_⟩|⟨b,rest,E,F,G,hle⟩
 ·simp at z
 ·have C:∀y:Thr,l.set j y=l.take j++(y::l.drop (j+1)):=fun y=>by rw[Zk,if_pos i]
  have B:l.set j t=l:=by
   obtain⟨_,he⟩:=z7.1 z;rw[<-he];exact yu i
  have d:∀y:Thr,((l.set j y).map Thr.enc).flatten++rest=((l.take j).map Thr.enc).flatten++(y.enc++(((l.drop (j+1)).map Thr.enc).flatten++rest)):=fun y=>by
   rw[C y];simp only[zv,zG,zP,Z1,zd]
  refine⟨b,((l.take j).map Thr.enc).flatten,((l.drop (j+1)).map Thr.enc).flatten++rest,E,?_,?_,fun u=>⟨fun _ _=>rfl, .inr ⟨b,rest,E,?_,?_,?_⟩⟩⟩
  ·have e:=d t;rw[B] at e;rw[F,e]
  ·rw[q0j (sz:=11) _ (fun _ _=>rfl),zM,yH Yb]
  ·rw[d u]
  ·rw[zm];exact G
  ·rw[zm];exact hle
theorem qlz{W0:World}{D own r:Own} [m:q07 D own r]:Ent W0 (D++r) own:=Ent.of_perm m.h.symm
theorem qku{P:Program}{W0:World}{σ:Type}{own D r:Own}{k:FuncId}{args:je}{R:σ->Value->Prop}{O:σ->Own} [m:q07 D own r](h:qu P W0 k args (D++r) fun v own'=>∃s,R s v/\Ent W0 own' (O s++r)):qu P W0 k args own fun v own'=>∃s,R s v/\Ent W0 own' (O s++r):=
 fun w hw=>h w (Ent.of_perm m.h w hw)
section
variable{W0:World}{Kp:Own}{g:GP}{c:Cfg}{ps:ji}{s:GS}
theorem qee{t:Nat}{th:Thr}(h:g.ok W0 Kp ps s)(z:s.T[t]? =some th){x:Ins}(G:qH x=0)(y:th.rg.ok)(u:th.pc<=64)(q:Own):
  jk W0 95 [.pointer (some ⟨ab g.ta,ao g.ta+t*11,none⟩),x.v] (g.O c ps.length s++q) fun v own'=>∃g':GP,
   (v= j4 (q1B th x)/\g'.ok W0 Kp ps {s with T:=s.T.set t {th with rg:=q4C th x}}/\g'={g with tD:=g'.tD})/\Ent W0 own' (g'.O c ps.length {s with T:=s.T.set t {th with rg:=q4C th x}}++q):=by
 obtain⟨tb,pre,post,l,i,hpl,d⟩:=qct h.t z;obtain⟨gb,mb,ml,da,dc,dD,ka,kc,ta,B,tD,ea,ec,eD,L,X,oa,oc,oD,S⟩:=g;dsimp only at l i d;subst l;subst i;have E:=qku (own:=(GP.mk gb mb ml da dc dD ka kc (some ⟨tb,0,none⟩) B [thB tb 88 pre post th] ea ec eD L X oa oc oD S).O c ps.length s++q) (qaN (W0:=W0) (b:=tb) (T:=88) (pre:=pre) (post:=post) (t:=th) (o:=0+t*11) G y u Yb _);intro w hw;refine(E w hw).mono fun _ _ ⟨v,o,a,b,_,F,C⟩=>⟨v,o,a,b,⟨gb,mb,ml,da,dc,dD,ka,kc,some ⟨tb,0,none⟩,B,[thB tb 88 pre post {th with rg:=q4C th x}],ea,ec,eD,L,X,oa,oc,oD,S⟩,⟨F,⟨h.d,h.m,h.k,h.kp,d _,h.e,h.em,h.o,h.os,h.ol⟩,rfl⟩,C.trans ?_⟩
 dsimp only[GP.O,GP.cells];rw[zm];exact qlz
theorem qd0{α:Type}{l:List (List α)}{t:Nat}(d:t<l.length):l.set t (l.getD t []++ [])=l:=by
 rw[zC];simp[List.getD,d]
theorem qey{t:Nat}{th:Thr}{ph:PH}(W:qn9 c ps s t th ph)(h:g.ok W0 Kp ps s)(G:g.ev W0){x:Ins}(hx:qH x=0)(az:th.pc<ph.p.length/\ph.p.length<=64)(f:Int)(aa:j8)(al ac:Nat)(q:Own) [ek:qx q Kp]:
  jk W0 61 [jn g.gb,chV t f aa al ac,x.v] (g.O c ps.length s++q) fun v own'=>
   ((v= .bool false/\sgM c ph.p s th t f x=none)/\Ent W0 own' (g.O c ps.length s++q))\/
   ∃s':GS×GP,(v= .bool true/\sgM c ph.p s th t f x=some s'.1/\s'.2.ok W0 Kp ps s'.1/\s'.2.ev W0/\s'.2.gb=g.gb)/\Ent W0 own' (s'.2.O c ps.length s'.1++q):=by
 refine sH (jo 8 3 (0::(jo 7 3 [18,0,3,5,9,11,1,7,14,16,0,14,7,16,0]))) ?_
 by_cases C:x.op=12\/x.op=13
 ·have aA:=q2b (c:=c) W h G hx C az f aa al ac q;obtain⟨op,a,U,V,imm⟩:=x;dsimp only[Ins.v] at*;clear hx
  rcases C with rfl|rfl
  all_goals
   repeat'((try conv=>whnf);first|refine fH ?_|refine fI ?_|refine fE ?_|(apply qe;first|refine q2n aA ?_ ?_ ?_ (fun v G=>?_) fun s' v G=>?_;exact(eC);exact rfl;exact rfl;obtain⟨rfl,G⟩:=G;rotate_left;obtain⟨rfl,G⟩:=G)|refine fA ?_|refine fL ?_|refine qg fun bk av=>?_)
   ·exact .inr ⟨s',⟨rfl,G⟩,Ent.refl⟩
   ·exact .inl ⟨⟨rfl,G⟩,Ent.refl⟩
 have af:sgM c ph.p s th t f x=if f≠0 then none else some (s.fin t {q1r th x with dn:=decide ((q1r th x).pc=ph.p.length)} (if x.op=16 then [⟨th.pc,6,0⟩] else [])):=by
  unfold sgM;rw[if_neg C]
 rw[af];clear af;have hop1:x.op≠12:=fun e=>C (.inl e)
 have hop2:x.op≠13:=fun e=>C (.inr e)
 clear C
 by_cases hf:f≠0
 ·rw[if_pos hf];obtain⟨op,a,U,V,imm⟩:=x;dsimp only[Ins.v] at*
  repeat'((try conv=>whnf);first|refine fH ?_|refine fF ?_|refine fG ?_|refine fK ?_|refine fA ?_|refine qg fun bk av=>?_)
  exact .inl ⟨⟨rfl,rfl⟩,(eC)⟩
 ·rw[if_neg hf];obtain rfl:f=0:=Yb;have d:=W.hth;have au:=(z7.1 d).1;have aC:t<s.O.length:=by rw[W.tl];exact au
  have aE:t<g.S.length:=by
   have H:=congrArg List.length h.ol;rw[zi] at H;omega
  have ae:∀l∈s.O,l.length<=1000000:=fun l hl=>by have:=W.ob l hl;omega
  have N:=h.t.rd (W0:=W0);have aq:(s.T.set t {th with rg:=q4C th x})[t]? =some {th with rg:=q4C th x}:=Z9 au;have I:=fun(g1:GP) (s1:GS) (H:g1.ok W0 Kp ps s1) (d:s1.T[t]? =some th)=>qee (c:=c) H d hx W.rg Yb
  have J:=fun(g1:GP) (s1:GS) (H:g1.ok W0 Kp ps s1) (aB:s1.T=s.T.set t {th with rg:=q4C th x})=>q53 (c:=c) H (aB ▸ aq) W.hph (q1B th x) q
  have z:∀l,({s with T:=(s.T.set t {th with rg:=q4C th x}).set t {th with rg:=q4C th x,pc:=q1B th x,dn:=decide (q1B th x=ph.p.length)},O:=s.O.set t (s.O.getD t []++l)}:GS)=s.fin t {q1r th x with dn:=decide ((q1r th x).pc=ph.p.length)} l:=fun l=>by
   rw[yr];rfl
  have y:({s with T:=(s.T.set t {th with rg:=q4C th x}).set t {th with rg:=q4C th x,pc:=q1B th x,dn:=decide (q1B th x=ph.p.length)}}:GS)=s.fin t {q1r th x with dn:=decide ((q1r th x).pc=ph.p.length)} []:=by
   rw[<-z [],qd0 aC]
  obtain⟨X,Y⟩:∃X,X=s.fin t {q1r th x with dn:=decide ((q1r th x).pc=ph.p.length)} (if x.op=16 then [⟨th.pc,6,0⟩] else []):=⟨_,rfl⟩
  rw[<-Y]
  by_cases M:x.op=16
  ·rw[if_pos M,<-z] at Y;clear z y;generalize q4C th x=R at*;generalize q1B th x=Pc at*;obtain⟨op,a,U,V,imm⟩:=x;dsimp only[Ins.v] at*;subst M;clear hx
   repeat'((try conv=>whnf);first|refine qg fun b4 h4=>?_;apply Stop.h)
   refine Stop.mk ?_
   repeat'((try conv=>whnf);first|refine qg fun b5 h5=>?_;apply Stop.h)
   refine Stop.mk ?_;have ay:=qX (E:= [(b5,j7 #[j4 16,j4 a,j4 U,j4 V,j4 imm] 62 (0,0)),(b4,j7 #[j4 t,j4 0, .slice aa al ac] 99 (0,0))]) (q:=q) (q18 (c:=c) h aE ae th.pc 6 0);have S:=fun(g1:GP) (s1:GS) (H:g1.ok W0 Kp ps s1) (d:s1.T[t]? =some th)=>qX (E:= [(b5,j7 #[j4 16,j4 a,j4 U,j4 V,j4 imm] 62 (0,0)),(b4,j7 #[j4 t,j4 0, .slice aa al ac] 99 (0,0))]) (q:=q) (I g1 s1 H d)
   repeat'((try conv=>whnf);first|refine fH ?_|refine fE ?_|refine fD ?_|apply gLd;refine q0n N d rfl ?_|(apply qL;first|refine ixE N d ?_ ?_;(first|rfl|omega))|(apply qe;first|refine qr ay ?_ ?_ ?_ fun g0 v B=>?_;exact(eC);exact rfl;exact rfl;obtain⟨aw,B,hl0⟩:=B;(have Z:g0.gb=g.gb:=by rw[B]);(have aj:g0.ta=g.ta:=by rw[B]);rw[<-Z,<-aj]|refine qr (S g0 _ aw d) ?_ ?_ ?_ fun g1 v i=>?_;exact(eC);exact rfl;exact rfl;obtain⟨rfl,Q,i⟩:=i;(have F:g1.gb=g0.gb:=by rw[i]);rw[<-F]|refine qr (J g1 _ Q rfl) ?_ ?_ ?_ fun g2 v u=>?_;exact(eC);exact rfl;exact rfl)|refine fA ?_|refine fL ?_|refine q1k.mk ?_ ?_)
   all_goals exact .inr ⟨(_,g2),⟨rfl,by rw[Y],u.1,GP.ev.of G (by rw[u.2,i,B]) (by rw[u.2,i,B]),by rw[u.2]⟩,Ent.refl⟩
  ·rw[if_neg M,<-y] at Y;clear z y;generalize q4C th x=R at*;generalize q1B th x=Pc at*;obtain⟨op,a,U,V,imm⟩:=x;dsimp only[Ins.v] at*;clear hx
   repeat'((try conv=>whnf);first|refine qg fun b4 h4=>?_;apply Stop.h)
   refine Stop.mk ?_
   repeat'((try conv=>whnf);first|refine qg fun b5 h5=>?_;apply Stop.h)
   refine Stop.mk ?_;have S:=fun(g1:GP) (s1:GS) (H:g1.ok W0 Kp ps s1) (d:s1.T[t]? =some th)=>qX (E:= [(b5,j7 #[j4 op,j4 a,j4 U,j4 V,j4 imm] 62 (0,0)),(b4,j7 #[j4 t,j4 0, .slice aa al ac] 99 (0,0))]) (q:=q) (I g1 s1 H d)
   repeat'((try conv=>whnf);first|refine fH ?_|refine fD ?_|refine fG ?_|refine fK ?_|(apply qL;first|refine ixE N d ?_ ?_;(first|rfl|omega))|(apply qe;first|refine qr (S g s h d) ?_ ?_ ?_ fun g1 v i=>?_;exact(eC);exact rfl;exact rfl;obtain⟨rfl,Q,i⟩:=i;(have F:g1.gb=g.gb:=by rw[i]);rw[<-F]|refine qr (J g1 _ Q rfl) ?_ ?_ ?_ fun g2 v u=>?_;exact(eC);exact rfl;exact rfl)|refine fA ?_|refine fL ?_|refine q1k.mk ?_ ?_)
   all_goals exact .inr ⟨(_,g2),⟨rfl,by rw[Y],u.1,GP.ev.of G (by rw[u.2,i]) (by rw[u.2,i]),by rw[u.2]⟩,Ent.refl⟩
end
open Go
section
variable{W0:World}{own:Own}
theorem q85{da:j8}{dc mb:Nat}{d:jd}{ml:Mp}(E:RdE q06 1 W0 own da d)(hd:d.length<=1000000) [m:qy mb (q2H (mpV ml)) own]:
  jk W0 88 [.agg #[.slice da d.length dc, .map (some mb)]] own fun v own'=>∃s:(j8×Nat×Own)×Nat,
   (v= .agg #[.slice s.1.1 d.length s.1.2.1, .map (some s.2)]/\qq q06 45 1 s.1.1 s.1.2.1 d s.1.2.2)/\Ent W0 own' (s.1.2.2++((s.2,q2H (mpV ml))::own)):=by
 refine sH [3,5,9,1,8,11,14,15,18,0,11,8,14,15,18,0] ?_;have i:=fun(own':Own) [qx own' own]=>qW (cap:=dc) (RdE.up (own:=own') E) Yb
 have u:=fun(own':Own) [qy mb (q2H (mpV ml)) own']=>qef (W0:=W0) (own:=own') (b:=mb) (l:=mpV ml)
 repeat'((try conv=>whnf);first|refine qg fun b1 h1=>?_;apply Stop.h)
 refine Stop.mk ?_
 repeat'((try conv=>whnf);first|refine qg fun b2 h2=>?_;apply Stop.h)
 refine Stop.mk ?_
 repeat'((try conv=>whnf);first|(apply qe;first|refine qk (i _) fun y v z=>?_;obtain⟨a1,c1,D1⟩:=y;obtain⟨rfl,B⟩:=z;dsimp only at B|refine qk (u _) fun C v z=>?_;subst z)|refine fA ?_|refine fL ?_|refine fM ?_|refine q1k.mk ?_ ?_)
 all_goals exact⟨((a1,c1,D1),C),⟨rfl,B⟩,(Ent.of_perm Z2.symm).trans (Ent.of_sub ((((zT _ _).cons _).cons_cons _).append_left D1))⟩
theorem qkA{T:TypeId}{a:j8}{cap j off n:Nat}{l:List Thr}{D:Own}{C:Own->Own}{t:Thr}{vs:je}{K:Own->Prop}(r:Rg)(E:qq Thr.enc T 11 a cap l D)(J:l[j]? =some t) [m:AtC D own C](H:8=n)(I:off=ao a+j*11+1)(z:vs=r.enc)
  (G:∀B,qq Thr.enc T 11 a cap (l.set j {t with rg:=r}) B->K (C B)):vs.length=n/\StN W0 own ⟨ab a,off,none⟩ vs K:=by
 obtain⟨b,pre,post,rfl,rfl,y,d⟩:=qct E J;subst z;have i:=m.h;have u:off=pre.length+1:=by rw[I,y];simp[ao]
 subst u
 haveI:UpC b (j7 (pre++(t.enc++post)).toArray T (0,0)) own (fun q=>C [(b,q)]):=⟨fun q=>i.up q⟩
 have key:((pre++(t.enc++post)).toArray.toList.take (pre.length+1)++r.enc++(pre++(t.enc++post)).toArray.toList.drop (pre.length+1+8))=pre++(({t with rg:=r}:Thr).enc++post):=by
  rw[zQ,List.take_append,ZB Yb,Za,yE,ZN Yb,show pre.length+1+8-pre.length=9 by omega];simp
 have F:=qkz (W0:=W0) (own:=own) (b:=b) (off:=pre.length+1) (n:=8) (cs:=(pre++(t.enc++post)).toArray) (T:=T) (vs:=r.enc) (K:=K) (C:=fun q=>C [(b,q)]) rfl (by simp;omega) rfl (by rw[key];exact G _ (d _));subst H;exact F
end
theorem qiT{W0:World}{y z B C F:j9}{A R W O u T E L d i l X q:Own}:Ent W0 (y::((z::(A++(C::(R++(W++O)))))++((B::(u++(F::(T++(E++(L++((d++(i++l))++X)))))))++q))) ([y,z]++((B::(A++(C::(T++(E++(L++((d++(i++l))++(R++(W++X)))))))))++q)):=
 q0r (O++(u++ [F]))
section
variable{W0:World}{Kp K:Own}{g:GP}{c:Cfg}{ps:ji}{s:GS}{x:TxG}{b:BM}
theorem qbA{t:Nat}{th:Thr}(h:g.ok W0 Kp ps s)(hv:g.ev W0)(U:s.T[t]? =some th)(hO:t<s.O.length)(aj:∀l∈s.O,l.length<=500000)(hE:s.E.length<=500000)(V:x.ok W0 K b)(hxo:b.o.length<=500000)(q:Own):
  jk W0 90 [jn g.gb,j4 t,jn x.xb] (x.O c b 1++(g.O c ps.length s++q)) fun _ own'=>∃g':GP,
   (g'.ok W0 Kp ps ((({s with d:=b.d,tk:=b.tk,T:=s.T.set t {th with rg:=b.t.rg},O:=s.O.set t (s.O.getD t []++b.o)}:GS).ev [⟨s.n,t,3,0,[],[]⟩]).ev [⟨s.n,t,4,0,b.r,b.w⟩])/\g'.ev W0/\g'.gb=g.gb/\g'.ta=g.ta)/\
   Ent W0 own' ([thB x.xb 214 (x.pre c b) (x.post b 1) b.t]++(g'.O c ps.length ((({s with d:=b.d,tk:=b.tk,T:=s.T.set t {th with rg:=b.t.rg},O:=s.O.set t (s.O.getD t []++b.o)}:GS).ev [⟨s.n,t,3,0,[],[]⟩]).ev [⟨s.n,t,4,0,b.r,b.w⟩])++q)):=by
 have aq:t<g.S.length:=by
  have Y:=congrArg List.length h.ol;rw[zi] at Y;omega
 obtain⟨F,i⟩:∃F,g.S[t]? =some F:=⟨_,z6 aq⟩
 have W:=zh i;have hB:=h.os F W;have hxl:F.l.length<=500000:=aj F.l (by rw[<-h.ol];exact ZU W);have J:=h.o;have M:=J.rd (W0:=W0);have Z:=h.t.rd (W0:=W0);have af:=V.o.rd (W0:=W0);refine sH (jo 12 3 (28::0::3::5::7::(jo 12 11 [1,9,36,37,40,0,36,9,37,40,0]))) ?_;have I:∀(a2:j8) (c2:Nat) (D1 C G:Own),qq Thr.enc 88 11 g.ta g.tc (s.T.set t {th with rg:=b.t.rg}) D1->qq ObM.enc 77 3 a2 c2 (F.l++b.o) C->qq ObS.enc 75 1 g.oa g.oc (g.S.set t ⟨a2,c2,F.l++b.o,C⟩) G->
   ({g with mb:=x.mb,ml:=x.ml,da:=x.da,dc:=x.dc,dD:=x.dD,tD:=D1,oD:=G,S:=g.S.set t ⟨a2,c2,F.l++b.o,C⟩,X:=x.rD++(x.wD++g.X)}:GP).ok W0 Kp ps ({s with d:=b.d,tk:=b.tk,T:=s.T.set t {th with rg:=b.t.rg},O:=s.O.set t (s.O.getD t []++b.o)}:GS)/\({g with mb:=x.mb,ml:=x.ml,da:=x.da,dc:=x.dc,dD:=x.dD,tD:=D1,oD:=G,S:=g.S.set t ⟨a2,c2,F.l++b.o,C⟩,X:=x.rD++(x.wD++g.X)}:GP).ev W0:=fun a2 c2 D1 C G u y z=>by
  have ho:=h.obs i y z;exact⟨⟨V.d,V.m,h.k,h.kp,u,h.e,h.em,ho.o,ho.os,ho.ol⟩,fun e he=>⟨(hv e he).1.up,(hv e he).2.up⟩⟩
 have N:=fun(be:Nat) (a2:j8) (c2:Nat) (D1 C G:Own) u y z=>qX (E:= [(be,j7 #[j4 0,j4 t,j4 4,j4 0, .slice x.ra b.r.length x.rc, .slice x.wa b.w.length x.wc] 83 (0,0)),thB x.xb 214 (x.pre c b) (x.post b 1) b.t]) (q:=q) (q1w (c:=c) (g:=({g with mb:=x.mb,ml:=x.ml,da:=x.da,dc:=x.dc,dD:=x.dD,tD:=D1,oD:=G,S:=g.S.set t ⟨a2,c2,F.l++b.o,C⟩,X:=x.rD++(x.wD++g.X)}:GP)) (s:=({s with d:=b.d,tk:=b.tk,T:=s.T.set t {th with rg:=b.t.rg},O:=s.O.set t (s.O.getD t []++b.o)}:GS)) (I a2 c2 D1 C G u y z).1 (I a2 c2 D1 C G u y z).2 (e:=⟨0,t,3,0,none,[],0,none,[],0⟩) RdE.nil RdE.nil (by show s.E.length<=_;omega))
 have Q:=fun(g1:GP) (Y:g1.ok W0 Kp ps (({s with d:=b.d,tk:=b.tk,T:=s.T.set t {th with rg:=b.t.rg},O:=s.O.set t (s.O.getD t []++b.o)}:GS).ev [⟨s.n,t,3,0,[],[]⟩])) (h2:g1.ev W0) (hX:g1.X=x.rD++(x.wD++g.X))=>qX (E:= [thB x.xb 214 (x.pre c b) (x.post b 1) b.t]) (q:=q) (q1w (c:=c) Y h2 (e:=⟨0,t,4,0,x.ra,b.r,x.rc,x.wa,b.w,x.wc⟩) (hX ▸ (V.r.rd (W0:=W0)).up) (hX ▸ (V.w.rd (W0:=W0)).up) (by simp[GS.ev];omega))
 dsimp only[GP.O];rw[q43 i]
 repeat'((try conv=>whnf);first|refine qg fun be hbe=>?_;apply Stop.h|refine fA ?_)
 refine Stop.mk ?_
 repeat'((try conv=>whnf);first|refine fE ?_|refine qkA b.t.rg h.t U ?_ ?_ ?_ ?_;exact rfl;omega;exact rfl;intro D1 u|refine qfl hB af rfl rfl Yb (fun _ _=>rfl) (fun _=>by omega) fun a2 c2 C y=>?_|apply q3L (enc:=ObS.enc) (T:=75) (j:=t) (k:=0) ⟨a2,c2,F.l++b.o,C⟩ J i;exact rfl;omega;simp only[ObS.enc,z8];exact rfl;exact rfl;intro G z|apply gLd;refine q0n M i rfl ?_|(apply qL;first|refine ixE M i ?_ ?_;(first|rfl|omega)|refine ixE Z U ?_ ?_;(first|rfl|omega))|(apply qe;first|refine qr (N be a2 c2 D1 C G u y z) ?_ ?_ ?_ fun g1 v B=>?_;dsimp only[GP.O,GP.cells];rw[qaq i,zm,zm];exact qiT;exact rfl;exact rfl;obtain⟨ae,au,B⟩:=B;(have R:g1.gb=g.gb:=by rw[B]);(have hta1:g1.ta=g.ta:=by rw[B]);rw[<-R]|refine qr (Q g1 ae au (by rw[B])) ?_ ?_ ?_ fun g2 v H=>?_;exact(eC);exact rfl;exact rfl)|refine fA ?_|refine fL ?_|refine fQ ?_|refine fN ?_|refine fM ?_|refine q1k.mk ?_ ?_)
 all_goals exact⟨g2,⟨H.1,H.2.1,by rw[H.2.2],by rw[H.2.2,B]⟩,Ent.refl⟩
theorem qiS{i l u y z:j9}{A R W O d T E L S X q:Own}:Ent W0 (i::((l::(A++(y::(R++(W++O)))))++((u::(d++(z::(T++(E++(L++(S++X)))))))++q))) ([i,l]++((u::(d++(z::(T++(E++(L++(S++(R++X))))))))++q)):=
 q0r (A++(W++(O++ [y])))
theorem qe7{t:Nat}{out:Int}(h:g.ok W0 Kp ps s)(H:g.ev W0)(hE:s.E.length<=500000)(I:x.ok W0 K b)(ho:out≠1)(q:Own):
  jk W0 90 [jn g.gb,j4 t,jn x.xb] (x.O c b out++(g.O c ps.length s++q)) fun _ own'=>∃g':GP,
   (g'.ok W0 Kp ps ((s.ev [⟨s.n,t,3,0,[],[]⟩]).ev [⟨s.n,t,4,0,b.r,[]⟩])/\g'.ev W0/\g'.gb=g.gb/\g'.ta=g.ta)/\
   Ent W0 own' ([thB x.xb 214 (x.pre c b) (x.post b out) b.t]++(g'.O c ps.length ((s.ev [⟨s.n,t,3,0,[],[]⟩]).ev [⟨s.n,t,4,0,b.r,[]⟩])++q)):=by
 refine sH (jo 12 3 (28::0::3::5::7::(jo 12 11 [1,9,36,37,40,0,36,9,37,40,0]))) ?_;have l:=fun(be:Nat)=>qX (E:= [(be,j7 #[j4 0,j4 t,j4 4,j4 0, .slice x.ra b.r.length x.rc,j6] 83 (0,0)),thB x.xb 214 (x.pre c b) (x.post b out) b.t]) (q:=q) (q1w (c:=c) (g:=({g with X:=x.rD++g.X}:GP)) (s:=s) h.x (GP.ev.x H) (e:=⟨0,t,3,0,none,[],0,none,[],0⟩) RdE.nil RdE.nil Yb)
 have u:=fun(g1:GP) (C:g1.ok W0 Kp ps (s.ev [⟨s.n,t,3,0,[],[]⟩])) (F:g1.ev W0) (G:g1.X=x.rD++g.X)=>qX (E:= [thB x.xb 214 (x.pre c b) (x.post b out) b.t]) (q:=q) (q1w (c:=c) C F (e:=⟨0,t,4,0,x.ra,b.r,x.rc,none,[],0⟩) (G ▸ (I.r.rd (W0:=W0)).up) RdE.nil (by simp[GS.ev];omega))
 repeat'((try conv=>whnf);first|refine qg fun be hbe=>?_;apply Stop.h|refine fA ?_)
 refine Stop.mk ?_
 repeat'((try conv=>whnf);first|refine fG ?_|(apply qe;first|refine qr (l be) ?_ ?_ ?_ fun g1 v d=>?_;exact qiS;exact rfl;exact rfl;obtain⟨z,B,d⟩:=d;(have y:g1.gb=g.gb:=by rw[d]);(have hta1:g1.ta=g.ta:=by rw[d]);rw[<-y]|refine qr (u g1 z B (by rw[d])) ?_ ?_ ?_ fun g2 v i=>?_;exact(eC);exact rfl;exact rfl)|refine fA ?_|refine fL ?_|refine fM ?_)
 all_goals exact⟨g2,⟨i.1,i.2.1,by rw[i.2.2],by rw[i.2.2,d]⟩,Ent.refl⟩
end
open Go
theorem qjI{α:Type}{l:List (List α)}{t:Nat}(d:t<l.length)(a w:List α):(l.set t (l.getD t []++a)).set t ((l.set t (l.getD t []++a)).getD t []++w)=l.set t (l.getD t []++(a++w)):=by
 have e:(l.set t (l.getD t []++a)).getD t []=l.getD t []++a:=by simp[List.getD,d]
 rw[e,yr,zd]
theorem qmf{O:List (List ObM)}{t:Nat}{a:List ObM}(h:∀l∈O,l.length<=500000)(ha:a.length<=400000):∀l∈O.set t (O.getD t []++a),l.length<=1000000:=fun l d=>by
 rcases Ze d with d|rfl
 ·have:=h l d;omega
 ·rw[z8,zg];cases i:O[t]? with
  |none=>simp;omega
  |some y=>have:=h y (zh i);simp;omega
theorem qlK{W0:World}{e m b:j9}{A Z:Own}:Ent W0 (e::(A++(m::(b::Z)))) ([b]++((e::(A++(m::([]++([]++ [])))))++Z)):=
 q0r []
section
variable{W0:World}{Kp K:Own}{g:GP}{c:Cfg}{ps:ji}{s:GS}
theorem qgj(hF:qE W0){t:Nat}{th:Thr}{ph:PH}(F:qn9 c ps s t th ph)(h:g.ok W0 Kp ps s)(H:g.ev W0)(hp:qB ph.p=(0,0)){x0:Ins}(af:ph.p[th.pc]? =some x0)(h7:x0.op=7)(br:s.tk.length=(qh c).toNat)(f:Int){aa:j8}{ad:jd}{ac:Nat}(hA:RdE qw 1 W0 K aa ad)(aW:ad.length<=ac)(aV:∀a∈ad,a<=9223372036854775807)(q:Own) [ek:qx q Kp] [ek2:qx q K]:
  jk W0 60 [jn g.gb,chV t f aa ad.length ac] (g.O c ps.length s++q) fun v own'=>
   ((v= .bool false/\txM c ph.p s th t f ad=none)/\Ent W0 own' (g.O c ps.length s++q))\/
   ∃s':GS×GP,(v= .bool true/\txM c ph.p s th t f ad=some s'.1/\s'.2.ok W0 Kp ps s'.1/\s'.2.ev W0/\s'.2.gb=g.gb)/\Ent W0 own' (s'.2.O c ps.length s'.1++q):=by
 have M:=F.hth;have Z:=(z7.1 M).1;have Y:t<s.O.length:=by rw[F.tl];exact Z
 have aB:=h.t.rd (W0:=W0);have hpl:=q7t hp;have aC:=q3Y af;rw[if_pos ⟨by rw[hp],h7⟩] at aC;have aK:=q0v hp af h7;have hpcl:=(z7.1 af).1;generalize he:q0B ph.p th.pc=e at aC;obtain⟨e',aY,bm,hel, -⟩:=aK;have bh:e'=e:=by rw[<-aY,he]
 subst bh;refine sC [114,141] [3,5,7,9,11,13,15,17,0,3,5,7,9,13,15,17,21,23,27,1,12,19,25,29,31,34,35,0,1,19,1,12,25,29,31,34,35,0,1,25,1,12,29,31,34,35,0,29,12,31,34,35,0,29,1,12,25,31,34,35,0,25,12,31,34,35,0,1,25,1,12,19,29,31,34,35,0,1,19,1,12,29,31,34,35,0,29,12,31,34,35,0,29,1,12,19,31,34,35,0,19,12,31,34,35,0,29,1,12,19,25,31,34,35,0,1,19,1,12,25,31,34,35,0,25,12,31,34,35,0,25,1,12,19,31,34,35,0,19,12,31,34,35,0,3,5,7,9,11,13,15,17,19,22,23,0,3,5,7,9,11,13,15,17,19,22,0,3,5,7,9,11,13,17,25,1,15,19,21,23,27,29,32,0,19,15,21,23,27,29,32,0] ?_
 repeat'((try conv=>whnf);first|refine qg fun b3 h3=>?_;apply Stop.h)
 refine Stop.mk ?_
 repeat'((try conv=>whnf);first|apply gLd;refine q0n aB M rfl ?_|(apply qL;first|refine ixE aB M ?_ ?_;(first|rfl|omega))|refine fA ?_)
 refine q39 (σ:=GS×GP×Thr) 75557863725914322894992 (fun _=> []) (fun y=> [(b3,j7 #[j4 t,j4 f, .slice aa ad.length ac] 99 (0,0))]++(y.2.1.O c ps.length y.1++q))
  (fun y=>y.2.1.ok W0 Kp ps y.1/\y.2.1.ev W0/\y.2.1.gb=g.gb/\y.2.1.ta=g.ta/\y.1.T[t]? =some y.2.2/\(t<y.1.O.length/\∀l∈y.1.O,l.length<=1000000)/\okU y.2.2.oc/\
   txM c ph.p s th t f ad=some {y.1 with T:=y.1.T.set t ⟨e'+1,y.2.2.rg,y.2.2.oc,decide (e'+1=ph.p.length)⟩,O:=y.1.O.set t (y.1.O.getD t []++ [⟨th.pc,3,y.2.2.oc⟩])}) rfl ?_ ?_
 ·by_cases hf:f=0
  ·subst hf;have aX:=fun(own':Own) [qx own' g.dD] [qy g.mb (q2H (mpV g.ml)) own']=>q85 (own:=own') (dc:=g.dc) (mb:=g.mb) (ml:=g.ml) (RdE.up (h.d.rd (W0:=W0))) (by have:=F.dl;have:=(qK F.c0).1;unfold okW at this;omega)
   repeat'((try conv=>whnf);first|refine fE ?_|refine fA ?_)
   refine q39 (σ:=TxG) 549747425408 (fun x=> [(7,jn x.xb)]) (fun x=> [(b3,j7 #[j4 t,j4 0, .slice aa ad.length ac] 99 (0,0))]++(x.O c (⟨s.d,s.tk,th,[],[],[],ad⟩:BM) 0++(g.O c ps.length s++q))) (fun x=>x.ok W0 K (⟨s.d,s.tk,th,[],[],[],ad⟩:BM)) rfl ?_ ?_
   ·repeat'((try conv=>whnf);first|apply q27;refine q0O aB M rfl ?_|(apply qe;first|refine qk (aX _) fun y v H=>?_;obtain⟨⟨a1,c1,D1⟩,bu⟩:=y;obtain⟨rfl,hB⟩:=H;dsimp only at hB)|refine fA ?_|refine fQ ?_|refine qg fun bk hbk=>?_|refine q1k.mk ?_ ?_)
    all_goals exact⟨⟨_,bu,g.ml,a1,c1,D1,aa,ac,none,0,[],none,0,[],none,0,[]⟩,⟨hB,h.m,hA,aW,qq.nil,qq.nil,qq.nil⟩,(eF),qlK⟩
   ·rintro x aS aA;dsimp only at aA ⊢;have X:=zh F.hph;have J:=F.hph;have aq:=h.k;have aH:BI c ⟨s.d,s.tk,{th with pc:=th.pc+1},[],[],[],ad⟩:=⟨F.dl,F.dr,br,F.rg,zl _,zl _,zl _,fun _ h=>(by cases h),fun _ h=>(by cases h),aV⟩
    have R:=qj4 (Kp:=Kp) (pcap:=ph.cap) aA F.c0 hp af h7 aH (h.kp ph X) ([(b3,j7 #[j4 t,j4 0, .slice aa ad.length ac] 99 (0,0))]++(g.O c ps.length s++q));have Q:=qdK hp af h7 (c:=c) ph.p.length ⟨s.d,s.tk,{th with pc:=th.pc+1},[],[],[],ad⟩ (Zs _) (by rw[he];exact bm) aH;rw[he] at Q;have ae:txM c ph.p s th t 0 ad=match q4k c ph.p ph.p.length ⟨s.d,s.tk,{th with pc:=th.pc+1},[],[],[],ad⟩ with
     |(b,o)=>if o= -1\/b.ad≠ [] then none
      else if o=1 then some (((s.mem b.d b.tk).ev [⟨s.n,t,3,0,[],[]⟩,⟨s.n,t,4,0,b.r,b.w⟩]).fin t ⟨e'+1,b.t.rg,1,decide (e'+1=ph.p.length)⟩ (b.o++ [⟨th.pc,3,1⟩]))
      else some ((s.ev [⟨s.n,t,3,0,[],[]⟩,⟨s.n,t,4,0,b.r,[]⟩]).fin t ⟨e'+1,th.rg,o,decide (e'+1=ph.p.length)⟩ [⟨th.pc,3,o⟩]):=by
     unfold txM;rw[if_neg Yd,he]
    rw[ae];clear ae;dsimp only at R;generalize q4k c ph.p ph.p.length ⟨s.d,s.tk,{th with pc:=th.pc+1},[],[],[],ad⟩=z at*;obtain⟨I,zo⟩:=z;dsimp only at R Q ⊢
    by_cases hz:zo=1
    ·subst hz;obtain⟨aJ, -,hpce⟩:=Q Yc;have hol:=aJ.ol;have V:=fun(x1:TxG) (u:x1.ok W0 K I)=>qbA (c:=c) h H M Y F.ob F.el u Yb ([(b3,j7 #[j4 t,j4 0, .slice aa ad.length ac] 99 (0,0))]++q)
     have G:(s.T.set t {th with rg:=I.t.rg})[t]? =some {th with rg:=I.t.rg}:=Z9 Z
     repeat'((try conv=>whnf);first|refine fE ?_|refine fD ?_|apply q3L (enc:=Thr.enc) (T:=88) (j:=t) (k:=9) {th with rg:=I.t.rg,oc:=1} i.t G;exact rfl;omega;exact rfl;exact rfl;intro D1 U|apply gLd;refine q0n aq J rfl ?_|(apply qL;first|refine ixE aq J ?_ ?_;(first|rfl|omega))|(apply qe;first|refine q2n R ?_ ?_ ?_ (fun v H=>?_) fun x1 v H=>?_;exact Ent.of_perm (Z4 _ _ _);exact rfl;exact rfl;obtain⟨rfl,H⟩:=H;rotate_left;obtain⟨rfl,av,aF,u,aj⟩:=H;rw[<-aj]|refine qr (V x1 u) ?_ ?_ ?_ fun g1 v aE=>?_;exact Ent.of_perm (List.Perm.append_left _ (Z4 _ _ _));exact rfl;exact rfl;obtain⟨i,S,B,C⟩:=aE;rw[<-C])|refine fA ?_)
     ·rw[if_neg (fun h=>h.elim av (fun h=>h aF)),if_pos rfl];refine⟨({((({s with d:=I.d,tk:=I.tk,T:=s.T.set t {th with rg:=I.t.rg},O:=s.O.set t (s.O.getD t []++I.o)}:GS).ev [⟨s.n,t,3,0,[],[]⟩]).ev [⟨s.n,t,4,0,I.r,I.w⟩]) with T:=(s.T.set t {th with rg:=I.t.rg}).set t {th with rg:=I.t.rg,oc:=1}},{g1 with tD:=D1},{th with rg:=I.t.rg,oc:=1}),⟨⟨i.d,i.m,i.k,i.kp,U,i.e,i.em,i.o,i.os,i.ol⟩,S,B,rfl,Z9 (by rw[zm];exact Z),⟨by simpa [GS.ev] using Y,?_⟩,(show okU 1 from ⟨Yc,Yc⟩),?_⟩,trivial,?_⟩
      ·exact fun l hl=>qmf F.ob (a:=I.o) Yb l hl
      ·simp only[GS.fin,GS.ev,GS.mem,yr,qjI Y,zd,zk,zj]
      ·dsimp only[GP.O,GP.cells,GS.ev];simp only[zm];exact Ent.app (Ent.of_perm (Z4 _ _ _))
     ·exact .inl ⟨⟨rfl,if_pos H⟩,(eC)⟩
    ·have V:=fun(x1:TxG) (u:x1.ok W0 K I)=>qe7 (c:=c) (t:=t) h H F.el u hz ([(b3,j7 #[j4 t,j4 0, .slice aa ad.length ac] 99 (0,0))]++q)
     repeat'((try conv=>whnf);first|refine fE ?_|refine fD ?_|apply q3L (enc:=Thr.enc) (T:=88) (j:=t) (k:=9) {th with oc:=zo} i.t M;exact rfl;omega;exact rfl;exact rfl;intro D1 U|apply gLd;refine q0n aq J rfl ?_|(apply qL;first|refine ixE aq J ?_ ?_;(first|rfl|omega))|(apply qe;first|refine q2n R ?_ ?_ ?_ (fun v H=>?_) fun x1 v H=>?_;exact Ent.of_perm (Z4 _ _ _);exact rfl;exact rfl;obtain⟨rfl,H⟩:=H;rotate_left;obtain⟨rfl,av,aF,u,aj⟩:=H;rw[<-aj]|refine qr (V x1 u) ?_ ?_ ?_ fun g1 v aE=>?_;exact Ent.of_perm (List.Perm.append_left _ (Z4 _ _ _));exact rfl;exact rfl;obtain⟨i,S,B,C⟩:=aE;rw[<-C])|refine fA ?_)
     ·obtain⟨aJ,⟨hzo0,hzo1⟩, -⟩:=Q av;rw[if_neg (fun h=>h.elim av (fun h=>h aF)),if_neg hz];refine⟨({((s.ev [⟨s.n,t,3,0,[],[]⟩]).ev [⟨s.n,t,4,0,I.r,[]⟩]) with T:=s.T.set t {th with oc:=zo}},{g1 with tD:=D1},{th with oc:=zo}),⟨⟨i.d,i.m,i.k,i.kp,U,i.e,i.em,i.o,i.os,i.ol⟩,S,B,rfl,Z9 Z,⟨Y,fun l hl=>by have:=F.ob l hl;omega⟩,(show okU zo from ⟨Yb,Yb⟩),?_⟩,trivial,?_⟩
      ·simp only[GS.fin,GS.ev,yr,zd,zk,zj]
      ·dsimp only[GP.O,GP.cells,GS.ev];simp only[zm];exact Ent.app (Ent.of_perm (Z4 _ _ _))
     ·exact .inl ⟨⟨rfl,if_pos H⟩,(eC)⟩
  ·have ae:txM c ph.p s th t f ad=if(3<=f/\f<=6)/\ad= [] then some (s.fin t ⟨e'+1,th.rg,f,decide (e'+1=ph.p.length)⟩ [⟨th.pc,3,f⟩]) else none:=by
    unfold txM;rw[if_pos hf,he]
   rw[ae];clear ae
   by_cases aL:3<=f/\f<=6
   ·by_cases N:ad= []
    ·rw[if_pos ⟨aL,N⟩];have bo:¬(0:Int)<ad.length:=by rw[N];simp
     have hq:f=3\/f=4\/f=5\/f=6:=Yb
     repeat'((try conv=>whnf);first|refine fF ?_|refine fG ?_|apply q3L (enc:=Thr.enc) (T:=88) (j:=t) (k:=9) {th with oc:=f} h.t M;exact rfl;omega;exact rfl;exact rfl;intro D1 U|refine fA ?_|apply q6D;exact rfl;all_goals intro hc)
     all_goals first|exfalso;omega|skip
     all_goals
      refine⟨({s with T:=s.T.set t {th with oc:=f}},{g with tD:=D1},{th with oc:=f}),⟨⟨h.d,h.m,h.k,h.kp,U,h.e,h.em,h.o,h.os,h.ol⟩,H,rfl,rfl,Z9 Z,⟨Y,fun l hl=>by have:=F.ob l hl;omega⟩,(show okU f from ⟨Yb,Yb⟩),?_⟩,trivial,?_⟩
      ·simp only[GS.fin,yr]
      ·dsimp only[GP.O,GP.cells];simp only[zm];exact(eC)
    ·rw[if_neg (fun h=>N h.2)];have bo:(0:Int)<ad.length:=by
      have:ad.length≠0:=fun h=>N (Zt h)
      omega
     have hq:f=3\/f=4\/f=5\/f=6:=Yb
     repeat'((try conv=>whnf);first|refine fF ?_|refine fG ?_|refine fA ?_|apply q6D;exact rfl;all_goals intro hc)
     all_goals first|exfalso;omega|exact .inl ⟨⟨rfl,rfl⟩,(eC)⟩
   ·rw[if_neg (fun h=>aL h.1)]
    repeat'((try conv=>whnf);first|refine fG ?_|refine fA ?_)
    all_goals first|exfalso;omega|exact .inl ⟨⟨rfl,rfl⟩,(eC)⟩
 ·rintro⟨s1,g1,aG⟩ aS ⟨i,S,B,C,G,⟨aT,aI⟩,aP,az⟩;dsimp only at i S B C G aT aI aP az ⊢;rw[az];have aQ:t<g1.S.length:=by
   have h1:=congrArg List.length i.ol;rw[zi] at h1;omega
  obtain⟨hoc0,hoc1⟩:=aP;have aO:=qX (E:= [(b3,j7 #[j4 t,j4 f, .slice aa ad.length ac] 99 (0,0))]) (q:=q) (q18 (c:=c) i aQ aI th.pc 3 aG.oc);rw[B] at aO;have aU:RdE Thr.enc 11 W0 g1.tD g.ta s1.T:=C ▸ (i.t.rd (W0:=W0));have X:=zh F.hph;have J:=F.hph;have aw:=fun(own':Own) [qx own' Kp]=>q7Y (own:=own') (cap:=ph.cap) hF (RdE.up (h.kp ph X)) Yb th.pc
  rw[aC] at aw;have aZ:((e'+1:Nat):Int)=(e':Int)+1:=Yb;have aR:=fun(g2:GP) (h2:g2.ok W0 Kp ps {s1 with O:=s1.O.set t (s1.O.getD t []++ [⟨th.pc,3,aG.oc⟩])})=>q53 (c:=c) h2 G F.hph (e'+1) q
  rw[aZ] at aR
  repeat'((try conv=>whnf);first|refine ldE (k:=9) (v:= j4 aG.oc) (RdE.up aU) G ?_ rfl ?_;omega|apply gLd;refine q0n ay J rfl ?_|(apply qL;first|refine ixE ay J ?_ ?_;(first|rfl|omega))|(apply qe;first|refine qr aO ?_ ?_ ?_ fun g2 v W=>?_;exact(eC);exact rfl;exact rfl;obtain⟨aN,W,hl2⟩:=W;(have aM:g2.gb=g.gb:=by rw[W]);(have ay:=aN.k);rw[<-aM]|refine qr (aR g2 aN) ?_ ?_ ?_ fun g3 v au=>?_;exact(eC);exact rfl;exact rfl)|apply qz;refine qm (fun ex=>aw _) ?_|refine fB ?_|refine fC ?_|refine fA ?_|refine q1k.mk ?_ ?_)
  all_goals exact .inr ⟨(_,g3),⟨rfl,rfl,au.1,GP.ev.of S (by rw[au.2,W]) (by rw[au.2,W]),by rw[au.2]⟩,Ent.refl⟩
end
open Go
theorem qhc{p:jf}{k:Nat}(h:p[k]? =none):stB p (k+1)=stB p k:=by simp only[stB,h]
theorem q7c{p:jf}{k:Nat}(z:stB p k<0):∀d:Nat,stB p (k+d)<0\/∃(b:Nat) (x:Ins),k<=b/\b<k+d/\stB p (k+d)=b/\p[b]? =some x/\x.op=7
 |0=> .inl z
 |d+1=>by
  rw[<-yf];cases B:p[k+d]? with
  |none=>
   rw[qhc B]
   rcases q7c z d with h|⟨b,x,i,E,l⟩
   ·exact .inl h
   ·exact .inr ⟨b,x,i,Yb,l⟩
  |some y=>
   rw[q2d B];unfold q0w
   by_cases u:y.op=7
   ·rw[if_pos u];exact .inr ⟨k+d,y,Yb,Yb,rfl,B,u⟩
   ·rw[if_neg u]
    by_cases C:y.op=8
    ·rw[if_pos C];exact .inl Yc
    ·rw[if_neg C]
     rcases q7c z d with h|⟨b,x,i,E,l⟩
     ·exact .inl h
     ·exact .inr ⟨b,x,i,Yb,l⟩
theorem qap{p:jf}(h:qB p=(0,0)){k:Nat}{x:Ins}(C:p[k]? =some x)(B:stB p k<0)(H:x.op≠7){j:Nat}(I:(j:Int)∈q2V p k x):k<j/\j<=p.length/\stB p j<0:=by
 obtain⟨j',hj',E,z,_,F⟩:=q4w h C _ I;obtain rfl:j=j':=Yb;refine⟨E,z,?_⟩;obtain⟨d,rfl⟩:∃d,j=k+d:=⟨j-k,Yb⟩
 rcases q7c B d with h|⟨b,y,hb1,hb2,u,i,l⟩
 ·exact h
 ·exfalso;have hbk:b≠k:=fun e=>by
   subst e;rw[C] at i;exact H (Option.some.inj i ▸ l)
  rcases F B b y Yb i l with G|G
  ·omega
  ·have hi:=(qcA h z).bb;rw[u] at hi
   rcases hi with hi|⟨_,_,hi⟩
   ·omega
   ·rw[zF] at hi;have:=(q3b (p.drop (k+d)) (k+d)).1;omega
theorem qi1{p:jf}(h:qB p=(0,0)){k:Nat}{x:Ins}(l:p[k]? =some x)(ho:stB p k<0):qH x=0/\((0<=x.op/\x.op<=7)\/x.op=12\/x.op=13\/x.op=16\/x.op=17):=by
 have hi:=q2Z h l;have h18:=(q15 hi.1).1;have h8:x.op≠8:=fun e=>by have:=hi.2.2.1 e;omega
 have i:=hi.2.2.2.2;refine⟨hi.1,?_⟩
 by_cases d:x.op=9\/x.op=10\/x.op=11\/x.op=14\/x.op=15
 ·have:=i d;omega
 ·omega
def qoy(c:Cfg)(e:EvM):Prop:=(0<=e.w/\e.w<c.words)/\(∀x∈e.r,0<=x/\x<c.words)/\(∀x∈e.wl,0<=x/\x<c.words)/\e.r.length<=1000/\e.wl.length<=1000
def EvB(c:Cfg)(E:jj):Prop:=(∀e∈E,qoy c e)/\(E= []\/(∃e,E= [e]/\e.k≠3)\/∃a b,E= [a,b]/\b.k=4/\b.t=a.t/\b.ev=a.ev)
def EvG(c:Cfg)(E:jj):Prop:=(∀e∈E,qoy c e)/\∀(i:Nat) (a:EvM),E[i]? =some a->a.k=3->∃b,E[i+1]? =some b/\b.k=4/\b.t=a.t/\b.ev=a.ev
theorem EvB.nil{c:Cfg}:EvB c []:=⟨fun _ h=>(by cases h), .inl rfl⟩
theorem EvB.len{c:Cfg}{E:jj}(h:EvB c E):E.length<=2:=by
 rcases h.2 with rfl|⟨e,rfl, -⟩|⟨a,b,rfl, -⟩ <;>simp
theorem EvB.pair{c:Cfg}{n t:Int}{r w:jd}(hw:0<c.words)(d:∀x∈r,0<=x/\x<c.words)(i:∀x∈w,0<=x/\x<c.words)(l:r.length<=1000)(u:w.length<=1000):EvB c [⟨n,t,3,0,[],[]⟩,⟨n,t,4,0,r,w⟩]:=by
 refine⟨fun e he=>?_, .inr (.inr ⟨_,_,rfl,rfl,rfl,rfl⟩)⟩
 rcases zX.1 he with rfl|he
 ·exact⟨⟨zK _,hw⟩,fun _ h=>(by cases h),fun _ h=>(by cases h),zl _,zl _⟩
 ·rw[zf.1 he];exact⟨⟨zK _,hw⟩,d,i,l,u⟩
theorem EvG.app{c:Cfg}{E F:jj}(h:EvG c E)(u:EvB c F):EvG c (E++F):=by
 refine⟨fun e he=>(zw.1 he).elim (h.1 e) (u.1 e),fun i a hi l=>?_⟩
 by_cases z:i<E.length
 ·rw[zB z] at hi;obtain⟨b,hb,d⟩:=h.2 i a hi l;exact⟨b,by rw[zB (z7.1 hb).1];exact hb,d⟩
 ·rw[zJ Yb] at hi ⊢;rw[show i+1-E.length=(i-E.length)+1 by omega];generalize i-E.length=j at*
  rcases u.2 with rfl|⟨e,rfl,he⟩|⟨x,y,rfl,d⟩
  ·cases hi
  ·match j,hi with
   |0,hi=>cases hi;exact absurd l he
  ·match j,hi with
   |0,hi=>cases hi;exact⟨y,rfl,d⟩
   |1,hi=>cases hi;rw[d.1] at l;exact absurd l Yc
structure GOk(c:Cfg)(P:List (jf))(s:GS):Prop where
 c0:qI c=0
 pv:∀p∈P,qB p=(0,0)
 dl:(s.d.length:Int)=c.words
 dr:∀x∈s.d,okU x
 kl:s.tk.length=(qh c).toNat
 tl:s.T.length=P.length
 ol:s.O.length=P.length
 th:∀(t:Nat) (th:Thr) (p:jf),s.T[t]? =some th->P[t]? =some p->th.rg.ok/\th.pc<=p.length/\stB p th.pc<0/\th.dn=decide (th.pc=p.length)/\okU th.oc
 el:s.E.length<=2*s.n
 ev:EvG c s.E
 ob:∀l∈s.O,l.length<=70*s.n
theorem GOk.fin{c:Cfg}{P:List (jf)}{s s':GS}(h:GOk c P s){t:Nat}{p:jf}(Q:P[t]? =some p){th':Thr}{l:List ObM}{E:jj}{d:jd}{tk:List Bool}(he:s'=(((s.mem d tk).ev E).fin t th' l))(hd:d.length=s.d.length)(B:∀x∈d,okU x)(F:tk.length=s.tk.length)(G:EvB c E)(hl:l.length<=70)
  (H:th'.rg.ok) (I:th'.pc<=p.length) (J:stB p th'.pc<0) (M:th'.dn=decide (th'.pc=p.length)) (N:okU th'.oc):GOk c P {s' with n:=s.n+1}:=by
 subst he;refine⟨h.c0,h.pv,by show(d.length:Int)=_;rw[hd];exact h.dl,B,by show tk.length=_;rw[F];exact h.kl,by show(s.T.set t th').length=_;rw[zm];exact h.tl,by show(s.O.set t _).length=_;rw[zm];exact h.ol,fun u th q i C=>?_,?_,h.ev.app G,fun l' z=>?_⟩
 ·replace i:(s.T.set t th')[u]? =some th:=i
  rw[zx] at i
  split at i
  ·rename_i e;subst e;rw[Q] at C;obtain rfl:=Option.some.inj C
   split at i
   ·obtain rfl:=Option.some.inj i;exact⟨H,I,J,M,N⟩
   ·cases i
  ·exact h.th u th q i C
 ·have:=h.el;have:=G.len;show(s.E++E).length<=2*(s.n+1);rw[z8];omega
 ·replace z:l'∈s.O.set t (s.O.getD t []++l):=z
  show l'.length<=70*(s.n+1)
  rcases Ze z with z|rfl
  ·have:=h.ob l' z;omega
  ·rw[z8,zg];cases O:s.O[t]? with
   |none=>simp;omega
   |some y=>have:=h.ob y (zh O);simp;omega
theorem q9X{s:GS}:s.ev []=s:=by unfold GS.ev;rw[zC]
theorem q2I{s:GS}:s.mem s.d s.tk=s:=rfl
theorem qi7{c:Cfg}{n t:Nat}{k a:Int}(hw:0<c.words)(u:0<=a)(y:a<c.words)(z:k≠3):EvB c (plE c n t k a):=by
 have i:∀x∈ [a],0<=x/\x<c.words:=fun x l=>by rw[zf.1 l];exact⟨u,y⟩
 have d:∀x∈([]:jd),0<=x/\x<c.words:=fun x l=>by cases l
 unfold plE
 split
 ·split
  ·exact EvB.pair hw i d Yd Yd
  ·exact EvB.pair hw d i Yd Yd
 ·refine⟨fun e he=>?_, .inr (.inl ⟨_,rfl,z⟩)⟩;rw[zf.1 he];exact⟨⟨u,y⟩,d,d,zl _,zl _⟩
theorem qo8{c:Cfg}{P:List (jf)}{s s':GS}(h:GOk c P s){t:Nat}{th:Thr}{p:jf}(Q:s.T[t]? =some th)(M:P[t]? =some p){x:Ins}(S:p[th.pc]? =some x)(U:x.op≠7){f:Int}(i:sgM c p s th t f x=some s'):GOk c P {s' with n:=s.n+1}:=by
 obtain⟨u,hpc,F,hdn,H⟩:=h.th t th p Q M;have R:=h.pv p (zh M);obtain⟨O,hop⟩:=qi1 R S F;have V:=(q15 O).2.2.2.2.1;unfold sgM at i
 by_cases I:x.op=12\/x.op=13
 ·rw[if_pos I] at i;have y:=qap R S F U (j:=th.pc+1) (by unfold q2V;rw[if_neg Yb,if_neg Yb,if_neg Yb];simp);have B:∀(r:Rg) (E:jj) (d:jd) (l:List ObM),s'=(((s.mem d s.tk).ev E).fin t (th.nxt p.length r) l)->r.ok->EvB c E->d.length=s.d.length->(∀x∈d,okU x)->l.length<=70->GOk c P {s' with n:=s.n+1}:=fun r E d l h6 X Y Z G h5=>
   h.fin M h6 Z G rfl Y h5 X y.2.1 y.2.2 rfl H
  have J:0<c.words:=by have:=(qK h.c0).1;unfold okW at this;omega
  have W:=q7l (r:=th.rg) (b:=if x.op=12 then x.b else x.a) (imm:=x.imm);dsimp only at i;generalize adr th.rg (if x.op=12 then x.b else x.a) x.imm=z at*
  split at i
  ·split at i
   ·exact B th.rg [] s.d _ (by rw[q9X,q2I];exact(Option.some.inj i).symm) u EvB.nil rfl h.dr Yd
   ·cases i
  ·split at i
   ·refine B _ [] s.d _ (by rw[q9X,q2I];exact(Option.some.inj i).symm) ?_ EvB.nil rfl h.dr Yd
    split
    ·exact Rg.ok_set u ⟨Yc,Yc⟩
    ·exact u
   ·split at i
    ·exact B _ _ s.d _ (by rw[q2I];exact(Option.some.inj i).symm) (Rg.ok_set u (qcZ h.dr _)) (qi7 J W.1 Yb Yc) rfl h.dr Yd
    ·exact B _ _ _ _ (Option.some.inj i).symm u (qi7 J W.1 Yb Yc) (zm ..) (q41 h.dr (u _)) Yd
 ·rw[if_neg I] at i
  split at i
  ·cases i
  ·have N:((q1B th x:Nat):Int)∈q2V p th.pc x:=by
    unfold q1B q2V
    by_cases G:x.op=4
    ·rw[if_pos G,if_pos (Or.inl G),zf];have:=V (.inl G);omega
    ·rw[if_neg G]
     by_cases C:x.op=5\/x.op=6
     ·rw[if_pos C];have:=V (.inr C)
      split
      ·simp;omega
      ·simp
     ·rw[if_neg C,if_neg Yb,if_neg Yb];simp
   have y:=qap R S F U N;refine h.fin (th':={q1r th x with dn:=decide ((q1r th x).pc=p.length)}) (l:=if x.op=16 then [⟨th.pc,6,0⟩] else []) (E:= []) (d:=s.d) (tk:=s.tk) M (by rw[q9X,q2I];exact(Option.some.inj i).symm) rfl h.dr rfl EvB.nil ?_ (q91 u) y.2.1 y.2.2 rfl H
   split <;>simp
theorem qol{c:Cfg}{P:List (jf)}{s s':GS}(h:GOk c P s){t:Nat}{th:Thr}{p:jf}(J:s.T[t]? =some th)(C:P[t]? =some p){x:Ins}(O:p[th.pc]? =some x)(N:x.op=7){f:Int}{ad:jd}(H:∀a∈ad,a<=9223372036854775807)(u:txM c p s th t f ad=some s'):GOk c P {s' with n:=s.n+1}:=by
 obtain⟨B,hpc,hst,hdn,hoc⟩:=h.th t th p J C;have M:=h.pv p (zh C);obtain⟨e,he,I,hel,_,hse,_⟩:=q0v M O N;unfold txM at u;rw[he] at u
 split at u
 ·split at u
  ·rename_i hf;exact h.fin (th':=⟨e+1,th.rg,f,decide (e+1=p.length)⟩) (l:= [⟨th.pc,3,f⟩]) (E:= []) (d:=s.d) (tk:=s.tk) C (by rw[q9X,q2I];exact(Option.some.inj u).symm) rfl h.dr rfl EvB.nil Yd B (by simp only;omega) (by simp only;omega) rfl ⟨by simp only;omega,by simp only;omega⟩
  ·cases u
 ·have G:BI c ⟨s.d,s.tk,{th with pc:=th.pc+1},[],[],[],ad⟩:=⟨h.dl,h.dr,h.kl,B,zl _,zl _,zl _,fun _ h=>(by cases h),fun _ h=>(by cases h),H⟩
  have y:=qdK M O N (c:=c) p.length ⟨s.d,s.tk,{th with pc:=th.pc+1},[],[],[],ad⟩ (Zs _) (by rw[he];exact I) G;generalize q4k c p p.length ⟨s.d,s.tk,{th with pc:=th.pc+1},[],[],[],ad⟩=z at*;obtain⟨S,Q⟩:=z;dsimp only at u y
  split at u
  ·cases u
  ·rename_i R;obtain⟨i,⟨hz0,hz1⟩,hpce⟩:=y (fun e=>R (.inl e));have hpl:=q7t M;have h1:=i.ol;have F:0<c.words:=by have:=(qK h.c0).1;unfold okW at this;omega
   have h2:=i.rl;have h3:=i.wl
   split at u
   ·exact h.fin C (Option.some.inj u).symm (by have:=h.dl;have:=i.dl;omega) i.dr (by rw[i.tl,h.kl]) (EvB.pair F i.rr i.wr Yb Yb) (by simp;omega) i.rg (by simp only;omega) (by simp only;omega) rfl (show okU 1 from ⟨Yc,Yc⟩)
   ·exact h.fin (th':=⟨e+1,th.rg,Q,decide (e+1=p.length)⟩) (l:= [⟨th.pc,3,Q⟩]) (E:= [⟨s.n,t,3,0,[],[]⟩,⟨s.n,t,4,0,S.r,[]⟩]) (d:=s.d) (tk:=s.tk) C (by rw[q2I];exact(Option.some.inj u).symm) rfl h.dr rfl (EvB.pair F i.rr (fun _ h=>(by cases h)) Yb (zl _)) Yd B (by simp only;omega) (by simp only;omega) rfl ⟨by simp only;omega,by simp only;omega⟩
theorem qnG{c:Cfg}{P:List (jf)}{s:GS}(h:GOk c P s){ch:ChM}(l:∀a∈ch.ad,a<=9223372036854775807):GOk c P (doM c P s ch).2:=by
 unfold doM;cases d:chM c P s ch with
 |none=>exact h
 |some s'=>
  unfold chM at d
  split at d
  ·cases d
  ·split at d
   ·rename_i th p i u
    split at d
    ·cases d
    ·split at d
     ·rename_i x y
      split at d
      ·exact qol h i u y (by assumption) l d
      ·split at d
       ·exact qo8 h i u y (by assumption) d
       ·cases d
     ·cases d
   ·cases d
section
variable{W0:World}{Kp K:Own}{g:GP}{c:Cfg}{ps:ji}{s:GS}
theorem qek(h:g.ok W0 Kp ps s){t:Nat}{th:Thr}{ph:PH}{x:Ins}(d:s.T[t]? =some th)(l:ps[t]? =some ph)(y:th.dn=false)(z:ph.p[th.pc]? =some x)(q:Own) [ek:qx q Kp]:
  jl W0 59 [jn g.gb,j4 t] (g.O c ps.length s++q) (.tuple #[x.v, .bool true]):=by
 refine qi (sH (jo 17 3 [38,39,0]) ?_);have i:=h.t.rd (W0:=W0);have B:=h.k;have u:=h.kp ph (zh l);have htl:=(z7.1 d).1;obtain⟨pc,rg,oc,dn⟩:=th;dsimp only at y z;subst y
 repeat'((try conv=>whnf);first|refine fH ?_|refine fD ?_|refine fK ?_|(apply gLd;first|refine q0n i d rfl ?_|refine qm6 i d rfl ?_|refine q0n B l rfl ?_)|(apply qL;first|refine ixE i d ?_ ?_;(first|rfl|omega)|refine ixE B l ?_ ?_;(first|rfl|omega)|refine ixE u z ?_ ?_;(first|rfl|omega))|apply q27;refine q0O u z rfl ?_|refine fA ?_|refine fL ?_|refine fM ?_|refine qg fun bk hbk=>?_)
 all_goals exact⟨rfl,(eC)⟩
theorem qej(h:g.ok W0 Kp ps s){t:Int}(y:t<0\/(s.T.length:Int)<=t\/∃(j:Nat) (th:Thr),t=j/\s.T[j]? =some th/\th.dn=true)(q:Own):
  jl W0 59 [jn g.gb,j4 t] (g.O c ps.length s++q) (.tuple #[(⟨0,0,0,0,0⟩:Ins).v, .bool false]):=by
 refine qi (sH (jo 17 3 [38,39,0]) ?_);have i:=h.t.rd (W0:=W0)
 rcases y with y|y|⟨j,th,rfl,d,u⟩
 ·repeat'((try conv=>whnf);first|refine fH ?_|refine fI ?_|refine fE ?_|refine fJ ?_|refine fL ?_|refine fM ?_|refine qg fun z l=>?_)
  all_goals exact⟨rfl,(eC)⟩
 ·by_cases h0:t<0
  all_goals
   repeat'((try conv=>whnf);first|refine fH ?_|refine fI ?_|refine fE ?_|refine fJ ?_|refine fK ?_|refine fA ?_|refine fL ?_|refine fM ?_|refine qg fun z l=>?_)
   all_goals exact⟨rfl,(eC)⟩
 ·have htl:=(z7.1 d).1;obtain⟨pc,rg,oc,dn⟩:=th;dsimp only at u;subst u
  repeat'((try conv=>whnf);first|refine fH ?_|refine fE ?_|refine fK ?_|apply gLd;refine qm6 i d rfl ?_|(apply qL;first|refine ixE i d ?_ ?_;(first|rfl|omega))|refine fA ?_|refine fL ?_|refine fM ?_|refine qg fun z l=>?_)
  all_goals exact⟨rfl,(eC)⟩
theorem qoU{p:jf}{th:Thr}{t:Nat}{f:Int}{ad:jd}{s':GS}(h:txM c p s th t f ad=some s'):s'.n=s.n:=by
 unfold txM at h
 split at h
 ·split at h
  ·rw[<-Option.some.inj h];rfl
  ·cases h
 ·split at h
  split at h
  ·cases h
  ·split at h <;>(rw[<-Option.some.inj h];rfl)
theorem qoQ{p:jf}{th:Thr}{t:Nat}{f:Int}{x:Ins}{s':GS}(h:sgM c p s th t f x=some s'):s'.n=s.n:=by
 unfold sgM at h
 split at h
 ·generalize adr th.rg (if x.op=12 then x.b else x.a) x.imm=z at h;dsimp only at h
  split at h
  ·split at h
   ·rw[<-Option.some.inj h];rfl
   ·cases h
  ·split at h
   ·rw[<-Option.some.inj h];rfl
   ·split at h <;>(rw[<-Option.some.inj h];rfl)
 ·split at h
  ·cases h
  ·rw[<-Option.some.inj h];rfl
theorem qmm{t:Nat}{ph:PH}(h:ps[t]? =some ph):(ps.map PH.p)[t]? =some ph.p:=by rw[zI,h];rfl
theorem qoh(hF:qE W0)(h:g.ok W0 Kp ps s)(y:g.ev W0)(z:GOk c (ps.map PH.p) s)(hn:s.n<=5000)(t f:Int){aa:j8}{ad:jd}{ac:Nat}(hA:RdE qw 1 W0 K aa ad)(ae:ad.length<=ac)(Z:∀a∈ad,a<=9223372036854775807)(q:Own) [ek:qx q Kp] [ek2:qx q K]:
  jk W0 30 [jn g.gb,chV t f aa ad.length ac] (g.O c ps.length s++q) fun v own'=>∃g':GP,
   (v= j4 (doM c (ps.map PH.p) s ⟨t,f,ad⟩).1/\g'.ok W0 Kp ps (doM c (ps.map PH.p) s ⟨t,f,ad⟩).2/\g'.ev W0/\g'.gb=g.gb)/\Ent W0 own' (g'.O c ps.length (doM c (ps.map PH.p) s ⟨t,f,ad⟩).2++q):=by
 refine sH [] ?_
 by_cases R:t<0\/(s.T.length:Int)<=t\/∃(j:Nat) (th:Thr),t=j/\s.T[j]? =some th/\th.dn=true
 ·have hd:doM c (ps.map PH.p) s ⟨t,f,ad⟩=(70,s):=by
   unfold doM chM
   rcases R with R|R|⟨j,th,rfl,i,F⟩
   ·rw[if_pos R]
   ·by_cases h0:t<0
    ·rw[if_pos h0]
    ·rw[if_neg h0,zR (by show s.T.length<=t.toNat;omega)]
   ·rw[if_neg (by show ¬((j:Nat):Int)<0;omega)];simp only[zF,i];cases hp:(ps.map PH.p)[j]? with
    |none=>rfl
    |some p=>simp only[F,if_true]
  rw[hd];have E:=qej (c:=c) h R
  repeat'((try conv=>whnf);first|refine fE ?_|refine fD ?_|apply qe;refine qp (q1U (E _)) ?_|refine fO ?_|refine fA ?_|refine fM ?_|refine qg fun X H=>?_)
  all_goals exact⟨g,⟨rfl,h,y,rfl⟩,(eC)⟩
 ·have ay:0<=t/\t<s.T.length:=⟨Yb,Yb⟩
  obtain⟨j,rfl⟩:=Zb ay.1;have aj:j<s.T.length:=Yb;obtain⟨th,i⟩:∃th,s.T[j]? =some th:=⟨_,z6 aj⟩
  have az:=z.tl;rw[zi] at az;obtain⟨ph,J⟩:∃ph,ps[j]? =some ph:=⟨_,z6 Yb⟩
  have M:=qmm J;have N:=z.pv ph.p (zh M);obtain⟨au,hpc,aw,F,hoc⟩:=z.th j th ph.p i M;have I:th.dn=false:=by
   cases hd:th.dn with
   |false=>rfl
   |true=>exact absurd (.inr (.inr ⟨j,th,rfl,i,hd⟩)) R
  have G:th.pc<ph.p.length:=by
   rw[I] at F;have:=of_decide_eq_false F.symm;omega
  obtain⟨x,W⟩:∃x,ph.p[th.pc]? =some x:=⟨_,z6 G⟩
  have E:=qek (c:=c) h i J I W;have aq:=q7t N;have aA:=qi1 N W aw;have hT:qn9 c ps s j th ph:=⟨i,J,z.c0,au,z.dl,z.dr,by rw[z.ol,z.tl],fun l hl=>by have:=z.ob l hl;omega,by have:=z.el;omega⟩
  have hd:doM c (ps.map PH.p) s ⟨j,f,ad⟩=match (if x.op=7 then txM c ph.p s th j f ad else if ad= [] then sgM c ph.p s th j f x else none) with
   |some s'=>(0,{s' with n:=s.n+1})
   |none=>(70,s):=by
   unfold doM chM;rw[if_neg (by show ¬((j:Nat):Int)<0;omega)];simp only[zF,i,M,I,zV,if_false,W];cases (if x.op=7 then txM c ph.p s th j f ad else if ad= [] then sgM c ph.p s th j f x else none) <;>rfl
  rw[hd];clear hd;have C:∀s':GS,(if x.op=7 then txM c ph.p s th j f ad else if ad= [] then sgM c ph.p s th j f x else none)=some s'->s'.n=s.n:=fun s' e=>by
   split at e
   ·exact qoU e
   ·split at e
    ·exact qoQ e
    ·cases e
  by_cases V:x.op=7
  ·rw[if_pos V] at C ⊢;have af:=qgj (c:=c) hF hT h y N W V z.kl f hA ae Z q;generalize txM c ph.p s th j f ad=o at*;obtain⟨op,a,b',c',imm⟩:=x;dsimp only[Ins.v] at*;subst V
   repeat'((try conv=>whnf);first|refine fE ?_|refine fD ?_|(apply qe;first|refine qp (q1U (E _)) ?_|refine q2n af ?_ ?_ ?_ (fun v y=>?_) fun s' v y=>?_;exact(eC);exact rfl;exact rfl;obtain⟨rfl,Q⟩:=y;rotate_left;obtain⟨rfl,U,d,O,B⟩:=y;(have S:=C _ U);subst U;rw[<-B])|refine fB ?_|refine fO ?_|refine fA ?_|refine fL ?_|refine fN ?_|refine fM ?_|refine qg fun X H=>?_)
   ·have Y:((s.n+1:Nat):Int)=(s'.1.n:Int)+1:=Yb;refine⟨s'.2,⟨rfl,⟨d.d,d.m,d.k,d.kp,d.t,d.e,d.em,d.o,d.os,d.ol⟩,O,rfl⟩,?_⟩;dsimp only[GP.O,GP.cells];rw[Y];exact(eC)
   ·subst Q;exact⟨g,⟨rfl,h,y,rfl⟩,(eC)⟩
  ·rw[if_neg V] at C ⊢
   by_cases u:ad= []
   ·rw[if_pos u] at C ⊢;have hl:(ad.length:Int)=0:=by rw[u];rfl
    have av:=qey (c:=c) hT h y aA.1 ⟨G,aq⟩ f aa ad.length ac q;generalize sgM c ph.p s th j f x=o at*;obtain⟨op,a,b',c',imm⟩:=x;dsimp only[Ins.v] at*
    repeat'((try conv=>whnf);first|refine fH ?_|refine fE ?_|refine fD ?_|refine fG ?_|refine fJ ?_|(apply qe;first|refine qp (q1U (E _)) ?_|refine q2n av ?_ ?_ ?_ (fun v y=>?_) fun s' v y=>?_;exact(eC);exact rfl;exact rfl;obtain⟨rfl,Q⟩:=y;rotate_left;obtain⟨rfl,U,d,O,B⟩:=y;(have S:=C _ U);subst U;rw[<-B])|refine fB ?_|refine fO ?_|refine fA ?_|refine fL ?_|refine fN ?_|refine fM ?_|refine qg fun X H=>?_)
    ·have Y:((s.n+1:Nat):Int)=(s'.1.n:Int)+1:=Yb;refine⟨s'.2,⟨rfl,⟨d.d,d.m,d.k,d.kp,d.t,d.e,d.em,d.o,d.os,d.ol⟩,O,rfl⟩,?_⟩;dsimp only[GP.O,GP.cells];rw[Y];exact(eC)
    ·subst Q;exact⟨g,⟨rfl,h,y,rfl⟩,(eC)⟩
   ·rw[if_neg u];have hl:¬(ad.length:Int)=0:=fun e=>u (Zt Yb)
    obtain⟨op,a,b',c',imm⟩:=x;dsimp only[Ins.v] at*
    repeat'((try conv=>whnf);first|refine fI ?_|refine fE ?_|refine fD ?_|refine fG ?_|refine fK ?_|apply qe;refine qp (q1U (E _)) ?_|refine fO ?_|refine fA ?_|refine fM ?_|refine qg fun X H=>?_)
    exact⟨g,⟨rfl,h,y,rfl⟩,(eC)⟩
end
end Go.Proofs.YtfnghamklcdgnaaGreatDoor
