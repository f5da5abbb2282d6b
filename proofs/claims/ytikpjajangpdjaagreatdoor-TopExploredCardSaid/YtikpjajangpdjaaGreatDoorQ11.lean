/- What the laws share, part 11. No condition. -/
import Derived.Test.YtikpjajangpdjaaGreatDoorChecked
import Derived.Shelf.SlMaps.Clone
import Derived.Test.YtikpjajangpdjaaGreatDoorQ10
set_option maxHeartbeats 16000000
set_option maxRecDepth 10000
namespace Go.Proofs.YtikpjajangpdjaaGreatDoor
open Go
abbrev jp(b:Nat):Value:= .pointer (some ⟨b,0,none⟩)
abbrev jk:=List PH
set_option maxHeartbeats 2000000 in
theorem qa8(b:Nat)(es:Array MapEntry)(clock:Nat)(w:World)(hb:w.heap[b]? =some (.map es clock)):
  Calls Tryz.prog 71 #[.map (some b)] w fun e d=>e= .returned (.map (some w.heap.size))/\d=w.alloc (.map es clock):=by
 have hq:=fun w=>run_eql_map_nil_sl (P:=Tryz.prog) w 111 _ _ (some b) Tryz.underlying111
 go_enter Tryz.func71,Tryz.ntmps71
 go_wp2
 rw[run_callFunc_extern Tryz.func104 (by kernel_rfl) (by kernel_rfl) (by kernel_rfl) (e:=Extern.MapsClone.clone) (by kernel_rfl),run_maps_clone_sl w 111 hb];simp only[Result.andThen];rw[Oper.upon_value]
 go_wp2
 rw[run_typeAssert_map_sl _ 111 20 _ _ _ Tryz.underlying111];simp only[Result.andThen];rw[Oper.upon_value]
 go_wp2
 go_ret
 exact⟨rfl,rfl⟩
section
variable{W0:World}{own:Own}
theorem qgz{b:Nat}{l:List (Value×Value)} [m:qy b (q3r l) own]:
  jn W0 71 [.map (some b)] own fun v own'=>∃n:Nat,v= .map (some n)/\Ent W0 own' ((n,q3r l)::own):=by
 intro w hw;obtain⟨o,y,es,clock,rfl,u⟩:=hw.owns _ m.h;refine(qa8 b es clock w y).mono fun e w' ⟨he,d⟩=>?_
 subst d;exact⟨_,(w.heap.size,q3r l)::own,he,hw.push (.map es clock) ⟨es,clock,rfl,u⟩,w.heap.size,rfl,Ent.refl⟩
end
open Go
class q03(D own:Own)(r:outParam Own):Prop where
 h:own.Perm (D++r)
section
variable{D A r r':Own}{e:jd}
instance q03.self:q03 D D []:=⟨Yw⟩
instance q03.left [m:q03 D A r']:q03 D (A++r) (r'++r):=⟨(m.h.append_right r).trans (by rw[zd])⟩
instance q03.skip [m:q03 D r r']:q03 D (A++r) (A++r'):=⟨(m.h.append_left A).trans (by rw[<-zd,<-zd];exact Zh.append_right r')⟩
instance q03.tail [m:q03 D r r']:q03 D (e::r) (e::r'):=⟨(m.h.cons e).trans Zf.symm⟩
instance q03.one:q03 [e] (e::r) r:=⟨List.Perm.refl _⟩
end
instance AtC.self{D:Own}:AtC D D (fun X=>X):=⟨by have:=At.head (D:=D) (r:= []);simpa using this⟩
section
variable{P:Program}{W0:World}{own D r:Own}{k k0:FuncId}{args args0:jf}
theorem q4q{σ:Type}{R:σ->Value->Prop}{O:σ->Own}{K:Value->Own->Prop} [m:q03 D own r](h:qq P W0 k0 args0 (D++r) fun v own'=>∃s,R s v/\Ent W0 own' (O s++r))(d:k=k0)(ea:args=args0)(u:∀s v,R s v->K v (O s++r)):q0k P W0 own k args K:=by
 subst d;subst ea;exact⟨fun w hw=>(h w (Ent.of_perm m.h w hw)).mono fun _ _ ⟨_,_,he,y,s,n,l⟩=>⟨_,O s++r,he,l _ y,u s _ n⟩⟩
theorem q5a{σ:Type}{R:σ->Value->Prop}{O:σ->Own}{K:Value->Own->Prop} [m:q03 D own r](h:qq P W0 k0 args0 (D++r) fun v own'=>∃s,R s v/\Ent W0 own' (O s++r))(l:∀s v,R s v->K v (O s++r))(d:k=k0:=by exact rfl)(ea:args=args0:=by exact rfl):q0k P W0 own k args K:=q4q h d ea l
theorem ql{σ:Type}{R:σ->Value->Prop}{O:σ->Own}{d:Own}{K:Value->Own->Prop}(h:qq P W0 k0 args0 d fun v own'=>∃s,R s v/\Ent W0 own' (O s))(he:Ent W0 own d)(l:k=k0)(ea:args=args0)(y:∀s v,R s v->K v (O s)):q0k P W0 own k args K:=by
 subst l;subst ea;exact⟨fun w hw=>(h w (he w hw)).mono fun _ _ ⟨_,_,he,z,s,u,n⟩=>⟨_,O s,he,n _ z,y s _ u⟩⟩
theorem q2j{σ:Type}{Rn:Value->Prop}{l:Own}{R:σ->Value->Prop}{O:σ->Own}{d:Own}{K:Value->Own->Prop}(h:qq P W0 k0 args0 d fun v own'=>(Rn v/\Ent W0 own' l)\/∃s,R s v/\Ent W0 own' (O s))(he:Ent W0 own d)(z:k=k0)(ea:args=args0)(E:∀v,Rn v->K v l)(C:∀s v,R s v->K v (O s)):q0k P W0 own k args K:=by
 subst z;subst ea;refine⟨fun w hw=>(h w (he w hw)).mono fun _ _ ⟨_,_,he,y,h⟩=>?_⟩
 rcases h with ⟨u,n⟩|⟨s,u,n⟩
 ·exact⟨_,l,he,n _ y,E _ u⟩
 ·exact⟨_,O s,he,n _ y,C s _ u⟩
theorem q22{v:Value} [m:q03 D own r](h:qA P W0 k args (D++r) v):qA P W0 k args own v:=
 fun w hw=>(h w (Ent.of_perm m.h w hw)).mono fun _ _ ⟨he,d⟩=>⟨he,Ent.of_perm m.h.symm _ d⟩
end
abbrev Mp:=List (Int×Bool)
abbrev mpV(l:Mp):List (Value×Value):=l.map fun e=>(j5 e.1, .bool e.2)
def mpF:Mp->Int->Option Bool
 | [],_=>none
 |e::l,k=>if k=e.1 then some e.2 else mpF l k
def mpR(l:Mp)(tk:List Bool):Prop:=∀k:Nat,(mpF l k).getD false=tk.getD k false
abbrev cfL(c:Cfg)(r:jf):jf:= j5 c.words:: j5 c.orecs:: j5 c.base:: j5 c.c0:: j5 c.c1:: j5 c.c2:: j5 c.c3:: j5 c.reads:: j5 c.writes:: j5 c.allocs:: j5 c.frees:: j5 c.clock:: .bool c.strong::r
structure TxG where
 xb:Nat
 mb:Nat
 ml:Mp
 da:j9
 dc:Nat
 dD:Own
 aa:j9
 ac:Nat
 ra:j9
 rc:Nat
 rD:Own
 wa:j9
 wc:Nat
 wD:Own
 oa:j9
 oc:Nat
 oD:Own
abbrev TxG.pre(g:TxG)(c:Cfg)(b:BM):jf:= .slice g.da b.d.length g.dc:: .map (some g.mb)::cfL c []
abbrev TxG.post(g:TxG)(b:BM)(out:Int):jf:= [.slice g.aa b.ad.length g.ac, .slice g.ra b.r.length g.rc, .slice g.wa b.w.length g.wc, .slice g.oa b.o.length g.oc,j5 out]
abbrev TxG.O(g:TxG)(c:Cfg)(b:BM)(out:Int):Own:=thB g.xb 165 (g.pre c b) (g.post b out) b.t::(g.dD++((g.mb,q3r (mpV g.ml))::(g.rD++(g.wD++g.oD))))
structure TxG.ok(g:TxG)(W0:World)(K:Own)(b:BM):Prop where
 d:qo q05 72 1 g.da g.dc b.d g.dD
 m:mpR g.ml b.tk
 a:RdE qv 1 W0 K g.aa b.ad
 al:b.ad.length<=g.ac
 r:qo qv 3 1 g.ra g.rc b.r g.rD
 w:qo qv 3 1 g.wa g.wc b.w g.wD
 o:qo ObM.enc 94 3 g.oa g.oc b.o g.oD
section
variable{W0:World}{K:Own}{g:TxG}{c:Cfg}{b:BM}{out:Int}
theorem qgq(h:g.ok W0 K b)(hl:b.o.length<=1000000){r:Int}(hr:0<=r/\r<8)(k v:Int)(q:Own):
  jn W0 184 [jp g.xb,j5 r,j5 k,j6 v] (g.O c b out++q) fun _ own'=>∃g':TxG,
   (g'.ok W0 K {b with t:={b.t with rg:=b.t.rg.set r.toNat v},o:=b.o++ [⟨b.t.pc,k,v⟩]}/\g'.xb=g.xb)/\Ent W0 own' (g'.O c {b with t:={b.t with rg:=b.t.rg.set r.toNat v},o:=b.o++ [⟨b.t.pc,k,v⟩]} out++q):=by
 refine sH (jq 13 3 [30,32,33,35,38,0]) ?_;have n:=h.o;have l:r.toNat<8:=Yu
 repeat'((try conv=>whnf);first|refine q9L (t:=b.t) (pre:=g.pre c b) (post:=g.post b out) l ?_ ?_;simp;omega|apply q0z (enc:=ObM.enc) (T:=94) ⟨b.t.pc,k,v⟩ n;exact rfl;exact rfl;omega;exact rfl;exact rfl;omega;intro a1 c1 D1 d|refine fP ?_|refine fA ?_|refine fN ?_|refine qf fun bk hbk=>?_)
 refine⟨{g with oa:=a1,oc:=c1,oD:=D1},⟨⟨h.d,h.m,h.a,h.al,h.r,h.w,d⟩,rfl⟩,?_⟩;dsimp only[TxG.O,TxG.pre,TxG.post];simp only[z8,zm,zE,zA];exact(eC)
theorem qjS(h:g.ok W0 K b){a:Nat}(F:a<b.d.length)(hl:b.w.length<=1000000)(v:Int)(q:Own):
  jn W0 183 [jp g.xb,j5 a,j6 v] (g.O c b out++q) fun _ own'=>∃g':TxG,
   (g'.ok W0 K (wrM b a v)/\g'.xb=g.xb)/\Ent W0 own' (g'.O c (wrM b a v) out++q):=by
 refine sH [] ?_;have u:=h.d;have l:=u.rd (W0:=W0);have y:=h.w;obtain⟨x,n⟩:∃x,b.d[a]? =some x:=⟨_,z6 F⟩
 have C:=fun(own':Own) [qr own' g.wD]=>q0B (own:=own') (cap:=g.wc) ((y.rd (W0:=W0)).up) Yu a
 by_cases hm:(a:Int)∈b.w
 ·repeat'((try conv=>whnf);first|apply qen;exact rfl;omega|apply q4b (enc:=q05) (T:=72) (j:=a) (k:=0) v u n;exact rfl;omega;exact rfl;exact rfl;intro D1 d|(apply qF;first|refine ixE l n ?_ ?_;(first|rfl|omega))|apply qe;refine qd (C _) ?_|refine fA ?_)
  refine⟨{g with dD:=D1},⟨⟨d,h.m,h.a,h.al,h.r,?_,h.o⟩,rfl⟩,?_⟩
  ·show qo _ _ _ _ _ (q1Y b.w a) _;rw[q1Y,if_pos hm];exact y
  ·dsimp only[TxG.O,TxG.pre,TxG.post,wrM];rw[q1Y,if_pos hm,zn];exact(eC)
 ·repeat'((try conv=>whnf);first|apply qem;exact rfl;omega|apply q4b (enc:=q05) (T:=72) (j:=a) (k:=0) v u n;exact rfl;omega;exact rfl;exact rfl;intro D1 d|apply q0z (enc:=qv) (T:=3) (a:Int) y;exact rfl;exact rfl;omega;exact rfl;exact rfl;omega;intro a2 c2 E z|(apply qF;first|refine ixE l n ?_ ?_;(first|rfl|omega))|apply qe;refine qd (C _) ?_|refine fA ?_|refine fN ?_|refine qf fun bk hbk=>?_)
  refine⟨{g with dD:=D1,wa:=a2,wc:=c2,wD:=E},⟨⟨d,h.m,h.a,h.al,h.r,?_,h.o⟩,rfl⟩,?_⟩
  ·show qo _ _ _ _ _ (q1Y b.w a) _;rw[q1Y,if_neg hm];exact z
  ·dsimp only[TxG.O,TxG.pre,TxG.post,wrM];rw[q1Y,if_neg hm,zn];simp only[z8,zm,zE,zA];exact(eC)
end
open Go
noncomputable def qrL:DecidableEq (jd):=fun _ _=>Classical.propDecidable _
noncomputable def cnt(a:jd)(l:Own):Nat:= @List.count _ (@instBEqOfDecidableEq _ qrL) a l
noncomputable def onE(a b:jd):Nat:=cnt a [b]
theorem q1s{a:jd}{l m:Own}:cnt a (l++m)=cnt a l+cnt a m:=by
 letI:=qrL
 exact List.count_append
theorem q5B{a:jd}:cnt a []=0:=rfl
theorem q3R{a b:jd}{l:Own}:cnt a (b::l)=onE a b+cnt a l:=by
 have:=q1s (a:=a) (l:= [b]) (m:=l);exact this
theorem qiI{l m:Own}(h:∀a,cnt a l=cnt a m):l.Perm m:=by
 letI:=qrL
 exact List.perm_iff_count.2 h
theorem qu{W0:World}{own own':Own}(d:Own)(h:∀a,cnt a own=cnt a own'+cnt a d:=by intro a;simp only[q1s,q3R,q5B];omega):Ent W0 own own':=
 (Ent.of_perm (qiI (m:=own'++d) fun a=>by rw[q1s];exact h a)).trans Ent.left
abbrev uv(x:Int):Value:= j6 x
structure MH where
 mb:Nat
 mp:Nat
 b:Nat->Nat
 r:Nat->jf
 n:Nat->Nat
 ml:List (Value×Value)
def MH.e(h:MH)(L:List (je))(j:Nat):jd:=(h.b j,j8 ((L.getD j []).map uv++h.r j).toArray 72)
abbrev MH.D(h:MH)(L:List (je)):Own:=(List.range 8).map (h.e L)
def MH.OL(h:MH)(L:List (je)):Own:=(h.mb,j8 #[.map (some h.mp)] 184)::((h.mp,q3r h.ml)::h.D L)
structure MH.ok(h:MH)(L:List (je)):Prop where
 fd:∀k:Nat,k<8->q2F 0 (j5 ((k:Int)+1)) h.ml=some (some (.slice (some ⟨h.b k,0,none⟩) (h.n k) (h.n k+(h.r k).length)))
 ln:∀k:Nat,k<8->(L.getD k []).length=h.n k
 l8:L.length=8
 bd:∀k:Nat,k<8->h.n k<=1000000
theorem Lis.refl:∀l:jf,Lis l l
 | []=> .nil
 |_::l=> .cons (Lis.refl l)
theorem q9k:∀(l:jf) (j:Nat) (v:Value),j<l.length->q1b l j v (l.set j v)
 | [],j,v,h=>by simp at h
 |a::l,0,v,_=> .here (Lis.refl l)
 |a::l,j+1,v,h=> .there (q9k l j v (by simpa using h))
theorem At.upd{b:Nat}{p q:Obj->Prop}{D l own:Own}{C:Own->Own}(h:At D own C)(hu:Up b p q D l):Up b p q own (C l):=by
 induction h with
 |head=>exact hu.appl
 |tail _ d=>exact Up.tail d
 | @skip A _ _ _ d=>exact d.app A
theorem qlb{α:Type}(f g:α->jd){x:α}{b:Nat}{p q:Obj->Prop}:∀(l:List α),x∈l->l.Nodup->f x=(b,p)->g x=(b,q)->(∀y,y≠x->g y=f y)->Up b p q (l.map f) (l.map g)
 | [],h,_,_,_,_=>by cases h
 |y::l,h,n,C,E,d=>by
  rw[yt] at n
  by_cases u:y=x
  ·subst u;rw[zF,zF,C,E,show l.map g=l.map f from yO fun z F=>d z fun e=>n.1 (e ▸ F)];exact Up.head
  ·rw[zF,zF,d y u];exact Up.tail (qlb f g l ((zN.1 h).resolve_left fun e=>u e.symm) n.2 C E d)
theorem qpX{own:Own}{d b:Nat}{key:Value}{l:List (Value×Value)}{r:Option Value}{K:Option Value->Prop} [m:qy b (q3r l) own](n:q2F d key l=some r)(u:K r):qss own d b key K:=⟨l,r,m.h,n,u⟩
section
variable{W0:World}{own:Own}{h:MH}{L:List (je)}{k j:Nat}
theorem q8p{L:List (je)}{l:je}{k i:Nat}(n:k<L.length):(L.set k l).getD i []=if i=k then l else L.getD i []:=by
 rw[zh,zh,zx]
 by_cases e:k=i
 ·subst e;simp[n]
 ·rw[if_neg e,if_neg (fun d=>e d.symm)]
theorem qmK{x:Int}{K:Value->Prop} [m:qr own (h.D L)](u:k<8)(l:(L.getD k [])[j]? =some x)(n:K (uv x)):Ld W0 own ⟨h.b k,0+j*1,none⟩ K:=by
 refine qpS ((q0O (v:=uv x) (zM.2 ⟨k,Z9.2 u,rfl⟩) ?_).ent (m.h W0)) n;have d:=(z7.1 l).1;rw[zU,zA,yG,zG (by simpa using d),zI,l];rfl
theorem qsm{x:Int}{K:Own->Prop}{C:Own->Own} [m:AtC (h.D L) own C](n:k<8)(hl:L.length=8)(l:j<(L.getD k []).length)(d:K (C (h.D (L.set k ((L.getD k []).set j x))))):StT W0 own ⟨h.b k,0+j*1,none⟩ (uv x) K:=by
 have hu:Up (h.b k) (j8 ((L.getD k []).map uv++h.r k).toArray 72) (j8 (((L.getD k []).map uv++h.r k).set j (uv x)).toArray 72) (h.D L) (h.D (L.set k ((L.getD k []).set j x))):=by
  refine qlb _ _ _ (Z9.2 n) List.nodup_range rfl ?_ fun y u=>?_
  ·unfold MH.e;rw[q8p Yu,if_pos rfl,Y9 _ _ (by simpa using l),Yn]
  ·unfold MH.e;rw[q8p Yu,if_neg u]
 rw[zA,yG];exact q9K (m.h.upd hu) (by rw[zU];exact q9k _ _ _ (by rw[z8,zi];omega)) rfl d
theorem qdy{x v kd:Int}{dn:Bool}{g:FuncId}{caps:jf}(l:h.ok L)(d:k<8)(C:(L.getD k [])[j]? =some x)(y:okF Tryz.prog g=true)(Q:Own)(F:∀(own':Own) [qr own' Q],jo W0 g (uv x::caps) own' (.tuple #[uv v, .bool dn])):
  jn W0 251 [jp h.mb,j5 kd,j5 ((k:Int)+1),j5 j, .func (.func g) #[] caps.toArray] (h.OL L++Q) fun r own'=>
   ∃_:Unit,r= .tuple #[(⟨kd,(k:Int)+1,j,x,if dn then v else x,dn⟩:AcM).v,j5 0]/\Ent W0 own' (h.OL (if dn then L.set k ((L.getD k []).set j v) else L)++Q):=by
 refine qE (sH [] ?_);have u:=(z7.1 C).1;have hn:=l.ln k d;have hb:=l.bd k d;have hjn:(j:Int)<h.n k:=Yu;have hj0:¬(j:Int)<0:=Yu;have n:=l.fd k d;unfold MH.OL;rw[zp,zp];cases dn with
 |true=>
  have E:((L.set k ((L.getD k []).set j v)).getD k [])[j]? =some v:=by rw[q8p (by rw[l.l8];exact d),if_pos rfl,zx,if_pos rfl,if_pos u]
  rw[if_pos rfl]
  repeat'((try conv=>whnf);first|refine fH ?_|refine fE ?_|refine fD ?_|refine fG ?_|refine qpX n ?_|refine q94 ?_ ?_;omega|refine qmK d E ?_|refine qmK d C ?_|refine qsm d l.l8 u ?_|refine q2f.mk ⟨y,?_⟩|apply qe;refine qd (F _) ?_|refine fO ?_|refine fA ?_|refine fL ?_|refine fM ?_|refine qf fun G z=>?_)
  all_goals exact⟨rfl,(eC)⟩
 |false=>
  repeat'((try conv=>whnf);first|refine fH ?_|refine fD ?_|refine fG ?_|refine qpX n ?_|refine q94 ?_ ?_;omega|refine qmK d C ?_|refine q2f.mk ⟨y,?_⟩|apply qe;refine qd (F _) ?_|refine fO ?_|refine fA ?_|refine fL ?_|refine fM ?_|refine qf fun G z=>?_)
  all_goals exact⟨rfl,(eC)⟩
end
structure Sb(own own':Own):Prop where
 h:∃d,own.Perm (own'++d)
section
variable{W0:World}{own r r' A D:Own}{b:Nat}{p q:Obj->Prop}{e:jd}
theorem qqk(h:Sb own r):Ent W0 own r:=by obtain⟨d,hd⟩:=h.h;exact(Ent.of_perm hd).trans Ent.left
theorem qnd:Sb own own:=⟨[],by rw[zz]⟩
theorem qnc(h:Sb own r):Sb (e::own) r:=by obtain⟨d,hd⟩:=h.h;exact⟨e::d,(hd.cons e).trans Zf.symm⟩
theorem qqj(h:Sb own r):Sb (A++own) r:=by
 obtain⟨d,hd⟩:=h.h;refine⟨A++d,(hd.append_left A).trans ?_⟩;rw[<-zd,<-zd];exact Zh.append_right d
theorem qs7 [m:q03 D own r](h:Sb r r'):Sb own (D++r'):=by
 obtain⟨d,hd⟩:=h.h;exact⟨d,by rw[zd];exact m.h.trans (hd.append_left D)⟩
theorem qs8 [m:q1J b p own r](e:p=q)(h:Sb r r'):Sb own ((b,q)::r'):=by
 subst e;obtain⟨d,hd⟩:=h.h;exact⟨d,m.h.trans (hd.cons _)⟩
theorem sbE{own r:Own}(h:Sb own r:=by(repeat(first|exact qnd|exact sb_nil|refine qs7 ?_|refine qs8 rfl ?_|refine qnc ?_|refine qqj ?_))):Ent W0 own r:=qqk h
end
section
variable{W0:World}{h:MH}{L:List (je)}{k j:Nat}{x:Int}
theorem qjg(own:Own)(v:Int):jo W0 252 [uv v] own (.tuple #[uv v, .bool true]):=by
 refine qg (sH [] ?_)
 all_goals exact⟨rfl,(eC)⟩
theorem qk{own:Own}{b off:Nat}{cs:jh}{T:TypeId}{fz:Nat×Nat}{v:Value}(m:qy b (j8 cs T fz) own)(d:cs.toList[off]? =some v):Cl W0 own b off v:=q0O m.h d
theorem qgO{own:Own}{b:Nat}{v:Int}(o:Int)(d:Cl W0 own b 0 (uv v)):jo W0 290 [uv o,jp b] own (.tuple #[uv v, .bool true]):=by
 refine qg (sH [] ?_)
 repeat'((try conv=>whnf);first|apply gLd;refine ldK d ?_)
 all_goals exact⟨rfl,(eC)⟩
theorem qnj{own:Own}{b:Nat}{v:Int}(o:Int)(d:Cl W0 own b 0 (uv v)):jo W0 331 [uv o,jp b] own (.tuple #[uv (qQ (o+v)), .bool true]):=by
 refine qg (sH [] ?_)
 repeat'((try conv=>whnf);first|refine arw (k:= .u64) ?_|apply gLd;refine ldK d ?_)
 all_goals exact⟨rfl,(eC)⟩
theorem qjx{own:Own}{b b2:Nat}{v z:Int}(o:Int)(l:Cl W0 own b 0 (uv v))(d:Cl W0 own b2 0 (uv z)):jo W0 317 [uv o,jp b,jp b2] own (.tuple #[uv v, .bool (decide (o=z))]):=by
 refine qg (sH [3,5,7,9,11,13,0] ?_)
 repeat'((try conv=>whnf);first|(apply gLd;first|refine ldK l ?_|refine ldK d ?_))
 all_goals exact⟨rfl,(eC)⟩
theorem qrW:okF Tryz.prog 252=true:=by kernel_rfl
theorem qrX:okF Tryz.prog 290=true:=by kernel_rfl
theorem qrY:okF Tryz.prog 317=true:=by kernel_rfl
theorem qrZ:okF Tryz.prog 331=true:=by kernel_rfl
theorem qiY(u:h.ok L)(z:k<8)(y:(L.getD k [])[j]? =some x):L.set k ((L.getD k []).set j x)=L:=by
 obtain⟨l,n⟩:=z7.1 y;have d:k<L.length:=by rw[u.l8];exact z
 rw[show(L.getD k []).set j x=L.getD k [] by rw[<-n];exact yw l,zh,z6 d,Za];exact yw d
section
variable{own r:Own}{f:FuncId}{args:jf}{K:Value->Own->Prop}{v kd:Int}{dn:Bool}{g:FuncId}
theorem qa3{caps:jf}{q:Int}{L':List (je)} [m:q03 (h.OL L) own r](y:h.ok L)(E:k<8)(C:(L.getD k [])[j]? =some x)(d:okF Tryz.prog g=true)(F:q=if dn then v else x)(u:L'=if dn then L.set k ((L.getD k []).set j v) else L)(l:f=251)
  (ea:args= [jp h.mb,j5 kd,j5 ((k:Int)+1),j5 j, .func (.func g) #[] caps.toArray]) (z:∀own':Own,qr own' r->jo W0 g (uv x::caps) own' (.tuple #[uv v, .bool dn]))
  (n:K (.tuple #[(⟨kd,(k:Int)+1,j,x,q,dn⟩:AcM).v,j5 0]) (h.OL L'++r)):q0k Tryz.prog W0 own f args K:=
 q4q (qdy (kd:=kd) y E C d r fun own' e=>z own' e) l ea fun _ _ G=>by subst G;subst F;subst u;exact n
theorem qbg{b:Nat}{z q:Int}{L':List (je)} [m:q03 (h.OL L) own r](y:h.ok L)(F:k<8)(E:(L.getD k [])[j]? =some x)(d:okF Tryz.prog g=true)(G:q=if dn then v else x)(u:L'=if dn then L.set k ((L.getD k []).set j v) else L)(C:∀(b:Nat) (own':Own),Cl W0 own' b 0 (uv z)->jo W0 g [uv x,jp b] own' (.tuple #[uv v, .bool dn]))(l:f=251)
  (ea:args= [jp h.mb,j5 kd,j5 ((k:Int)+1),j5 j, .func (.func g) #[] #[jp b]]) (mm:qy b (j8 #[uv z] 72) r)
  (n:K (.tuple #[(⟨kd,(k:Int)+1,j,x,q,dn⟩:AcM).v,j5 0]) (h.OL L'++r)):q0k Tryz.prog W0 own f args K:=
 qa3 (caps:= [_]) y F E d G u l ea (fun own' e=>C _ own' ((qk mm rfl).ent (e.h W0))) n
theorem qhS{b b2:Nat}{z z2 q:Int}{L':List (je)} [m:q03 (h.OL L) own r](C:h.ok L)(G:k<8)(F:(L.getD k [])[j]? =some x)(d:okF Tryz.prog g=true)(H:q=if dn then v else x)(y:L'=if dn then L.set k ((L.getD k []).set j v) else L)(E:∀(b b2:Nat) (own':Own),Cl W0 own' b 0 (uv z)->Cl W0 own' b2 0 (uv z2)->jo W0 g [uv x,jp b,jp b2] own' (.tuple #[uv v, .bool dn]))(n:f=251)
  (ea:args= [jp h.mb,j5 kd,j5 ((k:Int)+1),j5 j, .func (.func g) #[] #[jp b,jp b2]]) (mm:qy b (j8 #[uv z] 72) r) (l:qy b2 (j8 #[uv z2] 72) r)
  (u:K (.tuple #[(⟨kd,(k:Int)+1,j,x,q,dn⟩:AcM).v,j5 0]) (h.OL L'++r)):q0k Tryz.prog W0 own f args K:=
 qa3 (caps:= [_,_]) C G F d H y n ea (fun own' e=>E _ _ own' ((qk mm rfl).ent (e.h W0)) ((qk l rfl).ent (e.h W0))) u
end
theorem qnt(d:h.ok L)(n:k<8)(l:(L.getD k [])[j]? =some x)(Q:Own):
  jn W0 196 [jp h.mb,j5 ((k:Int)+1),j5 j] (h.OL L++Q) fun r own'=>
   ∃_:Unit,r= .tuple #[(acL ((k:Int)+1) j x).v,j5 0]/\Ent W0 own' (h.OL L++Q):=by
 refine qE (sH [] ?_);have u:=(qiY d n l).symm
 repeat'((try conv=>whnf);first|(apply qe;first|refine qa3 (kd:=1) (dn:=true) (v:=x) (caps:= []) d n l qrW rfl u ?_ ?_ (fun own' _=>qjg own' x) ?_;exact rfl;exact rfl)|refine fO ?_|refine fL ?_|refine fM ?_|refine qf fun bk hbk=>?_)
 exact⟨rfl,sbE⟩
theorem qjw(d:h.ok L)(u:k<8)(n:(L.getD k [])[j]? =some x)(v:Int)(Q:Own):
  jn W0 211 [jp h.mb,j5 ((k:Int)+1),j5 j,uv v] (h.OL L++Q) fun r own'=>
   ∃_:Unit,r= .tuple #[(acS ((k:Int)+1) j x v).v,j5 0]/\Ent W0 own' (h.OL (L.set k ((L.getD k []).set j v))++Q):=by
 refine qE (sH [] ?_)
 repeat'((try conv=>whnf);first|(apply qe;first|refine qbg (b:= ?_) (kd:=2) (dn:=true) (v:=v) d u n qrX (if_pos rfl).symm (if_pos rfl).symm (fun _ _ l=>qgO x l) ?_ ?_ ?_ ?_;rotate_left;exact rfl;exact rfl;exact Yx)|refine fO ?_|refine fL ?_|refine fM ?_|refine qf fun bk hbk=>?_)
 all_goals exact⟨rfl,sbE⟩
theorem qqn(d:h.ok L)(u:k<8)(n:(L.getD k [])[j]? =some x)(v:Int)(Q:Own):
  jn W0 321 [jp h.mb,j5 ((k:Int)+1),j5 j,uv v] (h.OL L++Q) fun r own'=>
   ∃_:Unit,r= .tuple #[(acA ((k:Int)+1) j x v).v,j5 0]/\Ent W0 own' (h.OL (L.set k ((L.getD k []).set j (qQ (x+v))))++Q):=by
 refine qE (sH [] ?_)
 repeat'((try conv=>whnf);first|(apply qe;first|refine qbg (b:= ?_) (kd:=4) (dn:=true) (v:=qQ (x+v)) d u n qrZ (if_pos rfl).symm (if_pos rfl).symm (fun _ _ l=>qnj x l) ?_ ?_ ?_ ?_;rotate_left;exact rfl;exact rfl;exact Yx)|refine fO ?_|refine fL ?_|refine fM ?_|refine qf fun bk hbk=>?_)
 all_goals exact⟨rfl,sbE⟩
theorem qnK(l:h.ok L)(y:k<8)(u:(L.getD k [])[j]? =some x)(z v:Int)(Q:Own):
  jn W0 256 [jp h.mb,j5 ((k:Int)+1),j5 j,uv z,uv v] (h.OL L++Q) fun r own'=>
   ∃_:Unit,r= .tuple #[(acW ((k:Int)+1) j x v (decide (x=z))).v,j5 0]/\Ent W0 own' (h.OL (if x=z then L.set k ((L.getD k []).set j v) else L)++Q):=by
 refine qE (sH [] ?_)
 repeat'((try conv=>whnf);first|(apply qe;first|refine qhS (b:= ?_) (b2:= ?_) (kd:=3) (dn:=decide (x=z)) (v:=v) (q:=if decide (x=z) then v else x) (L':=if x=z then L.set k ((L.getD k []).set j v) else L) l y u qrY rfl (by simp only[decide_eq_true_eq]) (fun _ _ _ n d=>qjx x n d) ?_ ?_ ?_ ?_ ?_;rotate_left;rotate_left;exact rfl;exact rfl;exact Yx;exact Yx)|refine fO ?_|refine fL ?_|refine fM ?_|refine qf fun bk hbk=>?_)
 all_goals exact⟨rfl,sbE⟩
end
open Go
def MH.O(h:MH)(m:MS):Own:=h.OL m.L
section
variable{P:Program}{W0:World}{own D r r1:Own}{f f0:FuncId}{args args0:jf}{b:Nat}{p p':Obj->Prop}
theorem q7J{σ:Type}{R:σ->Value->Prop}{O:σ->Own}{K:Value->Own->Prop} [C:q1J b p own r1] [E:q03 D r1 r](h:qq P W0 f0 args0 ((b,p')::(D++r)) fun v own'=>∃s,R s v/\Ent W0 own' (O s))(l:p=p')(d:f=f0)(ea:args=args0)(y:∀s v,R s v->K v (O s)):q0k P W0 own f args K:=by
 subst d;subst ea;subst l;exact⟨fun w hw=>(h w (Ent.of_perm (C.h.trans (E.h.cons _)) w hw)).mono fun _ _ ⟨_,_,he,z,s,u,n⟩=>⟨_,O s,he,n _ z,y s _ u⟩⟩
theorem qD{σ:Type}{R:σ->Value->Prop}{O:σ->Own}{K:Value->Own->Prop} [m1:q1J b p own r1] [m2:q03 D r1 r](h:qq P W0 f0 args0 ((b,p')::(D++r)) fun v own'=>∃s,R s v/\Ent W0 own' (O s))(n:∀s v,R s v->K v (O s))(l:p=p':=by exact rfl)(d:f=f0:=by exact rfl)(ea:args=args0:=by exact rfl):q0k P W0 own f args K:=q7J h l d ea n
end
section
variable{W0:World}{own r:Own}{f:FuncId}{args:jf}{K:Value->Own->Prop}{h:MH}{m m':MS}{k j:Nat}{x v:Int}
theorem q0Z [q03 (h.O m) own r](k j:Nat)(n:h.ok m.L)(y:k<8)(u:(m.L.getD k [])[j]? =some x)(d:f=196)(ea:args= [jp h.mb,j5 ((k:Int)+1),j5 j])
  (l:K (.tuple #[(acL ((k:Int)+1) j x).v,j5 0]) (h.O m++r)):q0k Tryz.prog W0 own f args K:=
 q4q (D:=h.O m) (qnt n y u r) d ea fun _ _ z=>by subst z;exact l
theorem q2N [q03 (h.O m) own r](k j:Nat)(v:Int)(m':MS)(n:h.ok m.L)(y:k<8)(u:(m.L.getD k [])[j]? =some x)(hm:m'.L=m.L.set k ((m.L.getD k []).set j v))(d:f=211)(ea:args= [jp h.mb,j5 ((k:Int)+1),j5 j,uv v])
  (l:K (.tuple #[(acS ((k:Int)+1) j x v).v,j5 0]) (h.O m'++r)):q0k Tryz.prog W0 own f args K:=
 q4q (D:=h.O m) (by have:=qjw (W0:=W0) n y u v r;rw[<-hm] at this;exact this) d ea fun _ _ z=>by subst z;exact l
theorem qlA [q03 (h.O m) own r](k j:Nat)(v:Int)(m':MS)(n:h.ok m.L)(y:k<8)(u:(m.L.getD k [])[j]? =some x)(hm:m'.L=m.L.set k ((m.L.getD k []).set j (qQ (x+v))))(d:f=321)(ea:args= [jp h.mb,j5 ((k:Int)+1),j5 j,uv v])
  (l:K (.tuple #[(acA ((k:Int)+1) j x v).v,j5 0]) (h.O m'++r)):q0k Tryz.prog W0 own f args K:=
 q4q (D:=h.O m) (by have:=qqn (W0:=W0) n y u v r;rw[<-hm] at this;exact this) d ea fun _ _ z=>by subst z;exact l
theorem qeq [q03 (h.O m) own r](k j:Nat)(z v:Int)(m':MS)(n:h.ok m.L)(y:k<8)(u:(m.L.getD k [])[j]? =some x)(hm:m'.L=if x=z then m.L.set k ((m.L.getD k []).set j v) else m.L)(d:f=256)(ea:args= [jp h.mb,j5 ((k:Int)+1),j5 j,uv z,uv v])
  (l:K (.tuple #[(acW ((k:Int)+1) j x v (decide (x=z))).v,j5 0]) (h.O m'++r)):q0k Tryz.prog W0 own f args K:=
 q4q (D:=h.O m) (by have:=qnK (W0:=W0) n y u z v r;rw[<-hm] at this;exact this) d ea fun _ _ C=>by subst C;exact l
end
section
variable{W0:World}{own:Own}
theorem q7u(o:Int)(h:okU o):jo W0 319 [uv o] own (j5 (q7B o)):=by
 refine qg (sH [] ?_);unfold okU at h
 repeat'((try conv=>whnf);first|refine qiN ?_ ?_;omega|refine fB ?_)
 all_goals exact⟨rfl,(eC)⟩
theorem q9v(o:Int)(h:okU o):jo W0 318 [uv o] own (j5 (q4R o)):=by
 refine qg (sH [] ?_);unfold okU at h
 repeat'((try conv=>whnf);first|refine fB ?_|refine q3Z ?_ ?_;omega)
 all_goals exact⟨rfl,(eC)⟩
theorem qjR(v:Int)(h:0<=v/\v<=1099511627776):jo W0 286 [j5 v] own (.tuple #[uv (v*64),j5 0]):=by
 have d:jo W0 323 [j5 v] own (.bool true):=by
  refine qg (sH [] ?_)
  repeat'((try conv=>whnf);first|refine fH ?_|refine fJ ?_)
  all_goals exact⟨q0a (vb (decide_eq_true Yu)),(eC)⟩
 refine qg (sH [] ?_)
 repeat'((try conv=>whnf);first|refine fD ?_|apply qe;refine qd (d) ?_|refine fC ?_)
 all_goals exact⟨rfl,(eC)⟩
end
section
variable{W0:World}{own:Own}{h:MH}{m:MS}{b t:Nat}{c x:Int}
abbrev enP(t n:Nat)(c:Int):Obj->Prop:=fun o=>o=Obj.cells #[j5 t,j5 n,uv c] 360 (0,0)
theorem qaN(t:Nat)(Q:Own):jn W0 301 [j5 t] Q fun v own'=>∃b:Nat,v= jp b/\Ent W0 own' ((b,enP t 0 0)::Q):=by
 refine sH [] ?_
 repeat'((try conv=>whnf);first|refine qf fun bk hbk=>?_)
 all_goals exact⟨_,rfl,Ent.refl⟩
theorem qgj(d:h.ok m.L)(l:m.sl[t]? =some x)(Q:Own):jn W0 258 [jp b,jp h.mb] ((b,enP t 0 c)::(h.O m++Q)) fun v own'=>
  ∃_:Unit,v=(acS 6 t x 1).v/\Ent W0 own' ((b,enP t 1 c)::(h.O {m with sl:=m.sl.set t 1}++Q)):=by
 refine qE (sH (jq 10 3 [24,25,27,29,32,0]) ?_)
 repeat'((try conv=>whnf);first|refine fE ?_|(apply qe;first|refine q2N 5 t 1 {m with sl:=m.sl.set t 1} d Yv l rfl ?_ ?_ ?_;exact rfl;exact rfl)|refine fB ?_|refine fO ?_|refine fA ?_|refine fL ?_|refine fN ?_|refine fM ?_|refine qf fun bk hbk=>?_)
 all_goals exact⟨rfl,sbE⟩
theorem qgk(d:h.ok m.L)(Q:Own):jn W0 258 [jp b,jp h.mb] ((b,enP t 1 c)::(h.O m++Q)) fun v own'=>
  ∃_:Unit,v=(acL 3 0 m.ck).v/\Ent W0 own' ((b,enP t 2 m.ck)::(h.O m++Q)):=by
 refine qE (sH (jq 10 3 [24,25,27,29,32,0]) ?_)
 repeat'((try conv=>whnf);first|refine fE ?_|refine fD ?_|(apply qe;first|refine q0Z 2 0 d Yv rfl ?_ ?_ ?_;exact rfl;exact rfl)|refine fB ?_|refine fO ?_|refine fA ?_|refine fL ?_|refine fN ?_|refine fM ?_|refine qf fun bk hbk=>?_)
 all_goals exact⟨rfl,sbE⟩
theorem qgl(d:h.ok m.L)(l:m.sl[t]? =some x)(Q:Own):jn W0 258 [jp b,jp h.mb] ((b,enP t 2 c)::(h.O m++Q)) fun v own'=>
  ∃_:Unit,v=(acS 6 t x (qQ (c+2))).v/\Ent W0 own' ((b,enP t 3 c)::(h.O {m with sl:=m.sl.set t (qQ (c+2))}++Q)):=by
 refine qE (sH (jq 10 3 [24,25,27,29,32,0]) ?_)
 repeat'((try conv=>whnf);first|refine fE ?_|refine fD ?_|refine arw (k:= .u64) ?_|(apply qe;first|refine q2N 5 t (qQ (c+2)) {m with sl:=m.sl.set t (qQ (c+2))} d Yv l rfl ?_ ?_ ?_;exact rfl;exact rfl)|refine fB ?_|refine fO ?_|refine fA ?_|refine fL ?_|refine fN ?_|refine fM ?_|refine qf fun bk hbk=>?_)
 all_goals exact⟨rfl,sbE⟩
theorem q6f{n:Int}(d:Cl W0 own b 1 (j5 n)):jo W0 259 [jp b] own (.bool (decide (n=3))):=by
 refine qg (sH [] ?_)
 repeat'((try conv=>whnf);first|refine q0m d ?_)
 all_goals exact⟨rfl,(eC)⟩
theorem q4E{n:Int}(l:Cl W0 own b 1 (j5 n))(u:Cl W0 own b 2 (uv c))(hb:0<=c/\c<=1099511627776):jo W0 257 [jp b] own (j5 (if n<=1 then-1 else c)):=by
 refine qg (sH [] ?_)
 repeat'((try conv=>whnf);first|refine q0m l ?_|refine q0m u ?_|refine fB ?_|apply q8M;exact rfl;all_goals intro d)
 ·exact⟨q0a (vi (if_pos d).symm),(eC)⟩
 ·exact⟨q0a (vi (if_neg d).symm),(eC)⟩
theorem qjc(d:h.ok m.L)(l:m.sl[t]? =some x)(Q:Own):jn W0 216 [jp h.mb,j5 t] (h.O m++Q) fun v own'=>
  ∃_:Unit,v=(acS 6 t x 0).v/\Ent W0 own' (h.O {m with sl:=m.sl.set t 0}++Q):=by
 refine qE (sH [] ?_)
 repeat'((try conv=>whnf);first|(apply qe;first|refine q2N 5 t 0 {m with sl:=m.sl.set t 0} d Yv l rfl ?_ ?_ ?_;exact rfl;exact rfl)|refine fO ?_|refine fL ?_|refine fM ?_|refine qf fun bk hbk=>?_)
 all_goals exact⟨rfl,sbE⟩
abbrev tnP(tk:Bool)(c:Int)(dn:Bool):Obj->Prop:=fun o=>o=Obj.cells #[.bool tk,uv c, .bool dn] 345 (0,0)
theorem q7o(Q:Own):jn W0 272 [] Q fun v own'=>∃b:Nat,v= jp b/\Ent W0 own' ((b,tnP false 0 false)::Q):=by
 refine sH [] ?_
 repeat'((try conv=>whnf);first|refine qf fun bk hbk=>?_)
 all_goals exact⟨_,rfl,Ent.refl⟩
theorem qjO(d:h.ok m.L)(Q:Own):jn W0 273 [jp b,jp h.mb] ((b,tnP false 0 false)::(h.O m++Q)) fun v own'=>
  ∃_:Unit,v=(acA 4 0 m.tk 1).v/\Ent W0 own' ((b,tnP true m.tk false)::(h.O {m with tk:=qQ (m.tk+1)}++Q)):=by
 refine qE (sH [3,5,7,11,13,1,9,16,17,19,22,0,16,9,17,19,22,0,3,5,7,9,11,13,15,17,19,21,24,0] ?_)
 repeat'((try conv=>whnf);first|refine fE ?_|refine fD ?_|(apply qe;first|refine qlA 3 0 1 {m with tk:=qQ (m.tk+1)} d Yv rfl rfl ?_ ?_ ?_;exact rfl;exact rfl)|refine fO ?_|refine fA ?_|refine fL ?_|refine fN ?_|refine fM ?_|refine qf fun bk hbk=>?_|refine q1a.mk ?_ ?_)
 all_goals exact⟨rfl,sbE⟩
theorem qjP(d:h.ok m.L)(Q:Own):jn W0 273 [jp b,jp h.mb] ((b,tnP true c false)::(h.O m++Q)) fun v own'=>
  ∃_:Unit,v=(acL 5 0 m.sv).v/\Ent W0 own' ((b,tnP true c (decide (m.sv=c)))::(h.O m++Q)):=by
 refine qE (sH [3,5,7,11,13,1,9,16,17,19,22,0,16,9,17,19,22,0,3,5,7,9,11,13,15,17,19,21,24,0] ?_)
 repeat'((try conv=>whnf);first|refine fD ?_|(apply qe;first|refine q0Z 4 0 d Yv rfl ?_ ?_ ?_;exact rfl;exact rfl)|refine fO ?_|refine fA ?_|refine fL ?_|refine fN ?_|refine fM ?_|refine qf fun bk hbk=>?_)
 all_goals exact⟨rfl,sbE⟩
theorem q6p{d:Bool}(l:Cl W0 own b 2 (.bool d)):jo W0 274 [jp b] own (.bool d):=by
 refine qg (sH [] ?_)
 repeat'((try conv=>whnf);first|refine q0m l ?_)
 all_goals exact⟨rfl,(eC)⟩
theorem qgV(d:Cl W0 own b 0 (.bool true))(l:Cl W0 own b 1 (uv c))(hc:0<=c/\c<=1099511627776):jo W0 213 [jp b] own (j5 c):=by
 refine qg (sH [] ?_)
 repeat'((try conv=>whnf);first|refine q0m l ?_|apply gLd;refine ldK d ?_|refine fD ?_|refine fB ?_)
 all_goals exact⟨rfl,(eC)⟩
theorem qnw(d:h.ok m.L)(hc:0<=c/\c<=1099511627776)(Q:Own):jn W0 212 [jp h.mb,j5 c] (h.O m++Q) fun v own'=>
  ∃_:Unit,v=(acS 5 0 m.sv (qQ (c+1))).v/\Ent W0 own' (h.O {m with sv:=qQ (c+1)}++Q):=by
 refine qE (sH [] ?_)
 repeat'((try conv=>whnf);first|(apply qe;first|refine q2N 4 0 (c+1) {m with sv:=c+1} d Yv rfl rfl ?_ ?_ ?_;exact rfl;exact rfl)|refine fC ?_|refine fO ?_|refine fL ?_|refine fM ?_|refine qf fun bk hbk=>?_)
 all_goals(rw[q4k (by unfold okU;omega)];exact⟨rfl,sbE⟩)
abbrev rdP(a o rv:Int)(n:Nat)(bf vl:Int)(d:Bool):Obj->Prop:=fun z=>z=Obj.cells #[j5 a,j5 o,j5 rv,j5 n,uv bf,uv vl, .bool d] 362 (0,0)
variable{a:Int}{o:Nat}{rv bf vl w:Int}
theorem qdx(a o rv:Int)(Q:Own):jn W0 297 [j5 a,j5 o,j5 rv] Q fun v own'=>∃b:Nat,v= jp b/\Ent W0 own' ((b,rdP a o rv 0 0 0 false)::Q):=by
 refine sH [] ?_
 repeat'((try conv=>whnf);first|refine qf fun bk hbk=>?_)
 all_goals exact⟨_,rfl,Ent.refl⟩
theorem qjq(n:h.ok m.L)(y:m.o[o]? =some w)(hw:okU w)(Q:Own):jn W0 260 [jp b,jp h.mb] ((b,rdP a o rv 0 0 0 false)::(h.O m++Q)) fun v own'=>
  ∃_:Unit,v=(acL 2 o w).v/\Ent W0 own' ((b,if q4R w>=0\/q7B w>rv then rdP a o rv 3 w 0 true else rdP a o rv 1 w 0 false)::(h.O m++Q)):=by
 refine qE (sH (jq 18 3 (0::(jq 11 3 [26,27,29,32,0]))) ?_);have d:=fun own'=>q9v (W0:=W0) (own:=own') w hw
 have l:=fun own'=>q7u (W0:=W0) (own:=own') w hw
 repeat'((try conv=>whnf);first|refine fH ?_|refine fI ?_|refine fE ?_|(apply qe;first|refine q0Z 1 o n Yv y ?_ ?_ ?_;exact rfl;exact rfl)|(apply qC;first|refine q35 d ?_|refine q35 l ?_)|refine fO ?_|refine fA ?_|refine fL ?_|refine fN ?_|refine fM ?_|refine qf fun bk hbk=>?_|apply q4J;exact rfl;exact rfl;all_goals intro u|apply q8M;exact rfl;all_goals intro u)
 all_goals
  first
  |(rw[if_pos (.inl Yu)];exact⟨rfl,sbE⟩)
  |(rw[if_pos (.inr Yu)];exact⟨rfl,sbE⟩)
  |(rw[if_neg Yu];exact⟨rfl,sbE⟩)
theorem qjr{j:Nat}(d:h.ok m.L)(l:m.d[j]? =some w)(Q:Own):jn W0 260 [jp b,jp h.mb] ((b,rdP j o rv 1 bf 0 false)::(h.O m++Q)) fun v own'=>
  ∃_:Unit,v=(acL 1 j w).v/\Ent W0 own' ((b,rdP j o rv 2 bf w false)::(h.O m++Q)):=by
 refine qE (sH (jq 18 3 (0::(jq 11 3 [26,27,29,32,0]))) ?_)
 repeat'((try conv=>whnf);first|refine fE ?_|refine fD ?_|(apply qe;first|refine q0Z 0 j d Yv l ?_ ?_ ?_;exact rfl;exact rfl)|refine fO ?_|refine fA ?_|refine fL ?_|refine fN ?_|refine fM ?_|refine qf fun bk hbk=>?_)
 all_goals exact⟨rfl,sbE⟩
theorem qjs(d:h.ok m.L)(l:m.o[o]? =some w)(Q:Own):jn W0 260 [jp b,jp h.mb] ((b,rdP a o rv 2 bf vl false)::(h.O m++Q)) fun v own'=>
  ∃_:Unit,v=(acL 2 o w).v/\Ent W0 own' ((b,rdP a o rv 3 bf vl (decide (w≠bf)))::(h.O m++Q)):=by
 refine qE (sH (jq 18 3 (0::(jq 11 3 [26,27,29,32,0]))) ?_)
 repeat'((try conv=>whnf);first|refine fE ?_|refine fD ?_|(apply qe;first|refine q0Z 1 o d Yv l ?_ ?_ ?_;exact rfl;exact rfl)|refine fO ?_|refine fA ?_|refine fL ?_|refine fN ?_|refine fM ?_|refine qf fun bk hbk=>?_)
 all_goals exact⟨rfl,sbE⟩
theorem q30{n:Int}(d:Cl W0 own b 3 (j5 n)):jo W0 261 [jp b] own (.bool (decide (n=3))):=by
 refine qg (sH [] ?_)
 repeat'((try conv=>whnf);first|refine q0m d ?_)
 all_goals exact⟨rfl,(eC)⟩
theorem q6l{d:Bool}(l:Cl W0 own b 6 (.bool d)):jo W0 262 [jp b] own (.bool d):=by
 refine qg (sH [] ?_)
 repeat'((try conv=>whnf);first|refine q0m l ?_)
 all_goals exact⟨rfl,(eC)⟩
theorem qjp(d:Cl W0 own b 3 (j5 3))(l:Cl W0 own b 5 (uv vl))(n:Cl W0 own b 6 (.bool false)):jo W0 266 [jp b] own (uv vl):=by
 refine qg (sH [] ?_)
 repeat'((try conv=>whnf);first|refine fH ?_|refine fD ?_|refine q0m n ?_|refine q0m l ?_|apply qe;refine qd (q30 d) ?_)
 all_goals exact⟨rfl,(eC)⟩
end
open Go
theorem q8G{r:Rg}{b imm:Int}:okU (adr r b imm):=q0u _
section
variable{W0:World}{b o:Nat}{T:TypeId}{pre post:jf}{t:Thr}
theorem qdl{x:Ins}(z:qJ x=0)(d:x.op=10\/x.op=11\/x.op=12\/x.op=13)(E:o=pre.length)(r:Own):
  jo W0 109 [.pointer (some ⟨b,o,none⟩),x.v] ([thB b T pre post t]++r) (j6 (adr t.rg (if x.op=12\/x.op=10 then x.b else x.a) x.imm)):=by
 refine qg (sH (jq 12 3 (0::(jq 12 3 [0]))) ?_);subst E;obtain⟨h0,u,y, -⟩:=q20 z;clear z;obtain⟨op,a,C,c,imm⟩:=x;dsimp only[Ins.v] at*;have ha:=u (by rcases d with rfl|rfl|rfl|rfl <;>rfl);have hb:=y (by rcases d with rfl|rfl|rfl|rfl <;>rfl);have l:a.toNat<8:=Yu;have n:C.toNat<8:=Yu;clear u y
 rcases d with rfl|rfl|rfl|rfl
 all_goals
  repeat'((try conv=>whnf);first|refine fH ?_|refine fI ?_|refine fE ?_|refine fD ?_|refine q5O (t:=t) l ?_ ?_;omega|refine q5O (t:=t) n ?_ ?_;omega|refine arw (k:= .u64) ?_|refine fP ?_|refine fA ?_|refine qf fun bk hbk=>?_)
  exact⟨rfl,(eC)⟩
end
section
variable{W0:World}{K:Own}{g:TxG}{c:Cfg}{b:BM}
theorem qdO(h:g.ok W0 K b)(hc:qG c=0){x:Ins}(hx:qJ x=0)(I:x.op=10\/x.op=11)(hd:(b.d.length:Int)=c.words)(hr:b.r.length<=1000000)(hw:b.w.length<=1000000)(ho:b.o.length<=1000000)(q:Own):
  jn W0 135 [jp g.xb,x.v] (g.O c b 0++q) fun _ own'=>∃g':TxG,
   (g'.ok W0 K {(q0M c b x).1 with t:={(q0M c b x).1.t with pc:=b.t.pc}}/\g'.xb=g.xb)/\Ent W0 own' (g'.O c {(q0M c b x).1 with t:={(q0M c b x).1.t with pc:=b.t.pc}} (q0M c b x).2++q):=by
 refine sH (jq 6 3 (0::(jq 10 3 (24::0::(jq 11 3 [26,0]))))) ?_;have d:=fun q=>qdl (W0:=W0) (b:=g.xb) (T:=165) (pre:=g.pre c b) (post:=g.post b 0) (t:=b.t) (o:=15) hx Yu rfl q
 have ae:=(q1P hc).1;unfold okW at ae;obtain⟨h0,hA,hB, -⟩:=q20 hx;clear hx;have G:=q8G (r:=b.t.rg) (b:=if x.op=12\/x.op=10 then x.b else x.a) (imm:=x.imm);obtain⟨op,a,F,c',imm⟩:=x;dsimp only[Ins.v] at*;have S:=hA (by rcases I with rfl|rfl <;>rfl);have hb:=hB (by rcases I with rfl|rfl <;>rfl);have ha':a.toNat<8:=Yu;have U:F.toNat<8:=Yu;clear hA hB;have l:=h.d.rd (W0:=W0)
 rcases I with rfl|rfl
 ·rw[if_pos (.inr rfl)] at d G;have E:q0M c b ⟨10,a,F,c',imm⟩=if c.words<=adr b.t.rg F imm then(b.go,7) else((rdM b (adr b.t.rg F imm).toNat).put a 1 (b.d.getD (adr b.t.rg F imm).toNat 0),0):=rfl
  rw[E];clear E;generalize adr b.t.rg F imm=z at*
  by_cases R:c.words<=z
  ·rw[if_pos R]
   repeat'((try conv=>whnf);first|refine fF ?_|apply qC;refine qj (fun ex=>q22 (d _)) ?_|refine fC ?_|refine fA ?_|refine fL ?_|refine fN ?_|refine qf fun N n=>?_)
   exact⟨g,⟨⟨h.d,h.m,h.a,h.al,h.r,h.w,h.o⟩,rfl⟩,(eC)⟩
  ·rw[if_neg R];obtain⟨j,rfl⟩:=Zp G.1;have X:j<b.d.length:=Yu;obtain⟨y,M⟩:∃y,b.d[j]? =some y:=⟨_,z6 X⟩
   have H:=fun(own':Own) [qr own' g.wD]=>q0B (own:=own') (cap:=g.wc) ((h.w.rd (W0:=W0)).up) Yu j
   have O:=fun(own':Own) [qr own' g.rD]=>q0B (own:=own') (cap:=g.rc) ((h.r.rd (W0:=W0)).up) Yu j
   have hR:=h.r;have W:b.d.getD j 0=y:=by simp[List.getD,M]
   rw[zD,W]
   by_cases hm:(j:Int)∈b.w
   ·have C:rdM b j=b:=by unfold rdM;rw[if_pos (.inl hm)]
    rw[C];have u:=qgq (out:=0) (c:=c) h ho S 1 y q
    repeat'((try conv=>whnf);first|refine fI ?_|refine fD ?_|refine fG ?_|apply qhl;exact rfl;omega|refine fB ?_|apply gLd;refine q0l l M rfl ?_|(apply qF;first|refine ixE l M ?_ ?_;(first|rfl|omega))|(apply qe;first|refine qd (H _) ?_|refine ql u ?_ ?_ ?_ fun s v J=>?_;exact(eC);exact rfl;exact rfl)|apply qC;refine qj (fun ex=>q22 (d _)) ?_|refine fC ?_|refine fA ?_|refine fL ?_|refine qf fun N n=>?_)
    exact⟨s,J,Ent.refl⟩
   ·by_cases Q:(j:Int)∈b.r
    ·have C:rdM b j=b:=by unfold rdM;rw[if_pos (.inr Q)]
     rw[C];have u:=qgq (out:=0) (c:=c) h ho S 1 y q
     repeat'((try conv=>whnf);first|refine fH ?_|refine fD ?_|refine fG ?_|apply qen;exact rfl;omega|apply q9R;exact rfl;omega|refine fB ?_|apply gLd;refine q0l l M rfl ?_|(apply qF;first|refine ixE l M ?_ ?_;(first|rfl|omega))|(apply qe;first|refine qd (H _) ?_|refine qd (O _) ?_|refine ql u ?_ ?_ ?_ fun s v J=>?_;exact(eC);exact rfl;exact rfl)|apply qC;refine qj (fun ex=>q22 (d _)) ?_|refine fC ?_|refine fA ?_|refine fL ?_|refine qf fun N n=>?_)
     exact⟨s,J,Ent.refl⟩
    ·have C:rdM b j={b with r:=b.r++ [(j:Int)]}:=by unfold rdM;rw[if_neg (fun h=>h.elim hm Q)]
     rw[C]
     repeat'((try conv=>whnf);first|refine fH ?_|refine fD ?_|refine fG ?_|apply qem;exact rfl;omega|apply q9R;exact rfl;omega|refine fB ?_|apply q0z (enc:=qv) (T:=3) (j:Int) hR;exact rfl;exact rfl;omega;exact rfl;exact rfl;omega;intro a2 c2 D2 V|apply gLd;refine q0l l M rfl ?_|(apply qF;first|refine ixE l M ?_ ?_;(first|rfl|omega))|(apply qe;first|refine qd (H _) ?_|refine qd (O _) ?_|refine ql (qgq (out:=0) (c:=c) (g:={g with ra:=a2,rc:=c2,rD:=D2}) (b:={b with r:=b.r++ [(j:Int)]}) ⟨h.d,h.m,h.a,h.al,V,h.w,h.o⟩ ho S 1 y q) ?_ ?_ ?_ fun s v J=>?_;dsimp only[TxG.O,TxG.pre,TxG.post];simp only[z8,zm,zE,zA];exact(eC);exact rfl;exact rfl)|apply qC;refine qj (fun ex=>q22 (d _)) ?_|refine fC ?_|refine fA ?_|refine fL ?_|refine fN ?_|refine qf fun N n=>?_)
     exact⟨s,J,Ent.refl⟩
 ·rw[if_neg Yu] at d G;have E:q0M c b ⟨11,a,F,c',imm⟩=if c.words<=adr b.t.rg a imm then(b.go,7) else((wrM b (adr b.t.rg a imm).toNat (b.t.rg.get F.toNat)).go,0):=rfl
  rw[E];clear E;generalize adr b.t.rg a imm=z at*
  by_cases R:c.words<=z
  ·rw[if_pos R]
   repeat'((try conv=>whnf);first|refine fF ?_|apply qC;refine qj (fun ex=>q22 (d _)) ?_|refine fC ?_|refine fA ?_|refine fL ?_|refine fN ?_|refine qf fun N n=>?_)
   exact⟨g,⟨⟨h.d,h.m,h.a,h.al,h.r,h.w,h.o⟩,rfl⟩,(eC)⟩
  ·rw[if_neg R];obtain⟨j,rfl⟩:=Zp G.1;have X:j<b.d.length:=Yu;have af:=qjS (out:=0) (c:=c) h X hw (b.t.rg.get F.toNat) q;rw[zD]
   repeat'((try conv=>whnf);first|refine fE ?_|refine fG ?_|refine fB ?_|refine q5O (t:=b.t) (pre:=g.pre c b) (post:=g.post b 0) U ?_ ?_;simp;omega|(apply qe;first|refine ql af ?_ ?_ ?_ fun s v J=>?_;exact(eC);exact rfl;exact rfl)|apply qC;refine qj (fun ex=>q22 (d _)) ?_|refine fC ?_|refine fP ?_|refine fA ?_|refine fL ?_|refine qf fun N n=>?_)
   exact⟨s,J,Ent.refl⟩
end
open Go
theorem qY{P:Program}{W0:World}{σ:Type}{k:FuncId}{args:jf}{E D:Own}{R:σ->Value->Prop}{O:σ->Own}{q:Own}(h:∀q,qq P W0 k args (D++q) fun v own'=>∃s,R s v/\Ent W0 own' (O s++q)):qq P W0 k args (E++(D++q)) fun v own'=>∃s,R s v/\Ent W0 own' (E++(O s++q)):=fun w hw=>
 (h (E++q) w (Ent.of_perm (by rw[<-zd,<-zd];exact Zh.append_right q) w hw)).mono fun _ _ ⟨v,o,a,b,s,c,d⟩=>⟨v,o,a,b,s,c,d.trans (Ent.of_perm (by rw[<-zd,<-zd];exact Zh.append_right q))⟩
theorem qhc{c:Cfg}{b:BM}{x:Ins}(h:x.op=10\/x.op=11):(q0M c b x).1.t.pc=b.t.pc+1/\((q0M c b x).2=0\/(q0M c b x).2=7):=by
 unfold q0M
 rcases h with h|h
 ·rw[if_pos h]
  split
  ·exact⟨rfl, .inr rfl⟩
  ·exact⟨rfl, .inl rfl⟩
 ·rw[if_neg Yu,if_pos h]
  split
  ·exact⟨rfl, .inr rfl⟩
  ·refine⟨rfl, .inl rfl⟩
theorem qr0{t d:Thr}{n:Int}(l:d.rg=t.rg)(u:d.oc=t.oc)(y:d.dn=t.dn)(z:n=d.pc):t.enc.set 0 (j5 n)=d.enc:=by
 subst z;obtain⟨pc,rg,oc,dn⟩:=d;simp only at l u y;subst l;subst u;subst y;rfl
theorem qqP{W0:World}{own:Own}(g:TxG)(c:Cfg)(b:BM)(out:Int)(d:Thr){n:Int}{off:Nat}{T:TypeId}{K:Own->Prop}{C:(Obj->Prop)->Own} [m:UpC g.xb (j8 (g.pre c b++(b.t.enc++g.post b out)).toArray T (0,0)) own C]
  (l:d.rg=b.t.rg) (u:d.oc=b.t.oc) (y:d.dn=b.t.dn) (z:n=d.pc) (E:off=15) (h:K (C fun o=>o=Obj.cells (g.pre c b++(d.enc++g.post b out)).toArray T (0,0))):StT W0 own ⟨g.xb,off,none⟩ (j5 n) K:=
 qqQ d (k:=0) Yu (qr0 l u y z) rfl (by rw[E];rfl) h
section
variable{W0:World}{K:Own}{g:TxG}{c:Cfg}{b:BM}
theorem qnJ(h:g.ok W0 K b)(V:qG c=0){x:Ins}(l:qJ x=0)(F:x.op≠14/\x.op≠15)(H:b.t.rg.ok)(G:b.t.pc<=64)(hd:(b.d.length:Int)=c.words)(hr:b.r.length<=900000)(hw:b.w.length<=900000)(ho:b.o.length<=900000)(q:Own):
  jn W0 105 [jp g.xb,x.v] (g.O c b 0++q) fun v own'=>
   ((v= .bool false/\(q0M c b x).2= -1)/\Ent W0 own' q)\/∃g':TxG,(v= .bool true/\(q0M c b x).2≠ -1/\g'.ok W0 K (q0M c b x).1/\g'.xb=g.xb)/\Ent W0 own' (g'.O c (q0M c b x).1 (q0M c b x).2++q):=by
 refine sH [3,5,7,9,12,13,0] ?_
 by_cases C:x.op=10\/x.op=11
 ·have n:=qdO h V l C hd Yu Yu Yu q;obtain⟨hp1,hp2⟩:=qhc (c:=c) (b:=b) C;generalize q0M c b x=z at*;obtain⟨op,a,J,N,imm⟩:=x;dsimp only[Ins.v] at*;clear l
  rcases C with rfl|rfl
  all_goals
   repeat'((try conv=>whnf);first|refine fE ?_|refine fD ?_|refine qqP s c {z.1 with t:={z.1.t with pc:=b.t.pc}} z.2 z.1.t rfl rfl rfl ?_ rfl ?_;omega|(apply qe;first|refine ql n ?_ ?_ ?_ fun s v d=>?_;exact(eC);exact rfl;exact rfl;obtain⟨d,I⟩:=d;rw[<-I])|refine fB ?_|refine fA ?_|refine fL ?_|refine qf fun M u=>?_)
   exact .inr ⟨s,⟨rfl,Yu,⟨d.d,d.m,d.a,d.al,d.r,d.w,d.o⟩,rfl⟩,(eC)⟩
 obtain⟨O,Q⟩:=F;have y:q0M c b x=if x.op=8 then(b.go,1) else if x.op=9 then(b.go,2) else({b with t:=q1h b.t x},0):=by
  unfold q0M;rw[if_neg Yu,if_neg Yu,if_neg O,if_neg Q]
 rw[y];clear y
 by_cases S:x.op=8\/x.op=9
 ·obtain⟨op,a,J,N,imm⟩:=x;dsimp only[Ins.v] at*;clear l C O Q
  rcases S with rfl|rfl
  all_goals
   repeat'((try conv=>whnf);first|refine fE ?_|refine fD ?_|refine fB ?_|refine fA ?_|refine fN ?_|refine qf fun M u=>?_)
   exact .inr ⟨g,⟨rfl,Yw,⟨h.d,h.m,h.a,h.al,h.r,h.w,h.o⟩,rfl⟩,(eC)⟩
 ·rw[if_neg Yu,if_neg Yu];have E:=fun r=>qcp (W0:=W0) (b:=g.xb) (T:=165) (pre:=g.pre c b) (post:=g.post b 0) (t:=b.t) (o:=15) l H G rfl r
  have h0:=(q20 l).1;have U:({b.t with rg:=q5h b.t x}:Thr).enc.set 0 (j5 (q1L b.t x))=(q1h b.t x).enc:=rfl;unfold q1h at U ⊢;generalize q5h b.t x=R at*;generalize q1L b.t x=P at*;obtain⟨op,a,J,N,imm⟩:=x;dsimp only[Ins.v] at*;clear l
  repeat'((try conv=>whnf);first|refine fG ?_|refine qqP g c {b with t:={b.t with rg:=R}} 0 {b.t with rg:=R,pc:=P} rfl rfl rfl rfl rfl ?_|(apply qe;first|refine q5a (E _) fun s v d=>?_;subst d)|refine fB ?_|refine fA ?_|refine fL ?_|refine qf fun M u=>?_)
  exact .inr ⟨g,⟨rfl,Yw,⟨h.d,h.m,h.a,h.al,h.r,h.w,h.o⟩,rfl⟩,Ent.of_sub ((zR _ _).cons_cons _)⟩
end
open Go
abbrev noA(p:jg):Prop:=∀y∈p,y.op≠14/\y.op≠15
structure BI(c:Cfg)(b:BM):Prop where
 dl:(b.d.length:Int)=c.words
 dr:∀x∈b.d,okU x
 tl:b.tk.length=(qT c).toNat
 rg:b.t.rg.ok
 rl:b.r.length<=b.t.pc
 ol:b.o.length<=b.t.pc
 wl:b.w.length<=8*b.t.pc
 rr:∀x∈b.r,0<=x/\x<c.words
 wr:∀x∈b.w,0<=x/\x<c.words
 ad:∀a∈b.ad,a<=9223372036854775807
theorem q7e{P:Int->Prop}{l:je}{a:Nat}{v:Int}(h:∀x∈l,P x)(n:P v):∀x∈l.set a v,P x:=fun x d=>by
 rcases Zk d with d|rfl
 ·exact h x d
 ·exact n
theorem BI.next{c:Cfg}{b d:BM}(h:BI c b)(hp:b.t.pc+1<=d.t.pc)(n:d.d.length=b.d.length)(u:∀x∈d.d,okU x)(y:d.tk.length=b.tk.length)(z:d.t.rg.ok)(h5:d.r.length<=b.r.length+1)(h6:d.o.length<=b.o.length+1)(h7:d.w.length<=b.w.length+8)
  (C:∀x∈d.r,0<=x/\x<c.words) (E:∀x∈d.w,0<=x/\x<c.words) (l:∀a∈d.ad,a∈b.ad):BI c d:=by
 have e1:=h.rl;have e2:=h.ol;have e3:=h.wl;exact⟨by rw[n];exact h.dl,u,by rw[y];exact h.tl,z,Yu,Yu,Yu,C,E,fun a F=>h.ad a (l a F)⟩
theorem BI.go{c:Cfg}{b:BM}(h:BI c b):BI c b.go:=h.next (zq _) rfl h.dr rfl h.rg (Yc _) (Yc _) (yK _ 8) h.rr h.wr (fun _ h=>h)
theorem qfq{t:Thr}{x:Ins}:t.pc+1<=q1L t x:=by unfold q1L;split <;>omega
theorem BI.loc{c:Cfg}{b:BM}(h:BI c b){x:Ins}:BI c {b with t:=q1h b.t x}:=
 h.next qfq rfl h.dr rfl (qat h.rg) (Yc _) (Yc _) (yK _ 8) h.rr h.wr (fun _ h=>h)
theorem qlr{P:Int->Prop}{l:je}{a:Int}(h:∀x∈l,P x)(n:P a):∀x∈q1Y l a,P x:=fun x d=>by
 unfold q1Y at d
 split at d
 ·exact h x d
 ·rcases zy.1 d with d|d
  ·exact h x d
  ·rw[zf.1 d];exact n
theorem qf5(l:je)(a:Int):(q1Y l a).length<=l.length+1:=by unfold q1Y;split <;>simp
theorem qf6{l:je}(h:∀x∈l,okU x)(j:Nat):okU (l.getD j 0):=by
 rw[zh];cases d:l[j]? with
 |none=>exact⟨Yv,Yv⟩
 |some y=>exact h y (zg d)
theorem qhd{c:Cfg}{b:BM}{x:Ins}(n:x.op≠14/\x.op≠15)(h:BI c b):BI c (q0M c b x).1:=by
 unfold q0M
 by_cases d:x.op=10
 ·rw[if_pos d]
  split
  ·exact h.go
  ·rename_i F;have E:=q8G (r:=b.t.rg) (b:=x.b) (imm:=x.imm);generalize adr b.t.rg x.b x.imm=z at*;have C:(z.toNat:Int)=z:=Yu;refine h.next (zq _) rfl h.dr rfl (Rg.ok_set h.rg (qf6 h.dr _)) ?_ (by simp[BM.put,rdM]) (yK _ 8) ?_ h.wr (fun _ h=>h)
   ·show(rdM b z.toNat).r.length<=_;unfold rdM;dsimp only
    split <;>simp
   ·show ∀x∈(rdM b z.toNat).r,_
    unfold rdM;dsimp only
    split
    ·exact h.rr
    ·intro y u
     rcases zy.1 u with u|u
     ·exact h.rr y u
     ·rw[zf.1 u];omega
 rw[if_neg d]
 by_cases l:x.op=11
 ·rw[if_pos l]
  split
  ·exact h.go
  ·rename_i F;have E:=q8G (r:=b.t.rg) (b:=x.a) (imm:=x.imm);generalize adr b.t.rg x.a x.imm=z at*;have C:(z.toNat:Int)=z:=Yu;refine h.next (zq _) (zn ..) (q7e h.dr (h.rg _)) rfl h.rg (Yc _) (Yc _) ?_ h.rr (qlr (P:=fun x=>0<=x/\x<c.words) h.wr Yu) (fun _ h=>h);have:=qf5 b.w z.toNat;show(q1Y b.w z.toNat).length<=_;omega
 rw[if_neg l];rw[if_neg n.1,if_neg n.2]
 split
 ·exact h.go
 ·split
  ·exact h.go
  ·exact h.loc
theorem qmu{c:Cfg}{b:BM}{x:Ins}(F:qJ x=0)(n:x.op≠14/\x.op≠15)(l:(q0M c b x).2=0):x.op≠8/\x.op≠9/\∀p:jg,((q0M c b x).1.t.pc:Int)∈q3o p b.t.pc x:=by
 have C:=(q20 F).2.2.2.2.1;have z:x.op≠8:=fun e=>by
  unfold q0M at l;rw[if_neg Yu,if_neg Yu,if_neg Yu,if_neg Yu,if_pos e] at l;cases l
 have y:x.op≠9:=fun e=>by
  unfold q0M at l;rw[if_neg Yu,if_neg Yu,if_neg Yu,if_neg Yu,if_neg Yu,if_pos e] at l;cases l
 refine⟨z,y,fun p=>?_⟩;have key:(q0M c b x).1.t.pc=q1L b.t x:=by
  by_cases E:x.op=10\/x.op=11
  ·rw[(qhc E).1];unfold q1L;rw[if_neg Yu]
  ·unfold q0M;rw[if_neg Yu,if_neg Yu,if_neg n.1,if_neg n.2,if_neg z,if_neg y];rfl
 rw[key];unfold q1L q3o
 by_cases u:x.op=4
 ·rw[if_pos u,if_pos (Or.inl u),zf];have:=C (.inl u);omega
 ·rw[if_neg u]
  by_cases d:x.op=5\/x.op=6
  ·rw[if_pos d];have:=C (.inr d)
   split
   ·simp;omega
   ·simp
  ·rw[if_neg d,if_neg y,if_neg Yu];simp
theorem qaZ{p:jg}(h:qw p=(0,0)){k j:Nat}{E x:Ins}(C:p[k]? =some E)(J:E.op=7)(u:k<j)(l:j<=q0v p k)(z:p[j]? =some x)(y:noA p){c:Cfg}{b:BM}(hb:b.t.pc=j)(F:(q0M c b x).2=0):
  j<(q0M c b x).1.t.pc/\(q0M c b x).1.t.pc<=q0v p k:=by
 obtain⟨e,he,hke,hel,_,_,d⟩:=q0g h C J;rw[he] at l ⊢;obtain⟨G,H,_⟩:=d j u l;obtain⟨M,N,n⟩:=qmu (q3P h z).1 (y x (zg z)) F;obtain⟨j',hj',hlt,_,I,_⟩:=q58 h z _ (hb ▸ n p);have:=(I (by rw[G];omega) M).1 N;rw[H] at this;omega
theorem qoh{p:jg}(h:qw p=(0,0)){k j:Nat}{N:Ins}(H:p[k]? =some N)(S:N.op=7)(F:k<j)(u:j<=q0v p k):∃x,p[j]? =some x/\qJ x=0/\(x.op=8↔j=q0v p k)/\x.op≠7/\x.op≠12/\x.op≠13/\x.op≠16/\x.op≠17:=by
 obtain⟨e,he,hke,hel,⟨y,M,I⟩,_,n⟩:=q0g h H S;rw[he] at u ⊢;obtain⟨x,z⟩:∃x,p[j]? =some x:=⟨_,z6 Yu⟩
 obtain⟨J,_,R⟩:=n j F u;have E:=q3P h z;have C:=qev h z;refine⟨x,z,E.1,?_,fun O=>by have:=E.2.1 O;rw[J] at this;omega,?_⟩
 ·by_cases l:j=e
  ·subst l;rw[z] at M;obtain rfl:=Option.some.inj M;exact⟨fun _=>rfl,fun _=>I⟩
  ·exact⟨fun Q=>absurd Q (R Yu x z).2,fun e=>absurd e l⟩
 ·have d:∀o,x.op=o->(o=12\/o=13\/o=16\/o=17)->False:=fun o ho hoo=>by
   unfold q9a at C;rw[if_neg (by simpa using E.1)] at C
   split at C
   ·omega
   ·split at C
    ·omega
    ·rename_i U;have G:q1x x=2:=by unfold q1x;rw[if_pos E.1,if_neg Yu,if_pos Yu]
     exact U (.inr ⟨G,by rw[J];omega⟩)
  exact⟨fun e=>d 12 e Yv,fun e=>d 13 e Yv,fun e=>d 16 e Yv,fun e=>d 17 e Yv⟩
theorem qil{c:Cfg}{b:BM}{x:Ins}(d:(q0M c b x).2≠0)(l:(q0M c b x).2≠ -1):(q0M c b x).1=b.go/\0<(q0M c b x).2/\(q0M c b x).2<=8:=by
 unfold q0M at d l ⊢
 by_cases n:x.op=10
 ·rw[if_pos n] at d ⊢
  split at d
  ·rw[if_pos (by assumption)];exact⟨rfl,Yw,Yw⟩
  ·exact absurd rfl d
 rw[if_neg n] at d l ⊢
 by_cases u:x.op=11
 ·rw[if_pos u] at d ⊢
  split at d
  ·rw[if_pos (by assumption)];exact⟨rfl,Yw,Yw⟩
  ·exact absurd rfl d
 rw[if_neg u] at d l ⊢
 by_cases y:x.op=14
 ·rw[if_pos y] at d l
  split at d
  ·rename_i C;rw[C] at l;exact absurd rfl l
  ·exact absurd rfl d
 rw[if_neg y] at d l ⊢
 by_cases z:x.op=15
 ·rw[if_pos z] at d ⊢
  split at d
  ·rw[if_pos (by assumption)];exact⟨rfl,Yw,Yw⟩
  ·exact absurd rfl d
 rw[if_neg z] at d ⊢
 by_cases E:x.op=8
 ·rw[if_pos E];exact⟨rfl,Yw,Yw⟩
 rw[if_neg E] at d ⊢
 by_cases F:x.op=9
 ·rw[if_pos F];exact⟨rfl,Yw,Yw⟩
 ·rw[if_neg F] at d;exact absurd rfl d
theorem qg1{p:jg}(h:qw p=(0,0)){k:Nat}{J:Ins}(u:p[k]? =some J)(C:J.op=7)(l:noA p){c:Cfg}:∀(n:Nat) (b:BM),k<b.t.pc->b.t.pc<=q0v p k->BI c b->(q2c c p n b).2≠ -1->BI c (q2c c p n b).1/\(0<(q2c c p n b).2/\(q2c c p n b).2<=8)/\(q2c c p n b).1.t.pc<=q0v p k+1
 |0,_,_,_,_,d=>absurd rfl d
 |n+1,b,F,G,hb,d=>by
  obtain⟨x,E, -⟩:=qoh h u C F G;have I:=l x (zg E);unfold q2c at d ⊢;rw[E] at d ⊢;simp only at d ⊢
  by_cases y:(q0M c b x).2=0
  ·rw[if_pos y] at d ⊢;obtain⟨H,z⟩:=qaZ h u C F G E l (c:=c) (b:=b) rfl y;exact qg1 h u C l n _ Yu z (qhd I hb) d
  ·rw[if_neg y] at d ⊢;obtain⟨H,z⟩:=qil y d;exact⟨qhd I hb,z,by rw[H];show b.t.pc+1<=_;omega⟩
section
variable{W0:World}{K Kp:Own}{g:TxG}{c:Cfg}{b:BM}{p:jg}{pa:j9}{pcap:Nat}
theorem qmt(h:g.ok W0 K b)(hc:qG c=0)(R:qw p=(0,0))(J:noA p){x0:Ins}(F:p[b.t.pc]? =some x0)(S:x0.op=7)(hB:BI c {b with t:={b.t with pc:=b.t.pc+1}})(hR:RdE Ins.enc 5 W0 Kp pa p)(q:Own) [ekp:qr q Kp]:
  jn W0 72 [jp g.xb, .slice pa p.length pcap] (g.O c b 0++q) fun v own'=>
   ((v= .bool false/\((q2c c p p.length {b with t:={b.t with pc:=b.t.pc+1}}).2= -1\/(q2c c p p.length {b with t:={b.t with pc:=b.t.pc+1}}).1.ad≠ []))/\Ent W0 own' q)\/
   ∃g':TxG,(v= .bool true/\(q2c c p p.length {b with t:={b.t with pc:=b.t.pc+1}}).2≠ -1/\(q2c c p p.length {b with t:={b.t with pc:=b.t.pc+1}}).1.ad= []/\g'.ok W0 K (q2c c p p.length {b with t:={b.t with pc:=b.t.pc+1}}).1/\g'.xb=g.xb)/\
    Ent W0 own' (g'.O c (q2c c p p.length {b with t:={b.t with pc:=b.t.pc+1}}).1 (q2c c p p.length {b with t:={b.t with pc:=b.t.pc+1}}).2++q):=by
 refine sH [] ?_;generalize hz:q2c c p p.length {b with t:={b.t with pc:=b.t.pc+1}}=z;obtain⟨e,he,hke,hel, -⟩:=q0g R F S;have h64:=q5z R;generalize hk:b.t.pc=k at*
 repeat'((try conv=>whnf);first|refine fB ?_|refine fA ?_|refine fN ?_)
 refine qK (σ:=Nat×BM×Int×TxG) (fun _=> []) (fun s=>s.2.2.2.O c s.2.1 s.2.2.1++q) (fun s=>(s.2.2.2.ok W0 K s.2.1/\s.2.2.2.xb=g.xb/\BI c s.2.1)/\((s.2.2.1=0/\q2c c p s.1 s.2.1=z/\k<s.2.1.t.pc/\s.2.1.t.pc<=e/\e<s.1+s.2.1.t.pc)\/(s.2.2.1≠0/\s.2.2.1≠ -1/\(s.2.1,s.2.2.1)=z)))
  (fun s=>if s.2.2.1=0 then s.1+1 else 0) (p.length,{b with t:={b.t with pc:=b.t.pc+1}},0,g) ⟨⟨⟨h.d,h.m,h.a,h.al,h.r,h.w,h.o⟩,rfl,hk ▸ hB⟩, .inl ⟨rfl,by rw[hk];exact hz,by simp only;omega,by simp only;omega,by simp only;omega⟩⟩ trivial (eC) rfl ?_
 rintro⟨n,b1,out,g1⟩ junk ⟨⟨C,O,l⟩,hI⟩;dsimp only at C O l hI ⊢;rw[<-O]
 rcases hI with ⟨rfl,d,H,I,hk3⟩|⟨ho1,W,d⟩
 ·obtain⟨x,N,hi, -⟩:=qoh R F S H (by rw[he];exact I);obtain⟨m,rfl⟩:∃m,n=m+1:=⟨n-1,Yu⟩
  have af:=qaZ R F S H (by rw[he];exact I) N J (c:=c) (b:=b1) rfl;have M:=J x (zg N);have X:=qhd (c:=c) M l;rw[q2c,N] at d;simp only at d;have h1:=l.rl;have h2:=l.ol;have h3:=l.wl;have ae:=qnJ C hc hi M l.rg Yu l.dl Yu Yu Yu q;generalize q0M c b1 x=y at*
  repeat'((try conv=>whnf);first|refine fE ?_|refine fD ?_|(apply qF;first|refine ixE hR N ?_ ?_;(first|rfl|omega))|apply q24;refine q0C hR N rfl ?_|(apply qe;first|refine q2j ae ?_ ?_ ?_ (fun v E=>?_) fun s v E=>?_;exact(eC);exact rfl;exact rfl;obtain⟨rfl,E⟩:=E;rotate_left;obtain⟨rfl,V,E,Q⟩:=E)|refine fA ?_)
  ·refine⟨(m,y.1,y.2,s),⟨⟨E,Q,X⟩,?_⟩,?_,trivial,Ent.refl⟩
   ·by_cases G:y.2=0
    ·rw[if_pos G] at d;have:=af G;exact .inl ⟨G,d,by simp only;omega,by simp only;omega,by simp only;omega⟩
    ·rw[if_neg G] at d;exact .inr ⟨G,V,d⟩
   ·simp only
    split <;>simp
  ·rw[if_neg Yu] at d;exact .inl ⟨⟨rfl, .inl (by rw[<-d];exact E)⟩,Ent.refl⟩
 ·subst d
  by_cases u:b1.ad= []
  ·have U:(b1.ad.length:Int)=0:=by rw[u];rfl
   repeat'((try conv=>whnf);first|refine fG ?_|refine fA ?_)
   exact .inr ⟨g1,⟨q0a (vb (decide_eq_true U)),W,u,C,rfl⟩,Ent.refl⟩
  ·have U:¬(b1.ad.length:Int)=0:=fun e=>u (Zq Yu)
   repeat'((try conv=>whnf);first|refine fG ?_|refine fA ?_)
   exact .inl ⟨⟨q0a (vb (decide_eq_false U)), .inr u⟩,(eC)⟩
end
open Go
structure ObS where
 a:j9
 cap:Nat
 l:List ObM
 D:Own
abbrev ObS.enc(x:ObS):jf:= [.slice x.a x.l.length x.cap]
def q3B(S:List ObS):Own:=(S.map ObS.D).flatten
theorem q28{S:List ObS}{t:Nat}{x:ObS}(d:S[t]? =some x):q3B S=q3B (S.take t)++(x.D++q3B (S.drop (t+1))):=by
 have h:S=S.take t++(x::S.drop (t+1)):=by
  have:=q1Z d
  conv=>lhs;rw[<-ZJ t S,this]
 conv=>lhs;rw[h]
 simp[q3B]
theorem qc4{S:List ObS}{t:Nat}{x:ObS}(l:S[t]? =some x)(x':ObS):q3B (S.set t x')=q3B (S.take t)++(x'.D++q3B (S.drop (t+1))):=by
 have d:=(z7.1 l).1;rw[Zj,if_pos d];simp[q3B]
structure GP where
 gb:Nat
 mb:Nat
 ml:Mp
 da:j9
 dc:Nat
 dD:Own
 ka:j9
 kc:Nat
 ta:j9
 tc:Nat
 tD:Own
 ea:j9
 ec:Nat
 eD:Own
 L:ji
 X:Own
 oa:j9
 oc:Nat
 oD:Own
 S:List ObS
abbrev GP.cells(g:GP)(c:Cfg)(d:Nat)(s:GS):jf:= .slice g.da s.d.length g.dc:: .map (some g.mb)::cfL c [.slice g.ka d g.kc, .slice g.ta s.T.length g.tc, .slice g.ea g.L.length g.ec, .slice g.oa g.S.length g.oc,j5 s.n]
abbrev GP.O(g:GP)(c:Cfg)(d:Nat)(s:GS):Own:=(g.gb,j8 (g.cells c d s).toArray 115 (0,0))::(g.dD++((g.mb,q3r (mpV g.ml))::(g.tD++(g.eD++(g.oD++(q3B g.S++g.X))))))
structure GP.ok(g:GP)(W0:World)(Kp:Own)(ps:jk)(s:GS):Prop where
 d:qo q05 72 1 g.da g.dc s.d g.dD
 m:mpR g.ml s.tk
 k:RdE PH.enc 1 W0 Kp g.ka ps
 kp:∀h∈ps,RdE Ins.enc 5 W0 Kp h.a h.p
 t:qo Thr.enc 105 11 g.ta g.tc s.T g.tD
 e:qo EH.enc 100 6 g.ea g.ec g.L g.eD
 em:g.L.map EH.m=s.E
 o:qo ObS.enc 92 1 g.oa g.oc g.S g.oD
 os:∀x∈g.S,qo ObM.enc 94 3 x.a x.cap x.l x.D
 ol:g.S.map ObS.l=s.O
def GP.ev(g:GP)(W0:World)(Y:Own):Prop:=(∀e∈g.L,RdE qv 1 W0 g.X e.ra e.rl/\RdE qv 1 W0 g.X e.wa e.wl)/\∃Z,g.X=Z++Y
theorem GP.ok.ot{g:GP}{W0:World}{Kp:Own}{ps:jk}{s:GS}(h:g.ok W0 Kp ps s){t:Nat}{x:ObS}(d:g.S[t]? =some x):s.O.getD t []=x.l:=by
 rw[<-h.ol];simp[List.getD,d]
theorem GP.ok.obs{g:GP}{W0:World}{Kp:Own}{ps:jk}{s:GS}(h:g.ok W0 Kp ps s){t:Nat}{x:ObS}(z:g.S[t]? =some x){a:j9}{cap:Nat}{D u:Own}{l:List ObM}(hb:qo ObM.enc 94 3 a cap (x.l++l) D)(d:qo ObS.enc 92 1 g.oa g.oc (g.S.set t ⟨a,cap,x.l++l,D⟩) u):
  ({g with oD:=u,S:=g.S.set t ⟨a,cap,x.l++l,D⟩}:GP).ok W0 Kp ps {s with O:=s.O.set t (s.O.getD t []++l)}:=by
 refine⟨h.d,h.m,h.k,h.kp,h.t,h.e,h.em,d,fun y n=>?_,?_⟩
 ·rcases Zk n with n|rfl
  ·exact h.os y n
  ·exact hb
 ·rw[h.ot z,<-h.ol,Yn]
section
variable{W0:World}{Kp:Own}{g:GP}{c:Cfg}{ps:jk}{s:GS}
theorem q1F(h:g.ok W0 Kp ps s){t:Nat}(H:t<g.S.length)(G:∀l∈s.O,l.length<=1000000)(pc:Nat)(k v:Int)(q:Own):
  jn W0 74 [jp g.gb,j5 t,j5 pc,j5 k,j6 v] (g.O c ps.length s++q) fun _ own'=>∃g':GP,
   (g'.ok W0 Kp ps {s with O:=s.O.set t (s.O.getD t []++ [⟨pc,k,v⟩])}/\g'={g with oD:=g'.oD,S:=g'.S}/\g'.S.length=g.S.length)/\Ent W0 own' (g'.O c ps.length {s with O:=s.O.set t (s.O.getD t []++ [⟨pc,k,v⟩])}++q):=by
 obtain⟨x,d⟩:∃x,g.S[t]? =some x:=⟨_,z6 H⟩
 have u:=zg d;have F:=h.os x u;have hxl:x.l.length<=1000000:=G x.l (by rw[<-h.ol];exact Zi u);have C:=h.o;have n:=C.rd (W0:=W0);refine sH (3::5::7::(jq 12 11 [1,9,36,38,39,42,0,36,1,9,38,39,42,0,38,9,39,42,0])) ?_;dsimp only[GP.O];rw[q28 d]
 repeat'((try conv=>whnf);first|apply q0z (enc:=ObM.enc) (T:=94) ⟨pc,k,v⟩ F;exact rfl;exact rfl;omega;exact rfl;exact rfl;omega;intro a1 c1 D1 y|apply q4b (enc:=ObS.enc) (T:=92) (j:=t) (k:=0) ⟨a1,c1,x.l++ [⟨pc,k,v⟩],D1⟩ C d;exact rfl;omega;simp only[ObS.enc,z8,zm,zE,zA];exact rfl;exact rfl;intro E z|apply gLd;refine q0l n d rfl ?_|(apply qF;first|refine ixE n d ?_ ?_;(first|rfl|omega))|refine fA ?_|refine qf fun bk hbk=>?_|refine q1a.mk ?_ ?_)
 all_goals
  refine⟨{g with oD:=E,S:=g.S.set t ⟨a1,c1,x.l++ [⟨pc,k,v⟩],D1⟩},⟨h.obs d y z,rfl,zn ..⟩,?_⟩;dsimp only[GP.O,GP.cells];rw[qc4 d,zn];exact(eC)
end
open Go
section
variable{W0:World}{Kp Y:Own}{g:GP}{c:Cfg}{ps:jk}{s:GS}
theorem qf9(h:g.ok W0 Kp ps s){t:Nat}{th:Thr}(d:s.T[t]? =some th){ph:PH}(n:ps[t]? =some ph)(pc:Nat)(q:Own) [ek:qr q Kp]:
  jn W0 75 [jp g.gb,j5 t,j5 pc] (g.O c ps.length s++q) fun _ own'=>∃g':GP,
   (g'.ok W0 Kp ps {s with T:=s.T.set t {th with pc:=pc,dn:=decide (pc=ph.p.length)}}/\g'={g with tD:=g'.tD})/\Ent W0 own' (g'.O c ps.length {s with T:=s.T.set t {th with pc:=pc,dn:=decide (pc=ph.p.length)}}++q):=by
 refine sH (jq 23 3 [50,51,53,56,0]) ?_;have F:=h.t;have y:=F.rd (W0:=W0);have E:=h.k;have H:=(z7.1 d).1;have u:(s.T.set t {th with pc:=pc})[t]? =some {th with pc:=pc}:=Z0 H;have hlen:s.T.length=(s.T.set t {th with pc:=pc}).length:=(zn ..).symm;have C:(decide ((pc:Int)=ph.p.length))=decide (pc=ph.p.length):=dd Yu;dsimp only[GP.O]
 repeat'((try conv=>whnf);first|apply q4b (enc:=Thr.enc) (T:=105) (j:=t) (k:=10) {th with pc:=pc,dn:=decide (pc=ph.p.length)} z u;exact rfl;omega;rw[C];exact rfl;exact rfl;intro G l|apply q4b (enc:=Thr.enc) (T:=105) (j:=t) (k:=0) {th with pc:=pc} F d;exact rfl;omega;exact rfl;exact rfl;intro D1 z|apply gLd;refine q0l E n rfl ?_|(apply qF;first|refine ixE y d ?_ ?_;(first|rfl|omega)|refine ixE E n ?_ ?_;(first|rfl|omega))|refine fA ?_)
 all_goals
  rw[yc] at l;refine⟨{g with tD:=G},⟨⟨h.d,h.m,h.k,h.kp,l,h.e,h.em,h.o,h.os,h.ol⟩,rfl⟩,?_⟩;dsimp only[GP.O,GP.cells];rw[zn];exact(eC)
theorem GP.ok.x{X:Own}(h:g.ok W0 Kp ps s):({g with X:=X}:GP).ok W0 Kp ps s:=⟨h.d,h.m,h.k,h.kp,h.t,h.e,h.em,h.o,h.os,h.ol⟩
theorem GP.ev.x{D:Own}(h:g.ev W0 Y):({g with X:=D++g.X}:GP).ev W0 Y:=⟨fun e he=>⟨(h.1 e he).1.ent (Ent.app Ent.refl),(h.1 e he).2.ent (Ent.app Ent.refl)⟩,by obtain⟨Z,d⟩:=h.2;exact⟨D++Z,by show D++g.X=_;rw[d,zd]⟩⟩
theorem q46(h:g.ok W0 Kp ps s)(u:g.ev W0 Y){e:EH}(z:RdE qv 1 W0 g.X e.ra e.rl)(C:RdE qv 1 W0 g.X e.wa e.wl)(n:s.E.length<=1000000)(q:Own):
  jn W0 106 [jp g.gb,e.v] (g.O c ps.length s++q) fun _ own'=>∃g':GP,
   (g'.ok W0 Kp ps (s.ev [⟨s.n,e.t,e.k,e.w,e.rl,e.wl⟩])/\g'.ev W0 Y/\g'={g with ea:=g'.ea,ec:=g'.ec,eD:=g'.eD,L:=g'.L})/\Ent W0 own' (g'.O c ps.length (s.ev [⟨s.n,e.t,e.k,e.w,e.rl,e.wl⟩])++q):=by
 refine sH (jq 6 3 [16,18,19,21,24,0]) ?_;have E:=h.e;have hLl:g.L.length<=1000000:=by rw[<-h.em,zi] at n;exact n
 obtain⟨ev,t,k,w,ra,rl,rc,wa,wl,wc⟩:=e;dsimp only[EH.v] at*;dsimp only[GP.O]
 repeat'((try conv=>whnf);first|apply q0z (enc:=EH.enc) (T:=100) ⟨s.n,t,k,w,ra,rl,rc,wa,wl,wc⟩ E;exact rfl;exact rfl;omega;exact rfl;exact rfl;omega;intro a1 c1 D1 l|refine fA ?_|refine fL ?_|refine fN ?_|refine qf fun bk hbk=>?_)
 refine⟨{g with ea:=a1,ec:=c1,eD:=D1,L:=g.L++ [⟨s.n,t,k,w,ra,rl,rc,wa,wl,wc⟩]},⟨⟨h.d,h.m,h.k,h.kp,h.t,l,?_,h.o,h.os,h.ol⟩,⟨fun y d=>?_,u.2⟩,rfl⟩,?_⟩
 ·rw[zB,h.em];rfl
 ·rcases zy.1 d with d|d
  ·exact u.1 y d
  ·rw[zf.1 d];exact⟨z,C⟩
 ·dsimp only[GP.O,GP.cells,GS.ev];simp only[z8,zm,zE,zA];exact(eC)
theorem q7q(h:g.ok W0 Kp ps s)(y:g.ev W0 Y)(n:c.strong=false)(hl:s.E.length<=900000)(t a:Nat)(k:Int)(q:Own):
  jn W0 110 [jp g.gb,j5 t,j5 a,j5 k] (g.O c ps.length s++q) fun _ own'=>∃g':GP,
   (g'.ok W0 Kp ps (s.ev (plE c s.n t k a))/\g'.ev W0 Y/\g'={g with ea:=g'.ea,ec:=g'.ec,eD:=g'.eD,L:=g'.L,X:=g'.X})/\Ent W0 own' (g'.O c ps.length (s.ev (plE c s.n t k a))++q):=by
 refine sH [] ?_;have he:=q46 (c:=c) h y (e:=⟨0,t,k,a,none,[],0,none,[],0⟩) RdE.nil RdE.nil Yu q;have u:plE c s.n t k a= [⟨s.n,t,k,a,[],[]⟩]:=by unfold plE;rw[n];rfl
 rw[u];have l:(!c.strong)=true:=by rw[n];rfl
 repeat'((try conv=>whnf);first|refine q3k l ?_|(apply qe;first|refine ql he ?_ ?_ ?_ fun g' v d=>?_;exact(eC);exact rfl;exact rfl)|refine fA ?_)
 exact⟨g',⟨d.1,d.2.1,by rw[d.2.2]⟩,Ent.refl⟩
end
open Go
section
variable{W0:World}{own own':Own}
theorem qj3{l:List Thr}{a:j9}{j:Nat}{t:Thr}(I:RdE Thr.enc 11 W0 own' a l)(F:l[j]? =some t) [qr own own']{x:Ins}(G:qJ x=0)(d:x.op=10\/x.op=11\/x.op=12\/x.op=13):
  jo W0 109 [.pointer (some ⟨ab a,ao a+j*11,none⟩),x.v] own (j6 (adr t.rg (if x.op=12\/x.op=10 then x.b else x.a) x.imm)):=by
 refine qg (sH (jq 12 3 (0::(jq 12 3 [0]))) ?_);obtain⟨h0,C,E, -⟩:=q20 G;clear G;obtain⟨op,a0,z,c,imm⟩:=x;dsimp only[Ins.v] at*;have ha:=C (by rcases d with rfl|rfl|rfl|rfl <;>rfl);have hb:=E (by rcases d with rfl|rfl|rfl|rfl <;>rfl);have u:a0.toNat<8:=Yu;have y:z.toNat<8:=Yu;clear C E;have n:=RdE.up (own:=own) I;have H:=Thr.enc_get (t:=t) u;have gb:=Thr.enc_get (t:=t) y
 rcases d with rfl|rfl|rfl|rfl
 all_goals
  repeat'((try conv=>whnf);first|refine fH ?_|refine fI ?_|refine fE ?_|refine fD ?_|refine ldE (k:=1+a0.toNat) (RdE.up n) F ?_ H ?_;omega|refine ldE (k:=1+z.toNat) (RdE.up n) F ?_ gb ?_;omega|refine arw (k:= .u64) ?_|refine fP ?_|refine fA ?_|refine qf fun bk hbk=>?_)
  exact⟨rfl,(eC)⟩
end
theorem GP.ev.of{W0:World}{Y:Own}{g g':GP}(h:g.ev W0 Y)(d:g'.L=g.L)(l:g'.X=g.X):g'.ev W0 Y:=by
 unfold GP.ev at*;rw[d,l];exact h
abbrev chV(t f:Int)(a:j9)(n cap:Nat):Value:= .agg #[j5 t,j5 f, .slice a n cap]
section
variable{W0:World}{Kp Y:Own}{g:GP}{c:Cfg}{ps:jk}{s:GS}
structure qr8(c:Cfg)(ps:jk)(s:GS)(t:Nat)(th:Thr)(ph:PH):Prop where
 hth:s.T[t]? =some th
 hph:ps[t]? =some ph
 c0:qG c=0
 st:c.strong=false
 rg:th.rg.ok
 dl:(s.d.length:Int)=c.words
 dr:∀x∈s.d,okU x
 tl:s.O.length=s.T.length
 ob:∀l∈s.O,l.length<=500000
 el:s.E.length<=500000
abbrev plB(u n:Nat)(op a l y imm:Int)(t:Nat)(aa:j9)(d ac:Nat):Own:= [(u,j8 #[j5 op,j5 a,j5 l,j5 y,j5 imm] 64 (0,0)),(n,j8 #[j5 t,j5 0, .slice aa d ac] 61 (0,0))]
abbrev PlJ(W0:World)(Kp Y:Own)(g:GP)(ps:jk)(t:Nat)(X:GS)(th:Thr)(ph:PH)(y:GS×GP×Rg):Prop:=y.2.1.ok W0 Kp ps y.1/\y.2.1.ev W0 Y/\y.2.1.gb=g.gb/\y.2.1.ta=g.ta/\y.1.T[t]? =some {th with rg:=y.2.2}/\X={y.1 with T:=y.1.T.set t (th.nxt ph.p.length y.2.2)}
theorem q2r{t:Nat}{th:Thr}{ph:PH}(S:qr8 c ps s t th ph)(h:g.ok W0 Kp ps s)(hv:g.ev W0 Y){x:Ins}(hx:qJ x=0)(af:x.op=12\/x.op=13)(hpc:th.pc<ph.p.length/\ph.p.length<=64)(f:Int)(aa:j9)(W ac:Nat)(q:Own) [ek:qr q Kp]:
  jn W0 77 [jp g.gb,chV t f aa W ac,x.v] (g.O c ps.length s++q) fun v own'=>
   ((v= .bool false/\sgM c ph.p s th t f x=none)/\Ent W0 own' (g.O c ps.length s++q))\/
   ∃s':GS×GP,(v= .bool true/\sgM c ph.p s th t f x=some s'.1/\s'.2.ok W0 Kp ps s'.1/\s'.2.ev W0 Y/\s'.2.gb=g.gb)/\Ent W0 own' (s'.2.O c ps.length s'.1++q):=by
 refine sC [5] (jq 8 3 (0::(jq 6 3 (16::0::(jq 9 3 (22::0::(jq 14 3 (32::0::(jq 15 3 (34::0::(jq 14 3 (32::0::(jq 15 3 (34::0::(jq 8 3 [20,0]))))))))))))))) ?_;have ax:=h.t;have O:=ax.rd (W0:=W0);have C:=S.hth;have U:=fun(own':Own) [qr own' g.tD]=>qj3 (own:=own') O C hx Yu
 have aN:=(q1P S.c0).1;unfold okW at aN;obtain⟨h0,hA,hB, -⟩:=q20 hx;clear hx;have aw:=q8G (r:=th.rg) (b:=if x.op=12\/x.op=10 then x.b else x.a) (imm:=x.imm);obtain⟨op,a,M,c',imm⟩:=x;dsimp only[Ins.v] at*;have ha:=hA (by rcases af with rfl|rfl <;>rfl);have hb:=hB (by rcases af with rfl|rfl <;>rfl);have az:a.toNat<8:=Yu;have aF:M.toNat<8:=Yu;clear hA hB;have hDR:=h.d.rd (W0:=W0);have aB:sgM c ph.p s th t f ⟨op,a,M,c',imm⟩=(match adr th.rg (if op=12 then M else a) imm with
  |z=>if f≠0 then(none)
   else if c.words<=z then some (s.fin t (th.nxt ph.p.length (if op=12 then th.rg.set a.toNat 0 else th.rg)) [⟨th.pc,7,7⟩])
   else if op=12 then some ((s.ev (plE c s.n t 1 z)).fin t (th.nxt ph.p.length (th.rg.set a.toNat (s.d.getD z.toNat 0))) [⟨th.pc,4,s.d.getD z.toNat 0⟩])
   else some (((s.mem (s.d.set z.toNat (th.rg.get M.toNat)) s.tk).ev (plE c s.n t 2 z)).fin t (th.nxt ph.p.length th.rg) [⟨th.pc,5,th.rg.get M.toNat⟩])):=by
  unfold sgM;rw[if_pos af];simp[S.st]
 rw[aB];clear aB;have aL:(if op=12\/op=10 then M else a)=if op=12 then M else a:=by
  rcases af with rfl|rfl <;>rfl
 rw[aL] at U aw;dsimp only;generalize adr th.rg (if op=12 then M else a) imm=z at*
 repeat'((try conv=>whnf);first|refine qf fun b4 h4=>?_;apply Stop.h)
 refine Stop.mk ?_
 repeat'((try conv=>whnf);first|refine qf fun b5 h5=>?_;apply Stop.h)
 refine Stop.mk ?_
 by_cases hf:f≠0
 ·rw[if_pos hf];have aM:(!c.strong)=true:=by rw[S.st];rfl
  have hq:f≠6\/f=6:=Yu
  by_cases hz:c.words<=z
  all_goals
   rcases hq with h6|h6
   all_goals
    repeat'((try conv=>whnf);first|refine fH ?_|refine fI ?_|refine fE ?_|refine fF ?_|refine fG ?_|refine fJ ?_|refine fK ?_|refine qhk aM ?_|(apply qF;first|refine ixE O C ?_ ?_;(first|rfl|omega))|apply qe;refine qd (U _) ?_|refine fC ?_|refine fA ?_|refine fL ?_)
    all_goals exact .inl ⟨⟨rfl,rfl⟩,(eC)⟩
 ·have aG:(c.words<=z/\op=12)\/(c.words<=z/\op=13)\/(z<c.words/\op=12)\/(z<c.words/\op=13):=Yu;obtain rfl:f=0:=Yu;have aH:((th.pc+1:Nat):Int)=(th.pc:Int)+1:=Yu;have aj:t<g.S.length:=by
   have h1:=congrArg List.length h.ol;rw[zi] at h1;have:=(z7.1 C).1;have:=S.tl;omega
  have R:∀l∈s.O,l.length<=1000000:=fun l hl=>by have:=S.ob l hl;omega
  rcases aG with ⟨hz,rfl⟩|⟨hz,rfl⟩|⟨hz,rfl⟩|⟨hz,rfl⟩
  focus
   rw[if_neg Yv,if_pos hz,if_pos rfl];obtain⟨X,hX⟩:∃X,X=s.fin t (th.nxt ph.p.length (th.rg.set a.toNat 0)) [⟨th.pc,7,7⟩]:=⟨_,rfl⟩
   rw[<-hX];have N:(s.T.set t {th with rg:=th.rg.set a.toNat 0})[t]? =some {th with rg:=th.rg.set a.toNat 0}:=Z0 (z7.1 C).1;have Q:=fun(D1:Own) (F:qo Thr.enc 105 11 g.ta g.tc (s.T.set t {th with rg:=th.rg.set a.toNat 0}) D1)=>qY (E:=plB b5 b4 12 a M c' imm t aa W ac) (q:=q) (q1F (c:=c) (g:={g with tD:=D1}) (s:={s with T:=s.T.set t {th with rg:=th.rg.set a.toNat 0}}) ⟨h.d,h.m,h.k,h.kp,F,h.e,h.em,h.o,h.os,h.ol⟩ aj R th.pc 7 7)
   repeat'((try conv=>whnf);first|refine fD ?_|refine fF ?_|(apply qF;first|refine ixE O C ?_ ?_;(first|rfl|omega))|apply qe;refine qd (U _) ?_|refine fC ?_|refine fA ?_|refine fL ?_)
   all_goals refine q3S (σ:=GS×GP×Rg) 1461501637330902918203684832716283019655932542720 (fun _=> []) (fun y=>plB b5 b4 12 a M c' imm t aa W ac++(y.2.1.O c ps.length y.1++q)) (PlJ W0 Kp Y g ps t X th ph) rfl ?_ ?_
   ·repeat'((try conv=>whnf);first|refine fE ?_|refine fC ?_|apply q4b (enc:=Thr.enc) (T:=105) (j:=t) (k:=1+a.toNat) {th with rg:=th.rg.set a.toNat 0} ax C;omega;omega;exact(Thr.enc_set az).symm;exact rfl;intro D1 F|refine ldE (k:=0) (RdE.up (F.rd (W0:=W0))) N ?_ rfl ?_;omega|(apply qe;first|refine ql (Q D1 F) ?_ ?_ ?_ fun g1 v u=>?_;dsimp only[GP.O,GP.cells];rw[zn];exact(eC);exact rfl;exact rfl;obtain⟨u,n,J⟩:=u)|refine fP ?_|refine fA ?_)
    all_goals exact⟨(_,g1,th.rg.set a.toNat 0),⟨u,GP.ev.of hv (by rw[n]) (by rw[n]),by rw[n],by rw[n],N,by rw[hX];simp[GS.fin,Thr.nxt]⟩,trivial,(eC)⟩
  rotate_left
  focus
   rw[if_neg Yv,if_pos hz,if_neg Yv];obtain⟨X,hX⟩:∃X,X=s.fin t (th.nxt ph.p.length th.rg) [⟨th.pc,7,7⟩]:=⟨_,rfl⟩
   rw[<-hX];have Q:=qY (E:=plB b5 b4 13 a M c' imm t aa W ac) (q:=q) (q1F (c:=c) h aj R th.pc 7 7)
   repeat'((try conv=>whnf);first|refine fD ?_|refine fF ?_|(apply qF;first|refine ixE O C ?_ ?_;(first|rfl|omega))|apply qe;refine qd (U _) ?_|refine fC ?_|refine fA ?_|refine fL ?_)
   all_goals refine q3S (σ:=GS×GP×Rg) 1461501637330902918203684832716283019655932542720 (fun _=> []) (fun y=>plB b5 b4 13 a M c' imm t aa W ac++(y.2.1.O c ps.length y.1++q)) (PlJ W0 Kp Y g ps t X th ph) rfl ?_ ?_
   ·repeat'((try conv=>whnf);first|refine fE ?_|refine fD ?_|refine fC ?_|apply gLd;refine q0l O C rfl ?_|(apply qe;first|refine ql Q ?_ ?_ ?_ fun g1 v u=>?_;exact(eC);exact rfl;exact rfl;obtain⟨u,n,J⟩:=u)|refine fA ?_)
    all_goals exact⟨(_,g1,th.rg),⟨u,GP.ev.of hv (by rw[n]) (by rw[n]),by rw[n],by rw[n],C,hX⟩,trivial,(eC)⟩
  rotate_left
  focus
   obtain⟨j,rfl⟩:=Zp aw.1;have hj:j<s.d.length:=by have:=S.dl;omega
   obtain⟨y,hy⟩:∃y,s.d[j]? =some y:=⟨_,z6 hj⟩
   have aK:s.d.getD j 0=y:=by simp[List.getD,hy]
   have aI:=S.el;rw[if_neg Yv,if_neg Yu,if_pos rfl,zD,aK];obtain⟨X,hX⟩:∃X,X=(s.ev (plE c s.n t 1 j)).fin t (th.nxt ph.p.length (th.rg.set a.toNat y)) [⟨th.pc,4,y⟩]:=⟨_,rfl⟩
   rw[<-hX];have N:(s.T.set t {th with rg:=th.rg.set a.toNat y})[t]? =some {th with rg:=th.rg.set a.toNat y}:=Z0 (z7.1 C).1;have au:=qY (E:=plB b5 b4 12 a M c' imm t aa W ac) (q:=q) (q7q (c:=c) h hv S.st Yu t j 1);have Q:=fun(g1:GP) (D1:Own) (hS:t<g1.S.length) (h:g1.ok W0 Kp ps (s.ev (plE c s.n t 1 j))) (F:qo Thr.enc 105 11 g1.ta g1.tc (s.T.set t {th with rg:=th.rg.set a.toNat y}) D1)=>qY (E:=plB b5 b4 12 a M c' imm t aa W ac) (q:=q) (q1F (c:=c) (g:={g1 with tD:=D1}) (s:={(s.ev (plE c s.n t 1 j)) with T:=s.T.set t {th with rg:=th.rg.set a.toNat y}}) ⟨h.d,h.m,h.k,h.kp,F,h.e,h.em,h.o,h.os,h.ol⟩ hS R th.pc 4 y)
   repeat'((try conv=>whnf);first|refine fD ?_|refine fG ?_|(apply qF;first|refine ixE O C ?_ ?_;(first|rfl|omega))|apply qe;refine qd (U _) ?_|refine fC ?_|refine fA ?_|refine fL ?_)
   all_goals refine q3S (σ:=GS×GP×Rg) 1461501637330902918203684832716283019655932542720 (fun _=> []) (fun y=>plB b5 b4 12 a M c' imm t aa W ac++(y.2.1.O c ps.length y.1++q)) (PlJ W0 Kp Y g ps t X th ph) rfl ?_ ?_
   ·repeat'((try conv=>whnf);first|refine fE ?_|refine fD ?_|refine fB ?_|refine ixE (G.d.rd (W0:=W0)) hy rfl ?_|refine ldE (k:=0) (RdE.up (G.d.rd (W0:=W0))) hy ?_ rfl ?_;omega|apply q4b (enc:=Thr.enc) (T:=105) (j:=t) (k:=1+a.toNat) {th with rg:=th.rg.set a.toNat y} G.t C;omega;omega;exact(Thr.enc_set az).symm;exact rfl;intro D1 F|refine ldE (k:=0) (RdE.up (F.rd (W0:=W0))) N ?_ rfl ?_;omega|(apply qe;first|refine ql au ?_ ?_ ?_ fun g1 v u=>?_;exact(eC);exact rfl;exact rfl;obtain⟨G,V,u⟩:=u;(have H:g1.gb=g.gb:=by rw[u]);(have I:g1.ta=g.ta:=by rw[u]);(have aq:g1.S=g.S:=by rw[u]);rw[<-H,<-I]|refine ql (Q g1 D1 (by rw[aq];exact aj) G F) ?_ ?_ ?_ fun g2 v n=>?_;dsimp only[GP.O,GP.cells,GS.ev];rw[zn];exact(eC);exact rfl;exact rfl;obtain⟨n,J,aJ⟩:=n)|refine fP ?_|refine fA ?_)
    all_goals exact⟨(_,g2,th.rg.set a.toNat y),⟨n,GP.ev.of V (by rw[J]) (by rw[J]),(by rw[J];exact H),(by rw[J];exact I),N,by rw[hX];simp[GS.fin,GS.ev,Thr.nxt]⟩,trivial,(eC)⟩
  rotate_left
  focus
   obtain⟨j,rfl⟩:=Zp aw.1;have hj:j<s.d.length:=by have:=S.dl;omega
   obtain⟨y,hy⟩:∃y,s.d[j]? =some y:=⟨_,z6 hj⟩
   have aI:=S.el;rw[if_neg Yv,if_neg Yu,if_neg Yv,zD];obtain⟨w,hw⟩:∃w,th.rg.get M.toNat=w:=⟨_,rfl⟩
   have aA:=Thr.enc_get (t:=th) aF;rw[hw] at aA ⊢;obtain⟨X,hX⟩:∃X,X=((s.mem (s.d.set j w) s.tk).ev (plE c s.n t 2 j)).fin t (th.nxt ph.p.length th.rg) [⟨th.pc,5,w⟩]:=⟨_,rfl⟩
   rw[<-hX];have aO:(s.d.set j w)[j]? =some w:=Z0 hj;have hdl:s.d.length=(s.d.set j w).length:=(zn ..).symm;have au:=qY (E:=plB b5 b4 13 a M c' imm t aa W ac) (q:=q) (q7q (c:=c) h hv S.st Yu t j 2);have Q:=fun(g1:GP) (D1:Own) (hS:t<g1.S.length) (h:g1.ok W0 Kp ps (s.ev (plE c s.n t 2 j))) (F:qo q05 72 1 g1.da g1.dc (s.d.set j w) D1)=>qY (E:=plB b5 b4 13 a M c' imm t aa W ac) (q:=q) (q1F (c:=c) (g:={g1 with dD:=D1}) (s:={(s.ev (plE c s.n t 2 j)) with d:=s.d.set j w}) ⟨F,h.m,h.k,h.kp,h.t,h.e,h.em,h.o,h.os,h.ol⟩ hS R th.pc 5 w)
   repeat'((try conv=>whnf);first|refine fD ?_|refine fG ?_|(apply qF;first|refine ixE O C ?_ ?_;(first|rfl|omega))|apply qe;refine qd (U _) ?_|refine fC ?_|refine fA ?_|refine fL ?_)
   all_goals refine q3S (σ:=GS×GP×Rg) 1461501637330902918203684832716283019655932542720 (fun _=> []) (fun y=>plB b5 b4 13 a M c' imm t aa W ac++(y.2.1.O c ps.length y.1++q)) (PlJ W0 Kp Y g ps t X th ph) rfl ?_ ?_
   ·repeat'((try conv=>whnf);first|refine fD ?_|refine fB ?_|refine ldE (k:=0) (RdE.up (F.rd (W0:=W0))) aO ?_ rfl ?_;omega|refine ixE (G.d.rd (W0:=W0)) hy rfl ?_|refine ldE (k:=1+M.toNat) (RdE.up (G.t.rd (W0:=W0))) C ?_ aA ?_;omega|apply q4b (enc:=q05) (T:=72) (j:=j) (k:=0) w G.d hy;omega;omega;exact rfl;exact rfl;intro D1 F|refine ldE (k:=0) (RdE.up (G.t.rd (W0:=W0))) C ?_ rfl ?_;omega|(apply qe;first|refine ql au ?_ ?_ ?_ fun g1 v u=>?_;exact(eC);exact rfl;exact rfl;obtain⟨G,V,u⟩:=u;(have H:g1.gb=g.gb:=by rw[u]);(have I:g1.ta=g.ta:=by rw[u]);(have aq:g1.S=g.S:=by rw[u]);rw[<-H,<-I]|refine ql (Q g1 D1 (by rw[aq];exact aj) G F) ?_ ?_ ?_ fun g2 v n=>?_;dsimp only[GP.O,GP.cells,GS.ev];rw[zn];exact(eC);exact rfl;exact rfl;obtain⟨n,J,aJ⟩:=n)|refine fP ?_|refine fA ?_)
    all_goals exact⟨(_,g2,th.rg),⟨n,GP.ev.of V (by rw[J]) (by rw[J]),(by rw[J];exact H),(by rw[J];exact I),C,by rw[hX];simp[GS.fin,GS.ev,GS.mem,Thr.nxt]⟩,trivial,(eC)⟩
  all_goals
   rintro⟨s1,g1,r⟩ junk ⟨G,V,H,I,ae,ay⟩;dsimp only at G V H I ae ay ⊢;have aE:RdE Thr.enc 11 W0 g1.tD g.ta s1.T:=I ▸ (G.t.rd (W0:=W0));have aC:=qf9 (c:=c) G ae S.hph (th.pc+1) q;rw[H,aH] at aC
   repeat'((try conv=>whnf);first|refine ldE (k:=0) (v:= j5 (th.pc:Int)) (RdE.up aE) ae ?_ rfl ?_;omega|(apply qe;first|refine ql aC ?_ ?_ ?_ fun g2 v n=>?_;exact(eC);exact rfl;exact rfl)|refine fB ?_|refine fA ?_)
   all_goals exact .inr ⟨({s1 with T:=s1.T.set t (th.nxt ph.p.length r)},g2),⟨rfl,by rw[ay],n.1,GP.ev.of V (by rw[n.2]) (by rw[n.2]),by rw[n.2]⟩,Ent.refl⟩
end
open Go
theorem qeo{T:TypeId}{a:j9}{cap:Nat}{l:List Thr}{D:Own}(h:qo Thr.enc T 11 a cap l D){j:Nat}{t:Thr}(z:l[j]? =some t):∃b pre post,a=some ⟨b,0,none⟩/\D= [thB b T pre post t]/\List.length pre=j*11/\∀u:Thr,qo Thr.enc T 11 a cap (l.set j u) [thB b T pre post u]:=by
 have n:=(z7.1 z).1
 rcases h.how with ⟨rfl,_,_⟩|⟨b,rest,F,G,H,hle⟩
 ·simp at z
 ·have E:∀y:Thr,l.set j y=l.take j++(y::l.drop (j+1)):=fun y=>by rw[Zj,if_pos n]
  have C:l.set j t=l:=by
   obtain⟨_,he⟩:=z7.1 z;rw[<-he];exact yw n
  have d:∀y:Thr,((l.set j y).map Thr.enc).flatten++rest=((l.take j).map Thr.enc).flatten++(y.enc++(((l.drop (j+1)).map Thr.enc).flatten++rest)):=fun y=>by
   rw[E y];simp only[zB,zF,zY,Z8,zd]
  refine⟨b,((l.take j).map Thr.enc).flatten,((l.drop (j+1)).map Thr.enc).flatten++rest,F,?_,?_,fun u=>⟨fun _ _=>rfl, .inr ⟨b,rest,F,?_,?_,?_⟩⟩⟩
  ·have e:=d t;rw[C] at e;rw[G,e]
  ·rw[qZ (sz:=11) _ (fun _ _=>rfl),zQ,Ye Yu]
  ·rw[d u]
  ·rw[zn];exact H
  ·rw[zn];exact hle
theorem qpa{W0:World}{D own r:Own} [m:q03 D own r]:Ent W0 (D++r) own:=Ent.of_perm m.h.symm
theorem qo1{P:Program}{W0:World}{σ:Type}{own D r:Own}{k:FuncId}{args:jf}{R:σ->Value->Prop}{O:σ->Own} [m:q03 D own r](h:qq P W0 k args (D++r) fun v own'=>∃s,R s v/\Ent W0 own' (O s++r)):qq P W0 k args own fun v own'=>∃s,R s v/\Ent W0 own' (O s++r):=
 fun w hw=>h w (Ent.of_perm m.h w hw)
section
variable{W0:World}{Kp Y:Own}{g:GP}{c:Cfg}{ps:jk}{s:GS}
theorem qgy{t:Nat}{th:Thr}(h:g.ok W0 Kp ps s)(z:s.T[t]? =some th){x:Ins}(H:qJ x=0)(y:th.rg.ok)(u:th.pc<=64)(q:Own):
  jn W0 78 [.pointer (some ⟨ab g.ta,ao g.ta+t*11,none⟩),x.v] (g.O c ps.length s++q) fun v own'=>∃g':GP,
   (v= j5 (q1L th x)/\g'.ok W0 Kp ps {s with T:=s.T.set t {th with rg:=q5h th x}}/\g'={g with tD:=g'.tD})/\Ent W0 own' (g'.O c ps.length {s with T:=s.T.set t {th with rg:=q5h th x}}++q):=by
 obtain⟨tb,pre,post,n,l,hpl,d⟩:=qeo h.t z;obtain⟨gb,mb,ml,da,dc,dD,ka,kc,ta,C,tD,ea,ec,eD,L,X,oa,oc,oD,S⟩:=g;dsimp only at n l d;subst n;subst l;have F:=qo1 (own:=(GP.mk gb mb ml da dc dD ka kc (some ⟨tb,0,none⟩) C [thB tb 105 pre post th] ea ec eD L X oa oc oD S).O c ps.length s++q) (qcp (W0:=W0) (b:=tb) (T:=105) (pre:=pre) (post:=post) (t:=th) (o:=0+t*11) H y u Yu _);intro w hw;refine(F w hw).mono fun _ _ ⟨v,o,a,b,_,G,E⟩=>⟨v,o,a,b,⟨gb,mb,ml,da,dc,dD,ka,kc,some ⟨tb,0,none⟩,C,[thB tb 105 pre post {th with rg:=q5h th x}],ea,ec,eD,L,X,oa,oc,oD,S⟩,⟨G,⟨h.d,h.m,h.k,h.kp,d _,h.e,h.em,h.o,h.os,h.ol⟩,rfl⟩,E.trans ?_⟩
 dsimp only[GP.O,GP.cells];rw[zn];exact qpa
theorem qf7{α:Type}{l:List (List α)}{t:Nat}(d:t<l.length):l.set t (l.getD t []++ [])=l:=by
 rw[zz];simp[List.getD,d]
theorem qgN{t:Nat}{th:Thr}{ph:PH}(hT:qr8 c ps s t th ph)(h:g.ok W0 Kp ps s)(H:g.ev W0 Y){x:Ins}(hx:qJ x=0)(aA:th.pc<ph.p.length/\ph.p.length<=64)(f:Int)(aa:j9)(al ac:Nat)(q:Own) [ek:qr q Kp]:
  jn W0 48 [jp g.gb,chV t f aa al ac,x.v] (g.O c ps.length s++q) fun v own'=>
   ((v= .bool false/\sgM c ph.p s th t f x=none)/\Ent W0 own' (g.O c ps.length s++q))\/
   ∃s':GS×GP,(v= .bool true/\sgM c ph.p s th t f x=some s'.1/\s'.2.ok W0 Kp ps s'.1/\s'.2.ev W0 Y/\s'.2.gb=g.gb)/\Ent W0 own' (s'.2.O c ps.length s'.1++q):=by
 refine sH (jq 8 3 (0::(jq 7 3 [18,0,3,5,9,11,1,7,14,16,0,14,7,16,0]))) ?_
 by_cases F:x.op=12\/x.op=13
 ·have aB:=q2r (c:=c) hT h H hx F aA f aa al ac q;obtain⟨op,a,V,W,imm⟩:=x;dsimp only[Ins.v] at*;clear hx
  rcases F with rfl|rfl
  all_goals
   repeat'((try conv=>whnf);first|refine fH ?_|refine fI ?_|refine fE ?_|(apply qe;first|refine q2j aB ?_ ?_ ?_ (fun v H=>?_) fun s' v H=>?_;exact(eC);exact rfl;exact rfl;obtain⟨rfl,H⟩:=H;rotate_left;obtain⟨rfl,H⟩:=H)|refine fA ?_|refine fL ?_|refine qf fun bk ax=>?_)
   ·exact .inr ⟨s',⟨rfl,H⟩,Ent.refl⟩
   ·exact .inl ⟨⟨rfl,H⟩,Ent.refl⟩
 have aj:sgM c ph.p s th t f x=if f≠0 then none else some (s.fin t {q1h th x with dn:=decide ((q1h th x).pc=ph.p.length)} (if x.op=16 then [⟨th.pc,6,0⟩] else [])):=by
  unfold sgM;rw[if_neg F]
 rw[aj];clear aj;have hop1:x.op≠12:=fun e=>F (.inl e)
 have hop2:x.op≠13:=fun e=>F (.inr e)
 clear F
 by_cases hf:f≠0
 ·rw[if_pos hf];obtain⟨op,a,V,W,imm⟩:=x;dsimp only[Ins.v] at*
  repeat'((try conv=>whnf);first|refine fH ?_|refine fF ?_|refine fG ?_|refine fK ?_|refine fA ?_|refine qf fun bk ax=>?_)
  exact .inl ⟨⟨rfl,rfl⟩,(eC)⟩
 ·rw[if_neg hf];obtain rfl:f=0:=Yu;have d:=hT.hth;have aw:=(z7.1 d).1;have aE:t<s.O.length:=by rw[hT.tl];exact aw
  have aF:t<g.S.length:=by
   have I:=congrArg List.length h.ol;rw[zi] at I;omega
  have af:∀l∈s.O,l.length<=1000000:=fun l hl=>by have:=hT.ob l hl;omega
  have Q:=h.t.rd (W0:=W0);have au:(s.T.set t {th with rg:=q5h th x})[t]? =some {th with rg:=q5h th x}:=Z0 aw;have J:=fun(g1:GP) (s1:GS) (I:g1.ok W0 Kp ps s1) (d:s1.T[t]? =some th)=>qgy (c:=c) I d hx hT.rg Yu
  have M:=fun(g1:GP) (s1:GS) (I:g1.ok W0 Kp ps s1) (aC:s1.T=s.T.set t {th with rg:=q5h th x})=>qf9 (c:=c) I (aC ▸ au) hT.hph (q1L th x) q
  have z:∀l,({s with T:=(s.T.set t {th with rg:=q5h th x}).set t {th with rg:=q5h th x,pc:=q1L th x,dn:=decide (q1L th x=ph.p.length)},O:=s.O.set t (s.O.getD t []++l)}:GS)=s.fin t {q1h th x with dn:=decide ((q1h th x).pc=ph.p.length)} l:=fun l=>by
   rw[yc];rfl
  have y:({s with T:=(s.T.set t {th with rg:=q5h th x}).set t {th with rg:=q5h th x,pc:=q1L th x,dn:=decide (q1L th x=ph.p.length)}}:GS)=s.fin t {q1h th x with dn:=decide ((q1h th x).pc=ph.p.length)} []:=by
   rw[<-z [],qf7 aE]
  obtain⟨X,hX⟩:∃X,X=s.fin t {q1h th x with dn:=decide ((q1h th x).pc=ph.p.length)} (if x.op=16 then [⟨th.pc,6,0⟩] else []):=⟨_,rfl⟩
  rw[<-hX]
  by_cases N:x.op=16
  ·rw[if_pos N,<-z] at hX;clear z y;generalize q5h th x=R at*;generalize q1L th x=Pc at*;obtain⟨op,a,V,W,imm⟩:=x;dsimp only[Ins.v] at*;subst N;clear hx
   repeat'((try conv=>whnf);first|refine qf fun b4 h4=>?_;apply Stop.h)
   refine Stop.mk ?_
   repeat'((try conv=>whnf);first|refine qf fun b5 h5=>?_;apply Stop.h)
   refine Stop.mk ?_;have az:=qY (E:= [(b5,j8 #[j5 16,j5 a,j5 V,j5 W,j5 imm] 64 (0,0)),(b4,j8 #[j5 t,j5 0, .slice aa al ac] 61 (0,0))]) (q:=q) (q1F (c:=c) h aF af th.pc 6 0);have U:=fun(g1:GP) (s1:GS) (I:g1.ok W0 Kp ps s1) (d:s1.T[t]? =some th)=>qY (E:= [(b5,j8 #[j5 16,j5 a,j5 V,j5 W,j5 imm] 64 (0,0)),(b4,j8 #[j5 t,j5 0, .slice aa al ac] 61 (0,0))]) (q:=q) (J g1 s1 I d)
   repeat'((try conv=>whnf);first|refine fH ?_|refine fE ?_|refine fD ?_|apply gLd;refine q0l Q d rfl ?_|(apply qF;first|refine ixE Q d ?_ ?_;(first|rfl|omega))|(apply qe;first|refine ql az ?_ ?_ ?_ fun g0 v C=>?_;exact(eC);exact rfl;exact rfl;obtain⟨ay,C,hl0⟩:=C;(have ae:g0.gb=g.gb:=by rw[C]);(have aq:g0.ta=g.ta:=by rw[C]);rw[<-ae,<-aq]|refine ql (U g0 _ ay d) ?_ ?_ ?_ fun g1 v n=>?_;exact(eC);exact rfl;exact rfl;obtain⟨rfl,S,n⟩:=n;(have G:g1.gb=g0.gb:=by rw[n]);rw[<-G]|refine ql (M g1 _ S rfl) ?_ ?_ ?_ fun g2 v u=>?_;exact(eC);exact rfl;exact rfl)|refine fA ?_|refine fL ?_|refine q1a.mk ?_ ?_)
   all_goals exact .inr ⟨(_,g2),⟨rfl,by rw[hX],u.1,GP.ev.of H (by rw[u.2,n,C]) (by rw[u.2,n,C]),by rw[u.2]⟩,Ent.refl⟩
  ·rw[if_neg N,<-y] at hX;clear z y;generalize q5h th x=R at*;generalize q1L th x=Pc at*;obtain⟨op,a,V,W,imm⟩:=x;dsimp only[Ins.v] at*;clear hx
   repeat'((try conv=>whnf);first|refine qf fun b4 h4=>?_;apply Stop.h)
   refine Stop.mk ?_
   repeat'((try conv=>whnf);first|refine qf fun b5 h5=>?_;apply Stop.h)
   refine Stop.mk ?_;have U:=fun(g1:GP) (s1:GS) (I:g1.ok W0 Kp ps s1) (d:s1.T[t]? =some th)=>qY (E:= [(b5,j8 #[j5 op,j5 a,j5 V,j5 W,j5 imm] 64 (0,0)),(b4,j8 #[j5 t,j5 0, .slice aa al ac] 61 (0,0))]) (q:=q) (J g1 s1 I d)
   repeat'((try conv=>whnf);first|refine fH ?_|refine fD ?_|refine fG ?_|refine fK ?_|(apply qF;first|refine ixE Q d ?_ ?_;(first|rfl|omega))|(apply qe;first|refine ql (U g s h d) ?_ ?_ ?_ fun g1 v n=>?_;exact(eC);exact rfl;exact rfl;obtain⟨rfl,S,n⟩:=n;(have G:g1.gb=g.gb:=by rw[n]);rw[<-G]|refine ql (M g1 _ S rfl) ?_ ?_ ?_ fun g2 v u=>?_;exact(eC);exact rfl;exact rfl)|refine fA ?_|refine fL ?_|refine q1a.mk ?_ ?_)
   all_goals exact .inr ⟨(_,g2),⟨rfl,by rw[hX],u.1,GP.ev.of H (by rw[u.2,n]) (by rw[u.2,n]),by rw[u.2]⟩,Ent.refl⟩
end
open Go
section
variable{W0:World}{own:Own}
theorem q4Y{da:j9}{dc mb:Nat}{d:je}{ml:Mp}(F:RdE q05 1 W0 own da d)(hd:d.length<=1000000) [m:qy mb (q3r (mpV ml)) own]:
  jn W0 44 [.agg #[.slice da d.length dc, .map (some mb)]] own fun v own'=>∃s:(j9×Nat×Own)×Nat,
   (v= .agg #[.slice s.1.1 d.length s.1.2.1, .map (some s.2)]/\qo q05 72 1 s.1.1 s.1.2.1 d s.1.2.2)/\Ent W0 own' (s.1.2.2++((s.2,q3r (mpV ml))::own)):=by
 refine sH [3,5,9,1,8,11,14,15,18,0,11,8,14,15,18,0] ?_;have n:=fun(own':Own) [qr own' own]=>qN (cap:=dc) (RdE.up (own:=own') F) Yu
 have u:=fun(own':Own) [qy mb (q3r (mpV ml)) own']=>qgz (W0:=W0) (own:=own') (b:=mb) (l:=mpV ml)
 repeat'((try conv=>whnf);first|refine qf fun b1 h1=>?_;apply Stop.h)
 refine Stop.mk ?_
 repeat'((try conv=>whnf);first|refine qf fun b2 h2=>?_;apply Stop.h)
 refine Stop.mk ?_
 repeat'((try conv=>whnf);first|(apply qe;first|refine qi (n _) fun y v z=>?_;obtain⟨a1,c1,D1⟩:=y;obtain⟨rfl,C⟩:=z;dsimp only at C|refine qi (u _) fun E v z=>?_;subst z)|refine fA ?_|refine fL ?_|refine fM ?_|refine q1a.mk ?_ ?_)
 all_goals exact⟨((a1,c1,D1),E),⟨rfl,C⟩,(Ent.of_perm Zf.symm).trans (Ent.of_sub ((((zR _ _).cons _).cons_cons _).append_left D1))⟩
theorem qo6{T:TypeId}{a:j9}{cap j off n:Nat}{l:List Thr}{D:Own}{C:Own->Own}{t:Thr}{vs:jf}{K:Own->Prop}(r:Rg)(G:qo Thr.enc T 11 a cap l D)(N:l[j]? =some t) [m:AtC D own C](J:8=n)(M:off=ao a+j*11+1)(E:vs=r.enc)
  (I:∀F,qo Thr.enc T 11 a cap (l.set j {t with rg:=r}) F->K (C F)):vs.length=n/\StN W0 own ⟨ab a,off,none⟩ vs K:=by
 obtain⟨b,pre,post,rfl,rfl,z,d⟩:=qeo G N;subst E;have u:=m.h;have y:off=pre.length+1:=by rw[M,z];simp[ao]
 subst y
 haveI:UpC b (j8 (pre++(t.enc++post)).toArray T (0,0)) own (fun q=>C [(b,q)]):=⟨fun q=>u.up q⟩
 have key:((pre++(t.enc++post)).toArray.toList.take (pre.length+1)++r.enc++(pre++(t.enc++post)).toArray.toList.drop (pre.length+1+8))=pre++(({t with rg:=r}:Thr).enc++post):=by
  rw[zU,List.take_append,y0 Yu,Zx,Y5,Zs Yu,show pre.length+1+8-pre.length=9 by omega];simp
 have H:=qjV (W0:=W0) (own:=own) (b:=b) (off:=pre.length+1) (n:=8) (cs:=(pre++(t.enc++post)).toArray) (T:=T) (vs:=r.enc) (K:=K) (C:=fun q=>C [(b,q)]) rfl (by simp;omega) rfl (by rw[key];exact I _ (d _));subst J;exact H
end
theorem qm2{W0:World}{y z C F G:jd}{A R W O u T E L d l n X q:Own}:Ent W0 (y::((z::(A++(F::(R++(W++O)))))++((C::(u++(G::(T++(E++(L++((d++(l++n))++X)))))))++q))) ([y,z]++((C::(A++(F::(T++(E++(L++((d++(l++n))++(R++(W++X)))))))))++q)):=
 qu (O++(u++ [G]))
section
variable{W0:World}{Kp K Y:Own}{g:GP}{c:Cfg}{ps:jk}{s:GS}{x:TxG}{b:BM}
theorem qdt{t:Nat}{th:Thr}(h:g.ok W0 Kp ps s)(hv:g.ev W0 Y)(V:s.T[t]? =some th)(hO:t<s.O.length)(au:∀l∈s.O,l.length<=500000)(hE:s.E.length<=500000)(W:x.ok W0 K b)(hxo:b.o.length<=500000)(q:Own):
  jn W0 73 [jp g.gb,j5 t,jp x.xb] (x.O c b 1++(g.O c ps.length s++q)) fun _ own'=>∃g':GP,
   (g'.ok W0 Kp ps ((({s with d:=b.d,tk:=b.tk,T:=s.T.set t {th with rg:=b.t.rg},O:=s.O.set t (s.O.getD t []++b.o)}:GS).ev [⟨s.n,t,3,0,[],[]⟩]).ev [⟨s.n,t,4,0,b.r,b.w⟩])/\g'.ev W0 Y/\g'.gb=g.gb/\g'.ta=g.ta)/\
   Ent W0 own' ([thB x.xb 165 (x.pre c b) (x.post b 1) b.t]++(g'.O c ps.length ((({s with d:=b.d,tk:=b.tk,T:=s.T.set t {th with rg:=b.t.rg},O:=s.O.set t (s.O.getD t []++b.o)}:GS).ev [⟨s.n,t,3,0,[],[]⟩]).ev [⟨s.n,t,4,0,b.r,b.w⟩])++q)):=by
 have aw:t<g.S.length:=by
  have h1:=congrArg List.length h.ol;rw[zi] at h1;omega
 obtain⟨G,n⟩:∃G,g.S[t]? =some G:=⟨_,z6 aw⟩
 have ae:=zg n;have hB:=h.os G ae;have hxl:G.l.length<=500000:=au G.l (by rw[<-h.ol];exact Zi ae);have M:=h.o;have N:=M.rd (W0:=W0);have af:=h.t.rd (W0:=W0);have aq:=W.o.rd (W0:=W0);refine sH (jq 12 3 (28::0::3::5::7::(jq 12 11 [1,9,36,37,40,0,36,9,37,40,0]))) ?_;have J:∀(a2:j9) (c2:Nat) (D1 F H:Own),qo Thr.enc 105 11 g.ta g.tc (s.T.set t {th with rg:=b.t.rg}) D1->qo ObM.enc 94 3 a2 c2 (G.l++b.o) F->qo ObS.enc 92 1 g.oa g.oc (g.S.set t ⟨a2,c2,G.l++b.o,F⟩) H->
   ({g with mb:=x.mb,ml:=x.ml,da:=x.da,dc:=x.dc,dD:=x.dD,tD:=D1,oD:=H,S:=g.S.set t ⟨a2,c2,G.l++b.o,F⟩,X:=x.rD++(x.wD++g.X)}:GP).ok W0 Kp ps ({s with d:=b.d,tk:=b.tk,T:=s.T.set t {th with rg:=b.t.rg},O:=s.O.set t (s.O.getD t []++b.o)}:GS)/\({g with mb:=x.mb,ml:=x.ml,da:=x.da,dc:=x.dc,dD:=x.dD,tD:=D1,oD:=H,S:=g.S.set t ⟨a2,c2,G.l++b.o,F⟩,X:=x.rD++(x.wD++g.X)}:GP).ev W0 Y:=fun a2 c2 D1 F H u y z=>by
  have ho:=h.obs n y z;exact⟨⟨W.d,W.m,h.k,h.kp,u,h.e,h.em,ho.o,ho.os,ho.ol⟩,⟨fun e he=>⟨(hv.1 e he).1.up,(hv.1 e he).2.up⟩,by obtain⟨Z,hZ⟩:=hv.2;exact⟨x.rD++(x.wD++Z),by show x.rD++(x.wD++g.X)=_;rw[hZ];simp only[zd]⟩⟩⟩
 have Q:=fun(be:Nat) (a2:j9) (c2:Nat) (D1 F H:Own) u y z=>qY (E:= [(be,j8 #[j5 0,j5 t,j5 4,j5 0, .slice x.ra b.r.length x.rc, .slice x.wa b.w.length x.wc] 100 (0,0)),thB x.xb 165 (x.pre c b) (x.post b 1) b.t]) (q:=q) (q46 (c:=c) (g:=({g with mb:=x.mb,ml:=x.ml,da:=x.da,dc:=x.dc,dD:=x.dD,tD:=D1,oD:=H,S:=g.S.set t ⟨a2,c2,G.l++b.o,F⟩,X:=x.rD++(x.wD++g.X)}:GP)) (s:=({s with d:=b.d,tk:=b.tk,T:=s.T.set t {th with rg:=b.t.rg},O:=s.O.set t (s.O.getD t []++b.o)}:GS)) (J a2 c2 D1 F H u y z).1 (J a2 c2 D1 F H u y z).2 (e:=⟨0,t,3,0,none,[],0,none,[],0⟩) RdE.nil RdE.nil (by show s.E.length<=_;omega))
 have R:=fun(g1:GP) (h1:g1.ok W0 Kp ps (({s with d:=b.d,tk:=b.tk,T:=s.T.set t {th with rg:=b.t.rg},O:=s.O.set t (s.O.getD t []++b.o)}:GS).ev [⟨s.n,t,3,0,[],[]⟩])) (h2:g1.ev W0 Y) (hX:g1.X=x.rD++(x.wD++g.X))=>qY (E:= [thB x.xb 165 (x.pre c b) (x.post b 1) b.t]) (q:=q) (q46 (c:=c) h1 h2 (e:=⟨0,t,4,0,x.ra,b.r,x.rc,x.wa,b.w,x.wc⟩) (hX ▸ (W.r.rd (W0:=W0)).up) (hX ▸ (W.w.rd (W0:=W0)).up) (by simp[GS.ev];omega))
 dsimp only[GP.O];rw[q28 n]
 repeat'((try conv=>whnf);first|refine qf fun be hbe=>?_;apply Stop.h|refine fA ?_)
 refine Stop.mk ?_
 repeat'((try conv=>whnf);first|refine fE ?_|refine qo6 b.t.rg h.t V ?_ ?_ ?_ ?_;exact rfl;omega;exact rfl;intro D1 u|refine qhM hB aq rfl rfl Yu (fun _ _=>rfl) (fun _=>by omega) fun a2 c2 F y=>?_|apply q4b (enc:=ObS.enc) (T:=92) (j:=t) (k:=0) ⟨a2,c2,G.l++b.o,F⟩ M n;exact rfl;omega;simp only[ObS.enc,z8];exact rfl;exact rfl;intro H z|apply gLd;refine q0l N n rfl ?_|(apply qF;first|refine ixE N n ?_ ?_;(first|rfl|omega)|refine ixE af V ?_ ?_;(first|rfl|omega))|(apply qe;first|refine ql (Q be a2 c2 D1 F H u y z) ?_ ?_ ?_ fun g1 v C=>?_;dsimp only[GP.O,GP.cells];rw[qc4 n,zn,zn];exact qm2;exact rfl;exact rfl;obtain⟨aj,ax,C⟩:=C;(have U:g1.gb=g.gb:=by rw[C]);(have hta1:g1.ta=g.ta:=by rw[C]);rw[<-U]|refine ql (R g1 aj ax (by rw[C])) ?_ ?_ ?_ fun g2 v I=>?_;exact(eC);exact rfl;exact rfl)|refine fA ?_|refine fL ?_|refine fQ ?_|refine fN ?_|refine fM ?_|refine q1a.mk ?_ ?_)
 all_goals exact⟨g2,⟨I.1,I.2.1,by rw[I.2.2],by rw[I.2.2,C]⟩,Ent.refl⟩
theorem qlV{l n u y z:jd}{A R W O d T E L S X q:Own}:Ent W0 (l::((n::(A++(y::(R++(W++O)))))++((u::(d++(z::(T++(E++(L++(S++X)))))))++q))) ([l,n]++((u::(d++(z::(T++(E++(L++(S++(R++X))))))))++q)):=
 qu (A++(W++(O++ [y])))
theorem qgp{t:Nat}{out:Int}(h:g.ok W0 Kp ps s)(I:g.ev W0 Y)(hE:s.E.length<=500000)(J:x.ok W0 K b)(ho:out≠1)(q:Own):
  jn W0 73 [jp g.gb,j5 t,jp x.xb] (x.O c b out++(g.O c ps.length s++q)) fun _ own'=>∃g':GP,
   (g'.ok W0 Kp ps ((s.ev [⟨s.n,t,3,0,[],[]⟩]).ev [⟨s.n,t,4,0,b.r,[]⟩])/\g'.ev W0 Y/\g'.gb=g.gb/\g'.ta=g.ta)/\
   Ent W0 own' ([thB x.xb 165 (x.pre c b) (x.post b out) b.t]++(g'.O c ps.length ((s.ev [⟨s.n,t,3,0,[],[]⟩]).ev [⟨s.n,t,4,0,b.r,[]⟩])++q)):=by
 refine sH (jq 12 3 (28::0::3::5::7::(jq 12 11 [1,9,36,37,40,0,36,9,37,40,0]))) ?_;have n:=fun(be:Nat)=>qY (E:= [(be,j8 #[j5 0,j5 t,j5 4,j5 0, .slice x.ra b.r.length x.rc,j7] 100 (0,0)),thB x.xb 165 (x.pre c b) (x.post b out) b.t]) (q:=q) (q46 (c:=c) (g:=({g with X:=x.rD++g.X}:GP)) (s:=s) h.x (GP.ev.x I) (e:=⟨0,t,3,0,none,[],0,none,[],0⟩) RdE.nil RdE.nil Yu)
 have u:=fun(g1:GP) (F:g1.ok W0 Kp ps (s.ev [⟨s.n,t,3,0,[],[]⟩])) (G:g1.ev W0 Y) (H:g1.X=x.rD++g.X)=>qY (E:= [thB x.xb 165 (x.pre c b) (x.post b out) b.t]) (q:=q) (q46 (c:=c) F G (e:=⟨0,t,4,0,x.ra,b.r,x.rc,none,[],0⟩) (H ▸ (J.r.rd (W0:=W0)).up) RdE.nil (by simp[GS.ev];omega))
 repeat'((try conv=>whnf);first|refine qf fun be hbe=>?_;apply Stop.h|refine fA ?_)
 refine Stop.mk ?_
 repeat'((try conv=>whnf);first|refine fG ?_|(apply qe;first|refine ql (n be) ?_ ?_ ?_ fun g1 v d=>?_;exact qlV;exact rfl;exact rfl;obtain⟨z,C,d⟩:=d;(have y:g1.gb=g.gb:=by rw[d]);(have hta1:g1.ta=g.ta:=by rw[d]);rw[<-y]|refine ql (u g1 z C (by rw[d])) ?_ ?_ ?_ fun g2 v l=>?_;exact(eC);exact rfl;exact rfl)|refine fA ?_|refine fL ?_|refine fM ?_)
 all_goals exact⟨g2,⟨l.1,l.2.1,by rw[l.2.2],by rw[l.2.2,d]⟩,Ent.refl⟩
end
open Go
theorem qnf{α:Type}{l:List (List α)}{t:Nat}(d:t<l.length)(a w:List α):(l.set t (l.getD t []++a)).set t ((l.set t (l.getD t []++a)).getD t []++w)=l.set t (l.getD t []++(a++w)):=by
 have e:(l.set t (l.getD t []++a)).getD t []=l.getD t []++a:=by simp[List.getD,d]
 rw[e,yc,zd]
theorem qq0{O:List (List ObM)}{t:Nat}{a:List ObM}(h:∀l∈O,l.length<=500000)(ha:a.length<=400000):∀l∈O.set t (O.getD t []++a),l.length<=1000000:=fun l d=>by
 rcases Zk d with d|rfl
 ·have:=h l d;omega
 ·rw[z8,zh];cases n:O[t]? with
  |none=>simp;omega
  |some y=>have:=h y (zg n);simp;omega
theorem qpr{W0:World}{e m b:jd}{A Z:Own}:Ent W0 (e::(A++(m::(b::Z)))) ([b]++((e::(A++(m::([]++([]++ [])))))++Z)):=
 qu []
section
variable{W0:World}{Kp K Y:Own}{g:GP}{c:Cfg}{ps:jk}{s:GS}
theorem qj4(hF:qz W0){t:Nat}{th:Thr}{ph:PH}(G:qr8 c ps s t th ph)(h:g.ok W0 Kp ps s)(I:g.ev W0 Y)(hp:qw ph.p=(0,0))(aR:noA ph.p){x0:Ins}(au:ph.p[th.pc]? =some x0)(h7:x0.op=7)(bA:s.tk.length=(qT c).toNat)(f:Int){aa:j9}{ad:je}{ac:Nat}(hA:RdE qv 1 W0 K aa ad)(bh:ad.length<=ac)(aZ:∀a∈ad,a<=9223372036854775807)(q:Own) [ek:qr q Kp]:
  jn W0 47 [jp g.gb,chV t f aa ad.length ac] (g.O c ps.length s++q) fun v own'=>
   ((v= .bool false/\txM c ph.p s th t f ad=none)/\Ent W0 own' (g.O c ps.length s++q))\/
   ∃s':GS×GP,(v= .bool true/\txM c ph.p s th t f ad=some s'.1/\s'.2.ok W0 Kp ps s'.1/\s'.2.ev W0 Y/\s'.2.gb=g.gb)/\Ent W0 own' (s'.2.O c ps.length s'.1++q):=by
 have N:=G.hth;have aj:=(z7.1 N).1;have af:t<s.O.length:=by rw[G.tl];exact aj
 have aF:=h.t.rd (W0:=W0);have hpl:=q5z hp;have aG:=q4s au;rw[if_pos ⟨by rw[hp],h7⟩] at aG;have aN:=q0g hp au h7;have hpcl:=(z7.1 au).1;generalize he:q0v ph.p th.pc=e at aG;obtain⟨e',bo,bw,hel, -⟩:=aN;have bu:e'=e:=by rw[<-bo,he]
 subst bu;refine sC [114,141] [3,5,7,9,11,13,15,17,0,3,5,7,9,13,15,17,21,23,27,1,12,19,25,29,31,34,35,0,1,19,1,12,25,29,31,34,35,0,1,25,1,12,29,31,34,35,0,29,12,31,34,35,0,29,1,12,25,31,34,35,0,25,12,31,34,35,0,1,25,1,12,19,29,31,34,35,0,1,19,1,12,29,31,34,35,0,29,12,31,34,35,0,29,1,12,19,31,34,35,0,19,12,31,34,35,0,29,1,12,19,25,31,34,35,0,1,19,1,12,25,31,34,35,0,25,12,31,34,35,0,25,1,12,19,31,34,35,0,19,12,31,34,35,0,3,5,7,9,11,13,15,17,19,22,23,0,3,5,7,9,11,13,15,17,19,22,0,3,5,7,9,11,13,17,25,1,15,19,21,23,27,29,32,0,19,15,21,23,27,29,32,0] ?_
 repeat'((try conv=>whnf);first|refine qf fun b3 h3=>?_;apply Stop.h)
 refine Stop.mk ?_
 repeat'((try conv=>whnf);first|apply gLd;refine q0l aF N rfl ?_|(apply qF;first|refine ixE aF N ?_ ?_;(first|rfl|omega))|refine fA ?_)
 refine q3S (σ:=GS×GP×Thr) 75557863725914322894992 (fun _=> []) (fun y=> [(b3,j8 #[j5 t,j5 f, .slice aa ad.length ac] 61 (0,0))]++(y.2.1.O c ps.length y.1++q))
  (fun y=>y.2.1.ok W0 Kp ps y.1/\y.2.1.ev W0 Y/\y.2.1.gb=g.gb/\y.2.1.ta=g.ta/\y.1.T[t]? =some y.2.2/\(t<y.1.O.length/\∀l∈y.1.O,l.length<=1000000)/\okU y.2.2.oc/\
   txM c ph.p s th t f ad=some {y.1 with T:=y.1.T.set t ⟨e'+1,y.2.2.rg,y.2.2.oc,decide (e'+1=ph.p.length)⟩,O:=y.1.O.set t (y.1.O.getD t []++ [⟨th.pc,3,y.2.2.oc⟩])}) rfl ?_ ?_
 ·by_cases hf:f=0
  ·subst hf;have bm:=fun(own':Own) [qr own' g.dD] [qy g.mb (q3r (mpV g.ml)) own']=>q4Y (own:=own') (dc:=g.dc) (mb:=g.mb) (ml:=g.ml) (RdE.up (h.d.rd (W0:=W0))) (by have:=G.dl;have:=(q1P G.c0).1;unfold okW at this;omega)
   repeat'((try conv=>whnf);first|refine fE ?_|refine fA ?_)
   refine q3S (σ:=TxG) 549747425408 (fun x=> [(7,jp x.xb)]) (fun x=> [(b3,j8 #[j5 t,j5 0, .slice aa ad.length ac] 61 (0,0))]++(x.O c (⟨s.d,s.tk,th,[],[],[],ad⟩:BM) 0++(g.O c ps.length s++q))) (fun x=>x.ok W0 K (⟨s.d,s.tk,th,[],[],[],ad⟩:BM)) rfl ?_ ?_
   ·repeat'((try conv=>whnf);first|apply q24;refine q0C aF N rfl ?_|(apply qe;first|refine qi (bm _) fun y v I=>?_;obtain⟨⟨a1,c1,D1⟩,bB⟩:=y;obtain⟨rfl,hB⟩:=I;dsimp only at hB)|refine fA ?_|refine fQ ?_|refine qf fun bk hbk=>?_|refine q1a.mk ?_ ?_)
    all_goals exact⟨⟨_,bB,g.ml,a1,c1,D1,aa,ac,none,0,[],none,0,[],none,0,[]⟩,⟨hB,h.m,hA,bh,qo.nil,qo.nil,qo.nil⟩,(eF),qpr⟩
   ·rintro x aW aE;dsimp only at aE ⊢;have ae:=zg G.hph;have M:=G.hph;have ax:=h.k;have aK:BI c ⟨s.d,s.tk,{th with pc:=th.pc+1},[],[],[],ad⟩:=⟨G.dl,G.dr,bA,G.rg,zv _,zv _,zv _,fun _ h=>(by cases h),fun _ h=>(by cases h),aZ⟩
    have S:=qmt (Kp:=Kp) (pcap:=ph.cap) aE G.c0 hp aR au h7 aK (h.kp ph ae) ([(b3,j8 #[j5 t,j5 0, .slice aa ad.length ac] 61 (0,0))]++(g.O c ps.length s++q));have R:=qg1 hp au h7 aR (c:=c) ph.p.length ⟨s.d,s.tk,{th with pc:=th.pc+1},[],[],[],ad⟩ (Z3 _) (by rw[he];exact bw) aK;rw[he] at R;have aq:txM c ph.p s th t 0 ad=match q2c c ph.p ph.p.length ⟨s.d,s.tk,{th with pc:=th.pc+1},[],[],[],ad⟩ with
     |(b,o)=>if o= -1\/b.ad≠ [] then none
      else if o=1 then some (((s.mem b.d b.tk).ev [⟨s.n,t,3,0,[],[]⟩,⟨s.n,t,4,0,b.r,b.w⟩]).fin t ⟨e'+1,b.t.rg,1,decide (e'+1=ph.p.length)⟩ (b.o++ [⟨th.pc,3,1⟩]))
      else some ((s.ev [⟨s.n,t,3,0,[],[]⟩,⟨s.n,t,4,0,b.r,[]⟩]).fin t ⟨e'+1,th.rg,o,decide (e'+1=ph.p.length)⟩ [⟨th.pc,3,o⟩]):=by
     unfold txM;rw[if_neg Yw,he]
    rw[aq];clear aq;dsimp only at S;generalize q2c c ph.p ph.p.length ⟨s.d,s.tk,{th with pc:=th.pc+1},[],[],[],ad⟩=z at*;obtain⟨J,zo⟩:=z;dsimp only at S R ⊢
    by_cases hz:zo=1
    ·subst hz;obtain⟨aM, -,hpce⟩:=R Yv;have hol:=aM.ol;have W:=fun(x1:TxG) (u:x1.ok W0 K J)=>qdt (c:=c) h I N af G.ob G.el u Yu ([(b3,j8 #[j5 t,j5 0, .slice aa ad.length ac] 61 (0,0))]++q)
     have H:(s.T.set t {th with rg:=J.t.rg})[t]? =some {th with rg:=J.t.rg}:=Z0 aj
     repeat'((try conv=>whnf);first|refine fE ?_|refine fD ?_|apply q4b (enc:=Thr.enc) (T:=105) (j:=t) (k:=9) {th with rg:=J.t.rg,oc:=1} n.t H;exact rfl;omega;exact rfl;exact rfl;intro D1 V|apply gLd;refine q0l ax M rfl ?_|(apply qF;first|refine ixE ax M ?_ ?_;(first|rfl|omega))|(apply qe;first|refine q2j S ?_ ?_ ?_ (fun v I=>?_) fun x1 v I=>?_;exact Ent.of_perm (Ze _ _ _);exact rfl;exact rfl;obtain⟨rfl,I⟩:=I;rotate_left;obtain⟨rfl,az,aI,u,aw⟩:=I;rw[<-aw]|refine ql (W x1 u) ?_ ?_ ?_ fun g1 v aH=>?_;exact Ent.of_perm (List.Perm.append_left _ (Ze _ _ _));exact rfl;exact rfl;obtain⟨n,U,C,F⟩:=aH;rw[<-F])|refine fA ?_)
     ·rw[if_neg (fun h=>h.elim az (fun h=>h aI)),if_pos rfl];refine⟨({((({s with d:=J.d,tk:=J.tk,T:=s.T.set t {th with rg:=J.t.rg},O:=s.O.set t (s.O.getD t []++J.o)}:GS).ev [⟨s.n,t,3,0,[],[]⟩]).ev [⟨s.n,t,4,0,J.r,J.w⟩]) with T:=(s.T.set t {th with rg:=J.t.rg}).set t {th with rg:=J.t.rg,oc:=1}},{g1 with tD:=D1},{th with rg:=J.t.rg,oc:=1}),⟨⟨n.d,n.m,n.k,n.kp,V,n.e,n.em,n.o,n.os,n.ol⟩,U,C,rfl,Z0 (by rw[zn];exact aj),⟨by simpa [GS.ev] using af,?_⟩,(show okU 1 from ⟨Yv,Yv⟩),?_⟩,trivial,?_⟩
      ·exact fun l hl=>qq0 G.ob (a:=J.o) Yu l hl
      ·simp only[GS.fin,GS.ev,GS.mem,yc,qnf af,zd,zp,zk]
      ·dsimp only[GP.O,GP.cells,GS.ev];simp only[zn];exact Ent.app (Ent.of_perm (Ze _ _ _))
     ·exact .inl ⟨⟨rfl,if_pos I⟩,(eC)⟩
    ·have W:=fun(x1:TxG) (u:x1.ok W0 K J)=>qgp (c:=c) (t:=t) h I G.el u hz ([(b3,j8 #[j5 t,j5 0, .slice aa ad.length ac] 61 (0,0))]++q)
     repeat'((try conv=>whnf);first|refine fE ?_|refine fD ?_|apply q4b (enc:=Thr.enc) (T:=105) (j:=t) (k:=9) {th with oc:=zo} n.t N;exact rfl;omega;exact rfl;exact rfl;intro D1 V|apply gLd;refine q0l ax M rfl ?_|(apply qF;first|refine ixE ax M ?_ ?_;(first|rfl|omega))|(apply qe;first|refine q2j S ?_ ?_ ?_ (fun v I=>?_) fun x1 v I=>?_;exact Ent.of_perm (Ze _ _ _);exact rfl;exact rfl;obtain⟨rfl,I⟩:=I;rotate_left;obtain⟨rfl,az,aI,u,aw⟩:=I;rw[<-aw]|refine ql (W x1 u) ?_ ?_ ?_ fun g1 v aH=>?_;exact Ent.of_perm (List.Perm.append_left _ (Ze _ _ _));exact rfl;exact rfl;obtain⟨n,U,C,F⟩:=aH;rw[<-F])|refine fA ?_)
     ·obtain⟨aM,⟨hzo0,hzo1⟩, -⟩:=R az;rw[if_neg (fun h=>h.elim az (fun h=>h aI)),if_neg hz];refine⟨({((s.ev [⟨s.n,t,3,0,[],[]⟩]).ev [⟨s.n,t,4,0,J.r,[]⟩]) with T:=s.T.set t {th with oc:=zo}},{g1 with tD:=D1},{th with oc:=zo}),⟨⟨n.d,n.m,n.k,n.kp,V,n.e,n.em,n.o,n.os,n.ol⟩,U,C,rfl,Z0 aj,⟨af,fun l hl=>by have:=G.ob l hl;omega⟩,(show okU zo from ⟨Yu,Yu⟩),?_⟩,trivial,?_⟩
      ·simp only[GS.fin,GS.ev,yc,zd,zp,zk]
      ·dsimp only[GP.O,GP.cells,GS.ev];simp only[zn];exact Ent.app (Ent.of_perm (Ze _ _ _))
     ·exact .inl ⟨⟨rfl,if_pos I⟩,(eC)⟩
  ·have aq:txM c ph.p s th t f ad=if(3<=f/\f<=6)/\ad= [] then some (s.fin t ⟨e'+1,th.rg,f,decide (e'+1=ph.p.length)⟩ [⟨th.pc,3,f⟩]) else none:=by
    unfold txM;rw[if_pos hf,he]
   rw[aq];clear aq
   by_cases aO:3<=f/\f<=6
   ·by_cases Q:ad= []
    ·rw[if_pos ⟨aO,Q⟩];have bz:¬(0:Int)<ad.length:=by rw[Q];simp
     have hq:f=3\/f=4\/f=5\/f=6:=Yu
     repeat'((try conv=>whnf);first|refine fF ?_|refine fG ?_|apply q4b (enc:=Thr.enc) (T:=105) (j:=t) (k:=9) {th with oc:=f} h.t N;exact rfl;omega;exact rfl;exact rfl;intro D1 V|refine fA ?_|apply q8M;exact rfl;all_goals intro hc)
     all_goals first|exfalso;omega|skip
     all_goals
      refine⟨({s with T:=s.T.set t {th with oc:=f}},{g with tD:=D1},{th with oc:=f}),⟨⟨h.d,h.m,h.k,h.kp,V,h.e,h.em,h.o,h.os,h.ol⟩,I,rfl,rfl,Z0 aj,⟨af,fun l hl=>by have:=G.ob l hl;omega⟩,(show okU f from ⟨Yu,Yu⟩),?_⟩,trivial,?_⟩
      ·simp only[GS.fin,yc]
      ·dsimp only[GP.O,GP.cells];simp only[zn];exact(eC)
    ·rw[if_neg (fun h=>Q h.2)];have bz:(0:Int)<ad.length:=by
      have:ad.length≠0:=fun h=>Q (Zq h)
      omega
     have hq:f=3\/f=4\/f=5\/f=6:=Yu
     repeat'((try conv=>whnf);first|refine fF ?_|refine fG ?_|refine fA ?_|apply q8M;exact rfl;all_goals intro hc)
     all_goals first|exfalso;omega|exact .inl ⟨⟨rfl,rfl⟩,(eC)⟩
   ·rw[if_neg (fun h=>aO h.1)]
    repeat'((try conv=>whnf);first|refine fG ?_|refine fA ?_)
    all_goals first|exfalso;omega|exact .inl ⟨⟨rfl,rfl⟩,(eC)⟩
 ·rintro⟨s1,g1,aJ⟩ aW ⟨n,U,C,F,H,⟨aX,aL⟩,aT,aC⟩;dsimp only at n U C F H aX aL aT aC ⊢;rw[aC];have aU:t<g1.S.length:=by
   have h1:=congrArg List.length n.ol;rw[zi] at h1;omega
  obtain⟨hoc0,hoc1⟩:=aT;have aS:=qY (E:= [(b3,j8 #[j5 t,j5 f, .slice aa ad.length ac] 61 (0,0))]) (q:=q) (q1F (c:=c) n aU aL th.pc 3 aJ.oc);rw[C] at aS;have aY:RdE Thr.enc 11 W0 g1.tD g.ta s1.T:=F ▸ (n.t.rd (W0:=W0));have ae:=zg G.hph;have M:=G.hph;have aA:=fun(own':Own) [qr own' Kp]=>q9p (own:=own') (cap:=ph.cap) hF (RdE.up (h.kp ph ae)) Yu th.pc
  rw[aG] at aA;have br:((e'+1:Nat):Int)=(e':Int)+1:=Yu;have aV:=fun(g2:GP) (h2:g2.ok W0 Kp ps {s1 with O:=s1.O.set t (s1.O.getD t []++ [⟨th.pc,3,aJ.oc⟩])})=>qf9 (c:=c) h2 H G.hph (e'+1) q
  rw[br] at aV
  repeat'((try conv=>whnf);first|refine ldE (k:=9) (v:= j5 aJ.oc) (RdE.up aY) H ?_ rfl ?_;omega|apply gLd;refine q0l aB M rfl ?_|(apply qF;first|refine ixE aB M ?_ ?_;(first|rfl|omega))|(apply qe;first|refine ql aS ?_ ?_ ?_ fun g2 v X=>?_;exact(eC);exact rfl;exact rfl;obtain⟨aQ,X,hl2⟩:=X;(have aP:g2.gb=g.gb:=by rw[X]);(have aB:=aQ.k);rw[<-aP]|refine ql (aV g2 aQ) ?_ ?_ ?_ fun g3 v ay=>?_;exact(eC);exact rfl;exact rfl)|apply qC;refine qj (fun ex=>aA _) ?_|refine fB ?_|refine fC ?_|refine fA ?_|refine q1a.mk ?_ ?_)
  all_goals exact .inr ⟨(_,g3),⟨rfl,rfl,ay.1,GP.ev.of U (by rw[ay.2,X]) (by rw[ay.2,X]),by rw[ay.2]⟩,Ent.refl⟩
end
open Go
theorem qjU{p:jg}{k:Nat}(h:p[k]? =none):stB p (k+1)=stB p k:=by simp only[stB,h]
theorem q8v{p:jg}{k:Nat}(z:stB p k<0):∀d:Nat,stB p (k+d)<0\/∃(b:Nat) (x:Ins),k<=b/\b<k+d/\stB p (k+d)=b/\p[b]? =some x/\x.op=7
 |0=> .inl z
 |d+1=>by
  rw[<-yu];cases C:p[k+d]? with
  |none=>
   rw[qjU C]
   rcases q8v z d with h|⟨b,x,l,F,n⟩
   ·exact .inl h
   ·exact .inr ⟨b,x,l,Yu,n⟩
  |some y=>
   rw[q2u C];unfold q0w
   by_cases u:y.op=7
   ·rw[if_pos u];exact .inr ⟨k+d,y,Yu,Yu,rfl,C,u⟩
   ·rw[if_neg u]
    by_cases E:y.op=8
    ·rw[if_pos E];exact .inl Yv
    ·rw[if_neg E]
     rcases q8v z d with h|⟨b,x,l,F,n⟩
     ·exact .inl h
     ·exact .inr ⟨b,x,l,Yu,n⟩
theorem qc2{p:jg}(h:qw p=(0,0)){k:Nat}{x:Ins}(F:p[k]? =some x)(E:stB p k<0)(J:x.op≠7){j:Nat}(M:(j:Int)∈q3o p k x):k<j/\j<=p.length/\stB p j<0:=by
 obtain⟨j',hj',G,C,_,H⟩:=q58 h F _ M;obtain rfl:j=j':=Yu;refine⟨G,C,?_⟩;obtain⟨d,rfl⟩:∃d,j=k+d:=⟨j-k,Yu⟩
 rcases q8v E d with h|⟨b,y,hb1,hb2,z,l,n⟩
 ·exact h
 ·exfalso;have hbk:b≠k:=fun e=>by
   subst e;rw[F] at l;exact J (Option.some.inj l ▸ n)
  rcases H E b y Yu l n with I|I
  ·omega
  ·have u:=(qeu h C).bb;rw[z] at u
   rcases u with u|⟨_,_,u⟩
   ·omega
   ·rw[zD] at u;have:=(q3A (p.drop (k+d)) (k+d)).1;omega
theorem qkM{p:jg}(h:qw p=(0,0)){k:Nat}{x:Ins}(u:p[k]? =some x)(ho:stB p k<0):qJ x=0/\((0<=x.op/\x.op<=7)\/x.op=12\/x.op=13\/x.op=16\/x.op=17):=by
 have d:=q3P h u;have h18:=(q20 d.1).1;have h8:x.op≠8:=fun e=>by have:=d.2.2.1 e;omega
 have n:=d.2.2.2.2;refine⟨d.1,?_⟩
 by_cases l:x.op=9\/x.op=10\/x.op=11\/x.op=14\/x.op=15
 ·have:=n l;omega
 ·omega
def qrh(c:Cfg)(e:EvM):Prop:=(0<=e.w/\e.w<c.words)/\(∀x∈e.r,0<=x/\x<c.words)/\(∀x∈e.wl,0<=x/\x<c.words)/\e.r.length<=1000/\e.wl.length<=1000
def EvB(c:Cfg)(E:jl):Prop:=(∀e∈E,qrh c e)/\(E= []\/(∃e,E= [e]/\e.k≠3)\/∃a b,E= [a,b]/\b.k=4/\b.t=a.t/\b.ev=a.ev)
def EvG(c:Cfg)(E:jl):Prop:=(∀e∈E,qrh c e)/\∀(i:Nat) (a:EvM),E[i]? =some a->a.k=3->∃b,E[i+1]? =some b/\b.k=4/\b.t=a.t/\b.ev=a.ev
theorem EvB.nil{c:Cfg}:EvB c []:=⟨fun _ h=>(by cases h), .inl rfl⟩
theorem EvB.len{c:Cfg}{E:jl}(h:EvB c E):E.length<=2:=by
 rcases h.2 with rfl|⟨e,rfl, -⟩|⟨a,b,rfl, -⟩ <;>simp
theorem EvB.pair{c:Cfg}{n t:Int}{r w:je}(hw:0<c.words)(d:∀x∈r,0<=x/\x<c.words)(l:∀x∈w,0<=x/\x<c.words)(u:r.length<=1000)(y:w.length<=1000):EvB c [⟨n,t,3,0,[],[]⟩,⟨n,t,4,0,r,w⟩]:=by
 refine⟨fun e he=>?_, .inr (.inr ⟨_,_,rfl,rfl,rfl,rfl⟩)⟩
 rcases zN.1 he with rfl|he
 ·exact⟨⟨zW _,hw⟩,fun _ h=>(by cases h),fun _ h=>(by cases h),zv _,zv _⟩
 ·rw[zf.1 he];exact⟨⟨zW _,hw⟩,d,l,u,y⟩
theorem EvG.app{c:Cfg}{E F:jl}(h:EvG c E)(u:EvB c F):EvG c (E++F):=by
 refine⟨fun e he=>(zy.1 he).elim (h.1 e) (u.1 e),fun i a d n=>?_⟩
 by_cases z:i<E.length
 ·rw[zG z] at d;obtain⟨b,hb,l⟩:=h.2 i a d n;exact⟨b,by rw[zG (z7.1 hb).1];exact hb,l⟩
 ·rw[zT Yu] at d ⊢;rw[show i+1-E.length=(i-E.length)+1 by omega];generalize i-E.length=j at*
  rcases u.2 with rfl|⟨e,rfl,he⟩|⟨x,y,rfl,l⟩
  ·cases d
  ·match j,d with
   |0,d=>cases d;exact absurd n he
  ·match j,d with
   |0,d=>cases d;exact⟨y,rfl,l⟩
   |1,d=>cases d;rw[l.1] at n;exact absurd n Yv
structure GOk(c:Cfg)(P:List (jg))(s:GS):Prop where
 c0:qG c=0
 pv:∀p∈P,qw p=(0,0)
 na:∀p∈P,noA p
 st:c.strong=false
 dl:(s.d.length:Int)=c.words
 dr:∀x∈s.d,okU x
 kl:s.tk.length=(qT c).toNat
 tl:s.T.length=P.length
 ol:s.O.length=P.length
 th:∀(t:Nat) (th:Thr) (p:jg),s.T[t]? =some th->P[t]? =some p->th.rg.ok/\th.pc<=p.length/\stB p th.pc<0/\th.dn=decide (th.pc=p.length)/\okU th.oc
 el:s.E.length<=2*s.n
 ev:EvG c s.E
 ob:∀l∈s.O,l.length<=70*s.n
theorem GOk.fin{c:Cfg}{P:List (jg)}{s s':GS}(h:GOk c P s){t:Nat}{p:jg}(S:P[t]? =some p){th':Thr}{l:List ObM}{E:jl}{d:je}{tk:List Bool}(he:s'=(((s.mem d tk).ev E).fin t th' l))(hd:d.length=s.d.length)(F:∀x∈d,okU x)(H:tk.length=s.tk.length)(I:EvB c E)(hl:l.length<=70)
  (J:th'.rg.ok) (M:th'.pc<=p.length) (N:stB p th'.pc<0) (O:th'.dn=decide (th'.pc=p.length)) (Q:okU th'.oc):GOk c P {s' with n:=s.n+1}:=by
 subst he;refine⟨h.c0,h.pv,h.na,h.st,by show(d.length:Int)=_;rw[hd];exact h.dl,F,by show tk.length=_;rw[H];exact h.kl,by show(s.T.set t th').length=_;rw[zn];exact h.tl,by show(s.O.set t _).length=_;rw[zn];exact h.ol,fun u th q z G=>?_,?_,h.ev.app I,fun l' C=>?_⟩
 ·replace z:(s.T.set t th')[u]? =some th:=z
  rw[zx] at z
  split at z
  ·rename_i e;subst e;rw[S] at G;obtain rfl:=Option.some.inj G
   split at z
   ·obtain rfl:=Option.some.inj z;exact⟨J,M,N,O,Q⟩
   ·cases z
  ·exact h.th u th q z G
 ·have:=h.el;have:=I.len;show(s.E++E).length<=2*(s.n+1);rw[z8];omega
 ·replace C:l'∈s.O.set t (s.O.getD t []++l):=C
  show l'.length<=70*(s.n+1)
  rcases Zk C with C|rfl
  ·have:=h.ob l' C;omega
  ·rw[z8,zh];cases R:s.O[t]? with
   |none=>simp;omega
   |some y=>have:=h.ob y (zg R);simp;omega
theorem qbv{s:GS}:s.ev []=s:=by unfold GS.ev;rw[zz]
theorem q3b{s:GS}:s.mem s.d s.tk=s:=rfl
theorem qkR{c:Cfg}{n t:Nat}{k a:Int}(hw:0<c.words)(y:0<=a)(z:a<c.words)(C:k≠3):EvB c (plE c n t k a):=by
 have l:∀x∈ [a],0<=x/\x<c.words:=fun x u=>by rw[zf.1 u];exact⟨y,z⟩
 have d:∀x∈([]:je),0<=x/\x<c.words:=fun x u=>by cases u
 unfold plE
 split
 ·split
  ·exact EvB.pair hw l d Yw Yw
  ·exact EvB.pair hw d l Yw Yw
 ·refine⟨fun e he=>?_, .inr (.inl ⟨_,rfl,C⟩)⟩;rw[zf.1 he];exact⟨⟨y,z⟩,d,d,zv _,zv _⟩
theorem qsa{c:Cfg}{P:List (jg)}{s s':GS}(h:GOk c P s){t:Nat}{th:Thr}{p:jg}(S:s.T[t]? =some th)(O:P[t]? =some p){x:Ins}(V:p[th.pc]? =some x)(W:x.op≠7){f:Int}(u:sgM c p s th t f x=some s'):GOk c P {s' with n:=s.n+1}:=by
 obtain⟨y,hpc,H,hdn,J⟩:=h.th t th p S O;have U:=h.pv p (zg O);obtain⟨R,hop⟩:=qkM U V H;have X:=(q20 R).2.2.2.2.1;unfold sgM at u
 by_cases M:x.op=12\/x.op=13
 ·rw[if_pos M] at u;have C:=qc2 U V H W (j:=th.pc+1) (by unfold q3o;rw[if_neg Yu,if_neg Yu,if_neg Yu];simp);have F:∀(r:Rg) (E:jl) (d:je) (l:List ObM),s'=(((s.mem d s.tk).ev E).fin t (th.nxt p.length r) l)->r.ok->EvB c E->d.length=s.d.length->(∀x∈d,okU x)->l.length<=70->GOk c P {s' with n:=s.n+1}:=fun r E d l h6 h1 h2 h3 I h5=>
   h.fin O h6 h3 I rfl h2 h5 h1 C.2.1 C.2.2 rfl J
  have N:0<c.words:=by have:=(q1P h.c0).1;unfold okW at this;omega
  have ha:=q8G (r:=th.rg) (b:=if x.op=12 then x.b else x.a) (imm:=x.imm);dsimp only at u;generalize adr th.rg (if x.op=12 then x.b else x.a) x.imm=z at*
  split at u
  ·split at u
   ·exact F th.rg [] s.d _ (by rw[qbv,q3b];exact(Option.some.inj u).symm) y EvB.nil rfl h.dr Yw
   ·cases u
  ·split at u
   ·refine F _ [] s.d _ (by rw[qbv,q3b];exact(Option.some.inj u).symm) ?_ EvB.nil rfl h.dr Yw
    split
    ·exact Rg.ok_set y ⟨Yv,Yv⟩
    ·exact y
   ·split at u
    ·exact F _ _ s.d _ (by rw[q3b];exact(Option.some.inj u).symm) (Rg.ok_set y (qf6 h.dr _)) (qkR N ha.1 Yu Yv) rfl h.dr Yw
    ·exact F _ _ _ _ (Option.some.inj u).symm y (qkR N ha.1 Yu Yv) (zn ..) (q7e h.dr (y _)) Yw
 ·rw[if_neg M] at u
  split at u
  ·cases u
  ·have Q:((q1L th x:Nat):Int)∈q3o p th.pc x:=by
    unfold q1L q3o
    by_cases I:x.op=4
    ·rw[if_pos I,if_pos (Or.inl I),zf];have:=X (.inl I);omega
    ·rw[if_neg I]
     by_cases G:x.op=5\/x.op=6
     ·rw[if_pos G];have:=X (.inr G)
      split
      ·simp;omega
      ·simp
     ·rw[if_neg G,if_neg Yu,if_neg Yu];simp
   have C:=qc2 U V H W Q;refine h.fin (th':={q1h th x with dn:=decide ((q1h th x).pc=p.length)}) (l:=if x.op=16 then [⟨th.pc,6,0⟩] else []) (E:= []) (d:=s.d) (tk:=s.tk) O (by rw[qbv,q3b];exact(Option.some.inj u).symm) rfl h.dr rfl EvB.nil ?_ (qat y) C.2.1 C.2.2 rfl J
   split <;>simp
theorem qsn{c:Cfg}{P:List (jg)}{s s':GS}(h:GOk c P s){t:Nat}{th:Thr}{p:jg}(N:s.T[t]? =some th)(G:P[t]? =some p){x:Ins}(R:p[th.pc]? =some x)(Q:x.op=7){f:Int}{ad:je}(J:∀a∈ad,a<=9223372036854775807)(y:txM c p s th t f ad=some s'):GOk c P {s' with n:=s.n+1}:=by
 obtain⟨F,hpc,hst,hdn,hoc⟩:=h.th t th p N G;have O:=h.pv p (zg G);obtain⟨e,he,M,hel,_,hse,_⟩:=q0g O R Q;unfold txM at y;rw[he] at y
 split at y
 ·split at y
  ·rename_i hf;exact h.fin (th':=⟨e+1,th.rg,f,decide (e+1=p.length)⟩) (l:= [⟨th.pc,3,f⟩]) (E:= []) (d:=s.d) (tk:=s.tk) G (by rw[qbv,q3b];exact(Option.some.inj y).symm) rfl h.dr rfl EvB.nil Yw F (by simp only;omega) (by simp only;omega) rfl ⟨by simp only;omega,by simp only;omega⟩
  ·cases y
 ·have I:BI c ⟨s.d,s.tk,{th with pc:=th.pc+1},[],[],[],ad⟩:=⟨h.dl,h.dr,h.kl,F,zv _,zv _,zv _,fun _ h=>(by cases h),fun _ h=>(by cases h),J⟩
  have C:=qg1 O R Q (h.na p (zg G)) (c:=c) p.length ⟨s.d,s.tk,{th with pc:=th.pc+1},[],[],[],ad⟩ (Z3 _) (by rw[he];exact M) I;generalize q2c c p p.length ⟨s.d,s.tk,{th with pc:=th.pc+1},[],[],[],ad⟩=z at*;obtain⟨V,S⟩:=z;dsimp only at y C
  split at y
  ·cases y
  ·rename_i U;obtain⟨u,⟨hz0,hz1⟩,hpce⟩:=C (fun e=>U (.inl e));have hpl:=q5z O;have h1:=u.ol;have H:0<c.words:=by have:=(q1P h.c0).1;unfold okW at this;omega
   have h2:=u.rl;have h3:=u.wl
   split at y
   ·exact h.fin G (Option.some.inj y).symm (by have:=h.dl;have:=u.dl;omega) u.dr (by rw[u.tl,h.kl]) (EvB.pair H u.rr u.wr Yu Yu) (by simp;omega) u.rg (by simp only;omega) (by simp only;omega) rfl (show okU 1 from ⟨Yv,Yv⟩)
   ·exact h.fin (th':=⟨e+1,th.rg,S,decide (e+1=p.length)⟩) (l:= [⟨th.pc,3,S⟩]) (E:= [⟨s.n,t,3,0,[],[]⟩,⟨s.n,t,4,0,V.r,[]⟩]) (d:=s.d) (tk:=s.tk) G (by rw[q3b];exact(Option.some.inj y).symm) rfl h.dr rfl (EvB.pair H u.rr (fun _ h=>(by cases h)) Yu (zv _)) Yw F (by simp only;omega) (by simp only;omega) rfl ⟨by simp only;omega,by simp only;omega⟩
theorem qcY{c:Cfg}{P:List (jg)}{s:GS}(h:GOk c P s){ch:ChM}(n:∀a∈ch.ad,a<=9223372036854775807):GOk c P (doM c P s ch).2:=by
 unfold doM;cases d:chM c P s ch with
 |none=>exact h
 |some s'=>
  unfold chM at d
  split at d
  ·cases d
  ·split at d
   ·rename_i th p l u
    split at d
    ·cases d
    ·split at d
     ·rename_i x y
      split at d
      ·exact qsn h l u y (by assumption) n d
      ·split at d
       ·exact qsa h l u y (by assumption) d
       ·cases d
     ·cases d
   ·cases d
section
variable{W0:World}{Kp K Y:Own}{g:GP}{c:Cfg}{ps:jk}{s:GS}
theorem q9z(h:g.ok W0 Kp ps s){t:Nat}{th:Thr}{ph:PH}{x:Ins}(d:s.T[t]? =some th)(n:ps[t]? =some ph)(y:th.dn=false)(z:ph.p[th.pc]? =some x)(q:Own) [ek:qr q Kp]:
  jo W0 20 [jp g.gb,j5 t] (g.O c ps.length s++q) (.tuple #[x.v, .bool true]):=by
 refine qg (sH (jq 17 3 [38,39,0]) ?_);have l:=h.t.rd (W0:=W0);have C:=h.k;have u:=h.kp ph (zg n);have htl:=(z7.1 d).1;obtain⟨pc,rg,oc,dn⟩:=th;dsimp only at y z;subst y
 repeat'((try conv=>whnf);first|refine fH ?_|refine fD ?_|refine fK ?_|(apply gLd;first|refine q0l l d rfl ?_|refine qpR l d rfl ?_|refine q0l C n rfl ?_)|(apply qF;first|refine ixE l d ?_ ?_;(first|rfl|omega)|refine ixE C n ?_ ?_;(first|rfl|omega)|refine ixE u z ?_ ?_;(first|rfl|omega))|apply q24;refine q0C u z rfl ?_|refine fA ?_|refine fL ?_|refine fM ?_|refine qf fun bk hbk=>?_)
 all_goals exact⟨rfl,(eC)⟩
theorem q9y(h:g.ok W0 Kp ps s){t:Int}(y:t<0\/(s.T.length:Int)<=t\/∃(j:Nat) (th:Thr),t=j/\s.T[j]? =some th/\th.dn=true)(q:Own):
  jo W0 20 [jp g.gb,j5 t] (g.O c ps.length s++q) (.tuple #[(⟨0,0,0,0,0⟩:Ins).v, .bool false]):=by
 refine qg (sH (jq 17 3 [38,39,0]) ?_);have l:=h.t.rd (W0:=W0)
 rcases y with y|y|⟨j,th,rfl,d,u⟩
 ·repeat'((try conv=>whnf);first|refine fH ?_|refine fI ?_|refine fE ?_|refine fJ ?_|refine fL ?_|refine fM ?_|refine qf fun z n=>?_)
  all_goals exact⟨rfl,(eC)⟩
 ·by_cases h0:t<0
  all_goals
   repeat'((try conv=>whnf);first|refine fH ?_|refine fI ?_|refine fE ?_|refine fJ ?_|refine fK ?_|refine fA ?_|refine fL ?_|refine fM ?_|refine qf fun z n=>?_)
   all_goals exact⟨rfl,(eC)⟩
 ·have htl:=(z7.1 d).1;obtain⟨pc,rg,oc,dn⟩:=th;dsimp only at u;subst u
  repeat'((try conv=>whnf);first|refine fH ?_|refine fE ?_|refine fK ?_|apply gLd;refine qpR l d rfl ?_|(apply qF;first|refine ixE l d ?_ ?_;(first|rfl|omega))|refine fA ?_|refine fL ?_|refine fM ?_|refine qf fun z n=>?_)
  all_goals exact⟨rfl,(eC)⟩
theorem qta{p:jg}{th:Thr}{t:Nat}{f:Int}{ad:je}{s':GS}(h:txM c p s th t f ad=some s'):s'.n=s.n:=by
 unfold txM at h
 split at h
 ·split at h
  ·rw[<-Option.some.inj h];rfl
  ·cases h
 ·split at h
  split at h
  ·cases h
  ·split at h <;>(rw[<-Option.some.inj h];rfl)
theorem qt6{p:jg}{th:Thr}{t:Nat}{f:Int}{x:Ins}{s':GS}(h:sgM c p s th t f x=some s'):s'.n=s.n:=by
 unfold sgM at h
 split at h
 ·generalize adr th.rg (if x.op=12 then x.b else x.a) x.imm=z at h;dsimp only at h
  split at h
  ·split at h
   ·rw[<-Option.some.inj h];rfl
   ·cases h
  ·split at h
   ·rw[<-Option.some.inj h];rfl
   ·split at h <;>(rw[<-Option.some.inj h];rfl)
 ·split at h
  ·cases h
  ·rw[<-Option.some.inj h];rfl
theorem qq9{t:Nat}{ph:PH}(h:ps[t]? =some ph):(ps.map PH.p)[t]? =some ph.p:=by rw[zI,h];rfl
theorem qqr(hF:qz W0)(h:g.ok W0 Kp ps s)(z:g.ev W0 Y)(C:GOk c (ps.map PH.p) s)(hn:s.n<=5000)(t f:Int){aa:j9}{ad:je}{ac:Nat}(hA:RdE qv 1 W0 K aa ad)(af:ad.length<=ac)(ae:∀a∈ad,a<=9223372036854775807)(q:Own) [ek:qr q Kp]:
  jn W0 23 [jp g.gb,chV t f aa ad.length ac] (g.O c ps.length s++q) fun v own'=>∃g':GP,
   (v= j5 (doM c (ps.map PH.p) s ⟨t,f,ad⟩).1/\g'.ok W0 Kp ps (doM c (ps.map PH.p) s ⟨t,f,ad⟩).2/\g'.ev W0 Y/\g'.gb=g.gb)/\Ent W0 own' (g'.O c ps.length (doM c (ps.map PH.p) s ⟨t,f,ad⟩).2++q):=by
 refine sH [] ?_
 by_cases U:t<0\/(s.T.length:Int)<=t\/∃(j:Nat) (th:Thr),t=j/\s.T[j]? =some th/\th.dn=true
 ·have hd:doM c (ps.map PH.p) s ⟨t,f,ad⟩=(70,s):=by
   unfold doM chM
   rcases U with U|U|⟨j,th,rfl,u,H⟩
   ·rw[if_pos U]
   ·by_cases h0:t<0
    ·rw[if_pos h0]
    ·rw[if_neg h0,zV (by show s.T.length<=t.toNat;omega)]
   ·rw[if_neg (by show ¬((j:Nat):Int)<0;omega)];simp only[zD,u];cases hp:(ps.map PH.p)[j]? with
    |none=>rfl
    |some p=>simp only[H,if_true]
  rw[hd];have G:=q9y (c:=c) h U
  repeat'((try conv=>whnf);first|refine fE ?_|refine fD ?_|apply qe;refine qm (q22 (G _)) ?_|refine fO ?_|refine fA ?_|refine fM ?_|refine qf fun bk M=>?_)
  all_goals exact⟨g,⟨rfl,h,z,rfl⟩,(eC)⟩
 ·have az:0<=t/\t<s.T.length:=⟨Yu,Yu⟩
  obtain⟨j,rfl⟩:=Zp az.1;have aq:j<s.T.length:=Yu;obtain⟨th,u⟩:∃th,s.T[j]? =some th:=⟨_,z6 aq⟩
  have aA:=C.tl;rw[zi] at aA;obtain⟨ph,O⟩:∃ph,ps[j]? =some ph:=⟨_,z6 Yu⟩
  have I:=qq9 O;have Q:=C.pv ph.p (zg I);obtain⟨aw,hpc,ay,H,hoc⟩:=C.th j th ph.p u I;have N:th.dn=false:=by
   cases hd:th.dn with
   |false=>rfl
   |true=>exact absurd (.inr (.inr ⟨j,th,rfl,u,hd⟩)) U
  have J:th.pc<ph.p.length:=by
   rw[N] at H;have:=of_decide_eq_false H.symm;omega
  obtain⟨x,hx⟩:∃x,ph.p[th.pc]? =some x:=⟨_,z6 J⟩
  have G:=q9z (c:=c) h u O N hx;have au:=q5z Q;have aB:=qkM Q hx ay;have hT:qr8 c ps s j th ph:=⟨u,O,C.c0,C.st,aw,C.dl,C.dr,by rw[C.ol,C.tl],fun l hl=>by have:=C.ob l hl;omega,by have:=C.el;omega⟩
  have hd:doM c (ps.map PH.p) s ⟨j,f,ad⟩=match (if x.op=7 then txM c ph.p s th j f ad else if ad= [] then sgM c ph.p s th j f x else none) with
   |some s'=>(0,{s' with n:=s.n+1})
   |none=>(70,s):=by
   unfold doM chM;rw[if_neg (by show ¬((j:Nat):Int)<0;omega)];simp only[zD,u,I,N,zL,if_false,hx];cases (if x.op=7 then txM c ph.p s th j f ad else if ad= [] then sgM c ph.p s th j f x else none) <;>rfl
  rw[hd];clear hd;have F:∀s':GS,(if x.op=7 then txM c ph.p s th j f ad else if ad= [] then sgM c ph.p s th j f x else none)=some s'->s'.n=s.n:=fun s' e=>by
   split at e
   ·exact qta e
   ·split at e
    ·exact qt6 e
    ·cases e
  by_cases X:x.op=7
  ·rw[if_pos X] at F ⊢;have aj:=qj4 (c:=c) hF hT h z Q (C.na ph.p (zg I)) hx X C.kl f hA af ae q;generalize txM c ph.p s th j f ad=o at*;obtain⟨op,a,b',c',imm⟩:=x;dsimp only[Ins.v] at*;subst X
   repeat'((try conv=>whnf);first|refine fE ?_|refine fD ?_|(apply qe;first|refine qm (q22 (G _)) ?_|refine q2j aj ?_ ?_ ?_ (fun v z=>?_) fun s' v z=>?_;exact(eC);exact rfl;exact rfl;obtain⟨rfl,S⟩:=z;rotate_left;obtain⟨rfl,W,d,R,E⟩:=z;(have V:=F _ W);subst W;rw[<-E])|refine fB ?_|refine fO ?_|refine fA ?_|refine fL ?_|refine fN ?_|refine fM ?_|refine qf fun bk M=>?_)
   ·have e1:((s.n+1:Nat):Int)=(s'.1.n:Int)+1:=Yu;refine⟨s'.2,⟨rfl,⟨d.d,d.m,d.k,d.kp,d.t,d.e,d.em,d.o,d.os,d.ol⟩,R,rfl⟩,?_⟩;dsimp only[GP.O,GP.cells];rw[e1];exact(eC)
   ·subst S;exact⟨g,⟨rfl,h,z,rfl⟩,(eC)⟩
  ·rw[if_neg X] at F ⊢
   by_cases y:ad= []
   ·rw[if_pos y] at F ⊢;have hl:(ad.length:Int)=0:=by rw[y];rfl
    have ax:=qgN (c:=c) hT h z aB.1 ⟨J,au⟩ f aa ad.length ac q;generalize sgM c ph.p s th j f x=o at*;obtain⟨op,a,b',c',imm⟩:=x;dsimp only[Ins.v] at*
    repeat'((try conv=>whnf);first|refine fH ?_|refine fE ?_|refine fD ?_|refine fG ?_|refine fJ ?_|(apply qe;first|refine qm (q22 (G _)) ?_|refine q2j ax ?_ ?_ ?_ (fun v z=>?_) fun s' v z=>?_;exact(eC);exact rfl;exact rfl;obtain⟨rfl,S⟩:=z;rotate_left;obtain⟨rfl,W,d,R,E⟩:=z;(have V:=F _ W);subst W;rw[<-E])|refine fB ?_|refine fO ?_|refine fA ?_|refine fL ?_|refine fN ?_|refine fM ?_|refine qf fun bk M=>?_)
    ·have e1:((s.n+1:Nat):Int)=(s'.1.n:Int)+1:=Yu;refine⟨s'.2,⟨rfl,⟨d.d,d.m,d.k,d.kp,d.t,d.e,d.em,d.o,d.os,d.ol⟩,R,rfl⟩,?_⟩;dsimp only[GP.O,GP.cells];rw[e1];exact(eC)
    ·subst S;exact⟨g,⟨rfl,h,z,rfl⟩,(eC)⟩
   ·rw[if_neg y];have hl:¬(ad.length:Int)=0:=fun e=>y (Zq Yu)
    obtain⟨op,a,b',c',imm⟩:=x;dsimp only[Ins.v] at*
    repeat'((try conv=>whnf);first|refine fI ?_|refine fE ?_|refine fD ?_|refine fG ?_|refine fK ?_|apply qe;refine qm (q22 (G _)) ?_|refine fO ?_|refine fA ?_|refine fM ?_|refine qf fun bk M=>?_)
    exact⟨g,⟨rfl,h,z,rfl⟩,(eC)⟩
end
open Go
structure RG where
 da:j9
 dc:Nat
 dD:Own
 ta:j9
 tc:Nat
 tD:Own
 ea:j9
 ec:Nat
 eD:Own
 L:ji
 X:Own
 oa:j9
 oc:Nat
 oD:Own
 S:List ObS
abbrev RG.v(r:RG)(s:GS):Value:= .agg #[.slice r.da s.d.length r.dc, .slice r.ta s.T.length r.tc, .slice r.ea r.L.length r.ec, .slice r.oa r.S.length r.oc]
def RG.D(r:RG):Own:=r.dD++(r.tD++(r.eD++(r.X++(r.oD++q3B r.S))))
structure RG.ok(r:RG)(W0:World)(s:GS):Prop where
 d:qo q05 72 1 r.da r.dc s.d r.dD
 t:qo Thr.enc 105 11 r.ta r.tc s.T r.tD
 e:qo EH.enc 100 6 r.ea r.ec r.L r.eD
 em:r.L.map EH.m=s.E
 ev:∀e∈r.L,RdE qv 1 W0 r.X e.ra e.rl/\RdE qv 1 W0 r.X e.wa e.wl
 o:qo ObS.enc 92 1 r.oa r.oc r.S r.oD
 os:∀x∈r.S,qo ObM.enc 94 3 x.a x.cap x.l x.D
 ol:r.S.map ObS.l=s.O
theorem qcE{α β:Type}{f:α->β}{l:List α}{m:List α}{i:Nat}{e e':α}(h:m.map f=(l.take i).map f)(d:l[i]? =some e)(he:f e'=f e):(m++ [e']).map f=(l.take (i+1)).map f:=by
 obtain⟨n,d⟩:=z7.1 d;rw[zZ,z6 n,d];simp[h,he]
theorem qiu{α β:Type}{f:α->β}{l:List α}{m:List α}{i:Nat}(h:m.map f=(l.take i).map f)(d:i<=l.length):m.length=i:=by
 have:=congrArg List.length h
 simpa [Nat.min_eq_left d] using this
section
variable{W0:World}{e b:jd}{A B Z:Own}
theorem qpg:Ent W0 (e::(B++(A++(b::Z)))) (b::(e::(A++(B++Z)))):=qu []
theorem qph:Ent W0 (B++(e::(A++(b::Z)))) (b::(e::(A++(B++Z)))):=qu []
theorem qpi:Ent W0 (B++(A++(e::(b::Z)))) (b::(e::(A++(B++Z)))):=qu []
theorem qpj{z y b2 b3:jd}{D1 d l n u X:Own}:Ent W0 (z::(n++(l++(y::(b2::(b3::(D1++(d++(u++(X++Z)))))))))) (b2::(b3::(D1++(d++(u++((l++(n++X))++Z)))))):=qu [z,y]
theorem qpk{u b2 b3:jd}{D1 d l eD n X S:Own}:Ent W0 (u::(l++(b2::(b3::(D1++(d++(eD++(X++(n++(S++Z)))))))))) (b2::(b3::(D1++(d++(eD++(X++(n++((S++l)++Z)))))))):=qu [u]
theorem qpl{b2 b3:jd}{D1 d eD oD X S:Own}:Ent W0 (b2::(b3::(D1++(d++(eD++(X++(oD++(S++Z)))))))) ((D1++(d++(eD++(X++(oD++S)))))++Z):=qu [b2,b3]
end
theorem qc3{S:List ObS}{x:ObS}:q3B (S++ [x])=q3B S++x.D:=by simp[q3B]
section
variable{W0:World}{Kp Y:Own}{g:GP}{c:Cfg}{ps:jk}{s:GS}
theorem q7b(h:g.ok W0 Kp ps s)(d:g.ev W0 Y)(hd:s.d.length<=500000)(hT:s.T.length<=500000)(hE:s.E.length<=500000)(hO:s.O.length<=500000)(aA:∀l∈s.O,l.length<=500000)(aK:∀e∈s.E,e.r.length<=500000/\e.wl.length<=500000)(q:Own):
  jn W0 17 [jp g.gb] (g.O c ps.length s++q) fun v own'=>∃r:RG,
   (v=r.v s/\r.ok W0 s)/\Ent W0 own' (r.D++(g.O c ps.length s++q)):=by
 have hEl:g.L.length=s.E.length:=by rw[<-h.em,zi]
 have hSl:g.S.length=s.O.length:=by rw[<-h.ol,zi]
 have W:=h.e.rd (W0:=W0);have X:=h.o.rd (W0:=W0);refine sC [69] [3,5,7,9,11,15,17,19,1,14,21,1,24,25,28,30,0,28,24,25,30,0,1,21,1,14,1,24,25,28,30,0,28,24,25,30,0,28,14,24,25,30,0,28,1,14,21,24,25,30,0,21,14,24,25,30,0,3,5,9,1,8,11,15,14,18,19,22,0,11,8,15,14,18,19,22,0,3,7,1,5,10,12,14,15,18,0,10,5,12,14,15,18,0] ?_;have aC:=fun(own':Own) [qr own' g.dD]=>qN (cap:=g.dc) (RdE.up (own:=own') (h.d.rd (W0:=W0))) Yu
 have aG:=fun(own':Own) [qr own' g.tD]=>q2Y (cap:=g.tc) (RdE.up (own:=own') (h.t.rd (W0:=W0))) Yu
 repeat'((try conv=>whnf);first|refine qf fun b2 h2=>?_;apply Stop.h)
 refine Stop.mk ?_
 repeat'((try conv=>whnf);first|refine fD ?_)
 refine q3S (σ:=Nat×(j9×Nat×Own)×(j9×Nat×Own)) 8386568 (fun y=> [(3,jp y.1)])
  (fun y=>(b2,j8 #[j7,j7,j7,j7] 57 (0,0))::((y.1,j8 #[.slice y.2.1.1 s.d.length y.2.1.2.1, .slice y.2.2.1 s.T.length y.2.2.2.1,j7,j7] 57 (0,0))::(y.2.1.2.2++(y.2.2.2.2++(g.O c ps.length s++q)))))
  (fun y=>qo q05 72 1 y.2.1.1 y.2.1.2.1 s.d y.2.1.2.2/\qo Thr.enc 105 11 y.2.2.1 y.2.2.2.1 s.T y.2.2.2.2) rfl ?_ ?_
 ·repeat'((try conv=>whnf);first|refine qf fun b3 h3=>?_|(apply qe;first|refine qi (aC _) fun y v d=>?_;obtain⟨a1,c1,D1⟩:=y;obtain⟨rfl,Q⟩:=d;dsimp only at Q|refine qi (aG _) fun y v d=>?_;obtain⟨a2,c2,R⟩:=y;obtain⟨rfl,n⟩:=d;dsimp only at n)|refine fA ?_|refine fM ?_|refine q1a.mk ?_ ?_)
  all_goals
   refine⟨(b3,(a1,c1,D1),(a2,c2,R)),⟨Q,n⟩,(eF),?_⟩
   first|exact qpg|exact qph|exact qpi|exact ent_r4|exact ent_r5|exact ent_r6
 ·rintro⟨b3,⟨a1,c1,D1⟩,⟨a2,c2,R⟩⟩ E ⟨U,n⟩;dsimp only at U n ⊢
  repeat'((try conv=>whnf);first|refine fA ?_)
  --the events
  refine qK (σ:=Nat×ji×Own×j9×Nat×Own) (fun y=> [(28,j5 y.1)])
   (fun y=>(b2,j8 #[j7,j7,j7,j7] 57 (0,0))::((b3,j8 #[.slice a1 s.d.length c1, .slice a2 s.T.length c2, .slice y.2.2.2.1 y.2.1.length y.2.2.2.2.1,j7] 57 (0,0))::(D1++(R++(y.2.2.2.2.2++(y.2.2.1++(g.O c ps.length s++q)))))))
   (fun y=>y.1<=g.L.length/\y.2.1.map EH.m=(g.L.take y.1).map EH.m/\qo EH.enc 100 6 y.2.2.2.1 y.2.2.2.2.1 y.2.1 y.2.2.2.2.2/\∀e∈y.2.1,RdE qv 1 W0 y.2.2.1 e.ra e.rl/\RdE qv 1 W0 y.2.2.1 e.wa e.wl)
   (fun y=>g.L.length-y.1) (0,[],[],none,0,[]) ⟨zv _,rfl,qo.nil,fun _ h=>by cases h⟩ (eF) ?_ rfl ?_
  ·exact Ent.refl
  ·rintro⟨i,L',X',ea,ec,eD⟩ E ⟨hi,hm,Q,hX⟩;dsimp only at hi hm Q hX ⊢;have hll:=qiu hm hi
   by_cases ae:i<g.L.length
   ·obtain⟨e,C⟩:∃e,g.L[i]? =some e:=⟨_,z6 ae⟩
    have O:=zg C;have aq:=(d.1 e O).1;have au:=(d.1 e O).2;have aJ:=aK e.m (by rw[<-h.em];exact Zi O);obtain⟨ev,et,G,ew,era,H,ay,ewa,I,az⟩:=e;dsimp only[EH.m] at aq au aJ C;have aF:=fun(own':Own) [qr own' g.X]=>qL (cap:=ay) (RdE.up (own:=own') aq) Yu
    have aH:=fun(own':Own) [qr own' g.X]=>qL (cap:=az) (RdE.up (own:=own') au) Yu
    repeat'((try conv=>whnf);first|refine fF ?_|refine qf fun b5 h5=>?_;apply Stop.h|(apply qF;first|refine ixE W C ?_ ?_;(first|rfl|omega))|apply q24;refine q0C W C rfl ?_)
    refine Stop.mk ?_
    repeat'((try conv=>whnf);first|apply q0z (enc:=EH.enc) (T:=100) ⟨ev,et,G,ew,a3,H,F,a4,I,c4⟩ Q;exact rfl;exact rfl;omega;exact rfl;exact rfl;omega;intro a9 c9 D5 N|(apply qe;first|refine qi (aF _) fun y v d=>?_;obtain⟨a3,F,S⟩:=y;obtain⟨rfl,u⟩:=d;dsimp only at u|refine qi (aH _) fun y v d=>?_;obtain⟨a4,c4,D4⟩:=y;obtain⟨rfl,V⟩:=d;dsimp only at V)|refine fB ?_|refine fA ?_|refine fL ?_|refine fN ?_|refine fM ?_|refine qf fun bk aB=>?_|refine q1a.mk ?_ ?_)
    all_goals
     refine⟨(i+1,L'++ [⟨ev,et,G,ew,a3,H,F,a4,I,c4⟩],S++(D4++X'),a9,c9,D5),⟨ae,qcE hm C rfl,N,fun e he=>?_⟩,(by show g.L.length-(i+1)<g.L.length-i;omega),(eF),?_⟩
     ·rcases zy.1 he with he|he
      ·exact⟨(hX e he).1.up,(hX e he).2.up⟩
      ·rw[zf.1 he];exact⟨RdE.up (u.rd (W0:=W0)),RdE.up (V.rd (W0:=W0))⟩
     ·have hlen:(L'++ [(⟨ev,et,G,ew,a3,H,F,a4,I,c4⟩:EH)]).length=L'.length+1:=Yw;dsimp only;rw[hlen];exact qpj
   ·have aI:i=g.L.length:=Yu;subst aI;rw[Z4] at hm
    repeat'((try conv=>whnf);first|refine fG ?_|refine fA ?_)
    refine qK (σ:=Nat×List ObS×j9×Nat×Own) (fun y=> [(52,j5 y.1)])
     (fun y=>(b2,j8 #[j7,j7,j7,j7] 57 (0,0))::((b3,j8 #[.slice a1 s.d.length c1, .slice a2 s.T.length c2, .slice ea L'.length ec, .slice y.2.2.1 y.2.1.length y.2.2.2.1] 57 (0,0))::(D1++(R++(eD++(X'++(y.2.2.2.2++(q3B y.2.1++(g.O c ps.length s++q)))))))))
     (fun y=>y.1<=g.S.length/\y.2.1.map ObS.l=(g.S.take y.1).map ObS.l/\qo ObS.enc 92 1 y.2.2.1 y.2.2.2.1 y.2.1 y.2.2.2.2/\∀x∈y.2.1,qo ObM.enc 94 3 x.a x.cap x.l x.D)
     (fun y=>g.S.length-y.1) (0,[],none,0,[]) ⟨zv _,rfl,qo.nil,fun _ h=>by cases h⟩ (eF) ?_ rfl ?_
    ·exact Ent.refl
    ·rintro⟨j,S',oa,oc,oD⟩ E ⟨hj,z,J,M⟩;dsimp only at hj z J M ⊢;have hllS:=qiu z hj
     by_cases af:j<g.S.length
     ·obtain⟨x,C⟩:∃x,g.S[j]? =some x:=⟨_,z6 af⟩
      have ax:=zg C;have aw:=(h.os x ax).rd (W0:=W0);have aM:=aA x.l (by rw[<-h.ol];exact Zi ax);have aj:=q28 C;obtain⟨xa,xc,xl,xD⟩:=x;dsimp only at aw aM aj;have aE:=fun(own':Own) [qr own' xD]=>q2X (cap:=xc) (RdE.up (own:=own') aw) Yu
      dsimp only[GP.O];rw[aj]
      repeat'((try conv=>whnf);first|refine fF ?_|apply q0z (enc:=ObS.enc) (T:=92) ⟨a3,F,xl,S⟩ J;exact rfl;exact rfl;omega;exact rfl;exact rfl;omega;intro a9 c9 D5 N|apply gLd;refine q0l X C rfl ?_|(apply qF;first|refine ixE X C ?_ ?_;(first|rfl|omega))|(apply qe;first|refine qi (aE _) fun y v d=>?_;obtain⟨a3,F,S⟩:=y;obtain⟨rfl,u⟩:=d;dsimp only at u)|refine fB ?_|refine fA ?_|refine fN ?_|refine qf fun bk aB=>?_|refine q1a.mk ?_ ?_)
      all_goals
       refine⟨(j+1,S'++ [⟨a3,F,xl,S⟩],a9,c9,D5),⟨af,qcE z C rfl,N,fun e he=>?_⟩,(by show g.S.length-(j+1)<g.S.length-j;omega),(eF),?_⟩
       ·rcases zy.1 he with he|he
        ·exact M e he
        ·rw[zf.1 he];exact u
       ·have hlen:(S'++ [(⟨a3,F,xl,S⟩:ObS)]).length=S'.length+1:=Yw;dsimp only;rw[hlen,qc3];exact qpk
     ·have aL:j=g.S.length:=Yu;subst aL;rw[Z4] at z
      repeat'((try conv=>whnf);first|refine fG ?_|refine fL ?_|refine fM ?_)
      exact⟨⟨a1,c1,D1,a2,c2,R,ea,ec,eD,L',X',oa,oc,oD,S'⟩,⟨rfl,⟨U,n,Q,by rw[hm,h.em],hX,J,M,by rw[z,h.ol]⟩⟩,qpl⟩
end
open Go
theorem qpc{W0:World}{e m:jd}{A Z:Own}:Ent W0 (e::(m::(A++Z))) (e::(A++(m::Z))):=qu []
theorem qpd{W0:World}{e m:jd}{A Z:Own}:Ent W0 (e::(A++(m::Z))) (e::(A++(m::Z))):=Ent.refl
theorem qpe{W0:World}{y d gb mb b1:jd}{D1 l n u L Z:Own}:Ent W0 (y::(d::(l++(gb::(D1++(mb::(n++(L++(u++(b1::Z)))))))))) (gb::(D1++(mb::(n++((L++l)++(u++(b1::Z))))))):=qu [y,d]
theorem qpf{W0:World}{gb mb b1:jd}{D1 d l tD L Z:Own}:Ent W0 (d++(gb::(D1++(mb::(l++(L++(tD++(b1::Z)))))))) ((gb::(D1++(mb::(tD++([]++(d++([]++ [])))))))++((l++L)++Z)):=qu [b1]
theorem qmY{W0:World}{d:Own}{ys:List PB}{x:PB}{a:j9}{l:jg}(n:x∈ys)(h:RdE Ins.enc 5 W0 x.D a l):RdE Ins.enc 5 W0 (d++q3W ys) a l:=by
 obtain⟨u,l2,rfl⟩:=ZB n;refine h.ent ?_;simp only[q3W,zB,zF,zY,Z8];exact qu (d++((u.map PB.D).flatten++(l2.map PB.D).flatten))
theorem qca:∀(ps:jk) (t:Nat),psG ps t=none->∀h∈ps,qw h.p=(0,0)
 | [],_,_,_,h=>by cases h
 |x::l,t,d,y,u=>by
  unfold psG at d
  split at d
  ·cases d
  ·rename_i h0
   rcases zN.1 u with rfl|u
   ·have n:(qw y.p).2=0:=Yu;exact qa5.1 n
   ·exact qca l (t+1) d y u
theorem qq8:∀(ps:jk) (t:Nat) (r:Int×Int×Int),psG ps t=some r->r.2.2≠0
 | [],_,_,h=>by cases h
 |x::l,t,r,d=>by
  unfold psG at d
  split at d
  ·rename_i n;rw[<-Option.some.inj d];exact n
  ·exact qq8 l (t+1) r d
theorem qi0{c:Cfg}{il:Nat}{ps:jk}(h:(csM c il ps []).2.2=0):csM c il ps []=(0,0,0)/\qG c=0/\(1<=ps.length/\ps.length<=16)/\(il:Int)=c.words/\∀h∈ps,qw h.p=(0,0):=by
 unfold csM at h ⊢
 by_cases d:qG c=0
 ·rw[if_neg Yu] at h ⊢
  by_cases n:ps.length<1\/16<ps.length
  ·rw[if_pos n] at h;exact absurd h Yv
  ·rw[if_neg n] at h ⊢
   by_cases u:(il:Int)≠c.words
   ·rw[if_pos u] at h;exact absurd h Yv
   ·rw[if_neg u] at h ⊢;cases l:psG ps 0 with
    |some r=>rw[l] at h;exact absurd h (qq8 ps 0 r l)
    |none=>exact⟨rfl,d,Yu,Yu,qca ps 0 l⟩
 ·rw[if_pos d] at h;exact absurd h d
def qdV(p:jg):Thr:=⟨0,⟨0,0,0,0,0,0,0,0⟩,0,decide (p.length=0)⟩
section
variable{W0:World}{own:Own}{c:Cfg}{ia pa ka:j9}{ic pc kc:Nat}{ps:jk}{il ks:je}
theorem qgA(hF:qz W0)(hI:RdE q05 1 W0 own ia il)(F:il.length<=1000000)(X:RdE PH.enc 1 W0 own pa ps)(hQ:∀h∈ps,RdE Ins.enc 5 W0 own h.a h.p):
  jn W0 25 [q9i c ia il.length ic pa ps.length pc ka ks.length kc] own fun v own'=>
   ((v= .tuple #[.pointer none,j5 (csM c il.length ps []).1,j5 (csM c il.length ps []).2.1,j5 (csM c il.length ps []).2.2]/\(csM c il.length ps []).2.2≠0)/\Ent W0 own' own)\/
   ∃y:GP×List PB×Own,(v= .tuple #[jp y.1.gb,j5 0,j5 0,j5 0]/\csM c il.length ps []=(0,0,0)/\
    y.1.ok W0 (y.2.2++q3W y.2.1) (y.2.1.map PB.h) (q19 c il (ps.map PH.p))/\y.1.ev W0 []/\(y.2.1.map PB.h).map PH.p=ps.map PH.p/\y.1.L= [])/\Ent W0 own' (y.1.O c (y.2.1.map PB.h).length (q19 c il (ps.map PH.p))++((y.2.2++q3W y.2.1)++own)):=by
 refine sC [123] [3,5,13,1,8,15,10,11,17,20,21,0,1,10,1,8,11,15,17,20,21,0,15,8,11,17,20,21,0,15,1,8,10,11,17,20,21,0,10,8,11,17,20,21,0,3,5,7,9,13,1,11,16,18,20,21,23,26,0,16,11,18,20,21,23,26,0] ?_;have E:=fun(own':Own) [qr own' own]=>qqq (c:=c) (ia:=ia) (il:=il.length) (ic:=ic) (pc:=pc) (ka:=none) (ks:= []) (kc:=0) (own:=own') hF (RdE.up X) (fun h hh=>RdE.up (hQ h hh)) RdE.nil
 by_cases he:(csM c il.length ps []).2.2=0
 ·obtain⟨h0,hc0,hpl,hiw,aj⟩:=qi0 he;rw[h0] at E ⊢;have aq:=fun(own':Own) [qr own' own]=>qN (cap:=ic) (RdE.up (own:=own') hI) Yu
  repeat'((try conv=>whnf);first|refine qf fun b1 h1=>?_;apply Stop.h)
  refine Stop.mk ?_
  repeat'((try conv=>whnf);first|refine fD ?_|apply qe;refine qd (E _) ?_|refine fO ?_|refine fL ?_|refine fN ?_)
  refine q3S (σ:=Nat×Nat×j9×Nat×Own) 535822340 (fun y=> [(2,jp y.1)])
   (fun y=>(y.1,j8 (.slice y.2.2.1 il.length y.2.2.2.1:: .map (some y.2.1)::cfL c [j7,j7,j7,j7,j5 0]).toArray 115 (0,0))::(y.2.2.2.2++((y.2.1,q3r (mpV []))::((b1,j8 (qdU c (.slice ia il.length ic) (.slice pa ps.length pc) (j7)) 32 (0,0))::own))))
   (fun y=>qo q05 72 1 y.2.2.1 y.2.2.2.1 il y.2.2.2.2) rfl ?_ ?_
  ·repeat'((try conv=>whnf);first|refine qst.mk fun mb hmb=>?_|refine qf fun gb hgb=>?_|(apply qe;first|refine qi (aq _) fun y v hv=>?_;obtain⟨a1,c1,D1⟩:=y;obtain⟨rfl,hB⟩:=hv;dsimp only at hB)|refine fA ?_|refine fQ ?_|refine q1a.mk ?_ ?_)
   all_goals
    refine⟨(gb,mb,a1,c1,D1),hB,(eF),?_⟩
    first|exact qpc|exact qpd
  ·rintro⟨gb,mb,a1,c1,D1⟩ V I;dsimp only at I ⊢
   repeat'((try conv=>whnf);first|refine fA ?_)
   refine qK (σ:=Nat×List PB×(j9×Nat×Own)×(j9×Nat×Own)) (fun y=> [(32,j5 y.1)])
    (fun y=>(gb,j8 (.slice a1 il.length c1:: .map (some mb)::cfL c [.slice y.2.2.1.1 (y.2.1.map PB.h).length y.2.2.1.2.1, .slice y.2.2.2.1 ((ps.take y.1).map fun h=>qdV h.p).length y.2.2.2.2.1,j7,j7,j5 0]).toArray 115 (0,0))::(D1++((mb,q3r (mpV []))::(y.2.2.1.2.2++(q3W y.2.1++(y.2.2.2.2.2++((b1,j8 (qdU c (.slice ia il.length ic) (.slice pa ps.length pc) (j7)) 32 (0,0))::own)))))))
    (fun y=>y.1<=ps.length/\(y.2.1.map PB.h).map PH.p=(ps.take y.1).map PH.p/\qo PH.enc 82 1 y.2.2.1.1 y.2.2.1.2.1 (y.2.1.map PB.h) y.2.2.1.2.2/\(∀x∈y.2.1,x.ok)/\qo Thr.enc 105 11 y.2.2.2.1 y.2.2.2.2.1 ((ps.take y.1).map fun h=>qdV h.p) y.2.2.2.2.2)
    (fun y=>ps.length-y.1) (0,[],(none,0,[]),(none,0,[])) ⟨zv _,rfl,qo.nil,(fun _ h=>(by cases h)),qo.nil⟩ (eF) Ent.refl rfl ?_
   rintro⟨i,ys,⟨ay,az,kD⟩,⟨ta,tc,tD⟩⟩ V ⟨hi,hm,u,G,l⟩;dsimp only at hi hm u G l ⊢;have ax:(ys.map PB.h).length=i:=qiu hm hi;have htl:((ps.take i).map fun h=>qdV h.p).length=i:=by simp;omega
   by_cases F:i<ps.length
   ·obtain⟨x,d⟩:∃x,ps[i]? =some x:=⟨_,z6 F⟩
    have U:=zg d;have S:=hQ x U;have aw:=q5z (aj x U);obtain⟨xa,xc,n⟩:=x;dsimp only at S aw;have af:=fun(own':Own) [qr own' own]=>q3t (cap:=xc) (RdE.up (own:=own') S) Yu
    have Q:∀b:Bool,b=decide (n.length=0)-> [j5 0,j6 0,j6 0,j6 0,j6 0,j6 0,j6 0,j6 0,j6 0,j5 0, .bool b]=(qdV n).enc:=fun b hb=>by rw[hb];rfl
    repeat'((try conv=>whnf);first|refine fF ?_|apply q0z (enc:=PH.enc) (T:=82) ⟨a3,H,n⟩ u;exact rfl;exact rfl;omega;exact rfl;exact rfl;omega;intro a8 c8 D8 M|apply q0z (enc:=Thr.enc) (T:=105) (qdV n) l;refine Q _ ?_;simp;exact rfl;omega;exact rfl;exact rfl;omega;intro a9 c9 D9 N|apply gLd;refine q0l X d rfl ?_|(apply qF;first|refine ixE X d ?_ ?_;(first|rfl|omega))|(apply qe;first|refine qi (af _) fun y v hv=>?_;obtain⟨a3,H,W⟩:=y;obtain⟨rfl,J⟩:=hv;dsimp only at J)|refine fB ?_|refine fA ?_|refine fN ?_|refine qf fun bk ae=>?_|refine q1a.mk ?_ ?_)
    all_goals
     have O:ys.map PB.h++ [⟨a3,H,n⟩]=(ys++ [(⟨⟨a3,H,n⟩,W⟩:PB)]).map PB.h:=Yw;have R:((ps.take i).map fun h=>qdV h.p)++ [qdV n]=(ps.take (i+1)).map fun h=>qdV h.p:=by
      rw[zZ,d];simp
     rw[O] at M;rw[R] at N;refine⟨(i+1,ys++ [⟨⟨a3,H,n⟩,W⟩],(a8,c8,D8),(a9,c9,D9)),⟨F,by rw[<-O];exact qcE hm d rfl,M,fun x d=>?_,N⟩,(by show ps.length-(i+1)<ps.length-i;omega),(eF),?_⟩
     ·rcases zy.1 d with d|d
      ·exact G x d
      ·rw[zf.1 d];exact J
     ·have e1:((ys++ [(⟨⟨a3,H,n⟩,W⟩:PB)]).map PB.h).length=(ys.map PB.h).length+1:=Yw;have e2:((ps.take (i+1)).map fun h=>qdV h.p).length=((ps.take i).map fun h=>qdV h.p).length+1:=by rw[<-R];simp
      dsimp only;rw[e1,e2,q5U];exact qpe
   ·have au:i=ps.length:=Yu;subst au;rw[Z4] at hm l ⊢
    repeat'((try conv=>whnf);first|refine fG ?_|refine mkE (enc:=ObS.enc) ⟨none,0,[],[]⟩ rfl rfl Yu fun a5 c5 D5 C=>?_|refine fA ?_|refine fN ?_)
    have hT:(q19 c il (ps.map PH.p)).T=ps.map fun h=>qdV h.p:=by simp[q19,qdV]
    have hz:q3B (List.replicate (ys.map PB.h).length (⟨none,0,[],[]⟩:ObS))= []:=by simp[q3B]
    replace C:qo ObS.enc 92 1 a5 c5 (List.replicate (ys.map PB.h).length ⟨none,0,[],[]⟩) D5:=C
    refine .inr ⟨(⟨gb,mb,[],a1,c1,D1,ay,az,ta,tc,tD,none,0,[],[],[],a5,c5,D5,List.replicate (ys.map PB.h).length ⟨none,0,[],[]⟩⟩,ys,kD),⟨rfl,rfl,⟨I,?_,RdE.up (u.rd (W0:=W0)),?_,hT ▸ l,qo.nil,rfl,C,?_,?_⟩,⟨(fun _ h=>(by cases h)),[],rfl⟩,hm,rfl⟩,?_⟩
    ·intro k;show false=_;simp only[q19,zh,Zy]
     split <;>rfl
    ·intro h hh;obtain⟨x,d,rfl⟩:=zM.1 hh;exact qmY d ((G x d).rd (W0:=W0))
    ·intro x d;rw[List.eq_of_mem_replicate d];exact qo.nil
    ·have e:ps.length=(ys.map PB.h).length:=ax.symm;simp only[q19,ya,ZU];rw[<-e];exact(List.map_const' ..).symm
    ·dsimp only[GP.O,GP.cells];rw[hT,hz,zO];exact qpf
 ·generalize csM c il.length ps []=z at*;obtain⟨zt,za,ze⟩:=z;dsimp only at he
  repeat'((try conv=>whnf);first|refine fF ?_|apply qe;refine qd (E _) ?_|refine fO ?_|refine fL ?_|refine fN ?_|refine qf fun bk ae=>?_)
  all_goals exact .inl ⟨⟨rfl,he⟩,(eC)⟩
end
open Go
theorem ok0:okU 0:=⟨Yv,Yv⟩
theorem qfB{c:Cfg}{il:je}{P:List (jg)}(z:qG c=0)(d:(il.length:Int)=c.words)(hw:∀x∈il,okU x)(C:∀p∈P,qw p=(0,0))(n:∀p∈P,noA p)(u:c.strong=false):GOk c P (q19 c il P):=by
 refine⟨z,C,n,u,d,hw,by simp[q19],by simp[q19],by simp[q19],fun t th p y F=>?_,zv _,⟨fun _ h=>(by cases h),fun _ _ h=>(by cases h)⟩,fun l d=>?_⟩
 ·simp only[q19,zI,F,Zu,Option.some.injEq] at y;subst y;refine⟨fun k=>?_,zv _,(by show(-1:Int)<0;decide),?_,ok0⟩
  ·by_cases E:k<8
   ·rcases lt8 E with rfl|rfl|rfl|rfl|rfl|rfl|rfl|rfl <;>exact ok0
   ·obtain⟨m,rfl⟩:∃m,k=m+8:=⟨k-8,Yu⟩
    exact ok0
  ·show decide (p.length=0)=decide (0=p.length)
   by_cases h:p.length=0
   ·rw[h]
   ·rw[decide_eq_false h,decide_eq_false Yu]
 ·obtain⟨_,_,rfl⟩:=zM.1 d;exact zv _
def q9h(c:Cfg)(P:List (jg)):List ChM->Nat->GS->GS ⊕ Nat
 | [],_,s=> .inl s
 |ch::l,k,s=>if(doM c P s ch).1=0 then q9h c P l (k+1) (doM c P s ch).2 else .inr k
theorem qlQ{c:Cfg}{P:List (jg)}{s:GS}{ch:ChM}(h:(doM c P s ch).1≠0):doM c P s ch=(70,s):=by
 unfold doM at h ⊢
 split at h
 ·exact absurd rfl h
 ·rfl
theorem qsT{c:Cfg}{P:List (jg)}{s:GS}{ch:ChM}(h:(doM c P s ch).1=0):(doM c P s ch).2.n=s.n+1:=by
 unfold doM at h ⊢;cases d:chM c P s ch with
 |none=>rw[d] at h;exact absurd (show(70:Int)=0 from h) Yv
 |some s'=>rfl
structure CH where
 t:Int
 f:Int
 a:j9
 ad:je
 ac:Nat
abbrev CH.enc(x:CH):jf:= [j5 x.t,j5 x.f, .slice x.a x.ad.length x.ac]
abbrev CH.m(x:CH):ChM:=⟨x.t,x.f,x.ad⟩
abbrev qsp:Value:= .agg #[j7,j7,j7,j7]
theorem qkq{W0:World}{a b d:jd}{A Z:Own}:Ent W0 (a::(b::(d::(A++Z)))) (A++([a,b,d]++Z)):=qu []
theorem qp4{W0:World}{a b d:jd}{A Z:Own}:Ent W0 (A++([a,b,d]++Z)) (b::(d::(A++Z))):=qu [a]
theorem qp5{W0:World}{a b d:jd}{A B Z:Own}:Ent W0 (A++([a,b,d]++(B++Z))) Z:=qu (a::b::d::(A++B))
theorem qp6{W0:World}{b d:jd}{A Z:Own}:Ent W0 (b::(d::(A++Z))) ([b,d]++(A++Z)):=Ent.refl
theorem qp7{W0:World}{b d:jd}{R A B Z:Own}:Ent W0 (b::(d::((R++A)++(B++Z)))) (R++Z):=qu (b::d::(A++B))
theorem qp8{W0:World}{b d:jd}{Z:Own}:Ent W0 (b::(d::Z)) ([b,d]++Z):=Ent.refl
theorem qp9{W0:World}{b d:jd}{A B Z:Own}:Ent W0 (A++(B++([b,d]++Z))) (b::(d::(A++(B++Z)))):=qu []
section
variable{W0:World}{own:Own}{c:Cfg}{ia pa ka:j9}{ic pc kc:Nat}{ps:jk}{il ks:je}{ca:j9}{cc:Nat}{cl:List CH}
theorem qqm(hF:qz W0)(hI:RdE q05 1 W0 own ia il)(hil:il.length<=500000)(hw:∀x∈il,okU x)(hP:RdE PH.enc 1 W0 own pa ps)(hQ:∀h∈ps,RdE Ins.enc 5 W0 own h.a h.p)(aN:∀h∈ps,noA h.p)(aR:c.strong=false)
  (hC:RdE CH.enc 3 W0 own ca cl) (hA:∀x∈cl,RdE qv 1 W0 own x.a x.ad/\x.ad.length<=x.ac/\∀a∈x.ad,a<=9223372036854775807) (hcl:cl.length<=5000):
  jn W0 30 [q9i c ia il.length ic pa ps.length pc ka ks.length kc, .slice ca cl.length cc] own fun v own'=>
   ((∃k e:Int,v= .tuple #[qsp,j5 k,j5 e]/\(((csM c il.length ps []).2.2≠0/\k=0/\e=(csM c il.length ps []).2.2)\/(csM c il.length ps []=(0,0,0)/\e=70/\∃j:Nat,k=j/\q9h c (ps.map PH.p) (cl.map CH.m) 0 (q19 c il (ps.map PH.p))= .inr j)))/\Ent W0 own' own)\/
   ∃y:RG×GS,(v= .tuple #[y.1.v y.2,j5 0,j5 0]/\csM c il.length ps []=(0,0,0)/\q9h c (ps.map PH.p) (cl.map CH.m) 0 (q19 c il (ps.map PH.p))= .inl y.2/\y.1.ok W0 y.2)/\Ent W0 own' (y.1.D++own):=by
 refine sH [] ?_;have aO:=fun b2 U=>qgA (own:= [(U,j8 #[j7,j7,j7,j7] 57 (0,0)),(b2,j8 (qdU c (.slice ia il.length ic) (.slice pa ps.length pc) (.slice ka ks.length kc)) 32 (0,0))]++own) (c:=c) (ic:=ic) (pc:=pc) (ka:=ka) (ks:=ks) (kc:=kc) hF (RdE.up hI) Yu (RdE.up hP) (fun h hh=>RdE.up (hQ h hh))
 repeat'((try conv=>whnf);first|refine qf fun b2 h2=>?_;apply Stop.h)
 refine Stop.mk ?_
 repeat'((try conv=>whnf);first|refine qf fun U h4=>?_;apply Stop.h)
 refine Stop.mk ?_
 repeat'((try conv=>whnf);first|(apply qe;first|refine q2j (aO b2 U) ?_ ?_ ?_ (fun v hv=>?_) fun y v hv=>?_;exact qp8;exact rfl;exact rfl;all_goals(apply Stop.h))|refine fL ?_)
 ·obtain⟨rfl,he⟩:=hv;generalize csM c il.length ps []=z at*;obtain⟨zt,za,ze⟩:=z;dsimp only at he;refine Stop.mk ?_
  repeat'((try conv=>whnf);first|refine fF ?_|refine fO ?_|refine fL ?_|refine fM ?_)
  all_goals exact .inl ⟨⟨0,ze,rfl, .inl ⟨he,rfl,rfl⟩⟩,(eC)⟩
 ·obtain⟨g,ys,kD⟩:=y;obtain⟨rfl,h0,ax,aq,X, -⟩:=hv;dsimp only at ax aq X ⊢;obtain⟨-,aH,aP,aK,aI⟩:=qi0 (by rw[h0]:(csM c il.length ps []).2.2=0);have aF:GOk c (ps.map PH.p) (q19 c il (ps.map PH.p)):=qfB aH aK hw (fun p hp=>by obtain⟨x,H,rfl⟩:=zM.1 hp;exact aI x H) (fun p hp=>by obtain⟨x,H,rfl⟩:=zM.1 hp;exact aN x H) aR;have I:=hC;rw[h0];have aM:(q19 c il (ps.map PH.p)).n=0:=rfl;generalize q19 c il (ps.map PH.p)=s0 at*;generalize aG:ps.map PH.p=P at*;refine Stop.mk ?_
  repeat'((try conv=>whnf);first|refine fD ?_|refine fO ?_)
  refine qK (σ:=Nat×GP×GS) (fun y=> [(27,j5 y.1)])
   (fun y=>(U,j8 #[j7,j7,j7,j7] 57 (0,0))::((b2,j8 (qdU c (.slice ia il.length ic) (.slice pa ps.length pc) (.slice ka ks.length kc)) 32 (0,0))::(y.2.1.O c (ys.map PB.h).length y.2.2++((kD++q3W ys)++own))))
   (fun y=>y.1<=cl.length/\y.2.1.ok W0 (kD++q3W ys) (ys.map PB.h) y.2.2/\y.2.1.ev W0 []/\y.2.1.gb=g.gb/\GOk c P y.2.2/\y.2.2.n=y.1/\q9h c P (cl.map CH.m) 0 s0=q9h c P ((cl.drop y.1).map CH.m) y.1 y.2.2)
   (fun y=>cl.length-y.1) (0,g,s0) ⟨zv _,ax,aq,rfl,aF,aM,rfl⟩ (eF) ?_ rfl ?_
  ·exact qp9
  ·rintro⟨k,g1,s1⟩ junk ⟨hk,F,C,W,n,aw,d⟩;dsimp only at hk F C W n aw d ⊢
   by_cases au:k<cl.length
   ·obtain⟨x,H⟩:∃x,cl[k]? =some x:=⟨_,z6 au⟩
    obtain⟨aA,aB,ae⟩:=hA x (zg H);obtain⟨xt,xf,xa,G,aC⟩:=x;dsimp only at aA aB ae;rw[q1Z H] at d;simp only[zF,q9h] at d;have J:=n;rw[<-X] at J;have u:=fun(E:Own)=>qqr (c:=c) hF F C J Yu xt xf aA aB ae (E++((kD++q3W ys)++own))
    rw[X] at u;have af:=qcY n (ch:=⟨xt,xf,G⟩) ae;rw[W] at u
    by_cases hz:(doM c P s1 ⟨xt,xf,G⟩).1=0
    ·have aj:=qsT hz;rw[if_pos hz] at d;generalize doM c P s1 ⟨xt,xf,G⟩=z at*;obtain⟨zc,s2⟩:=z;dsimp only at hz u af d aj;subst hz
     repeat'((try conv=>whnf);first|refine fF ?_|refine qf fun S aE=>?_;apply Stop.h|(apply qF;first|refine ixE I H ?_ ?_;(first|rfl|omega))|apply q24;refine q0C I H rfl ?_)
     refine Stop.mk ?_
     repeat'((try conv=>whnf);first|refine fD ?_|(apply qe;first|refine ql (u [(S,j8 #[j5 xt,j5 xf, .slice xa G.length aC] 61 (0,0)),(U,j8 #[j7,j7,j7,j7] 57 (0,0)),(b2,j8 (qdU c (.slice ia il.length ic) (.slice pa ps.length pc) (.slice ka ks.length kc)) 32 (0,0))]) ?_ ?_ ?_ fun g2 v V=>?_;exact qkq;exact rfl;exact rfl;obtain⟨rfl,Q,M,N⟩:=V)|refine fB ?_|refine fL ?_|refine fM ?_)
     exact⟨(k+1,g2,s2),⟨au,Q,M,N,af,aj.trans (by rw[aw]),d⟩,(by show cl.length-(k+1)<cl.length-k;omega),(eF),qp4⟩
    ·have aJ:=qlQ hz;rw[if_neg hz] at d;rw[aJ] at u;dsimp only at u
     repeat'((try conv=>whnf);first|refine fF ?_|refine qf fun S aE=>?_;apply Stop.h|(apply qF;first|refine ixE I H ?_ ?_;(first|rfl|omega))|apply q24;refine q0C I H rfl ?_)
     refine Stop.mk ?_
     repeat'((try conv=>whnf);first|refine fE ?_|(apply qe;first|refine ql (u [(S,j8 #[j5 xt,j5 xf, .slice xa G.length aC] 61 (0,0)),(U,j8 #[j7,j7,j7,j7] 57 (0,0)),(b2,j8 (qdU c (.slice ia il.length ic) (.slice pa ps.length pc) (.slice ka ks.length kc)) 32 (0,0))]) ?_ ?_ ?_ fun g2 v V=>?_;exact qkq;exact rfl;exact rfl;obtain⟨rfl,Q,M,N⟩:=V)|refine fL ?_|refine fM ?_)
     exact .inl ⟨⟨k,70,rfl, .inr ⟨rfl,rfl,k,rfl,d⟩⟩,qp5⟩
   ·have aL:k=cl.length:=Yu;subst aL;rw[ZC] at d;have hdl:=n.dl;have htl:=n.tl;have hol:=n.ol;have hel:=n.el;have hPl:P.length<=16:=by rw[<-aG,zi];exact aP.2
    have az:=q7b (c:=c) F C Yu Yu Yu Yu (fun l hl=>by have:=n.ob l hl;omega) (fun e he=>by have:=(n.ev.1 e he).2.2.2;omega);rw[W] at az;have aQ:=qY (E:= [(U,j8 #[j7,j7,j7,j7] 57 (0,0)),(b2,j8 (qdU c (.slice ia il.length ic) (.slice pa ps.length pc) (.slice ka ks.length kc)) 32 (0,0))]) (q:=(kD++q3W ys)++own) (D:=g1.O c (ys.map PB.h).length s1) (O:=fun r:RG=>r.D++g1.O c (ys.map PB.h).length s1) (R:=fun r v=>v=r.v s1/\r.ok W0 s1) (fun q=>by simpa only[zd] using az q)
    repeat'((try conv=>whnf);first|refine fG ?_|(apply qe;first|refine ql aQ ?_ ?_ ?_ fun r v hr=>?_;exact qp6;exact rfl;exact rfl;obtain⟨rfl,ay⟩:=hr)|refine fL ?_|refine fM ?_)
    exact .inr ⟨(r,s1),⟨rfl,rfl,d,ay⟩,qp7⟩
end
open Go
structure SzG(s:GS):Prop where
 d:s.d.length<=500000
 t:s.T.length<=500000
 e:s.E.length<=500000
 o:s.O.length<=500000
 ol:∀l∈s.O,l.length<=500000
 ev:∀e∈s.E,e.r.length<=500000/\e.wl.length<=500000
theorem GOk.sz{c:Cfg}{P:List (jg)}{s:GS}(h:GOk c P s)(hn:s.n<=5000)(hP:P.length<=16):SzG s:=by
 have d:=(q1P h.c0).1;unfold okW at d;have h1:=h.dl;have h2:=h.tl;have h3:=h.ol;have h4:=h.el;exact⟨Yu,Yu,Yu,Yu,fun l n=>by have:=h.ob l n;omega,fun e he=>by have:=(h.ev.1 e he).2.2.2;omega⟩
section
variable{W0:World}{Kp K Y:Own}{g:GP}{c:Cfg}{ps:jk}{P:List (jg)}{s:GS}{gb:Nat}
theorem qnx(l:g.gb=gb)(h:g.ok W0 Kp ps s)(n:g.ev W0 Y)(d:SzG s)(q:Own):
  jn W0 17 [jp gb] (g.O c ps.length s++q) fun v own'=>∃r:RG,(v=r.v s/\r.ok W0 s)/\Ent W0 own' (r.D++(g.O c ps.length s++q)):=by
 subst l;exact q7b (c:=c) h n d.d d.t d.e d.o d.ol d.ev q
theorem ql2(y:qz W0)(n:g.gb=gb)(h:g.ok W0 Kp ps s)(F:g.ev W0 Y)(z:GOk c P s)(C:ps.map PH.p=P)(E:s.n<=5000)(t f:Int){aa:j9}{ad:je}{ac:Nat}(u:RdE qv 1 W0 K aa ad)(l:ad.length<=ac)(d:∀a∈ad,a<=9223372036854775807)(q:Own) [ek:qr q Kp]:
  jn W0 23 [jp gb,chV t f aa ad.length ac] (g.O c ps.length s++q) fun v own'=>∃g':GP,
   (v= j5 (doM c P s ⟨t,f,ad⟩).1/\g'.ok W0 Kp ps (doM c P s ⟨t,f,ad⟩).2/\g'.ev W0 Y/\g'.gb=gb)/\Ent W0 own' (g'.O c ps.length (doM c P s ⟨t,f,ad⟩).2++q):=by
 subst n;subst C;exact qqr (c:=c) y h F z E t f u l d q
end
section
variable{c:Cfg}{P:List (jg)}{s:GS}{t:Nat}{th:Thr}{p:jg}{x:Ins}
theorem qcW(d:s.T[t]? =some th)(l:P[t]? =some p)(hd:th.dn=false)(n:p[th.pc]? =some x)(f:Int):chM c P s ⟨t,f,[]⟩=if x.op=7 then txM c p s th t f [] else sgM c p s th t f x:=by
 unfold chM;rw[if_neg (by show ¬((t:Nat):Int)<0;omega)];simp only[zD,d,l,hd,zL,if_false,n,if_true]
theorem qjY(l:s.T[t]? =some th)(u:P[t]? =some p)(hd:th.dn=false)(C:p[th.pc]? =some x)(n:x.op≠7):(doM c P s ⟨t,0,[]⟩).1=0:=by
 have:∃s',sgM c p s th t 0 x=some s':=by
  unfold sgM;generalize adr th.rg (if x.op=12 then x.b else x.a) x.imm=z
  by_cases d:x.op=12\/x.op=13
  ·rw[if_pos d];dsimp only;rw[if_neg Yw]
   split
   ·exact⟨_,rfl⟩
   ·by_cases h:x.op=12
    ·rw[if_pos h];exact⟨_,rfl⟩
    ·rw[if_neg h];exact⟨_,rfl⟩
  ·rw[if_neg d,if_neg Yw];exact⟨_,rfl⟩
 obtain⟨s',y⟩:=this;unfold doM;rw[qcW l u hd C,if_neg n,y]
end
open Go
structure Sw(s s1:GS)(x:Nat)(h:Thr):Prop where
 d:s1.d=s.d
 k:s1.tk=s.tk
 T:s1.T=s.T.set x h
 O:s1.O=s.O
 E:s1.E.length=s.E.length
section
variable{c:Cfg}{P:List (jg)}{s s1:GS}{x t:Nat}{h th:Thr}{p:jg}{i:Ins}{f:Int}{ad:je}
theorem qpU(l:s.T[x]? =some th)(y:P[x]? =some p)(hd:th.dn=false)(z:p[th.pc]? =some i)(d:i.op≠7/\i.op≠12/\i.op≠13/\i.op≠16):
  (doM c P s ⟨x,0,[]⟩).1=0/\Sw s (doM c P s ⟨x,0,[]⟩).2 x {q1h th i with dn:=decide ((q1h th i).pc=p.length)}:=by
 have e:chM c P s ⟨x,0,[]⟩=some (s.fin x {q1h th i with dn:=decide ((q1h th i).pc=p.length)} []):=by
  rw[qcW l y hd z,if_neg d.1];unfold sgM;generalize adr th.rg (if i.op=12 then i.b else i.a) i.imm=a;rw[if_neg Yu,if_neg Yw,if_neg d.2.2.2]
 unfold doM;rw[e];refine⟨rfl,rfl,rfl,rfl,?_,rfl⟩;show s.O.set x (s.O.getD x []++ [])=s.O;rw[zz]
 by_cases u:x<s.O.length
 ·apply Zm ;intro j
  by_cases n:x=j
  ·subst n;rw[Z0 u,zh,z6 u];rfl
  ·rw[Zz n]
 ·exact List.set_eq_of_length_le Yu
theorem qak{s':GS}{l:List ObM}{y:Nat}(h:some (s.fin t th l)=some s')(d:y≠t):s'.T[y]? =s.T[y]? :=by
 obtain rfl:=Option.some.inj h;show(s.T.set t th)[y]? =_;rw[Zz (fun e=>d e.symm)]
theorem qku{s':GS}{l:List ObM}{y:Nat}{d:je}{tk:List Bool}{E:jl}(h:some (((s.mem d tk).ev E).fin t th l)=some s')(n:y≠t):s'.T[y]? =s.T[y]? :=(qak h n:s'.T[y]? =((s.mem d tk).ev E).T[y]?)
theorem qt5{s':GS}{y:Nat}(h:sgM c p s th t f i=some s')(d:y≠t):s'.T[y]? =s.T[y]? :=by
 unfold sgM at h;generalize adr th.rg (if i.op=12 then i.b else i.a) i.imm=a at h;dsimp only at h
 split at h
 ·split at h
  ·split at h
   ·exact qak h d
   ·cases h
  ·split at h
   ·exact qak h d
   ·split at h
    ·exact(qak (s:=s.ev _) h d)
    ·exact(qku h d)
 ·split at h
  ·cases h
  ·exact qak h d
theorem qt9{s':GS}{y:Nat}(h:txM c p s th t f ad=some s')(d:y≠t):s'.T[y]? =s.T[y]? :=by
 unfold txM at h
 split at h
 ·split at h
  ·exact qak h d
  ·cases h
 ·generalize q2c c p p.length _=r at h;obtain⟨b,o⟩:=r;dsimp only at h
  split at h
  ·cases h
  ·split at h
   ·exact(qku h d)
   ·exact(qak (s:=s.ev _) h d)
theorem qre{y:Nat}(l:y≠t):(doM c P s ⟨t,f,ad⟩).2.T[y]? =s.T[y]? :=by
 unfold doM;cases d:chM c P s ⟨t,f,ad⟩ with
 |none=>rfl
 |some s'=>
  show s'.T[y]? =_;unfold chM at d;dsimp only at d;rw[if_neg Yu,zD] at d
  split at d
  ·split at d
   ·cases d
   ·split at d
    ·split at d
     ·exact qt9 d l
     ·split at d
      ·exact qt5 d l
      ·cases d
    ·cases d
  ·cases d
end
open Go
structure SS where
 runs:Nat
 racy:Bool
 many:Bool
 found:List ChM
def SS.stop(x:SS):Bool:=x.racy||x.many
def ss0:SS:=⟨0,false,false,[]⟩
def nxM(P:List (jg))(s:GS)(t:Nat):Option Ins:=
 match s.T[t]?,P[t]? with
 |some th,some p=>if th.dn then none else p[th.pc]?
 |_,_=>none
def q2J(P:List (jg))(s:GS)(t:Nat):Bool:=match nxM P s t with
 |some i=>isL i
 |none=>false
def dnB(s:GS)(t:Nat):Bool:=match s.T[t]? with
 |some th=>th.dn
 |none=>true
def q2E(s:GS):Bool:=s.T.all (·.dn)
abbrev ch0(t:Nat):ChM:=⟨t,0,[]⟩
def q0X(c:Cfg)(P:List (jg))(t:Nat):Nat->GS->List ChM->GS×List ChM
 |0,s,l=>(s,l)
 |n+1,s,l=>if q2J P s t then q0X c P t n (doM c P s (ch0 t)).2 (l++ [ch0 t]) else(s,l)
def q2B(fo:je):Option Ins->je
 |some i=>if i.op=7 then 0::fo else [0]
 |none=> [0]
def qeU(rc:jl->Bool)(lim:Int)(s:GS)(l:List ChM)(x:SS):SS:=
 if(x.runs:Int)=lim then{x with many:=true} else if rc s.E then⟨x.runs+1,true,x.many,l⟩ else{x with runs:=x.runs+1}
def q55(rc:jl->Bool)(c:Cfg)(P:List (jg))(fo:je)(lim:Int):Nat->GS->List ChM->SS->SS
 |0,_,_,x=>x
 |n+1,s,l,x=>if q2E s then qeU rc lim s l x else
  (List.range s.T.length).foldl (fun x t=>if x.stop then x else if dnB s t then x else
   if dnB (q0X c P t 64 s l).1 t then q55 rc c P fo lim n (q0X c P t 64 s l).1 (q0X c P t 64 s l).2 x
   else(q2B fo (nxM P (q0X c P t 64 s l).1 t)).foldl (fun x k=>if x.stop then x else
    q55 rc c P fo lim n (doM c P (q0X c P t 64 s l).1 ⟨t,k,[]⟩).2 ((q0X c P t 64 s l).2++ [⟨t,k,[]⟩]) x) x) x
def q99(P:List (jg)):Prop:=∀p∈P,∀x∈p,x.op≠14/\x.op≠15
section
variable{c:Cfg}{P:List (jg)}{s s':GS}{t:Nat}{th:Thr}{p:jg}{i:Ins}{f:Int}
theorem q4v(h:nxM P s t=some i):∃th p,s.T[t]? =some th/\P[t]? =some p/\th.dn=false/\p[th.pc]? =some i:=by
 unfold nxM at h
 split at h
 ·rename_i th p d l
  split at h
  ·cases h
  ·rename_i hd;exact⟨th,p,d,l,by simpa using hd,h⟩
 ·cases h
theorem qpZ(d:s.T[t]? =some th)(l:P[t]? =some p)(hd:th.dn=false)(n:p[th.pc]? =some i):nxM P s t=some i:=by
 unfold nxM;rw[d,l];simp[hd,n]
theorem q21(l:GOk c P s):nxM P s t=none↔dnB s t=true:=by
 unfold nxM dnB;cases n:s.T[t]? with
 |none=>simp
 |some th=>
  have hl:=(z7.1 n).1;have htl:=l.tl;obtain⟨p,u⟩:∃p,P[t]? =some p:=⟨_,z6 Yu⟩
  obtain⟨-,hpc, -,d, -⟩:=l.th t th p n u;rw[u];dsimp only;cases hd:th.dn with
  |true=>simp
  |false=>
   rw[hd] at d;have:¬th.pc=p.length:=of_decide_eq_false d.symm;rw[if_neg Yw,z6 Yu];simp
theorem q79{l:List ObM}{th':Thr}(h:some (s.fin t th' l)=some s')(d:th.pc<th'.pc):∃th',s'.T=s.T.set t th'/\th.pc<th'.pc:=by
 obtain rfl:=Option.some.inj h;exact⟨th',rfl,d⟩
theorem qeV{l:List ObM}{th':Thr}{d:je}{tk:List Bool}{E:jl}(h:some (((s.mem d tk).ev E).fin t th' l)=some s')(n:th.pc<th'.pc):∃th',s'.T=s.T.set t th'/\th.pc<th'.pc:=by
 obtain rfl:=Option.some.inj h;exact⟨th',rfl,n⟩
theorem qsb(h:sgM c p s th t f i=some s'):∃th',s'.T=s.T.set t th'/\th.pc<th'.pc:=by
 unfold sgM at h;generalize adr th.rg (if i.op=12 then i.b else i.a) i.imm=a at h;dsimp only at h;have d:∀r,th.pc<(th.nxt p.length r).pc:=fun _=>Z3 _
 split at h
 ·split at h
  ·split at h
   ·exact q79 h (d _)
   ·cases h
  ·split at h
   ·exact q79 h (d _)
   ·split at h
    ·exact q79 (s:=s.ev _) h (d _)
    ·exact qeV h (d _)
 ·split at h
  ·cases h
  ·exact q79 h (yq (Z3 _) (qfq (t:=th) (x:=i)))
theorem qso{ad:je}(he:th.pc<=q0v p th.pc)(h:txM c p s th t f ad=some s'):∃th',s'.T=s.T.set t th'/\th.pc<th'.pc:=by
 unfold txM at h;have d:th.pc<q0v p th.pc+1:=Yu
 split at h
 ·split at h
  ·exact q79 h d
  ·cases h
 ·generalize q2c c p p.length _=r at h;obtain⟨b,o⟩:=r;dsimp only at h
  split at h
  ·cases h
  ·split at h
   ·exact qeV h d
   ·exact q79 (s:=s.ev _) h d
end
open Go
theorem qqT{c:Cfg}{b:BM}{x:Ins}(h:x.op≠14):(q0M c b x).2≠ -1/\(q0M c b x).1.ad=b.ad:=by
 unfold q0M
 split
 ·split
  ·exact⟨Yw,rfl⟩
  ·exact⟨Yw,rfl⟩
 ·split
  ·split
   ·exact⟨Yw,rfl⟩
   ·exact⟨Yw,rfl⟩
  ·split
   ·split
    ·exact⟨Yw,rfl⟩
    ·exact⟨Yw,rfl⟩
   ·split
    ·exact⟨Yw,rfl⟩
    ·split
     ·exact⟨Yw,rfl⟩
     ·exact⟨Yw,rfl⟩
theorem ql0{p:jg}(h:qw p=(0,0))(d:noA p){k:Nat}{H:Ins}(l:p[k]? =some H)(y:H.op=7){c:Cfg}:∀(n:Nat) (b:BM),k<b.t.pc->b.t.pc<=q0v p k->q0v p k-b.t.pc<n->(q2c c p n b).2≠ -1/\(q2c c p n b).1.ad=b.ad
 |0,_,_,_,G=>absurd G Yu
 |n+1,b,C,E,G=>by
  obtain⟨x,z,hi, -⟩:=qoh h l y C E;obtain⟨I,F⟩:=qqT (c:=c) (b:=b) (d x (zg z)).1;unfold q2c;rw[z];simp only
  by_cases u:(q0M c b x).2=0
  ·rw[if_pos u];obtain⟨h5,J⟩:=qaZ h l y C E z d (c:=c) (b:=b) rfl u;obtain⟨M,N⟩:=ql0 h d l y n _ Yu J Yu;exact⟨M,N.trans F⟩
  ·rw[if_neg u];exact⟨I,F⟩
section
variable{c:Cfg}{P:List (jg)}{s s':GS}{t:Nat}{th:Thr}{p:jg}{i:Ins}{k:Int}
theorem qkh(Q:GOk c P s)(M:q99 P)(R:nxM P s t=some i)(I:k=0\/(i.op=7/\3<=k/\k<=6)):
  ∃s',doM c P s ⟨t,k,[]⟩=(0,s')/\s'.n=s.n+1/\∃th th' p,s.T[t]? =some th/\P[t]? =some p/\th.pc<p.length/\s'.T=s.T.set t th'/\th.pc<th'.pc:=by
 obtain⟨th,p,u,F,hd,G⟩:=q4v R;have N:=(z7.1 G).1;have C:=Q.pv p (zg F);have E:∀s1,chM c P s ⟨t,k,[]⟩=some s1->(∃th',s1.T=s.T.set t th'/\th.pc<th'.pc)->∃s',doM c P s ⟨t,k,[]⟩=(0,s')/\s'.n=s.n+1/\∃th th' p,s.T[t]? =some th/\P[t]? =some p/\th.pc<p.length/\s'.T=s.T.set t th'/\th.pc<th'.pc:=fun s1 d ⟨th',y,O⟩=>by
  refine⟨{s1 with n:=s.n+1},?_,rfl,th,th',p,u,F,N,y,O⟩;unfold doM;rw[d]
 have he:=qcW (c:=c) u F hd G k
 by_cases z:i.op=7
 ·rw[if_pos z] at he;obtain⟨e,he1,he2,he3, -⟩:=q0g C G z;have l:∃s1,txM c p s th t k []=some s1:=by
   unfold txM
   rcases I with rfl|⟨-,I⟩
   ·rw[if_neg Yw];obtain⟨d,y⟩:=ql0 C (M p (zg F)) G z (c:=c) p.length ⟨s.d,s.tk,{th with pc:=th.pc+1},[],[],[],[]⟩ (Z3 _) (by show th.pc+1<=_;omega) (by show q0v p th.pc-(th.pc+1)<p.length;omega);generalize q2c c p p.length _=r at d y;obtain⟨b,o⟩:=r;dsimp only at d y ⊢;rw[if_neg (by rw[y];simp;exact d)]
    split
    ·exact⟨_,rfl⟩
    ·exact⟨_,rfl⟩
   ·rw[if_pos Yu,if_pos ⟨I,rfl⟩];exact⟨_,rfl⟩
  obtain⟨s1,d⟩:=l;exact E s1 (he.trans d) (qso Yu d)
 ·have J:k=0:=Yu;subst J;have H:=qjY (c:=c) u F hd G z;rw[if_neg z] at he;cases d:sgM c p s th t 0 i with
  |none=>
   unfold doM at H;rw[he,d] at H;cases H
  |some s1=>exact E s1 (he.trans d) (qsb d)
end
def q4V(P:List (jg))(s:GS)(t:Nat):Nat:=match s.T[t]?,P[t]? with
 |some th,some p=>p.length-th.pc
 |_,_=>0
def qP(P:List (jg))(s:GS):Nat:=((List.range P.length).map (q4V P s)).sum
theorem qhf{f g:Nat->Nat}:∀l:jj,(∀x∈l,f x<=g x)->(l.map f).sum<=(l.map g).sum
 | [],_=>zq _
 |y::l,h=>by
  have h1:=h y zj;have h2:=qhf l fun x d=>h x (zl _ d)
  simp only[zF,List.sum_cons];omega
theorem ql6{f g:Nat->Nat}{z:Nat}(u:f z<g z):∀l:jj,(∀x∈l,f x<=g x)->z∈l->(l.map f).sum<(l.map g).sum
 | [],_,h=>by cases h
 |y::l,h,hm=>by
  have h1:=h y zj;have d:∀x∈l,f x<=g x:=fun x n=>h x (zl _ n)
  simp only[zF,List.sum_cons]
  rcases zN.1 hm with rfl|hm
  ·have:=qhf l d;omega
  ·have:=ql6 u l d hm;omega
section
variable{c:Cfg}{P:List (jg)}{s s':GS}{t:Nat}{th:Thr}{p:jg}{i:Ins}{k:Int}
theorem qn7{th':Thr}(d:s.T[t]? =some th)(y:P[t]? =some p)(h:s'.T=s.T.set t th')(hpc:th.pc<p.length)(hlt:th.pc<th'.pc):q4V P s' t<q4V P s t/\∀u,q4V P s' u<=q4V P s u:=by
 have n:=(z7.1 d).1;have l:q4V P s' t<q4V P s t:=by
  unfold q4V;rw[h,Z0 n,d,y];dsimp only;omega
 refine⟨l,fun u=>?_⟩
 by_cases hu:u=t
 ·subst hu;omega
 ·unfold q4V;rw[h,Zz (fun e=>hu e.symm)];exact zq _
theorem q1H(C:GOk c P s)(n:q99 P)(I:nxM P s t=some i)(J:k=0\/(i.op=7/\3<=k/\k<=6)):
  (doM c P s ⟨t,k,[]⟩).1=0/\GOk c P (doM c P s ⟨t,k,[]⟩).2/\(doM c P s ⟨t,k,[]⟩).2.n=s.n+1/\q4V P (doM c P s ⟨t,k,[]⟩).2 t<q4V P s t/\(doM c P s ⟨t,k,[]⟩).2.n+qP P (doM c P s ⟨t,k,[]⟩).2<=s.n+qP P s/\qP P (doM c P s ⟨t,k,[]⟩).2<qP P s:=by
 have d:=qcY C (ch:=⟨t,k,[]⟩) (fun _ h=>(by cases h));obtain⟨s',N,M,th,th',p,y,E,u,H,l⟩:=qkh C n I J;rw[N] at d ⊢;obtain⟨z,F⟩:=qn7 y E H u l;have G:qP P s'<qP P s:=ql6 z _ (fun x _=>F x) (Z9.2 (z7.1 E).1);exact⟨rfl,d,M,z,by dsimp only;omega,G⟩
theorem q4T(h:q2J P s t=true):∃i,nxM P s t=some i/\isL i=true:=by
 unfold q2J at h
 split at h
 ·rename_i i d;exact⟨i,d,h⟩
 ·cases h
theorem q5t(d:q99 P):∀(n:Nat) (s:GS) (l:List ChM),GOk c P s->GOk c P (q0X c P t n s l).1/\(q0X c P t n s l).1.n+qP P (q0X c P t n s l).1<=s.n+qP P s/\q4V P (q0X c P t n s l).1 t<=q4V P s t/\
  (q0X c P t n s l=(s,l)\/qP P (q0X c P t n s l).1<qP P s)/\(q4V P s t<=n->q2J P (q0X c P t n s l).1 t=false)
 |0,s,l,u=>by
  refine⟨u,zq _,zq _, .inl rfl,fun h=>?_⟩;show q2J P s t=false;cases hb:q2J P s t with
  |false=>rfl
  |true=>
   obtain⟨i,y, -⟩:=q4T hb;have:=(q1H u d y (.inl rfl)).2.2.2.1;omega
 |n+1,s,l,u=>by
  unfold q0X;cases hb:q2J P s t with
  |false=>exact⟨u,zq _,zq _, .inl rfl,fun _=>hb⟩
  |true=>
   rw[if_pos rfl];obtain⟨i,y, -⟩:=q4T hb;obtain⟨-,z,h2,h3,h4,C⟩:(doM c P s (ch0 t)).1=0/\GOk c P (doM c P s (ch0 t)).2/\(doM c P s (ch0 t)).2.n=s.n+1/\q4V P (doM c P s (ch0 t)).2 t<q4V P s t/\(doM c P s (ch0 t)).2.n+qP P (doM c P s (ch0 t)).2<=s.n+qP P s/\qP P (doM c P s (ch0 t)).2<qP P s:=q1H u d y (.inl rfl);obtain⟨g1,g2,g3,g4,g5⟩:=q5t d n _ (l++ [ch0 t]) z;refine⟨g1,Yu,Yu, .inr ?_,fun h=>g5 Yu⟩
   rcases g4 with g4|g4
   ·rw[g4];exact C
   ·omega
theorem q9c(l:GOk c P s):q4V P s t<=64:=by
 unfold q4V
 split
 ·rename_i th p h1 d;have:=q5z (l.pv p (zg d));omega
 ·omega
theorem qfx(u:GOk c P s)(hP:P.length<=16):qP P s<=1024:=by
 have h1:=qhf (f:=q4V P s) (g:=fun _=>64) (List.range P.length) fun x _=>q9c u
 have d:∀l:jj,(l.map fun _=>64).sum=l.length*64:=fun l=>by
  induction l with
  |nil=>rfl
  |cons y l z=>simp only[zF,List.sum_cons,z,zm];omega
 have n:=d (List.range P.length);rw[List.length_range] at n;unfold qP;omega
theorem qew{fo:je}(l:∀k∈fo,3<=k/\k<=6){o:Option Ins}(d:k∈q2B fo o):k=0\/∃i,o=some i/\i.op=7/\3<=k/\k<=6:=by
 unfold q2B at d
 split at d
 ·rename_i i
  split at d
  ·rename_i n
   rcases zN.1 d with h|h
   ·exact .inl h
   ·exact .inr ⟨i,rfl,n,l k h⟩
  ·exact .inl (zf.1 d)
 ·exact .inl (zf.1 d)
theorem qi3(d:GOk c P s)(h:dnB s t=false):∃i,nxM P s t=some i:=by
 cases l:nxM P s t with
 |none=>rw[(q21 d).1 l] at h;cases h
 |some i=>exact⟨i,rfl⟩
end
end Go.Proofs.YtikpjajangpdjaaGreatDoor
